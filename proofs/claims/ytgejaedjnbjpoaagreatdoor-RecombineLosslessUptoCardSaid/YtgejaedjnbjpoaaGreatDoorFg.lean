/- Walks of the program's functions. -/
import Derived.Test.YtgejaedjnbjpoaaGreatDoorFf
import Derived.Test.YtgejaedjnbjpoaaGreatDoorFc
import Derived.Test.YtgejaedjnbjpoaaGreatDoorFs
import Derived.Test.YtgejaedjnbjpoaaGreatDoorFe
namespace Go.Proofs.YtgejaedjnbjpoaaGreatDoor
open Go Go.AL
set_option maxRecDepth 100000
theorem G83 {rows:List Row} (h:I8 rows) (i:Nat):I8 (rows.take i):=fun r hr=>h r (List.mem_of_mem_take hr)
theorem H37 {n:Nat} {rows:List Row} {sp:List Span} {hs:List CHunk} (hn:n≤32) (hr:I8 rows) (hW:(rows.map M9).sum≤8388608) (h:w7 n rows 0 [] sp=some hs):szC hs≤268435456∧∀x∈hs,I8 x.Rows:=by
 have h1:=F73 M9 2081 n rows sp 0 [] hs (Int.le_refl _) h (by simp) (by simp)
 have h2:=E33 hr sp 0 [] hs h (fun x hx=>by cases hx)
 have hl:=T4 rows
 refine ⟨?_,fun x hx=>(h2 x hx).2⟩
 have h3:szC hs=(hs.map fun h=>(2048+h.At.length)+(h.Rows.map M9).sum).sum:=rfl
 have h4:szC hs≤(hs.map fun h=>2081+(h.Rows.map M9).sum).sum:=by
  rw [h3]
  clear h h1 h3
  induction hs with
  | nil=>simp
  | cons x r ih =>
   have h5:=(h2 x (by simp)).1
   have h6:=ih fun y hy=>h2 y (by simp [hy])
   rw [J08,J28,J08,J28]
   omega
 have h5:=h1.2
 simp only [J05] at h5
 have h6:=h1.1
 omega
theorem D11 {t:Table} (h:R7 t=0):1≤t.Parents∧t.Parents≤32:=by
 unfold R7 at h
 split at h
 ·cases h
 ·omega
theorem G13 (rows:List Row) (n p:Nat):(List.range (p+1)).map (N1 rows n)=(List.range p).map (N1 rows n)++[N1 rows n p]:=by rw [J43,J17];rfl
set_option maxHeartbeats 1000000
theorem rcut_ok (path:Str) (t:Table) (sp:List Span) (d:Bool) (hr:I8 t.Rows) (hW:(t.Rows.map M9).sum≤8388608) (hx:N9 t.Rows≤8388608) (hsp:sp.length≤536870912) :
  FnOk Tryz.prog 53 [F3 path,pTable t,pSpans sp,E0 d] (fun rs=>rs=[K9 (A52 path t sp d).1,E6 (A52 path t sp d).2]):=by
 have hl:=T4 t.Rows
 have hll:t.Rows.length≤8388608:=by omega
 refine FnOk.intro Tryz.func53 (by decide) Z Z Z Z ?_
 refine k2 ?_
 refine A3 (C3 (P5 5 Z Z Z) Z (C3 (H1 8 Z) Z (A2 (A5 Z Z) Z (A6 ?_))))
 refine k1 (k2 (k2 ?_))
 refine A3 (A2 (A4 Z Z) Z (B9 (D88 path) Z Z Z ?_));rintro _ rfl;refine A2 (F0 Z) Z (A6 ?_)
 refine k1 ?_
 refine B1 rfl (fun ht=>?_) (fun ht=>?_)
 ·have h:T0 path=false:=by simpa using ht
  refine k2 ?_
  refine A3 (A2 (F8 Z) Z (E9 (C0 TySz.out Z Z Z Z Z Z) (A2 (A5 Z Z) Z (A6 ?_))))
  refine k1 ?_
  refine F5 (I73 CHunk 2 K4 8 3 Z Z) ?_
  refine k10 (k11 ?_)
  exact B5 (rs:=[K9 comb0,E6 120]) (R6 rfl rfl rfl rfl rfl rfl rfl) (by unfold A52;rw [if_pos h])
 have h:T0 path=true:=by simpa using ht
 refine k5 (k1 (k2 (k2 ?_)))
 refine A3 (A2 (D4 Z Z Z) Z (B9 (D83 t hr (by omega) (by omega)) Z Z Z ?_));rintro _ rfl;refine A2 (A5 Z Z) Z (A6 ?_)
 refine k1 (k2 ?_)
 refine A3 (A2 (A4 Z Z) Z (A2 (M5 Z Z) Z (A6 ?_)))
 refine k1 ?_
 refine B1 rfl (fun ht=>?_) (fun ht=>?_)
 ·have h1:=A0 ht
  refine k2 ?_
  refine A3 (A2 (F8 Z) Z (A2 (A4 Z Z) Z (E9 (C0 TySz.out Z Z Z Z Z Z) (A2 (A5 Z Z) Z (A6 ?_)))))
  refine k1 ?_
  refine F5 (I73 CHunk 2 K4 8 3 Z Z) ?_
  refine k10 (k11 ?_)
  exact B5 (rs:=[K9 comb0,E6 (R7 t)]) (R6 rfl rfl rfl rfl rfl rfl rfl) (by unfold A52;rw [if_neg (by rw [h];decide),if_pos h1])
 have h1:=A1 ht
 have h10:R7 t=0:=by omega
 obtain ⟨hn1,hn2⟩:=D11 h10
 obtain ⟨n,hn⟩:∃n:Nat,t.Parents=n:=⟨t.Parents.toNat,by omega⟩
 obtain ⟨tp,rows⟩:=t
 have hn:tp=(n:Int):=hn
 subst hn
 dsimp only at hr hW hx hl hll hn1 hn2
 have hcut:A52 path ⟨n,rows⟩ sp d=match w7 n rows 0 [] sp with
  | none=>(comb0,3)
  | some hs=>if G5 ⟨path,d,(n:Int),hs⟩≠0 then (comb0,G5 ⟨path,d,(n:Int),hs⟩) else (⟨path,d,(n:Int),hs⟩,0):=by
  unfold A52;rw [if_neg (by rw [h];decide),if_neg (by omega)];rfl
 rw [hcut]
 have hno:w7 n rows 0 [] sp=none→[K9 comb0,E6 3]=[K9 (match w7 n rows 0 [] sp with
  | none=>(comb0,3)
  | some hs=>if G5 ⟨path,d,(n:Int),hs⟩≠0 then (comb0,G5 ⟨path,d,(n:Int),hs⟩) else (⟨path,d,(n:Int),hs⟩,0)).1,E6 (match w7 n rows 0 [] sp with
  | none=>(comb0,3)
  | some hs=>if G5 ⟨path,d,(n:Int),hs⟩≠0 then (comb0,G5 ⟨path,d,(n:Int),hs⟩) else (⟨path,d,(n:Int),hs⟩,0)).2]:=fun e=>by rw [e]
 obtain ⟨W,hWd⟩:∃W,W=w7 n rows 0 [] sp:=⟨_,rfl⟩
 have hcs:∀hs,W=some hs→szC hs≤268435456∧∀x∈hs,I8 x.Rows:=fun hs e=>H37 (n:=n) (by omega) hr hW (by rw [←hWd];exact e)
 rw [←hWd] at hno ⊢
 refine k5 (k1 (k2 ?_))
 refine A3 (A2 (A4 Z Z) Z (A2 (A4 Z Z) Z (A2 (A7 Z) Z (A2 (B0 Z Z Z) Z (A2 (F8 Z) Z (C3 (H1 11 Z) Z (E9 (C0 TySz.out Z Z Z Z Z Z) (A6 ?_))))))))
 refine F5 (I83 754 CHunk 2 K4 82 (kb:=11) (o:=3) Z Z Z) ?_
 refine k2 ?_
 refine A3 (A2 (A5 Z Z) Z (A6 ?_))
 refine k1 (k2 (k2 ?_))
 refine A3 (A2 (A5 Z Z) Z (A6 ?_))
 refine k1 (k3 ?_)
 refine D3 (X:=Nat × Int × List CHunk) (fun x=>([(2,D1 Span 2 spanC sp),(5,.s (.one (.ref 5 0))),(8,.s (.one (.ref 8 0))),(11,.s (.one (.ref 11 0))),(12,C2 x.2.1),(13,C2 x.1)],[(5,.box (pTable ⟨n,rows⟩).s1.cells),(8,.box [.p (.v (.string ⟨#[]⟩)),.p (.v (.bool false)),.p (.v (.int .i64 0)),.p (.v (.slice none 0 0))]),(11,.box [.p (.v (.string ⟨path.toArray⟩)),.p (.v (.bool d)),.p (.v (.int .i64 n)),.buf 754 CHunk 2 K4 x.2.2]),(754,.spare x.2.2.length 2 82)])) (fun x=>x.1≤sp.length∧0≤x.2.1∧x.2.2.length≤x.1∧W=w7 n rows x.2.1 x.2.2 (sp.drop x.1)) (fun x=>sp.length - x.1) (0,0,[]) ⟨Nat.zero_le _,Int.le_refl _,Nat.le_refl _,hWd⟩ (I72 ⟨le1 rfl,le1 rfl,le1 rfl,le1 rfl,le1 rfl,le1 rfl,trivial⟩ ⟨rfl,rfl,rfl,rfl,trivial⟩) ?_
 rintro ⟨k,e,hs⟩ ⟨hk,he,hsl,hp⟩
 dsimp only at hk he hsl hp ⊢
 refine k2 (k2 ?_)
 refine A3 (A2 (A4 Z Z) Z (A2 (A4 Z Z) Z (A2 (F1 Z (.pure _ _ _ _)) Z (A2 (D6 Z Z) Z (A6 ?_)))))
 refine k1 ?_
 refine B1 rfl (fun ht=>?_) (fun ht=>?_)
 rotate_left
 ·have hkl:k=sp.length:=by have:=A1 ht;omega
  rw [hkl,J11 (Nat.le_refl _)] at hp
  have hp:W=some hs:=hp
  obtain ⟨z1,z2⟩:=hcs hs hp
  rw [hp]
  dsimp only
  refine k6 (k2 (k2 ?_))
  refine A3 (A2 (D4 Z Z Z) Z (B9 (G09 ⟨path,d,n,hs⟩ z1 z2) Z Z Z ?_));rintro _ rfl;refine A2 (A5 Z Z) Z (A6 ?_)
  refine k1 (k2 ?_)
  refine A3 (A2 (A4 Z Z) Z (A2 (M5 Z Z) Z (A6 ?_)))
  refine k1 ?_
  refine B1 rfl (fun ht=>?_) (fun ht=>?_)
  ·have h2:=A0 ht
   refine k2 ?_
   refine A3 (A2 (F8 Z) Z (A2 (A4 Z Z) Z (E9 (C0 TySz.out Z Z Z Z Z Z) (A2 (A5 Z Z) Z (A6 ?_)))))
   refine k1 ?_
   refine F5 (I73 CHunk 2 K4 8 3 Z Z) ?_
   refine k10 (k11 ?_)
   exact B5 (rs:=[K9 comb0,E6 (G5 ⟨path,d,n,hs⟩)]) (R6 rfl rfl rfl rfl rfl rfl rfl) (by rw [if_pos h2])
  ·have h2:=A1 ht
   refine k5 (k1 (k2 ?_))
   refine A3 (A2 (D4 Z Z Z) Z (E9 (C0 TySz.out Z Z Z Z Z Z) (A2 (A5 Z Z) Z (A6 ?_))))
   refine k1 (k10 ?_)
   exact B5 (rs:=[K9 ⟨path,d,n,hs⟩,E6 0]) (R6 rfl rfl rfl rfl rfl rfl rfl) (by rw [if_neg h2])
 have hlt:k < sp.length:=by have:=A0 ht;omega
 have hv:sp[k]?=some sp[k]:=by simp [hlt]
 rw [J07 hlt,w7] at hp
 obtain ⟨s,hsd⟩:∃s,s=sp[k]:=⟨_,rfl⟩
 rw [←hsd] at hp hv
 refine k5 (k1 (k2 (k3 (k2 (k2 ?_)))))
 refine C4 (by kernel_rfl) (by kernel_rfl) (A8 (A4 Z Z) Z Z (A8 (A4 Z Z) Z Z (A8 (B3 Z (.pure _ _ _ _) Z (by omega) hv) Z Z (A8 (D7 Z) Z Z (A8 (B6 Z Z) Z Z (A8 (A4 Z Z) Z Z (A8 (D6 Z Z) Z Z (A8 (A4 Z Z) Z Z (C6 Z Z (fun hg=>by rw [hg];exact A4 Z Z) Z Z ?_)))))))));refine C6 Z Z (fun hg=>by rw [hg];exact A4 Z Z) Z Z ?_;refine C6 Z Z (fun hg=>by have hq:=hg;(try simp at hq);rw [hg];exact B3 Z (.pure _ _ _ _) Z (by omega) hv) Z Z ?_;refine C6 Z Z (fun hg=>by rw [hg];exact D7 Z) Z Z ?_;refine C6 Z Z (fun hg=>by rw [hg];exact B6 Z Z) Z Z ?_;refine C6 Z Z (fun hg=>by rw [hg];exact A4 Z Z) Z Z ?_;refine C6 Z Z (fun hg=>by rw [hg];exact A4 Z Z) Z Z ?_;refine C6 Z Z (fun hg=>by have hq:=hg;(try simp at hq);rw [hg];exact B3 Z (.pure _ _ _ _) Z (by omega) hv) Z Z ?_;refine C6 Z Z (fun hg=>by rw [hg];exact D7 Z) Z Z ?_;refine C6 Z Z (fun hg=>by rw [hg];exact B6 Z Z) Z Z ?_;refine C6 Z Z (fun hg=>by rw [hg];exact x7 Z Z) Z Z ?_;refine A8 (B4 Z (fun h=>by first | rfl | (rw [h];rfl)) (fun h=>by first | rfl | (rw [h];rfl))) Z Z ?_;refine A8 (A4 Z Z) Z Z (C6 Z Z (fun hg=>by rw [hg];exact A4 Z Z) Z Z ?_);refine C6 Z Z (fun hg=>by rw [hg];exact A4 Z Z) Z Z ?_;refine C6 Z Z (fun hg=>by have hq:=hg;(try simp at hq);rw [hg];exact B3 Z (.pure _ _ _ _) Z (by omega) hv) Z Z ?_;refine C6 Z Z (fun hg=>by rw [hg];exact D7 Z) Z Z ?_;refine C6 Z Z (fun hg=>by rw [hg];exact B6 Z Z) Z Z ?_;refine C6 Z Z (fun hg=>by rw [hg];exact A7 Z) Z Z ?_;refine C6 Z Z (fun hg=>by rw [hg];exact B0 Z Z Z) Z Z ?_;refine C6 Z Z (fun hg=>by rw [hg];exact F1 Z (.pure _ _ _ _)) Z Z ?_;refine C6 Z Z (fun hg=>by rw [hg];exact N2 Z Z) Z Z ?_;refine A8 (B4 Z (fun h=>by first | rfl | (rw [h];rfl)) (fun h=>by first | rfl | (rw [h];rfl))) Z Z ?_;refine H9 ?_
 refine k1 ?_
 refine B1 rfl (fun ht=>?_) (fun ht=>?_)
 ·have hc:s.From < e∨s.To≤s.From∨(rows.length:Int) < s.To:=by
   by_cases q1:s.From < e
   ·exact .inl q1
   ·by_cases q2:s.To≤s.From
    ·exact .inr (.inl q2)
    ·simp [q1,q2] at ht
     exact .inr (.inr ht)
  rw [if_pos hc] at hp
  refine k2 ?_
  refine A3 (A2 (F8 Z) Z (E9 (C0 TySz.out Z Z Z Z Z Z) (A2 (A5 Z Z) Z (A6 ?_))))
  refine k1 ?_
  refine F5 (I73 CHunk 2 K4 8 3 Z Z) ?_
  refine k10 (k11 (k12 (k11 (k11 (k12 (k11 ?_))))))
  exact B5 (rs:=[K9 comb0,E6 3]) (R6 rfl rfl rfl rfl rfl rfl rfl) (hno hp)
 have hc:¬(s.From < e∨s.To≤s.From∨(rows.length:Int) < s.To):=by
  rintro (q | q | q)
  ·simp [q] at ht
  ·simp [q] at ht
  ·simp [q] at ht
 rw [if_neg hc] at hp
 simp only [not_or,Int.not_lt,Int.not_le] at hc
 obtain ⟨c1,c2,c3⟩:=hc
 obtain ⟨F,hF⟩:∃F:Nat,s.From=F:=⟨s.From.toNat,by omega⟩
 obtain ⟨T,hT⟩:∃T:Nat,s.To=T:=⟨s.To.toNat,by omega⟩
 obtain ⟨sF,sT⟩:=s
 have hF:sF=(F:Int):=hF
 have hT:sT=(T:Int):=hT
 subst hF hT
 dsimp only at c1 c2 c3 hp
 rw [J09,J09] at hp
 have hsub:((rows.drop F).take (T - F)).length=T - F:=by rw [J15,J12];omega
 have hFl:(F:Int)≤rows.length:=by omega
 refine k5 (k1 (k2 ?_))
 refine V5 [(2,D1 Span 2 spanC sp),(5,.s (.one (.ref 5 0))),(8,.s (.one (.ref 8 0))),(11,.s (.one (.ref 11 0))),(13,C2 k)] [(5,.box (pTable ⟨n,rows⟩).s1.cells),(8,.box [.p (.v (.string ⟨#[]⟩)),.p (.v (.bool false)),.p (.v (.int .i64 0)),.p (.v (.slice none 0 0))]),(11,.box [.p (.v (.string ⟨path.toArray⟩)),.p (.v (.bool d)),.p (.v (.int .i64 n)),.buf 754 CHunk 2 K4 hs]),(754,.spare hs.length 2 82)] (I72 ⟨le1 rfl,le1 rfl,le1 rfl,le1 rfl,le1 rfl,trivial⟩ ⟨rfl,rfl,rfl,rfl,trivial⟩) ?_
 refine y5 [17,16,14] [[],[14],[16],[16,14],[17,16,14]] [(14,([],[])),(16,([14],[])),(17,([],[]))] [(0,[]),(1,[]),(2,[]),(3,[]),(4,[]),(5,[]),(6,[]),(7,[]),(8,[]),(9,[]),(10,[]),(11,[]),(12,[]),(13,[]),(14,[]),(15,[14]),(16,[]),(16,[14]),(17,[16,14])] [(0,[16]),(1,[16]),(2,[16]),(3,[16]),(4,[16]),(5,[16]),(6,[16]),(7,[16]),(8,[16]),(9,[16]),(10,[16]),(11,[16]),(12,[16]),(13,[16]),(14,[16]),(15,[16,14])] (by kernel_rfl) (by kernel_rfl) (K8 Z Z (by kernel_rfl) Z Z (D02 (c:=rowC) (ys:=[]) F4 Z Z Z) (K8 Z Z (by kernel_rfl) Z Z (A7 Z) (K8 Z Z (by kernel_rfl) Z Z (B0 Z Z Z) (K8 Z Z (by kernel_rfl) Z Z (A4 Z Z) (K8 Z Z (by kernel_rfl) Z Z (A4 Z Z) (K8 Z Z (by kernel_rfl) Z Z (B3 Z (.pure _ _ _ _) Z (by omega) hv) (K8 Z Z (by kernel_rfl) Z Z (D7 Z) (K8 Z Z (by kernel_rfl) Z Z (B6 Z Z) (K8 Z Z (by kernel_rfl) Z Z (A4 Z Z) (K8 Z Z (by kernel_rfl) Z Z (A4 Z Z) (K8 Z Z (by kernel_rfl) Z Z (B3 Z (.pure _ _ _ _) Z (by omega) hv) (K8 Z Z (by kernel_rfl) Z Z (D7 Z) (K8 Z Z (by kernel_rfl) Z Z (B6 Z Z) (K8 Z Z (by kernel_rfl) Z Z (B79 Z (.pure _ _ _ _) Z Z (by (first | omega | (dsimp only;omega))) (by (first | omega | (dsimp only;omega))) (by (first | omega | (dsimp only;omega)))) (C20 Z Z (by kernel_rfl) Z Z (r_neu (fun frc hU=>B64 (A98 hU Z) (A98 hU Z) (.pure _ _ _ _) (by (rw [J09,J09,hsub];simp;omega)) (by rw [J09,J09,hsub];omega))) Z ?_)))))))))))))));refine K8 Z Z (by kernel_rfl) Z Z (F8 Z) (C20 Z Z (by kernel_rfl) Z Z (H30 Z) Z (w_again Z Z (by kernel_rfl) Z Z (H30 Z) Z (C20 Z Z (by kernel_rfl) Z Z (H31 (fun frc hU=>C0 TySz.out (A98 hU Z) Z (A98 hU Z) Z Z Z)) Z ?_)));refine H28 (by kernel_rfl) rfl ?_ ?_
 ·refine n7 Z Z (by kernel_rfl) Z Z (D02 (c:=rowC) (ys:=[]) F4 Z Z Z) (n7 Z Z (by kernel_rfl) Z Z (A7 Z) (n7 Z Z (by kernel_rfl) Z Z (B0 Z Z Z) (n7 Z Z (by kernel_rfl) Z Z (A4 Z Z) (n7 Z Z (by kernel_rfl) Z Z (A4 Z Z) (n7 Z Z (by kernel_rfl) Z Z (B3 Z (.pure _ _ _ _) Z (by omega) hv) (n7 Z Z (by kernel_rfl) Z Z (D7 Z) (n7 Z Z (by kernel_rfl) Z Z (B6 Z Z) (n7 Z Z (by kernel_rfl) Z Z (A4 Z Z) (n7 Z Z (by kernel_rfl) Z Z (A4 Z Z) (n7 Z Z (by kernel_rfl) Z Z (B3 Z (.pure _ _ _ _) Z (by omega) hv) (n7 Z Z (by kernel_rfl) Z Z (D7 Z) (n7 Z Z (by kernel_rfl) Z Z (B6 Z Z) (n7 Z Z (by kernel_rfl) Z Z (B79 Z (.pure _ _ _ _) Z Z (by (first | omega | (dsimp only;omega))) (by (first | omega | (dsimp only;omega))) (by (first | omega | (dsimp only;omega)))) ?_)))))))))))));refine x_eff rfl rfl (by kernel_rfl) rfl rfl (r_neu (fun frc hU=>B64 (A98 hU rfl) (A98 hU rfl) (.pure _ _ _ _) (by (rw [J09,J09,hsub];simp;omega)) (by rw [J09,J09,hsub];omega))) rfl (I30 (by repeat (first | exact trivial | refine ⟨.inr rfl,?_⟩ | refine ⟨.inl rfl,?_⟩))) ?_;refine n7 Z Z (by kernel_rfl) Z Z (F8 Z) ?_;exact H29
 rw [J09,J09,J29]
 refine F5 (I83 755 Int 1 L1 3 (kb:=14) (o:=0) Z Z Z) ?_
 refine k2 (k2 ?_)
 refine A3 (A2 (A5 Z Z) Z (A6 ?_))
 refine k1 (k3 ?_)
 obtain ⟨R,hR⟩:∃R,R=(rows.drop F).take (T - F):=⟨_,rfl⟩
 rw [←hR] at hp hsub ⊢
 refine D3 (X:=Nat) (fun p=>([(2,D1 Span 2 spanC sp),(5,.s (.one (.ref 5 0))),(8,.s (.one (.ref 8 0))),(11,.s (.one (.ref 11 0))),(13,C2 k),(14,.s (.one (.ref 14 0))),(15,C2 p)],[(5,.box (pTable ⟨n,rows⟩).s1.cells),(8,.box [.p (.v (.string ⟨#[]⟩)),.p (.v (.bool false)),.p (.v (.int .i64 0)),.p (.v (.slice none 0 0))]),(11,.box [.p (.v (.string ⟨path.toArray⟩)),.p (.v (.bool d)),.p (.v (.int .i64 n)),.buf 754 CHunk 2 K4 hs]),(754,.spare hs.length 2 82),(14,.box [.buf 755 Int 1 L1 ((List.range p).map (N1 (rows.take F) n)),.p (.list Row 3 rowC R)]),(755,.spare ((List.range p).map (N1 (rows.take F) n)).length 1 3)])) (fun p=>p≤n+1) (fun p=>n+1 - p) 0 (Nat.zero_le _) (I72 ⟨le1 rfl,le1 rfl,le1 rfl,le1 rfl,le1 rfl,le1 rfl,le1 rfl,trivial⟩ ⟨rfl,rfl,rfl,rfl,rfl,rfl,trivial⟩) ?_
 intro p hpn
 dsimp only at hpn ⊢
 have hml:((List.range p).map (N1 (rows.take F) n)).length=p:=by simp
 refine k2 (k2 ?_)
 refine A3 (A2 (A4 Z Z) Z (A2 (A7 Z) Z (A2 (B0 Z Z Z) Z (A2 (x7 Z Z) Z (A6 ?_)))))
 refine k1 ?_
 refine B1 rfl (fun ht=>?_) (fun ht=>?_)
 ·have hle:p≤n:=by have:=A0 ht;omega
  have hst:=G13 (rows.take F) n p
  have htl:(rows.take F).length=F:=by rw [J15];omega
  have hcm:=B90 p n
  have hcol:=A17 (rows.take F) (R1 n p) (G83 hr F) (by omega)
  refine k5 (k1 (k2 (k3 ?_)))
  refine C4 (by kernel_rfl) (by kernel_rfl) (A8 (A7 Z) Z Z (A8 (B0 Z Z Z) Z Z (A8 (A7 Z) Z Z (A8 (B0 Z Z Z) Z Z (A8 (A4 Z Z) Z Z (A8 (A4 Z Z) Z Z (A8 (B3 Z (.pure _ _ _ _) Z (by omega) hv) Z Z (A8 (D7 Z) Z Z (A8 (B6 Z Z) Z Z (A8 (C56 Z (.pure _ _ _ _) Z (by (first | omega | (dsimp only;omega))) (by (first | omega | (dsimp only;omega)))) Z Z (A8 (A4 Z Z) Z Z (A8 (A7 Z) Z Z (A8 (B0 Z Z Z) Z Z (A8 (G9 (hcm) Z Z) Z Z (A8 (G9 (hcol) Z Z) Z Z (A8 (F1 Z (.pure _ _ _ _)) Z Z (A8 (C9 (c:=L1) (ys:=[N1 (rows.take F) n p]) (E1 Z Z Z Z F4) Z Z Z) Z Z (D59 (G7 Z Z Z (.pure _ _ _ _) (by (rw [hml];simp only [J02,J05];omega)) Z) Z Z ?_))))))))))))))))));refine A8 (A7 Z) Z Z (C10 (C0 TySz.out Z Z Z Z Z Z) Z (H9 ?_))
  refine k4 (k1 ?_)
  refine A3 (A2 (A4 Z Z) Z (A2 (C1 Z Z (by omega)) Z (A2 (A5 Z Z) Z (A6 ?_))))
  refine k1 ?_
  refine ⟨p+1,by omega,by omega,?_⟩
  rw [hst]
  exact I72 ⟨le1 rfl,le1 rfl,le1 rfl,le1 rfl,le1 rfl,le1 rfl,le1 rfl,trivial⟩ ⟨rfl,rfl,rfl,rfl,rfl,rfl,trivial⟩
 have hpl:p=n+1:=by have:=A1 ht;omega
 rw [hpl]
 refine k6 (k2 ?_)
 refine A3 (A2 (A7 Z) Z (A2 (B0 Z Z Z) Z (A2 (D4 Z Z Z) Z (A2 (C9 (c:=K4) (ys:=[⟨W0 (rows.take F) n,R⟩]) (E1 Z Z Z Z F4) Z Z Z) Z (C3 (G7 Z Z Z (.pure _ _ _ _) (by (simp only [J02,J05];omega)) Z) Z (A2 (A7 Z) Z (E9 (C0 TySz.out Z Z Z Z Z Z) (A6 ?_))))))))
 refine k1 ?_
 refine A3 (A2 (A4 Z Z) Z (A2 (A4 Z Z) Z (A2 (B3 Z (.pure _ _ _ _) Z (by omega) hv) Z (A2 (D7 Z) Z (A2 (B6 Z Z) Z (A2 (A5 Z Z) Z (A6 ?_)))))))
 refine k4 (k1 ?_)
 refine A3 (A2 (A4 Z Z) Z (A2 (C1 Z Z (by omega)) Z (A2 (A5 Z Z) Z (A6 ?_))))
 refine k1 ?_
 exact ⟨(k+1,(T:Int),hs++[⟨W0 (rows.take F) n,R⟩]),⟨by dsimp only;omega,by dsimp only;omega,by dsimp only;rw [J01];simp;omega,hp⟩,by dsimp only;omega,I72 ⟨le1 rfl,le1 rfl,le1 rfl,le1 rfl,le1 rfl,le1 rfl,trivial⟩ ⟨rfl,rfl,rfl,rfl,trivial⟩⟩
abbrev rowV (q:Row):List Value:=[.bool q.Lost,.int .u32 q.Marks,.string ⟨q.Text.toArray⟩]
theorem row_eq (q q':Row):F28 (rowV q) (rowV q')=decide (q=q'):=by
 rw [Bool.eq_iff_iff]
 simp only [F28,eqV,ByteArray.toList_mk,J04,beq_iff_eq,decide_eq_true_eq,Bool.and_true]
 constructor
 ·rintro ⟨h1,h2,h3⟩
  obtain ⟨k,m,t⟩:=q
  obtain ⟨k',m',t'⟩:=q'
  obtain rfl:k=k':=h1
  obtain rfl:m=m':=h2
  obtain rfl:t=t':=h3
  rfl
 ·rintro rfl;exact ⟨rfl,rfl,rfl⟩
end Go.Proofs.YtgejaedjnbjpoaaGreatDoor
namespace Go.Proofs.YtgejaedjnbjpoaaGreatDoor
open Go Go.AL
set_option maxRecDepth 100000
theorem E96 {s:Str} {i:Nat} (h:n8 (s.drop i)=none):F38 s i=[E6 0,E6 0,E6 0,E0 false]:=by unfold F38;rw [h]
theorem E97 {s:Str} {i k:Nat} {a n:Int} (h:n8 (s.drop i)=some (a,n,k)):F38 s i=[E6 a,E6 n,E6 ((i+k:Nat):Int),E0 true]:=by unfold F38;rw [h]
theorem D42 (a b:List CHunk):szC (a++b)=szC a+szC b:=by simp [szC]
theorem D43 (h:CHunk):szC [h]=A51 h:=by simp [szC]
theorem lastC {α:Type} {l:List α} {x:α} (h:l.getLast?=some x):l=l.dropLast++[x]:=by
 obtain ⟨ys,hy⟩:=List.getLast?_eq_some_iff.1 h
 rw [hy,List.dropLast_concat]
theorem G14 {hs:List CHunk} {h:CHunk} (hl:hs.getLast?=some h):szC hs=szC hs.dropLast+A51 h:=by
 conv=>lhs;rw [lastC hl,D42,D43]
theorem H81 (t:Str):(B37 t).length≤t.length:=by
 unfold B37;split
 ·rw [List.length_dropLast];omega
 ·omega
theorem B47 (h:CHunk):A51 h=2048+h.At.length+(h.Rows.map M9).sum:=rfl
def CInv (n:Nat) (hs:List CHunk):Prop:=∀h∈hs,h.At.length=n+1∧I8 h.Rows
theorem CInv.app {n:Nat} {hs:List CHunk} {h:CHunk} (hi:CInv n hs) (hh:h.At.length=n+1∧I8 h.Rows):CInv n (hs++[h]):=by
 intro x hx
 rcases List.mem_append.1 hx with hx | hx
 ·exact hi x hx
 ·simp only [J31,J33,or_false] at hx
  rw [hx];exact hh
theorem CInv.init {n:Nat} {hs:List CHunk} (hi:CInv n hs):CInv n hs.dropLast:=fun x hx=>hi x ((List.dropLast_sublist _).subset hx)
theorem G15 {n:Nat} {l:Str} {a:List Int} (h:A09 n l=some a):a.length=n+1∧2*(n+2)≤l.length:=by
 unfold A09 at h
 split at h
 ·rename_i h1
  have hp:(C50 n).length=n+2:=by simp [C50,Z6]
  have hs:(B99 n).length=n+2:=by simp [B99,Z6]
  have l1:=congrArg List.length h1.1
  rw [J15,hp] at l1
  have l2:=h1.2
  unfold Q2 at l2
  have l3:=(A0 l2).1
  rw [hs,J12] at l3
  split at h
  ·rename_i b hb
   split at h
   ·rename_i hbl
    cases h
    exact ⟨hbl,by omega⟩
   ·cases h
  ·cases h
 ·cases h
def A18 (l:Str):Nat:=420*(l.length+1)
theorem G16 {n:Nat} (hn:1≤n∧n≤32) {hs hs':List CHunk} {l:Str} (h:T6 n hs l=some hs') (hi:CInv n hs):szC hs'≤szC hs+A18 l∧CInv n hs':=by
 unfold T6 at h
 unfold A18
 split at h
 ·cases hp:A09 n l with
  | none=>rw [hp] at h;cases h
  | some a =>
   rw [hp] at h
   have h:hs++[⟨a,[]⟩]=hs':=Option.some.inj h
   obtain ⟨f1,f2⟩:=G15 hp
   rw [←h]
   refine ⟨?_,hi.app ⟨f1,fun r hr=>by cases hr⟩⟩
   rw [D42,D43,B47]
   dsimp only
   rw [f1,J37,J53]
   omega
 ·split at h
  ·cases h
  ·split at h
   ·unfold E24 at h
    cases hl:hs.getLast? with
    | none=>rw [hl] at h;cases h
    | some g =>
     rw [hl] at h
     dsimp only at h
     have hg:=hi g (List.mem_of_getLast? hl)
     cases hx:g.Rows.getLast? with
     | none=>rw [hx] at h;cases h
     | some r =>
      rw [hx] at h
      have h:hs.dropLast++[⟨g.At,g.Rows.dropLast++[⟨r.Lost,r.Marks,B37 r.Text⟩]⟩]=hs':=Option.some.inj h
      have ht:=H81 r.Text
      have hrr:=lastC hx
      have hsum:(g.Rows.map M9).sum=(g.Rows.dropLast.map M9).sum+M9 r:=by
       conv=>lhs;rw [hrr,J17,J40]
       simp
      rw [←h]
      refine ⟨?_,hi.init.app ⟨hg.1,fun x hx2=>?_⟩⟩
      ·rw [D42,D43,B47,G14 hl,B47,hsum]
       simp only [J17,J40,J08,J37,J28,J53,M9]
       omega
      ·rcases List.mem_append.1 hx2 with hx2 | hx2
       ·exact hg.2 x ((List.dropLast_sublist _).subset hx2)
       ·simp only [J31,J33,or_false] at hx2
        rw [hx2];exact hg.2 r (List.mem_of_getLast? hx)
   ·cases hr:AL.rowAt (l++[10]) n with
    | none=>rw [hr] at h;cases h
    | some r =>
     rw [hr] at h
     dsimp only at h
     unfold F69 at h
     cases hl:hs.getLast? with
     | none=>rw [hl] at h;cases h
     | some g =>
      rw [hl] at h
      have h:hs.dropLast++[⟨g.At,g.Rows++[r]⟩]=hs':=Option.some.inj h
      have hg:=hi g (List.mem_of_getLast? hl)
      have hrI:A12 (l++[10]) (n:Int)=some r:=by unfold A12;rw [if_neg (by omega),J09];exact hr
      obtain ⟨_,t1,t2,_⟩:=I19 hrI
      have t3:r.Text.length≤l.length+1:=by rw [t1,J12,J01];simp
      rw [←h]
      refine ⟨?_,hi.init.app ⟨hg.1,fun x hx2=>?_⟩⟩
      ·rw [D42,D43,B47,G14 hl,B47]
       simp only [J17,J40,J08,J37,J28,J53,M9]
       omega
      ·rcases List.mem_append.1 hx2 with hx2 | hx2
       ·exact hg.2 x hx2
       ·simp only [J31,J33,or_false] at hx2
        rw [hx2];exact t2
theorem G17 {n:Nat} (hn:1≤n∧n≤32):∀(ls:List Str) (hs hs':List CHunk),X4 n hs ls=some hs'→CInv n hs→szC hs'≤szC hs+(ls.map A18).sum∧CInv n hs'
 | [],hs,hs',h,hi=>by cases h;exact ⟨by simp,hi⟩
 | x::r,hs,hs',h,hi=>by
  rw [X4] at h
  cases hx:T6 n hs x with
  | none=>rw [hx] at h;cases h
  | some g =>
   rw [hx] at h
   obtain ⟨a1,a2⟩:=G16 hn hx hi
   obtain ⟨b1,b2⟩:=G17 hn r g hs' h a2
   refine ⟨?_,b2⟩
   rw [J08,J28];omega
theorem E98 {q:Bool} {a b:Str} {d:Bool} {p:Str} {n:Int} (h:n5 q a b=some (d,p,n)):1≤n∧n≤32:=by
 unfold n5 at h
 split at h
 ·cases h
 ·split at h
  ·split at h
   ·split at h
    ·rename_i h2
     cases h;omega
    ·cases h
   ·cases h
  ·cases h
theorem C78 {l:List Str} {c:Comb} (h:Q3 l=some c):(1≤c.Parents∧c.Parents≤32)∧szC c.Hunks≤(l.map A18).sum∧CInv c.Parents.toNat c.Hunks:=by
 unfold Q3 at h
 split at h
 ·rename_i a b r
  split at h
  ·rename_i d p n ht
   have hn:=E98 ht
   split at h
   ·rename_i hs hf
    cases h
    obtain ⟨f1,f2⟩:=G17 (n:=n.toNat) (by omega) r [] hs hf (fun x hx=>by cases hx)
    refine ⟨hn,?_,f2⟩
    have e0:szC ([]:List CHunk)=0:=rfl
    rw [e0] at f1
    simp only [J08,J28]
    omega
   ·cases h
  ·cases h
 ·cases h
def wgTo (l:List Str) (i:Nat):Nat:=((l.take i).map A18).sum
theorem H82 {l:List Str} {i:Nat} (h:i < l.length):wgTo l (i+1)=wgTo l i+A18 l[i]:=by
 unfold wgTo
 rw [J10 h,J17,J40]
 simp only [J08,J37,J28,J53]
 omega
end Go.Proofs.YtgejaedjnbjpoaaGreatDoor
namespace Go.Proofs.YtgejaedjnbjpoaaGreatDoor
open Go Go.AL
set_option maxRecDepth 100000
theorem H38 (s:Str) (i:Nat):∃(w:Str) (e:Int) (b:Bool),D04 s i=[F3 w,E6 e,E0 b]∧match X2 (s.drop i) with
  | some q=>b=true∧w=q.1∧e=((i+q.2:Nat):Int)
  | none=>b=false:=by
 cases h:X2 (s.drop i) with
 | none=>exact ⟨_,_,_,G75 h,rfl⟩
 | some q=>obtain ⟨w,k⟩:=q;exact ⟨_,_,_,G76 h,rfl,rfl,rfl⟩
theorem num_ex (s:Str) (i:Nat):∃(n e:Int) (b:Bool),F37 s i=[E6 n,E6 e,E0 b]∧match Z2 (s.drop i) with
  | some q=>b=true∧n=(q.1:Int)∧e=((i+q.2:Nat):Int)
  | none=>b=false:=by
 cases h:Z2 (s.drop i) with
 | none=>exact ⟨_,_,_,C72 h,rfl⟩
 | some q=>obtain ⟨n,k⟩:=q;exact ⟨_,_,_,C71 h,rfl,rfl,rfl⟩
abbrev S0:Ob:=.box [.p (.v (.string ⟨#[]⟩)),.p (.v (.bool false)),.p (.v (.int .i64 0)),.p (.v (.slice none 0 0))]
set_option maxHeartbeats 4000000
theorem cut_ex (s p:Str):∃(c:Str) (b:Bool),E47 s p=[F3 c,E0 b]∧((b=true∧s.take p.length=p∧c=s.drop p.length)∨(b=false∧s.take p.length≠p∧c=s)):=by
 unfold E47
 by_cases h:s.take p.length=p
 ·rw [if_pos h];exact ⟨_,_,rfl,.inl ⟨rfl,h,rfl⟩⟩
 ·rw [if_neg h];exact ⟨_,_,rfl,.inr ⟨rfl,h,rfl⟩⟩
abbrev cpBox (w:Str) (d:Bool) (n:Int):Ob:=.box [.p (.v (.string ⟨w.toArray⟩)),.p (.v (.bool d)),.p (.v (.int .i64 n)),.p (.v (.slice none 0 0))]
theorem G18 {a b c x w:Str} {d okc okw okn:Bool} {e n en:Int} (hk:x5 a=some (d,x)) (hc:(okc=true∧b.take parS.length=parS∧c=b.drop parS.length)∨(okc=false∧b.take parS.length≠parS∧c=b))
  (hw:match X2 (x.drop 0) with | some q=>okw=true∧w=q.1∧e=((0+q.2:Nat):Int) | none=>okw=false)
  (hn:match Z2 (c.drop 0) with | some q=>okn=true∧n=(q.1:Int)∧en=((0+q.2:Nat):Int) | none=>okn=false) :
  n5 true a b=if okc=true∧okw=true∧e=x.length∧okn=true∧en=c.length∧1≤n∧n≤32 then some (d,w,n) else none:=by
 unfold n5
 rw [hk]
 dsimp only
 rw [List.drop_zero] at hw hn
 have h8:parS.length=8:=rfl
 rcases hc with ⟨h1,h2,h3⟩ | ⟨h1,h2,_⟩
 ·rw [h8] at h2 h3
  rw [if_pos h2,←h3]
  cases g1:X2 x with
  | none=>rw [g1] at hw;have hw:okw=false:=hw;rw [if_neg (by simp [hw])]
  | some q =>
   obtain ⟨w',k'⟩:=q
   rw [g1] at hw
   obtain ⟨rfl,rfl,rfl⟩:=hw
   cases g2:Z2 c with
   | none=>rw [g2] at hn;have hn:okn=false:=hn;rw [if_neg (by simp [hn])]
   | some q2 =>
    obtain ⟨m',k2⟩:=q2
    rw [g2] at hn
    obtain ⟨rfl,rfl,rfl⟩:=hn
    dsimp only
    by_cases hg:(true=true→k'=x.length∧k2=c.length)∧1≤m'∧m'≤32
    ·obtain ⟨q1,q2⟩:=hg.1 rfl
     rw [if_pos hg,if_pos ⟨h1,rfl,by omega,rfl,by omega,by omega,by omega⟩]
    ·rw [if_neg hg,if_neg]
     rintro ⟨_,_,p1,_,p2,p3,p4⟩
     exact hg ⟨fun _=>⟨by omega,by omega⟩,by omega,by omega⟩
 ·rw [h8] at h2
  rw [if_neg h2,if_neg (by simp [h1])]
set_option maxHeartbeats 1000000
theorem G84 {gf:Fr} (a b:Str) (ha:a.length≤4194304) (hb:b.length≤4194304) :
  AL.Met Tryz.prog 158 [.one (.ref 730 0),.one (.p (.v (.string ⟨a.toArray⟩))),.one (.p (.v (.string ⟨b.toArray⟩)))] gf [(730,S0),(2,S0)] []
   (fun rs ob'=>∃(w:Str) (d:Bool) (n:Int) (ok:Bool),rs=[tBo ok]∧ob'=[(730,cpBox w d n),(2,S0)]∧match n5 true a b with
    | some (d',p,m)=>ok=true∧d=d'∧w=p∧n=m
    | none=>ok=false):=by
 have hc1:=j9 a ccS
 have hc2:=j9 a combS
 have hc3:=j9 b parS
 unfold E47 at hc1 hc2
 obtain ⟨c,okc,hx,hcc⟩:=cut_ex b parS
 rw [hx] at hc3
 have hcl:c.length≤4194304:=by
  rcases hcc with ⟨_,_,h⟩ | ⟨_,_,h⟩
  ·rw [h,J12];omega
  ·rw [h];exact hb
 have hNb:=A67 c 0 (Nat.zero_le _) (by omega)
 obtain ⟨n,en,okn,hn1,hn2⟩:=num_ex c 0
 rw [hn1] at hNb
 by_cases h1:a.take ccS.length=ccS
 ·rw [if_pos h1] at hc1
  have hk:x5 a=some (true,a.drop ccS.length):=by
   have h1:a.take 10=ccS:=h1
   unfold x5;rw [if_pos h1];rfl
  obtain ⟨x,hxx⟩:∃x,x=a.drop ccS.length:=⟨_,rfl⟩
  have hxl:x.length≤4194304:=by rw [hxx,J12];omega
  rw [←hxx] at hc1 hk
  have hUq:=D05 x 0 (Nat.zero_le _) (by omega)
  obtain ⟨w,e,okw,hw1,hw2⟩:=H38 x 0
  rw [hw1] at hUq
  have hT:=G18 hk hcc hw2 hn2
  refine AL.Met.intro Tryz.func158 (by decide) Z Z Z ?_
  refine k2 ?_
  refine A3 (A2 (A5 Z Z) Z (A6 ?_))
  refine k1 (k2 ?_)
  refine A3 (A2 (A4 Z Z) Z (B9 (hc1) Z Z Z ?_));rintro _ rfl;refine A2 (A4 Z Z) Z (A2 (B2 Z Z) Z (A2 (B2 Z Z) Z (A2 (A5 Z Z) Z (A2 (A5 Z Z) Z (A6 ?_)))))
  refine k1 (k2 (k2 ?_))
  refine A3 (A2 (A4 Z Z) Z (A2 (F0 Z) Z (A6 ?_)))
  refine k1 ?_
  refine B1 rfl (fun ht=>?_) (fun ht=>?_)
  ·cases ht
  refine k5 (k1 (k2 ?_))
  refine A3 (A2 (A4 Z Z) Z (B9 (hc3) Z Z Z ?_));rintro _ rfl;refine A2 (A4 Z Z) Z (A2 (B2 Z Z) Z (A2 (B2 Z Z) Z (A2 (A5 Z Z) Z (A2 (A5 Z Z) Z (A6 ?_)))))
  refine k1 (k2 ?_)
  refine A3 (A2 (A4 Z Z) Z (B9 (hUq) Z Z Z ?_));rintro _ rfl;refine A2 (A4 Z Z) Z (A2 (B2 Z Z) Z (A2 (B2 Z Z) Z (A2 (B2 Z Z) Z (A2 (A5 Z Z) Z (A2 (A5 Z Z) Z (A2 (A5 Z Z) Z (A6 ?_)))))))
  refine k1 (k2 ?_)
  refine A3 (A2 (A4 Z Z) Z (B9 (hNb) Z Z Z ?_));rintro _ rfl;refine A2 (A4 Z Z) Z (A2 (B2 Z Z) Z (A2 (B2 Z Z) Z (A2 (B2 Z Z) Z (A2 (A5 Z Z) Z (A2 (A5 Z Z) Z (A2 (A5 Z Z) Z (A6 ?_)))))))
  refine k1 (k2 ?_)
  refine A3 (A2 (A4 Z Z) Z (A2 (A4 Z Z) Z (A2 (A4 Z Z) Z (A2 (A4 Z Z) Z (A2 (F8 Z) Z (A2 (B7 Z) Z (A2 (A7 Z) Z (E9 (C0 TySz.out Z Z Z Z Z Z) (A6 ?_)))))))))
  refine k1 (k2 ?_)
  refine A3 (A2 (A4 Z Z) Z (A2 (A4 Z Z) Z (A9 Z Z Z Z (fun hg=>by rw [hg];exact A4 Z Z) ?_)));refine A2 (B4 Z (fun h=>by first | rfl | (rw [h];rfl)) (fun h=>by first | rfl | (rw [h];rfl))) Z ?_;refine A2 (A4 Z Z) Z (A9 Z Z Z Z (fun hg=>by rw [hg];exact A4 Z Z) ?_);refine A9 Z Z Z Z (fun hg=>by rw [hg];exact A4 Z Z) ?_;refine A9 Z Z Z Z (fun hg=>by rw [hg];exact E4 Z) ?_;refine A9 Z Z Z Z (fun hg=>by rw [hg];exact F6 Z Z) ?_;refine A2 (B4 Z (fun h=>by first | rfl | (rw [h];rfl)) (fun h=>by first | rfl | (rw [h];rfl))) Z ?_;refine A2 (A4 Z Z) Z (A9 Z Z Z Z (fun hg=>by rw [hg];exact A4 Z Z) ?_);refine A2 (B4 Z (fun h=>by first | rfl | (rw [h];rfl)) (fun h=>by first | rfl | (rw [h];rfl))) Z ?_;refine A2 (A4 Z Z) Z (A9 Z Z Z Z (fun hg=>by rw [hg];exact A4 Z Z) ?_);refine A9 Z Z Z Z (fun hg=>by rw [hg];exact A4 Z Z) ?_;refine A9 Z Z Z Z (fun hg=>by rw [hg];exact E4 Z) ?_;refine A9 Z Z Z Z (fun hg=>by rw [hg];exact F6 Z Z) ?_;refine A2 (B4 Z (fun h=>by first | rfl | (rw [h];rfl)) (fun h=>by first | rfl | (rw [h];rfl))) Z ?_;refine A2 (A4 Z Z) Z (A9 Z Z Z Z (fun hg=>by rw [hg];exact A4 Z Z) ?_);refine A9 Z Z Z Z (fun hg=>by rw [hg];exact s9 Z Z) ?_;refine A2 (B4 Z (fun h=>by first | rfl | (rw [h];rfl)) (fun h=>by first | rfl | (rw [h];rfl))) Z ?_;refine A2 (A4 Z Z) Z (A9 Z Z Z Z (fun hg=>by rw [hg];exact A4 Z Z) ?_);refine A9 Z Z Z Z (fun hg=>by rw [hg];exact x7 Z Z) ?_;refine A2 (B4 Z (fun h=>by first | rfl | (rw [h];rfl)) (fun h=>by first | rfl | (rw [h];rfl))) Z ?_;refine A2 (A5 Z Z) Z (A6 ?_)
  refine k1 (k10 ?_)
  refine I5 (c4 rfl rfl) (by repeat (first | exact E2 | refine tail_cons rfl ?_ | refine E3 _ ?_)) (ObIn.spec (ob':=[(730,cpBox w _ n),(2,S0)]) ⟨rfl,rfl,trivial⟩) ⟨w,_,n,_,rfl,rfl,?_⟩
  rw [hT]
  by_cases hg:okc=true∧okw=true∧e=x.length∧okn=true∧en=c.length∧1≤n∧n≤32
  ·rw [if_pos hg]
   obtain ⟨g1,g2,g3,g4,g5,g6,g7⟩:=hg
   exact ⟨by simp [g1,g2,g3,g4,g5,g6,g7],rfl,rfl,rfl⟩
  ·rw [if_neg hg]
   cases okc<;>cases okw<;>cases okn<;>first | rfl | (simp;done) | (simp at hg ⊢;exact hg) | (simp at hg ⊢;intros;omega)
 rw [if_neg h1] at hc1
 by_cases h2:a.take combS.length=combS
 ·rw [if_pos h2] at hc2
  have hk:x5 a=some (false,a.drop combS.length):=by
   have h1:¬a.take 10=ccS:=h1
   have h2:a.take 16=combS:=h2
   unfold x5;rw [if_neg h1,if_pos h2];rfl
  obtain ⟨x,hxx⟩:∃x,x=a.drop combS.length:=⟨_,rfl⟩
  have hxl:x.length≤4194304:=by rw [hxx,J12];omega
  rw [←hxx] at hc2 hk
  have hUq:=D05 x 0 (Nat.zero_le _) (by omega)
  obtain ⟨w,e,okw,hw1,hw2⟩:=H38 x 0
  rw [hw1] at hUq
  have hT:=G18 hk hcc hw2 hn2
  refine AL.Met.intro Tryz.func158 (by decide) Z Z Z ?_
  refine k2 ?_
  refine A3 (A2 (A5 Z Z) Z (A6 ?_))
  refine k1 (k2 ?_)
  refine A3 (A2 (A4 Z Z) Z (B9 (hc1) Z Z Z ?_));rintro _ rfl;refine A2 (A4 Z Z) Z (A2 (B2 Z Z) Z (A2 (B2 Z Z) Z (A2 (A5 Z Z) Z (A2 (A5 Z Z) Z (A6 ?_)))))
  refine k1 (k2 (k2 ?_))
  refine A3 (A2 (A4 Z Z) Z (A2 (F0 Z) Z (A6 ?_)))
  refine k1 ?_
  refine B1 rfl (fun ht=>?_) (fun ht=>?_)
  rotate_left
  ·cases ht
  refine k2 ?_
  refine A3 (A2 (A5 Z Z) Z (A6 ?_))
  refine k1 (k2 ?_)
  refine A3 (A2 (A4 Z Z) Z (B9 (hc2) Z Z Z ?_));rintro _ rfl;refine A2 (A4 Z Z) Z (A2 (B2 Z Z) Z (A2 (B2 Z Z) Z (A2 (A5 Z Z) Z (A2 (A5 Z Z) Z (A6 ?_)))))
  refine k1 (k2 ?_)
  refine A3 (A2 (A4 Z Z) Z (A2 (F0 Z) Z (A6 ?_)))
  refine k1 ?_
  refine B1 rfl (fun ht=>?_) (fun ht=>?_)
  ·cases ht
  refine k5 (k1 (k2 ?_))
  refine A3 (A2 (A4 Z Z) Z (B9 (hc3) Z Z Z ?_));rintro _ rfl;refine A2 (A4 Z Z) Z (A2 (B2 Z Z) Z (A2 (B2 Z Z) Z (A2 (A5 Z Z) Z (A2 (A5 Z Z) Z (A6 ?_)))))
  refine k1 (k2 ?_)
  refine A3 (A2 (A4 Z Z) Z (B9 (hUq) Z Z Z ?_));rintro _ rfl;refine A2 (A4 Z Z) Z (A2 (B2 Z Z) Z (A2 (B2 Z Z) Z (A2 (B2 Z Z) Z (A2 (A5 Z Z) Z (A2 (A5 Z Z) Z (A2 (A5 Z Z) Z (A6 ?_)))))))
  refine k1 (k2 ?_)
  refine A3 (A2 (A4 Z Z) Z (B9 (hNb) Z Z Z ?_));rintro _ rfl;refine A2 (A4 Z Z) Z (A2 (B2 Z Z) Z (A2 (B2 Z Z) Z (A2 (B2 Z Z) Z (A2 (A5 Z Z) Z (A2 (A5 Z Z) Z (A2 (A5 Z Z) Z (A6 ?_)))))))
  refine k1 (k2 ?_)
  refine A3 (A2 (A4 Z Z) Z (A2 (A4 Z Z) Z (A2 (A4 Z Z) Z (A2 (A4 Z Z) Z (A2 (F8 Z) Z (A2 (B7 Z) Z (A2 (A7 Z) Z (E9 (C0 TySz.out Z Z Z Z Z Z) (A6 ?_)))))))))
  refine k1 (k2 ?_)
  refine A3 (A2 (A4 Z Z) Z (A2 (A4 Z Z) Z (A9 Z Z Z Z (fun hg=>by rw [hg];exact A4 Z Z) ?_)));refine A2 (B4 Z (fun h=>by first | rfl | (rw [h];rfl)) (fun h=>by first | rfl | (rw [h];rfl))) Z ?_;refine A2 (A4 Z Z) Z (A9 Z Z Z Z (fun hg=>by rw [hg];exact A4 Z Z) ?_);refine A9 Z Z Z Z (fun hg=>by rw [hg];exact A4 Z Z) ?_;refine A9 Z Z Z Z (fun hg=>by rw [hg];exact E4 Z) ?_;refine A9 Z Z Z Z (fun hg=>by rw [hg];exact F6 Z Z) ?_;refine A2 (B4 Z (fun h=>by first | rfl | (rw [h];rfl)) (fun h=>by first | rfl | (rw [h];rfl))) Z ?_;refine A2 (A4 Z Z) Z (A9 Z Z Z Z (fun hg=>by rw [hg];exact A4 Z Z) ?_);refine A2 (B4 Z (fun h=>by first | rfl | (rw [h];rfl)) (fun h=>by first | rfl | (rw [h];rfl))) Z ?_;refine A2 (A4 Z Z) Z (A9 Z Z Z Z (fun hg=>by rw [hg];exact A4 Z Z) ?_);refine A9 Z Z Z Z (fun hg=>by rw [hg];exact A4 Z Z) ?_;refine A9 Z Z Z Z (fun hg=>by rw [hg];exact E4 Z) ?_;refine A9 Z Z Z Z (fun hg=>by rw [hg];exact F6 Z Z) ?_;refine A2 (B4 Z (fun h=>by first | rfl | (rw [h];rfl)) (fun h=>by first | rfl | (rw [h];rfl))) Z ?_;refine A2 (A4 Z Z) Z (A9 Z Z Z Z (fun hg=>by rw [hg];exact A4 Z Z) ?_);refine A9 Z Z Z Z (fun hg=>by rw [hg];exact s9 Z Z) ?_;refine A2 (B4 Z (fun h=>by first | rfl | (rw [h];rfl)) (fun h=>by first | rfl | (rw [h];rfl))) Z ?_;refine A2 (A4 Z Z) Z (A9 Z Z Z Z (fun hg=>by rw [hg];exact A4 Z Z) ?_);refine A9 Z Z Z Z (fun hg=>by rw [hg];exact x7 Z Z) ?_;refine A2 (B4 Z (fun h=>by first | rfl | (rw [h];rfl)) (fun h=>by first | rfl | (rw [h];rfl))) Z ?_;refine A2 (A5 Z Z) Z (A6 ?_)
  refine k1 (k10 ?_)
  refine I5 (c4 rfl rfl) (by repeat (first | exact E2 | refine tail_cons rfl ?_ | refine E3 _ ?_)) (ObIn.spec (ob':=[(730,cpBox w _ n),(2,S0)]) ⟨rfl,rfl,trivial⟩) ⟨w,_,n,_,rfl,rfl,?_⟩
  rw [hT]
  by_cases hg:okc=true∧okw=true∧e=x.length∧okn=true∧en=c.length∧1≤n∧n≤32
  ·rw [if_pos hg]
   obtain ⟨g1,g2,g3,g4,g5,g6,g7⟩:=hg
   exact ⟨by simp [g1,g2,g3,g4,g5,g6,g7],rfl,rfl,rfl⟩
  ·rw [if_neg hg]
   cases okc<;>cases okw<;>cases okn<;>first | rfl | (simp;done) | (simp at hg ⊢;exact hg) | (simp at hg ⊢;intros;omega)
 rw [if_neg h2] at hc2
 have hT:n5 true a b=none:=by
  have h1:¬a.take 10=ccS:=h1
  have h2:¬a.take 16=combS:=h2
  unfold n5 x5
  rw [if_neg h1,if_neg h2]
 rw [hT]
 refine AL.Met.intro Tryz.func158 (by decide) Z Z Z ?_
 refine k2 ?_
 refine A3 (A2 (A5 Z Z) Z (A6 ?_))
 refine k1 (k2 ?_)
 refine A3 (A2 (A4 Z Z) Z (B9 (hc1) Z Z Z ?_));rintro _ rfl;refine A2 (A4 Z Z) Z (A2 (B2 Z Z) Z (A2 (B2 Z Z) Z (A2 (A5 Z Z) Z (A2 (A5 Z Z) Z (A6 ?_)))))
 refine k1 (k2 (k2 ?_))
 refine A3 (A2 (A4 Z Z) Z (A2 (F0 Z) Z (A6 ?_)))
 refine k1 ?_
 refine B1 rfl (fun ht=>?_) (fun ht=>?_)
 rotate_left
 ·cases ht
 refine k2 ?_
 refine A3 (A2 (A5 Z Z) Z (A6 ?_))
 refine k1 (k2 ?_)
 refine A3 (A2 (A4 Z Z) Z (B9 (hc2) Z Z Z ?_));rintro _ rfl;refine A2 (A4 Z Z) Z (A2 (B2 Z Z) Z (A2 (B2 Z Z) Z (A2 (A5 Z Z) Z (A2 (A5 Z Z) Z (A6 ?_)))))
 refine k1 (k2 ?_)
 refine A3 (A2 (A4 Z Z) Z (A2 (F0 Z) Z (A6 ?_)))
 refine k1 ?_
 refine B1 rfl (fun ht=>?_) (fun ht=>?_)
 rotate_left
 ·cases ht
 refine k2 ?_
 refine A3 (A2 (A5 Z Z) Z (A6 ?_))
 refine k1 (k10 (k11 ?_))
 exact I5 (c4 rfl rfl) (by repeat (first | exact E2 | refine tail_cons rfl ?_ | refine E3 _ ?_)) (fun _ _ h=>h) ⟨[],false,0,false,rfl,rfl,rfl⟩
def A31:CHunk→Nat→Cell
 | h,0=>.list Int 1 L1 h.At
 | h,_=>match h.Rows with
  | []=>.v (.slice none 0 0)
  | _::_=>.list Row 3 rowC h.Rows
abbrev E99 (w:Str) (d:Bool) (n:Int):Ob:=.box [.p (.v (.string ⟨w.toArray⟩)),.p (.v (.bool d)),.p (.v (.int .i64 n)),.mut 731]
abbrev U9 (w:Str) (d:Bool) (n:Int) (hs:List CHunk):Obs:=[(730,E99 w d n),(731,.grow 82 CHunk 2 A31 hs),(2,S0)]
abbrev V0 (w:Str) (d:Bool) (n:Int) (hs:List CHunk) (a:List Int) (rs:List Row):Obs :=
 [(730,E99 w d n),(731,.growA 82 CHunk 2 A31 hs (hs.length - 1) [.p (.list Int 1 L1 a),.mut 732]),(732,.grow 69 Row 3 rowC rs),(2,S0)]
abbrev gfL (x:Str) (R:List Str) (k:Nat):Fr:=[(1000032,H5 x),(1000031,.s (.one (.ref 730 0))),(1000004,.s (.one (.ref 730 0))),(1000002,.s (.one (.ref 2 0))),(1000025,D1 Str 1 K1 R),(1000026,C2 R.length),(1000027,C2 k),(1000006,H5 x)]
abbrev gfH (x:Str) (R:List Str) (k:Nat):Fr:=[(1000012,H5 x),(1000011,.s (.one (.ref 730 0))),(1000000,.s (.one (.ref 730 0))),(1000001,H5 x),(2000032,H5 x),(2000031,.s (.one (.ref 730 0))),(2000004,.s (.one (.ref 730 0))),(2000002,.s (.one (.ref 2 0))),(2000025,D1 Str 1 K1 R),(2000026,C2 R.length),(2000027,C2 k),(2000006,H5 x)]
theorem G85 {n k:Nat} {w:Str} {r:List Str} {a c:Int} {e:Nat} (h1:w.take 1=[g9 n k]) (h2:n8 (w.drop 1)=some (a,c,e)) (h3:e=(w.drop 1).length):O5 n k (w::r)=(O5 n (k+1) r).map (a::·):=by
 rw [O5,if_pos h1,h2]
 dsimp only
 rw [if_pos h3]
theorem H83 {n k:Nat} {w:Str} {r:List Str} (h1:w.take 1≠[g9 n k]):O5 n k (w::r)=none:=by rw [O5,if_neg h1]
theorem H84 {n k:Nat} {w:Str} {r:List Str} (h2:n8 (w.drop 1)=none):O5 n k (w::r)=none:=by
 rw [O5,h2];split<;>rfl
theorem H85 {n k:Nat} {w:Str} {r:List Str} {a c:Int} {e:Nat} (h2:n8 (w.drop 1)=some (a,c,e)) (h3:e≠(w.drop 1).length):O5 n k (w::r)=none:=by
 rw [O5,h2]
 dsimp only
 rw [if_neg h3];split<;>rfl
theorem F00 {n:Nat} {l:Str} (h:¬(l.take (n+2)=C50 n∧Q2 (l.drop (n+2)) (B99 n)=true)):A09 n l=none:=by unfold A09;rw [if_neg h]
theorem I44 {n:Nat} {l:Str} (h:l.take (n+2)=C50 n∧Q2 (l.drop (n+2)) (B99 n)=true):A09 n l=match O5 n 0 (M1 32 ((l.drop (n+2)).take ((l.drop (n+2)).length - (n+2)))) with
   | some a=>if a.length=n+1 then some a else none
   | none=>none:=by unfold A09;rw [if_pos h];rfl
set_option maxHeartbeats 4000000
theorem G19 (x:Str) (R:List Str) (k:Nat) (w:Str) (d:Bool) (N:Nat) (hs:List CHunk) (hN:1≤N∧N≤32) (hl:hs.length≤16777216) (hx:x.length≤4194304) :
  AL.Met Tryz.prog 223 [.one (.ref 730 0),.one (.p (.v (.string ⟨x.toArray⟩)))] (gfH x R k) (U9 w d N hs) [731]
   (fun rs ob'=>match A09 N x with
    | none=>rs=[tBo false]∧ob'=[(2,S0)]
    | some a=>rs=[tBo true]∧ob'=U9 w d N (hs++[⟨a,[]⟩])):=by
 have hrep:FnOk Tryz.prog 167 [F3 [64],E6 ((N:Int)+1)] (fun rs=>rs=[F3 (atS (N+1))]):=by
  have:=E93 64 (N+1) (by omega)
  rwa [show ((N+1:Nat):Int)=(N:Int)+1 by omega] at this
 have hal:=Z6 (N+1)
 have hpl:(C50 N).length=N+2:=by simp [C50,Z6]
 have hsl:(B99 N).length=N+2:=by simp [B99,Z6]
 have hcp:=j9 x (C50 N)
 unfold E47 at hcp
 rw [hpl] at hcp
 obtain ⟨H,hH⟩:∃H,H=A09 N x:=⟨_,rfl⟩
 rw [←hH]
 by_cases h1:x.take (N+2)=C50 N
 rotate_left
 ·rw [if_neg h1] at hcp
  have hno:H=none:=by rw [hH];exact F00 (fun h=>h1 h.1)
  rw [hno]
  refine AL.Met.intro Tryz.func223 (by decide) Z Z Z ?_
  refine k2 ?_
  refine A3 (A2 (A5 Z Z) Z (A6 ?_))
  refine k1 (k2 ?_)
  refine A3 (A2 (A4 Z Z) Z (A2 (B7 Z) Z (A2 (A7 Z) Z (A2 (A7 Z) Z (A2 (B0 Z Z Z) Z (A2 (C1 Z Z (by omega)) Z (B9 (hrep) Z Z Z ?_)))))));rintro _ rfl;refine A2 (A5 Z Z) Z (A6 ?_)
  refine k1 (k2 ?_)
  refine A3 (A2 (A4 Z Z) Z (A2 (A4 Z Z) Z (A2 (D9 Z Z (by (simp;omega))) Z (B9 (hcp) Z Z Z ?_))));rintro _ rfl;refine A2 (A4 Z Z) Z (A2 (B2 Z Z) Z (A2 (B2 Z Z) Z (A2 (A5 Z Z) Z (A2 (A5 Z Z) Z (A6 ?_)))))
  refine k1 (k2 (k2 ?_))
  refine A3 (A2 (A4 Z Z) Z (A2 (F0 Z) Z (A6 ?_)))
  refine k1 ?_
  refine B1 rfl (fun ht=>?_) (fun ht=>?_)
  ·refine k2 ?_
   refine F5 (Sees.forget 731) ?_
   refine A3 (A2 (A5 Z Z) Z (A6 ?_))
   refine k1 (k10 (k11 ?_))
   exact I5 (c4 rfl rfl) (by repeat (first | exact E2 | refine tail_cons rfl ?_ | refine E3 _ ?_)) (ObIn.spec (ob':=[(2,S0)]) ⟨rfl,trivial⟩) ⟨rfl,rfl⟩
  ·cases ht
 rw [if_pos h1] at hcp
 obtain ⟨y,hy⟩:∃y,y=x.drop (N+2):=⟨_,rfl⟩
 have hyl:y.length≤x.length:=by rw [hy,J12];omega
 have hcs:=E51 y (B99 N) (by omega)
 unfold E92 at hcs
 rw [hsl] at hcs
 rw [←hy] at hcp
 by_cases h2:Q2 y (B99 N)=true
 rotate_left
 ·rw [if_neg h2] at hcs
  have hno:H=none:=by rw [hH];exact F00 (fun h=>h2 (by rw [hy];exact h.2))
  rw [hno]
  refine AL.Met.intro Tryz.func223 (by decide) Z Z Z ?_
  refine k2 ?_
  refine A3 (A2 (A5 Z Z) Z (A6 ?_))
  refine k1 (k2 ?_)
  refine A3 (A2 (A4 Z Z) Z (A2 (B7 Z) Z (A2 (A7 Z) Z (A2 (A7 Z) Z (A2 (B0 Z Z Z) Z (A2 (C1 Z Z (by omega)) Z (B9 (hrep) Z Z Z ?_)))))));rintro _ rfl;refine A2 (A5 Z Z) Z (A6 ?_)
  refine k1 (k2 ?_)
  refine A3 (A2 (A4 Z Z) Z (A2 (A4 Z Z) Z (A2 (D9 Z Z (by (simp;omega))) Z (B9 (hcp) Z Z Z ?_))));rintro _ rfl;refine A2 (A4 Z Z) Z (A2 (B2 Z Z) Z (A2 (B2 Z Z) Z (A2 (A5 Z Z) Z (A2 (A5 Z Z) Z (A6 ?_)))))
  refine k1 (k2 (k2 ?_))
  refine A3 (A2 (A4 Z Z) Z (A2 (F0 Z) Z (A6 ?_)))
  refine k1 ?_
  refine B1 rfl (fun ht=>?_) (fun ht=>?_)
  ·cases ht
  refine k5 (k1 (k2 (k2 ?_)))
  refine A3 (A2 (A4 Z Z) Z (A2 (A4 Z Z) Z (A2 (D9 Z Z (by (simp;omega))) Z (B9 (hcs) Z Z Z ?_))));rintro _ rfl;refine A2 (A4 Z Z) Z (A2 (B2 Z Z) Z (A2 (B2 Z Z) Z (A2 (A5 Z Z) Z (A2 (A5 Z Z) Z (A6 ?_)))))
  refine k1 (k2 ?_)
  refine A3 (A2 (A4 Z Z) Z (A2 (F0 Z) Z (A6 ?_)))
  refine k1 ?_
  refine B1 rfl (fun ht=>?_) (fun ht=>?_)
  ·refine k2 ?_
   refine F5 (Sees.forget 731) ?_
   refine A3 (A2 (A5 Z Z) Z (A6 ?_))
   refine k1 (k10 (k11 ?_))
   exact I5 (c4 rfl rfl) (by repeat (first | exact E2 | refine tail_cons rfl ?_ | refine E3 _ ?_)) (ObIn.spec (ob':=[(2,S0)]) ⟨rfl,trivial⟩) ⟨rfl,rfl⟩
  ·cases ht
 rw [if_pos h2] at hcs
 rw [I44 ⟨h1,by rw [←hy];exact h2⟩,←hy] at hH
 obtain ⟨z,hz⟩:∃z,z=y.take (y.length - (N+2)):=⟨_,rfl⟩
 have hzl:z.length≤x.length:=by rw [hz,J15];omega
 rw [←hz] at hcs hH
 have hsp:=H69 z 32 (by omega)
 obtain ⟨W,hW⟩:∃W,W=M1 32 z:=⟨_,rfl⟩
 have hWl:W.length≤z.length+1:=by
  have h3:=n4 32 z
  have h4:z.count 32≤z.length:=List.count_le_length
  rw [hW];omega
 have hWm:∀v∈W,v.length≤16777216:=by
  intro v hv
  rw [hW] at hv
  have:=E32 z v hv
  omega
 rw [←hW] at hsp hH
 have hfail:O5 N 0 W=none→H=none:=fun h=>by rw [hH,h]
 have hdone:∀a,O5 N 0 W=some a→H=if a.length=N+1 then some a else none:=fun a h=>by rw [hH,h]
 refine AL.Met.intro Tryz.func223 (by decide) Z Z Z ?_
 refine k2 ?_
 refine A3 (A2 (A5 Z Z) Z (A6 ?_))
 refine k1 (k2 ?_)
 refine A3 (A2 (A4 Z Z) Z (A2 (B7 Z) Z (A2 (A7 Z) Z (A2 (A7 Z) Z (A2 (B0 Z Z Z) Z (A2 (C1 Z Z (by omega)) Z (B9 (hrep) Z Z Z ?_)))))));rintro _ rfl;refine A2 (A5 Z Z) Z (A6 ?_)
 refine k1 (k2 ?_)
 refine A3 (A2 (A4 Z Z) Z (A2 (A4 Z Z) Z (A2 (D9 Z Z (by (simp;omega))) Z (B9 (hcp) Z Z Z ?_))));rintro _ rfl;refine A2 (A4 Z Z) Z (A2 (B2 Z Z) Z (A2 (B2 Z Z) Z (A2 (A5 Z Z) Z (A2 (A5 Z Z) Z (A6 ?_)))))
 refine k1 (k2 (k2 ?_))
 refine A3 (A2 (A4 Z Z) Z (A2 (F0 Z) Z (A6 ?_)))
 refine k1 ?_
 refine B1 rfl (fun ht=>?_) (fun ht=>?_)
 ·cases ht
 refine k5 (k1 (k2 (k2 ?_)))
 refine A3 (A2 (A4 Z Z) Z (A2 (A4 Z Z) Z (A2 (D9 Z Z (by (simp;omega))) Z (B9 (hcs) Z Z Z ?_))));rintro _ rfl;refine A2 (A4 Z Z) Z (A2 (B2 Z Z) Z (A2 (B2 Z Z) Z (A2 (A5 Z Z) Z (A2 (A5 Z Z) Z (A6 ?_)))))
 refine k1 (k2 ?_)
 refine A3 (A2 (A4 Z Z) Z (A2 (F0 Z) Z (A6 ?_)))
 refine k1 ?_
 refine B1 rfl (fun ht=>?_) (fun ht=>?_)
 ·cases ht
 refine V5 [(0,.s (.one (.ref 730 0))),(6,H5 z),(1000012,H5 x),(1000011,.s (.one (.ref 730 0))),(1000000,.s (.one (.ref 730 0))),(1000001,H5 x),(2000032,H5 x),(2000031,.s (.one (.ref 730 0))),(2000004,.s (.one (.ref 730 0))),(2000002,.s (.one (.ref 2 0))),(2000025,D1 Str 1 K1 R),(2000026,C2 R.length),(2000027,C2 k),(2000006,H5 x)] (U9 w d N hs) (I72 ⟨le1 rfl,le1 rfl,le1 rfl,le1 rfl,le1 rfl,le1 rfl,le1 rfl,le1 rfl,le1 rfl,le1 rfl,le1 rfl,le1 rfl,le1 rfl,le1 rfl,trivial⟩ ⟨rfl,rfl,rfl,trivial⟩) ?_
 refine k5 (k1 (k2 ?_))
 refine A3 (A2 (F8 Z) Z (C3 (H1 740 Z) Z (E9 (C0 TySz.out Z Z Z Z Z Z) (A6 ?_))))
 refine k1 (k2 (k2 ?_))
 refine F5 (I83 741 Int 1 L1 3 (kb:=740) (o:=0) Z Z Z) ?_
 refine A3 (A2 (A4 Z Z) Z (B9 (hsp) Z Z Z ?_));rintro _ rfl;refine A2 (F1 Z (.pure _ _ _ _)) Z (A2 (A4 Z Z) Z (A6 ?_))
 refine k1 (k3 ?_)
 refine D3 (X:=Nat × List Int) (fun q=>([(0,.s (.one (.ref 730 0))),(8,.s (.one (.ref 740 0))),(45,D1 Str 1 K1 W),(46,C2 W.length),(47,C2 q.1),(1000012,H5 x),(1000011,.s (.one (.ref 730 0))),(1000000,.s (.one (.ref 730 0))),(1000001,H5 x),(2000032,H5 x),(2000031,.s (.one (.ref 730 0))),(2000004,.s (.one (.ref 730 0))),(2000002,.s (.one (.ref 2 0))),(2000025,D1 Str 1 K1 R),(2000026,C2 R.length),(2000027,C2 k),(2000006,H5 x)],[(730,E99 w d N),(731,.grow 82 CHunk 2 A31 hs),(2,S0),(740,.box [.buf 741 Int 1 L1 q.2,.p (.v (.slice none 0 0))]),(741,.spare q.2.length 1 3)])) (fun q=>q.1≤W.length∧q.2.length=q.1∧O5 N 0 W=(O5 N q.1 (W.drop q.1)).map (q.2++·)) (fun q=>W.length - q.1) (0,[]) ⟨Nat.zero_le _,rfl,by simp⟩ (I72 ⟨le1 rfl,le1 rfl,le1 rfl,le1 rfl,le1 rfl,le1 rfl,le1 rfl,le1 rfl,le1 rfl,le1 rfl,le1 rfl,le1 rfl,le1 rfl,le1 rfl,le1 rfl,le1 rfl,le1 rfl,trivial⟩ ⟨rfl,rfl,rfl,rfl,rfl,trivial⟩) ?_
 rintro ⟨j,a⟩ ⟨hj,haj,hp⟩
 dsimp only at hj haj hp ⊢
 refine k2 ?_
 refine A3 (A2 (D6 Z Z) Z (A6 ?_))
 refine k1 (k2 ?_)
 refine B1 rfl (fun ht=>?_) (fun ht=>?_)
 ·have hlt:j < W.length:=by have:=A0 ht;omega
  have hv:W[j]?=some W[j]:=by simp [hlt]
  have hvm:=hWm _ (J19 hlt)
  rw [J07 hlt] at hp
  obtain ⟨v,hvv⟩:∃v,v=W[j]:=⟨_,rfl⟩
  rw [←hvv] at hv hvm hp
  have hcv:=j9 v [g9 N j]
  unfold E47 at hcv
  refine k5 (k1 (k2 (k3 (k2 ?_))))
  refine A3 (A2 (A4 Z Z) Z (A2 (B3 Z (.pure _ _ _ _) Z (by omega) hv) Z (A2 (B6 Z Z) Z (A2 (A5 Z Z) Z (A2 (A5 Z Z) Z (A6 ?_))))))
  refine k1 (k2 ?_)
  refine A3 (A2 (A5 Z Z) Z (A6 ?_))
  refine L5 ?_
  refine j4 [(0,.s (.one (.ref 730 0))),(8,.s (.one (.ref 740 0))),(45,D1 Str 1 K1 W),(46,C2 W.length),(47,C2 j),(10,H5 v),(11,H5 [g9 N j]),(1000012,H5 x),(1000011,.s (.one (.ref 730 0))),(1000000,.s (.one (.ref 730 0))),(1000001,H5 x),(2000032,H5 x),(2000031,.s (.one (.ref 730 0))),(2000004,.s (.one (.ref 730 0))),(2000002,.s (.one (.ref 2 0))),(2000025,D1 Str 1 K1 R),(2000026,C2 R.length),(2000027,C2 k),(2000006,H5 x)] ([(730,E99 w d N),(731,.grow 82 CHunk 2 A31 hs),(2,S0),(740,.box [.buf 741 Int 1 L1 a,.p (.v (.slice none 0 0))]),(741,.spare a.length 1 3)]) ?_ ?_
  ·refine k2 ?_
   refine A3 (A2 (A4 Z Z) Z (A2 (A4 Z Z) Z (A2 (B7 Z) Z (A2 (A7 Z) Z (A2 (A7 Z) Z (A2 (B0 Z Z Z) Z (A2 (F6 Z Z) Z (A6 ?_))))))))
   refine k1 ?_
   refine B1 rfl (fun ht=>?_) (fun ht=>?_)
   ·have hjn:=A0 ht
    skip
    refine A3 (A2 (A5 Z Z) Z (A6 ?_))
    refine k1 ?_
    rw [show g9 N j=43 by unfold g9;rw [if_pos (by omega)]]
    exact I72 ⟨le1 rfl,le1 rfl,le1 rfl,le1 rfl,le1 rfl,le1 rfl,le1 rfl,le1 rfl,le1 rfl,le1 rfl,le1 rfl,le1 rfl,le1 rfl,le1 rfl,le1 rfl,le1 rfl,le1 rfl,le1 rfl,le1 rfl,trivial⟩ ⟨rfl,rfl,rfl,rfl,rfl,trivial⟩
   ·have hjn:=A1 ht
    refine k5 (k1 ?_)
    rw [show g9 N j=45 by unfold g9;rw [if_neg (by omega)]]
    exact I72 ⟨le1 rfl,le1 rfl,le1 rfl,le1 rfl,le1 rfl,le1 rfl,le1 rfl,le1 rfl,le1 rfl,le1 rfl,le1 rfl,le1 rfl,le1 rfl,le1 rfl,le1 rfl,le1 rfl,le1 rfl,le1 rfl,le1 rfl,trivial⟩ ⟨rfl,rfl,rfl,rfl,rfl,trivial⟩
  by_cases h3:v.take 1=[g9 N j]
  rotate_left
  ·have hcv:FnOk Tryz.prog 213 [F3 v,F3 [g9 N j]] (fun rs=>rs=[F3 v,E0 false]):=by
    have h4:¬v.take ([g9 N j]:Str).length=[g9 N j]:=h3
    rw [if_neg h4] at hcv;exact hcv
   have hno:H=none:=hfail (by rw [hp,H83 h3];rfl)
   have hrg:=E88 v 0 (Nat.zero_le _) (by omega)
   rw [hno]
   cases g:n8 v with
   | none =>
    rw [E96 (by rw [List.drop_zero];exact g)] at hrg
    refine k2 ?_
    refine A3 (A2 (A4 Z Z) Z (A2 (A4 Z Z) Z (B9 (hcv) Z Z Z ?_)));rintro _ rfl;refine A2 (A4 Z Z) Z (A2 (B2 Z Z) Z (A2 (B2 Z Z) Z (A2 (A5 Z Z) Z (A2 (A5 Z Z) Z (A6 ?_)))))
    refine k1 (k2 ?_)
    refine A3 (A2 (A4 Z Z) Z (B9 (hrg) Z Z Z ?_));rintro _ rfl;refine A2 (A4 Z Z) Z (A2 (B2 Z Z) Z (A2 (B2 Z Z) Z (A2 (B2 Z Z) Z (A2 (B2 Z Z) Z (A2 (A5 Z Z) Z (A2 (A5 Z Z) Z (A2 (A5 Z Z) Z (A2 (A5 Z Z) Z (A6 ?_)))))))))
    refine k1 (k2 (k2 ?_))
    refine A3 (A2 (A4 Z Z) Z (A2 (F0 Z) Z (A2 (A4 Z Z) Z (A9 Z Z Z Z (fun hg=>by rw [hg];exact A4 Z Z) ?_))));refine A9 Z Z Z Z (fun hg=>by rw [hg];exact F0 Z) ?_;refine A2 (B4 Z (fun h=>by first | rfl | (rw [h];rfl)) (fun h=>by first | rfl | (rw [h];rfl))) Z ?_;refine A2 (A4 Z Z) Z (A9 Z Z Z Z (fun hg=>by rw [hg];exact A4 Z Z) ?_);refine A9 Z Z Z Z (fun hg=>by rw [hg];exact A4 Z Z) ?_;refine A9 Z Z Z Z (fun hg=>by rw [hg];exact E4 Z) ?_;refine A9 Z Z Z Z (fun hg=>by rw [hg];exact M5 Z Z) ?_;refine A2 (B4 Z (fun h=>by first | rfl | (rw [h];rfl)) (fun h=>by first | rfl | (rw [h];rfl))) Z ?_;refine A6 ?_
    refine k1 ?_
    refine B1 rfl (fun ht=>?_) (fun ht=>?_)
    ·refine k2 ?_
     refine F5 (Sees.forget 731) ?_
     refine A3 (A2 (A5 Z Z) Z (A6 ?_))
     refine k1 (k10 (k11 (k12 (k11 (k11 (k12 (k11 ?_)))))))
     exact I5 (c4 rfl rfl) (by repeat (first | exact E2 | refine tail_cons rfl ?_ | refine E3 _ ?_)) (ObIn.spec (ob':=[(2,S0)]) ⟨rfl,trivial⟩) ⟨rfl,rfl⟩
    ·exfalso;revert ht;simp
   | some q =>
    obtain ⟨s,c,e⟩:=q
    rw [E97 (k:=e) (by rw [List.drop_zero];exact g)] at hrg
    refine k2 ?_
    refine A3 (A2 (A4 Z Z) Z (A2 (A4 Z Z) Z (B9 (hcv) Z Z Z ?_)));rintro _ rfl;refine A2 (A4 Z Z) Z (A2 (B2 Z Z) Z (A2 (B2 Z Z) Z (A2 (A5 Z Z) Z (A2 (A5 Z Z) Z (A6 ?_)))))
    refine k1 (k2 ?_)
    refine A3 (A2 (A4 Z Z) Z (B9 (hrg) Z Z Z ?_));rintro _ rfl;refine A2 (A4 Z Z) Z (A2 (B2 Z Z) Z (A2 (B2 Z Z) Z (A2 (B2 Z Z) Z (A2 (B2 Z Z) Z (A2 (A5 Z Z) Z (A2 (A5 Z Z) Z (A2 (A5 Z Z) Z (A2 (A5 Z Z) Z (A6 ?_)))))))))
    refine k1 (k2 (k2 ?_))
    refine A3 (A2 (A4 Z Z) Z (A2 (F0 Z) Z (A2 (A4 Z Z) Z (A9 Z Z Z Z (fun hg=>by rw [hg];exact A4 Z Z) ?_))));refine A9 Z Z Z Z (fun hg=>by rw [hg];exact F0 Z) ?_;refine A2 (B4 Z (fun h=>by first | rfl | (rw [h];rfl)) (fun h=>by first | rfl | (rw [h];rfl))) Z ?_;refine A2 (A4 Z Z) Z (A9 Z Z Z Z (fun hg=>by rw [hg];exact A4 Z Z) ?_);refine A9 Z Z Z Z (fun hg=>by rw [hg];exact A4 Z Z) ?_;refine A9 Z Z Z Z (fun hg=>by rw [hg];exact E4 Z) ?_;refine A9 Z Z Z Z (fun hg=>by rw [hg];exact M5 Z Z) ?_;refine A2 (B4 Z (fun h=>by first | rfl | (rw [h];rfl)) (fun h=>by first | rfl | (rw [h];rfl))) Z ?_;refine A6 ?_
    refine k1 ?_
    refine B1 rfl (fun ht=>?_) (fun ht=>?_)
    ·refine k2 ?_
     refine F5 (Sees.forget 731) ?_
     refine A3 (A2 (A5 Z Z) Z (A6 ?_))
     refine k1 (k10 (k11 (k12 (k11 (k11 (k12 (k11 ?_)))))))
     exact I5 (c4 rfl rfl) (by repeat (first | exact E2 | refine tail_cons rfl ?_ | refine E3 _ ?_)) (ObIn.spec (ob':=[(2,S0)]) ⟨rfl,trivial⟩) ⟨rfl,rfl⟩
    ·exfalso;revert ht;simp
  have hcv:FnOk Tryz.prog 213 [F3 v,F3 [g9 N j]] (fun rs=>rs=[F3 (v.drop 1),E0 true]):=by
   have h4:v.take ([g9 N j]:Str).length=[g9 N j]:=h3
   rw [if_pos h4] at hcv;exact hcv
  obtain ⟨u,huu⟩:∃u,u=v.drop 1:=⟨_,rfl⟩
  have hul:u.length≤16777216:=by rw [huu,J12];omega
  rw [←huu] at hcv
  have hrg:=E88 u 0 (Nat.zero_le _) (by omega)
  cases g:n8 u with
  | none =>
   rw [E96 (by rw [List.drop_zero];exact g)] at hrg
   have hno:H=none:=hfail (by rw [hp,H84 (by rw [←huu];exact g)];rfl)
   rw [hno]
   refine k2 ?_
   refine A3 (A2 (A4 Z Z) Z (A2 (A4 Z Z) Z (B9 (hcv) Z Z Z ?_)));rintro _ rfl;refine A2 (A4 Z Z) Z (A2 (B2 Z Z) Z (A2 (B2 Z Z) Z (A2 (A5 Z Z) Z (A2 (A5 Z Z) Z (A6 ?_)))))
   refine k1 (k2 ?_)
   refine A3 (A2 (A4 Z Z) Z (B9 (hrg) Z Z Z ?_));rintro _ rfl;refine A2 (A4 Z Z) Z (A2 (B2 Z Z) Z (A2 (B2 Z Z) Z (A2 (B2 Z Z) Z (A2 (B2 Z Z) Z (A2 (A5 Z Z) Z (A2 (A5 Z Z) Z (A2 (A5 Z Z) Z (A2 (A5 Z Z) Z (A6 ?_)))))))))
   refine k1 (k2 (k2 ?_))
   refine A3 (A2 (A4 Z Z) Z (A2 (F0 Z) Z (A2 (A4 Z Z) Z (A9 Z Z Z Z (fun hg=>by rw [hg];exact A4 Z Z) ?_))));refine A9 Z Z Z Z (fun hg=>by rw [hg];exact F0 Z) ?_;refine A2 (B4 Z (fun h=>by first | rfl | (rw [h];rfl)) (fun h=>by first | rfl | (rw [h];rfl))) Z ?_;refine A2 (A4 Z Z) Z (A9 Z Z Z Z (fun hg=>by rw [hg];exact A4 Z Z) ?_);refine A9 Z Z Z Z (fun hg=>by rw [hg];exact A4 Z Z) ?_;refine A9 Z Z Z Z (fun hg=>by rw [hg];exact E4 Z) ?_;refine A9 Z Z Z Z (fun hg=>by rw [hg];exact M5 Z Z) ?_;refine A2 (B4 Z (fun h=>by first | rfl | (rw [h];rfl)) (fun h=>by first | rfl | (rw [h];rfl))) Z ?_;refine A6 ?_
   refine k1 ?_
   refine B1 rfl (fun ht=>?_) (fun ht=>?_)
   ·refine k2 ?_
    refine F5 (Sees.forget 731) ?_
    refine A3 (A2 (A5 Z Z) Z (A6 ?_))
    refine k1 (k10 (k11 (k12 (k11 (k11 (k12 (k11 ?_)))))))
    exact I5 (c4 rfl rfl) (by repeat (first | exact E2 | refine tail_cons rfl ?_ | refine E3 _ ?_)) (ObIn.spec (ob':=[(2,S0)]) ⟨rfl,trivial⟩) ⟨rfl,rfl⟩
   ·exfalso;revert ht;simp
  | some q =>
   obtain ⟨s,c,e⟩:=q
   rw [E97 (k:=e) (by rw [List.drop_zero];exact g),Nat.zero_add] at hrg
   by_cases he:e=u.length
   rotate_left
   ·have hno:H=none:=hfail (by rw [hp,H85 (by rw [←huu];exact g) (by rw [←huu];exact he)];rfl)
    rw [hno]
    refine k2 ?_
    refine A3 (A2 (A4 Z Z) Z (A2 (A4 Z Z) Z (B9 (hcv) Z Z Z ?_)));rintro _ rfl;refine A2 (A4 Z Z) Z (A2 (B2 Z Z) Z (A2 (B2 Z Z) Z (A2 (A5 Z Z) Z (A2 (A5 Z Z) Z (A6 ?_)))))
    refine k1 (k2 ?_)
    refine A3 (A2 (A4 Z Z) Z (B9 (hrg) Z Z Z ?_));rintro _ rfl;refine A2 (A4 Z Z) Z (A2 (B2 Z Z) Z (A2 (B2 Z Z) Z (A2 (B2 Z Z) Z (A2 (B2 Z Z) Z (A2 (A5 Z Z) Z (A2 (A5 Z Z) Z (A2 (A5 Z Z) Z (A2 (A5 Z Z) Z (A6 ?_)))))))))
    refine k1 (k2 (k2 ?_))
    refine A3 (A2 (A4 Z Z) Z (A2 (F0 Z) Z (A2 (A4 Z Z) Z (A9 Z Z Z Z (fun hg=>by rw [hg];exact A4 Z Z) ?_))));refine A9 Z Z Z Z (fun hg=>by rw [hg];exact F0 Z) ?_;refine A2 (B4 Z (fun h=>by first | rfl | (rw [h];rfl)) (fun h=>by first | rfl | (rw [h];rfl))) Z ?_;refine A2 (A4 Z Z) Z (A9 Z Z Z Z (fun hg=>by rw [hg];exact A4 Z Z) ?_);refine A9 Z Z Z Z (fun hg=>by rw [hg];exact A4 Z Z) ?_;refine A9 Z Z Z Z (fun hg=>by rw [hg];exact E4 Z) ?_;refine A9 Z Z Z Z (fun hg=>by rw [hg];exact M5 Z Z) ?_;refine A2 (B4 Z (fun h=>by first | rfl | (rw [h];rfl)) (fun h=>by first | rfl | (rw [h];rfl))) Z ?_;refine A6 ?_
    refine k1 ?_
    refine B1 rfl (fun ht=>?_) (fun ht=>?_)
    ·refine k2 ?_
     refine F5 (Sees.forget 731) ?_
     refine A3 (A2 (A5 Z Z) Z (A6 ?_))
     refine k1 (k10 (k11 (k12 (k11 (k11 (k12 (k11 ?_)))))))
     exact I5 (c4 rfl rfl) (by repeat (first | exact E2 | refine tail_cons rfl ?_ | refine E3 _ ?_)) (ObIn.spec (ob':=[(2,S0)]) ⟨rfl,trivial⟩) ⟨rfl,rfl⟩
    ·exfalso;revert ht;simp;omega
   rw [G85 h3 (by rw [←huu];exact g) (by rw [←huu];exact he),Option.map_map] at hp
   refine k2 ?_
   refine A3 (A2 (A4 Z Z) Z (A2 (A4 Z Z) Z (B9 (hcv) Z Z Z ?_)));rintro _ rfl;refine A2 (A4 Z Z) Z (A2 (B2 Z Z) Z (A2 (B2 Z Z) Z (A2 (A5 Z Z) Z (A2 (A5 Z Z) Z (A6 ?_)))))
   refine k1 (k2 ?_)
   refine A3 (A2 (A4 Z Z) Z (B9 (hrg) Z Z Z ?_));rintro _ rfl;refine A2 (A4 Z Z) Z (A2 (B2 Z Z) Z (A2 (B2 Z Z) Z (A2 (B2 Z Z) Z (A2 (B2 Z Z) Z (A2 (A5 Z Z) Z (A2 (A5 Z Z) Z (A2 (A5 Z Z) Z (A2 (A5 Z Z) Z (A6 ?_)))))))))
   refine k1 (k2 (k2 ?_))
   refine A3 (A2 (A4 Z Z) Z (A2 (F0 Z) Z (A2 (A4 Z Z) Z (A9 Z Z Z Z (fun hg=>by rw [hg];exact A4 Z Z) ?_))));refine A9 Z Z Z Z (fun hg=>by rw [hg];exact F0 Z) ?_;refine A2 (B4 Z (fun h=>by first | rfl | (rw [h];rfl)) (fun h=>by first | rfl | (rw [h];rfl))) Z ?_;refine A2 (A4 Z Z) Z (A9 Z Z Z Z (fun hg=>by rw [hg];exact A4 Z Z) ?_);refine A9 Z Z Z Z (fun hg=>by rw [hg];exact A4 Z Z) ?_;refine A9 Z Z Z Z (fun hg=>by rw [hg];exact E4 Z) ?_;refine A9 Z Z Z Z (fun hg=>by rw [hg];exact M5 Z Z) ?_;refine A2 (B4 Z (fun h=>by first | rfl | (rw [h];rfl)) (fun h=>by first | rfl | (rw [h];rfl))) Z ?_;refine A6 ?_
   refine k1 ?_
   refine B1 rfl (fun ht=>?_) (fun ht=>?_)
   ·exfalso;revert ht;simp;omega
   refine V5 [(0,.s (.one (.ref 730 0))),(8,.s (.one (.ref 740 0))),(45,D1 Str 1 K1 W),(46,C2 W.length),(47,C2 j),(14,C2 s),(1000012,H5 x),(1000011,.s (.one (.ref 730 0))),(1000000,.s (.one (.ref 730 0))),(1000001,H5 x),(2000032,H5 x),(2000031,.s (.one (.ref 730 0))),(2000004,.s (.one (.ref 730 0))),(2000002,.s (.one (.ref 2 0))),(2000025,D1 Str 1 K1 R),(2000026,C2 R.length),(2000027,C2 k),(2000006,H5 x)] ([(730,E99 w d N),(731,.grow 82 CHunk 2 A31 hs),(2,S0),(740,.box [.buf 741 Int 1 L1 a,.p (.v (.slice none 0 0))]),(741,.spare a.length 1 3)]) (I72 ⟨le1 rfl,le1 rfl,le1 rfl,le1 rfl,le1 rfl,le1 rfl,le1 rfl,le1 rfl,le1 rfl,le1 rfl,le1 rfl,le1 rfl,le1 rfl,le1 rfl,le1 rfl,le1 rfl,le1 rfl,le1 rfl,trivial⟩ ⟨rfl,rfl,rfl,rfl,rfl,trivial⟩) ?_
   refine k5 (k1 ?_)
   refine A3 (A2 (A7 Z) Z (A2 (B0 Z Z Z) Z (A2 (A4 Z Z) Z (A2 (C9 (c:=L1) (ys:=[s]) (E1 Z Z Z Z F4) Z Z Z) Z (C3 (G7 Z Z Z (.pure _ _ _ _) (by (simp only [J02,J05];omega)) Z) Z (A2 (A7 Z) Z (E9 (C0 TySz.out Z Z Z Z Z Z) (A6 ?_))))))))
   refine k4 (k1 ?_)
   refine A3 (A2 (C1 Z Z (by omega)) Z (A2 (A4 Z Z) Z (A6 ?_)))
   refine k1 ?_
   refine ⟨(j+1,a++[s]),⟨by dsimp only;omega,by dsimp only;rw [J01];simp;omega,?_⟩,by dsimp only;omega,I72 ⟨le1 rfl,le1 rfl,le1 rfl,le1 rfl,le1 rfl,le1 rfl,le1 rfl,le1 rfl,le1 rfl,le1 rfl,le1 rfl,le1 rfl,le1 rfl,le1 rfl,le1 rfl,le1 rfl,le1 rfl,trivial⟩ ⟨rfl,rfl,rfl,rfl,rfl,trivial⟩⟩
   dsimp only
   rw [hp]
   congr 1
   funext q
   simp
 ·have hjl:j=W.length:=by have:=A1 ht;omega
  rw [hjl,J11 (Nat.le_refl _)] at hp
  have hp:O5 N 0 W=some a:=by rw [hp,O5];simp
  have hHa:=hdone a hp
  refine V5 [(0,.s (.one (.ref 730 0))),(8,.s (.one (.ref 740 0))),(1000012,H5 x),(1000011,.s (.one (.ref 730 0))),(1000000,.s (.one (.ref 730 0))),(1000001,H5 x),(2000032,H5 x),(2000031,.s (.one (.ref 730 0))),(2000004,.s (.one (.ref 730 0))),(2000002,.s (.one (.ref 2 0))),(2000025,D1 Str 1 K1 R),(2000026,C2 R.length),(2000027,C2 k),(2000006,H5 x)] ([(730,E99 w d N),(731,.grow 82 CHunk 2 A31 hs),(2,S0),(740,.box [.buf 741 Int 1 L1 a,.p (.v (.slice none 0 0))]),(741,.spare a.length 1 3)]) (I72 ⟨le1 rfl,le1 rfl,le1 rfl,le1 rfl,le1 rfl,le1 rfl,le1 rfl,le1 rfl,le1 rfl,le1 rfl,le1 rfl,le1 rfl,le1 rfl,le1 rfl,trivial⟩ ⟨rfl,rfl,rfl,rfl,rfl,trivial⟩) ?_
  refine k6 (k2 ?_)
  refine y5 [12,8] [[],[8],[12,8]] [(8,([731],[96])),(12,([],[]))] [(0,[]),(1,[]),(2,[]),(3,[]),(4,[]),(5,[]),(6,[]),(7,[]),(8,[]),(9,[8]),(10,[8]),(11,[8]),(12,[8])] [(0,[8])] (by kernel_rfl) (by kernel_rfl) (K8 Z Z (by kernel_rfl) Z Z (A4 Z Z) (K8 Z Z (by kernel_rfl) Z Z (A4 Z Z) (K8 Z Z (by kernel_rfl) Z Z (B7 Z) (K8 Z Z (by kernel_rfl) Z Z (A7 Z) (K8 Z Z (by kernel_rfl) Z Z (A7 Z) (K8 Z Z (by kernel_rfl) Z Z (B0 Z Z Z) (K8 Z Z (by kernel_rfl) Z Z (D4 Z Z Z) (K8 Z Z (by kernel_rfl) Z Z (C9 (c:=A31) (ys:=[⟨a,[]⟩]) (E1 Z Z Z Z F4) Z Z Z) (C20 Z Z (by kernel_rfl) Z Z (G69 (fun frc hU=>o7 (A98 hU Z) Z (A98 hU Z) (.pure _ _ _ _) (by (simp;omega)) Z)) Z (K8 Z Z (by kernel_rfl) Z Z (B7 Z) (K8 Z Z (by kernel_rfl) Z Z (A7 Z) (K8 Z Z (by kernel_rfl) Z Z (A7 Z) (C20 Z Z (by kernel_rfl) Z Z (H31 (fun frc hU=>C0 TySz.out (A98 hU Z) Z (A98 hU Z) Z Z Z)) Z ?_)))))))))))));refine H28 (by kernel_rfl) rfl ?_ ?_
  ·refine n7 Z Z (by kernel_rfl) Z Z (A4 Z Z) ?_;exact H29
  refine k1 (k2 ?_)
  refine C4 (by kernel_rfl) (by kernel_rfl) (A8 (A7 Z) Z Z (A8 (B0 Z Z Z) Z Z (A8 (F1 Z (.buf _ _ _ _ _)) Z Z (A8 (A4 Z Z) Z Z (A8 (B7 Z) Z Z (A8 (A7 Z) Z Z (A8 (A7 Z) Z Z (A8 (B0 Z Z Z) Z Z (A8 (C1 Z Z (by omega)) Z Z (A8 (F6 Z Z) Z Z (A8 (A5 Z Z) Z Z (H9 ?_))))))))))))
  refine k1 (k10 ?_)
  by_cases hal2:a.length=N+1
  ·rw [if_pos hal2] at hHa
   rw [hHa]
   refine I5 (ob':=U9 w d N (hs++[⟨a,[]⟩])) (c4 rfl rfl) (by repeat (first | exact E2 | refine tail_cons rfl ?_ | refine E3 _ ?_)) (ObIn.spec ⟨rfl,rfl,rfl,trivial⟩) ⟨?_,rfl⟩
   rw [decide_eq_true (by omega)]
  ·rw [if_neg hal2] at hHa
   rw [hHa]
   refine I5 (ob':=[(2,S0)]) (c4 rfl rfl) (by repeat (first | exact E2 | refine tail_cons rfl ?_ | refine E3 _ ?_)) (ObIn.spec ⟨rfl,trivial⟩) ⟨?_,rfl⟩
   rw [decide_eq_false (by omega)]
set_option maxHeartbeats 4000000
theorem I45 (x:Str) (R:List Str) (k:Nat) (w:Str) (d:Bool) (N:Nat) (hs:List CHunk) (hN:1≤N∧N≤32) (hl:hs.length≤16777216) (hx:x.length≤4194304) (h64:x.take 1=[64]) :
  AL.Met Tryz.prog 159 [.one (.ref 730 0),.one (.p (.v (.string ⟨x.toArray⟩)))] (gfL x R k) (U9 w d N hs) [731]
   (fun rs ob'=>match A09 N x with
    | none=>rs=[tBo false]∧ob'=[(2,S0)]
    | some a=>rs=[tBo true]∧ob'=U9 w d N (hs++[⟨a,[]⟩])):=by
 have hh:=G19 x R k w d N hs hN hl hx
 have hp:=y6 x [64]
 rw [show ([64]:Str).length=1 from rfl,decide_eq_true h64] at hp
 cases hH:A09 N x with
 | none =>
  rw [hH] at hh
  refine AL.Met.intro Tryz.func159 (by decide) Z Z Z ?_
  refine k2 ?_
  refine A3 (A2 (A5 Z Z) Z (A6 ?_))
  refine k1 (k2 (k2 ?_))
  refine A3 (A2 (A4 Z Z) Z (B9 (hp) Z Z Z ?_));rintro _ rfl;refine A6 ?_
  refine k1 ?_
  refine B1 rfl (fun ht=>?_) (fun ht=>?_)
  rotate_left
  ·cases ht
  refine V5 [(0,.s (.one (.ref 730 0))),(1,H5 x),(1000032,H5 x),(1000031,.s (.one (.ref 730 0))),(1000004,.s (.one (.ref 730 0))),(1000002,.s (.one (.ref 2 0))),(1000025,D1 Str 1 K1 R),(1000026,C2 R.length),(1000027,C2 k),(1000006,H5 x)] (U9 w d N hs) (I72 ⟨le1 rfl,le1 rfl,le1 rfl,le1 rfl,le1 rfl,le1 rfl,le1 rfl,le1 rfl,le1 rfl,le1 rfl,trivial⟩ ⟨rfl,rfl,rfl,trivial⟩) ?_
  refine k2 ?_
  refine A3 (A2 (A4 Z Z) Z (A2 (A4 Z Z) Z (V6 (hh) Z Z Z ?_)));rintro _ _ ⟨rfl,rfl⟩;refine A2 (A5 Z Z) Z (A6 ?_)
  refine k1 (k10 (k11 ?_))
  exact I5 (c4 rfl rfl) (by repeat (first | exact E2 | refine tail_cons rfl ?_ | refine E3 _ ?_)) (ObIn.spec (ob':=[(2,S0)]) ⟨rfl,trivial⟩) ⟨rfl,rfl⟩
 | some a =>
  rw [hH] at hh
  refine AL.Met.intro Tryz.func159 (by decide) Z Z Z ?_
  refine k2 ?_
  refine A3 (A2 (A5 Z Z) Z (A6 ?_))
  refine k1 (k2 (k2 ?_))
  refine A3 (A2 (A4 Z Z) Z (B9 (hp) Z Z Z ?_));rintro _ rfl;refine A6 ?_
  refine k1 ?_
  refine B1 rfl (fun ht=>?_) (fun ht=>?_)
  rotate_left
  ·cases ht
  refine V5 [(0,.s (.one (.ref 730 0))),(1,H5 x),(1000032,H5 x),(1000031,.s (.one (.ref 730 0))),(1000004,.s (.one (.ref 730 0))),(1000002,.s (.one (.ref 2 0))),(1000025,D1 Str 1 K1 R),(1000026,C2 R.length),(1000027,C2 k),(1000006,H5 x)] (U9 w d N hs) (I72 ⟨le1 rfl,le1 rfl,le1 rfl,le1 rfl,le1 rfl,le1 rfl,le1 rfl,le1 rfl,le1 rfl,le1 rfl,trivial⟩ ⟨rfl,rfl,rfl,trivial⟩) ?_
  refine k2 ?_
  refine A3 (A2 (A4 Z Z) Z (A2 (A4 Z Z) Z (V6 (hh) Z Z Z ?_)));rintro _ _ ⟨rfl,rfl⟩;refine A2 (A5 Z Z) Z (A6 ?_)
  refine k1 (k10 (k11 ?_))
  exact I5 (c4 rfl rfl) (by repeat (first | exact E2 | refine tail_cons rfl ?_ | refine E3 _ ?_)) (ObIn.spec (ob':=U9 w d N (hs++[⟨a,[]⟩])) ⟨rfl,rfl,rfl,trivial⟩) ⟨rfl,rfl⟩
theorem H86 (x:Str) (R:List Str) (k:Nat) (w:Str) (d:Bool) (N:Nat) (h64:x.take 1≠[64]) :
  AL.Met Tryz.prog 159 [.one (.ref 730 0),.one (.p (.v (.string ⟨x.toArray⟩)))] (gfL x R k) (U9 w d N []) [732] (fun rs ob'=>rs=[tBo false]∧ob'=[(2,S0)]):=by
 have hp:=y6 x [64]
 rw [show ([64]:Str).length=1 from rfl,decide_eq_false h64] at hp
 refine AL.Met.intro Tryz.func159 (by decide) Z Z Z ?_
 refine k2 ?_
 refine A3 (A2 (A5 Z Z) Z (A6 ?_))
 refine k1 (k2 (k2 ?_))
 refine A3 (A2 (A4 Z Z) Z (B9 (hp) Z Z Z ?_));rintro _ rfl;refine A6 ?_
 refine k1 ?_
 refine B1 rfl (fun ht=>?_) (fun ht=>?_)
 ·cases ht
 refine k5 (k1 (k2 (k2 ?_)))
 refine A3 (A2 (A4 Z Z) Z (A2 (B7 Z) Z (A2 (A7 Z) Z (A2 (A7 Z) Z (A2 (B0 Z Z Z) Z (A2 (A61 Z Z) Z (A2 (F6 Z Z) Z (A6 ?_))))))))
 refine k1 ?_
 refine B1 rfl (fun ht=>?_) (fun ht=>?_)
 ·refine k2 ?_
  refine F5 (Sees.forget 732) ?_
  refine A3 (A2 (A5 Z Z) Z (A6 ?_))
  refine k1 (k10 (k11 ?_))
  exact I5 (c4 rfl rfl) (by repeat (first | exact E2 | refine tail_cons rfl ?_ | refine E3 _ ?_)) (ObIn.spec (ob':=[(2,S0)]) ⟨rfl,trivial⟩) ⟨rfl,rfl⟩
 ·cases ht
theorem H87 (R:List Str) (k:Nat) (w:Str) (d:Bool) (N:Nat) (hs:List CHunk) (a:List Int) (rs:List Row) (h0:0 < hs.length) (hl:hs.length≤16777216) (hrl:rs.length≤16777216) (htx:∀r∈rs,r.Text.length≤1073741824) :
  AL.Met Tryz.prog 159 [.one (.ref 730 0),.one (.p (.v (.string ⟨noNl.toArray⟩)))] (gfL noNl R k) (V0 w d N hs a rs) []
   (fun res ob'=>match rs.getLast? with
    | none=>res=[tBo false]∧ob'=[(2,S0)]
    | some r=>res=[tBo true]∧ob'=V0 w d N hs a (rs.dropLast++[⟨r.Lost,r.Marks,B37 r.Text⟩])):=by
 have hp:=y6 noNl [64]
 rw [show decide (noNl.take ([64]:Str).length=[64])=false from rfl] at hp
 have hne0:decide ((hs.length:Int)=0)=false:=decide_eq_false (by omega)
 cases hx:rs.getLast? with
 | none =>
  have hn:rs=[]:=List.getLast?_eq_none_iff.1 hx
  subst hn
  refine AL.Met.intro Tryz.func159 (by decide) Z Z Z ?_
  refine k2 ?_
  refine A3 (A2 (A5 Z Z) Z (A6 ?_))
  refine k1 (k2 (k2 ?_))
  refine A3 (A2 (A4 Z Z) Z (B9 (hp) Z Z Z ?_));rintro _ rfl;refine A6 ?_
  refine k1 ?_
  refine B1 rfl (fun ht=>?_) (fun ht=>?_)
  ·cases ht
  refine k5 (k1 (k2 (k2 ?_)))
  refine A3 (A2 (A4 Z Z) Z (A2 (B7 Z) Z (A2 (A7 Z) Z (A2 (A7 Z) Z (A2 (B0 Z Z Z) Z (A2 (u4 Z Z) Z (A2 (F6 Z Z) Z (A6 ?_))))))))
  refine k1 ?_
  refine B1 rfl (fun ht=>?_) (fun ht=>?_)
  ·exact absurd (A0 ht) (by omega)
  refine k5 (k1 (k2 ?_))
  refine C4 (by kernel_rfl) (by kernel_rfl) (A8 (A4 Z Z) Z Z (A8 (B7 Z) Z Z (A8 (A7 Z) Z Z (A8 (A7 Z) Z Z (A8 (B0 Z Z Z) Z Z (A8 (A4 Z Z) Z Z (A8 (B7 Z) Z Z (A8 (A7 Z) Z Z (A8 (A7 Z) Z Z (A8 (B0 Z Z Z) Z Z (A8 (u4 Z Z) Z Z (A8 (Q7 Z Z (by omega)) Z Z (A8 (j6 Z Z Z (by omega) (by omega)) Z Z (A8 (A5 Z Z) Z Z (H9 ?_)))))))))))))))
  refine k1 (k2 (k2 ?_))
  refine A3 (A2 (A4 Z Z) Z (A2 (V3 Z Z) Z (A6 ?_)))
  refine k1 ?_
  refine B1 rfl (fun ht=>?_) (fun ht=>?_)
  rotate_left
  ·exact absurd rfl (A1 ht)
  refine k2 (k2 ?_)
  refine A3 (A2 (A4 Z Z) Z (A2 (J8 Z) Z (A2 (K0 Z) Z (A2 (z6 Z Z (by first | rfl | omega) Z) Z ?_))));refine A2 (A61 Z Z) Z (A2 (F6 Z Z) Z (A6 ?_))
  refine k1 ?_
  refine B1 rfl (fun ht=>?_) (fun ht=>?_)
  rotate_left
  ·exact absurd rfl (A1 ht)
  refine k2 ?_
  refine A3 (A2 (A5 Z Z) Z (A6 ?_))
  refine k1 (k10 (k11 (k11 ?_)))
  exact I5 (c4 rfl rfl) (by repeat (first | exact E2 | refine tail_cons rfl ?_ | refine E3 _ ?_)) (ObIn.spec (ob':=[(2,S0)]) ⟨rfl,trivial⟩) ⟨rfl,rfl⟩
 | some r =>
  have hne:rs≠[]:=fun e=>by rw [e] at hx;cases hx
  have hlen:=List.length_pos_iff.2 hne
  have hv:rs[((rs.length:Int) - 1).toNat]?=some r:=by rw [show ((rs.length:Int) - 1).toNat=rs.length - 1 by omega,←List.getLast?_eq_getElem?];exact hx
  have hset:∀y:Row,rs.set (((rs.length:Int) - 1).toNat) y=rs.dropLast++[y]:=by
   intro y
   rw [show ((rs.length:Int) - 1).toNat=rs.length - 1 by omega]
   have hd:=List.dropLast_concat_getLast hne
   conv=>lhs;rw [←hd]
   rw [List.set_append_right _ _ (by rw [List.length_dropLast,J01,List.length_dropLast];simp)]
   simp
  have hxt:=htx r (J22 hv)
  have htr:=B66 r.Text [10] (by omega)
  rw [B75,show A72 r.Text=B37 r.Text from rfl] at htr
  refine AL.Met.intro Tryz.func159 (by decide) Z Z Z ?_
  refine k2 ?_
  refine A3 (A2 (A5 Z Z) Z (A6 ?_))
  refine k1 (k2 (k2 ?_))
  refine A3 (A2 (A4 Z Z) Z (B9 (hp) Z Z Z ?_));rintro _ rfl;refine A6 ?_
  refine k1 ?_
  refine B1 rfl (fun ht=>?_) (fun ht=>?_)
  ·cases ht
  refine k5 (k1 (k2 (k2 ?_)))
  refine A3 (A2 (A4 Z Z) Z (A2 (B7 Z) Z (A2 (A7 Z) Z (A2 (A7 Z) Z (A2 (B0 Z Z Z) Z (A2 (u4 Z Z) Z (A2 (F6 Z Z) Z (A6 ?_))))))))
  refine k1 ?_
  refine B1 rfl (fun ht=>?_) (fun ht=>?_)
  ·exact absurd (A0 ht) (by omega)
  refine k5 (k1 (k2 ?_))
  refine C4 (by kernel_rfl) (by kernel_rfl) (A8 (A4 Z Z) Z Z (A8 (B7 Z) Z Z (A8 (A7 Z) Z Z (A8 (A7 Z) Z Z (A8 (B0 Z Z Z) Z Z (A8 (A4 Z Z) Z Z (A8 (B7 Z) Z Z (A8 (A7 Z) Z Z (A8 (A7 Z) Z Z (A8 (B0 Z Z Z) Z Z (A8 (u4 Z Z) Z Z (A8 (Q7 Z Z (by omega)) Z Z (A8 (j6 Z Z Z (by omega) (by omega)) Z Z (A8 (A5 Z Z) Z Z (H9 ?_)))))))))))))))
  refine k1 (k2 (k2 ?_))
  refine A3 (A2 (A4 Z Z) Z (A2 (V3 Z Z) Z (A6 ?_)))
  refine k1 ?_
  refine B1 rfl (fun ht=>?_) (fun ht=>?_)
  rotate_left
  ·exact absurd rfl (A1 ht)
  refine k2 (k2 ?_)
  refine A3 (A2 (A4 Z Z) Z (A2 (J8 Z) Z (A2 (K0 Z) Z (A2 (z6 Z Z (by first | rfl | omega) Z) Z ?_))));refine A2 (A61 Z Z) Z (A2 (F6 Z Z) Z (A6 ?_))
  refine k1 ?_
  refine B1 rfl (fun ht=>?_) (fun ht=>?_)
  ·exact absurd (A0 ht) (by omega)
  refine k5 (k1 (k2 ?_))
  refine C4 (by kernel_rfl) (by kernel_rfl) (A8 (A4 Z Z) Z Z (A8 (J8 Z) Z Z (A8 (K0 Z) Z Z (A8 (z6 Z Z (by first | rfl | omega) Z) Z Z ?_))));refine A8 (A4 Z Z) Z Z (A8 (J8 Z) Z Z (A8 (K0 Z) Z Z (A8 (z6 Z Z (by first | rfl | omega) Z) Z Z ?_)));refine A8 (A61 Z Z) Z Z (A8 (Q7 Z Z (by omega)) Z Z (A8 (s7 Z Z Z (by omega) (by omega)) Z Z (A8 (A5 Z Z) Z Z (H9 ?_))))
  refine k1 (k2 ?_)
  refine A3 (A2 (A4 Z Z) Z (A2 (A4 Z Z) Z (A2 (J8 Z) Z (A2 (K0 Z) Z (A2 (I31 Z Z hv Z) Z (B9 (htr) Z Z Z ?_))))));rintro _ rfl;refine A2 (J8 Z) Z (A2 (K0 Z) Z (E9 (B45 (⟨r.Lost,r.Marks,B37 r.Text⟩) TySz.out Z Z hv Z Z Z Z (fun _ _ _ h=>B12 h) (by intro j h1 h2;rcases j with _ | _ | _ | _ | _ | _ | _ | j<;>first | rfl | omega)) ?_));refine A6 ?_
  rw [hset]
  refine k1 (k2 ?_)
  refine A3 (A2 (A5 Z Z) Z (A6 ?_))
  refine k1 (k10 (k11 ?_))
  exact I5 (c4 rfl rfl) (by repeat (first | exact E2 | refine tail_cons rfl ?_ | refine E3 _ ?_)) (ObIn.spec (ob':=V0 w d N hs a (rs.dropLast++[⟨r.Lost,r.Marks,B37 r.Text⟩])) ⟨rfl,rfl,rfl,rfl,trivial⟩) ⟨rfl,rfl⟩
theorem H88 (x:Str) (R:List Str) (k:Nat) (w:Str) (d:Bool) (N:Nat) (hs:List CHunk) (a:List Int) (rs:List Row) (h0:0 < hs.length) (hl:hs.length≤16777216) (hrl:rs.length≤16777216) (hx:x.length≤4194304) (h64:x.take 1≠[64]) (hno:x≠noNl) :
  AL.Met Tryz.prog 159 [.one (.ref 730 0),.one (.p (.v (.string ⟨x.toArray⟩)))] (gfL x R k) (V0 w d N hs a rs) [732]
   (fun res ob'=>match A12 (x++[10]) N with
    | none=>res=[tBo false]∧ob'=[(2,S0)]
    | some r=>res=[tBo true]∧ob'=V0 w d N hs a (rs++[r])):=by
 have hp:=y6 x [64]
 rw [show ([64]:Str).length=1 from rfl,decide_eq_false h64] at hp
 have hR:=F43 (x++[10]) N
 cases hr:A12 (x++[10]) (N:Int) with
 | none =>
  rw [A45 hr] at hR
  refine AL.Met.intro Tryz.func159 (by decide) Z Z Z ?_
  refine k2 ?_
  refine A3 (A2 (A5 Z Z) Z (A6 ?_))
  refine k1 (k2 (k2 ?_))
  refine A3 (A2 (A4 Z Z) Z (B9 (hp) Z Z Z ?_));rintro _ rfl;refine A6 ?_
  refine k1 ?_
  refine B1 rfl (fun ht=>?_) (fun ht=>?_)
  ·cases ht
  refine k5 (k1 (k2 (k2 ?_)))
  refine A3 (A2 (A4 Z Z) Z (A2 (B7 Z) Z (A2 (A7 Z) Z (A2 (A7 Z) Z (A2 (B0 Z Z Z) Z (A2 (u4 Z Z) Z (A2 (F6 Z Z) Z (A6 ?_))))))))
  refine k1 ?_
  refine B1 rfl (fun ht=>?_) (fun ht=>?_)
  ·exact absurd (A0 ht) (by omega)
  refine k5 (k1 (k2 ?_))
  refine C4 (by kernel_rfl) (by kernel_rfl) (A8 (A4 Z Z) Z Z (A8 (B7 Z) Z Z (A8 (A7 Z) Z Z (A8 (A7 Z) Z Z (A8 (B0 Z Z Z) Z Z (A8 (A4 Z Z) Z Z (A8 (B7 Z) Z Z (A8 (A7 Z) Z Z (A8 (A7 Z) Z Z (A8 (B0 Z Z Z) Z Z (A8 (u4 Z Z) Z Z (A8 (Q7 Z Z (by omega)) Z Z (A8 (j6 Z Z Z (by omega) (by omega)) Z Z (A8 (A5 Z Z) Z Z (H9 ?_)))))))))))))))
  refine k1 (k2 (k2 ?_))
  refine A3 (A2 (A4 Z Z) Z (A2 (V3 Z Z) Z (A6 ?_)))
  refine k1 ?_
  refine B1 rfl (fun ht=>?_) (fun ht=>?_)
  ·exact absurd (A0 ht) hno
  refine V5 [(0,.s (.one (.ref 730 0))),(1,H5 x),(5,.s (.one (.mref 731 2 ((hs.length:Int) - 1).toNat 0))),(1000032,H5 x),(1000031,.s (.one (.ref 730 0))),(1000004,.s (.one (.ref 730 0))),(1000002,.s (.one (.ref 2 0))),(1000025,D1 Str 1 K1 R),(1000026,C2 R.length),(1000027,C2 k),(1000006,H5 x)] (V0 w d N hs a rs) (I72 ⟨le1 rfl,le1 rfl,le1 rfl,le1 rfl,le1 rfl,le1 rfl,le1 rfl,le1 rfl,le1 rfl,le1 rfl,le1 rfl,trivial⟩ ⟨rfl,rfl,rfl,rfl,trivial⟩) ?_
  refine k5 (k1 (k2 ?_))
  refine A3 (A2 (A4 Z Z) Z (A2 (D9 Z Z (by (simp;omega))) Z (A2 (A4 Z Z) Z (A2 (B7 Z) Z (A2 (A7 Z) Z (A2 (A7 Z) Z (A2 (B0 Z Z Z) Z (B9 (hR) Z Z Z ?_))))))));rintro _ rfl;refine A2 (A4 Z Z) Z (A2 (B2 Z Z) Z (A2 (B2 Z Z) Z (C3 (H1 733 Z) Z (E9 (C0 TySz.out Z Z Z Z Z Z) (A2 (A5 Z Z) Z (A6 ?_))))))
  refine k1 (k2 ?_)
  refine y5 [10,7] [[],[7],[10,7]] [(7,([732],[76])),(10,([],[]))] [(0,[]),(1,[]),(2,[]),(3,[]),(4,[]),(5,[]),(6,[]),(7,[]),(8,[7]),(9,[7]),(10,[7])] [(0,[7])] (by kernel_rfl) (by kernel_rfl) (K8 Z Z (by kernel_rfl) Z Z (A4 Z Z) (K8 Z Z (by kernel_rfl) Z Z (A4 Z Z) (K8 Z Z (by kernel_rfl) Z Z (J8 Z) (K8 Z Z (by kernel_rfl) Z Z (K0 Z) (K8 Z Z (by kernel_rfl) Z Z (z6 Z Z (by first | rfl | omega) Z) ?_)))));refine K8 Z Z (by kernel_rfl) Z Z (D4 Z Z Z) (K8 Z Z (by kernel_rfl) Z Z (C9 (c:=rowC) (ys:=[⟨false,0,[]⟩]) (E1 Z Z Z Z F4) Z Z Z) (C20 Z Z (by kernel_rfl) Z Z (G69 (fun frc hU=>o7 (A98 hU Z) Z (A98 hU Z) (.pure _ _ _ _) (by (simp;omega)) Z)) Z (K8 Z Z (by kernel_rfl) Z Z (J8 Z) (K8 Z Z (by kernel_rfl) Z Z (K0 Z) (C20 Z Z (by kernel_rfl) Z Z (H31 (fun frc hU=>D75 TySz.out (A98 hU Z) Z (by first | rfl | omega) (A98 hU Z) Z Z Z)) Z ?_)))));refine H28 (by kernel_rfl) rfl ?_ ?_
  ·refine n7 Z Z (by kernel_rfl) Z Z (A4 Z Z) ?_;exact H29
  refine k1 (k2 ?_)
  refine A3 (A2 (A4 Z Z) Z (A2 (A5 Z Z) Z (A6 ?_)))
  refine k1 (k10 ?_)
  exact I5 (c4 rfl rfl) (by repeat (first | exact E2 | refine tail_cons rfl ?_ | refine E3 _ ?_)) (ObIn.spec (ob':=[(2,S0)]) ⟨rfl,trivial⟩) ⟨rfl,rfl⟩
 | some r =>
  rw [C77 hr] at hR
  refine AL.Met.intro Tryz.func159 (by decide) Z Z Z ?_
  refine k2 ?_
  refine A3 (A2 (A5 Z Z) Z (A6 ?_))
  refine k1 (k2 (k2 ?_))
  refine A3 (A2 (A4 Z Z) Z (B9 (hp) Z Z Z ?_));rintro _ rfl;refine A6 ?_
  refine k1 ?_
  refine B1 rfl (fun ht=>?_) (fun ht=>?_)
  ·cases ht
  refine k5 (k1 (k2 (k2 ?_)))
  refine A3 (A2 (A4 Z Z) Z (A2 (B7 Z) Z (A2 (A7 Z) Z (A2 (A7 Z) Z (A2 (B0 Z Z Z) Z (A2 (u4 Z Z) Z (A2 (F6 Z Z) Z (A6 ?_))))))))
  refine k1 ?_
  refine B1 rfl (fun ht=>?_) (fun ht=>?_)
  ·exact absurd (A0 ht) (by omega)
  refine k5 (k1 (k2 ?_))
  refine C4 (by kernel_rfl) (by kernel_rfl) (A8 (A4 Z Z) Z Z (A8 (B7 Z) Z Z (A8 (A7 Z) Z Z (A8 (A7 Z) Z Z (A8 (B0 Z Z Z) Z Z (A8 (A4 Z Z) Z Z (A8 (B7 Z) Z Z (A8 (A7 Z) Z Z (A8 (A7 Z) Z Z (A8 (B0 Z Z Z) Z Z (A8 (u4 Z Z) Z Z (A8 (Q7 Z Z (by omega)) Z Z (A8 (j6 Z Z Z (by omega) (by omega)) Z Z (A8 (A5 Z Z) Z Z (H9 ?_)))))))))))))))
  refine k1 (k2 (k2 ?_))
  refine A3 (A2 (A4 Z Z) Z (A2 (V3 Z Z) Z (A6 ?_)))
  refine k1 ?_
  refine B1 rfl (fun ht=>?_) (fun ht=>?_)
  ·exact absurd (A0 ht) hno
  refine V5 [(0,.s (.one (.ref 730 0))),(1,H5 x),(5,.s (.one (.mref 731 2 ((hs.length:Int) - 1).toNat 0))),(1000032,H5 x),(1000031,.s (.one (.ref 730 0))),(1000004,.s (.one (.ref 730 0))),(1000002,.s (.one (.ref 2 0))),(1000025,D1 Str 1 K1 R),(1000026,C2 R.length),(1000027,C2 k),(1000006,H5 x)] (V0 w d N hs a rs) (I72 ⟨le1 rfl,le1 rfl,le1 rfl,le1 rfl,le1 rfl,le1 rfl,le1 rfl,le1 rfl,le1 rfl,le1 rfl,le1 rfl,trivial⟩ ⟨rfl,rfl,rfl,rfl,trivial⟩) ?_
  refine k5 (k1 (k2 ?_))
  refine A3 (A2 (A4 Z Z) Z (A2 (D9 Z Z (by (simp;omega))) Z (A2 (A4 Z Z) Z (A2 (B7 Z) Z (A2 (A7 Z) Z (A2 (A7 Z) Z (A2 (B0 Z Z Z) Z (B9 (hR) Z Z Z ?_))))))));rintro _ rfl;refine A2 (A4 Z Z) Z (A2 (B2 Z Z) Z (A2 (B2 Z Z) Z (C3 (H1 733 Z) Z (E9 (C0 TySz.out Z Z Z Z Z Z) (A2 (A5 Z Z) Z (A6 ?_))))))
  refine k1 (k2 ?_)
  refine y5 [10,7] [[],[7],[10,7]] [(7,([732],[76])),(10,([],[]))] [(0,[]),(1,[]),(2,[]),(3,[]),(4,[]),(5,[]),(6,[]),(7,[]),(8,[7]),(9,[7]),(10,[7])] [(0,[7])] (by kernel_rfl) (by kernel_rfl) (K8 Z Z (by kernel_rfl) Z Z (A4 Z Z) (K8 Z Z (by kernel_rfl) Z Z (A4 Z Z) (K8 Z Z (by kernel_rfl) Z Z (J8 Z) (K8 Z Z (by kernel_rfl) Z Z (K0 Z) (K8 Z Z (by kernel_rfl) Z Z (z6 Z Z (by first | rfl | omega) Z) ?_)))));refine K8 Z Z (by kernel_rfl) Z Z (D4 Z Z Z) (K8 Z Z (by kernel_rfl) Z Z (C9 (c:=rowC) (ys:=[r]) (E1 Z Z Z Z F4) Z Z Z) (C20 Z Z (by kernel_rfl) Z Z (G69 (fun frc hU=>o7 (A98 hU Z) Z (A98 hU Z) (.pure _ _ _ _) (by (simp;omega)) Z)) Z (K8 Z Z (by kernel_rfl) Z Z (J8 Z) (K8 Z Z (by kernel_rfl) Z Z (K0 Z) (C20 Z Z (by kernel_rfl) Z Z (H31 (fun frc hU=>D75 TySz.out (A98 hU Z) Z (by first | rfl | omega) (A98 hU Z) Z Z Z)) Z ?_)))));refine H28 (by kernel_rfl) rfl ?_ ?_
  ·refine n7 Z Z (by kernel_rfl) Z Z (A4 Z Z) ?_;exact H29
  refine k1 (k2 ?_)
  refine A3 (A2 (A4 Z Z) Z (A2 (A5 Z Z) Z (A6 ?_)))
  refine k1 (k10 ?_)
  exact I5 (c4 rfl rfl) (by repeat (first | exact E2 | refine tail_cons rfl ?_ | refine E3 _ ?_)) (ObIn.spec (ob':=V0 w d N hs a (rs++[r])) ⟨rfl,rfl,rfl,rfl,trivial⟩) ⟨rfl,rfl⟩
end Go.Proofs.YtgejaedjnbjpoaaGreatDoor
