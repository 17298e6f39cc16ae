/- Walks of the program's functions. -/
import Derived.Test.YtgejaedjnbjpoaaGreatDoorFf
import Derived.Test.YtgejaedjnbjpoaaGreatDoorFc
import Derived.Test.YtgejaedjnbjpoaaGreatDoorFs
import Derived.Test.YtgejaedjnbjpoaaGreatDoorFe
namespace Go.Proofs.YtgejaedjnbjpoaaGreatDoor
open Go Go.AL
set_option maxRecDepth 100000
theorem H54 {rows:List Row} (h:I9 rows) (i:Nat):I9 (rows.take i):=fun r hr=>h r (List.mem_of_mem_take hr)
theorem I14 {n:Nat} {rows:List Row} {sp:List Span} {hs:List CHunk} (hn:n≤32) (hr:I9 rows) (hW:(rows.map N0).sum≤8388608) (h:A01 n rows 0 [] sp=some hs):szC hs≤268435456∧∀x∈hs,I9 x.Rows:=by
 have h1:=G35 N0 2081 n rows sp 0 [] hs (Int.le_refl _) h (by simp) (by simp)
 have h2:=E86 hr sp 0 [] hs h (fun x hx=>by cases hx)
 have hl:=T9 rows
 refine ⟨?_,fun x hx=>(h2 x hx).2⟩
 have h3:szC hs=(hs.map fun h=>(2048+h.At.length)+(h.Rows.map N0).sum).sum:=rfl
 have h4:szC hs≤(hs.map fun h=>2081+(h.Rows.map N0).sum).sum:=by
  rw [h3]
  clear h h1 h3
  induction hs with
  | nil=>simp
  | cons x r ih =>
   have h5:=(h2 x (by simp)).1
   have h6:=ih fun y hy=>h2 y (by simp [hy])
   rw [J85,K03,J85,K03]
   omega
 have h5:=h1.2
 simp only [J81] at h5
 have h6:=h1.1
 omega
theorem D63 {t:Table} (h:U5 t=0):1≤t.Parents∧t.Parents≤32:=by
 unfold U5 at h
 split at h
 ·cases h
 ·omega
theorem G75 (rows:List Row) (n p:Nat):(List.range (p+1)).map (M3 rows n)=(List.range p).map (M3 rows n)++[M3 rows n p]:=by rw [K22,J92];rfl
set_option maxHeartbeats 1000000
theorem rcut_ok (path:Str) (t:Table) (sp:List Span) (d:Bool) (hr:I9 t.Rows) (hW:(t.Rows.map N0).sum≤8388608) (hx:P0 t.Rows≤8388608) (hsp:sp.length≤536870912) :
  FnOk Tryz.prog 53 [F5 path,pTable t,pSpans sp,D3 d] (fun rs=>rs=[I5 (A85 path t sp d).1,E2 (A85 path t sp d).2]):=by
 have hl:=T9 t.Rows
 have hll:t.Rows.length≤8388608:=by omega
 refine FnOk.intro Tryz.func53 (by decide) Z Z Z Z ?_
 refine k2 ?_
 refine A3 (C2 (P6 5 Z Z Z) Z (C2 (G1 8 Z) Z (A2 (A5 Z Z) Z (A6 ?_))))
 refine k1 (k2 (k2 ?_))
 refine A3 (A2 (A4 Z Z) Z (B9 (E41 path) Z Z Z ?_));rintro _ rfl;refine A2 (E4 Z) Z (A6 ?_)
 refine k1 ?_
 refine B2 rfl (fun ht=>?_) (fun ht=>?_)
 ·have h:V9 path=false:=by simpa using ht
  refine k2 ?_
  refine A3 (A2 (F6 Z) Z (E3 (B7 TySz.out Z Z Z Z Z Z) (A2 (A5 Z Z) Z (A6 ?_))))
  refine k1 ?_
  refine F4 (J49 CHunk 2 J0 8 3 Z Z) ?_
  refine k10 (k11 ?_)
  exact B5 (rs:=[I5 comb0,E2 120]) (L5 rfl rfl rfl rfl rfl rfl rfl) (by unfold A85;rw [if_pos h])
 have h:V9 path=true:=by simpa using ht
 refine k5 (k1 (k2 (k2 ?_)))
 refine A3 (A2 (C7 Z Z Z) Z (B9 (E35 t hr (by omega) (by omega)) Z Z Z ?_));rintro _ rfl;refine A2 (A5 Z Z) Z (A6 ?_)
 refine k1 (k2 ?_)
 refine A3 (A2 (A4 Z Z) Z (A2 (L4 Z Z) Z (A6 ?_)))
 refine k1 ?_
 refine B2 rfl (fun ht=>?_) (fun ht=>?_)
 ·have h1:=A0 ht
  refine k2 ?_
  refine A3 (A2 (F6 Z) Z (A2 (A4 Z Z) Z (E3 (B7 TySz.out Z Z Z Z Z Z) (A2 (A5 Z Z) Z (A6 ?_)))))
  refine k1 ?_
  refine F4 (J49 CHunk 2 J0 8 3 Z Z) ?_
  refine k10 (k11 ?_)
  exact B5 (rs:=[I5 comb0,E2 (U5 t)]) (L5 rfl rfl rfl rfl rfl rfl rfl) (by unfold A85;rw [if_neg (by rw [h];decide),if_pos h1])
 have h1:=A1 ht
 have h10:U5 t=0:=by omega
 obtain ⟨hn1,hn2⟩:=D63 h10
 obtain ⟨n,hn⟩:∃n:Nat,t.Parents=n:=⟨t.Parents.toNat,by omega⟩
 obtain ⟨tp,rows⟩:=t
 have hn:tp=(n:Int):=hn
 subst hn
 dsimp only at hr hW hx hl hll hn1 hn2
 have hcut:A85 path ⟨n,rows⟩ sp d=match A01 n rows 0 [] sp with
  | none=>(comb0,3)
  | some hs=>if G8 ⟨path,d,(n:Int),hs⟩≠0 then (comb0,G8 ⟨path,d,(n:Int),hs⟩) else (⟨path,d,(n:Int),hs⟩,0):=by
  unfold A85;rw [if_neg (by rw [h];decide),if_neg (by omega)];rfl
 rw [hcut]
 have hno:A01 n rows 0 [] sp=none→[I5 comb0,E2 3]=[I5 (match A01 n rows 0 [] sp with
  | none=>(comb0,3)
  | some hs=>if G8 ⟨path,d,(n:Int),hs⟩≠0 then (comb0,G8 ⟨path,d,(n:Int),hs⟩) else (⟨path,d,(n:Int),hs⟩,0)).1,E2 (match A01 n rows 0 [] sp with
  | none=>(comb0,3)
  | some hs=>if G8 ⟨path,d,(n:Int),hs⟩≠0 then (comb0,G8 ⟨path,d,(n:Int),hs⟩) else (⟨path,d,(n:Int),hs⟩,0)).2]:=fun e=>by rw [e]
 obtain ⟨W,hWd⟩:∃W,W=A01 n rows 0 [] sp:=⟨_,rfl⟩
 have hcs:∀hs,W=some hs→szC hs≤268435456∧∀x∈hs,I9 x.Rows:=fun hs e=>I14 (n:=n) (by omega) hr hW (by rw [←hWd];exact e)
 rw [←hWd] at hno ⊢
 refine k5 (k1 (k2 ?_))
 refine A3 (A2 (A4 Z Z) Z (A2 (A4 Z Z) Z (A2 (A7 Z) Z (A2 (B0 Z Z Z) Z (A2 (F6 Z) Z (C2 (G1 11 Z) Z (E3 (B7 TySz.out Z Z Z Z Z Z) (A6 ?_))))))))
 refine F4 (J54 754 CHunk 2 J0 82 (kb:=11) (o:=3) Z Z Z) ?_
 refine k2 ?_
 refine A3 (A2 (A5 Z Z) Z (A6 ?_))
 refine k1 (k2 (k2 ?_))
 refine A3 (A2 (A5 Z Z) Z (A6 ?_))
 refine k1 (k3 ?_)
 refine D1 (X:=Nat × Int × List CHunk) (fun x=>([(2,C8 Span 2 spanC sp),(5,.s (.one (.ref 5 0))),(8,.s (.one (.ref 8 0))),(11,.s (.one (.ref 11 0))),(12,C3 x.2.1),(13,C3 x.1)],[(5,.box (pTable ⟨n,rows⟩).s1.cells),(8,.box [.p (.v (.string ⟨#[]⟩)),.p (.v (.bool false)),.p (.v (.int .i64 0)),.p (.v (.slice none 0 0))]),(11,.box [.p (.v (.string ⟨path.toArray⟩)),.p (.v (.bool d)),.p (.v (.int .i64 n)),.buf 754 CHunk 2 J0 x.2.2]),(754,.spare x.2.2.length 2 82)])) (fun x=>x.1≤sp.length∧0≤x.2.1∧x.2.2.length≤x.1∧W=A01 n rows x.2.1 x.2.2 (sp.drop x.1)) (fun x=>sp.length - x.1) (0,0,[]) ⟨Nat.zero_le _,Int.le_refl _,Nat.le_refl _,hWd⟩ (J48 ⟨le1 rfl,le1 rfl,le1 rfl,le1 rfl,le1 rfl,le1 rfl,trivial⟩ ⟨rfl,rfl,rfl,rfl,trivial⟩) ?_
 rintro ⟨k,e,hs⟩ ⟨hk,he,hsl,hp⟩
 dsimp only at hk he hsl hp ⊢
 refine k2 (k2 ?_)
 refine A3 (A2 (A4 Z Z) Z (A2 (A4 Z Z) Z (A2 (F2 Z (.pure _ _ _ _)) Z (A2 (D6 Z Z) Z (A6 ?_)))))
 refine k1 ?_
 refine B2 rfl (fun ht=>?_) (fun ht=>?_)
 rotate_left
 ·have hkl:k=sp.length:=by have:=A1 ht;omega
  rw [hkl,J87 (Nat.le_refl _)] at hp
  have hp:W=some hs:=hp
  obtain ⟨z1,z2⟩:=hcs hs hp
  rw [hp]
  dsimp only
  refine k6 (k2 (k2 ?_))
  refine A3 (A2 (C7 Z Z Z) Z (B9 (D62 ⟨path,d,n,hs⟩ z1 z2) Z Z Z ?_));rintro _ rfl;refine A2 (A5 Z Z) Z (A6 ?_)
  refine k1 (k2 ?_)
  refine A3 (A2 (A4 Z Z) Z (A2 (L4 Z Z) Z (A6 ?_)))
  refine k1 ?_
  refine B2 rfl (fun ht=>?_) (fun ht=>?_)
  ·have h2:=A0 ht
   refine k2 ?_
   refine A3 (A2 (F6 Z) Z (A2 (A4 Z Z) Z (E3 (B7 TySz.out Z Z Z Z Z Z) (A2 (A5 Z Z) Z (A6 ?_)))))
   refine k1 ?_
   refine F4 (J49 CHunk 2 J0 8 3 Z Z) ?_
   refine k10 (k11 ?_)
   exact B5 (rs:=[I5 comb0,E2 (G8 ⟨path,d,n,hs⟩)]) (L5 rfl rfl rfl rfl rfl rfl rfl) (by rw [if_pos h2])
  ·have h2:=A1 ht
   refine k5 (k1 (k2 ?_))
   refine A3 (A2 (C7 Z Z Z) Z (E3 (B7 TySz.out Z Z Z Z Z Z) (A2 (A5 Z Z) Z (A6 ?_))))
   refine k1 (k10 ?_)
   exact B5 (rs:=[I5 ⟨path,d,n,hs⟩,E2 0]) (L5 rfl rfl rfl rfl rfl rfl rfl) (by rw [if_neg h2])
 have hlt:k < sp.length:=by have:=A0 ht;omega
 have hv:sp[k]?=some sp[k]:=by simp [hlt]
 rw [J84 hlt,A01] at hp
 obtain ⟨s,hsd⟩:∃s,s=sp[k]:=⟨_,rfl⟩
 rw [←hsd] at hp hv
 refine k5 (k1 (k2 (k3 (k2 (k2 ?_)))))
 refine C4 (by kernel_rfl) (by kernel_rfl) (A8 (A4 Z Z) Z Z (A8 (A4 Z Z) Z Z (A8 (B3 Z (.pure _ _ _ _) Z (by omega) hv) Z Z (A8 (E1 Z) Z Z (A8 (B6 Z Z) Z Z (A8 (A4 Z Z) Z Z (A8 (D6 Z Z) Z Z (A8 (A4 Z Z) Z Z (C5 Z Z (fun hg=>by rw [hg];exact A4 Z Z) Z Z ?_)))))))));refine C5 Z Z (fun hg=>by rw [hg];exact A4 Z Z) Z Z ?_;refine C5 Z Z (fun hg=>by have hq:=hg;(try simp at hq);rw [hg];exact B3 Z (.pure _ _ _ _) Z (by omega) hv) Z Z ?_;refine C5 Z Z (fun hg=>by rw [hg];exact E1 Z) Z Z ?_;refine C5 Z Z (fun hg=>by rw [hg];exact B6 Z Z) Z Z ?_;refine C5 Z Z (fun hg=>by rw [hg];exact A4 Z Z) Z Z ?_;refine C5 Z Z (fun hg=>by rw [hg];exact A4 Z Z) Z Z ?_;refine C5 Z Z (fun hg=>by have hq:=hg;(try simp at hq);rw [hg];exact B3 Z (.pure _ _ _ _) Z (by omega) hv) Z Z ?_;refine C5 Z Z (fun hg=>by rw [hg];exact E1 Z) Z Z ?_;refine C5 Z Z (fun hg=>by rw [hg];exact B6 Z Z) Z Z ?_;refine C5 Z Z (fun hg=>by rw [hg];exact m8 Z Z) Z Z ?_;refine A8 (B4 Z (fun h=>by first | rfl | (rw [h];rfl)) (fun h=>by first | rfl | (rw [h];rfl))) Z Z ?_;refine A8 (A4 Z Z) Z Z (C5 Z Z (fun hg=>by rw [hg];exact A4 Z Z) Z Z ?_);refine C5 Z Z (fun hg=>by rw [hg];exact A4 Z Z) Z Z ?_;refine C5 Z Z (fun hg=>by have hq:=hg;(try simp at hq);rw [hg];exact B3 Z (.pure _ _ _ _) Z (by omega) hv) Z Z ?_;refine C5 Z Z (fun hg=>by rw [hg];exact E1 Z) Z Z ?_;refine C5 Z Z (fun hg=>by rw [hg];exact B6 Z Z) Z Z ?_;refine C5 Z Z (fun hg=>by rw [hg];exact A7 Z) Z Z ?_;refine C5 Z Z (fun hg=>by rw [hg];exact B0 Z Z Z) Z Z ?_;refine C5 Z Z (fun hg=>by rw [hg];exact F2 Z (.pure _ _ _ _)) Z Z ?_;refine C5 Z Z (fun hg=>by rw [hg];exact L9 Z Z) Z Z ?_;refine A8 (B4 Z (fun h=>by first | rfl | (rw [h];rfl)) (fun h=>by first | rfl | (rw [h];rfl))) Z Z ?_;refine H9 ?_
 refine k1 ?_
 refine B2 rfl (fun ht=>?_) (fun ht=>?_)
 ·have hc:s.From < e∨s.To≤s.From∨(rows.length:Int) < s.To:=by
   by_cases q1:s.From < e
   ·exact .inl q1
   ·by_cases q2:s.To≤s.From
    ·exact .inr (.inl q2)
    ·simp [q1,q2] at ht
     exact .inr (.inr ht)
  rw [if_pos hc] at hp
  refine k2 ?_
  refine A3 (A2 (F6 Z) Z (E3 (B7 TySz.out Z Z Z Z Z Z) (A2 (A5 Z Z) Z (A6 ?_))))
  refine k1 ?_
  refine F4 (J49 CHunk 2 J0 8 3 Z Z) ?_
  refine k10 (k11 (k12 (k11 (k11 (k12 (k11 ?_))))))
  exact B5 (rs:=[I5 comb0,E2 3]) (L5 rfl rfl rfl rfl rfl rfl rfl) (hno hp)
 have hc:¬(s.From < e∨s.To≤s.From∨(rows.length:Int) < s.To):=by
  rintro (q | q | q)
  ·simp [q] at ht
  ·simp [q] at ht
  ·simp [q] at ht
 rw [if_neg hc] at hp
 simp only [not_or,Int.not_lt,Int.not_le] at hc
 obtain ⟨c1,c2,c3⟩:=hc
 obtain ⟨F,hF⟩:∃F:Nat,s.From=F:=⟨s.From.toNat,by omega⟩
 obtain ⟨T,hT⟩:∃T:Nat,s.To=T:=⟨s.To.toNat,by omega⟩
 obtain ⟨sF,sT⟩:=s
 have hF:sF=(F:Int):=hF
 have hT:sT=(T:Int):=hT
 subst hF hT
 dsimp only at c1 c2 c3 hp
 rw [J83,J83] at hp
 have hsub:((rows.drop F).take (T - F)).length=T - F:=by rw [J90,J88];omega
 have hFl:(F:Int)≤rows.length:=by omega
 refine k5 (k1 (k2 ?_))
 refine R6 [(2,C8 Span 2 spanC sp),(5,.s (.one (.ref 5 0))),(8,.s (.one (.ref 8 0))),(11,.s (.one (.ref 11 0))),(13,C3 k)] [(5,.box (pTable ⟨n,rows⟩).s1.cells),(8,.box [.p (.v (.string ⟨#[]⟩)),.p (.v (.bool false)),.p (.v (.int .i64 0)),.p (.v (.slice none 0 0))]),(11,.box [.p (.v (.string ⟨path.toArray⟩)),.p (.v (.bool d)),.p (.v (.int .i64 n)),.buf 754 CHunk 2 J0 hs]),(754,.spare hs.length 2 82)] (J48 ⟨le1 rfl,le1 rfl,le1 rfl,le1 rfl,le1 rfl,trivial⟩ ⟨rfl,rfl,rfl,rfl,trivial⟩) ?_
 refine A11 [17,16,14] [[],[14],[16],[16,14],[17,16,14]] [(14,([],[])),(16,([14],[])),(17,([],[]))] [(0,[]),(1,[]),(2,[]),(3,[]),(4,[]),(5,[]),(6,[]),(7,[]),(8,[]),(9,[]),(10,[]),(11,[]),(12,[]),(13,[]),(14,[]),(15,[14]),(16,[]),(16,[14]),(17,[16,14])] [(0,[16]),(1,[16]),(2,[16]),(3,[16]),(4,[16]),(5,[16]),(6,[16]),(7,[16]),(8,[16]),(9,[16]),(10,[16]),(11,[16]),(12,[16]),(13,[16]),(14,[16]),(15,[16,14])] (by kernel_rfl) (by kernel_rfl) (M1 Z Z (by kernel_rfl) Z Z (D56 (c:=rowC) (ys:=[]) F0 Z Z Z) (M1 Z Z (by kernel_rfl) Z Z (A7 Z) (M1 Z Z (by kernel_rfl) Z Z (B0 Z Z Z) (M1 Z Z (by kernel_rfl) Z Z (A4 Z Z) (M1 Z Z (by kernel_rfl) Z Z (A4 Z Z) (M1 Z Z (by kernel_rfl) Z Z (B3 Z (.pure _ _ _ _) Z (by omega) hv) (M1 Z Z (by kernel_rfl) Z Z (E1 Z) (M1 Z Z (by kernel_rfl) Z Z (B6 Z Z) (M1 Z Z (by kernel_rfl) Z Z (A4 Z Z) (M1 Z Z (by kernel_rfl) Z Z (A4 Z Z) (M1 Z Z (by kernel_rfl) Z Z (B3 Z (.pure _ _ _ _) Z (by omega) hv) (M1 Z Z (by kernel_rfl) Z Z (E1 Z) (M1 Z Z (by kernel_rfl) Z Z (B6 Z Z) (M1 Z Z (by kernel_rfl) Z Z (C20 Z (.pure _ _ _ _) Z Z (by (first | omega | (dsimp only;omega))) (by (first | omega | (dsimp only;omega))) (by (first | omega | (dsimp only;omega)))) (C64 Z Z (by kernel_rfl) Z Z (r_neu (fun frc hU=>C06 (B34 hU Z) (B34 hU Z) (.pure _ _ _ _) (by (rw [J83,J83,hsub];simp;omega)) (by rw [J83,J83,hsub];omega))) Z ?_)))))))))))))));refine M1 Z Z (by kernel_rfl) Z Z (F6 Z) (C64 Z Z (by kernel_rfl) Z Z (I05 Z) Z (w_again Z Z (by kernel_rfl) Z Z (I05 Z) Z (C64 Z Z (by kernel_rfl) Z Z (I06 (fun frc hU=>B7 TySz.out (B34 hU Z) Z (B34 hU Z) Z Z Z)) Z ?_)));refine I03 (by kernel_rfl) rfl ?_ ?_
 ·refine u3 Z Z (by kernel_rfl) Z Z (D56 (c:=rowC) (ys:=[]) F0 Z Z Z) (u3 Z Z (by kernel_rfl) Z Z (A7 Z) (u3 Z Z (by kernel_rfl) Z Z (B0 Z Z Z) (u3 Z Z (by kernel_rfl) Z Z (A4 Z Z) (u3 Z Z (by kernel_rfl) Z Z (A4 Z Z) (u3 Z Z (by kernel_rfl) Z Z (B3 Z (.pure _ _ _ _) Z (by omega) hv) (u3 Z Z (by kernel_rfl) Z Z (E1 Z) (u3 Z Z (by kernel_rfl) Z Z (B6 Z Z) (u3 Z Z (by kernel_rfl) Z Z (A4 Z Z) (u3 Z Z (by kernel_rfl) Z Z (A4 Z Z) (u3 Z Z (by kernel_rfl) Z Z (B3 Z (.pure _ _ _ _) Z (by omega) hv) (u3 Z Z (by kernel_rfl) Z Z (E1 Z) (u3 Z Z (by kernel_rfl) Z Z (B6 Z Z) (u3 Z Z (by kernel_rfl) Z Z (C20 Z (.pure _ _ _ _) Z Z (by (first | omega | (dsimp only;omega))) (by (first | omega | (dsimp only;omega))) (by (first | omega | (dsimp only;omega)))) ?_)))))))))))));refine x_eff rfl rfl (by kernel_rfl) rfl rfl (r_neu (fun frc hU=>C06 (B34 hU rfl) (B34 hU rfl) (.pure _ _ _ _) (by (rw [J83,J83,hsub];simp;omega)) (by rw [J83,J83,hsub];omega))) rfl (J03 (by repeat (first | exact trivial | refine ⟨.inr rfl,?_⟩ | refine ⟨.inl rfl,?_⟩))) ?_;refine u3 Z Z (by kernel_rfl) Z Z (F6 Z) ?_;exact I04
 rw [J83,J83,K07]
 refine F4 (J54 755 Int 1 H1 3 (kb:=14) (o:=0) Z Z Z) ?_
 refine k2 (k2 ?_)
 refine A3 (A2 (A5 Z Z) Z (A6 ?_))
 refine k1 (k3 ?_)
 obtain ⟨R,hR⟩:∃R,R=(rows.drop F).take (T - F):=⟨_,rfl⟩
 rw [←hR] at hp hsub ⊢
 refine D1 (X:=Nat) (fun p=>([(2,C8 Span 2 spanC sp),(5,.s (.one (.ref 5 0))),(8,.s (.one (.ref 8 0))),(11,.s (.one (.ref 11 0))),(13,C3 k),(14,.s (.one (.ref 14 0))),(15,C3 p)],[(5,.box (pTable ⟨n,rows⟩).s1.cells),(8,.box [.p (.v (.string ⟨#[]⟩)),.p (.v (.bool false)),.p (.v (.int .i64 0)),.p (.v (.slice none 0 0))]),(11,.box [.p (.v (.string ⟨path.toArray⟩)),.p (.v (.bool d)),.p (.v (.int .i64 n)),.buf 754 CHunk 2 J0 hs]),(754,.spare hs.length 2 82),(14,.box [.buf 755 Int 1 H1 ((List.range p).map (M3 (rows.take F) n)),.p (.list Row 3 rowC R)]),(755,.spare ((List.range p).map (M3 (rows.take F) n)).length 1 3)])) (fun p=>p≤n+1) (fun p=>n+1 - p) 0 (Nat.zero_le _) (J48 ⟨le1 rfl,le1 rfl,le1 rfl,le1 rfl,le1 rfl,le1 rfl,le1 rfl,trivial⟩ ⟨rfl,rfl,rfl,rfl,rfl,rfl,trivial⟩) ?_
 intro p hpn
 dsimp only at hpn ⊢
 have hml:((List.range p).map (M3 (rows.take F) n)).length=p:=by simp
 refine k2 (k2 ?_)
 refine A3 (A2 (A4 Z Z) Z (A2 (A7 Z) Z (A2 (B0 Z Z Z) Z (A2 (m8 Z Z) Z (A6 ?_)))))
 refine k1 ?_
 refine B2 rfl (fun ht=>?_) (fun ht=>?_)
 ·have hle:p≤n:=by have:=A0 ht;omega
  have hst:=G75 (rows.take F) n p
  have htl:(rows.take F).length=F:=by rw [J90];omega
  have hcm:=C31 p n
  have hcol:=A44 (rows.take F) (L0 n p) (H54 hr F) (by omega)
  refine k5 (k1 (k2 (k3 ?_)))
  refine C4 (by kernel_rfl) (by kernel_rfl) (A8 (A7 Z) Z Z (A8 (B0 Z Z Z) Z Z (A8 (A7 Z) Z Z (A8 (B0 Z Z Z) Z Z (A8 (A4 Z Z) Z Z (A8 (A4 Z Z) Z Z (A8 (B3 Z (.pure _ _ _ _) Z (by omega) hv) Z Z (A8 (E1 Z) Z Z (A8 (B6 Z Z) Z Z (A8 (D10 Z (.pure _ _ _ _) Z (by (first | omega | (dsimp only;omega))) (by (first | omega | (dsimp only;omega)))) Z Z (A8 (A4 Z Z) Z Z (A8 (A7 Z) Z Z (A8 (B0 Z Z Z) Z Z (A8 (G7 (hcm) Z Z) Z Z (A8 (G7 (hcol) Z Z) Z Z (A8 (F2 Z (.pure _ _ _ _)) Z Z (A8 (C6 (c:=H1) (ys:=[M3 (rows.take F) n p]) (D8 Z Z Z Z F0) Z Z Z) Z Z (E11 (F9 Z Z Z (.pure _ _ _ _) (by (rw [hml];simp only [J78,J81];omega)) Z) Z Z ?_))))))))))))))))));refine A8 (A7 Z) Z Z (C53 (B7 TySz.out Z Z Z Z Z Z) Z (H9 ?_))
  refine k4 (k1 ?_)
  refine A3 (A2 (A4 Z Z) Z (A2 (C1 Z Z (by omega)) Z (A2 (A5 Z Z) Z (A6 ?_))))
  refine k1 ?_
  refine ⟨p+1,by omega,by omega,?_⟩
  rw [hst]
  exact J48 ⟨le1 rfl,le1 rfl,le1 rfl,le1 rfl,le1 rfl,le1 rfl,le1 rfl,trivial⟩ ⟨rfl,rfl,rfl,rfl,rfl,rfl,trivial⟩
 have hpl:p=n+1:=by have:=A1 ht;omega
 rw [hpl]
 refine k6 (k2 ?_)
 refine A3 (A2 (A7 Z) Z (A2 (B0 Z Z Z) Z (A2 (C7 Z Z Z) Z (A2 (C6 (c:=J0) (ys:=[⟨K6 (rows.take F) n,R⟩]) (D8 Z Z Z Z F0) Z Z Z) Z (C2 (F9 Z Z Z (.pure _ _ _ _) (by (simp only [J78,J81];omega)) Z) Z (A2 (A7 Z) Z (E3 (B7 TySz.out Z Z Z Z Z Z) (A6 ?_))))))))
 refine k1 ?_
 refine A3 (A2 (A4 Z Z) Z (A2 (A4 Z Z) Z (A2 (B3 Z (.pure _ _ _ _) Z (by omega) hv) Z (A2 (E1 Z) Z (A2 (B6 Z Z) Z (A2 (A5 Z Z) Z (A6 ?_)))))))
 refine k4 (k1 ?_)
 refine A3 (A2 (A4 Z Z) Z (A2 (C1 Z Z (by omega)) Z (A2 (A5 Z Z) Z (A6 ?_))))
 refine k1 ?_
 exact ⟨(k+1,(T:Int),hs++[⟨K6 (rows.take F) n,R⟩]),⟨by dsimp only;omega,by dsimp only;omega,by dsimp only;rw [J77];simp;omega,hp⟩,by dsimp only;omega,J48 ⟨le1 rfl,le1 rfl,le1 rfl,le1 rfl,le1 rfl,le1 rfl,trivial⟩ ⟨rfl,rfl,rfl,rfl,trivial⟩⟩
abbrev rowV (q:Row):List Value:=[.bool q.Lost,.int .u32 q.Marks,.string ⟨q.Text.toArray⟩]
theorem row_eq (q q':Row):E96 (rowV q) (rowV q')=decide (q=q'):=by
 rw [Bool.eq_iff_iff]
 simp only [E96,eqV,ByteArray.toList_mk,J80,beq_iff_eq,decide_eq_true_eq,Bool.and_true]
 constructor
 ·rintro ⟨h1,h2,h3⟩
  obtain ⟨k,m,t⟩:=q
  obtain ⟨k',m',t'⟩:=q'
  obtain rfl:k=k':=h1
  obtain rfl:m=m':=h2
  obtain rfl:t=t':=h3
  rfl
 ·rintro rfl;exact ⟨rfl,rfl,rfl⟩
theorem J15 (a:List Int) (ha:a.length≤1099511627776):FnOk Tryz.prog 86 [T0 a,T0 a] (fun rs=>rs=[D3 true]):=by
 refine FnOk.intro Tryz.func86 (by decide) Z Z Z Z ?_
 refine k2 ?_
 refine A3 (A2 (A5 Z Z) Z (A6 ?_))
 refine k1 (k2 (k2 ?_))
 refine A3 (A2 (A4 Z Z) Z (A2 (F2 Z (.pure _ _ _ _)) Z (A2 (A4 Z Z) Z (A2 (F2 Z (.pure _ _ _ _)) Z (A2 (L4 Z Z) Z (A6 ?_))))))
 refine k1 ?_
 refine B2 rfl (fun ht=>?_) (fun ht=>?_)
 ·exact absurd rfl (A0 ht)
 refine k5 (k1 (k2 (k2 ?_)))
 refine A3 (A2 (A5 Z Z) Z (A6 ?_))
 refine k1 (k3 ?_)
 refine D1 (X:=Nat) (fun i=>([(0,C8 Int 1 H1 a),(1,C8 Int 1 H1 a),(5,C3 i)],[])) (fun i=>i≤a.length) (fun i=>a.length - i) 0 (Nat.zero_le _) (J48 ⟨le1 rfl,le1 rfl,le1 rfl,trivial⟩ trivial) ?_
 intro i hi
 dsimp only at hi ⊢
 refine k2 (k2 ?_)
 refine A3 (A2 (A4 Z Z) Z (A2 (A4 Z Z) Z (A2 (F2 Z (.pure _ _ _ _)) Z (A2 (D6 Z Z) Z (A6 ?_)))))
 refine k1 ?_
 refine B2 rfl (fun ht=>?_) (fun ht=>?_)
 ·have hlt:i < a.length:=by have:=A0 ht;omega
  have hv:=D04 hlt
  refine k5 (k1 (k2 (k3 (k2 ?_))))
  refine C4 (by kernel_rfl) (by kernel_rfl) (A8 (A4 Z Z) Z Z (A8 (A4 Z Z) Z Z (A8 (B3 Z (.pure _ _ _ _) Z (by omega) hv) Z Z (A8 (B6 Z Z) Z Z (A8 (A4 Z Z) Z Z (A8 (A4 Z Z) Z Z (A8 (B3 Z (.pure _ _ _ _) Z (by omega) hv) Z Z (A8 (B6 Z Z) Z Z (A8 (L4 Z Z) Z Z (H9 ?_))))))))))
  refine k1 ?_
  refine B2 rfl (fun ht=>?_) (fun ht=>?_)
  ·exact absurd rfl (A0 ht)
  refine k5 (k4 (k1 ?_))
  refine A3 (A2 (A4 Z Z) Z (A2 (C1 Z Z (by omega)) Z (A2 (A5 Z Z) Z (A6 ?_))))
  refine k1 ?_
  exact ⟨i+1,by omega,by omega,J48 ⟨le1 rfl,le1 rfl,le1 rfl,trivial⟩ trivial⟩
 ·refine k6 (k2 ?_)
  refine A3 (A2 (A5 Z Z) Z (A6 ?_))
  refine k1 (k10 ?_)
  exact B5 (rs:=[D3 true]) (F8 rfl rfl rfl) rfl
theorem J16 (a:List Row) (ha:a.length≤1099511627776):FnOk Tryz.prog 87 [pRows a,pRows a] (fun rs=>rs=[D3 true]):=by
 refine FnOk.intro Tryz.func87 (by decide) Z Z Z Z ?_
 refine k2 ?_
 refine A3 (A2 (A5 Z Z) Z (A6 ?_))
 refine k1 (k2 (k2 ?_))
 refine A3 (A2 (A4 Z Z) Z (A2 (F2 Z (.pure _ _ _ _)) Z (A2 (A4 Z Z) Z (A2 (F2 Z (.pure _ _ _ _)) Z (A2 (L4 Z Z) Z (A6 ?_))))))
 refine k1 ?_
 refine B2 rfl (fun ht=>?_) (fun ht=>?_)
 ·exact absurd rfl (A0 ht)
 refine k5 (k1 (k2 (k2 ?_)))
 refine A3 (A2 (A5 Z Z) Z (A6 ?_))
 refine k1 (k3 ?_)
 refine D1 (X:=Nat) (fun i=>([(0,C8 Row 3 rowC a),(1,C8 Row 3 rowC a),(5,C3 i)],[])) (fun i=>i≤a.length) (fun i=>a.length - i) 0 (Nat.zero_le _) (J48 ⟨le1 rfl,le1 rfl,le1 rfl,trivial⟩ trivial) ?_
 intro i hi
 dsimp only at hi ⊢
 refine k2 (k2 ?_)
 refine A3 (A2 (A4 Z Z) Z (A2 (A4 Z Z) Z (A2 (F2 Z (.pure _ _ _ _)) Z (A2 (D6 Z Z) Z (A6 ?_)))))
 refine k1 ?_
 refine B2 rfl (fun ht=>?_) (fun ht=>?_)
 ·have hlt:i < a.length:=by have:=A0 ht;omega
  have hv:a[i]?=some a[i]:=by simp [hlt]
  obtain ⟨r,hr⟩:∃r,r=a[i]:=⟨_,rfl⟩
  rw [←hr] at hv
  refine k5 (k1 (k2 (k3 (k2 ?_))))
  refine C4 (by kernel_rfl) (by kernel_rfl) (A8 (A4 Z Z) Z Z (A8 (A4 Z Z) Z Z (A8 (B3 Z (.pure _ _ _ _) Z (by omega) hv) Z Z (A8 (H2 Z Z) Z Z (A8 (A4 Z Z) Z Z (A8 (A4 Z Z) Z Z (A8 (B3 Z (.pure _ _ _ _) Z (by omega) hv) Z Z (A8 (H2 Z Z) Z Z (A8 (J01 (rowV r) (rowV r) Z Z Z Z ((row_eq r r).trans (decide_eq_true Z))) Z Z (H9 ?_))))))))))
  refine k1 ?_
  refine B2 rfl (fun ht=>?_) (fun ht=>?_)
  ·cases ht
  refine k5 (k4 (k1 ?_))
  refine A3 (A2 (A4 Z Z) Z (A2 (C1 Z Z (by omega)) Z (A2 (A5 Z Z) Z (A6 ?_))))
  refine k1 ?_
  exact ⟨i+1,by omega,by omega,J48 ⟨le1 rfl,le1 rfl,le1 rfl,trivial⟩ trivial⟩
 ·refine k6 (k2 ?_)
  refine A3 (A2 (A5 Z Z) Z (A6 ?_))
  refine k1 (k10 ?_)
  exact B5 (rs:=[D3 true]) (F8 rfl rfl rfl) rfl
theorem G76 (c:Comb) (hz:szC c.Hunks≤1099511627776):FnOk Tryz.prog 38 [I5 c,I5 c] (fun rs=>rs=[D3 true]):=by
 have hzl:=A14 c.Hunks
 refine FnOk.intro Tryz.func38 (by decide) Z Z Z Z ?_
 refine k2 ?_
 refine A3 (C2 (P6 2 Z Z Z) Z (C2 (P6 3 Z Z Z) Z (A2 (A5 Z Z) Z (A6 ?_))))
 refine k1 (k2 (k2 ?_))
 refine A3 (A2 (A7 Z) Z (A2 (B0 Z Z Z) Z (A2 (A7 Z) Z (A2 (B0 Z Z Z) Z (A2 (j4 Z Z) Z (A2 (A4 Z Z) Z (A9 Z Z Z Z (fun hg=>by rw [hg];exact A7 Z) ?_)))))));refine A9 Z Z Z Z (fun hg=>by rw [hg];exact B0 Z Z Z) ?_;refine A9 Z Z Z Z (fun hg=>by rw [hg];exact A7 Z) ?_;refine A9 Z Z Z Z (fun hg=>by rw [hg];exact B0 Z Z Z) ?_;refine A9 Z Z Z Z (fun hg=>by rw [hg];exact n_neq_b Z Z TyBool.out) ?_;refine A2 (B4 Z (fun h=>by first | rfl | (rw [h];rfl)) (fun h=>by first | rfl | (rw [h];rfl))) Z ?_;refine A2 (A4 Z Z) Z (A9 Z Z Z Z (fun hg=>by rw [hg];exact A7 Z) ?_);refine A9 Z Z Z Z (fun hg=>by rw [hg];exact B0 Z Z Z) ?_;refine A9 Z Z Z Z (fun hg=>by rw [hg];exact A7 Z) ?_;refine A9 Z Z Z Z (fun hg=>by rw [hg];exact B0 Z Z Z) ?_;refine A9 Z Z Z Z (fun hg=>by rw [hg];exact L4 Z Z) ?_;refine A2 (B4 Z (fun h=>by first | rfl | (rw [h];rfl)) (fun h=>by first | rfl | (rw [h];rfl))) Z ?_;refine A2 (A4 Z Z) Z (A9 Z Z Z Z (fun hg=>by rw [hg];exact A7 Z) ?_);refine A9 Z Z Z Z (fun hg=>by rw [hg];exact B0 Z Z Z) ?_;refine A9 Z Z Z Z (fun hg=>by rw [hg];exact F2 Z (.pure _ _ _ _)) ?_;refine A9 Z Z Z Z (fun hg=>by rw [hg];exact A7 Z) ?_;refine A9 Z Z Z Z (fun hg=>by rw [hg];exact B0 Z Z Z) ?_;refine A9 Z Z Z Z (fun hg=>by rw [hg];exact F2 Z (.pure _ _ _ _)) ?_;refine A9 Z Z Z Z (fun hg=>by rw [hg];exact L4 Z Z) ?_;refine A2 (B4 Z (fun h=>by first | rfl | (rw [h];rfl)) (fun h=>by first | rfl | (rw [h];rfl))) Z ?_;refine A6 ?_
 refine k1 ?_
 refine B2 rfl (fun ht=>?_) (fun ht=>?_)
 ·exfalso;revert ht;simp
 refine R6 [(2,.s (.one (.ref 2 0))),(3,.s (.one (.ref 3 0)))] [(2,A59 c),(3,A59 c)] (J48 ⟨le1 rfl,le1 rfl,trivial⟩ ⟨rfl,rfl,trivial⟩) ?_
 refine k5 (k1 (k2 (k2 ?_)))
 refine A3 (A2 (A5 Z Z) Z (A6 ?_))
 refine k1 (k3 ?_)
 refine D1 (X:=Nat) (fun k=>([(2,.s (.one (.ref 2 0))),(3,.s (.one (.ref 3 0))),(5,C3 k)],[(2,A59 c),(3,A59 c)])) (fun k=>k≤c.Hunks.length) (fun k=>c.Hunks.length - k) 0 (Nat.zero_le _) (J48 ⟨le1 rfl,le1 rfl,le1 rfl,trivial⟩ ⟨rfl,rfl,trivial⟩) ?_
 intro k hk
 dsimp only at hk ⊢
 refine k2 (k2 ?_)
 refine A3 (A2 (A4 Z Z) Z (A2 (A7 Z) Z (A2 (B0 Z Z Z) Z (A2 (F2 Z (.pure _ _ _ _)) Z (A2 (D6 Z Z) Z (A6 ?_))))))
 refine k1 ?_
 refine B2 rfl (fun ht=>?_) (fun ht=>?_)
 ·have hlt:k < c.Hunks.length:=by have:=A0 ht;omega
  have hv:c.Hunks[k]?=some c.Hunks[k]:=by simp [hlt]
  have hzm:=A53 (J96 hlt)
  obtain ⟨h,hx⟩:∃x,x=c.Hunks[k]:=⟨_,rfl⟩
  rw [←hx] at hv hzm
  have hz1:=T9 h.Rows
  unfold A65 at hzm
  refine k5 (k1 (k2 (k3 (k2 ?_))))
  refine C4 (by kernel_rfl) (by kernel_rfl) (A8 (A7 Z) Z Z (A8 (B0 Z Z Z) Z Z (A8 (A4 Z Z) Z Z (A8 (B3 Z (.pure _ _ _ _) Z (by omega) hv) Z Z (A8 (E1 Z) Z Z (A8 (B6 Z Z) Z Z (A8 (A7 Z) Z Z (A8 (B0 Z Z Z) Z Z (A8 (A4 Z Z) Z Z (A8 (B3 Z (.pure _ _ _ _) Z (by omega) hv) Z Z (A8 (E1 Z) Z Z (A8 (B6 Z Z) Z Z (A8 (G7 (J15 h.At (by omega)) Z Z) Z Z (A8 (E4 Z) Z Z (A8 (A4 Z Z) Z Z (C5 Z Z (fun hg=>by rw [hg];exact A7 Z) Z Z ?_))))))))))))))));refine C5 Z Z (fun hg=>by rw [hg];exact B0 Z Z Z) Z Z ?_;refine C5 Z Z (fun hg=>by rw [hg];exact A4 Z Z) Z Z ?_;refine C5 Z Z (fun hg=>by have hq:=hg;(try simp at hq);rw [hg];exact B3 Z (.pure _ _ _ _) Z (by omega) hv) Z Z ?_;refine C5 Z Z (fun hg=>by rw [hg];exact E1 Z) Z Z ?_;refine C5 Z Z (fun hg=>by rw [hg];exact B6 Z Z) Z Z ?_;refine C5 Z Z (fun hg=>by rw [hg];exact A7 Z) Z Z ?_;refine C5 Z Z (fun hg=>by rw [hg];exact B0 Z Z Z) Z Z ?_;refine C5 Z Z (fun hg=>by rw [hg];exact A4 Z Z) Z Z ?_;refine C5 Z Z (fun hg=>by have hq:=hg;(try simp at hq);rw [hg];exact B3 Z (.pure _ _ _ _) Z (by omega) hv) Z Z ?_;refine C5 Z Z (fun hg=>by rw [hg];exact E1 Z) Z Z ?_;refine C5 Z Z (fun hg=>by rw [hg];exact B6 Z Z) Z Z ?_;refine C5 Z Z (fun hg=>by have hq:=hg;(try simp at hq);rw [hg];exact G7 (J16 h.Rows (by omega)) Z Z) Z Z ?_;refine C5 Z Z (fun hg=>by rw [hg];exact E4 Z) Z Z ?_;refine A8 (B4 Z (fun h=>by first | rfl | (rw [h];rfl)) (fun h=>by first | rfl | (rw [h];rfl))) Z Z ?_;refine H9 ?_
  refine k1 ?_
  refine B2 rfl (fun ht=>?_) (fun ht=>?_)
  ·cases ht
  refine k5 (k4 (k1 ?_))
  refine A3 (A2 (A4 Z Z) Z (A2 (C1 Z Z (by omega)) Z (A2 (A5 Z Z) Z (A6 ?_))))
  refine k1 ?_
  exact ⟨k+1,by omega,by omega,J48 ⟨le1 rfl,le1 rfl,le1 rfl,trivial⟩ ⟨rfl,rfl,trivial⟩⟩
 ·refine k6 (k2 ?_)
  refine A3 (A2 (A5 Z Z) Z (A6 ?_))
  refine k1 (k10 ?_)
  exact B5 (rs:=[D3 true]) (F8 rfl rfl rfl) rfl
theorem I56 {gf:Fr} (b:Str) (hb:b.length≤536870912):AL.Met Tryz.prog 61 [.one (.p (.v (.string ⟨b.toArray⟩)))] gf [] [740] (fun rs ob'=>rs=[.one (.mut 740)]∧ob'=[(740,.grow 9 Str 1 J5 (D2 b))]):=by
 refine AL.Met.introH Tryz.func61 (by decide) rfl rfl rfl (fun hH=>?_)
 refine k2 ?_
 refine A3 (A2 (A5 Z Z) Z (A6 ?_))
 refine k1 (k2 ?_)
 refine A3 (C2 (G52 740 _ J5 Z Z) Z (A6 ?_))
 refine k1 (k2 ?_)
 refine A3 (A2 (A5 Z Z) Z (A6 ?_))
 refine k1 (k2 (k2 ?_))
 refine A3 (A2 (A5 Z Z) Z (A6 ?_))
 refine k1 (k3 ?_)
 refine D1 (X:=Nat × Nat × List Str) (fun x=>([(0,H4 b),(3,.s (.one (.mut 740))),(4,C3 x.2.1),(5,C3 x.1)]++Fr.forget 740 gf,[(740,.grow 9 Str 1 J5 x.2.2)]))
  (fun x=>x.1≤b.length∧x.2.1≤x.1∧x.2.2.length≤x.1∧(x.1=b.length→x.2.1=x.1)∧x.2.2++G2 ((b.drop x.2.1).take (x.1 - x.2.1)) (b.drop x.1)=D2 b) (fun x=>b.length - x.1) (0,0,[]) (by simp [D2]) ?_ ?_
 ·exact J50 ⟨le1 rfl,le1 rfl,le1 rfl,le1 rfl,trivial⟩ (U2 hH) (by repeat (first | exact D9 | refine tail_cons rfl ?_ | refine U3 _ ?_ | refine E0 _ ?_)) (ObIn.spec (ob':=[(740,_)]) ⟨rfl,trivial⟩)
 ·rintro ⟨i,from',out⟩ ⟨hi,hf,ho,he,hp⟩
  dsimp only at hi hf ho he hp ⊢
  refine k2 (k2 ?_)
  refine A3 (A2 (A4 Z Z) Z (A2 (A4 Z Z) Z (A2 (D5 Z) Z (A2 (D6 Z Z) Z (A6 ?_)))))
  refine k1 ?_
  refine B2 rfl (fun ht=>?_) (fun ht=>?_)
  ·have hlt:i < b.length:=by simpa using ht
   have hv:b[i]?=some b[i]:=by simp [hlt]
   refine k5 (k1 (k2 (k3 (k2 ?_))))
   refine A3 (A2 (A4 Z Z) Z (A2 (A4 Z Z) Z (A2 (E9 Z Z (by omega) hv) Z (A2 (F1 Z Z) Z (A2 (A4 Z Z) Z (A9 Z Z Z Z (fun hg=>by rw [hg];exact A4 Z Z) ?_))))));refine A9 Z Z Z Z (fun hg=>by have hq:=hg;(try simp at hq);rw [hg];exact C1 Z Z (by omega)) ?_;refine A9 Z Z Z Z (fun hg=>by rw [hg];exact A4 Z Z) ?_;refine A9 Z Z Z Z (fun hg=>by rw [hg];exact D5 Z) ?_;refine A9 Z Z Z Z (fun hg=>by rw [hg];exact F1 Z Z) ?_;refine A2 (B4 Z (fun h=>by first | rfl | (rw [h];rfl)) (fun h=>by first | rfl | (rw [h];rfl))) Z ?_;refine A6 ?_
   refine k1 ?_
   refine B2 rfl (fun ht2=>?_) (fun ht2=>?_)
   ·refine k2 ?_
    refine A3 (A2 (A4 Z Z) Z (A2 (A4 Z Z) Z (A2 (A4 Z Z) Z (A2 (A4 Z Z) Z (A2 (C1 Z Z (by omega)) Z (A2 (S5 Z Z Z (by omega) (by omega) (by omega)) Z (A2 (C6 (c:=J5) (ys:=[_]) (D8 Z Z Z Z F0) Z Z Z) Z (C2 (W9 Z Z Z (.pure _ _ _ _) (by simp;omega) Z) Z (A2 (A5 Z Z) Z (A6 ?_))))))))))
    refine k1 ?_
    refine A3 (A2 (A4 Z Z) Z (A2 (C1 Z Z (by omega)) Z (A2 (A5 Z Z) Z (A6 ?_))))
    refine k4 (k1 ?_)
    refine A3 (A2 (A4 Z Z) Z (A2 (C1 Z Z (by omega)) Z (A2 (A5 Z Z) Z (A6 ?_))))
    refine k1 ?_
    refine ⟨(i+1,i+1,_),⟨?_,?_,?_,?_,?_⟩,?_,J50 ⟨le1 rfl,le1 rfl,le1 rfl,le1 rfl,trivial⟩ (U2 hH) (by repeat (first | exact D9 | refine tail_cons rfl ?_ | refine U3 _ ?_)) (ObIn.spec (ob':=[(740,_)]) ⟨rfl,trivial⟩)⟩
    all_goals dsimp only
    ·omega
    ·omega
    ·simp;omega
    ·omega
    ·have hc:b[i]=10∨i+1=b.length:=by
      simp only [E51] at ht2
      by_cases h:b[i]=10
      ·exact .inl h
      ·simp [h] at ht2;exact .inr (by omega)
     rw [E52,J83,K20,List.take_zero,←B86 b from' i hf hlt,J89,←hp,J84 hlt,R8]
     rcases hc with h | h
     ·rw [if_pos h];rfl
     ·have hd:b.drop (i+1)=[]:=J87 (by omega)
      rw [hd]
      split
      ·rfl
      ·rw [show G2 ([]:Str) []=[] from rfl,C79 _ (by simp)];simp
    ·omega
   ·refine k5 (k4 (k1 ?_))
    refine A3 (A2 (A4 Z Z) Z (A2 (C1 Z Z (by omega)) Z (A2 (A5 Z Z) Z (A6 ?_))))
    refine k1 ?_
    refine ⟨(i+1,from',out),⟨?_,?_,?_,?_,?_⟩,?_,J50 ⟨le1 rfl,le1 rfl,le1 rfl,le1 rfl,trivial⟩ (U2 hH) (by repeat (first | exact D9 | refine tail_cons rfl ?_ | refine U3 _ ?_)) (ObIn.spec (ob':=[(740,_)]) ⟨rfl,trivial⟩)⟩
    all_goals dsimp only
    ·omega
    ·omega
    ·omega
    ·intro h
     simp [show (i:Int)+1=(b.length:Int) by omega] at ht2
    ·have hc:b[i]≠10:=fun h=>by simp [h] at ht2
     rw [←B86 b from' i hf hlt,←hp,J84 hlt,R8,if_neg hc]
    ·omega
  ·refine k6 (k2 ?_)
   refine A3 (A2 (A4 Z Z) Z (A2 (A5 Z Z) Z (A6 ?_)))
   refine k1 (k10 ?_)
   have hi':i=b.length:=by simp at ht;omega
   subst hi'
   have:=he rfl
   subst this
   rw [K20,List.take_zero,J87 (Nat.le_refl _)] at hp
   have hp:out=D2 b:=by rw [←hp];simp [G2]
   subst hp
   exact H7 (g9 rfl rfl) (by repeat (first | exact D9 | refine tail_cons rfl ?_ | refine U3 _ ?_)) (ObIn.spec (ob':=[(740,_)]) ⟨rfl,trivial⟩) ⟨rfl,rfl⟩
theorem J17 (s:Str) (hs:s.length≤1099511627776):FnOk Tryz.prog 77 [F5 s] (fun rs=>rs=[F5 (A00 s)]):=by
 refine FnOk.intro Tryz.func77 (by decide) Z Z Z Z ?_
 refine k2 ?_
 refine A3 (A2 (A5 Z Z) Z (A6 ?_))
 refine k1 (k2 (k2 ?_))
 refine A3 (A2 (A4 Z Z) Z (B9 (C67 s hs) Z Z Z ?_));rintro _ rfl;refine A6 ?_
 refine k1 ?_
 refine B2 rfl (fun ht=>?_) (fun ht=>?_)
 ·have h:ended s=true:=ht
  have hl:1≤s.length:=by obtain ⟨a,rfl⟩:=ended_iff.1 h;simp
  refine k2 ?_
  refine A3 (A2 (A4 Z Z) Z (A2 (A4 Z Z) Z (A2 (D5 Z) Z (A2 (P5 Z Z (by omega)) Z (A2 (j5 Z Z (by omega) (by omega)) Z (A2 (A5 Z Z) Z (A6 ?_)))))))
  refine k1 (k10 (k11 ?_))
  exact B5 (rs:=[F5 s.dropLast]) (F8 rfl (by rw [show ((s.length:Int) - 1).toNat=s.length - 1 by omega,←List.dropLast_eq_take];rfl) rfl) (by unfold A00;rw [if_pos h])
 ·have h:ended s=false:=ht
  refine k5 (k1 (k2 ?_))
  refine A3 (A2 (A4 Z Z) Z (A2 (A5 Z Z) Z (A6 ?_)))
  refine k1 (k10 ?_)
  exact B5 (rs:=[F5 s]) (F8 rfl rfl rfl) (by unfold A00;rw [if_neg (by rw [h];decide)])
theorem G77 (s:Str) (hs:s.length≤536870912):FnOk Tryz.prog 84 [F5 s] (fun rs=>rs=A27 s):=by
 obtain ⟨L,hL⟩:∃L,L=D2 s:=⟨_,rfl⟩
 obtain ⟨f1,f2⟩:=C37 s
 rw [←hL] at f1 f2
 have hmem:∀x∈L,x.length≤536870912:=fun x hx=>by have:=(List.sublist_flatten_of_mem hx).length_le;omega
 have hbut:=(C36 s).2
 rw [←hL] at hbut
 have hLL:c9 s=if L.all ended=true then some (L.map List.dropLast) else none:=by
  unfold c9
  by_cases h0:s=[]
  ·have:L=[]:=by rw [hL,h0];rfl
   rw [if_pos h0,this];rfl
  ·rw [if_neg h0,←hL]
   have hiff:(ended s=true)↔L.all ended=true:=by
    have hfl:L.flatten=s:=by rw [hL];have:=B71 s [];simpa [D2] using this
    have hne:L≠[]:=fun e=>by rw [e] at hfl;exact h0 hfl.symm
    have hsp:=List.dropLast_concat_getLast hne
    have hlast:L.getLast hne≠[]:=by
     have:=(C36 s).1 (L.getLast hne) (by rw [←hL];exact List.getLast_mem hne)
     intro e;rw [e] at this;cases this
    have hend:ended s=ended (L.getLast hne):=by
     rw [←hfl]
     conv=>lhs;rw [←hsp,K04]
     unfold ended
     simp only [J91,K19,K02]
     rw [List.getLast?_append]
     cases h:(L.getLast hne).getLast? with
     | none=>exact absurd (List.getLast?_eq_none_iff.1 h) hlast
     | some x=>rfl
    rw [hend,List.all_eq_true]
    constructor
    ·intro h x hx
     rw [←hsp] at hx
     rcases List.mem_append.1 hx with hx | hx
     ·have:∀(l:List Str) (z:Str),W0 (l++[z])=true→∀y∈l,ended y=true:=by
       intro l
       induction l with
       | nil=>intro z _ y hy;cases hy
       | cons a r ih =>
        intro z hz y hy
        rw [K08,W0] at hz
        simp only [J80,K13] at hz
        rcases List.mem_cons.1 hy with rfl | hy
        ·rcases hz.1 with h | h
         ·simp at h
         ·exact h
        ·exact ih z hz.2 y hy
      rw [←hsp] at hbut
      exact this _ _ hbut x hx
     ·simp only [K06,K05,or_false] at hx
      rw [hx];exact h
    ·intro h
     exact h _ (List.getLast_mem hne)
   by_cases he:ended s=true
   ·rw [if_pos he,if_pos (hiff.1 he)]
   ·rw [if_neg he,if_neg (fun h=>he (hiff.2 h))]
 refine FnOk.intro Tryz.func84 (by decide) Z Z Z Z ?_
 refine k2 ?_
 refine A3 (A2 (A5 Z Z) Z (A2 (A5 Z Z) Z (A6 ?_)))
 refine k1 (k2 ?_)
 refine A3 (A2 (A4 Z Z) Z (X3 (I56 s hs) Z Z Z ?_));rintro _ _ ⟨rfl,rfl⟩;refine A2 (A5 Z Z) Z (A6 ?_)
 rw [←hL]
 refine k1 (k2 (k2 ?_))
 refine A3 (A2 (A5 Z Z) Z (A6 ?_))
 refine k1 (k3 ?_)
 refine D1 (X:=Nat) (fun i=>([(4,.s (.one (.mut 740))),(5,C3 i)],[(740,.grow 9 Str 1 J5 ((L.take i).map List.dropLast++L.drop i))])) (fun i=>i≤L.length∧(L.take i).all ended=true) (fun i=>L.length - i) 0 ⟨Nat.zero_le _,rfl⟩ (J48 ⟨le1 rfl,le1 rfl,trivial⟩ ⟨rfl,trivial⟩) ?_
 rintro i ⟨hi,hall⟩
 dsimp only at hi hall ⊢
 have hcl:((L.take i).map List.dropLast++L.drop i).length=L.length:=by rw [J77,K10,J90,J88];omega
 refine k2 (k2 ?_)
 refine A3 (A2 (A4 Z Z) Z (A2 (A4 Z Z) Z (A2 (A41 Z Z) Z (A2 (D6 Z Z) Z (A6 ?_)))))
 rw [hcl]
 refine k1 ?_
 refine B2 rfl (fun ht=>?_) (fun ht=>?_)
 ·have hlt:i < L.length:=by have:=A0 ht;omega
  obtain ⟨x,hx⟩:∃x,x=L[i]:=⟨_,rfl⟩
  have hxm:x∈L:=by rw [hx];exact J96 hlt
  have hlm:((L.take i).map List.dropLast).length=i:=by rw [K10,J90];omega
  have hv:((L.take i).map List.dropLast++L.drop i)[i]?=some x:=by rw [J95 (by omega),hlm,K20,J99,hx];simp [hlt]
  have hset:∀y,((L.take i).map List.dropLast++L.drop i).set i y=(L.take i).map List.dropLast++y::L.drop (i+1):=by
   intro y
   rw [List.set_append_right _ _ (by omega),hlm,K20,J84 hlt,List.set_cons_zero]
  have htk:L.take (i+1)=L.take i++[x]:=by rw [J86 hlt,hx]
  refine k5 (k1 (k2 (k3 (k2 (k2 ?_)))))
  refine A3 (A2 (A4 Z Z) Z (A2 (A4 Z Z) Z (A2 (O7 Z Z Z (by omega) (by (rw [hcl];omega))) Z ?_)));refine A2 (C65 Z Z hv Z) Z (B9 (C67 x (by have:=hmem x hxm;omega)) Z Z Z ?_);rintro _ rfl;refine A2 (E4 Z) Z (A6 ?_)
  refine k1 ?_
  refine B2 rfl (fun ht=>?_) (fun ht=>?_)
  ·have he:ended x=false:=by cases h:ended x<;>rw [h] at ht<;>simp at ht ⊢
   refine k2 ?_
   refine A3 (A2 (G9 _ 1 J5) Z (A2 (A5 Z Z) Z (A6 ?_)))
   refine k1 (k10 (k11 (k12 (k11 (k11 (k12 (k11 ?_)))))))
   refine B5 (rs:=[c5 [],D3 false]) (X2 Z Z Z Z Z) ?_
   unfold A27
   rw [hLL,if_neg]
   intro h
   have:=List.all_eq_true.1 h x hxm
   rw [he] at this;cases this
  ·have he:ended x=true:=by cases h:ended x<;>rw [h] at ht<;>simp at ht ⊢
   have htr:A00 x=x.dropLast:=by unfold A00;rw [if_pos he]
   refine k5 (k1 ?_)
   refine A3 (A2 (A4 Z Z) Z (A2 (A4 Z Z) Z (A2 (A4 Z Z) Z (A2 (A4 Z Z) Z (A2 (O7 Z Z Z (by omega) (by (rw [hcl];omega))) Z ?_)))));refine A2 (C65 Z Z hv Z) Z (B9 (J17 x (by have:=hmem x hxm;omega)) Z Z Z ?_);rintro _ rfl;refine A2 (O7 Z Z Z (by omega) (by (rw [hcl];omega))) Z ?_;refine E3 (A16 (A00 x) TySz.out Z Z hv Z Z Z Z (fun _ _ _ h=>A22 h) (by intro j h1 h2;rcases j with _ | _ | _ | _ | _ | _ | _ | j<;>first | rfl | omega)) ?_;refine A6 ?_
   rw [J83,hset,htr]
   refine k4 (k1 ?_)
   refine A3 (A2 (A4 Z Z) Z (A2 (C1 Z Z (by omega)) Z (A2 (A5 Z Z) Z (A6 ?_))))
   refine k1 ?_
   refine ⟨i+1,⟨hlt,by rw [htk,K29,hall];simp [he]⟩,by omega,?_⟩
   rw [htk,J92,J89]
   exact J48 ⟨le1 rfl,le1 rfl,trivial⟩ ⟨rfl,trivial⟩
 ·have hi2:i=L.length:=by have:=A1 ht;omega
  subst hi2
  rw [J97] at hall ⊢
  rw [List.drop_length,K02]
  refine k6 (k2 ?_)
  refine A3 (A2 (A4 Z Z) Z (A2 (A5 Z Z) Z (A2 (A5 Z Z) Z (A6 ?_))))
  refine H8 ?_
  refine F4 (J63 (t:=2) Z Z Z) ?_
  refine k10 ?_
  refine B5 (rs:=[c5 (L.map List.dropLast),D3 true]) (X2 Z Z Z Z Z) ?_
  unfold A27
  rw [hLL,if_pos hall]
theorem A28 (s p:Str):FnOk Tryz.prog 160 [F5 s,F5 p] (fun rs=>rs=[D3 (decide (s.take p.length=p))]):=by
 refine FnOk.intro Tryz.func160 (by decide) Z Z Z Z ?_
 refine k2 ?_
 refine A3 (A2 (A5 Z Z) Z (A6 ?_))
 refine k1 (k2 ?_)
 refine A3 (A2 (A4 Z Z) Z (A2 (D5 Z) Z (A2 (A4 Z Z) Z (A2 (D5 Z) Z (A2 (Z1 Z Z) Z (A2 (A4 Z Z) Z (A9 Z Z Z Z (fun hg=>by rw [hg];exact A4 Z Z) ?_)))))));refine A9 Z Z Z Z (fun hg=>by rw [hg];exact A4 Z Z) ?_;refine A9 Z Z Z Z (fun hg=>by rw [hg];exact D5 Z) ?_;refine A9 Z Z Z Z (fun hg=>by have hq:=hg;(try simp at hq);rw [hg];exact j5 Z Z (by omega) (by omega)) ?_;refine A9 Z Z Z Z (fun hg=>by rw [hg];exact A4 Z Z) ?_;refine A9 Z Z Z Z (fun hg=>by rw [hg];exact V1 Z Z) ?_;refine A2 (B4 Z (fun h=>by first | rfl | (rw [h];rfl)) (fun h=>by first | rfl | (rw [h];rfl))) Z ?_;refine A2 (A5 Z Z) Z (A6 ?_)
 simp only [I3,J83]
 refine k1 (k10 ?_)
 refine B5 (F8 Z Z Z) ?_
 congr 4
 congr 1
 apply propext;constructor
 ·intro h;exact h.2
 ·intro h
  refine ⟨?_,h⟩
  have:=congrArg List.length h
  rw [J90] at this;omega
theorem B83 {s:Str} {i:Nat} (h:P2 (s.drop i)=none):C72 s i=[E2 0,E2 0,E2 0,D3 false]:=by unfold C72;rw [h]
theorem B84 {s:Str} {i k:Nat} {a n:Int} (h:P2 (s.drop i)=some (a,n,k)):C72 s i=[E2 a,E2 n,E2 ((i+k:Nat):Int),D3 true]:=by unfold C72;rw [h]
theorem C75 (a b:List CHunk):szC (a++b)=szC a+szC b:=by simp [szC]
theorem C76 (h:CHunk):szC [h]=A65 h:=by simp [szC]
theorem lastC {α:Type} {l:List α} {x:α} (h:l.getLast?=some x):l=l.dropLast++[x]:=by
 obtain ⟨ys,hy⟩:=List.getLast?_eq_some_iff.1 h
 rw [hy,List.dropLast_concat]
theorem G78 {hs:List CHunk} {h:CHunk} (hl:hs.getLast?=some h):szC hs=szC hs.dropLast+A65 h:=by
 conv=>lhs;rw [lastC hl,C75,C76]
theorem I57 (t:Str):(A00 t).length≤t.length:=by
 unfold A00;split
 ·rw [List.length_dropLast];omega
 ·omega
theorem B03 (h:CHunk):A65 h=2048+h.At.length+(h.Rows.map N0).sum:=rfl
def CInv (n:Nat) (hs:List CHunk):Prop:=∀h∈hs,h.At.length=n+1∧I9 h.Rows
theorem CInv.app {n:Nat} {hs:List CHunk} {h:CHunk} (hi:CInv n hs) (hh:h.At.length=n+1∧I9 h.Rows):CInv n (hs++[h]):=by
 intro x hx
 rcases List.mem_append.1 hx with hx | hx
 ·exact hi x hx
 ·simp only [K06,K05,or_false] at hx
  rw [hx];exact hh
theorem CInv.init {n:Nat} {hs:List CHunk} (hi:CInv n hs):CInv n hs.dropLast:=fun x hx=>hi x ((List.dropLast_sublist _).subset hx)
theorem G79 {n:Nat} {l:Str} {a:List Int} (h:A34 n l=some a):a.length=n+1∧2*(n+2)≤l.length:=by
 unfold A34 at h
 split at h
 ·rename_i h1
  have hp:(D02 n).length=n+2:=by simp [D02,j9]
  have hs:(A83 n).length=n+2:=by simp [A83,j9]
  have l1:=congrArg List.length h1.1
  rw [J90,hp] at l1
  have l2:=h1.2
  unfold S8 at l2
  have l3:=(A0 l2).1
  rw [hs,J88] at l3
  split at h
  ·rename_i b hb
   split at h
   ·rename_i hbl
    cases h
    exact ⟨hbl,by omega⟩
   ·cases h
  ·cases h
 ·cases h
def u4 (l:Str):Nat:=420*(l.length+1)
theorem G80 {n:Nat} (hn:1≤n∧n≤32) {hs hs':List CHunk} {l:Str} (h:W3 n hs l=some hs') (hi:CInv n hs):szC hs'≤szC hs+u4 l∧CInv n hs':=by
 unfold W3 at h
 unfold u4
 split at h
 ·cases hp:A34 n l with
  | none=>rw [hp] at h;cases h
  | some a =>
   rw [hp] at h
   have h:hs++[⟨a,[]⟩]=hs':=Option.some.inj h
   obtain ⟨f1,f2⟩:=G79 hp
   rw [←h]
   refine ⟨?_,hi.app ⟨f1,fun r hr=>by cases hr⟩⟩
   rw [C75,C76,B03]
   dsimp only
   rw [f1,K12,K24]
   omega
 ·split at h
  ·cases h
  ·split at h
   ·unfold E78 at h
    cases hl:hs.getLast? with
    | none=>rw [hl] at h;cases h
    | some g =>
     rw [hl] at h
     dsimp only at h
     have hg:=hi g (List.mem_of_getLast? hl)
     cases hx:g.Rows.getLast? with
     | none=>rw [hx] at h;cases h
     | some r =>
      rw [hx] at h
      have h:hs.dropLast++[⟨g.At,g.Rows.dropLast++[⟨r.Lost,r.Marks,A00 r.Text⟩]⟩]=hs':=Option.some.inj h
      have ht:=I57 r.Text
      have hrr:=lastC hx
      have hsum:(g.Rows.map N0).sum=(g.Rows.dropLast.map N0).sum+N0 r:=by
       conv=>lhs;rw [hrr,J92,K15]
       simp
      rw [←h]
      refine ⟨?_,hi.init.app ⟨hg.1,fun x hx2=>?_⟩⟩
      ·rw [C75,C76,B03,G78 hl,B03,hsum]
       simp only [J92,K15,J85,K12,K03,K24,N0]
       omega
      ·rcases List.mem_append.1 hx2 with hx2 | hx2
       ·exact hg.2 x ((List.dropLast_sublist _).subset hx2)
       ·simp only [K06,K05,or_false] at hx2
        rw [hx2];exact hg.2 r (List.mem_of_getLast? hx)
   ·cases hr:AL.rowAt (l++[10]) n with
    | none=>rw [hr] at h;cases h
    | some r =>
     rw [hr] at h
     dsimp only at h
     unfold G31 at h
     cases hl:hs.getLast? with
     | none=>rw [hl] at h;cases h
     | some g =>
      rw [hl] at h
      have h:hs.dropLast++[⟨g.At,g.Rows++[r]⟩]=hs':=Option.some.inj h
      have hg:=hi g (List.mem_of_getLast? hl)
      have hrI:x7 (l++[10]) (n:Int)=some r:=by unfold x7;rw [if_neg (by omega),J83];exact hr
      obtain ⟨_,t1,t2,_⟩:=D48 hrI
      have t3:r.Text.length≤l.length+1:=by rw [t1,J88,J77];simp
      rw [←h]
      refine ⟨?_,hi.init.app ⟨hg.1,fun x hx2=>?_⟩⟩
      ·rw [C75,C76,B03,G78 hl,B03]
       simp only [J92,K15,J85,K12,K03,K24,N0]
       omega
      ·rcases List.mem_append.1 hx2 with hx2 | hx2
       ·exact hg.2 x hx2
       ·simp only [K06,K05,or_false] at hx2
        rw [hx2];exact t2
theorem G81 {n:Nat} (hn:1≤n∧n≤32):∀(ls:List Str) (hs hs':List CHunk),Z8 n hs ls=some hs'→CInv n hs→szC hs'≤szC hs+(ls.map u4).sum∧CInv n hs'
 | [],hs,hs',h,hi=>by cases h;exact ⟨by simp,hi⟩
 | x::r,hs,hs',h,hi=>by
  rw [Z8] at h
  cases hx:W3 n hs x with
  | none=>rw [hx] at h;cases h
  | some g =>
   rw [hx] at h
   obtain ⟨a1,a2⟩:=G80 hn hx hi
   obtain ⟨b1,b2⟩:=G81 hn r g hs' h a2
   refine ⟨?_,b2⟩
   rw [J85,K03];omega
theorem D31 {q:Bool} {a b:Str} {d:Bool} {p:Str} {n:Int} (h:R3 q a b=some (d,p,n)):1≤n∧n≤32:=by
 unfold R3 at h
 split at h
 ·cases h
 ·split at h
  ·split at h
   ·split at h
    ·rename_i h2
     cases h;omega
    ·cases h
   ·cases h
  ·cases h
theorem F59 {l:List Str} {c:Comb} (h:O4 l=some c):(1≤c.Parents∧c.Parents≤32)∧szC c.Hunks≤(l.map u4).sum∧CInv c.Parents.toNat c.Hunks:=by
 unfold O4 at h
 split at h
 ·rename_i a b r
  split at h
  ·rename_i d p n ht
   have hn:=D31 ht
   split at h
   ·rename_i hs hf
    cases h
    obtain ⟨f1,f2⟩:=G81 (n:=n.toNat) (by omega) r [] hs hf (fun x hx=>by cases hx)
    refine ⟨hn,?_,f2⟩
    have e0:szC ([]:List CHunk)=0:=rfl
    rw [e0] at f1
    simp only [J85,K03]
    omega
   ·cases h
  ·cases h
 ·cases h
theorem D64 {n:Nat} {l:Str}:∀(m k i:Nat) {a c:List Int},i≤l.length→R2 n l m k i=some (a,c)→a.length=m∧c.length=m∧i+2*m≤l.length
 | 0,k,i,a,c,hi,h=>by cases h;exact ⟨rfl,rfl,by omega⟩
 | m + 1,k,i,a,c,hi,h=>by
  rw [R2] at h
  cases hs:T6 l i [32,L8 n k] with
  | none=>rw [hs] at h;cases h
  | some q =>
   obtain ⟨x,y,j⟩:=q
   rw [hs] at h
   dsimp only at h
   have hj:=D29 hi hs
   have hj2:i+2≤j:=by
    unfold T6 at hs
    split at hs
    ·cases hr:P2 (l.drop (i+([32,L8 n k]:Str).length)) with
     | none=>rw [hr] at hs;cases hs
     | some z =>
      rw [hr] at hs
      obtain ⟨z1,z2,z3⟩:=z
      simp at hs
      omega
    ·cases hs
   cases hr:R2 n l m (k+1) j with
   | none=>rw [hr] at h;cases h
   | some q =>
    obtain ⟨a',c'⟩:=q
    rw [hr] at h
    cases h
    obtain ⟨b1,b2,b3⟩:=D64 m (k+1) j hj hr
    exact ⟨by simp [b1],by simp [b2],by omega⟩
theorem D65 {n:Nat} {l:Str} {a c:List Int} (h:A84 n l=some (a,c)):a.length=n+1∧c.length=n+1∧2*(n+1)≤l.length:=by
 have h1:(l.takeWhile (fun c=>decide (c=64))).length≤l.length:=by
  have:=(List.takeWhile_sublist (fun c=>decide (c=64)) (l:=l)).length_le
  exact this
 obtain ⟨b1,b2,b3⟩:=D64 (n+1) 0 _ h1 h
 exact ⟨b1,b2,by omega⟩
def C01 (l:List Str) (i:Nat):Nat:=((l.take i).map u4).sum
theorem B85 {l:List Str} {i:Nat} (h:i < l.length):C01 l (i+1)=C01 l i+u4 l[i]:=by
 unfold C01
 rw [J86 h,J92,K15]
 simp only [J85,K12,K03,K24]
 omega
theorem F60 {l:List Str} {i:Nat} (h:l.length≤i):C01 l i=C01 l l.length:=by unfold C01;rw [K17 h,J97]
theorem I58 (l:List Str):C01 l l.length=(l.map u4).sum:=by unfold C01;rw [J97]
theorem I59 (n:Nat) (r:Row) (cs:List Int):(u6 n r cs).length=n+1:=by unfold u6;simp
theorem J18 {n:Nat} (hn:1≤n∧n≤32) (l:List Str):∀(f i:Nat) (cs:List Int) (acc rs:List Row) (j:Nat),l.length - i≤f→W4 n l i cs acc=some (rs,j)→I9 acc →
  i≤j∧(rs.map N0).sum+C01 l i≤(acc.map N0).sum+C01 l j∧I9 rs:=by
 intro f
 induction f with
 | zero =>
  intro i cs acc rs j hf h ha
  rw [W4] at h
  split at h
  ·rw [dif_neg (by omega)] at h;cases h
  ·cases h;exact ⟨Nat.le_refl _,Nat.le_refl _,ha⟩
 | succ f ih =>
  intro i cs acc rs j hf h ha
  rw [W4] at h
  split at h
  ·by_cases hi:i < l.length
   ·rw [dif_pos hi] at h
    have hw:=B85 hi
    unfold u4 at hw
    split at h
    ·cases h
    ·rename_i r hr
     have hrI:x7 (l[i]++[10]) (n:Int)=some r:=by unfold x7;rw [if_neg (by omega),J83];exact hr
     obtain ⟨_,t1,t2,_⟩:=D48 hrI
     have t3:r.Text.length≤l[i].length+1:=by rw [t1,J88,J77];simp
     have hin:∀t:Str,I9 (acc++[⟨r.Lost,r.Marks,t⟩]):=fun t x hx=>by
      rcases List.mem_append.1 hx with hx | hx
      ·exact ha x hx
      ·simp only [K06,K05,or_false] at hx
       rw [hx];exact t2
     split at h
     ·rename_i h2
      have hi2:=(List.getElem?_eq_some_iff.1 h2).1
      have hw2:=B85 hi2
      rw [show i+1+1=i+2 from rfl] at hw2
      obtain ⟨a1,a2,a3⟩:=ih _ _ _ _ _ (by omega) h (hin _)
      simp only [J92,K15,J85,K12,K03,K24,N0,List.length_dropLast] at a2
      exact ⟨by omega,by omega,a3⟩
     ·obtain ⟨a1,a2,a3⟩:=ih _ _ _ _ _ (by omega) h (hin r.Text)
      simp only [J92,K15,J85,K12,K03,K24,N0] at a2
      exact ⟨by omega,by omega,a3⟩
   ·rw [dif_neg hi] at h;cases h
  ·cases h;exact ⟨Nat.le_refl _,Nat.le_refl _,ha⟩
theorem B57 {n:Nat} {l:List Str} {i:Nat} {hs:List CHunk} (h:l.length≤i):Q2 n l i hs=some hs:=by rw [Q2,dif_neg (by omega)]
theorem D66 {n:Nat} {l:List Str} {i:Nat} {hs:List CHunk} {x:Str} (h:l[i]?=some x) (h2:A84 n x=none):Q2 n l i hs=none:=by
 obtain ⟨hi,he⟩:=List.getElem?_eq_some_iff.1 h
 rw [Q2,dif_pos hi,he,h2]
theorem B04 {n:Nat} {l:List Str} {i:Nat} {hs:List CHunk} {x:Str} {a c:List Int} (h:l[i]?=some x) (h2:A84 n x=some (a,c)) (h3:W4 n l (i+1) c []=none):Q2 n l i hs=none:=by
 obtain ⟨hi,he⟩:=List.getElem?_eq_some_iff.1 h
 rw [Q2,dif_pos hi,he,h2]
 dsimp only
 rw [h3]
theorem C77 {n:Nat} {l:List Str} {i j:Nat} {hs:List CHunk} {rs:List Row} {x:Str} {a c:List Int} (h:l[i]?=some x) (h2:A84 n x=some (a,c)) (h3:W4 n l (i+1) c []=some (rs,j)) (hj:i+1≤j) :
  Q2 n l i hs=Q2 n l j (hs++[⟨a,rs⟩]):=by
 obtain ⟨hi,he⟩:=List.getElem?_eq_some_iff.1 h
 rw [Q2,dif_pos hi,he,h2]
 dsimp only
 rw [h3]
 dsimp only
 rw [show max j (i+1)=j by omega]
theorem H55 {n:Nat} (hn:1≤n∧n≤32) (l:List Str):∀(f i:Nat) (hs hs':List CHunk),l.length - i≤f→Q2 n l i hs=some hs'→CInv n hs→szC hs'+C01 l i≤szC hs+C01 l l.length∧CInv n hs':=by
 intro f
 induction f with
 | zero =>
  intro i hs hs' hf h hc
  rw [B57 (by omega)] at h
  cases h
  rw [F60 (by omega)];exact ⟨Nat.le_refl _,hc⟩
 | succ f ih =>
  intro i hs hs' hf h hc
  by_cases hi:i < l.length
  ·have hv:l[i]?=some l[i]:=by simp [hi]
   have hw:=B85 hi
   unfold u4 at hw
   cases h2:A84 n l[i] with
   | none=>rw [D66 hv h2] at h;cases h
   | some q =>
    obtain ⟨a,c⟩:=q
    obtain ⟨g1,g2,g3⟩:=D65 h2
    cases h3:W4 n l (i+1) c [] with
    | none=>rw [B04 hv h2 h3] at h;cases h
    | some r =>
     obtain ⟨rs,j⟩:=r
     obtain ⟨b1,b2,b3⟩:=J18 hn l _ _ _ _ _ _ (Nat.le_refl _) h3 (fun x hx=>by cases hx)
     rw [C77 hv h2 h3 b1] at h
     obtain ⟨c1,c2⟩:=ih _ _ _ (by omega) h (hc.app ⟨g1,b3⟩)
     refine ⟨?_,c2⟩
     rw [C75,C76,B03] at c1
     dsimp only at c1
     rw [g1] at c1
     simp only [K12,K24] at b2
     omega
  ·rw [B57 (by omega)] at h
   cases h
   rw [F60 (by omega)];exact ⟨Nat.le_refl _,hc⟩
theorem J19 {l:List Str} {c:Comb} (h:u7 l=some c):(1≤c.Parents∧c.Parents≤32)∧szC c.Hunks≤(l.map u4).sum∧CInv c.Parents.toNat c.Hunks:=by
 unfold u7 at h
 split at h
 ·rename_i a b r
  split at h
  ·rename_i d p n ht
   have hn:=D31 ht
   split at h
   ·rename_i hs hf
    cases h
    obtain ⟨f1,f2⟩:=H55 (n:=n.toNat) (by omega) _ _ 2 [] hs (Nat.le_refl _) hf (fun x hx=>by cases hx)
    refine ⟨hn,?_,f2⟩
    have e0:szC ([]:List CHunk)=0:=rfl
    rw [e0,I58] at f1
    dsimp only
    omega
   ·cases h
  ·cases h
 ·cases h
theorem G82 (cs:List Int) (hl:cs.length≤1099511627776):FnOk Tryz.prog 164 [T0 cs] (fun rs=>rs=[D3 (A35 cs)]):=by
 refine FnOk.intro Tryz.func164 (by decide) Z Z Z Z ?_
 refine k2 ?_
 refine A3 (A2 (A5 Z Z) Z (A6 ?_))
 refine k1 (k2 (k2 ?_))
 refine A3 (A2 (A5 Z Z) Z (A6 ?_))
 refine k1 (k3 ?_)
 refine D1 (X:=Nat) (fun k=>([(0,C8 Int 1 H1 cs),(3,C3 k)],[])) (fun k=>k≤cs.length∧A35 cs=A35 (cs.drop k)) (fun k=>cs.length - k) 0 ⟨Nat.zero_le _,rfl⟩ (J48 ⟨le1 rfl,le1 rfl,trivial⟩ trivial) ?_
 rintro k ⟨hk,hp⟩
 dsimp only at hk hp ⊢
 refine k2 (k2 ?_)
 refine A3 (A2 (A4 Z Z) Z (A2 (A4 Z Z) Z (A2 (F2 Z (.pure _ _ _ _)) Z (A2 (D6 Z Z) Z (A6 ?_)))))
 refine k1 ?_
 refine B2 rfl (fun ht=>?_) (fun ht=>?_)
 ·have hlt:k < cs.length:=by have:=A0 ht;omega
  have hv:=D04 hlt
  have hg:cs[k]=cs.getD k 0:=by rw [J82,J79 hlt];rfl
  rw [J84 hlt,hg] at hp
  have hp:A35 cs=(decide (0 < cs.getD k 0)||A35 (cs.drop (k+1))):=hp
  obtain ⟨x,hx⟩:∃x,x=cs.getD k 0:=⟨_,rfl⟩
  rw [←hx] at hv hp
  refine k5 (k1 (k2 (k3 (k2 ?_))))
  refine A3 (A2 (A4 Z Z) Z (A2 (A4 Z Z) Z (A2 (B3 Z (.pure _ _ _ _) Z (by omega) hv) Z (A2 (B6 Z Z) Z (A2 (L9 Z Z) Z (A6 ?_))))))
  refine k1 ?_
  refine B2 rfl (fun ht=>?_) (fun ht=>?_)
  ·have h:=A0 ht
   rw [decide_eq_true (by omega),Bool.true_or] at hp
   refine k2 ?_
   refine A3 (A2 (A5 Z Z) Z (A6 ?_))
   refine k1 (k10 (k12 (k11 (k11 (k12 (k11 ?_))))))
   exact B5 (rs:=[D3 true]) (F8 rfl rfl rfl) (by rw [hp])
  ·have h:=A1 ht
   rw [decide_eq_false (by omega),Bool.false_or] at hp
   refine k5 (k4 (k1 ?_))
   refine A3 (A2 (A4 Z Z) Z (A2 (C1 Z Z (by omega)) Z (A2 (A5 Z Z) Z (A6 ?_))))
   refine k1 ?_
   exact ⟨k+1,⟨by omega,hp⟩,by omega,J48 ⟨le1 rfl,le1 rfl,trivial⟩ trivial⟩
 ·have hkl:k=cs.length:=by have:=A1 ht;omega
  rw [hkl,J87 (Nat.le_refl _)] at hp
  refine k6 (k2 ?_)
  refine A3 (A2 (A5 Z Z) Z (A6 ?_))
  refine k1 (k10 ?_)
  exact B5 (rs:=[D3 false]) (F8 rfl rfl rfl) (by rw [hp];rfl)
theorem C33 {n:Nat} {l:Str} {m k i j:Nat} {a c:Int} (h:T6 l i [32,L8 n k]=some (a,c,j)):R2 n l (m+1) k i=(R2 n l m (k+1) j).map fun q=>(a::q.1,c::q.2):=by rw [R2,h]
theorem B58 {n:Nat} {l:Str} {m k i:Nat} (h:T6 l i [32,L8 n k]=none):R2 n l (m+1) k i=none:=by rw [R2,h]
theorem F06 (l:Str) (n:Nat) (hn:n≤32) (hl:l.length≤16777216) :
  AL.Met Tryz.prog 163 [(F5 l).s1,(E2 n).s1] [] [] []
   (fun rs ob'=>match A84 n l with
    | some (a,c)=>rs=[.one (.p (.list Int 1 H1 a)),.one (.mut 724),.one (.p (.v (.bool true)))]∧ob'=[(724,.grow 3 Int 1 H1 c)]
    | none=>rs=[.one (.p (.list Int 1 H1 [])),.one (.p (.list Int 1 H1 [])),.one (.p (.v (.bool false)))]∧ob'=[]):=by
 obtain ⟨T,hT⟩:∃T,T=(l.takeWhile (fun c=>decide (c=64))).length:=⟨_,rfl⟩
 have hTl:T≤l.length:=by rw [hT];exact (List.takeWhile_sublist (fun c=>decide (c=64)) (l:=l)).length_le
 have hTW:=fun k hk=>p8 (p:=fun c=>decide (c=64)) l k hk
 rw [←hT] at hTW
 have hHR:A84 n l=R2 n l (n+1) 0 T:=by unfold A84;rw [hT]
 obtain ⟨H,hH⟩:∃H,H=A84 n l:=⟨_,rfl⟩
 rw [←hH] at hHR ⊢
 refine AL.Met.intro Tryz.func163 (by decide) Z Z Z ?_
 refine k2 ?_
 refine A3 (A2 (A5 Z Z) Z (A2 (A5 Z Z) Z (A2 (A5 Z Z) Z (A6 ?_))))
 refine k1 (k2 ?_)
 refine A3 (C2 (V3 723 _ H1 Z) Z (C2 (G45 724 _ H1 Z) Z (A6 ?_)))
 refine k1 (k2 ?_)
 refine A3 (A2 (A5 Z Z) Z (A6 ?_))
 refine k1 (k2 (k3 ?_))
 refine D1 (X:=Nat) (fun i=>([(0,H4 l),(1,C3 n),(7,.s (.one (.buf 723 Int 1 H1 []))),(8,.s (.one (.mut 724))),(9,C3 i)],[(723,.spare 0 1 3),(724,.grow 3 Int 1 H1 [])])) (fun i=>i≤T) (fun i=>T - i) 0 (Nat.zero_le _) (J48 ⟨le1 rfl,le1 rfl,le1 rfl,le1 rfl,le1 rfl,trivial⟩ ⟨rfl,rfl,trivial⟩) ?_
 intro i hi
 dsimp only at hi ⊢
 have hat:=hTW i hi
 by_cases hlt:i < T
 ·have hv:l[i]?=some (l.getD i 0):=gD (by omega)
  rw [hv,decide_eq_true hlt] at hat
  obtain ⟨c,hc⟩:∃c,c=l.getD i 0:=⟨_,rfl⟩
  rw [←hc] at hv hat
  have hc64:c=64:=A0 hat
  refine k2 (k2 ?_)
  refine A3 (A2 (A4 Z Z) Z (A2 (A4 Z Z) Z (A2 (D5 Z) Z (A2 (D6 Z Z) Z (A2 (A4 Z Z) Z (A9 Z Z Z Z (fun hg=>by rw [hg];exact A4 Z Z) ?_))))));refine A9 Z Z Z Z (fun hg=>by rw [hg];exact A4 Z Z) ?_;refine A9 Z Z Z Z (fun hg=>by have hq:=hg;(try simp at hq);rw [hg];exact E9 Z Z (by omega) hv) ?_;refine A9 Z Z Z Z (fun hg=>by rw [hg];exact F1 Z Z) ?_;refine A2 (B4 Z (fun h=>by first | rfl | (rw [h];rfl)) (fun h=>by first | rfl | (rw [h];rfl))) Z ?_;refine A6 ?_
  refine k1 ?_
  refine B2 rfl (fun ht=>?_) (fun ht=>?_)
  ·refine k5 (k1 (k3 ?_))
   refine A3 (A2 (A4 Z Z) Z (A2 (C1 Z Z (by omega)) Z (A2 (A5 Z Z) Z (A6 ?_))))
   refine k4 (k1 ?_)
   exact ⟨i+1,hlt,by omega,J48 ⟨le1 rfl,le1 rfl,le1 rfl,le1 rfl,le1 rfl,trivial⟩ ⟨rfl,rfl,trivial⟩⟩
  ·exfalso
   rw [hc64] at ht
   revert ht
   simp;omega
 have hiT:i=T:=by omega
 subst hiT
 by_cases hll:i < l.length
 ·have hv:l[i]?=some (l.getD i 0):=gD hll
  rw [hv,decide_eq_false (Nat.lt_irrefl i)] at hat
  obtain ⟨c,hc⟩:∃c,c=l.getD i 0:=⟨_,rfl⟩
  rw [←hc] at hv hat
  have hc64:c≠64:=A1 hat
  have hcn:¬(c.toNat:Int)=64:=fun h=>hc64 (by
   have:c.toNat=(64:UInt8).toNat:=by show c.toNat=64;omega
   exact UInt8.toNat_inj.1 this)
  refine k2 (k2 ?_)
  refine A3 (A2 (A4 Z Z) Z (A2 (A4 Z Z) Z (A2 (D5 Z) Z (A2 (D6 Z Z) Z (A2 (A4 Z Z) Z (A9 Z Z Z Z (fun hg=>by rw [hg];exact A4 Z Z) ?_))))));refine A9 Z Z Z Z (fun hg=>by rw [hg];exact A4 Z Z) ?_;refine A9 Z Z Z Z (fun hg=>by have hq:=hg;(try simp at hq);rw [hg];exact E9 Z Z (by omega) hv) ?_;refine A9 Z Z Z Z (fun hg=>by rw [hg];exact F1 Z Z) ?_;refine A2 (B4 Z (fun h=>by first | rfl | (rw [h];rfl)) (fun h=>by first | rfl | (rw [h];rfl))) Z ?_;refine A6 ?_
  refine k1 ?_
  refine B2 rfl (fun ht=>?_) (fun ht=>?_)
  ·exfalso
   revert ht
   simp [hcn]
  refine k6 (k2 (k2 ?_))
  refine A3 (A2 (A5 Z Z) Z (A6 ?_))
  refine k1 (k3 ?_)
  refine D1 (X:=Nat × Nat × List Int × List Int) (fun x=>([(0,H4 l),(1,C3 n),(7,.s (.one (.buf 723 Int 1 H1 x.2.2.1))),(8,.s (.one (.mut 724))),(9,C3 x.2.1),(10,C3 x.1)],[(723,.spare x.2.2.1.length 1 3),(724,.grow 3 Int 1 H1 x.2.2.2)])) (fun x=>x.1≤n+1∧x.2.1≤l.length∧(x.2.2.1.length=x.1∧x.2.2.2.length=x.1)∧H=(R2 n l (n+1 - x.1) x.1 x.2.1).map fun q=>(x.2.2.1++q.1,x.2.2.2++q.2)) (fun x=>n+1 - x.1) (0,i,[],[]) ⟨Nat.zero_le _,hTl,⟨rfl,rfl⟩,by dsimp only;rw [hHR];simp⟩ (J48 ⟨le1 rfl,le1 rfl,le1 rfl,le1 rfl,le1 rfl,le1 rfl,trivial⟩ ⟨rfl,rfl,trivial⟩) ?_
  rintro ⟨k,j,a,c'⟩ ⟨hk,hj,⟨hal,hcl⟩,hp⟩
  dsimp only at hk hj hal hcl hp ⊢
  refine k2 (k2 ?_)
  refine A3 (A2 (A4 Z Z) Z (A2 (A4 Z Z) Z (A2 (m8 Z Z) Z (A6 ?_))))
  refine k1 ?_
  refine B2 rfl (fun ht=>?_) (fun ht=>?_)
  ·have hlt2:k < n+1:=by have:=A0 ht;omega
   obtain ⟨m,hm⟩:∃m,n+1 - k=m+1:=⟨n - k,by omega⟩
   have hm2:n+1 - (k+1)=m:=by omega
   rw [hm] at hp
   refine k5 (k1 (k2 (k3 (k2 ?_))))
   refine A3 (A2 (A5 Z Z) Z (A6 ?_))
   refine H8 ?_
   refine U6 [(0,H4 l),(1,C3 n),(7,.s (.one (.buf 723 Int 1 H1 a))),(8,.s (.one (.mut 724))),(9,C3 j),(10,C3 k),(11,H4 [32,L8 n k])] [(723,.spare a.length 1 3),(724,.grow 3 Int 1 H1 c')] ?_ ?_
   ·refine k2 ?_
    refine A3 (A2 (A4 Z Z) Z (A2 (A4 Z Z) Z (A2 (F1 Z Z) Z (A6 ?_))))
    refine k1 ?_
    refine B2 rfl (fun ht=>?_) (fun ht=>?_)
    ·have hkn:=A0 ht
     skip
     refine A3 (A2 (A5 Z Z) Z (A6 ?_))
     refine k1 ?_
     rw [show L8 n k=43 by unfold L8;rw [if_pos (by omega)]]
     exact J48 ⟨le1 rfl,le1 rfl,le1 rfl,le1 rfl,le1 rfl,le1 rfl,le1 rfl,trivial⟩ ⟨rfl,rfl,trivial⟩
    ·have hkn:=A1 ht
     refine k5 (k1 ?_)
     rw [show L8 n k=45 by unfold L8;rw [if_neg (by omega)]]
     exact J48 ⟨le1 rfl,le1 rfl,le1 rfl,le1 rfl,le1 rfl,le1 rfl,le1 rfl,trivial⟩ ⟨rfl,rfl,trivial⟩
   have hst:=A28 (l.drop j) [32,L8 n k]
   by_cases hs:(l.drop j).take 2=[32,L8 n k]
   rotate_left
   ·rw [show ([32,L8 n k]:Str).length=2 from rfl,decide_eq_false hs] at hst
    have hno:T6 l j [32,L8 n k]=none:=by unfold T6;exact if_neg hs
    rw [B58 hno] at hp
    have hp:H=none:=hp
    refine k2 (k2 ?_)
    refine A3 (A2 (A4 Z Z) Z (A2 (A4 Z Z) Z (A2 (V2 Z Z (by omega) (by omega)) Z (A2 (A4 Z Z) Z (B9 (hst) Z Z Z ?_)))));rintro _ rfl;refine A2 (E4 Z) Z (A6 ?_)
    refine k1 ?_
    refine B2 rfl (fun ht=>?_) (fun ht=>?_)
    ·refine k2 ?_
     refine A3 (A2 (G9 _ 1 H1) Z (A2 (G9 _ 1 H1) Z (A2 (A5 Z Z) Z (A6 ?_))))
     refine k1 (k10 (k11 (k12 (k11 (k11 (k12 (k11 ?_)))))))
     exact H7 (F25 rfl rfl rfl rfl) (by repeat (first | exact D9 | refine tail_cons rfl ?_ | refine E0 _ ?_)) (ObIn.spec (ob':=[]) trivial) (by rw [hp];exact ⟨rfl,rfl⟩)
    ·cases ht
   rw [show ([32,L8 n k]:Str).length=2 from rfl,decide_eq_true hs] at hst
   have hj2:=E40 (l:=l) (pre:=[32,L8 n k]) hj hs
   have hj2:j+2≤l.length:=hj2
   have hrg:=F47 l (j+2) hj2 (by omega)
   have hsp:T6 l j [32,L8 n k]=match P2 (l.drop (j+2)) with | none=>none | some (a,n,e)=>some (a,n,j+2+e):=by
    unfold T6;exact if_pos hs
   cases g:P2 (l.drop (j+2)) with
   | none =>
    rw [B83 g,show ((j+2:Nat):Int)=(j:Int)+2 by omega] at hrg
    rw [g] at hsp
    rw [B58 hsp] at hp
    have hp:H=none:=hp
    refine k2 (k2 ?_)
    refine A3 (A2 (A4 Z Z) Z (A2 (A4 Z Z) Z (A2 (V2 Z Z (by omega) (by omega)) Z (A2 (A4 Z Z) Z (B9 (hst) Z Z Z ?_)))));rintro _ rfl;refine A2 (E4 Z) Z (A6 ?_)
    refine k1 ?_
    refine B2 rfl (fun ht=>?_) (fun ht=>?_)
    ·cases ht
    refine k5 (k1 (k2 ?_))
    refine A3 (A2 (A4 Z Z) Z (A2 (A4 Z Z) Z (A2 (C1 Z Z (by omega)) Z (B9 (hrg) Z Z Z ?_))));rintro _ rfl;refine A2 (A4 Z Z) Z (A2 (B1 Z Z) Z (A2 (B1 Z Z) Z (A2 (B1 Z Z) Z (A2 (B1 Z Z) Z (A2 (A5 Z Z) Z (A2 (A5 Z Z) Z (A2 (A5 Z Z) Z (A2 (A5 Z Z) Z (A6 ?_)))))))))
    refine k1 (k2 (k2 ?_))
    refine A3 (A2 (A4 Z Z) Z (A2 (E4 Z) Z (A6 ?_)))
    refine k1 ?_
    refine B2 rfl (fun ht=>?_) (fun ht=>?_)
    ·refine k2 ?_
     refine A3 (A2 (G9 _ 1 H1) Z (A2 (G9 _ 1 H1) Z (A2 (A5 Z Z) Z (A6 ?_))))
     refine k1 (k10 (k11 (k12 (k11 (k11 (k12 (k11 ?_)))))))
     exact H7 (F25 rfl rfl rfl rfl) (by repeat (first | exact D9 | refine tail_cons rfl ?_ | refine E0 _ ?_)) (ObIn.spec (ob':=[]) trivial) (by rw [hp];exact ⟨rfl,rfl⟩)
    ·cases ht
   | some q =>
    obtain ⟨s,w,e⟩:=q
    rw [B84 g,show ((j+2:Nat):Int)=(j:Int)+2 by omega] at hrg
    rw [g] at hsp
    have hsp:T6 l j [32,L8 n k]=some (s,w,j+2+e):=hsp
    have hje:=D29 hj hsp
    rw [C33 hsp] at hp
    obtain ⟨jj,hjj⟩:∃jj,jj=j+2+e:=⟨_,rfl⟩
    rw [←hjj] at hp hrg hje
    refine k2 (k2 ?_)
    refine A3 (A2 (A4 Z Z) Z (A2 (A4 Z Z) Z (A2 (V2 Z Z (by omega) (by omega)) Z (A2 (A4 Z Z) Z (B9 (hst) Z Z Z ?_)))));rintro _ rfl;refine A2 (E4 Z) Z (A6 ?_)
    refine k1 ?_
    refine B2 rfl (fun ht=>?_) (fun ht=>?_)
    ·cases ht
    refine k5 (k1 (k2 ?_))
    refine A3 (A2 (A4 Z Z) Z (A2 (A4 Z Z) Z (A2 (C1 Z Z (by omega)) Z (B9 (hrg) Z Z Z ?_))));rintro _ rfl;refine A2 (A4 Z Z) Z (A2 (B1 Z Z) Z (A2 (B1 Z Z) Z (A2 (B1 Z Z) Z (A2 (B1 Z Z) Z (A2 (A5 Z Z) Z (A2 (A5 Z Z) Z (A2 (A5 Z Z) Z (A2 (A5 Z Z) Z (A6 ?_)))))))))
    refine k1 (k2 (k2 ?_))
    refine A3 (A2 (A4 Z Z) Z (A2 (E4 Z) Z (A6 ?_)))
    refine k1 ?_
    refine B2 rfl (fun ht=>?_) (fun ht=>?_)
    ·cases ht
    refine k5 (k1 (k2 ?_))
    refine A3 (A2 (A4 Z Z) Z (A2 (A4 Z Z) Z (A2 (C6 (c:=H1) (ys:=[s]) (D8 Z Z Z Z F0) Z Z Z) Z (C2 (F9 Z Z Z (.pure _ _ _ _) (by (simp only [J78,J81];omega)) Z) Z (A2 (A4 Z Z) Z (A2 (A4 Z Z) Z (A2 (C6 (c:=H1) (ys:=[w]) (D8 Z Z Z Z F0) Z Z Z) Z (C2 (W9 Z Z Z (.pure _ _ _ _) (by (simp only [J78,J81];omega)) Z) Z (A2 (A5 Z Z) Z (A2 (A5 Z Z) Z (A6 ?_)))))))))))
    refine k1 ?_
    refine A3 (A2 (A4 Z Z) Z (A2 (A5 Z Z) Z (A6 ?_)))
    refine k4 (k1 ?_)
    refine A3 (A2 (A4 Z Z) Z (A2 (C1 Z Z (by omega)) Z (A2 (A5 Z Z) Z (A6 ?_))))
    refine k1 ?_
    refine ⟨(k+1,jj,a++[s],c'++[w]),⟨by dsimp only;omega,hje,⟨by dsimp only;rw [J77];simp;omega,by dsimp only;rw [J77];simp;omega⟩,?_⟩,by dsimp only;omega,J48 ⟨le1 rfl,le1 rfl,le1 rfl,le1 rfl,le1 rfl,le1 rfl,trivial⟩ ⟨rfl,rfl,trivial⟩⟩
    dsimp only
    rw [hm2,hp,Option.map_map]
    congr 1
    funext q
    simp
  ·have hkn:k=n+1:=by have:=A1 ht;omega
   subst hkn
   rw [K20] at hp
   have hp:H=some (a,c'):=by rw [hp];simp [R2]
   rw [hp]
   refine k6 (k2 ?_)
   refine A3 (A2 (A4 Z Z) Z (A2 (A4 Z Z) Z (A2 (A5 Z Z) Z (A2 (A5 Z Z) Z (A2 (A5 Z Z) Z (A6 ?_))))))
   refine F4 (fr':=[(4,C8 Int 1 H1 a),(5,.s (.one (.mut 724))),(6,Q5 true)]) (ob':=[(724,.grow 3 Int 1 H1 c')]) (J48 ⟨leL rfl,le1 rfl,le1 rfl,trivial⟩ ⟨rfl,trivial⟩) ?_
   refine k10 ?_
   exact H7 (F25 rfl rfl rfl rfl) (by repeat (first | exact D9 | refine tail_cons rfl ?_ | refine E0 _ ?_)) (ObIn.spec (ob':=[(724,_)]) ⟨rfl,trivial⟩) ⟨rfl,rfl⟩
 ·refine k2 (k2 ?_)
  refine A3 (A2 (A4 Z Z) Z (A2 (A4 Z Z) Z (A2 (D5 Z) Z (A2 (D6 Z Z) Z (A2 (A4 Z Z) Z (A9 Z Z Z Z (fun hg=>by rw [hg];exact A4 Z Z) ?_))))));refine A9 Z Z Z Z (fun hg=>by rw [hg];exact A4 Z Z) ?_;refine A9 Z Z Z Z (fun hg=>by have hq:=hg;(try simp at hq);rw [hg];exact E9 Z Z (by omega) (gD (by omega))) ?_;refine A9 Z Z Z Z (fun hg=>by rw [hg];exact F1 Z Z) ?_;refine A2 (B4 Z (fun h=>by first | rfl | (rw [h];rfl)) (fun h=>by first | rfl | (rw [h];rfl))) Z ?_;refine A6 ?_
  refine k1 ?_
  refine B2 rfl (fun ht=>?_) (fun ht=>?_)
  ·exfalso
   revert ht
   simp;omega
  refine k6 (k2 (k2 ?_))
  refine A3 (A2 (A5 Z Z) Z (A6 ?_))
  refine k1 (k3 ?_)
  refine D1 (X:=Nat × Nat × List Int × List Int) (fun x=>([(0,H4 l),(1,C3 n),(7,.s (.one (.buf 723 Int 1 H1 x.2.2.1))),(8,.s (.one (.mut 724))),(9,C3 x.2.1),(10,C3 x.1)],[(723,.spare x.2.2.1.length 1 3),(724,.grow 3 Int 1 H1 x.2.2.2)])) (fun x=>x.1≤n+1∧x.2.1≤l.length∧(x.2.2.1.length=x.1∧x.2.2.2.length=x.1)∧H=(R2 n l (n+1 - x.1) x.1 x.2.1).map fun q=>(x.2.2.1++q.1,x.2.2.2++q.2)) (fun x=>n+1 - x.1) (0,i,[],[]) ⟨Nat.zero_le _,hTl,⟨rfl,rfl⟩,by dsimp only;rw [hHR];simp⟩ (J48 ⟨le1 rfl,le1 rfl,le1 rfl,le1 rfl,le1 rfl,le1 rfl,trivial⟩ ⟨rfl,rfl,trivial⟩) ?_
  rintro ⟨k,j,a,c'⟩ ⟨hk,hj,⟨hal,hcl⟩,hp⟩
  dsimp only at hk hj hal hcl hp ⊢
  refine k2 (k2 ?_)
  refine A3 (A2 (A4 Z Z) Z (A2 (A4 Z Z) Z (A2 (m8 Z Z) Z (A6 ?_))))
  refine k1 ?_
  refine B2 rfl (fun ht=>?_) (fun ht=>?_)
  ·have hlt2:k < n+1:=by have:=A0 ht;omega
   obtain ⟨m,hm⟩:∃m,n+1 - k=m+1:=⟨n - k,by omega⟩
   have hm2:n+1 - (k+1)=m:=by omega
   rw [hm] at hp
   refine k5 (k1 (k2 (k3 (k2 ?_))))
   refine A3 (A2 (A5 Z Z) Z (A6 ?_))
   refine H8 ?_
   refine U6 [(0,H4 l),(1,C3 n),(7,.s (.one (.buf 723 Int 1 H1 a))),(8,.s (.one (.mut 724))),(9,C3 j),(10,C3 k),(11,H4 [32,L8 n k])] [(723,.spare a.length 1 3),(724,.grow 3 Int 1 H1 c')] ?_ ?_
   ·refine k2 ?_
    refine A3 (A2 (A4 Z Z) Z (A2 (A4 Z Z) Z (A2 (F1 Z Z) Z (A6 ?_))))
    refine k1 ?_
    refine B2 rfl (fun ht=>?_) (fun ht=>?_)
    ·have hkn:=A0 ht
     skip
     refine A3 (A2 (A5 Z Z) Z (A6 ?_))
     refine k1 ?_
     rw [show L8 n k=43 by unfold L8;rw [if_pos (by omega)]]
     exact J48 ⟨le1 rfl,le1 rfl,le1 rfl,le1 rfl,le1 rfl,le1 rfl,le1 rfl,trivial⟩ ⟨rfl,rfl,trivial⟩
    ·have hkn:=A1 ht
     refine k5 (k1 ?_)
     rw [show L8 n k=45 by unfold L8;rw [if_neg (by omega)]]
     exact J48 ⟨le1 rfl,le1 rfl,le1 rfl,le1 rfl,le1 rfl,le1 rfl,le1 rfl,trivial⟩ ⟨rfl,rfl,trivial⟩
   have hst:=A28 (l.drop j) [32,L8 n k]
   by_cases hs:(l.drop j).take 2=[32,L8 n k]
   rotate_left
   ·rw [show ([32,L8 n k]:Str).length=2 from rfl,decide_eq_false hs] at hst
    have hno:T6 l j [32,L8 n k]=none:=by unfold T6;exact if_neg hs
    rw [B58 hno] at hp
    have hp:H=none:=hp
    refine k2 (k2 ?_)
    refine A3 (A2 (A4 Z Z) Z (A2 (A4 Z Z) Z (A2 (V2 Z Z (by omega) (by omega)) Z (A2 (A4 Z Z) Z (B9 (hst) Z Z Z ?_)))));rintro _ rfl;refine A2 (E4 Z) Z (A6 ?_)
    refine k1 ?_
    refine B2 rfl (fun ht=>?_) (fun ht=>?_)
    ·refine k2 ?_
     refine A3 (A2 (G9 _ 1 H1) Z (A2 (G9 _ 1 H1) Z (A2 (A5 Z Z) Z (A6 ?_))))
     refine k1 (k10 (k11 (k12 (k11 (k11 (k12 (k11 ?_)))))))
     exact H7 (F25 rfl rfl rfl rfl) (by repeat (first | exact D9 | refine tail_cons rfl ?_ | refine E0 _ ?_)) (ObIn.spec (ob':=[]) trivial) (by rw [hp];exact ⟨rfl,rfl⟩)
    ·cases ht
   rw [show ([32,L8 n k]:Str).length=2 from rfl,decide_eq_true hs] at hst
   have hj2:=E40 (l:=l) (pre:=[32,L8 n k]) hj hs
   have hj2:j+2≤l.length:=hj2
   have hrg:=F47 l (j+2) hj2 (by omega)
   have hsp:T6 l j [32,L8 n k]=match P2 (l.drop (j+2)) with | none=>none | some (a,n,e)=>some (a,n,j+2+e):=by
    unfold T6;exact if_pos hs
   cases g:P2 (l.drop (j+2)) with
   | none =>
    rw [B83 g,show ((j+2:Nat):Int)=(j:Int)+2 by omega] at hrg
    rw [g] at hsp
    rw [B58 hsp] at hp
    have hp:H=none:=hp
    refine k2 (k2 ?_)
    refine A3 (A2 (A4 Z Z) Z (A2 (A4 Z Z) Z (A2 (V2 Z Z (by omega) (by omega)) Z (A2 (A4 Z Z) Z (B9 (hst) Z Z Z ?_)))));rintro _ rfl;refine A2 (E4 Z) Z (A6 ?_)
    refine k1 ?_
    refine B2 rfl (fun ht=>?_) (fun ht=>?_)
    ·cases ht
    refine k5 (k1 (k2 ?_))
    refine A3 (A2 (A4 Z Z) Z (A2 (A4 Z Z) Z (A2 (C1 Z Z (by omega)) Z (B9 (hrg) Z Z Z ?_))));rintro _ rfl;refine A2 (A4 Z Z) Z (A2 (B1 Z Z) Z (A2 (B1 Z Z) Z (A2 (B1 Z Z) Z (A2 (B1 Z Z) Z (A2 (A5 Z Z) Z (A2 (A5 Z Z) Z (A2 (A5 Z Z) Z (A2 (A5 Z Z) Z (A6 ?_)))))))))
    refine k1 (k2 (k2 ?_))
    refine A3 (A2 (A4 Z Z) Z (A2 (E4 Z) Z (A6 ?_)))
    refine k1 ?_
    refine B2 rfl (fun ht=>?_) (fun ht=>?_)
    ·refine k2 ?_
     refine A3 (A2 (G9 _ 1 H1) Z (A2 (G9 _ 1 H1) Z (A2 (A5 Z Z) Z (A6 ?_))))
     refine k1 (k10 (k11 (k12 (k11 (k11 (k12 (k11 ?_)))))))
     exact H7 (F25 rfl rfl rfl rfl) (by repeat (first | exact D9 | refine tail_cons rfl ?_ | refine E0 _ ?_)) (ObIn.spec (ob':=[]) trivial) (by rw [hp];exact ⟨rfl,rfl⟩)
    ·cases ht
   | some q =>
    obtain ⟨s,w,e⟩:=q
    rw [B84 g,show ((j+2:Nat):Int)=(j:Int)+2 by omega] at hrg
    rw [g] at hsp
    have hsp:T6 l j [32,L8 n k]=some (s,w,j+2+e):=hsp
    have hje:=D29 hj hsp
    rw [C33 hsp] at hp
    obtain ⟨jj,hjj⟩:∃jj,jj=j+2+e:=⟨_,rfl⟩
    rw [←hjj] at hp hrg hje
    refine k2 (k2 ?_)
    refine A3 (A2 (A4 Z Z) Z (A2 (A4 Z Z) Z (A2 (V2 Z Z (by omega) (by omega)) Z (A2 (A4 Z Z) Z (B9 (hst) Z Z Z ?_)))));rintro _ rfl;refine A2 (E4 Z) Z (A6 ?_)
    refine k1 ?_
    refine B2 rfl (fun ht=>?_) (fun ht=>?_)
    ·cases ht
    refine k5 (k1 (k2 ?_))
    refine A3 (A2 (A4 Z Z) Z (A2 (A4 Z Z) Z (A2 (C1 Z Z (by omega)) Z (B9 (hrg) Z Z Z ?_))));rintro _ rfl;refine A2 (A4 Z Z) Z (A2 (B1 Z Z) Z (A2 (B1 Z Z) Z (A2 (B1 Z Z) Z (A2 (B1 Z Z) Z (A2 (A5 Z Z) Z (A2 (A5 Z Z) Z (A2 (A5 Z Z) Z (A2 (A5 Z Z) Z (A6 ?_)))))))))
    refine k1 (k2 (k2 ?_))
    refine A3 (A2 (A4 Z Z) Z (A2 (E4 Z) Z (A6 ?_)))
    refine k1 ?_
    refine B2 rfl (fun ht=>?_) (fun ht=>?_)
    ·cases ht
    refine k5 (k1 (k2 ?_))
    refine A3 (A2 (A4 Z Z) Z (A2 (A4 Z Z) Z (A2 (C6 (c:=H1) (ys:=[s]) (D8 Z Z Z Z F0) Z Z Z) Z (C2 (F9 Z Z Z (.pure _ _ _ _) (by (simp only [J78,J81];omega)) Z) Z (A2 (A4 Z Z) Z (A2 (A4 Z Z) Z (A2 (C6 (c:=H1) (ys:=[w]) (D8 Z Z Z Z F0) Z Z Z) Z (C2 (W9 Z Z Z (.pure _ _ _ _) (by (simp only [J78,J81];omega)) Z) Z (A2 (A5 Z Z) Z (A2 (A5 Z Z) Z (A6 ?_)))))))))))
    refine k1 ?_
    refine A3 (A2 (A4 Z Z) Z (A2 (A5 Z Z) Z (A6 ?_)))
    refine k4 (k1 ?_)
    refine A3 (A2 (A4 Z Z) Z (A2 (C1 Z Z (by omega)) Z (A2 (A5 Z Z) Z (A6 ?_))))
    refine k1 ?_
    refine ⟨(k+1,jj,a++[s],c'++[w]),⟨by dsimp only;omega,hje,⟨by dsimp only;rw [J77];simp;omega,by dsimp only;rw [J77];simp;omega⟩,?_⟩,by dsimp only;omega,J48 ⟨le1 rfl,le1 rfl,le1 rfl,le1 rfl,le1 rfl,le1 rfl,trivial⟩ ⟨rfl,rfl,trivial⟩⟩
    dsimp only
    rw [hm2,hp,Option.map_map]
    congr 1
    funext q
    simp
  ·have hkn:k=n+1:=by have:=A1 ht;omega
   subst hkn
   rw [K20] at hp
   have hp:H=some (a,c'):=by rw [hp];simp [R2]
   rw [hp]
   refine k6 (k2 ?_)
   refine A3 (A2 (A4 Z Z) Z (A2 (A4 Z Z) Z (A2 (A5 Z Z) Z (A2 (A5 Z Z) Z (A2 (A5 Z Z) Z (A6 ?_))))))
   refine F4 (fr':=[(4,C8 Int 1 H1 a),(5,.s (.one (.mut 724))),(6,Q5 true)]) (ob':=[(724,.grow 3 Int 1 H1 c')]) (J48 ⟨leL rfl,le1 rfl,le1 rfl,trivial⟩ ⟨rfl,trivial⟩) ?_
   refine k10 ?_
   exact H7 (F25 rfl rfl rfl rfl) (by repeat (first | exact D9 | refine tail_cons rfl ?_ | refine E0 _ ?_)) (ObIn.spec (ob':=[(724,_)]) ⟨rfl,trivial⟩) ⟨rfl,rfl⟩
theorem G13 (s:Str) (i:Nat):∃(w:Str) (e:Int) (b:Bool),C73 s i=[F5 w,E2 e,D3 b]∧match Q9 (s.drop i) with
  | some q=>b=true∧w=q.1∧e=((i+q.2:Nat):Int)
  | none=>b=false:=by
 cases h:Q9 (s.drop i) with
 | none=>exact ⟨_,_,_,l6 h,rfl⟩
 | some q=>obtain ⟨w,k⟩:=q;exact ⟨_,_,_,C28 h,rfl,rfl,rfl⟩
theorem num_ex (s:Str) (i:Nat):∃(n e:Int) (b:Bool),C71 s i=[E2 n,E2 e,D3 b]∧match Q0 (s.drop i) with
  | some q=>b=true∧n=(q.1:Int)∧e=((i+q.2:Nat):Int)
  | none=>b=false:=by
 cases h:Q0 (s.drop i) with
 | none=>exact ⟨_,_,_,A76 h,rfl⟩
 | some q=>obtain ⟨n,k⟩:=q;exact ⟨_,_,_,A75 h,rfl,rfl,rfl⟩
theorem kind_D {y:Str} {D:Bool} (hD:D=decide (y.take 10=ccS)):u1 y=if y.take (W1 D).length=W1 D then some (D,y.drop (W1 D).length) else none:=by
 unfold u1
 by_cases h:y.take 10=ccS
 ·rw [decide_eq_true h] at hD
  subst hD
  rw [if_pos h,if_pos (show y.take (W1 true).length=W1 true from h)];rfl
 ·rw [decide_eq_false h] at hD
  subst hD
  rw [if_neg h];rfl
theorem G83 {l:List Str} {y0 y1:Str} (h0:l[0]?=some y0) (h1:l[1]?=some y1):u7 l=match R3 false y0 y1 with
  | some (d,p,n)=>(match Q2 n.toNat l 2 [] with | some hs=>some ⟨p,d,n,hs⟩ | none=>none)
  | none=>none:=by
 match l,h0,h1 with
 | a::b::r,h0,h1 =>
  cases h0;cases h1;rfl
theorem J20 {l pre:Str} {i:Nat} {a n:Int} {e:Nat} (h:T6 l i pre=some (a,n,e)):0≤n∧n≤2147483647:=by
 have hf:∀{s:Str} {a c e:Nat} {r:Int × Int × Nat},A07 s a c e=some r→r.2.1=c:=by
  intro s a c e r h
  unfold A07 at h
  obtain ⟨st,hst⟩:∃st:Int,st=if 0 < c then (a:Int) - 1 else a:=⟨_,rfl⟩
  rw [←hst] at h
  by_cases hc:G4 st c=s.take e
  ·rw [if_pos hc] at h;cases h;rfl
  ·rw [if_neg hc] at h;cases h
 have hr:∀{s:Str} {a n:Int} {e:Nat},P2 s=some (a,n,e)→0≤n∧n≤2147483647:=by
  intro s a n e h
  unfold P2 at h
  cases h1:Q0 s with
  | none=>rw [h1] at h;cases h
  | some p =>
   obtain ⟨v,k⟩:=p
   rw [h1] at h
   dsimp only at h
   split at h
   ·cases h2:Q0 (s.drop (k+1)) with
    | none=>rw [h2] at h;cases h
    | some q =>
     obtain ⟨c,k'⟩:=q
     rw [h2] at h
     have:=hf h
     have:=(x2 h2).2.2.2.2
     dsimp only at *;omega
   ·have:=hf h
    dsimp only at this;omega
 unfold T6 at h
 split at h
 ·cases h3:P2 (l.drop (i+pre.length)) with
  | none=>rw [h3] at h;cases h
  | some q =>
   obtain ⟨x,y,z⟩:=q
   rw [h3] at h
   have:=hr h3
   simp at h;omega
 ·cases h
theorem F61 {n:Nat} {l:Str}:∀(m k i:Nat) {a c:List Int},R2 n l m k i=some (a,c)→∀x∈c,0≤x∧x≤2147483647
 | 0,k,i,a,c,h,x,hx=>by cases h;cases hx
 | m+1,k,i,a,c,h,x,hx=>by
  cases hs:T6 l i [32,L8 n k] with
  | none=>rw [B58 hs] at h;cases h
  | some q =>
   obtain ⟨u,v,j⟩:=q
   rw [C33 hs] at h
   cases hr:R2 n l m (k+1) j with
   | none=>rw [hr] at h;cases h
   | some q =>
    obtain ⟨a',c'⟩:=q
    rw [hr] at h
    cases h
    rcases List.mem_cons.1 hx with rfl | hx
    ·exact J20 hs
    ·exact F61 m (k+1) j hr x hx
theorem I60 {n:Nat} {l:List Str} {i:Nat} {cs:List Int} {acc:List Row} (h:A35 cs=false):W4 n l i cs acc=some (acc,i):=by rw [W4,if_neg (by rw [h];decide)]
theorem I61 {n:Nat} {l:List Str} {i:Nat} {cs:List Int} {acc:List Row} (h:A35 cs=true) (h2:l.length≤i):W4 n l i cs acc=none:=by rw [W4,if_pos h,dif_neg (by omega)]
theorem J21 {n:Nat} {l:List Str} {i:Nat} {cs:List Int} {acc:List Row} {y:Str} (h:A35 cs=true) (h2:l[i]?=some y) (h3:AL.rowAt (y++[10]) n=none):W4 n l i cs acc=none:=by
 obtain ⟨hi,he⟩:=List.getElem?_eq_some_iff.1 h2
 rw [W4,if_pos h,dif_pos hi,he,h3]
theorem I62 {n:Nat} {l:List Str} {i:Nat} {cs:List Int} {acc:List Row} {y:Str} {r:Row} (h:A35 cs=true) (h2:l[i]?=some y) (h3:AL.rowAt (y++[10]) n=some r) :
  W4 n l i cs acc=if l[i+1]?=some noNl then W4 n l (i+2) (u6 n r cs) (acc++[⟨r.Lost,r.Marks,r.Text.dropLast⟩]) else W4 n l (i+1) (u6 n r cs) (acc++[r]):=by
 obtain ⟨hi,he⟩:=List.getElem?_eq_some_iff.1 h2
 rw [W4,if_pos h,dif_pos hi,he,h3]
def l7 (n:Nat) (r:Row) (cs:List Int) (k:Nat):List Int:=(List.range (n+1)).map fun j=>if j < k then cs.getD j 0 - (if U4 r (L0 n j)=true then 1 else 0) else cs.getD j 0
theorem H56 (n:Nat) (r:Row) (cs:List Int) (k:Nat):(l7 n r cs k).length=n+1:=by unfold l7;simp
theorem G84 {n:Nat} {cs:List Int} (r:Row) (hl:cs.length=n+1):l7 n r cs 0=cs:=by
 unfold l7
 refine List.ext_getElem (by simp [hl]) fun k h1 h2=>?_
 rw [List.getElem_map,List.getElem_range,if_neg (by omega),J82,J79 h2];rfl
theorem H57 (n:Nat) (r:Row) (cs:List Int) (k:Nat) (hk:k < n+1):(l7 n r cs k)[k]?=some (cs.getD k 0):=by
 unfold l7
 rw [K11,K14 hk];simp
theorem G85 (n:Nat) (r:Row) (cs:List Int) (k:Nat) (hk:k < n+1):l7 n r cs (k+1)=if U4 r (L0 n k)=true then (l7 n r cs k).set k (cs.getD k 0 - 1) else l7 n r cs k:=by
 by_cases hv:U4 r (L0 n k)=true
 ·rw [if_pos hv]
  unfold l7
  rw [B25]
  refine List.map_congr_left fun j hj=>?_
  by_cases e:j=k
  ·subst e;rw [if_pos rfl,if_pos (by omega),if_pos hv]
  ·rw [if_neg e]
   by_cases h3:j < k
   ·rw [if_pos (by omega),if_pos h3]
   ·rw [if_neg (by omega),if_neg h3]
 ·rw [if_neg hv]
  unfold l7
  refine List.map_congr_left fun j hj=>?_
  by_cases e:j=k
  ·subst e;rw [if_pos (by omega),if_neg hv,if_neg (by omega)];omega
  ·by_cases h3:j < k
   ·rw [if_pos (by omega),if_pos h3]
   ·rw [if_neg (by omega),if_neg h3]
theorem G86 (n:Nat) (r:Row) (cs:List Int):l7 n r cs (n+1)=u6 n r cs:=by
 unfold l7 u6
 refine List.map_congr_left fun k hk=>?_
 rw [if_pos (List.mem_range.1 hk)]
theorem J22 {n:Nat} {r:Row} {cs:List Int} {b:Int} (hl:cs.length=n+1) (h:∀c∈cs,-b≤c∧c≤2147483647):∀c∈u6 n r cs,-(b+1)≤c∧c≤2147483647:=by
 intro c hc
 unfold u6 at hc
 obtain ⟨k,hk,rfl⟩:=List.mem_map.1 hc
 have hk:=List.mem_range.1 hk
 have:=h _ (J93 (D04 (l:=cs) (i:=k) (by omega)))
 split<;>omega
abbrev M8:Ob:=.box [.p (.v (.string ⟨#[]⟩)),.p (.v (.bool false)),.p (.v (.int .i64 0)),.p (.v (.slice none 0 0))]
abbrev C78 (p:Str) (d:Bool) (n:Int) (hs:List CHunk):Ob:=.box [.p (.v (.string ⟨p.toArray⟩)),.p (.v (.bool d)),.p (.v (.int .i64 n)),.buf 701 CHunk 2 J0 hs]
abbrev F62 (a:List Int) (rs:List Row):Ob:=.box [.p (.list Int 1 H1 a),.buf 702 Row 3 rowC rs]
set_option maxHeartbeats 4000000
theorem H58 (l:List Str) (hll:l.length≤134217728) (hsz:∀s∈l,s.length≤4194304):FnOk Tryz.prog 85 [c5 l]
  (fun rs=>∃(p:Comb) (ok:Bool),rs=[I5 p,D3 ok]∧match u7 l with
   | some p'=>ok=true∧p=p'
   | none=>ok=false):=by
 obtain ⟨y0,hy0⟩:∃y,y=l.getD 0 []:=⟨_,rfl⟩
 obtain ⟨y1,hy1⟩:∃y,y=l.getD 1 []:=⟨_,rfl⟩
 have hv0:0 < l.length→l[0]?=some y0:=fun h=>by rw [hy0];simp [h]
 have hv1:1 < l.length→l[1]?=some y1:=fun h=>by rw [hy1];simp [h]
 have hs1:=A28 y1 parS
 rw [show parS.length=8 from rfl] at hs1
 refine FnOk.intro Tryz.func85 (by decide) Z Z Z Z ?_
 refine k2 ?_
 refine A3 (C2 (G1 2 Z) Z (A2 (A5 Z Z) Z (A6 ?_)))
 refine k1 (k2 ?_)
 refine A3 (C2 (G1 4 Z) Z (A6 ?_))
 refine k1 (k2 (k2 ?_))
 refine A3 (A2 (A4 Z Z) Z (A2 (F2 Z (.pure _ _ _ _)) Z (A2 (D6 Z Z) Z (A2 (A4 Z Z) Z (A9 Z Z Z Z (fun hg=>by rw [hg];exact A4 Z Z) ?_)))));refine A9 Z Z Z Z (fun hg=>by have hq:=hg;(try simp at hq);rw [hg];exact B3 Z (.pure _ _ _ _) Z (by omega) (hv1 (by omega))) ?_;refine A9 Z Z Z Z (fun hg=>by rw [hg];exact B6 Z Z) ?_;refine A9 Z Z Z Z (fun hg=>by have hq:=hg;(try simp at hq);rw [hg];exact G7 (hs1) Z Z) ?_;refine A9 Z Z Z Z (fun hg=>by rw [hg];exact E4 Z) ?_;refine A2 (B4 Z (fun h=>by first | rfl | (rw [h];rfl)) (fun h=>by first | rfl | (rw [h];rfl))) Z ?_;refine A6 ?_
 refine k1 ?_
 refine B2 rfl (fun ht=>?_) (fun ht=>?_)
 ·have hnone:u7 l=none:=by
   by_cases hlen:l.length < 2
   ·match l,hlen with
    | [],_=>rfl
    | [_],_=>rfl
   ·have hp:y1.take 8≠parS:=by
     intro hp
     rw [decide_eq_true hp] at ht
     revert ht;simp;omega
    rw [G83 (hv0 (by omega)) (hv1 (by omega))]
    have:R3 false y0 y1=none:=by
     unfold R3
     split
     ·rfl
     ·rw [if_neg hp]
    rw [this]
  rw [hnone]
  refine k2 ?_
  refine A3 (A2 (C7 Z Z Z) Z (E3 (B7 TySz.out Z Z Z Z Z Z) (A2 (A5 Z Z) Z (A6 ?_))))
  refine k1 ?_
  refine F4 (J49 CHunk 2 J0 2 3 Z Z) ?_
  refine k10 (k11 ?_)
  exact B5 (rs:=[I5 comb0,D3 false]) (L5 rfl rfl rfl rfl rfl rfl rfl) ⟨_,false,rfl,rfl⟩
 have hlen:2≤l.length∧y1.take 8=parS:=by
  by_cases hlen:l.length < 2
  ·exfalso;revert ht;simp;omega
  ·refine ⟨by omega,?_⟩
   by_cases hp:y1.take 8=parS
   ·exact hp
   ·rw [decide_eq_false hp] at ht
    exfalso;revert ht;simp
 obtain ⟨hl2,hpar⟩:=hlen
 have hv0:=hv0 (by omega)
 have hv1:=hv1 (by omega)
 have hz0:=hsz y0 (J93 hv0)
 have hz1:=hsz y1 (J93 hv1)
 have h8:8≤y1.length:=by have:=congrArg List.length hpar;rw [J90,show parS.length=8 from rfl] at this;omega
 have hRd:=G83 hv0 hv1
 obtain ⟨D,hD⟩:∃D,D=decide (y0.take 10=ccS):=⟨_,rfl⟩
 have hK:=kind_D hD
 have hs0:=A28 y0 ccS
 rw [show ccS.length=10 from rfl,←hD] at hs0
 have hsK:=A28 y0 (W1 D)
 refine R6 [(0,C8 Str 1 J5 l),(2,.s (.one (.ref 2 0))),(4,.s (.one (.ref 4 0)))] [(2,M8),(4,M8)] (J48 ⟨le1 rfl,le1 rfl,le1 rfl,trivial⟩ ⟨rfl,rfl,trivial⟩) ?_
 refine k5 (k1 (k2 ?_))
 refine A3 (A2 (A5 Z Z) Z (A6 ?_))
 refine k1 (k2 ?_)
 refine A3 (A2 (A4 Z Z) Z (A2 (B3 Z (.pure _ _ _ _) Z (by omega) hv0) Z (A2 (B6 Z Z) Z (B9 (hs0) Z Z Z ?_))));rintro _ rfl;refine A2 (A7 Z) Z (E3 (B7 TySz.out Z Z Z Z Z Z) (A6 ?_))
 refine H8 ?_
 refine U6 [(0,C8 Str 1 J5 l),(2,.s (.one (.ref 2 0))),(4,.s (.one (.ref 4 0))),(5,H4 (W1 D))] [(2,M8),(4,.box [.p (.v (.string ⟨#[]⟩)),.p (.v (.bool D)),.p (.v (.int .i64 0)),.p (.v (.slice none 0 0))])] ?_ ?_
 ·refine k2 ?_
  refine A3 (A2 (A7 Z) Z (A2 (B0 Z Z Z) Z (A6 ?_)))
  refine k1 ?_
  refine B2 rfl (fun ht=>?_) (fun ht=>?_)
  ·have h:D=true:=ht
   skip
   refine A3 (A2 (A5 Z Z) Z (A6 ?_))
   refine k1 ?_
   rw [show W1 D=ccS by rw [h];rfl]
   exact J48 ⟨le1 rfl,le1 rfl,le1 rfl,le1 rfl,trivial⟩ ⟨rfl,rfl,trivial⟩
  ·have h:D=false:=ht
   refine k5 (k1 ?_)
   rw [show W1 D=combS by rw [h];rfl]
   exact J48 ⟨le1 rfl,le1 rfl,le1 rfl,le1 rfl,trivial⟩ ⟨rfl,rfl,trivial⟩
 obtain ⟨K,hKK⟩:∃K,K=W1 D:=⟨_,rfl⟩
 rw [←hKK] at hsK hK ⊢
 by_cases hk:y0.take K.length=K
 rotate_left
 ·rw [if_neg hk] at hK
  rw [decide_eq_false hk] at hsK
  have hnone:u7 l=none:=by
   rw [hRd]
   have:R3 false y0 y1=none:=by unfold R3;rw [hK]
   rw [this]
  rw [hnone]
  refine k2 (k2 ?_)
  refine A3 (A2 (A4 Z Z) Z (A2 (B3 Z (.pure _ _ _ _) Z (by omega) hv0) Z (A2 (B6 Z Z) Z (A2 (A4 Z Z) Z (B9 (hsK) Z Z Z ?_)))));rintro _ rfl;refine A2 (E4 Z) Z (A6 ?_)
  refine k1 ?_
  refine B2 rfl (fun ht=>?_) (fun ht=>?_)
  ·refine k2 ?_
   refine A3 (A2 (C7 Z Z Z) Z (E3 (B7 TySz.out Z Z Z Z Z Z) (A2 (A5 Z Z) Z (A6 ?_))))
   refine k1 ?_
   refine F4 (J49 CHunk 2 J0 2 3 Z Z) ?_
   refine k10 (k11 ?_)
   exact B5 (rs:=[I5 ⟨[],D,0,[]⟩,D3 false]) (L5 rfl rfl rfl rfl rfl rfl rfl) ⟨_,false,rfl,rfl⟩
  ·cases ht
 rw [if_pos hk] at hK
 rw [decide_eq_true hk] at hsK
 have hUq:=G65 y0 K.length (by omega)
 have hNb:=B01 y1 8 h8 (by omega)
 obtain ⟨w,ew,bw,hw1,hw2⟩:=G13 y0 K.length
 obtain ⟨n,en,bn,hn1,hn2⟩:=num_ex y1 8
 rw [hw1] at hUq
 rw [hn1] at hNb
 have hTt:R3 false y0 y1=if bw=true∧bn=true∧1≤n∧n≤32 then some (D,w,n) else none:=by
  unfold R3
  rw [hK]
  dsimp only
  rw [if_pos hpar]
  cases g1:Q9 (y0.drop K.length) with
  | none=>rw [g1] at hw2;have hw2:bw=false:=hw2;rw [if_neg (by simp [hw2])]
  | some q =>
   obtain ⟨w',k'⟩:=q
   rw [g1] at hw2
   obtain ⟨rfl,rfl,_⟩:=hw2
   cases g2:Q0 (y1.drop 8) with
   | none=>rw [g2] at hn2;have hn2:bn=false:=hn2;rw [if_neg (by simp [hn2])]
   | some q2 =>
    obtain ⟨m',k2⟩:=q2
    rw [g2] at hn2
    obtain ⟨rfl,rfl,_⟩:=hn2
    dsimp only
    by_cases hc:1≤m'∧m'≤32
    ·rw [if_pos ⟨(fun h=>by cases h),hc⟩,if_pos ⟨rfl,rfl,by omega,by omega⟩]
    ·rw [if_neg (fun h=>hc h.2),if_neg (by omega)]
 refine k2 (k2 ?_)
 refine A3 (A2 (A4 Z Z) Z (A2 (B3 Z (.pure _ _ _ _) Z (by omega) hv0) Z (A2 (B6 Z Z) Z (A2 (A4 Z Z) Z (B9 (hsK) Z Z Z ?_)))));rintro _ rfl;refine A2 (E4 Z) Z (A6 ?_)
 refine k1 ?_
 refine B2 rfl (fun ht=>?_) (fun ht=>?_)
 ·cases ht
 refine k5 (k1 (k2 ?_))
 refine A3 (A2 (A4 Z Z) Z (A2 (B3 Z (.pure _ _ _ _) Z (by omega) hv0) Z (A2 (B6 Z Z) Z (A2 (A4 Z Z) Z (A2 (D5 Z) Z (B9 (hUq) Z Z Z ?_))))));rintro _ rfl;refine A2 (A4 Z Z) Z (A2 (B1 Z Z) Z (A2 (B1 Z Z) Z (A2 (B1 Z Z) Z (A2 (A5 Z Z) Z (A2 (A5 Z Z) Z (A2 (A5 Z Z) Z (A6 ?_)))))))
 refine k1 (k2 ?_)
 refine A3 (A2 (A4 Z Z) Z (A2 (B3 Z (.pure _ _ _ _) Z (by omega) hv1) Z (A2 (B6 Z Z) Z (B9 (hNb) Z Z Z ?_))));rintro _ rfl;refine A2 (A4 Z Z) Z (A2 (B1 Z Z) Z (A2 (B1 Z Z) Z (A2 (B1 Z Z) Z (A2 (A5 Z Z) Z (A2 (A5 Z Z) Z (A2 (A5 Z Z) Z (A6 ?_)))))))
 refine k1 (k2 (k2 ?_))
 refine A3 (A2 (A4 Z Z) Z (A2 (E4 Z) Z (A2 (A4 Z Z) Z (A9 Z Z Z Z (fun hg=>by rw [hg];exact A4 Z Z) ?_))));refine A9 Z Z Z Z (fun hg=>by rw [hg];exact E4 Z) ?_;refine A2 (B4 Z (fun h=>by first | rfl | (rw [h];rfl)) (fun h=>by first | rfl | (rw [h];rfl))) Z ?_;refine A2 (A4 Z Z) Z (A9 Z Z Z Z (fun hg=>by rw [hg];exact A4 Z Z) ?_);refine A9 Z Z Z Z (fun hg=>by rw [hg];exact D6 Z Z) ?_;refine A2 (B4 Z (fun h=>by first | rfl | (rw [h];rfl)) (fun h=>by first | rfl | (rw [h];rfl))) Z ?_;refine A2 (A4 Z Z) Z (A9 Z Z Z Z (fun hg=>by rw [hg];exact A4 Z Z) ?_);refine A9 Z Z Z Z (fun hg=>by rw [hg];exact L9 Z Z) ?_;refine A2 (B4 Z (fun h=>by first | rfl | (rw [h];rfl)) (fun h=>by first | rfl | (rw [h];rfl))) Z ?_;refine A6 ?_
 simp only [notB,or_pick]
 refine k1 ?_
 refine B2 rfl (fun ht=>?_) (fun ht=>?_)
 ·have h:=A0 ht
  have hnone:u7 l=none:=by
   rw [hRd,hTt,if_neg (by
    rintro ⟨q1,q2,q3,q4⟩
    rw [q1,q2] at h
    simp at h;omega)]
  rw [hnone]
  refine k2 ?_
  refine A3 (A2 (C7 Z Z Z) Z (E3 (B7 TySz.out Z Z Z Z Z Z) (A2 (A5 Z Z) Z (A6 ?_))))
  refine k1 ?_
  refine F4 (J49 CHunk 2 J0 2 3 Z Z) ?_
  refine k10 (k11 ?_)
  exact B5 (rs:=[I5 ⟨[],D,0,[]⟩,D3 false]) (L5 rfl rfl rfl rfl rfl rfl rfl) ⟨_,false,rfl,rfl⟩
 have h:=A1 ht
 simp only [not_or] at h
 have hg:bw=true∧bn=true∧1≤n∧n≤32:=⟨(by cases bw;exact absurd rfl h.1.1.1;rfl),(by cases bn;exact absurd rfl h.1.1.2;rfl),by omega,by omega⟩
 rw [hTt,if_pos hg] at hRd
 dsimp only at hRd
 obtain ⟨N,rfl⟩:∃N:Nat,n=N:=⟨n.toNat,by omega⟩
 have hN:1≤N∧N≤32:=by omega
 rw [J83] at hRd
 have hRn:Q2 N l 2 []=none→u7 l=none:=by intro h;rw [hRd,h]
 have hRs:∀hs,Q2 N l 2 []=some hs→u7 l=some ⟨w,D,N,hs⟩:=by intro hs h;rw [hRd,h]
 clear hRd hTt hw1 hw2 hn1 hn2 hUq hNb hK hsK hs0 hs1 hv0 hv1 hD hKK hk
 refine R6 [(0,C8 Str 1 J5 l),(2,.s (.one (.ref 2 0))),(4,.s (.one (.ref 4 0))),(6,H4 w),(9,C3 N)] [(2,M8),(4,.box [.p (.v (.string ⟨#[]⟩)),.p (.v (.bool D)),.p (.v (.int .i64 0)),.p (.v (.slice none 0 0))])] (J48 ⟨le1 rfl,le1 rfl,le1 rfl,le1 rfl,le1 rfl,trivial⟩ ⟨rfl,rfl,trivial⟩) ?_
 refine k5 (k1 (k2 ?_))
 refine A3 (A2 (A4 Z Z) Z (A2 (A4 Z Z) Z (A2 (A7 Z) Z (E3 (B7 TySz.out Z Z Z Z Z Z) (A2 (A7 Z) Z (E3 (B7 TySz.out Z Z Z Z Z Z) (A6 ?_)))))))
 refine k1 (k2 ?_)
 refine F4 (J54 701 CHunk 2 J0 82 (kb:=4) (o:=3) Z Z Z) ?_
 skip
 refine A3 (A2 (A5 Z Z) Z (A6 ?_))
 refine k1 (k2 (k3 ?_))
 refine D1 (X:=Nat × List CHunk) (fun x=>([(0,C8 Str 1 J5 l),(2,.s (.one (.ref 2 0))),(4,.s (.one (.ref 4 0))),(9,C3 N),(12,C3 x.1)],[(2,M8),(4,C78 w D N x.2),(701,.spare x.2.length 2 82)])) (fun x=>x.1≤l.length∧x.2.length≤x.1∧Q2 N l x.1 x.2=Q2 N l 2 []) (fun x=>l.length - x.1) (2,[]) ⟨hl2,Nat.zero_le _,rfl⟩ (J48 ⟨le1 rfl,le1 rfl,le1 rfl,le1 rfl,le1 rfl,trivial⟩ ⟨rfl,rfl,rfl,trivial⟩) ?_
 rintro ⟨i,hs⟩ ⟨hi,hhl,hf⟩
 dsimp only at hi hhl hf ⊢
 refine k2 (k2 ?_)
 refine A3 (A2 (A4 Z Z) Z (A2 (A4 Z Z) Z (A2 (F2 Z (.pure _ _ _ _)) Z (A2 (D6 Z Z) Z (A6 ?_)))))
 refine k1 ?_
 refine B2 rfl (fun ht=>?_) (fun ht=>?_)
 rotate_left
 ·have he:l.length≤i:=by have:=A1 ht;omega
  rw [B57 he] at hf
  refine k6 (k2 ?_)
  refine A3 (A2 (C7 Z Z Z) Z (E3 (B7 TySz.out Z Z Z Z Z Z) (A2 (A5 Z Z) Z (A6 ?_))))
  refine k1 (k10 ?_)
  exact B5 (rs:=[I5 ⟨w,D,N,hs⟩,D3 true]) (L5 rfl rfl rfl rfl rfl rfl rfl) ⟨_,true,rfl,by rw [hRs hs hf.symm];exact ⟨rfl,rfl⟩⟩
 have hlt:i < l.length:=by have:=A0 ht;omega
 obtain ⟨x,hx⟩:∃x,x=l[i]:=⟨_,rfl⟩
 have hv:l[i]?=some x:=by rw [hx];simp [hlt]
 have hxz:=hsz x (J93 hv)
 have hm:=F06 x N hN.2 (by omega)
 refine R6 [(0,C8 Str 1 J5 l),(2,.s (.one (.ref 2 0))),(4,.s (.one (.ref 4 0))),(9,C3 N),(12,C3 i)] [(2,M8),(4,C78 w D N hs),(701,.spare hs.length 2 82)] (J48 ⟨le1 rfl,le1 rfl,le1 rfl,le1 rfl,le1 rfl,trivial⟩ ⟨rfl,rfl,rfl,trivial⟩) ?_
 cases hH:A84 N x with
 | none =>
  rw [hH] at hm
  rw [D66 hv hH] at hf
  refine k5 (k1 (k3 (k2 ?_)))
  refine A3 (A2 (A4 Z Z) Z (A2 (A4 Z Z) Z (A2 (B3 Z (.pure _ _ _ _) Z (by omega) hv) Z (A2 (B6 Z Z) Z (A2 (A4 Z Z) Z (I07 (hm) Z Z Z Z ?_))))));rintro _ _ ⟨rfl,rfl⟩;refine ⟨rfl,?_⟩;refine A2 (A4 Z Z) Z (A2 (B1 Z Z) Z (A2 (B1 Z Z) Z (A2 (B1 Z Z) Z (A2 (A5 Z Z) Z (A2 (A5 Z Z) Z (A2 (A5 Z Z) Z (A6 ?_)))))))
  refine k1 (k2 (k2 ?_))
  refine A3 (A2 (A4 Z Z) Z (A2 (E4 Z) Z (A6 ?_)))
  refine k1 ?_
  refine B2 rfl (fun ht=>?_) (fun ht=>?_)
  ·refine k2 ?_
   refine A3 (A2 (C7 Z Z Z) Z (E3 (B7 TySz.out Z Z Z Z Z Z) (A2 (A5 Z Z) Z (A6 ?_))))
   refine k1 (k10 (k11 (k12 (k11 (k12 (k11 ?_))))))
   exact B5 (rs:=[I5 ⟨w,D,N,hs⟩,D3 false]) (L5 rfl rfl rfl rfl rfl rfl rfl) ⟨_,false,rfl,by rw [hRn hf.symm]⟩
  ·cases ht
 | some q =>
  obtain ⟨a,c0⟩:=q
  rw [hH] at hm
  obtain ⟨hal,hcl,_⟩:=D65 hH
  have hcb:∀v∈c0,0≤v∧v≤2147483647:=F61 _ _ _ hH
  refine k5 (k1 (k3 (k2 ?_)))
  refine A3 (A2 (A4 Z Z) Z (A2 (A4 Z Z) Z (A2 (B3 Z (.pure _ _ _ _) Z (by omega) hv) Z (A2 (B6 Z Z) Z (A2 (A4 Z Z) Z (I07 (hm) Z Z Z Z ?_))))));rintro _ _ ⟨rfl,rfl⟩;refine ⟨rfl,?_⟩;refine A2 (A4 Z Z) Z (A2 (B1 Z Z) Z (A2 (B1 Z Z) Z (A2 (B1 Z Z) Z (A2 (A5 Z Z) Z (A2 (A5 Z Z) Z (A2 (A5 Z Z) Z (A6 ?_)))))))
  refine k1 (k2 (k2 ?_))
  refine A3 (A2 (A4 Z Z) Z (A2 (E4 Z) Z (A6 ?_)))
  refine k1 ?_
  refine B2 rfl (fun ht=>?_) (fun ht=>?_)
  ·cases ht
  refine k5 (k1 (k2 ?_))
  refine A3 (A2 (A4 Z Z) Z (A2 (C1 Z Z (by omega)) Z (A2 (A5 Z Z) Z (A6 ?_))))
  refine k1 (k2 ?_)
  refine A3 (A2 (A4 Z Z) Z (A2 (F6 Z) Z (C2 (G1 16 Z) Z (E3 (B7 TySz.out Z Z Z Z Z Z) (A6 ?_)))))
  refine H8 ?_
  refine R6 [(0,C8 Str 1 J5 l),(2,.s (.one (.ref 2 0))),(4,.s (.one (.ref 4 0))),(9,C3 N),(12,C3 ((i:Int)+1)),(14,.s (.one (.mut 724))),(16,.s (.one (.ref 16 0)))] [(2,M8),(4,C78 w D N hs),(701,.spare hs.length 2 82),(724,.grow 3 Int 1 H1 c0),(16,.box [.p (.list Int 1 H1 a),.p (.v (.slice none 0 0))])] (J48 ⟨le1 rfl,le1 rfl,le1 rfl,le1 rfl,le1 rfl,le1 rfl,le1 rfl,trivial⟩ ⟨rfl,rfl,rfl,rfl,rfl,trivial⟩) ?_
  refine F4 (J54 702 Row 3 rowC 69 (kb:=16) (o:=1) Z Z Z) ?_
  refine k2 (k3 ?_)
  refine D1 (X:=Nat × List Int × List Row) (fun z=>([(0,C8 Str 1 J5 l),(2,.s (.one (.ref 2 0))),(4,.s (.one (.ref 4 0))),(9,C3 N),(12,C3 z.1),(14,.s (.one (.mut 724))),(16,.s (.one (.ref 16 0)))],[(2,M8),(4,C78 w D N hs),(701,.spare hs.length 2 82),(724,.grow 3 Int 1 H1 z.2.1),(16,F62 a z.2.2),(702,.spare z.2.2.length 3 69)])) (fun z=>i+1≤z.1∧z.1≤l.length∧z.2.2.length≤z.1∧z.2.1.length=N+1∧(∀v∈z.2.1,-(z.1:Int)≤v∧v≤2147483647)∧W4 N l z.1 z.2.1 z.2.2=W4 N l (i+1) c0 []) (fun z=>l.length - z.1) (i+1,c0,[]) ⟨Nat.le_refl _,hlt,Nat.zero_le _,hcl,fun v hv=>by have:=hcb v hv;dsimp only;omega,rfl⟩ (J48 ⟨le1 rfl,le1 rfl,le1 rfl,le1 rfl,le1 rfl,le1 rfl,le1 rfl,trivial⟩ ⟨rfl,rfl,rfl,rfl,rfl,rfl,trivial⟩) ?_
  rintro ⟨j,cs,rs⟩ ⟨hj1,hj2,hrl,hcsl,hcsb,hb⟩
  dsimp only at hj1 hj2 hrl hcsl hcsb hb ⊢
  cases hop:A35 cs with
  | false =>
   rw [I60 hop] at hb
   rw [C77 hv hH hb.symm hj1] at hf
   have hO:=G82 cs (by omega)
   rw [hop] at hO
   refine k2 (k2 ?_)
   refine A3 (A2 (A4 Z Z) Z (G54 ((Sees.freezeG (k:=724) Z Z)) (hO) Z Z Z ?_));rintro _ rfl;refine ⟨fun _ _ _ h=>h,?_⟩;refine A6 ?_
   refine k1 ?_
   refine B2 rfl (fun ht=>?_) (fun ht=>?_)
   ·cases ht
   refine k6 (k7 (k7 (k8 Z (k1 ?_))))
   refine A3 (A2 (A7 Z) Z (A2 (B0 Z Z Z) Z (A2 (C7 Z Z Z) Z (A2 (C6 (c:=J0) (ys:=[⟨a,rs⟩]) (D8 Z Z Z Z F0) Z Z Z) Z (C2 (F9 Z Z Z (.pure _ _ _ _) (by (simp;omega)) Z) Z (A2 (A7 Z) Z (E3 (B7 TySz.out Z Z Z Z Z Z) (A6 ?_))))))))
   refine k4 (k1 ?_)
   exact ⟨(j,hs++[⟨a,rs⟩]),⟨hj2,by simp;omega,hf⟩,by dsimp only;omega,J48 ⟨le1 rfl,le1 rfl,le1 rfl,le1 rfl,le1 rfl,trivial⟩ ⟨rfl,rfl,rfl,trivial⟩⟩
  | true =>
  have hO:=G82 cs (by omega)
  rw [hop] at hO
  refine k2 (k2 ?_)
  refine A3 (A2 (A4 Z Z) Z (G54 ((Sees.freezeG (k:=724) Z Z)) (hO) Z Z Z ?_));rintro _ rfl;refine ⟨fun _ _ _ h=>h,?_⟩;refine A6 ?_
  refine k1 ?_
  refine B2 rfl (fun ht=>?_) (fun ht=>?_)
  rotate_left
  ·cases ht
  refine k5 (k1 (k3 (k2 (k2 ?_))))
  refine A3 (A2 (A4 Z Z) Z (A2 (A4 Z Z) Z (A2 (F2 Z (.pure _ _ _ _)) Z (A2 (Z1 Z Z) Z (A6 ?_)))))
  refine k1 ?_
  refine B2 rfl (fun ht=>?_) (fun ht=>?_)
  ·have hge:l.length≤j:=by have:=A0 ht;omega
   rw [I61 hop hge] at hb
   rw [B04 hv hH hb.symm] at hf
   refine k2 ?_
   refine A3 (A2 (C7 Z Z Z) Z (E3 (B7 TySz.out Z Z Z Z Z Z) (A2 (A5 Z Z) Z (A6 ?_))))
   refine k1 (k10 (k11 (k12 (k11 (k12 (k11 (k12 (k11 (k12 (k11 ?_))))))))))
   exact B5 (rs:=[I5 ⟨w,D,N,hs⟩,D3 false]) (L5 rfl rfl rfl rfl rfl rfl rfl) ⟨_,false,rfl,by rw [hRn hf.symm]⟩
  have hjl:j < l.length:=by have:=A1 ht;omega
  obtain ⟨y,hy⟩:∃y,y=l[j]:=⟨_,rfl⟩
  have hvy:l[j]?=some y:=by rw [hy];simp [hjl]
  have hyz:=hsz y (J93 hvy)
  have hRw:=rRow_ok (y++[10]) N
  refine R6 [(0,C8 Str 1 J5 l),(2,.s (.one (.ref 2 0))),(4,.s (.one (.ref 4 0))),(9,C3 N),(12,C3 j),(14,.s (.one (.mut 724))),(16,.s (.one (.ref 16 0)))] [(2,M8),(4,C78 w D N hs),(701,.spare hs.length 2 82),(724,.grow 3 Int 1 H1 cs),(16,F62 a rs),(702,.spare rs.length 3 69)] (J48 ⟨le1 rfl,le1 rfl,le1 rfl,le1 rfl,le1 rfl,le1 rfl,le1 rfl,trivial⟩ ⟨rfl,rfl,rfl,rfl,rfl,rfl,trivial⟩) ?_
  cases hr:x7 (y++[10]) (N:Int) with
  | none =>
   rw [b9 hr] at hRw
   have hra:AL.rowAt (y++[10]) N=none:=by unfold x7 at hr;rw [if_neg (by omega),J83] at hr;exact hr
   rw [J21 hop hvy hra] at hb
   rw [B04 hv hH hb.symm] at hf
   refine k5 (k1 (k2 ?_))
   refine A3 (A2 (A4 Z Z) Z (A2 (A4 Z Z) Z (A2 (B3 Z (.pure _ _ _ _) Z (by omega) hvy) Z (A2 (B6 Z Z) Z (A2 (E7 Z Z (by (simp;omega))) Z (A2 (A4 Z Z) Z (B9 (hRw) Z Z Z ?_)))))));rintro _ rfl;refine A2 (A4 Z Z) Z (A2 (B1 Z Z) Z (A2 (B1 Z Z) Z (C2 (G1 17 Z) Z (E3 (B7 TySz.out Z Z Z Z Z Z) (A2 (A5 Z Z) Z (A6 ?_))))))
   refine k1 (k2 (k2 ?_))
   refine A3 (A2 (A4 Z Z) Z (A2 (E4 Z) Z (A6 ?_)))
   refine k1 ?_
   refine B2 rfl (fun ht=>?_) (fun ht=>?_)
   ·refine k2 ?_
    refine A3 (A2 (C7 Z Z Z) Z (E3 (B7 TySz.out Z Z Z Z Z Z) (A2 (A5 Z Z) Z (A6 ?_))))
    refine k1 (k10 (k11 (k12 (k11 (k12 (k11 (k12 (k11 (k12 (k11 ?_))))))))))
    exact B5 (rs:=[I5 ⟨w,D,N,hs⟩,D3 false]) (L5 rfl rfl rfl rfl rfl rfl rfl) ⟨_,false,rfl,by rw [hRn hf.symm]⟩
   ·cases ht
  | some r =>
  rw [A77 hr] at hRw
  have hra:AL.rowAt (y++[10]) N=some r:=by unfold x7 at hr;rw [if_neg (by omega),J83] at hr;exact hr
  obtain ⟨_,_,hrm,_⟩:=D48 hr
  have hrt:=(H79 hra).1
  have hrt1:r.Text.length≤4194305∧1≤r.Text.length:=by rw [hrt,J77,J88];simp;omega
  rw [I62 hop hvy hra] at hb
  obtain ⟨j2,hj2d⟩:∃j2,j2=if l[j+1]?=some noNl then j+2 else j+1:=⟨_,rfl⟩
  obtain ⟨tx,htx⟩:∃tx,tx=if l[j+1]?=some noNl then r.Text.dropLast else r.Text:=⟨_,rfl⟩
  have hb:W4 N l j2 (u6 N r cs) (rs++[⟨r.Lost,r.Marks,tx⟩])=W4 N l (i+1) c0 []:=by
   rw [←hb,hj2d,htx]
   by_cases h2:l[j+1]?=some noNl
   ·rw [if_pos h2,if_pos h2,if_pos h2]
   ·rw [if_neg h2,if_neg h2,if_neg h2]
  have hj2l:j2≤l.length∧j+1≤j2∧j2≤j+2:=by
   rw [hj2d]
   split
   ·rename_i h2
    have:=(List.getElem?_eq_some_iff.1 h2).1
    omega
   ·omega
  obtain ⟨z,hz⟩:∃z,z=l.getD (j+1) []:=⟨_,rfl⟩
  have hvz:j+1 < l.length→l[j+1]?=some z:=fun h=>by rw [hz];simp [h]
  refine k5 (k1 (k2 ?_))
  refine A3 (A2 (A4 Z Z) Z (A2 (A4 Z Z) Z (A2 (B3 Z (.pure _ _ _ _) Z (by omega) hvy) Z (A2 (B6 Z Z) Z (A2 (E7 Z Z (by (simp;omega))) Z (A2 (A4 Z Z) Z (B9 (hRw) Z Z Z ?_)))))));rintro _ rfl;refine A2 (A4 Z Z) Z (A2 (B1 Z Z) Z (A2 (B1 Z Z) Z (C2 (G1 17 Z) Z (E3 (B7 TySz.out Z Z Z Z Z Z) (A2 (A5 Z Z) Z (A6 ?_))))))
  refine k1 (k2 (k2 ?_))
  refine A3 (A2 (A4 Z Z) Z (A2 (E4 Z) Z (A6 ?_)))
  refine k1 ?_
  refine B2 rfl (fun ht=>?_) (fun ht=>?_)
  ·cases ht
  refine k5 (k1 (k2 ?_))
  refine A3 (A2 (A4 Z Z) Z (A2 (C1 Z Z (by omega)) Z (A2 (A5 Z Z) Z (A6 ?_))))
  refine H8 ?_
  refine U6 [(0,C8 Str 1 J5 l),(2,.s (.one (.ref 2 0))),(4,.s (.one (.ref 4 0))),(9,C3 N),(12,C3 j2),(14,.s (.one (.mut 724))),(16,.s (.one (.ref 16 0))),(17,.s (.one (.ref 17 0)))] [(2,M8),(4,C78 w D N hs),(701,.spare hs.length 2 82),(724,.grow 3 Int 1 H1 cs),(16,F62 a rs),(702,.spare rs.length 3 69),(17,.box (pRow ⟨r.Lost,r.Marks,tx⟩).s1.cells)] ?_ ?_
  ·refine R6 [(0,C8 Str 1 J5 l),(2,.s (.one (.ref 2 0))),(4,.s (.one (.ref 4 0))),(9,C3 N),(12,C3 ((j:Int)+1)),(14,.s (.one (.mut 724))),(16,.s (.one (.ref 16 0))),(17,.s (.one (.ref 17 0)))] [(2,M8),(4,C78 w D N hs),(701,.spare hs.length 2 82),(724,.grow 3 Int 1 H1 cs),(16,F62 a rs),(702,.spare rs.length 3 69),(17,.box (pRow r).s1.cells)] (J48 ⟨le1 rfl,le1 rfl,le1 rfl,le1 rfl,le1 rfl,le1 rfl,le1 rfl,le1 rfl,trivial⟩ ⟨rfl,rfl,rfl,rfl,rfl,rfl,rfl,trivial⟩) ?_
   refine k2 ?_
   refine A3 (A2 (A4 Z Z) Z (A2 (A4 Z Z) Z (A2 (F2 Z (.pure _ _ _ _)) Z (A2 (D6 Z Z) Z (A2 (A4 Z Z) Z (A9 Z Z Z Z (fun hg=>by rw [hg];exact A4 Z Z) ?_))))));refine A9 Z Z Z Z (fun hg=>by rw [hg];exact A4 Z Z) ?_;refine A9 Z Z Z Z (fun hg=>by have hq:=hg;(try simp at hq);rw [hg];exact B3 Z (.pure _ _ _ _) Z (by omega) (hvz (by omega))) ?_;refine A9 Z Z Z Z (fun hg=>by rw [hg];exact B6 Z Z) ?_;refine A9 Z Z Z Z (fun hg=>by rw [hg];exact V1 Z Z) ?_;refine A2 (B4 Z (fun h=>by first | rfl | (rw [h];rfl)) (fun h=>by first | rfl | (rw [h];rfl))) Z ?_;refine A6 ?_
   simp only [I3]
   refine k1 ?_
   refine B2 rfl (fun ht=>?_) (fun ht=>?_)
   ·have h:=A0 ht
    have h2:l[j+1]?=some noNl:=by rw [hvz (by omega)];exact congrArg some h.2
    rw [if_pos h2] at hj2d htx
    have e1:r.Text.take ((r.Text.length:Int) - 1).toNat=tx:=by rw [htx,show ((r.Text.length:Int) - 1).toNat=r.Text.length - 1 by omega,←List.dropLast_eq_take]
    refine k2 ?_
    refine A3 (A2 (A7 Z) Z (A2 (B0 Z Z Z) Z (A2 (A7 Z) Z (A2 (B0 Z Z Z) Z (A2 (D5 Z) Z (A2 (P5 Z Z (by omega)) Z (A2 (j5 Z Z (by omega) (by omega)) Z (A2 (A7 Z) Z (E3 (B7 TySz.out Z Z Z Z Z Z) (A6 ?_))))))))))
    rw [e1]
    refine k1 ?_
    refine A3 (A2 (A4 Z Z) Z (A2 (C1 Z Z (by omega)) Z (A2 (A5 Z Z) Z (A6 ?_))))
    refine k1 ?_
    rw [show (j2:Int)=(j:Int)+1+1 by omega]
    exact J48 ⟨le1 rfl,le1 rfl,le1 rfl,le1 rfl,le1 rfl,le1 rfl,le1 rfl,le1 rfl,trivial⟩ ⟨rfl,rfl,rfl,rfl,rfl,rfl,rfl,trivial⟩
   ·have h:=A1 ht
    have h2:¬l[j+1]?=some noNl:=by
     intro h2
     have h3:=(List.getElem?_eq_some_iff.1 h2).1
     rw [hvz h3] at h2
     exact h ⟨by omega,Option.some.inj h2⟩
    rw [if_neg h2] at hj2d htx
    refine k5 (k1 ?_)
    rw [show (j2:Int)=(j:Int)+1 by omega,htx]
    exact J48 ⟨le1 rfl,le1 rfl,le1 rfl,le1 rfl,le1 rfl,le1 rfl,le1 rfl,le1 rfl,trivial⟩ ⟨rfl,rfl,rfl,rfl,rfl,rfl,rfl,trivial⟩
  obtain ⟨R,hR⟩:∃R:Row,R=⟨r.Lost,r.Marks,tx⟩:=⟨_,rfl⟩
  have hRm:0≤R.Marks∧R.Marks < 4294967296:=by rw [hR];exact hrm
  have hRd:u6 N r cs=u6 N R cs:=by rw [hR];rfl
  rw [←hR,hRd] at hb
  rw [←hR]
  have hdin:=J22 (r:=R) hcsl hcsb
  refine k2 (k2 ?_)
  refine A3 (A2 (A5 Z Z) Z (A6 ?_))
  refine k1 (k3 ?_)
  refine D1 (X:=Nat) (fun k=>([(0,C8 Str 1 J5 l),(2,.s (.one (.ref 2 0))),(4,.s (.one (.ref 4 0))),(9,C3 N),(12,C3 j2),(14,.s (.one (.mut 724))),(16,.s (.one (.ref 16 0))),(17,.s (.one (.ref 17 0))),(19,C3 k)],[(2,M8),(4,C78 w D N hs),(701,.spare hs.length 2 82),(724,.grow 3 Int 1 H1 (l7 N R cs k)),(16,F62 a rs),(702,.spare rs.length 3 69),(17,.box (pRow R).s1.cells)])) (fun k=>k≤N+1) (fun k=>N+1 - k) 0 (Nat.zero_le _) (by rw [G84 R hcsl];exact J48 ⟨le1 rfl,le1 rfl,le1 rfl,le1 rfl,le1 rfl,le1 rfl,le1 rfl,le1 rfl,le1 rfl,trivial⟩ ⟨rfl,rfl,rfl,rfl,rfl,rfl,rfl,trivial⟩) ?_
  intro k hk
  dsimp only at hk ⊢
  have hdl:=H56 N R cs k
  refine k2 (k2 ?_)
  refine A3 (A2 (A4 Z Z) Z (A2 (A4 Z Z) Z (A2 (m8 Z Z) Z (A6 ?_))))
  refine k1 ?_
  refine B2 rfl (fun ht=>?_) (fun ht=>?_)
  ·have hk1:k < N+1:=by have:=A0 ht;omega
   have hget:=H57 N R cs k hk1
   have hst:=G85 N R cs k hk1
   have hck:=hcsb _ (J93 (D04 (l:=cs) (i:=k) (by omega)))
   obtain ⟨v,hvv⟩:∃v,v=cs.getD k 0:=⟨_,rfl⟩
   rw [←hvv] at hget hst hck
   have hu:=A61 (n:=(k:Int)) (by omega)
   have h3:0≤R.Marks / 2 ^ k:=Int.ediv_nonneg hRm.1 (Int.pow_nonneg (by decide))
   have h4:R.Marks / 2 ^ k≤R.Marks:=Int.ediv_le_self _ hRm.1
   have e32:R.Marks.fdiv (2 ^ (min (k:Int).toNat IntKind.u32.bits))=R.Marks / 2 ^ k:=D68 R.Marks k (by omega)
   have e1:=A79 (R.Marks / 2 ^ k) (by omega)
   refine k5 (k1 (k2 (k3 (k2 ?_))))
   refine A3 (A2 (A7 Z) Z (A2 (B0 Z Z Z) Z (A2 (E4 Z) Z (A2 (A5 Z Z) Z (A6 ?_)))))
   refine H8 ?_
   refine U6 [(0,C8 Str 1 J5 l),(2,.s (.one (.ref 2 0))),(4,.s (.one (.ref 4 0))),(9,C3 N),(12,C3 j2),(14,.s (.one (.mut 724))),(16,.s (.one (.ref 16 0))),(17,.s (.one (.ref 17 0))),(19,C3 k),(20,Q5 (U4 R (L0 N k)))] [(2,M8),(4,C78 w D N hs),(701,.spare hs.length 2 82),(724,.grow 3 Int 1 H1 (l7 N R cs k)),(16,F62 a rs),(702,.spare rs.length 3 69),(17,.box (pRow R).s1.cells)] ?_ ?_
   ·refine k2 ?_
    refine A3 (A2 (A4 Z Z) Z (A2 (A4 Z Z) Z (A2 (D6 Z Z) Z (A6 ?_))))
    refine k1 ?_
    refine B2 rfl (fun ht=>?_) (fun ht=>?_)
    ·have hkN:k < N:=by have:=A0 ht;omega
     skip
     refine A3 (A2 (A7 Z) Z (A2 (B0 Z Z Z) Z (A2 (A4 Z Z) Z (A2 (I1 Z) Z (A2 (A38 Z Z (by (rw [hu];omega))) Z ?_)))));refine A2 (T4 Z Z Z (fun _=>rfl)) Z (A2 (F1 Z Z) Z (A2 (A7 Z) Z (A2 (B0 Z Z Z) Z (A2 (F86 Z Z TyBool.out) Z (A2 (A5 Z Z) Z (A6 ?_))))))
     rw [hu,e32,e1]
     refine k1 ?_
     rw [show U4 R (L0 N k)=(decide (R.Marks / 2 ^ k % 2=1) == R.Lost) by
      unfold U4 L0
      rw [if_neg (by omega:¬k=N),if_neg (by omega),if_neg (by omega),J83]
      rfl]
     exact J48 ⟨le1 rfl,le1 rfl,le1 rfl,le1 rfl,le1 rfl,le1 rfl,le1 rfl,le1 rfl,le1 rfl,le1 rfl,trivial⟩ ⟨rfl,rfl,rfl,rfl,rfl,rfl,rfl,trivial⟩
    ·have hkN:k=N:=by have:=A1 ht;omega
     refine k5 (k1 ?_)
     rw [show U4 R (L0 N k)=!R.Lost by unfold U4 L0;rw [if_pos hkN,if_pos rfl]]
     exact J48 ⟨le1 rfl,le1 rfl,le1 rfl,le1 rfl,le1 rfl,le1 rfl,le1 rfl,le1 rfl,le1 rfl,le1 rfl,trivial⟩ ⟨rfl,rfl,rfl,rfl,rfl,rfl,rfl,trivial⟩
   refine k2 ?_
   refine A3 (A2 (A4 Z Z) Z (A6 ?_))
   refine k1 ?_
   refine B2 rfl (fun ht=>?_) (fun ht=>?_)
   ·rw [if_pos ht] at hst
    skip
    refine A3 (A2 (A4 Z Z) Z (A2 (A4 Z Z) Z (A2 (O7 Z Z Z (by omega) (by (rw [hdl];omega))) Z ?_)));refine A2 (C65 Z Z hget Z) Z (A2 (P5 Z Z (by omega)) Z (A2 (O7 Z Z Z (by omega) (by (rw [hdl];omega))) Z ?_));refine E3 (A16 ((v - 1)) TySz.out Z Z hget Z Z Z Z (fun _ _ _ h=>A22 h) (by intro j h1 h2;rcases j with _ | _ | _ | _ | _ | _ | _ | j<;>first | rfl | omega)) ?_;refine A6 ?_
    refine k4 (k1 ?_)
    refine A3 (A2 (A4 Z Z) Z (A2 (C1 Z Z (by omega)) Z (A2 (A5 Z Z) Z (A6 ?_))))
    refine k1 ?_
    refine ⟨k+1,by omega,by omega,?_⟩
    rw [hst]
    exact J48 ⟨le1 rfl,le1 rfl,le1 rfl,le1 rfl,le1 rfl,le1 rfl,le1 rfl,le1 rfl,le1 rfl,trivial⟩ ⟨rfl,rfl,rfl,rfl,rfl,rfl,rfl,trivial⟩
   ·rw [if_neg (by rw [ht];decide)] at hst
    refine k5 (k4 (k1 ?_))
    refine A3 (A2 (A4 Z Z) Z (A2 (C1 Z Z (by omega)) Z (A2 (A5 Z Z) Z (A6 ?_))))
    refine k1 ?_
    refine ⟨k+1,by omega,by omega,?_⟩
    rw [hst]
    exact J48 ⟨le1 rfl,le1 rfl,le1 rfl,le1 rfl,le1 rfl,le1 rfl,le1 rfl,le1 rfl,le1 rfl,trivial⟩ ⟨rfl,rfl,rfl,rfl,rfl,rfl,rfl,trivial⟩
  ·have hkN:k=N+1:=by have:=A1 ht;omega
   subst hkN
   rw [G86]
   refine k6 (k7 (k7 (k8 Z (k1 ?_))))
   refine A3 (A2 (A7 Z) Z (A2 (B0 Z Z Z) Z (A2 (C7 Z Z Z) Z (A2 (C6 (c:=rowC) (ys:=[R]) (D8 Z Z Z Z F0) Z Z Z) Z (C2 (F9 Z Z Z (.pure _ _ _ _) (by (simp;omega)) Z) Z (A2 (A7 Z) Z (E3 (B7 TySz.out Z Z Z Z Z Z) (A6 ?_))))))))
   refine k4 (k1 ?_)
   exact ⟨(j2,u6 N R cs,rs++[R]),⟨by dsimp only;omega,hj2l.1,by simp;omega,I59 N R cs,fun v hv=>by have:=hdin v hv;dsimp only;omega,hb⟩,by dsimp only;omega,J48 ⟨le1 rfl,le1 rfl,le1 rfl,le1 rfl,le1 rfl,le1 rfl,le1 rfl,trivial⟩ ⟨rfl,rfl,rfl,rfl,rfl,rfl,trivial⟩⟩
theorem cut_ex (s p:Str):∃(c:Str) (b:Bool),F01 s p=[F5 c,D3 b]∧((b=true∧s.take p.length=p∧c=s.drop p.length)∨(b=false∧s.take p.length≠p∧c=s)):=by
 unfold F01
 by_cases h:s.take p.length=p
 ·rw [if_pos h];exact ⟨_,_,rfl,.inl ⟨rfl,h,rfl⟩⟩
 ·rw [if_neg h];exact ⟨_,_,rfl,.inr ⟨rfl,h,rfl⟩⟩
abbrev cpBox (w:Str) (d:Bool) (n:Int):Ob:=.box [.p (.v (.string ⟨w.toArray⟩)),.p (.v (.bool d)),.p (.v (.int .i64 n)),.p (.v (.slice none 0 0))]
theorem G87 {a b c x w:Str} {d okc okw okn:Bool} {e n en:Int} (hk:u1 a=some (d,x)) (hc:(okc=true∧b.take parS.length=parS∧c=b.drop parS.length)∨(okc=false∧b.take parS.length≠parS∧c=b))
  (hw:match Q9 (x.drop 0) with | some q=>okw=true∧w=q.1∧e=((0+q.2:Nat):Int) | none=>okw=false)
  (hn:match Q0 (c.drop 0) with | some q=>okn=true∧n=(q.1:Int)∧en=((0+q.2:Nat):Int) | none=>okn=false) :
  R3 true a b=if okc=true∧okw=true∧e=x.length∧okn=true∧en=c.length∧1≤n∧n≤32 then some (d,w,n) else none:=by
 unfold R3
 rw [hk]
 dsimp only
 rw [List.drop_zero] at hw hn
 have h8:parS.length=8:=rfl
 rcases hc with ⟨h1,h2,h3⟩ | ⟨h1,h2,_⟩
 ·rw [h8] at h2 h3
  rw [if_pos h2,←h3]
  cases g1:Q9 x with
  | none=>rw [g1] at hw;have hw:okw=false:=hw;rw [if_neg (by simp [hw])]
  | some q =>
   obtain ⟨w',k'⟩:=q
   rw [g1] at hw
   obtain ⟨rfl,rfl,rfl⟩:=hw
   cases g2:Q0 c with
   | none=>rw [g2] at hn;have hn:okn=false:=hn;rw [if_neg (by simp [hn])]
   | some q2 =>
    obtain ⟨m',k2⟩:=q2
    rw [g2] at hn
    obtain ⟨rfl,rfl,rfl⟩:=hn
    dsimp only
    by_cases hg:(true=true→k'=x.length∧k2=c.length)∧1≤m'∧m'≤32
    ·obtain ⟨q1,q2⟩:=hg.1 rfl
     rw [if_pos hg,if_pos ⟨h1,rfl,by omega,rfl,by omega,by omega,by omega⟩]
    ·rw [if_neg hg,if_neg]
     rintro ⟨_,_,p1,_,p2,p3,p4⟩
     exact hg ⟨fun _=>⟨by omega,by omega⟩,by omega,by omega⟩
 ·rw [h8] at h2
  rw [if_neg h2,if_neg (by simp [h1])]
set_option maxHeartbeats 1000000
theorem H59 {gf:Fr} (a b:Str) (ha:a.length≤4194304) (hb:b.length≤4194304) :
  AL.Met Tryz.prog 158 [.one (.ref 730 0),.one (.p (.v (.string ⟨a.toArray⟩))),.one (.p (.v (.string ⟨b.toArray⟩)))] gf [(730,M8),(2,M8)] []
   (fun rs ob'=>∃(w:Str) (d:Bool) (n:Int) (ok:Bool),rs=[tBo ok]∧ob'=[(730,cpBox w d n),(2,M8)]∧match R3 true a b with
    | some (d',p,m)=>ok=true∧d=d'∧w=p∧n=m
    | none=>ok=false):=by
 have hc1:=r7 a ccS
 have hc2:=r7 a combS
 have hc3:=r7 b parS
 unfold F01 at hc1 hc2
 obtain ⟨c,okc,hx,hcc⟩:=cut_ex b parS
 rw [hx] at hc3
 have hcl:c.length≤4194304:=by
  rcases hcc with ⟨_,_,h⟩ | ⟨_,_,h⟩
  ·rw [h,J88];omega
  ·rw [h];exact hb
 have hNb:=B00 c 0 (Nat.zero_le _) (by omega)
 obtain ⟨n,en,okn,hn1,hn2⟩:=num_ex c 0
 rw [hn1] at hNb
 by_cases h1:a.take ccS.length=ccS
 ·rw [if_pos h1] at hc1
  have hk:u1 a=some (true,a.drop ccS.length):=by
   have h1:a.take 10=ccS:=h1
   unfold u1;rw [if_pos h1];rfl
  obtain ⟨x,hxx⟩:∃x,x=a.drop ccS.length:=⟨_,rfl⟩
  have hxl:x.length≤4194304:=by rw [hxx,J88];omega
  rw [←hxx] at hc1 hk
  have hUq:=D57 x 0 (Nat.zero_le _) (by omega)
  obtain ⟨w,e,okw,hw1,hw2⟩:=G13 x 0
  rw [hw1] at hUq
  have hT:=G87 hk hcc hw2 hn2
  refine AL.Met.intro Tryz.func158 (by decide) Z Z Z ?_
  refine k2 ?_
  refine A3 (A2 (A5 Z Z) Z (A6 ?_))
  refine k1 (k2 ?_)
  refine A3 (A2 (A4 Z Z) Z (B9 (hc1) Z Z Z ?_));rintro _ rfl;refine A2 (A4 Z Z) Z (A2 (B1 Z Z) Z (A2 (B1 Z Z) Z (A2 (A5 Z Z) Z (A2 (A5 Z Z) Z (A6 ?_)))))
  refine k1 (k2 (k2 ?_))
  refine A3 (A2 (A4 Z Z) Z (A2 (E4 Z) Z (A6 ?_)))
  refine k1 ?_
  refine B2 rfl (fun ht=>?_) (fun ht=>?_)
  ·cases ht
  refine k5 (k1 (k2 ?_))
  refine A3 (A2 (A4 Z Z) Z (B9 (hc3) Z Z Z ?_));rintro _ rfl;refine A2 (A4 Z Z) Z (A2 (B1 Z Z) Z (A2 (B1 Z Z) Z (A2 (A5 Z Z) Z (A2 (A5 Z Z) Z (A6 ?_)))))
  refine k1 (k2 ?_)
  refine A3 (A2 (A4 Z Z) Z (B9 (hUq) Z Z Z ?_));rintro _ rfl;refine A2 (A4 Z Z) Z (A2 (B1 Z Z) Z (A2 (B1 Z Z) Z (A2 (B1 Z Z) Z (A2 (A5 Z Z) Z (A2 (A5 Z Z) Z (A2 (A5 Z Z) Z (A6 ?_)))))))
  refine k1 (k2 ?_)
  refine A3 (A2 (A4 Z Z) Z (B9 (hNb) Z Z Z ?_));rintro _ rfl;refine A2 (A4 Z Z) Z (A2 (B1 Z Z) Z (A2 (B1 Z Z) Z (A2 (B1 Z Z) Z (A2 (A5 Z Z) Z (A2 (A5 Z Z) Z (A2 (A5 Z Z) Z (A6 ?_)))))))
  refine k1 (k2 ?_)
  refine A3 (A2 (A4 Z Z) Z (A2 (A4 Z Z) Z (A2 (A4 Z Z) Z (A2 (A4 Z Z) Z (A2 (F6 Z) Z (A2 (B8 Z) Z (A2 (A7 Z) Z (E3 (B7 TySz.out Z Z Z Z Z Z) (A6 ?_)))))))))
  refine k1 (k2 ?_)
  refine A3 (A2 (A4 Z Z) Z (A2 (A4 Z Z) Z (A9 Z Z Z Z (fun hg=>by rw [hg];exact A4 Z Z) ?_)));refine A2 (B4 Z (fun h=>by first | rfl | (rw [h];rfl)) (fun h=>by first | rfl | (rw [h];rfl))) Z ?_;refine A2 (A4 Z Z) Z (A9 Z Z Z Z (fun hg=>by rw [hg];exact A4 Z Z) ?_);refine A9 Z Z Z Z (fun hg=>by rw [hg];exact A4 Z Z) ?_;refine A9 Z Z Z Z (fun hg=>by rw [hg];exact D5 Z) ?_;refine A9 Z Z Z Z (fun hg=>by rw [hg];exact F1 Z Z) ?_;refine A2 (B4 Z (fun h=>by first | rfl | (rw [h];rfl)) (fun h=>by first | rfl | (rw [h];rfl))) Z ?_;refine A2 (A4 Z Z) Z (A9 Z Z Z Z (fun hg=>by rw [hg];exact A4 Z Z) ?_);refine A2 (B4 Z (fun h=>by first | rfl | (rw [h];rfl)) (fun h=>by first | rfl | (rw [h];rfl))) Z ?_;refine A2 (A4 Z Z) Z (A9 Z Z Z Z (fun hg=>by rw [hg];exact A4 Z Z) ?_);refine A9 Z Z Z Z (fun hg=>by rw [hg];exact A4 Z Z) ?_;refine A9 Z Z Z Z (fun hg=>by rw [hg];exact D5 Z) ?_;refine A9 Z Z Z Z (fun hg=>by rw [hg];exact F1 Z Z) ?_;refine A2 (B4 Z (fun h=>by first | rfl | (rw [h];rfl)) (fun h=>by first | rfl | (rw [h];rfl))) Z ?_;refine A2 (A4 Z Z) Z (A9 Z Z Z Z (fun hg=>by rw [hg];exact A4 Z Z) ?_);refine A9 Z Z Z Z (fun hg=>by rw [hg];exact Z1 Z Z) ?_;refine A2 (B4 Z (fun h=>by first | rfl | (rw [h];rfl)) (fun h=>by first | rfl | (rw [h];rfl))) Z ?_;refine A2 (A4 Z Z) Z (A9 Z Z Z Z (fun hg=>by rw [hg];exact A4 Z Z) ?_);refine A9 Z Z Z Z (fun hg=>by rw [hg];exact m8 Z Z) ?_;refine A2 (B4 Z (fun h=>by first | rfl | (rw [h];rfl)) (fun h=>by first | rfl | (rw [h];rfl))) Z ?_;refine A2 (A5 Z Z) Z (A6 ?_)
  refine k1 (k10 ?_)
  refine H7 (g9 rfl rfl) (by repeat (first | exact D9 | refine tail_cons rfl ?_ | refine E0 _ ?_)) (ObIn.spec (ob':=[(730,cpBox w _ n),(2,M8)]) ⟨rfl,rfl,trivial⟩) ⟨w,_,n,_,rfl,rfl,?_⟩
  rw [hT]
  by_cases hg:okc=true∧okw=true∧e=x.length∧okn=true∧en=c.length∧1≤n∧n≤32
  ·rw [if_pos hg]
   obtain ⟨g1,g2,g3,g4,g5,g6,g7⟩:=hg
   exact ⟨by simp [g1,g2,g3,g4,g5,g6,g7],rfl,rfl,rfl⟩
  ·rw [if_neg hg]
   cases okc<;>cases okw<;>cases okn<;>first | rfl | (simp;done) | (simp at hg ⊢;exact hg) | (simp at hg ⊢;intros;omega)
 rw [if_neg h1] at hc1
 by_cases h2:a.take combS.length=combS
 ·rw [if_pos h2] at hc2
  have hk:u1 a=some (false,a.drop combS.length):=by
   have h1:¬a.take 10=ccS:=h1
   have h2:a.take 16=combS:=h2
   unfold u1;rw [if_neg h1,if_pos h2];rfl
  obtain ⟨x,hxx⟩:∃x,x=a.drop combS.length:=⟨_,rfl⟩
  have hxl:x.length≤4194304:=by rw [hxx,J88];omega
  rw [←hxx] at hc2 hk
  have hUq:=D57 x 0 (Nat.zero_le _) (by omega)
  obtain ⟨w,e,okw,hw1,hw2⟩:=G13 x 0
  rw [hw1] at hUq
  have hT:=G87 hk hcc hw2 hn2
  refine AL.Met.intro Tryz.func158 (by decide) Z Z Z ?_
  refine k2 ?_
  refine A3 (A2 (A5 Z Z) Z (A6 ?_))
  refine k1 (k2 ?_)
  refine A3 (A2 (A4 Z Z) Z (B9 (hc1) Z Z Z ?_));rintro _ rfl;refine A2 (A4 Z Z) Z (A2 (B1 Z Z) Z (A2 (B1 Z Z) Z (A2 (A5 Z Z) Z (A2 (A5 Z Z) Z (A6 ?_)))))
  refine k1 (k2 (k2 ?_))
  refine A3 (A2 (A4 Z Z) Z (A2 (E4 Z) Z (A6 ?_)))
  refine k1 ?_
  refine B2 rfl (fun ht=>?_) (fun ht=>?_)
  rotate_left
  ·cases ht
  refine k2 ?_
  refine A3 (A2 (A5 Z Z) Z (A6 ?_))
  refine k1 (k2 ?_)
  refine A3 (A2 (A4 Z Z) Z (B9 (hc2) Z Z Z ?_));rintro _ rfl;refine A2 (A4 Z Z) Z (A2 (B1 Z Z) Z (A2 (B1 Z Z) Z (A2 (A5 Z Z) Z (A2 (A5 Z Z) Z (A6 ?_)))))
  refine k1 (k2 ?_)
  refine A3 (A2 (A4 Z Z) Z (A2 (E4 Z) Z (A6 ?_)))
  refine k1 ?_
  refine B2 rfl (fun ht=>?_) (fun ht=>?_)
  ·cases ht
  refine k5 (k1 (k2 ?_))
  refine A3 (A2 (A4 Z Z) Z (B9 (hc3) Z Z Z ?_));rintro _ rfl;refine A2 (A4 Z Z) Z (A2 (B1 Z Z) Z (A2 (B1 Z Z) Z (A2 (A5 Z Z) Z (A2 (A5 Z Z) Z (A6 ?_)))))
  refine k1 (k2 ?_)
  refine A3 (A2 (A4 Z Z) Z (B9 (hUq) Z Z Z ?_));rintro _ rfl;refine A2 (A4 Z Z) Z (A2 (B1 Z Z) Z (A2 (B1 Z Z) Z (A2 (B1 Z Z) Z (A2 (A5 Z Z) Z (A2 (A5 Z Z) Z (A2 (A5 Z Z) Z (A6 ?_)))))))
  refine k1 (k2 ?_)
  refine A3 (A2 (A4 Z Z) Z (B9 (hNb) Z Z Z ?_));rintro _ rfl;refine A2 (A4 Z Z) Z (A2 (B1 Z Z) Z (A2 (B1 Z Z) Z (A2 (B1 Z Z) Z (A2 (A5 Z Z) Z (A2 (A5 Z Z) Z (A2 (A5 Z Z) Z (A6 ?_)))))))
  refine k1 (k2 ?_)
  refine A3 (A2 (A4 Z Z) Z (A2 (A4 Z Z) Z (A2 (A4 Z Z) Z (A2 (A4 Z Z) Z (A2 (F6 Z) Z (A2 (B8 Z) Z (A2 (A7 Z) Z (E3 (B7 TySz.out Z Z Z Z Z Z) (A6 ?_)))))))))
  refine k1 (k2 ?_)
  refine A3 (A2 (A4 Z Z) Z (A2 (A4 Z Z) Z (A9 Z Z Z Z (fun hg=>by rw [hg];exact A4 Z Z) ?_)));refine A2 (B4 Z (fun h=>by first | rfl | (rw [h];rfl)) (fun h=>by first | rfl | (rw [h];rfl))) Z ?_;refine A2 (A4 Z Z) Z (A9 Z Z Z Z (fun hg=>by rw [hg];exact A4 Z Z) ?_);refine A9 Z Z Z Z (fun hg=>by rw [hg];exact A4 Z Z) ?_;refine A9 Z Z Z Z (fun hg=>by rw [hg];exact D5 Z) ?_;refine A9 Z Z Z Z (fun hg=>by rw [hg];exact F1 Z Z) ?_;refine A2 (B4 Z (fun h=>by first | rfl | (rw [h];rfl)) (fun h=>by first | rfl | (rw [h];rfl))) Z ?_;refine A2 (A4 Z Z) Z (A9 Z Z Z Z (fun hg=>by rw [hg];exact A4 Z Z) ?_);refine A2 (B4 Z (fun h=>by first | rfl | (rw [h];rfl)) (fun h=>by first | rfl | (rw [h];rfl))) Z ?_;refine A2 (A4 Z Z) Z (A9 Z Z Z Z (fun hg=>by rw [hg];exact A4 Z Z) ?_);refine A9 Z Z Z Z (fun hg=>by rw [hg];exact A4 Z Z) ?_;refine A9 Z Z Z Z (fun hg=>by rw [hg];exact D5 Z) ?_;refine A9 Z Z Z Z (fun hg=>by rw [hg];exact F1 Z Z) ?_;refine A2 (B4 Z (fun h=>by first | rfl | (rw [h];rfl)) (fun h=>by first | rfl | (rw [h];rfl))) Z ?_;refine A2 (A4 Z Z) Z (A9 Z Z Z Z (fun hg=>by rw [hg];exact A4 Z Z) ?_);refine A9 Z Z Z Z (fun hg=>by rw [hg];exact Z1 Z Z) ?_;refine A2 (B4 Z (fun h=>by first | rfl | (rw [h];rfl)) (fun h=>by first | rfl | (rw [h];rfl))) Z ?_;refine A2 (A4 Z Z) Z (A9 Z Z Z Z (fun hg=>by rw [hg];exact A4 Z Z) ?_);refine A9 Z Z Z Z (fun hg=>by rw [hg];exact m8 Z Z) ?_;refine A2 (B4 Z (fun h=>by first | rfl | (rw [h];rfl)) (fun h=>by first | rfl | (rw [h];rfl))) Z ?_;refine A2 (A5 Z Z) Z (A6 ?_)
  refine k1 (k10 ?_)
  refine H7 (g9 rfl rfl) (by repeat (first | exact D9 | refine tail_cons rfl ?_ | refine E0 _ ?_)) (ObIn.spec (ob':=[(730,cpBox w _ n),(2,M8)]) ⟨rfl,rfl,trivial⟩) ⟨w,_,n,_,rfl,rfl,?_⟩
  rw [hT]
  by_cases hg:okc=true∧okw=true∧e=x.length∧okn=true∧en=c.length∧1≤n∧n≤32
  ·rw [if_pos hg]
   obtain ⟨g1,g2,g3,g4,g5,g6,g7⟩:=hg
   exact ⟨by simp [g1,g2,g3,g4,g5,g6,g7],rfl,rfl,rfl⟩
  ·rw [if_neg hg]
   cases okc<;>cases okw<;>cases okn<;>first | rfl | (simp;done) | (simp at hg ⊢;exact hg) | (simp at hg ⊢;intros;omega)
 rw [if_neg h2] at hc2
 have hT:R3 true a b=none:=by
  have h1:¬a.take 10=ccS:=h1
  have h2:¬a.take 16=combS:=h2
  unfold R3 u1
  rw [if_neg h1,if_neg h2]
 rw [hT]
 refine AL.Met.intro Tryz.func158 (by decide) Z Z Z ?_
 refine k2 ?_
 refine A3 (A2 (A5 Z Z) Z (A6 ?_))
 refine k1 (k2 ?_)
 refine A3 (A2 (A4 Z Z) Z (B9 (hc1) Z Z Z ?_));rintro _ rfl;refine A2 (A4 Z Z) Z (A2 (B1 Z Z) Z (A2 (B1 Z Z) Z (A2 (A5 Z Z) Z (A2 (A5 Z Z) Z (A6 ?_)))))
 refine k1 (k2 (k2 ?_))
 refine A3 (A2 (A4 Z Z) Z (A2 (E4 Z) Z (A6 ?_)))
 refine k1 ?_
 refine B2 rfl (fun ht=>?_) (fun ht=>?_)
 rotate_left
 ·cases ht
 refine k2 ?_
 refine A3 (A2 (A5 Z Z) Z (A6 ?_))
 refine k1 (k2 ?_)
 refine A3 (A2 (A4 Z Z) Z (B9 (hc2) Z Z Z ?_));rintro _ rfl;refine A2 (A4 Z Z) Z (A2 (B1 Z Z) Z (A2 (B1 Z Z) Z (A2 (A5 Z Z) Z (A2 (A5 Z Z) Z (A6 ?_)))))
 refine k1 (k2 ?_)
 refine A3 (A2 (A4 Z Z) Z (A2 (E4 Z) Z (A6 ?_)))
 refine k1 ?_
 refine B2 rfl (fun ht=>?_) (fun ht=>?_)
 rotate_left
 ·cases ht
 refine k2 ?_
 refine A3 (A2 (A5 Z Z) Z (A6 ?_))
 refine k1 (k10 (k11 ?_))
 exact H7 (g9 rfl rfl) (by repeat (first | exact D9 | refine tail_cons rfl ?_ | refine E0 _ ?_)) (fun _ _ h=>h) ⟨[],false,0,false,rfl,rfl,rfl⟩
def A60:CHunk→Nat→Cell
 | h,0=>.list Int 1 H1 h.At
 | h,_=>match h.Rows with
  | []=>.v (.slice none 0 0)
  | _::_=>.list Row 3 rowC h.Rows
abbrev F63 (w:Str) (d:Bool) (n:Int):Ob:=.box [.p (.v (.string ⟨w.toArray⟩)),.p (.v (.bool d)),.p (.v (.int .i64 n)),.mut 731]
abbrev Y0 (w:Str) (d:Bool) (n:Int) (hs:List CHunk):Obs:=[(730,F63 w d n),(731,.grow 82 CHunk 2 A60 hs),(2,M8)]
abbrev Y1 (w:Str) (d:Bool) (n:Int) (hs:List CHunk) (a:List Int) (rs:List Row):Obs :=
 [(730,F63 w d n),(731,.growA 82 CHunk 2 A60 hs (hs.length - 1) [.p (.list Int 1 H1 a),.mut 732]),(732,.grow 69 Row 3 rowC rs),(2,M8)]
abbrev gfL (x:Str) (R:List Str) (k:Nat):Fr:=[(1000032,H4 x),(1000031,.s (.one (.ref 730 0))),(1000004,.s (.one (.ref 730 0))),(1000002,.s (.one (.ref 2 0))),(1000025,C8 Str 1 J5 R),(1000026,C3 R.length),(1000027,C3 k),(1000006,H4 x)]
abbrev gfH (x:Str) (R:List Str) (k:Nat):Fr:=[(1000012,H4 x),(1000011,.s (.one (.ref 730 0))),(1000000,.s (.one (.ref 730 0))),(1000001,H4 x),(2000032,H4 x),(2000031,.s (.one (.ref 730 0))),(2000004,.s (.one (.ref 730 0))),(2000002,.s (.one (.ref 2 0))),(2000025,C8 Str 1 J5 R),(2000026,C3 R.length),(2000027,C3 k),(2000006,H4 x)]
theorem H60 {n k:Nat} {w:Str} {r:List Str} {a c:Int} {e:Nat} (h1:w.take 1=[L8 n k]) (h2:P2 (w.drop 1)=some (a,c,e)) (h3:e=(w.drop 1).length):Q1 n k (w::r)=(Q1 n (k+1) r).map (a::·):=by
 rw [Q1,if_pos h1,h2]
 dsimp only
 rw [if_pos h3]
theorem I63 {n k:Nat} {w:Str} {r:List Str} (h1:w.take 1≠[L8 n k]):Q1 n k (w::r)=none:=by rw [Q1,if_neg h1]
theorem I64 {n k:Nat} {w:Str} {r:List Str} (h2:P2 (w.drop 1)=none):Q1 n k (w::r)=none:=by
 rw [Q1,h2];split<;>rfl
theorem I65 {n k:Nat} {w:Str} {r:List Str} {a c:Int} {e:Nat} (h2:P2 (w.drop 1)=some (a,c,e)) (h3:e≠(w.drop 1).length):Q1 n k (w::r)=none:=by
 rw [Q1,h2]
 dsimp only
 rw [if_neg h3];split<;>rfl
theorem F64 {n:Nat} {l:Str} (h:¬(l.take (n+2)=D02 n∧S8 (l.drop (n+2)) (A83 n)=true)):A34 n l=none:=by unfold A34;rw [if_neg h]
theorem J23 {n:Nat} {l:Str} (h:l.take (n+2)=D02 n∧S8 (l.drop (n+2)) (A83 n)=true):A34 n l=match Q1 n 0 (N5 32 ((l.drop (n+2)).take ((l.drop (n+2)).length - (n+2)))) with
   | some a=>if a.length=n+1 then some a else none
   | none=>none:=by unfold A34;rw [if_pos h];rfl
set_option maxHeartbeats 4000000
theorem G88 (x:Str) (R:List Str) (k:Nat) (w:Str) (d:Bool) (N:Nat) (hs:List CHunk) (hN:1≤N∧N≤32) (hl:hs.length≤16777216) (hx:x.length≤4194304) :
  AL.Met Tryz.prog 223 [.one (.ref 730 0),.one (.p (.v (.string ⟨x.toArray⟩)))] (gfH x R k) (Y0 w d N hs) [731]
   (fun rs ob'=>match A34 N x with
    | none=>rs=[tBo false]∧ob'=[(2,M8)]
    | some a=>rs=[tBo true]∧ob'=Y0 w d N (hs++[⟨a,[]⟩])):=by
 have hrep:FnOk Tryz.prog 167 [F5 [64],E2 ((N:Int)+1)] (fun rs=>rs=[F5 (atS (N+1))]):=by
  have:=F55 64 (N+1) (by omega)
  rwa [show ((N+1:Nat):Int)=(N:Int)+1 by omega] at this
 have hal:=j9 (N+1)
 have hpl:(D02 N).length=N+2:=by simp [D02,j9]
 have hsl:(A83 N).length=N+2:=by simp [A83,j9]
 have hcp:=r7 x (D02 N)
 unfold F01 at hcp
 rw [hpl] at hcp
 obtain ⟨H,hH⟩:∃H,H=A34 N x:=⟨_,rfl⟩
 rw [←hH]
 by_cases h1:x.take (N+2)=D02 N
 rotate_left
 ·rw [if_neg h1] at hcp
  have hno:H=none:=by rw [hH];exact F64 (fun h=>h1 h.1)
  rw [hno]
  refine AL.Met.intro Tryz.func223 (by decide) Z Z Z ?_
  refine k2 ?_
  refine A3 (A2 (A5 Z Z) Z (A6 ?_))
  refine k1 (k2 ?_)
  refine A3 (A2 (A4 Z Z) Z (A2 (B8 Z) Z (A2 (A7 Z) Z (A2 (A7 Z) Z (A2 (B0 Z Z Z) Z (A2 (C1 Z Z (by omega)) Z (B9 (hrep) Z Z Z ?_)))))));rintro _ rfl;refine A2 (A5 Z Z) Z (A6 ?_)
  refine k1 (k2 ?_)
  refine A3 (A2 (A4 Z Z) Z (A2 (A4 Z Z) Z (A2 (E7 Z Z (by (simp;omega))) Z (B9 (hcp) Z Z Z ?_))));rintro _ rfl;refine A2 (A4 Z Z) Z (A2 (B1 Z Z) Z (A2 (B1 Z Z) Z (A2 (A5 Z Z) Z (A2 (A5 Z Z) Z (A6 ?_)))))
  refine k1 (k2 (k2 ?_))
  refine A3 (A2 (A4 Z Z) Z (A2 (E4 Z) Z (A6 ?_)))
  refine k1 ?_
  refine B2 rfl (fun ht=>?_) (fun ht=>?_)
  ·refine k2 ?_
   refine F4 (Sees.forget 731) ?_
   refine A3 (A2 (A5 Z Z) Z (A6 ?_))
   refine k1 (k10 (k11 ?_))
   exact H7 (g9 rfl rfl) (by repeat (first | exact D9 | refine tail_cons rfl ?_ | refine E0 _ ?_)) (ObIn.spec (ob':=[(2,M8)]) ⟨rfl,trivial⟩) ⟨rfl,rfl⟩
  ·cases ht
 rw [if_pos h1] at hcp
 obtain ⟨y,hy⟩:∃y,y=x.drop (N+2):=⟨_,rfl⟩
 have hyl:y.length≤x.length:=by rw [hy,J88];omega
 have hcs:=F05 y (A83 N) (by omega)
 unfold F54 at hcs
 rw [hsl] at hcs
 rw [←hy] at hcp
 by_cases h2:S8 y (A83 N)=true
 rotate_left
 ·rw [if_neg h2] at hcs
  have hno:H=none:=by rw [hH];exact F64 (fun h=>h2 (by rw [hy];exact h.2))
  rw [hno]
  refine AL.Met.intro Tryz.func223 (by decide) Z Z Z ?_
  refine k2 ?_
  refine A3 (A2 (A5 Z Z) Z (A6 ?_))
  refine k1 (k2 ?_)
  refine A3 (A2 (A4 Z Z) Z (A2 (B8 Z) Z (A2 (A7 Z) Z (A2 (A7 Z) Z (A2 (B0 Z Z Z) Z (A2 (C1 Z Z (by omega)) Z (B9 (hrep) Z Z Z ?_)))))));rintro _ rfl;refine A2 (A5 Z Z) Z (A6 ?_)
  refine k1 (k2 ?_)
  refine A3 (A2 (A4 Z Z) Z (A2 (A4 Z Z) Z (A2 (E7 Z Z (by (simp;omega))) Z (B9 (hcp) Z Z Z ?_))));rintro _ rfl;refine A2 (A4 Z Z) Z (A2 (B1 Z Z) Z (A2 (B1 Z Z) Z (A2 (A5 Z Z) Z (A2 (A5 Z Z) Z (A6 ?_)))))
  refine k1 (k2 (k2 ?_))
  refine A3 (A2 (A4 Z Z) Z (A2 (E4 Z) Z (A6 ?_)))
  refine k1 ?_
  refine B2 rfl (fun ht=>?_) (fun ht=>?_)
  ·cases ht
  refine k5 (k1 (k2 (k2 ?_)))
  refine A3 (A2 (A4 Z Z) Z (A2 (A4 Z Z) Z (A2 (E7 Z Z (by (simp;omega))) Z (B9 (hcs) Z Z Z ?_))));rintro _ rfl;refine A2 (A4 Z Z) Z (A2 (B1 Z Z) Z (A2 (B1 Z Z) Z (A2 (A5 Z Z) Z (A2 (A5 Z Z) Z (A6 ?_)))))
  refine k1 (k2 ?_)
  refine A3 (A2 (A4 Z Z) Z (A2 (E4 Z) Z (A6 ?_)))
  refine k1 ?_
  refine B2 rfl (fun ht=>?_) (fun ht=>?_)
  ·refine k2 ?_
   refine F4 (Sees.forget 731) ?_
   refine A3 (A2 (A5 Z Z) Z (A6 ?_))
   refine k1 (k10 (k11 ?_))
   exact H7 (g9 rfl rfl) (by repeat (first | exact D9 | refine tail_cons rfl ?_ | refine E0 _ ?_)) (ObIn.spec (ob':=[(2,M8)]) ⟨rfl,trivial⟩) ⟨rfl,rfl⟩
  ·cases ht
 rw [if_pos h2] at hcs
 rw [J23 ⟨h1,by rw [←hy];exact h2⟩,←hy] at hH
 obtain ⟨z,hz⟩:∃z,z=y.take (y.length - (N+2)):=⟨_,rfl⟩
 have hzl:z.length≤x.length:=by rw [hz,J90];omega
 rw [←hz] at hcs hH
 have hsp:=I44 z 32 (by omega)
 obtain ⟨W,hW⟩:∃W,W=N5 32 z:=⟨_,rfl⟩
 have hWl:W.length≤z.length+1:=by
  have h3:=u0 32 z
  have h4:z.count 32≤z.length:=List.count_le_length
  rw [hW];omega
 have hWm:∀v∈W,v.length≤16777216:=by
  intro v hv
  rw [hW] at hv
  have:=E85 z v hv
  omega
 rw [←hW] at hsp hH
 have hfail:Q1 N 0 W=none→H=none:=fun h=>by rw [hH,h]
 have hdone:∀a,Q1 N 0 W=some a→H=if a.length=N+1 then some a else none:=fun a h=>by rw [hH,h]
 refine AL.Met.intro Tryz.func223 (by decide) Z Z Z ?_
 refine k2 ?_
 refine A3 (A2 (A5 Z Z) Z (A6 ?_))
 refine k1 (k2 ?_)
 refine A3 (A2 (A4 Z Z) Z (A2 (B8 Z) Z (A2 (A7 Z) Z (A2 (A7 Z) Z (A2 (B0 Z Z Z) Z (A2 (C1 Z Z (by omega)) Z (B9 (hrep) Z Z Z ?_)))))));rintro _ rfl;refine A2 (A5 Z Z) Z (A6 ?_)
 refine k1 (k2 ?_)
 refine A3 (A2 (A4 Z Z) Z (A2 (A4 Z Z) Z (A2 (E7 Z Z (by (simp;omega))) Z (B9 (hcp) Z Z Z ?_))));rintro _ rfl;refine A2 (A4 Z Z) Z (A2 (B1 Z Z) Z (A2 (B1 Z Z) Z (A2 (A5 Z Z) Z (A2 (A5 Z Z) Z (A6 ?_)))))
 refine k1 (k2 (k2 ?_))
 refine A3 (A2 (A4 Z Z) Z (A2 (E4 Z) Z (A6 ?_)))
 refine k1 ?_
 refine B2 rfl (fun ht=>?_) (fun ht=>?_)
 ·cases ht
 refine k5 (k1 (k2 (k2 ?_)))
 refine A3 (A2 (A4 Z Z) Z (A2 (A4 Z Z) Z (A2 (E7 Z Z (by (simp;omega))) Z (B9 (hcs) Z Z Z ?_))));rintro _ rfl;refine A2 (A4 Z Z) Z (A2 (B1 Z Z) Z (A2 (B1 Z Z) Z (A2 (A5 Z Z) Z (A2 (A5 Z Z) Z (A6 ?_)))))
 refine k1 (k2 ?_)
 refine A3 (A2 (A4 Z Z) Z (A2 (E4 Z) Z (A6 ?_)))
 refine k1 ?_
 refine B2 rfl (fun ht=>?_) (fun ht=>?_)
 ·cases ht
 refine R6 [(0,.s (.one (.ref 730 0))),(6,H4 z),(1000012,H4 x),(1000011,.s (.one (.ref 730 0))),(1000000,.s (.one (.ref 730 0))),(1000001,H4 x),(2000032,H4 x),(2000031,.s (.one (.ref 730 0))),(2000004,.s (.one (.ref 730 0))),(2000002,.s (.one (.ref 2 0))),(2000025,C8 Str 1 J5 R),(2000026,C3 R.length),(2000027,C3 k),(2000006,H4 x)] (Y0 w d N hs) (J48 ⟨le1 rfl,le1 rfl,le1 rfl,le1 rfl,le1 rfl,le1 rfl,le1 rfl,le1 rfl,le1 rfl,le1 rfl,le1 rfl,le1 rfl,le1 rfl,le1 rfl,trivial⟩ ⟨rfl,rfl,rfl,trivial⟩) ?_
 refine k5 (k1 (k2 ?_))
 refine A3 (A2 (F6 Z) Z (C2 (G1 740 Z) Z (E3 (B7 TySz.out Z Z Z Z Z Z) (A6 ?_))))
 refine k1 (k2 (k2 ?_))
 refine F4 (J54 741 Int 1 H1 3 (kb:=740) (o:=0) Z Z Z) ?_
 refine A3 (A2 (A4 Z Z) Z (B9 (hsp) Z Z Z ?_));rintro _ rfl;refine A2 (F2 Z (.pure _ _ _ _)) Z (A2 (A4 Z Z) Z (A6 ?_))
 refine k1 (k3 ?_)
 refine D1 (X:=Nat × List Int) (fun q=>([(0,.s (.one (.ref 730 0))),(8,.s (.one (.ref 740 0))),(45,C8 Str 1 J5 W),(46,C3 W.length),(47,C3 q.1),(1000012,H4 x),(1000011,.s (.one (.ref 730 0))),(1000000,.s (.one (.ref 730 0))),(1000001,H4 x),(2000032,H4 x),(2000031,.s (.one (.ref 730 0))),(2000004,.s (.one (.ref 730 0))),(2000002,.s (.one (.ref 2 0))),(2000025,C8 Str 1 J5 R),(2000026,C3 R.length),(2000027,C3 k),(2000006,H4 x)],[(730,F63 w d N),(731,.grow 82 CHunk 2 A60 hs),(2,M8),(740,.box [.buf 741 Int 1 H1 q.2,.p (.v (.slice none 0 0))]),(741,.spare q.2.length 1 3)])) (fun q=>q.1≤W.length∧q.2.length=q.1∧Q1 N 0 W=(Q1 N q.1 (W.drop q.1)).map (q.2++·)) (fun q=>W.length - q.1) (0,[]) ⟨Nat.zero_le _,rfl,by simp⟩ (J48 ⟨le1 rfl,le1 rfl,le1 rfl,le1 rfl,le1 rfl,le1 rfl,le1 rfl,le1 rfl,le1 rfl,le1 rfl,le1 rfl,le1 rfl,le1 rfl,le1 rfl,le1 rfl,le1 rfl,le1 rfl,trivial⟩ ⟨rfl,rfl,rfl,rfl,rfl,trivial⟩) ?_
 rintro ⟨j,a⟩ ⟨hj,haj,hp⟩
 dsimp only at hj haj hp ⊢
 refine k2 ?_
 refine A3 (A2 (D6 Z Z) Z (A6 ?_))
 refine k1 (k2 ?_)
 refine B2 rfl (fun ht=>?_) (fun ht=>?_)
 ·have hlt:j < W.length:=by have:=A0 ht;omega
  have hv:W[j]?=some W[j]:=by simp [hlt]
  have hvm:=hWm _ (J96 hlt)
  rw [J84 hlt] at hp
  obtain ⟨v,hvv⟩:∃v,v=W[j]:=⟨_,rfl⟩
  rw [←hvv] at hv hvm hp
  have hcv:=r7 v [L8 N j]
  unfold F01 at hcv
  refine k5 (k1 (k2 (k3 (k2 ?_))))
  refine A3 (A2 (A4 Z Z) Z (A2 (B3 Z (.pure _ _ _ _) Z (by omega) hv) Z (A2 (B6 Z Z) Z (A2 (A5 Z Z) Z (A2 (A5 Z Z) Z (A6 ?_))))))
  refine k1 (k2 ?_)
  refine A3 (A2 (A5 Z Z) Z (A6 ?_))
  refine H8 ?_
  refine U6 [(0,.s (.one (.ref 730 0))),(8,.s (.one (.ref 740 0))),(45,C8 Str 1 J5 W),(46,C3 W.length),(47,C3 j),(10,H4 v),(11,H4 [L8 N j]),(1000012,H4 x),(1000011,.s (.one (.ref 730 0))),(1000000,.s (.one (.ref 730 0))),(1000001,H4 x),(2000032,H4 x),(2000031,.s (.one (.ref 730 0))),(2000004,.s (.one (.ref 730 0))),(2000002,.s (.one (.ref 2 0))),(2000025,C8 Str 1 J5 R),(2000026,C3 R.length),(2000027,C3 k),(2000006,H4 x)] ([(730,F63 w d N),(731,.grow 82 CHunk 2 A60 hs),(2,M8),(740,.box [.buf 741 Int 1 H1 a,.p (.v (.slice none 0 0))]),(741,.spare a.length 1 3)]) ?_ ?_
  ·refine k2 ?_
   refine A3 (A2 (A4 Z Z) Z (A2 (A4 Z Z) Z (A2 (B8 Z) Z (A2 (A7 Z) Z (A2 (A7 Z) Z (A2 (B0 Z Z Z) Z (A2 (F1 Z Z) Z (A6 ?_))))))))
   refine k1 ?_
   refine B2 rfl (fun ht=>?_) (fun ht=>?_)
   ·have hjn:=A0 ht
    skip
    refine A3 (A2 (A5 Z Z) Z (A6 ?_))
    refine k1 ?_
    rw [show L8 N j=43 by unfold L8;rw [if_pos (by omega)]]
    exact J48 ⟨le1 rfl,le1 rfl,le1 rfl,le1 rfl,le1 rfl,le1 rfl,le1 rfl,le1 rfl,le1 rfl,le1 rfl,le1 rfl,le1 rfl,le1 rfl,le1 rfl,le1 rfl,le1 rfl,le1 rfl,le1 rfl,le1 rfl,trivial⟩ ⟨rfl,rfl,rfl,rfl,rfl,trivial⟩
   ·have hjn:=A1 ht
    refine k5 (k1 ?_)
    rw [show L8 N j=45 by unfold L8;rw [if_neg (by omega)]]
    exact J48 ⟨le1 rfl,le1 rfl,le1 rfl,le1 rfl,le1 rfl,le1 rfl,le1 rfl,le1 rfl,le1 rfl,le1 rfl,le1 rfl,le1 rfl,le1 rfl,le1 rfl,le1 rfl,le1 rfl,le1 rfl,le1 rfl,le1 rfl,trivial⟩ ⟨rfl,rfl,rfl,rfl,rfl,trivial⟩
  by_cases h3:v.take 1=[L8 N j]
  rotate_left
  ·have hcv:FnOk Tryz.prog 213 [F5 v,F5 [L8 N j]] (fun rs=>rs=[F5 v,D3 false]):=by
    have h4:¬v.take ([L8 N j]:Str).length=[L8 N j]:=h3
    rw [if_neg h4] at hcv;exact hcv
   have hno:H=none:=hfail (by rw [hp,I63 h3];rfl)
   have hrg:=F46 v 0 (Nat.zero_le _) (by omega)
   rw [hno]
   cases g:P2 v with
   | none =>
    rw [B83 (by rw [List.drop_zero];exact g)] at hrg
    refine k2 ?_
    refine A3 (A2 (A4 Z Z) Z (A2 (A4 Z Z) Z (B9 (hcv) Z Z Z ?_)));rintro _ rfl;refine A2 (A4 Z Z) Z (A2 (B1 Z Z) Z (A2 (B1 Z Z) Z (A2 (A5 Z Z) Z (A2 (A5 Z Z) Z (A6 ?_)))))
    refine k1 (k2 ?_)
    refine A3 (A2 (A4 Z Z) Z (B9 (hrg) Z Z Z ?_));rintro _ rfl;refine A2 (A4 Z Z) Z (A2 (B1 Z Z) Z (A2 (B1 Z Z) Z (A2 (B1 Z Z) Z (A2 (B1 Z Z) Z (A2 (A5 Z Z) Z (A2 (A5 Z Z) Z (A2 (A5 Z Z) Z (A2 (A5 Z Z) Z (A6 ?_)))))))))
    refine k1 (k2 (k2 ?_))
    refine A3 (A2 (A4 Z Z) Z (A2 (E4 Z) Z (A2 (A4 Z Z) Z (A9 Z Z Z Z (fun hg=>by rw [hg];exact A4 Z Z) ?_))));refine A9 Z Z Z Z (fun hg=>by rw [hg];exact E4 Z) ?_;refine A2 (B4 Z (fun h=>by first | rfl | (rw [h];rfl)) (fun h=>by first | rfl | (rw [h];rfl))) Z ?_;refine A2 (A4 Z Z) Z (A9 Z Z Z Z (fun hg=>by rw [hg];exact A4 Z Z) ?_);refine A9 Z Z Z Z (fun hg=>by rw [hg];exact A4 Z Z) ?_;refine A9 Z Z Z Z (fun hg=>by rw [hg];exact D5 Z) ?_;refine A9 Z Z Z Z (fun hg=>by rw [hg];exact L4 Z Z) ?_;refine A2 (B4 Z (fun h=>by first | rfl | (rw [h];rfl)) (fun h=>by first | rfl | (rw [h];rfl))) Z ?_;refine A6 ?_
    refine k1 ?_
    refine B2 rfl (fun ht=>?_) (fun ht=>?_)
    ·refine k2 ?_
     refine F4 (Sees.forget 731) ?_
     refine A3 (A2 (A5 Z Z) Z (A6 ?_))
     refine k1 (k10 (k11 (k12 (k11 (k11 (k12 (k11 ?_)))))))
     exact H7 (g9 rfl rfl) (by repeat (first | exact D9 | refine tail_cons rfl ?_ | refine E0 _ ?_)) (ObIn.spec (ob':=[(2,M8)]) ⟨rfl,trivial⟩) ⟨rfl,rfl⟩
    ·exfalso;revert ht;simp
   | some q =>
    obtain ⟨s,c,e⟩:=q
    rw [B84 (k:=e) (by rw [List.drop_zero];exact g)] at hrg
    refine k2 ?_
    refine A3 (A2 (A4 Z Z) Z (A2 (A4 Z Z) Z (B9 (hcv) Z Z Z ?_)));rintro _ rfl;refine A2 (A4 Z Z) Z (A2 (B1 Z Z) Z (A2 (B1 Z Z) Z (A2 (A5 Z Z) Z (A2 (A5 Z Z) Z (A6 ?_)))))
    refine k1 (k2 ?_)
    refine A3 (A2 (A4 Z Z) Z (B9 (hrg) Z Z Z ?_));rintro _ rfl;refine A2 (A4 Z Z) Z (A2 (B1 Z Z) Z (A2 (B1 Z Z) Z (A2 (B1 Z Z) Z (A2 (B1 Z Z) Z (A2 (A5 Z Z) Z (A2 (A5 Z Z) Z (A2 (A5 Z Z) Z (A2 (A5 Z Z) Z (A6 ?_)))))))))
    refine k1 (k2 (k2 ?_))
    refine A3 (A2 (A4 Z Z) Z (A2 (E4 Z) Z (A2 (A4 Z Z) Z (A9 Z Z Z Z (fun hg=>by rw [hg];exact A4 Z Z) ?_))));refine A9 Z Z Z Z (fun hg=>by rw [hg];exact E4 Z) ?_;refine A2 (B4 Z (fun h=>by first | rfl | (rw [h];rfl)) (fun h=>by first | rfl | (rw [h];rfl))) Z ?_;refine A2 (A4 Z Z) Z (A9 Z Z Z Z (fun hg=>by rw [hg];exact A4 Z Z) ?_);refine A9 Z Z Z Z (fun hg=>by rw [hg];exact A4 Z Z) ?_;refine A9 Z Z Z Z (fun hg=>by rw [hg];exact D5 Z) ?_;refine A9 Z Z Z Z (fun hg=>by rw [hg];exact L4 Z Z) ?_;refine A2 (B4 Z (fun h=>by first | rfl | (rw [h];rfl)) (fun h=>by first | rfl | (rw [h];rfl))) Z ?_;refine A6 ?_
    refine k1 ?_
    refine B2 rfl (fun ht=>?_) (fun ht=>?_)
    ·refine k2 ?_
     refine F4 (Sees.forget 731) ?_
     refine A3 (A2 (A5 Z Z) Z (A6 ?_))
     refine k1 (k10 (k11 (k12 (k11 (k11 (k12 (k11 ?_)))))))
     exact H7 (g9 rfl rfl) (by repeat (first | exact D9 | refine tail_cons rfl ?_ | refine E0 _ ?_)) (ObIn.spec (ob':=[(2,M8)]) ⟨rfl,trivial⟩) ⟨rfl,rfl⟩
    ·exfalso;revert ht;simp
  have hcv:FnOk Tryz.prog 213 [F5 v,F5 [L8 N j]] (fun rs=>rs=[F5 (v.drop 1),D3 true]):=by
   have h4:v.take ([L8 N j]:Str).length=[L8 N j]:=h3
   rw [if_pos h4] at hcv;exact hcv
  obtain ⟨u,huu⟩:∃u,u=v.drop 1:=⟨_,rfl⟩
  have hul:u.length≤16777216:=by rw [huu,J88];omega
  rw [←huu] at hcv
  have hrg:=F46 u 0 (Nat.zero_le _) (by omega)
  cases g:P2 u with
  | none =>
   rw [B83 (by rw [List.drop_zero];exact g)] at hrg
   have hno:H=none:=hfail (by rw [hp,I64 (by rw [←huu];exact g)];rfl)
   rw [hno]
   refine k2 ?_
   refine A3 (A2 (A4 Z Z) Z (A2 (A4 Z Z) Z (B9 (hcv) Z Z Z ?_)));rintro _ rfl;refine A2 (A4 Z Z) Z (A2 (B1 Z Z) Z (A2 (B1 Z Z) Z (A2 (A5 Z Z) Z (A2 (A5 Z Z) Z (A6 ?_)))))
   refine k1 (k2 ?_)
   refine A3 (A2 (A4 Z Z) Z (B9 (hrg) Z Z Z ?_));rintro _ rfl;refine A2 (A4 Z Z) Z (A2 (B1 Z Z) Z (A2 (B1 Z Z) Z (A2 (B1 Z Z) Z (A2 (B1 Z Z) Z (A2 (A5 Z Z) Z (A2 (A5 Z Z) Z (A2 (A5 Z Z) Z (A2 (A5 Z Z) Z (A6 ?_)))))))))
   refine k1 (k2 (k2 ?_))
   refine A3 (A2 (A4 Z Z) Z (A2 (E4 Z) Z (A2 (A4 Z Z) Z (A9 Z Z Z Z (fun hg=>by rw [hg];exact A4 Z Z) ?_))));refine A9 Z Z Z Z (fun hg=>by rw [hg];exact E4 Z) ?_;refine A2 (B4 Z (fun h=>by first | rfl | (rw [h];rfl)) (fun h=>by first | rfl | (rw [h];rfl))) Z ?_;refine A2 (A4 Z Z) Z (A9 Z Z Z Z (fun hg=>by rw [hg];exact A4 Z Z) ?_);refine A9 Z Z Z Z (fun hg=>by rw [hg];exact A4 Z Z) ?_;refine A9 Z Z Z Z (fun hg=>by rw [hg];exact D5 Z) ?_;refine A9 Z Z Z Z (fun hg=>by rw [hg];exact L4 Z Z) ?_;refine A2 (B4 Z (fun h=>by first | rfl | (rw [h];rfl)) (fun h=>by first | rfl | (rw [h];rfl))) Z ?_;refine A6 ?_
   refine k1 ?_
   refine B2 rfl (fun ht=>?_) (fun ht=>?_)
   ·refine k2 ?_
    refine F4 (Sees.forget 731) ?_
    refine A3 (A2 (A5 Z Z) Z (A6 ?_))
    refine k1 (k10 (k11 (k12 (k11 (k11 (k12 (k11 ?_)))))))
    exact H7 (g9 rfl rfl) (by repeat (first | exact D9 | refine tail_cons rfl ?_ | refine E0 _ ?_)) (ObIn.spec (ob':=[(2,M8)]) ⟨rfl,trivial⟩) ⟨rfl,rfl⟩
   ·exfalso;revert ht;simp
  | some q =>
   obtain ⟨s,c,e⟩:=q
   rw [B84 (k:=e) (by rw [List.drop_zero];exact g),Nat.zero_add] at hrg
   by_cases he:e=u.length
   rotate_left
   ·have hno:H=none:=hfail (by rw [hp,I65 (by rw [←huu];exact g) (by rw [←huu];exact he)];rfl)
    rw [hno]
    refine k2 ?_
    refine A3 (A2 (A4 Z Z) Z (A2 (A4 Z Z) Z (B9 (hcv) Z Z Z ?_)));rintro _ rfl;refine A2 (A4 Z Z) Z (A2 (B1 Z Z) Z (A2 (B1 Z Z) Z (A2 (A5 Z Z) Z (A2 (A5 Z Z) Z (A6 ?_)))))
    refine k1 (k2 ?_)
    refine A3 (A2 (A4 Z Z) Z (B9 (hrg) Z Z Z ?_));rintro _ rfl;refine A2 (A4 Z Z) Z (A2 (B1 Z Z) Z (A2 (B1 Z Z) Z (A2 (B1 Z Z) Z (A2 (B1 Z Z) Z (A2 (A5 Z Z) Z (A2 (A5 Z Z) Z (A2 (A5 Z Z) Z (A2 (A5 Z Z) Z (A6 ?_)))))))))
    refine k1 (k2 (k2 ?_))
    refine A3 (A2 (A4 Z Z) Z (A2 (E4 Z) Z (A2 (A4 Z Z) Z (A9 Z Z Z Z (fun hg=>by rw [hg];exact A4 Z Z) ?_))));refine A9 Z Z Z Z (fun hg=>by rw [hg];exact E4 Z) ?_;refine A2 (B4 Z (fun h=>by first | rfl | (rw [h];rfl)) (fun h=>by first | rfl | (rw [h];rfl))) Z ?_;refine A2 (A4 Z Z) Z (A9 Z Z Z Z (fun hg=>by rw [hg];exact A4 Z Z) ?_);refine A9 Z Z Z Z (fun hg=>by rw [hg];exact A4 Z Z) ?_;refine A9 Z Z Z Z (fun hg=>by rw [hg];exact D5 Z) ?_;refine A9 Z Z Z Z (fun hg=>by rw [hg];exact L4 Z Z) ?_;refine A2 (B4 Z (fun h=>by first | rfl | (rw [h];rfl)) (fun h=>by first | rfl | (rw [h];rfl))) Z ?_;refine A6 ?_
    refine k1 ?_
    refine B2 rfl (fun ht=>?_) (fun ht=>?_)
    ·refine k2 ?_
     refine F4 (Sees.forget 731) ?_
     refine A3 (A2 (A5 Z Z) Z (A6 ?_))
     refine k1 (k10 (k11 (k12 (k11 (k11 (k12 (k11 ?_)))))))
     exact H7 (g9 rfl rfl) (by repeat (first | exact D9 | refine tail_cons rfl ?_ | refine E0 _ ?_)) (ObIn.spec (ob':=[(2,M8)]) ⟨rfl,trivial⟩) ⟨rfl,rfl⟩
    ·exfalso;revert ht;simp;omega
   rw [H60 h3 (by rw [←huu];exact g) (by rw [←huu];exact he),Option.map_map] at hp
   refine k2 ?_
   refine A3 (A2 (A4 Z Z) Z (A2 (A4 Z Z) Z (B9 (hcv) Z Z Z ?_)));rintro _ rfl;refine A2 (A4 Z Z) Z (A2 (B1 Z Z) Z (A2 (B1 Z Z) Z (A2 (A5 Z Z) Z (A2 (A5 Z Z) Z (A6 ?_)))))
   refine k1 (k2 ?_)
   refine A3 (A2 (A4 Z Z) Z (B9 (hrg) Z Z Z ?_));rintro _ rfl;refine A2 (A4 Z Z) Z (A2 (B1 Z Z) Z (A2 (B1 Z Z) Z (A2 (B1 Z Z) Z (A2 (B1 Z Z) Z (A2 (A5 Z Z) Z (A2 (A5 Z Z) Z (A2 (A5 Z Z) Z (A2 (A5 Z Z) Z (A6 ?_)))))))))
   refine k1 (k2 (k2 ?_))
   refine A3 (A2 (A4 Z Z) Z (A2 (E4 Z) Z (A2 (A4 Z Z) Z (A9 Z Z Z Z (fun hg=>by rw [hg];exact A4 Z Z) ?_))));refine A9 Z Z Z Z (fun hg=>by rw [hg];exact E4 Z) ?_;refine A2 (B4 Z (fun h=>by first | rfl | (rw [h];rfl)) (fun h=>by first | rfl | (rw [h];rfl))) Z ?_;refine A2 (A4 Z Z) Z (A9 Z Z Z Z (fun hg=>by rw [hg];exact A4 Z Z) ?_);refine A9 Z Z Z Z (fun hg=>by rw [hg];exact A4 Z Z) ?_;refine A9 Z Z Z Z (fun hg=>by rw [hg];exact D5 Z) ?_;refine A9 Z Z Z Z (fun hg=>by rw [hg];exact L4 Z Z) ?_;refine A2 (B4 Z (fun h=>by first | rfl | (rw [h];rfl)) (fun h=>by first | rfl | (rw [h];rfl))) Z ?_;refine A6 ?_
   refine k1 ?_
   refine B2 rfl (fun ht=>?_) (fun ht=>?_)
   ·exfalso;revert ht;simp;omega
   refine R6 [(0,.s (.one (.ref 730 0))),(8,.s (.one (.ref 740 0))),(45,C8 Str 1 J5 W),(46,C3 W.length),(47,C3 j),(14,C3 s),(1000012,H4 x),(1000011,.s (.one (.ref 730 0))),(1000000,.s (.one (.ref 730 0))),(1000001,H4 x),(2000032,H4 x),(2000031,.s (.one (.ref 730 0))),(2000004,.s (.one (.ref 730 0))),(2000002,.s (.one (.ref 2 0))),(2000025,C8 Str 1 J5 R),(2000026,C3 R.length),(2000027,C3 k),(2000006,H4 x)] ([(730,F63 w d N),(731,.grow 82 CHunk 2 A60 hs),(2,M8),(740,.box [.buf 741 Int 1 H1 a,.p (.v (.slice none 0 0))]),(741,.spare a.length 1 3)]) (J48 ⟨le1 rfl,le1 rfl,le1 rfl,le1 rfl,le1 rfl,le1 rfl,le1 rfl,le1 rfl,le1 rfl,le1 rfl,le1 rfl,le1 rfl,le1 rfl,le1 rfl,le1 rfl,le1 rfl,le1 rfl,le1 rfl,trivial⟩ ⟨rfl,rfl,rfl,rfl,rfl,trivial⟩) ?_
   refine k5 (k1 ?_)
   refine A3 (A2 (A7 Z) Z (A2 (B0 Z Z Z) Z (A2 (A4 Z Z) Z (A2 (C6 (c:=H1) (ys:=[s]) (D8 Z Z Z Z F0) Z Z Z) Z (C2 (F9 Z Z Z (.pure _ _ _ _) (by (simp only [J78,J81];omega)) Z) Z (A2 (A7 Z) Z (E3 (B7 TySz.out Z Z Z Z Z Z) (A6 ?_))))))))
   refine k4 (k1 ?_)
   refine A3 (A2 (C1 Z Z (by omega)) Z (A2 (A4 Z Z) Z (A6 ?_)))
   refine k1 ?_
   refine ⟨(j+1,a++[s]),⟨by dsimp only;omega,by dsimp only;rw [J77];simp;omega,?_⟩,by dsimp only;omega,J48 ⟨le1 rfl,le1 rfl,le1 rfl,le1 rfl,le1 rfl,le1 rfl,le1 rfl,le1 rfl,le1 rfl,le1 rfl,le1 rfl,le1 rfl,le1 rfl,le1 rfl,le1 rfl,le1 rfl,le1 rfl,trivial⟩ ⟨rfl,rfl,rfl,rfl,rfl,trivial⟩⟩
   dsimp only
   rw [hp]
   congr 1
   funext q
   simp
 ·have hjl:j=W.length:=by have:=A1 ht;omega
  rw [hjl,J87 (Nat.le_refl _)] at hp
  have hp:Q1 N 0 W=some a:=by rw [hp,Q1];simp
  have hHa:=hdone a hp
  refine R6 [(0,.s (.one (.ref 730 0))),(8,.s (.one (.ref 740 0))),(1000012,H4 x),(1000011,.s (.one (.ref 730 0))),(1000000,.s (.one (.ref 730 0))),(1000001,H4 x),(2000032,H4 x),(2000031,.s (.one (.ref 730 0))),(2000004,.s (.one (.ref 730 0))),(2000002,.s (.one (.ref 2 0))),(2000025,C8 Str 1 J5 R),(2000026,C3 R.length),(2000027,C3 k),(2000006,H4 x)] ([(730,F63 w d N),(731,.grow 82 CHunk 2 A60 hs),(2,M8),(740,.box [.buf 741 Int 1 H1 a,.p (.v (.slice none 0 0))]),(741,.spare a.length 1 3)]) (J48 ⟨le1 rfl,le1 rfl,le1 rfl,le1 rfl,le1 rfl,le1 rfl,le1 rfl,le1 rfl,le1 rfl,le1 rfl,le1 rfl,le1 rfl,le1 rfl,le1 rfl,trivial⟩ ⟨rfl,rfl,rfl,rfl,rfl,trivial⟩) ?_
  refine k6 (k2 ?_)
  refine A11 [12,8] [[],[8],[12,8]] [(8,([731],[96])),(12,([],[]))] [(0,[]),(1,[]),(2,[]),(3,[]),(4,[]),(5,[]),(6,[]),(7,[]),(8,[]),(9,[8]),(10,[8]),(11,[8]),(12,[8])] [(0,[8])] (by kernel_rfl) (by kernel_rfl) (M1 Z Z (by kernel_rfl) Z Z (A4 Z Z) (M1 Z Z (by kernel_rfl) Z Z (A4 Z Z) (M1 Z Z (by kernel_rfl) Z Z (B8 Z) (M1 Z Z (by kernel_rfl) Z Z (A7 Z) (M1 Z Z (by kernel_rfl) Z Z (A7 Z) (M1 Z Z (by kernel_rfl) Z Z (B0 Z Z Z) (M1 Z Z (by kernel_rfl) Z Z (C7 Z Z Z) (M1 Z Z (by kernel_rfl) Z Z (C6 (c:=A60) (ys:=[⟨a,[]⟩]) (D8 Z Z Z Z F0) Z Z Z) (C64 Z Z (by kernel_rfl) Z Z (H41 (fun frc hU=>W9 (B34 hU Z) Z (B34 hU Z) (.pure _ _ _ _) (by (simp;omega)) Z)) Z (M1 Z Z (by kernel_rfl) Z Z (B8 Z) (M1 Z Z (by kernel_rfl) Z Z (A7 Z) (M1 Z Z (by kernel_rfl) Z Z (A7 Z) (C64 Z Z (by kernel_rfl) Z Z (I06 (fun frc hU=>B7 TySz.out (B34 hU Z) Z (B34 hU Z) Z Z Z)) Z ?_)))))))))))));refine I03 (by kernel_rfl) rfl ?_ ?_
  ·refine u3 Z Z (by kernel_rfl) Z Z (A4 Z Z) ?_;exact I04
  refine k1 (k2 ?_)
  refine C4 (by kernel_rfl) (by kernel_rfl) (A8 (A7 Z) Z Z (A8 (B0 Z Z Z) Z Z (A8 (F2 Z (.buf _ _ _ _ _)) Z Z (A8 (A4 Z Z) Z Z (A8 (B8 Z) Z Z (A8 (A7 Z) Z Z (A8 (A7 Z) Z Z (A8 (B0 Z Z Z) Z Z (A8 (C1 Z Z (by omega)) Z Z (A8 (F1 Z Z) Z Z (A8 (A5 Z Z) Z Z (H9 ?_))))))))))))
  refine k1 (k10 ?_)
  by_cases hal2:a.length=N+1
  ·rw [if_pos hal2] at hHa
   rw [hHa]
   refine H7 (ob':=Y0 w d N (hs++[⟨a,[]⟩])) (g9 rfl rfl) (by repeat (first | exact D9 | refine tail_cons rfl ?_ | refine E0 _ ?_)) (ObIn.spec ⟨rfl,rfl,rfl,trivial⟩) ⟨?_,rfl⟩
   rw [decide_eq_true (by omega)]
  ·rw [if_neg hal2] at hHa
   rw [hHa]
   refine H7 (ob':=[(2,M8)]) (g9 rfl rfl) (by repeat (first | exact D9 | refine tail_cons rfl ?_ | refine E0 _ ?_)) (ObIn.spec ⟨rfl,trivial⟩) ⟨?_,rfl⟩
   rw [decide_eq_false (by omega)]
set_option maxHeartbeats 4000000
theorem J24 (x:Str) (R:List Str) (k:Nat) (w:Str) (d:Bool) (N:Nat) (hs:List CHunk) (hN:1≤N∧N≤32) (hl:hs.length≤16777216) (hx:x.length≤4194304) (h64:x.take 1=[64]) :
  AL.Met Tryz.prog 159 [.one (.ref 730 0),.one (.p (.v (.string ⟨x.toArray⟩)))] (gfL x R k) (Y0 w d N hs) [731]
   (fun rs ob'=>match A34 N x with
    | none=>rs=[tBo false]∧ob'=[(2,M8)]
    | some a=>rs=[tBo true]∧ob'=Y0 w d N (hs++[⟨a,[]⟩])):=by
 have hh:=G88 x R k w d N hs hN hl hx
 have hp:=A12 x [64]
 rw [show ([64]:Str).length=1 from rfl,decide_eq_true h64] at hp
 cases hH:A34 N x with
 | none =>
  rw [hH] at hh
  refine AL.Met.intro Tryz.func159 (by decide) Z Z Z ?_
  refine k2 ?_
  refine A3 (A2 (A5 Z Z) Z (A6 ?_))
  refine k1 (k2 (k2 ?_))
  refine A3 (A2 (A4 Z Z) Z (B9 (hp) Z Z Z ?_));rintro _ rfl;refine A6 ?_
  refine k1 ?_
  refine B2 rfl (fun ht=>?_) (fun ht=>?_)
  rotate_left
  ·cases ht
  refine R6 [(0,.s (.one (.ref 730 0))),(1,H4 x),(1000032,H4 x),(1000031,.s (.one (.ref 730 0))),(1000004,.s (.one (.ref 730 0))),(1000002,.s (.one (.ref 2 0))),(1000025,C8 Str 1 J5 R),(1000026,C3 R.length),(1000027,C3 k),(1000006,H4 x)] (Y0 w d N hs) (J48 ⟨le1 rfl,le1 rfl,le1 rfl,le1 rfl,le1 rfl,le1 rfl,le1 rfl,le1 rfl,le1 rfl,le1 rfl,trivial⟩ ⟨rfl,rfl,rfl,trivial⟩) ?_
  refine k2 ?_
  refine A3 (A2 (A4 Z Z) Z (A2 (A4 Z Z) Z (X3 (hh) Z Z Z ?_)));rintro _ _ ⟨rfl,rfl⟩;refine A2 (A5 Z Z) Z (A6 ?_)
  refine k1 (k10 (k11 ?_))
  exact H7 (g9 rfl rfl) (by repeat (first | exact D9 | refine tail_cons rfl ?_ | refine E0 _ ?_)) (ObIn.spec (ob':=[(2,M8)]) ⟨rfl,trivial⟩) ⟨rfl,rfl⟩
 | some a =>
  rw [hH] at hh
  refine AL.Met.intro Tryz.func159 (by decide) Z Z Z ?_
  refine k2 ?_
  refine A3 (A2 (A5 Z Z) Z (A6 ?_))
  refine k1 (k2 (k2 ?_))
  refine A3 (A2 (A4 Z Z) Z (B9 (hp) Z Z Z ?_));rintro _ rfl;refine A6 ?_
  refine k1 ?_
  refine B2 rfl (fun ht=>?_) (fun ht=>?_)
  rotate_left
  ·cases ht
  refine R6 [(0,.s (.one (.ref 730 0))),(1,H4 x),(1000032,H4 x),(1000031,.s (.one (.ref 730 0))),(1000004,.s (.one (.ref 730 0))),(1000002,.s (.one (.ref 2 0))),(1000025,C8 Str 1 J5 R),(1000026,C3 R.length),(1000027,C3 k),(1000006,H4 x)] (Y0 w d N hs) (J48 ⟨le1 rfl,le1 rfl,le1 rfl,le1 rfl,le1 rfl,le1 rfl,le1 rfl,le1 rfl,le1 rfl,le1 rfl,trivial⟩ ⟨rfl,rfl,rfl,trivial⟩) ?_
  refine k2 ?_
  refine A3 (A2 (A4 Z Z) Z (A2 (A4 Z Z) Z (X3 (hh) Z Z Z ?_)));rintro _ _ ⟨rfl,rfl⟩;refine A2 (A5 Z Z) Z (A6 ?_)
  refine k1 (k10 (k11 ?_))
  exact H7 (g9 rfl rfl) (by repeat (first | exact D9 | refine tail_cons rfl ?_ | refine E0 _ ?_)) (ObIn.spec (ob':=Y0 w d N (hs++[⟨a,[]⟩])) ⟨rfl,rfl,rfl,trivial⟩) ⟨rfl,rfl⟩
theorem I66 (x:Str) (R:List Str) (k:Nat) (w:Str) (d:Bool) (N:Nat) (h64:x.take 1≠[64]) :
  AL.Met Tryz.prog 159 [.one (.ref 730 0),.one (.p (.v (.string ⟨x.toArray⟩)))] (gfL x R k) (Y0 w d N []) [732] (fun rs ob'=>rs=[tBo false]∧ob'=[(2,M8)]):=by
 have hp:=A12 x [64]
 rw [show ([64]:Str).length=1 from rfl,decide_eq_false h64] at hp
 refine AL.Met.intro Tryz.func159 (by decide) Z Z Z ?_
 refine k2 ?_
 refine A3 (A2 (A5 Z Z) Z (A6 ?_))
 refine k1 (k2 (k2 ?_))
 refine A3 (A2 (A4 Z Z) Z (B9 (hp) Z Z Z ?_));rintro _ rfl;refine A6 ?_
 refine k1 ?_
 refine B2 rfl (fun ht=>?_) (fun ht=>?_)
 ·cases ht
 refine k5 (k1 (k2 (k2 ?_)))
 refine A3 (A2 (A4 Z Z) Z (A2 (B8 Z) Z (A2 (A7 Z) Z (A2 (A7 Z) Z (A2 (B0 Z Z Z) Z (A2 (A41 Z Z) Z (A2 (F1 Z Z) Z (A6 ?_))))))))
 refine k1 ?_
 refine B2 rfl (fun ht=>?_) (fun ht=>?_)
 ·refine k2 ?_
  refine F4 (Sees.forget 732) ?_
  refine A3 (A2 (A5 Z Z) Z (A6 ?_))
  refine k1 (k10 (k11 ?_))
  exact H7 (g9 rfl rfl) (by repeat (first | exact D9 | refine tail_cons rfl ?_ | refine E0 _ ?_)) (ObIn.spec (ob':=[(2,M8)]) ⟨rfl,trivial⟩) ⟨rfl,rfl⟩
 ·cases ht
theorem I67 (R:List Str) (k:Nat) (w:Str) (d:Bool) (N:Nat) (hs:List CHunk) (a:List Int) (rs:List Row) (h0:0 < hs.length) (hl:hs.length≤16777216) (hrl:rs.length≤16777216) (htx:∀r∈rs,r.Text.length≤1073741824) :
  AL.Met Tryz.prog 159 [.one (.ref 730 0),.one (.p (.v (.string ⟨noNl.toArray⟩)))] (gfL noNl R k) (Y1 w d N hs a rs) []
   (fun res ob'=>match rs.getLast? with
    | none=>res=[tBo false]∧ob'=[(2,M8)]
    | some r=>res=[tBo true]∧ob'=Y1 w d N hs a (rs.dropLast++[⟨r.Lost,r.Marks,A00 r.Text⟩])):=by
 have hp:=A12 noNl [64]
 rw [show decide (noNl.take ([64]:Str).length=[64])=false from rfl] at hp
 have hne0:decide ((hs.length:Int)=0)=false:=decide_eq_false (by omega)
 cases hx:rs.getLast? with
 | none =>
  have hn:rs=[]:=List.getLast?_eq_none_iff.1 hx
  subst hn
  refine AL.Met.intro Tryz.func159 (by decide) Z Z Z ?_
  refine k2 ?_
  refine A3 (A2 (A5 Z Z) Z (A6 ?_))
  refine k1 (k2 (k2 ?_))
  refine A3 (A2 (A4 Z Z) Z (B9 (hp) Z Z Z ?_));rintro _ rfl;refine A6 ?_
  refine k1 ?_
  refine B2 rfl (fun ht=>?_) (fun ht=>?_)
  ·cases ht
  refine k5 (k1 (k2 (k2 ?_)))
  refine A3 (A2 (A4 Z Z) Z (A2 (B8 Z) Z (A2 (A7 Z) Z (A2 (A7 Z) Z (A2 (B0 Z Z Z) Z (A2 (y8 Z Z) Z (A2 (F1 Z Z) Z (A6 ?_))))))))
  refine k1 ?_
  refine B2 rfl (fun ht=>?_) (fun ht=>?_)
  ·exact absurd (A0 ht) (by omega)
  refine k5 (k1 (k2 ?_))
  refine C4 (by kernel_rfl) (by kernel_rfl) (A8 (A4 Z Z) Z Z (A8 (B8 Z) Z Z (A8 (A7 Z) Z Z (A8 (A7 Z) Z Z (A8 (B0 Z Z Z) Z Z (A8 (A4 Z Z) Z Z (A8 (B8 Z) Z Z (A8 (A7 Z) Z Z (A8 (A7 Z) Z Z (A8 (B0 Z Z Z) Z Z (A8 (y8 Z Z) Z Z (A8 (P5 Z Z (by omega)) Z Z (A8 (o8 Z Z Z (by omega) (by omega)) Z Z (A8 (A5 Z Z) Z Z (H9 ?_)))))))))))))))
  refine k1 (k2 (k2 ?_))
  refine A3 (A2 (A4 Z Z) Z (A2 (V1 Z Z) Z (A6 ?_)))
  refine k1 ?_
  refine B2 rfl (fun ht=>?_) (fun ht=>?_)
  rotate_left
  ·exact absurd rfl (A1 ht)
  refine k2 (k2 ?_)
  refine A3 (A2 (A4 Z Z) Z (A2 (L1 Z) Z (A2 (L2 Z) Z (A2 (A17 Z Z (by first | rfl | omega) Z) Z ?_))));refine A2 (A41 Z Z) Z (A2 (F1 Z Z) Z (A6 ?_))
  refine k1 ?_
  refine B2 rfl (fun ht=>?_) (fun ht=>?_)
  rotate_left
  ·exact absurd rfl (A1 ht)
  refine k2 ?_
  refine A3 (A2 (A5 Z Z) Z (A6 ?_))
  refine k1 (k10 (k11 (k11 ?_)))
  exact H7 (g9 rfl rfl) (by repeat (first | exact D9 | refine tail_cons rfl ?_ | refine E0 _ ?_)) (ObIn.spec (ob':=[(2,M8)]) ⟨rfl,trivial⟩) ⟨rfl,rfl⟩
 | some r =>
  have hne:rs≠[]:=fun e=>by rw [e] at hx;cases hx
  have hlen:=List.length_pos_iff.2 hne
  have hv:rs[((rs.length:Int) - 1).toNat]?=some r:=by rw [show ((rs.length:Int) - 1).toNat=rs.length - 1 by omega,←List.getLast?_eq_getElem?];exact hx
  have hset:∀y:Row,rs.set (((rs.length:Int) - 1).toNat) y=rs.dropLast++[y]:=by
   intro y
   rw [show ((rs.length:Int) - 1).toNat=rs.length - 1 by omega]
   have hd:=List.dropLast_concat_getLast hne
   conv=>lhs;rw [←hd]
   rw [List.set_append_right _ _ (by rw [List.length_dropLast,J77,List.length_dropLast];simp)]
   simp
  have hxt:=htx r (J93 hv)
  have htr:=C08 r.Text [10] (by omega)
  rw [C17,show B09 r.Text=A00 r.Text from rfl] at htr
  refine AL.Met.intro Tryz.func159 (by decide) Z Z Z ?_
  refine k2 ?_
  refine A3 (A2 (A5 Z Z) Z (A6 ?_))
  refine k1 (k2 (k2 ?_))
  refine A3 (A2 (A4 Z Z) Z (B9 (hp) Z Z Z ?_));rintro _ rfl;refine A6 ?_
  refine k1 ?_
  refine B2 rfl (fun ht=>?_) (fun ht=>?_)
  ·cases ht
  refine k5 (k1 (k2 (k2 ?_)))
  refine A3 (A2 (A4 Z Z) Z (A2 (B8 Z) Z (A2 (A7 Z) Z (A2 (A7 Z) Z (A2 (B0 Z Z Z) Z (A2 (y8 Z Z) Z (A2 (F1 Z Z) Z (A6 ?_))))))))
  refine k1 ?_
  refine B2 rfl (fun ht=>?_) (fun ht=>?_)
  ·exact absurd (A0 ht) (by omega)
  refine k5 (k1 (k2 ?_))
  refine C4 (by kernel_rfl) (by kernel_rfl) (A8 (A4 Z Z) Z Z (A8 (B8 Z) Z Z (A8 (A7 Z) Z Z (A8 (A7 Z) Z Z (A8 (B0 Z Z Z) Z Z (A8 (A4 Z Z) Z Z (A8 (B8 Z) Z Z (A8 (A7 Z) Z Z (A8 (A7 Z) Z Z (A8 (B0 Z Z Z) Z Z (A8 (y8 Z Z) Z Z (A8 (P5 Z Z (by omega)) Z Z (A8 (o8 Z Z Z (by omega) (by omega)) Z Z (A8 (A5 Z Z) Z Z (H9 ?_)))))))))))))))
  refine k1 (k2 (k2 ?_))
  refine A3 (A2 (A4 Z Z) Z (A2 (V1 Z Z) Z (A6 ?_)))
  refine k1 ?_
  refine B2 rfl (fun ht=>?_) (fun ht=>?_)
  rotate_left
  ·exact absurd rfl (A1 ht)
  refine k2 (k2 ?_)
  refine A3 (A2 (A4 Z Z) Z (A2 (L1 Z) Z (A2 (L2 Z) Z (A2 (A17 Z Z (by first | rfl | omega) Z) Z ?_))));refine A2 (A41 Z Z) Z (A2 (F1 Z Z) Z (A6 ?_))
  refine k1 ?_
  refine B2 rfl (fun ht=>?_) (fun ht=>?_)
  ·exact absurd (A0 ht) (by omega)
  refine k5 (k1 (k2 ?_))
  refine C4 (by kernel_rfl) (by kernel_rfl) (A8 (A4 Z Z) Z Z (A8 (L1 Z) Z Z (A8 (L2 Z) Z Z (A8 (A17 Z Z (by first | rfl | omega) Z) Z Z ?_))));refine A8 (A4 Z Z) Z Z (A8 (L1 Z) Z Z (A8 (L2 Z) Z Z (A8 (A17 Z Z (by first | rfl | omega) Z) Z Z ?_)));refine A8 (A41 Z Z) Z Z (A8 (P5 Z Z (by omega)) Z Z (A8 (O7 Z Z Z (by omega) (by omega)) Z Z (A8 (A5 Z Z) Z Z (H9 ?_))))
  refine k1 (k2 ?_)
  refine A3 (A2 (A4 Z Z) Z (A2 (A4 Z Z) Z (A2 (L1 Z) Z (A2 (L2 Z) Z (A2 (C65 Z Z hv Z) Z (B9 (htr) Z Z Z ?_))))));rintro _ rfl;refine A2 (L1 Z) Z (A2 (L2 Z) Z (E3 (A16 (⟨r.Lost,r.Marks,A00 r.Text⟩) TySz.out Z Z hv Z Z Z Z (fun _ _ _ h=>A22 h) (by intro j h1 h2;rcases j with _ | _ | _ | _ | _ | _ | _ | j<;>first | rfl | omega)) ?_));refine A6 ?_
  rw [hset]
  refine k1 (k2 ?_)
  refine A3 (A2 (A5 Z Z) Z (A6 ?_))
  refine k1 (k10 (k11 ?_))
  exact H7 (g9 rfl rfl) (by repeat (first | exact D9 | refine tail_cons rfl ?_ | refine E0 _ ?_)) (ObIn.spec (ob':=Y1 w d N hs a (rs.dropLast++[⟨r.Lost,r.Marks,A00 r.Text⟩])) ⟨rfl,rfl,rfl,rfl,trivial⟩) ⟨rfl,rfl⟩
theorem I68 (x:Str) (R:List Str) (k:Nat) (w:Str) (d:Bool) (N:Nat) (hs:List CHunk) (a:List Int) (rs:List Row) (h0:0 < hs.length) (hl:hs.length≤16777216) (hrl:rs.length≤16777216) (hx:x.length≤4194304) (h64:x.take 1≠[64]) (hno:x≠noNl) :
  AL.Met Tryz.prog 159 [.one (.ref 730 0),.one (.p (.v (.string ⟨x.toArray⟩)))] (gfL x R k) (Y1 w d N hs a rs) [732]
   (fun res ob'=>match x7 (x++[10]) N with
    | none=>res=[tBo false]∧ob'=[(2,M8)]
    | some r=>res=[tBo true]∧ob'=Y1 w d N hs a (rs++[r])):=by
 have hp:=A12 x [64]
 rw [show ([64]:Str).length=1 from rfl,decide_eq_false h64] at hp
 have hR:=G05 (x++[10]) N
 cases hr:x7 (x++[10]) (N:Int) with
 | none =>
  rw [b9 hr] at hR
  refine AL.Met.intro Tryz.func159 (by decide) Z Z Z ?_
  refine k2 ?_
  refine A3 (A2 (A5 Z Z) Z (A6 ?_))
  refine k1 (k2 (k2 ?_))
  refine A3 (A2 (A4 Z Z) Z (B9 (hp) Z Z Z ?_));rintro _ rfl;refine A6 ?_
  refine k1 ?_
  refine B2 rfl (fun ht=>?_) (fun ht=>?_)
  ·cases ht
  refine k5 (k1 (k2 (k2 ?_)))
  refine A3 (A2 (A4 Z Z) Z (A2 (B8 Z) Z (A2 (A7 Z) Z (A2 (A7 Z) Z (A2 (B0 Z Z Z) Z (A2 (y8 Z Z) Z (A2 (F1 Z Z) Z (A6 ?_))))))))
  refine k1 ?_
  refine B2 rfl (fun ht=>?_) (fun ht=>?_)
  ·exact absurd (A0 ht) (by omega)
  refine k5 (k1 (k2 ?_))
  refine C4 (by kernel_rfl) (by kernel_rfl) (A8 (A4 Z Z) Z Z (A8 (B8 Z) Z Z (A8 (A7 Z) Z Z (A8 (A7 Z) Z Z (A8 (B0 Z Z Z) Z Z (A8 (A4 Z Z) Z Z (A8 (B8 Z) Z Z (A8 (A7 Z) Z Z (A8 (A7 Z) Z Z (A8 (B0 Z Z Z) Z Z (A8 (y8 Z Z) Z Z (A8 (P5 Z Z (by omega)) Z Z (A8 (o8 Z Z Z (by omega) (by omega)) Z Z (A8 (A5 Z Z) Z Z (H9 ?_)))))))))))))))
  refine k1 (k2 (k2 ?_))
  refine A3 (A2 (A4 Z Z) Z (A2 (V1 Z Z) Z (A6 ?_)))
  refine k1 ?_
  refine B2 rfl (fun ht=>?_) (fun ht=>?_)
  ·exact absurd (A0 ht) hno
  refine R6 [(0,.s (.one (.ref 730 0))),(1,H4 x),(5,.s (.one (.mref 731 2 ((hs.length:Int) - 1).toNat 0))),(1000032,H4 x),(1000031,.s (.one (.ref 730 0))),(1000004,.s (.one (.ref 730 0))),(1000002,.s (.one (.ref 2 0))),(1000025,C8 Str 1 J5 R),(1000026,C3 R.length),(1000027,C3 k),(1000006,H4 x)] (Y1 w d N hs a rs) (J48 ⟨le1 rfl,le1 rfl,le1 rfl,le1 rfl,le1 rfl,le1 rfl,le1 rfl,le1 rfl,le1 rfl,le1 rfl,le1 rfl,trivial⟩ ⟨rfl,rfl,rfl,rfl,trivial⟩) ?_
  refine k5 (k1 (k2 ?_))
  refine A3 (A2 (A4 Z Z) Z (A2 (E7 Z Z (by (simp;omega))) Z (A2 (A4 Z Z) Z (A2 (B8 Z) Z (A2 (A7 Z) Z (A2 (A7 Z) Z (A2 (B0 Z Z Z) Z (B9 (hR) Z Z Z ?_))))))));rintro _ rfl;refine A2 (A4 Z Z) Z (A2 (B1 Z Z) Z (A2 (B1 Z Z) Z (C2 (G1 733 Z) Z (E3 (B7 TySz.out Z Z Z Z Z Z) (A2 (A5 Z Z) Z (A6 ?_))))))
  refine k1 (k2 ?_)
  refine A11 [10,7] [[],[7],[10,7]] [(7,([732],[76])),(10,([],[]))] [(0,[]),(1,[]),(2,[]),(3,[]),(4,[]),(5,[]),(6,[]),(7,[]),(8,[7]),(9,[7]),(10,[7])] [(0,[7])] (by kernel_rfl) (by kernel_rfl) (M1 Z Z (by kernel_rfl) Z Z (A4 Z Z) (M1 Z Z (by kernel_rfl) Z Z (A4 Z Z) (M1 Z Z (by kernel_rfl) Z Z (L1 Z) (M1 Z Z (by kernel_rfl) Z Z (L2 Z) (M1 Z Z (by kernel_rfl) Z Z (A17 Z Z (by first | rfl | omega) Z) ?_)))));refine M1 Z Z (by kernel_rfl) Z Z (C7 Z Z Z) (M1 Z Z (by kernel_rfl) Z Z (C6 (c:=rowC) (ys:=[⟨false,0,[]⟩]) (D8 Z Z Z Z F0) Z Z Z) (C64 Z Z (by kernel_rfl) Z Z (H41 (fun frc hU=>W9 (B34 hU Z) Z (B34 hU Z) (.pure _ _ _ _) (by (simp;omega)) Z)) Z (M1 Z Z (by kernel_rfl) Z Z (L1 Z) (M1 Z Z (by kernel_rfl) Z Z (L2 Z) (C64 Z Z (by kernel_rfl) Z Z (I06 (fun frc hU=>E27 TySz.out (B34 hU Z) Z (by first | rfl | omega) (B34 hU Z) Z Z Z)) Z ?_)))));refine I03 (by kernel_rfl) rfl ?_ ?_
  ·refine u3 Z Z (by kernel_rfl) Z Z (A4 Z Z) ?_;exact I04
  refine k1 (k2 ?_)
  refine A3 (A2 (A4 Z Z) Z (A2 (A5 Z Z) Z (A6 ?_)))
  refine k1 (k10 ?_)
  exact H7 (g9 rfl rfl) (by repeat (first | exact D9 | refine tail_cons rfl ?_ | refine E0 _ ?_)) (ObIn.spec (ob':=[(2,M8)]) ⟨rfl,trivial⟩) ⟨rfl,rfl⟩
 | some r =>
  rw [A77 hr] at hR
  refine AL.Met.intro Tryz.func159 (by decide) Z Z Z ?_
  refine k2 ?_
  refine A3 (A2 (A5 Z Z) Z (A6 ?_))
  refine k1 (k2 (k2 ?_))
  refine A3 (A2 (A4 Z Z) Z (B9 (hp) Z Z Z ?_));rintro _ rfl;refine A6 ?_
  refine k1 ?_
  refine B2 rfl (fun ht=>?_) (fun ht=>?_)
  ·cases ht
  refine k5 (k1 (k2 (k2 ?_)))
  refine A3 (A2 (A4 Z Z) Z (A2 (B8 Z) Z (A2 (A7 Z) Z (A2 (A7 Z) Z (A2 (B0 Z Z Z) Z (A2 (y8 Z Z) Z (A2 (F1 Z Z) Z (A6 ?_))))))))
  refine k1 ?_
  refine B2 rfl (fun ht=>?_) (fun ht=>?_)
  ·exact absurd (A0 ht) (by omega)
  refine k5 (k1 (k2 ?_))
  refine C4 (by kernel_rfl) (by kernel_rfl) (A8 (A4 Z Z) Z Z (A8 (B8 Z) Z Z (A8 (A7 Z) Z Z (A8 (A7 Z) Z Z (A8 (B0 Z Z Z) Z Z (A8 (A4 Z Z) Z Z (A8 (B8 Z) Z Z (A8 (A7 Z) Z Z (A8 (A7 Z) Z Z (A8 (B0 Z Z Z) Z Z (A8 (y8 Z Z) Z Z (A8 (P5 Z Z (by omega)) Z Z (A8 (o8 Z Z Z (by omega) (by omega)) Z Z (A8 (A5 Z Z) Z Z (H9 ?_)))))))))))))))
  refine k1 (k2 (k2 ?_))
  refine A3 (A2 (A4 Z Z) Z (A2 (V1 Z Z) Z (A6 ?_)))
  refine k1 ?_
  refine B2 rfl (fun ht=>?_) (fun ht=>?_)
  ·exact absurd (A0 ht) hno
  refine R6 [(0,.s (.one (.ref 730 0))),(1,H4 x),(5,.s (.one (.mref 731 2 ((hs.length:Int) - 1).toNat 0))),(1000032,H4 x),(1000031,.s (.one (.ref 730 0))),(1000004,.s (.one (.ref 730 0))),(1000002,.s (.one (.ref 2 0))),(1000025,C8 Str 1 J5 R),(1000026,C3 R.length),(1000027,C3 k),(1000006,H4 x)] (Y1 w d N hs a rs) (J48 ⟨le1 rfl,le1 rfl,le1 rfl,le1 rfl,le1 rfl,le1 rfl,le1 rfl,le1 rfl,le1 rfl,le1 rfl,le1 rfl,trivial⟩ ⟨rfl,rfl,rfl,rfl,trivial⟩) ?_
  refine k5 (k1 (k2 ?_))
  refine A3 (A2 (A4 Z Z) Z (A2 (E7 Z Z (by (simp;omega))) Z (A2 (A4 Z Z) Z (A2 (B8 Z) Z (A2 (A7 Z) Z (A2 (A7 Z) Z (A2 (B0 Z Z Z) Z (B9 (hR) Z Z Z ?_))))))));rintro _ rfl;refine A2 (A4 Z Z) Z (A2 (B1 Z Z) Z (A2 (B1 Z Z) Z (C2 (G1 733 Z) Z (E3 (B7 TySz.out Z Z Z Z Z Z) (A2 (A5 Z Z) Z (A6 ?_))))))
  refine k1 (k2 ?_)
  refine A11 [10,7] [[],[7],[10,7]] [(7,([732],[76])),(10,([],[]))] [(0,[]),(1,[]),(2,[]),(3,[]),(4,[]),(5,[]),(6,[]),(7,[]),(8,[7]),(9,[7]),(10,[7])] [(0,[7])] (by kernel_rfl) (by kernel_rfl) (M1 Z Z (by kernel_rfl) Z Z (A4 Z Z) (M1 Z Z (by kernel_rfl) Z Z (A4 Z Z) (M1 Z Z (by kernel_rfl) Z Z (L1 Z) (M1 Z Z (by kernel_rfl) Z Z (L2 Z) (M1 Z Z (by kernel_rfl) Z Z (A17 Z Z (by first | rfl | omega) Z) ?_)))));refine M1 Z Z (by kernel_rfl) Z Z (C7 Z Z Z) (M1 Z Z (by kernel_rfl) Z Z (C6 (c:=rowC) (ys:=[r]) (D8 Z Z Z Z F0) Z Z Z) (C64 Z Z (by kernel_rfl) Z Z (H41 (fun frc hU=>W9 (B34 hU Z) Z (B34 hU Z) (.pure _ _ _ _) (by (simp;omega)) Z)) Z (M1 Z Z (by kernel_rfl) Z Z (L1 Z) (M1 Z Z (by kernel_rfl) Z Z (L2 Z) (C64 Z Z (by kernel_rfl) Z Z (I06 (fun frc hU=>E27 TySz.out (B34 hU Z) Z (by first | rfl | omega) (B34 hU Z) Z Z Z)) Z ?_)))));refine I03 (by kernel_rfl) rfl ?_ ?_
  ·refine u3 Z Z (by kernel_rfl) Z Z (A4 Z Z) ?_;exact I04
  refine k1 (k2 ?_)
  refine A3 (A2 (A4 Z Z) Z (A2 (A5 Z Z) Z (A6 ?_)))
  refine k1 (k10 ?_)
  exact H7 (g9 rfl rfl) (by repeat (first | exact D9 | refine tail_cons rfl ?_ | refine E0 _ ?_)) (ObIn.spec (ob':=Y1 w d N hs a (rs++[r])) ⟨rfl,rfl,rfl,rfl,trivial⟩) ⟨rfl,rfl⟩
end Go.Proofs.YtgejaedjnbjpoaaGreatDoor
