/- Walks of the program's functions. -/
import Derived.Test.YtbiadkkamhpdnaaGreatDoorTy
import Derived.Test.YtbiadkkamhpdnaaGreatDoorFs
import Derived.Test.YtbiadkkamhpdnaaGreatDoorSh
set_option linter.unusedSimpArgs false
namespace Go.Proofs.YtbiadkkamhpdnaaGreatDoor
open Go Go.AL
set_option maxRecDepth 100000
theorem B89 (p:Int):0≤IntKind.u64.wrap p:=by simp [IntKind.wrap,IntKind.signed,IntKind.bits];omega
theorem C21 (b:Str) (hb:b.length≤536870912):FnOk Tryz.prog 70 [P8 b] (fun rs=>rs=[A12 (B8 b)]):=by
 refine FnOk.intro Tryz.func70 (by decide) Z Z Z Z ?_
 refine k2 (A3 (A7 Z Z (A5 ?_)));refine k1 (k2 (A3 (C2 (X5 3 _ M6 Z) Z (A5 ?_))));refine k1 (k2 (A3 (A7 Z Z (A5 ?_))));refine k1 (k2 (k2 (A3 (A7 Z Z (A5 ?_)))));refine k1 (k3 ?_);refine D2 (X:=Nat × Nat × List Str) (fun x=>([(0,X0 b),(3,.s (.one (.buf 3 Str 1 M6 x.2.2))),(4,B6 x.2.1),(5,B6 x.1)],[(3,.spare x.2.2.length 1 9)]))
  (fun x=>x.1≤b.length∧x.2.1≤x.1∧x.2.2.length≤x.1∧(x.1=b.length→x.2.1=x.1)∧x.2.2++H9 ((b.drop x.2.1).take (x.1 - x.2.1)) (b.drop x.1)=B8 b) (fun x=>b.length - x.1) (0,0,[]) (by simp [B8]) ?_ ?_
 ·exact I81 ⟨⟨_,rfl,.same _⟩,⟨_,rfl,.same _⟩,⟨_,rfl,.same _⟩,⟨_,rfl,.same _⟩,trivial⟩ ⟨rfl,trivial⟩
 ·rintro ⟨i,from',out⟩ ⟨hi,hf,ho,he,hp⟩
  dsimp only at hi hf ho he hp ⊢
  refine k2 (k2 (A3 (A4 Z Z (A4 Z Z (A6 (Q3 Z) Z (F4 Z Z Z (A5 ?_)))))));refine k1 ?_;refine B5 rfl (fun ht=>?_) (fun ht=>?_)
  ·have hlt:i < b.length:=by simpa using ht
   have hv:b[i]?=some b[i]:=by simp [hlt]
   refine k5 (k1 (k2 (k3 (k2 (A3 (A4 Z Z (A4 Z Z (A6 (B40 Z Z (by omega) hv) Z (A6 (Q0 Z Z) Z (A4 Z Z (B2 Z Z Z Z (fun hg=>by rw [hg];exact C3 Z Z) ?_)))))))))));refine B2 Z Z Z Z (fun hg=>by have hq:=hg;(try simp at hq);rw [hg];exact U2 Z Z (by omega)) ?_;refine B2 Z Z Z Z (fun hg=>by rw [hg];exact C3 Z Z) ?_;refine B2 Z Z Z Z (fun hg=>by rw [hg];exact Q3 Z) ?_;refine B2 Z Z Z Z (fun hg=>by rw [hg];exact Q0 Z Z) ?_;refine J5 Z Z ?_;refine A5 ?_;refine k1 ?_;refine B5 rfl (fun ht2=>?_) (fun ht2=>?_)
   ·refine k2 (A3 (A4 Z Z (A4 Z Z (A4 Z Z (A4 Z Z (C5 Z Z Z (A6 (I30 Z Z Z (by omega) (by omega) (by omega)) Z (A6 (C9 (c:=M6) (ys:=[_]) (E0 Z Z Z Z G6) Z Z Z) Z (C2 (H4 Z Z Z (.pure _ _ _ _) (by simp;omega) Z) Z (A7 Z Z (A5 ?_)))))))))));refine k1 (A3 (A4 Z Z (C5 Z Z Z (A7 Z Z (A5 ?_)))));refine k4 (k1 (A3 (A4 Z Z (C5 Z Z Z (A7 Z Z (A5 ?_))))));refine k1 ?_;refine ⟨(i+1,i+1,_),⟨?_,?_,?_,?_,?_⟩,?_,I81 ⟨⟨_,rfl,.same _⟩,⟨_,rfl,.same _⟩,⟨_,rfl,.same _⟩,⟨_,rfl,.same _⟩,trivial⟩ ⟨rfl,trivial⟩⟩
    all_goals dsimp only
    ·omega
    ·omega
    ·simp;omega
    ·omega
    ·have hc:b[i]=10∨i+1=b.length:=by
      simp only [u8_lf] at ht2
      by_cases h:b[i]=10
      ·exact .inl h
      ·simp [h] at ht2;exact .inr (by omega)
     rw [G99,J21,Nat.sub_self,List.take_zero,←E79 b from' i hf hlt,J25,←hp,J20 hlt,s5]
     rcases hc with h | h
     ·rw [if_pos h];rfl
     ·have hd:b.drop (i+1)=[]:=J23 (by omega)
      rw [hd]
      split
      ·rfl
      ·rw [show H9 ([]:Str) []=[] from rfl,F35 _ (by simp)];simp
    ·omega
   ·refine k5 (k4 (k1 (A3 (A4 Z Z (C5 Z Z Z (A7 Z Z (A5 ?_)))))));refine k1 ?_;refine ⟨(i+1,from',out),⟨?_,?_,?_,?_,?_⟩,?_,I81 ⟨⟨_,rfl,.same _⟩,⟨_,rfl,.same _⟩,⟨_,rfl,.same _⟩,⟨_,rfl,.same _⟩,trivial⟩ ⟨rfl,trivial⟩⟩
    all_goals dsimp only
    ·omega
    ·omega
    ·omega
    ·intro h
     simp [show (i:Int)+1=(b.length:Int) by omega] at ht2
    ·have hc:b[i]≠10:=fun h=>by simp [h] at ht2
     rw [←E79 b from' i hf hlt,←hp,J20 hlt,s5,if_neg hc]
    ·omega
  ·refine k6 (k2 (A3 (A4 Z Z (A7 Z Z (A5 ?_)))));refine k1 (k10 (B9 (I5 Z Z Z) ?_))
   have hi':i=b.length:=by simp at ht;omega
   subst hi'
   have:=he rfl
   subst this
   rw [Nat.sub_self,List.take_zero,J23 (Nat.le_refl _)] at hp
   rw [←hp];simp [H9]
theorem F85 (b:Str) (hb:b.length≤1099511627776):FnOk Tryz.prog 99 [P8 b] (fun rs=>rs=[J0 (X8 b)]):=by
 refine FnOk.intro Tryz.func99 (by decide) Z Z Z Z ?_
 refine k2 (A3 (A7 Z Z (A5 ?_)));refine k1 (k2 (k2 (A3 (A4 Z Z (A6 (Q3 Z) Z (A6 (R0 Z Z) Z (A4 Z Z (B2 Z Z Z Z (fun hg=>by rw [hg];exact C3 Z Z) ?_))))))));refine B2 Z Z Z Z (fun hg=>by have hq:=hg;(try simp at hq);rw [hg];exact O4 (C21 b (by omega)) Z Z) ?_;refine B2 Z Z Z Z (fun hg=>by rw [hg];exact V1 Z (.pure _ _ _ _)) ?_;refine B2 Z Z Z Z (fun hg=>by rw [hg];exact R0 Z Z) ?_;refine J5 Z Z ?_;refine A5 ?_;refine k1 ?_;refine B5 rfl (fun ht=>?_) (fun ht=>?_)
 ·have h:=A0 (or_pick.symm.trans ht)
  refine k2 (A3 (A7 Z Z (A5 ?_)));refine k1 (k10 (k11 ?_))
  exact B9 (I5 rfl rfl rfl) (by rw [X8,if_pos (by omega)])
 ·have h:=A1 (or_pick.symm.trans ht)
  refine k5 (k1 (k2 (A3 (A7 Z Z (A5 ?_)))));refine k1 (k10 ?_)
  exact B9 (I5 rfl rfl rfl) (by rw [X8,if_neg (by omega)])
theorem F86 (l:List Str) (s:Str):FnOk Tryz.prog 167 [A12 l,P8 s] (fun rs=>rs=[J0 (G9 l s 0)]):=by
 refine FnOk.intro Tryz.func167 (by decide) Z Z Z Z ?_
 refine C08 (t:=0) rfl (.pure _ _ _ _) fun hlen=>?_
 refine k2 (A3 (A7 Z Z (A5 ?_)));refine k1 (k2 (k2 (A3 (A7 Z Z (A5 ?_)))));refine k1 (k3 (D2 (X:=Nat) (fun i=>([(0,C0 Str 1 M6 l),(1,X0 s),(5,B6 i)],[])) (fun i=>i≤l.length∧G9 l s 0=G9 (l.drop i) s i) (fun i=>l.length - i) 0 (by simp) (I81 ⟨le1 rfl,le1 rfl,le1 rfl,trivial⟩ trivial) ?_))
 rintro i ⟨hi,hp⟩
 dsimp only at hi hp ⊢
 refine k2 (k2 (A3 (A4 Z Z (A4 Z Z (E4 Z Z (F4 Z Z Z (A5 ?_)))))));refine k1 ?_;refine B5 rfl (fun ht=>?_) (fun ht=>?_)
 ·have hlt:i < l.length:=by simpa using ht
  have hv:l[i]?=some l[i]:=by simp [hlt]
  rw [F36 l s i hlt] at hp
  refine k5 (k1 (k2 (k3 (k2 (A3 (A4 Z Z (A4 Z Z (A6 (A9 Z (.pure _ _ _ _) Z (by omega) hv) Z (A6 (B3 Z Z) Z (A4 Z Z (A6 (D23 Z Z) Z (A5 ?_))))))))))));refine k1 ?_;refine B5 rfl (fun ht=>?_) (fun ht=>?_)
  ·rw [if_pos (by simpa using ht)] at hp
   refine k2 (A3 (A4 Z Z (A7 Z Z (A5 ?_))));refine k1 (k10 (k12 (k11 (k11 (k12 (k11 ?_))))))
   exact B9 (I5 rfl rfl rfl) (by rw [hp])
  ·rw [if_neg (by simpa using ht)] at hp
   refine k5 (k4 (k1 (A3 (A4 Z Z (C5 Z Z Z (A7 Z Z (A5 ?_)))))));refine k1 ?_
   exact ⟨i+1,⟨by omega,by simpa using hp⟩,by omega,I81 ⟨le1 rfl,le1 rfl,le1 rfl,trivial⟩ trivial⟩
 ·have:i=l.length:=by simp at ht;omega
  subst this
  refine k6 (k2 (A3 (A7 Z Z (A5 ?_))));refine k1 (k10 ?_)
  exact B9 (I5 rfl rfl rfl) (by rw [hp];simp [G9])
theorem F87 (fs:List (List Str)) (hfs:fs.flatten.length≤536870912):FnOk Tryz.prog 100 [pStrss fs] (fun rs=>rs=[A12 (D8 fs)]):=by
 refine FnOk.intro Tryz.func100 (by decide) Z Z Z Z ?_
 refine C08 (t:=0) rfl (.pure _ _ _ _) fun hlen=>?_
 refine k2 (A3 (A7 Z Z (A5 ?_)));refine k1 (k2 (A3 (C2 (X5 3 _ M6 Z) Z (A5 ?_))));refine k1 (k2 (k2 (A3 (A7 Z Z (A5 ?_)))));refine k1 (k3 (D2 (X:=Nat) (fun f=>([(0,C0 (List Str) 1 strsC fs),(3,.s (.one (.buf 3 Str 1 M6 (D8 (fs.take f))))),(4,B6 f)],[(3,.spare (D8 (fs.take f)).length 1 9)])) (fun f=>f≤fs.length) (fun f=>fs.length - f) 0 (by simp) (I81 ⟨le1 rfl,le1 rfl,le1 rfl,trivial⟩ ⟨rfl,trivial⟩) ?_))
 intro f hf
 dsimp only at hf ⊢
 refine k2 (k2 (A3 (A4 Z Z (A4 Z Z (E4 Z Z (F4 Z Z Z (A5 ?_)))))));refine k1 ?_;refine B5 rfl (fun ht=>?_) (fun ht=>?_)
 ·have hlt:f < fs.length:=by have:=A0 ht;omega
  have hv:fs[f]?=some fs[f]:=by simp [hlt]
  have hfl:=W3 fs f hlt
  have hle:=Z0 fs (f+1)
  rw [hfl,J15] at hle
  have hn0:=B22 (fs.take f)
  refine k5 (k1 (k2 (k3 (k2 (A3 (A7 Z Z (A5 ?_)))))));refine k1 (k3 (D2 (X:=Nat) (fun i=>([(0,C0 (List Str) 1 strsC fs),(3,.s (.one (.buf 3 Str 1 M6 ((fs[f].take i).foldl H7 (D8 (fs.take f)))))),(4,B6 f),(5,B6 i)],[(3,.spare ((fs[f].take i).foldl H7 (D8 (fs.take f))).length 1 9)])) (fun i=>i≤fs[f].length) (fun i=>fs[f].length - i) 0 (by simp) (I81 ⟨le1 rfl,le1 rfl,le1 rfl,le1 rfl,trivial⟩ ⟨rfl,trivial⟩) ?_))
  intro i hi
  dsimp only at hi ⊢
  have hni:=A02 (fs[f].take i) (D8 (fs.take f))
  rw [J36] at hni
  refine k2 (k2 (A3 (A4 Z Z (A4 Z Z (A4 Z Z (A6 (A9 Z (.pure _ _ _ _) Z (by omega) hv) Z (A6 (B3 Z Z) Z (E4 Z Z (F4 Z Z Z (A5 ?_))))))))));refine k1 ?_;refine B5 rfl (fun ht=>?_) (fun ht=>?_)
  ·have hlt2:i < fs[f].length:=by have:=A0 ht;omega
   have hvi:fs[f][i]?=some fs[f][i]:=by simp [hlt2]
   have hst:(fs[f].take (i+1)).foldl H7 (D8 (fs.take f))=H7 ((fs[f].take i).foldl H7 (D8 (fs.take f))) fs[f][i]:=by
    rw [List.take_add_one,hvi,Option.toList_some,J45];rfl
   refine k5 (k1 (k2 (k3 (k2 (A3 (A4 Z Z (A4 Z Z (A4 Z Z (A6 (A9 Z (.pure _ _ _ _) Z (by omega) hv) Z (A6 (B3 Z Z) Z (A4 Z Z (A6 (A9 Z (.pure _ _ _ _) Z (by omega) hvi) Z (A6 (B3 Z Z) Z (C6 (F86 _ _) Z Z Z ?_))))))))))))));rintro _ rfl;refine F4 Z Z Z (A5 ?_);refine k1 ?_
   have hpl:=G14 ((fs[f].take i).foldl H7 (D8 (fs.take f))) fs[f][i] 0 (Int.le_refl _)
   refine B5 rfl (fun ht=>?_) (fun ht=>?_)
   ·have hnot:=hpl.1 (A0 ht)
    skip
    refine A3 (A4 Z Z (A4 Z Z (A4 Z Z (A6 (A9 Z (.pure _ _ _ _) Z (by omega) hv) Z (A6 (B3 Z Z) Z (A4 Z Z (A6 (A9 Z (.pure _ _ _ _) Z (by omega) hvi) Z (A6 (B3 Z Z) Z (A6 (C9 (c:=M6) (ys:=[_]) (E0 Z Z Z Z G6) Z Z Z) Z (C2 (H4 Z Z Z (.pure _ _ _ _) (by simp;omega) Z) Z (A7 Z Z (A5 ?_))))))))))));refine k4 (k1 (A3 (A4 Z Z (C5 Z Z Z (A7 Z Z (A5 ?_))))));refine k1 ?_;refine ⟨i+1,by omega,by omega,?_⟩
    rw [hst,H7,if_neg hnot]
    exact I81 ⟨le1 rfl,le1 rfl,le1 rfl,le1 rfl,trivial⟩ ⟨rfl,trivial⟩
   ·have hin:fs[f][i]∈(fs[f].take i).foldl H7 (D8 (fs.take f)):=Classical.byContradiction fun h=>A1 ht (hpl.2 h)
    refine k5 (k4 (k1 (A3 (A4 Z Z (C5 Z Z Z (A7 Z Z (A5 ?_)))))));refine k1 ?_;refine ⟨i+1,by omega,by omega,?_⟩
    rw [hst,H7,if_pos hin]
    exact I81 ⟨le1 rfl,le1 rfl,le1 rfl,le1 rfl,trivial⟩ ⟨rfl,trivial⟩
  ·have hi':i=fs[f].length:=by have:=A1 ht;omega
   subst hi'
   refine k6 (k7 (k7 (k8 Z (k4 (k1 ?_)))))
   have:D8 (fs.take (f+1))=(fs[f].take fs[f].length).foldl H7 (D8 (fs.take f)):=by
    rw [D8,hfl,J45,J32];rfl
   refine A3 (A4 Z Z (C5 Z Z Z (A7 Z Z (A5 ?_))));refine k1 ?_;refine ⟨f+1,by omega,by omega,?_⟩
   rw [this]
   exact I81 ⟨le1 rfl,le1 rfl,le1 rfl,trivial⟩ ⟨rfl,trivial⟩
 ·have:f=fs.length:=by have:=A1 ht;omega
  subst this
  refine k6 (k2 (A3 (A4 Z Z (A7 Z Z (A5 ?_)))));refine k1 (k10 ?_)
  exact B9 (I5 rfl rfl rfl) (by simp)
theorem made_ok (p:List Span) (m n:Int) (hp:p.length≤536870912) (hb:∀s∈p,-1099511627776≤s.From∧s.From≤1099511627776 ∧ -1099511627776≤s.To∧s.To≤1099511627776)
  (hm:-1099511627776≤m∧m≤1099511627776 ∧ -1099511627776≤n∧n≤1099511627776) :
  FnOk Tryz.prog 169 [pSpans p,J0 m,J0 n] (fun rs=>rs=[pChanges (Y0 p m n)]):=by
 refine FnOk.intro Tryz.func169 (by decide) Z Z Z Z ?_
 refine k2 (A3 (A7 Z Z (A5 ?_)));refine k1 (k2 (A3 (C2 (X5 7 _ changeC Z) Z (A5 ?_))));refine k1 (k2 (A3 (A7 Z Z (A7 Z Z (A5 ?_)))));refine k1 (k2 (k2 (A3 (A7 Z Z (A5 ?_)))));refine k1 (k3 ?_);refine D2 (X:=Nat × Int × Int × List Change) (fun x=>([(0,C0 Span 2 spanC p),(1,B6 m),(2,B6 n),(7,.s (.one (.buf 7 Change 4 changeC x.2.2.2))),(8,B6 x.2.1),(9,B6 x.2.2.1),(10,B6 x.1)],[(7,.spare x.2.2.2.length 4 146)]))
  (fun x=>x.1≤p.length+1∧x.2.2.2.length≤x.1∧(-1099511627776≤x.2.1∧x.2.1≤1099511627777 ∧ -1099511627776≤x.2.2.1∧x.2.2.1≤1099511627777)∧(x.1≤p.length→x.2.2.2++L9 x.2.1 x.2.2.1 (p.drop x.1) m n=Y0 p m n)∧(x.1=p.length+1→x.2.2.2=Y0 p m n))
  (fun x=>p.length+1 - x.1) (0,0,0,[]) (by simp [Y0]) (I81 ⟨le1 rfl,le1 rfl,le1 rfl,le1 rfl,le1 rfl,le1 rfl,le1 rfl,trivial⟩ ⟨rfl,trivial⟩) ?_
 rintro ⟨k,i,j,out⟩ ⟨hk,ho,hij,h1,h2⟩
 dsimp only at hk ho hij h1 h2 ⊢
 refine k2 (k2 (A3 (A4 Z Z (A4 Z Z (E4 Z Z (A6 (A39 Z Z) Z (A5 ?_)))))));refine k1 ?_;refine B5 rfl (fun ht=>?_) (fun ht=>?_)
 ·have hk':k≤p.length:=by have:=A0 ht;omega
  have hpp:=h1 hk'
  refine k5 (k1 (k2 (k3 (k2 (A3 (A4 Z Z (A4 Z Z (A6 (I1 Z) Z (C2 (H3 11 Z) Z (G1 (B7 TySz.out Z Z Z Z Z Z) (A5 ?_)))))))))));refine K4 ?_
  obtain ⟨x,hx⟩:∃x,x=p.getD k ⟨m,n⟩:=⟨_,rfl⟩
  have hxb:-1099511627776≤x.From∧x.From≤1099511627776 ∧ -1099511627776≤x.To∧x.To≤1099511627776:=by
   rw [hx,J17]
   by_cases h:k < p.length
   ·rw [J14 h];exact hb _ (J26 h)
   ·rw [J39 (by omega)];exact hm
  have hmade:L9 i j (p.drop k) m n=(if x.From > i∨x.To > j then [⟨i,x.From - i,j,x.To - j⟩] else [])++(if k < p.length then L9 (x.From+1) (x.To+1) (p.drop (k+1)) m n else []):=by
   by_cases h:k < p.length
   ·rw [J20 h,if_pos h,hx,J17,J14 h];rfl
   ·rw [J23 (by omega),if_neg h,hx,J17,J39 (by omega)];simp [L9]
  refine z6 [(0,C0 Span 2 spanC p),(1,B6 m),(2,B6 n),(7,.s (.one (.buf 7 Change 4 changeC out))),(8,B6 i),(9,B6 j),(10,B6 k),(11,.s (.one (.ref 11 0)))] [(11,.box [.p (.v (.int .i64 x.From)),.p (.v (.int .i64 x.To))]),(7,.spare out.length 4 146)] ?_ ?_
  ·refine k2 (A3 (A4 Z Z (A4 Z Z (E4 Z Z (F4 Z Z Z (A5 ?_))))));refine k1 ?_;refine B5 rfl (fun ht=>?_) (fun ht=>?_)
   ·have hlt:k < p.length:=by have:=A0 ht;omega
    have hv:p[k]?=some p[k]:=by simp [hlt]
    have:x=p[k]:=by rw [hx,J17,hv];rfl
    subst this
    skip
    refine A3 (A4 Z Z (A4 Z Z (A6 (A9 Z (.pure _ _ _ _) Z (by omega) hv) Z (A6 (F5 Z Z) Z (G1 (B7 TySz.out Z Z Z Z Z Z) (A5 ?_))))));refine k1 ?_
    exact I81 ⟨le1 rfl,le1 rfl,le1 rfl,le1 rfl,le1 rfl,le1 rfl,le1 rfl,le1 rfl,trivial⟩ ⟨rfl,rfl,trivial⟩
   ·have hlt:¬k < p.length:=by have:=A1 ht;omega
    have:x=⟨m,n⟩:=by rw [hx,J17,J39 (by omega)];rfl
    subst this
    refine k5 (k1 ?_)
    exact I81 ⟨le1 rfl,le1 rfl,le1 rfl,le1 rfl,le1 rfl,le1 rfl,le1 rfl,le1 rfl,trivial⟩ ⟨rfl,rfl,trivial⟩
  ·obtain ⟨out',hout'⟩:∃o,o=out++(if x.From > i∨x.To > j then [⟨i,x.From - i,j,x.To - j⟩] else []):=⟨_,rfl⟩
   have hol:out'.length≤k+1:=by rw [hout',J15];split<;>simp<;>omega
   refine z6 [(0,C0 Span 2 spanC p),(1,B6 m),(2,B6 n),(7,.s (.one (.buf 7 Change 4 changeC out'))),(10,B6 k),(11,.s (.one (.ref 11 0)))] [(11,.box [.p (.v (.int .i64 x.From)),.p (.v (.int .i64 x.To))]),(7,.spare out'.length 4 146)] ?_ ?_
   ·refine k2 (A3 (A6 (A8 Z) Z (E9 Z Z Z Z (A4 Z Z (A6 (R0 Z Z) Z (A4 Z Z (B2 Z Z Z Z (fun hg=>by rw [hg];exact A8 Z) ?_)))))));refine B2 Z Z Z Z (fun hg=>by rw [hg];exact B4 Z Z Z) ?_;refine B2 Z Z Z Z (fun hg=>by rw [hg];exact C3 Z Z) ?_;refine B2 Z Z Z Z (fun hg=>by rw [hg];exact R0 Z Z) ?_;refine J5 Z Z ?_;refine A5 ?_;refine k1 ?_;refine B5 rfl (fun ht=>?_) (fun ht=>?_)
    ·have h:=A0 (or_pick.symm.trans ht)
     rw [if_pos h] at hout'
     subst hout'
     skip
     refine A3 (A4 Z Z (A4 Z Z (A6 (A8 Z) Z (E9 Z Z Z Z (A4 Z Z (A6 (U3 Z Z (by omega)) Z (A4 Z Z (A6 (A8 Z) Z (E9 Z Z Z Z (A4 Z Z (A6 (U3 Z Z (by omega)) Z (A6 (I1 Z) Z (A6 (C9 (c:=changeC) (ys:=[⟨_,_,_,_⟩]) (E0 Z Z Z Z G6) Z Z Z) Z (C2 (H4 Z Z Z (.pure _ _ _ _) (by simp;omega) Z) Z (A7 Z Z (A5 ?_))))))))))))))));refine k1 ?_
     exact I81 ⟨le1 rfl,le1 rfl,le1 rfl,le1 rfl,le1 rfl,le1 rfl,trivial⟩ ⟨rfl,rfl,trivial⟩
    ·have h:=A1 (or_pick.symm.trans ht)
     rw [if_neg h,J35] at hout'
     subst hout'
     refine k5 (k1 ?_)
     exact I81 ⟨le1 rfl,le1 rfl,le1 rfl,le1 rfl,le1 rfl,le1 rfl,trivial⟩ ⟨rfl,rfl,trivial⟩
   ·skip
    refine D5 (by kernel_rfl) (by kernel_rfl) (B1 (A8 Z) Z Z (B1 (B4 Z Z Z) Z Z (B1 (U2 Z Z (by omega)) Z Z (B1 (A8 Z) Z Z (B1 (B4 Z Z Z) Z Z (B1 (U2 Z Z (by omega)) Z Z (B1 (K8 Z Z) Z Z (B1 (K8 Z Z) Z Z (O2 ?_)))))))));refine k4 (k1 (A3 (A4 Z Z (C5 Z Z Z (A7 Z Z (A5 ?_))))));refine k1 ?_;refine ⟨(k+1,x.From+1,x.To+1,out'),⟨by dsimp only;omega,hol,by dsimp only;omega,?_,?_⟩,by dsimp only;omega,I81 ⟨le1 rfl,le1 rfl,le1 rfl,le1 rfl,le1 rfl,le1 rfl,le1 rfl,trivial⟩ ⟨rfl,trivial⟩⟩
    ·intro hk2
     dsimp only at hk2 ⊢
     rw [←hpp,hmade,if_pos (show k < p.length by omega),hout'];simp
    ·intro hk2
     dsimp only at hk2 ⊢
     rw [←hpp,hmade,if_neg (show ¬k < p.length by omega),hout'];simp
 ·have hk':k=p.length+1:=by have:=A1 ht;omega
  refine k6 (k2 (A3 (A4 Z Z (A7 Z Z (A5 ?_)))));refine k1 (k10 ?_)
  exact B9 (I5 rfl rfl rfl) (by rw [h2 hk'])
theorem long_ok (a b:List Int):FnOk Tryz.prog 249 [M7 a,M7 b] (fun rs=>rs=[N1 (decide (4096 < a.length∨4096 < b.length))]):=by
 refine FnOk.intro Tryz.func249 (by decide) Z Z Z Z ?_
 refine k2 (A3 (A7 Z Z (A5 ?_)));refine k1 (k2 (A3 (A4 Z Z (E4 Z Z (A6 (R0 Z Z) Z (A4 Z Z (B2 Z Z Z Z (fun hg=>by rw [hg];exact C3 Z Z) ?_)))))));refine B2 Z Z Z Z (fun hg=>by rw [hg];exact V1 Z (.pure _ _ _ _)) ?_;refine B2 Z Z Z Z (fun hg=>by rw [hg];exact R0 Z Z) ?_;refine J5 Z Z ?_;refine A7 Z Z (A5 ?_);refine k1 (k10 (B9 (I5 Z Z Z) ?_))
 rw [or_pick]
 simp only [List.cons.injEq,and_true,PV.one.injEq,Cell.v.injEq,Value.bool.injEq,decide_eq_decide]
 omega
theorem E66 (l:List Merged) (hl:l.length≤536870912):FnOk Tryz.prog 214 [pMerged l] (fun rs=>rs=[M7 (E6 l)]):=by
 refine FnOk.intro Tryz.func214 (by decide) Z Z Z Z ?_
 refine k2 (A3 (A7 Z Z (A5 ?_)));refine k1 (k2 (A3 (C2 (X5 3 _ G3 Z) Z (A5 ?_))));refine k1 (k2 (k2 (A3 (A7 Z Z (A5 ?_)))));refine k1 (k3 (D2 (X:=Nat) (fun i=>([(0,C0 Merged 2 mergedC l),(3,.s (.one (.buf 3 Int 1 G3 (E6 (l.take i))))),(4,B6 i)],[(3,.spare (E6 (l.take i)).length 1 3)])) (fun i=>i≤l.length) (fun i=>l.length - i) 0 (by simp) (I81 ⟨le1 rfl,le1 rfl,le1 rfl,trivial⟩ ⟨rfl,trivial⟩) ?_))
 intro i hi
 dsimp only at hi ⊢
 refine k2 (k2 (A3 (A4 Z Z (A4 Z Z (E4 Z Z (F4 Z Z Z (A5 ?_)))))));refine k1 ?_
 have hlen:(E6 (l.take i)).length=i:=by simp [E6];omega
 refine B5 rfl (fun ht=>?_) (fun ht=>?_)
 ·have hlt:i < l.length:=by have:=A0 ht;omega
  have hv:l[i]?=some l[i]:=by simp [hlt]
  have hst:E6 (l.take (i+1))=E6 (l.take i)++[l[i].Line]:=by
   unfold E6;rw [List.take_add_one,hv,Option.toList_some,J28];rfl
  refine k5 (k1 (k2 (k3 (A3 (A4 Z Z (A4 Z Z (A4 Z Z (A6 (A9 Z (.pure _ _ _ _) Z (by omega) hv) Z (A6 (G7 Z) Z (A6 (B3 Z Z) Z (A6 (C9 (c:=G3) (ys:=[_]) (E0 Z Z Z Z G6) Z Z Z) Z (C2 (H4 Z Z Z (.pure _ _ _ _) (by simp;omega) Z) Z (A7 Z Z (A5 ?_))))))))))))));refine k4 (k1 (A3 (A4 Z Z (C5 Z Z Z (A7 Z Z (A5 ?_))))));refine k1 ?_;refine ⟨i+1,by omega,by omega,?_⟩
  rw [hst]
  exact I81 ⟨le1 rfl,le1 rfl,le1 rfl,trivial⟩ ⟨rfl,trivial⟩
 ·have:i=l.length:=by have:=A1 ht;omega
  subst this
  refine k6 (k2 (A3 (A4 Z Z (A7 Z Z (A5 ?_)))));refine k1 (k10 ?_)
  exact B9 (I5 rfl rfl rfl) (by simp)
theorem I39 (a b:List Int) (ha:a.length≤536870912) (hb:b.length≤536870912):FnOk Tryz.prog 168 [M7 a,M7 b] (fun rs=>rs=[pIntss (B49 a b)]):=by
 refine FnOk.intro Tryz.func168 (by decide) Z Z Z Z ?_
 refine k2 (A3 (A7 Z Z (A5 ?_)));refine k1 (k2 (A3 (A4 Z Z (E4 Z Z (C5 Z Z Z (C2 (W2 5 (List Int) intsC [] Z Z (by omega) (by omega) (fun _=>by first | exact ⟨⟨rfl,rfl⟩,trivial⟩ | exact ⟨N3 _ _ _,trivial⟩) (by first | rfl | (simp [H6,I4,Ob.free,SV.free,S1.free,TC.free]<;>rfl))) Z ?_))))));refine A7 Z Z (A5 ?_);refine k1 (k2 (k2 (A3 (A4 Z Z (E4 Z Z (A7 Z Z (A5 ?_)))))));refine k1 (k3 ?_);refine D2 (X:=Nat) (fun i=>([(0,C0 Int 1 G3 a),(1,C0 Int 1 G3 b),(5,.s (.one (.mut 5))),(6,B6 ((i:Int) - 1))],[(5,.arr (List Int) 1 intsC (N8 a b i))])) (fun i=>i≤a.length+1) (fun i=>i) (a.length+1) (Nat.le_refl _) ?_ ?_
 ·refine I81 ⟨⟨_,rfl,.same _⟩,⟨_,rfl,.same _⟩,⟨_,rfl,.same _⟩,⟨_,rfl,.eq (by simp)⟩,trivial⟩ ⟨?_,trivial⟩
  rw [←E41];rfl
 intro i hi
 dsimp only at hi ⊢
 refine k2 (k2 (A3 (A4 Z Z (A6 (B61 Z Z) Z (A5 ?_)))));refine k1 ?_;refine B5 rfl (fun ht=>?_) (fun ht=>?_)
 ·obtain ⟨i,rfl⟩:∃r,i=r+1:=⟨i - 1,by have:=A0 ht;omega⟩
  refine L6 [(0,C0 Int 1 G3 a),(1,C0 Int 1 G3 b),(5,.s (.one (.mut 5))),(6,B6 i)] [(5,.arr (List Int) 1 intsC (N8 a b (i+1)))] (I81 ⟨le1 rfl,le1 rfl,le1 rfl,leE Z (by first | (simp;done) | (simp;omega)),trivial⟩ ⟨rfl,trivial⟩) ?_
  refine H5 (I96 5 Z) ?_
  have hTl:((N8 a b (i+1)).map fun x=>TC.p (intsC x 0)).length=a.length+1:=by simp [w7]
  have hRs:=w7 a b (i+1)
  refine k5 (k1 (k2 (k3 (k2 (A3 (A4 Z Z (A4 Z Z (A4 Z Z (E4 Z Z (C5 Z Z Z (C2 (W2 23 Int G3 0 Z Z (by omega) (by omega) (fun _=>by first | exact ⟨⟨rfl,rfl⟩,trivial⟩ | exact ⟨N3 _ _ _,trivial⟩) (by first | rfl | (simp [H6,I4,Ob.free,SV.free,S1.free,TC.free]<;>rfl))) Z ?_)))))))))));refine A6 (G8 Z Z Z (by omega) (by omega)) Z (G1 (d5 TySz.out Z Z (by (rw [hTl];simp;omega)) Z Z) ?_);refine A5 ?_;refine k1 (k2 (A3 (A4 Z Z (E4 Z Z (A7 Z Z (A5 ?_))))));refine k1 (k3 ?_)
  obtain ⟨T,hT⟩:∃T,T=((N8 a b (i+1)).map fun x=>TC.p (intsC x 0)).set i (.mut 23):=⟨_,rfl⟩
  have hTi:T[i]?=some (.mut 23):=by rw [hT,List.getElem?_set_self (by rw [hTl];omega)]
  have hTn:i+1≤a.length→T[i+1]?=some (.p (intsC (P5 a b (i+1) 0) 0)):=fun h=>by
   rw [hT,List.getElem?_set_ne (by omega),J40,A65 a b (i+1) (i+1) (Nat.le_refl _) h];rfl
  refine D2 (X:=Nat) (fun j=>([(0,C0 Int 1 G3 a),(1,C0 Int 1 G3 b),(5,.s (.one (.mut 5))),(6,B6 i),(7,B6 ((j:Int) - 1))],[(5,.tarr (N8 a b (i+1)).length 1 T),(23,.arr Int 1 G3 (P5 a b i j))])) (fun j=>j≤b.length+1) (fun j=>j) (b.length+1) (Nat.le_refl _) ?_ ?_
  ·refine I81 ⟨⟨_,rfl,.same _⟩,⟨_,rfl,.same _⟩,⟨_,rfl,.same _⟩,⟨_,rfl,.same _⟩,⟨_,rfl,.eq (by simp)⟩,trivial⟩ ⟨by rw [hT];rfl,?_,trivial⟩
   rw [←F37];rfl
  intro j hj
  dsimp only at hj ⊢
  refine k2 (k2 (A3 (A4 Z Z (A6 (B61 Z Z) Z (A5 ?_)))));refine k1 ?_;refine B5 rfl (fun ht=>?_) (fun ht=>?_)
  ·obtain ⟨j,rfl⟩:∃r,j=r+1:=⟨j - 1,by have:=A0 ht;omega⟩
   refine L6 [(0,C0 Int 1 G3 a),(1,C0 Int 1 G3 b),(5,.s (.one (.mut 5))),(6,B6 i),(7,B6 j)] [(5,.tarr (N8 a b (i+1)).length 1 T),(23,.arr Int 1 G3 (P5 a b i (j+1)))] (I81 ⟨le1 rfl,le1 rfl,le1 rfl,le1 rfl,leE Z (by first | (simp;done) | (simp;omega)),trivial⟩ ⟨rfl,rfl,trivial⟩) ?_
   have hRl:=D76 a b i (j+1)
   have hst:=G15 a b i j
   refine F08 ?_
   refine K4 ?_
   refine z6 [(0,C0 Int 1 G3 a),(1,C0 Int 1 G3 b),(5,.s (.one (.mut 5))),(6,B6 i),(7,B6 j)] [(5,.tarr (N8 a b (i+1)).length 1 T),(23,.arr Int 1 G3 (P5 a b i j))] ?_ ?_
   ·refine k3 (k3 (k2 (A3 (A4 Z Z (A4 Z Z (E4 Z Z (A6 (Q0 Z Z) Z (A7 Z Z (A5 ?_)))))))));refine k1 ?_;refine B5 rfl (fun ht=>?_) (fun ht=>?_)
    ·have hia:i=a.length:=by have:=A0 ht;omega
     have hd:(dist (a.drop i) (b.drop j):Int)=b.length - j:=by rw [hia,J23 (Nat.le_refl _),dist,J31];omega
     rw [hd] at hst
     skip
     refine A3 (A4 Z Z (A4 Z Z (A6 (G8 Z Z Z (by omega) (by omega)) Z (A6 (L4 Z Z hTi) Z (A4 Z Z (A4 Z Z (E4 Z Z (A4 Z Z (A6 (U3 Z Z (by omega)) Z (A6 (E2 Z Z Z (by omega) (by omega)) Z (G1 (H0 TySz.out Z Z (by (rw [hRl];simp;omega)) Z Z) ?_)))))))))));refine A5 ?_;refine k4 (k4 (k1 ?_))
     rw [←hst]
     exact I81 ⟨le1 rfl,le1 rfl,le1 rfl,le1 rfl,le1 rfl,trivial⟩ ⟨rfl,rfl,trivial⟩
    ·have hia:i < a.length:=by have:=A1 ht;omega
     refine k2 (A3 (A4 Z Z (A4 Z Z (E4 Z Z (A6 (Q0 Z Z) Z (A7 Z Z (A5 ?_)))))));refine k1 ?_;refine B5 rfl (fun ht=>?_) (fun ht=>?_)
     ·have hjb:j=b.length:=by have:=A0 ht;omega
      have hd:(dist (a.drop i) (b.drop j):Int)=a.length - i:=by rw [hjb,J23 (Nat.le_refl b.length),A04,J31];omega
      rw [hd] at hst
      skip
      refine A3 (A4 Z Z (A4 Z Z (A6 (G8 Z Z Z (by omega) (by omega)) Z (A6 (L4 Z Z hTi) Z (A4 Z Z (A4 Z Z (E4 Z Z (A4 Z Z (A6 (U3 Z Z (by omega)) Z (A6 (E2 Z Z Z (by omega) (by omega)) Z (G1 (H0 TySz.out Z Z (by (rw [hRl];simp;omega)) Z Z) ?_)))))))))));refine A5 ?_;refine k4 (k4 (k1 ?_))
      rw [←hst]
      exact I81 ⟨le1 rfl,le1 rfl,le1 rfl,le1 rfl,le1 rfl,trivial⟩ ⟨rfl,rfl,trivial⟩
     ·have hjb:j < b.length:=by have:=A1 ht;omega
      have hva:a[i]?=some a[i]:=by simp [hia]
      have hvb:b[j]?=some b[j]:=by simp [hjb]
      have hdd:=E80 a b i j hia hjb
      have hTn':=hTn hia
      refine k2 (D5 (by kernel_rfl) (by kernel_rfl) (D3 Z Z (D3 Z Z (B1 (A9 Z (.pure _ _ _ _) Z (by omega) hva) Z Z (B1 (B3 Z Z) Z Z (D3 Z Z (D3 Z Z (B1 (A9 Z (.pure _ _ _ _) Z (by omega) hvb) Z Z (B1 (B3 Z Z) Z Z (B1 (Q0 Z Z) Z Z (B1 (K8 Z Z) Z Z (O2 ?_))))))))))));refine k1 ?_;refine B5 rfl (fun ht=>?_) (fun ht=>?_)
      ·rw [if_pos (A0 ht)] at hdd
       have hg:=u5 a b (i+1) 0 (j+1) (Nat.zero_le _) hjb
       rw [hdd] at hst
       skip
       refine D5 (by kernel_rfl) (by kernel_rfl) (D3 Z Z (D3 Z Z (B1 (G8 Z Z Z (by omega) (by omega)) Z Z (B1 (L4 Z Z hTi) Z Z (D3 Z Z (D3 Z Z (D3 Z Z (B1 (U2 Z Z (by omega)) Z Z (B1 (G8 Z Z Z (by omega) (by omega)) Z Z (B1 (L4 Z Z hTn') Z Z (D3 Z Z (B1 (U2 Z Z (by omega)) Z Z (B1 (A9 Z (.pure _ _ _ _) Z (by omega) hg) Z Z (B1 (B3 Z Z) Z Z (B1 (E2 Z Z Z (by omega) (by omega)) Z Z (A89 (H0 TySz.out Z Z (by (rw [hRl];simp;omega)) Z Z) Z ?_))))))))))))))));refine O2 ?_;refine k4 (k4 (k1 ?_))
       rw [←hst]
       exact I81 ⟨le1 rfl,le1 rfl,le1 rfl,le1 rfl,le1 rfl,trivial⟩ ⟨rfl,rfl,trivial⟩
      ·rw [if_neg (A1 ht)] at hdd
       have hg1:=u5 a b (i+1) 0 j (Nat.zero_le _) (by omega)
       have hg2:=u5 a b i (j+1) (j+1) (Nat.le_refl _) (by omega)
       have hl1:=B48 (a.drop (i+1)) (b.drop j)
       have hl2:=B48 (a.drop i) (b.drop (j+1))
       simp only [J31] at hl1 hl2
       have hval:(1:Int)+(if (dist (a.drop i) (b.drop (j+1)):Int) < (dist (a.drop (i+1)) (b.drop j):Int) then (dist (a.drop i) (b.drop (j+1)):Int) else (dist (a.drop (i+1)) (b.drop j):Int))=(dist (a.drop i) (b.drop j):Int):=by
        rw [hdd];split<;>omega
       rw [←hval] at hst
       skip
       refine D5 (by kernel_rfl) (by kernel_rfl) (D3 Z Z (D3 Z Z (B1 (G8 Z Z Z (by omega) (by omega)) Z Z (B1 (L4 Z Z hTi) Z Z (D3 Z Z (D3 Z Z (D3 Z Z (B1 (U2 Z Z (by omega)) Z Z (B1 (G8 Z Z Z (by omega) (by omega)) Z Z (B1 (L4 Z Z hTn') Z Z (D3 Z Z (B1 (A9 Z (.pure _ _ _ _) Z (by omega) hg1) Z Z (B1 (B3 Z Z) Z Z (D3 Z Z (D3 Z Z (B1 (G8 Z Z Z (by omega) (by omega)) Z Z (B1 (L4 Z Z hTi) Z Z (D3 Z Z (B1 (U2 Z Z (by omega)) Z Z (B1 (E2 Z Z Z (by omega) (by omega)) Z Z (B1 (P4 Z Z hg2 Z) Z Z (B1 (F69 Z Z) Z Z (B1 (U2 Z Z (by (constructor<;>split<;>omega))) Z Z ?_)))))))))))))))))))))));refine B1 (E2 Z Z Z (by omega) (by omega)) Z Z (A89 (H0 TySz.out Z Z (by (rw [hRl];simp;omega)) Z Z) Z ?_);refine O2 ?_;refine k4 (k4 (k1 ?_))
       rw [←hst]
       exact I81 ⟨le1 rfl,le1 rfl,le1 rfl,le1 rfl,le1 rfl,trivial⟩ ⟨rfl,rfl,trivial⟩
   ·skip
    refine A3 (A4 Z Z (A6 (U3 Z Z (by omega)) Z (A7 Z Z (A5 ?_))));refine k1 ?_
    exact ⟨j,by omega,by omega,I81 ⟨le1 rfl,le1 rfl,le1 rfl,le1 rfl,le1 rfl,trivial⟩ ⟨rfl,rfl,trivial⟩⟩
  ·obtain rfl:j=0:=by have:=A1 ht;omega
   refine H5 (Sees.freeze (k:=23) Z) ?_
   refine H5 (I97 5 (N8 a b i) Z (by simp [w7]) (by rw [hT,G66 (y:=P5 a b i 0) rfl,F38])) ?_
   refine k6 (k7 (k7 (k8 Z (k4 (k1 (A3 (A4 Z Z (A6 (U3 Z Z (by omega)) Z (A7 Z Z (A5 ?_))))))))));refine k1 ?_
   exact ⟨i,by omega,by omega,I81 ⟨le1 rfl,le1 rfl,le1 rfl,le1 rfl,trivial⟩ ⟨rfl,trivial⟩⟩
 ·obtain rfl:i=0:=by have:=A1 ht;omega
  refine H5 (Sees.freeze (k:=5) Z) ?_
  refine k6 (k2 (A3 (A4 Z Z (A7 Z Z (A5 ?_)))));refine k1 (k10 ?_)
  exact B9 (I5 rfl rfl rfl) rfl
theorem C22 (a b:List Int):∀(p q:Int),∀s∈F0 p q a b,p≤s.From∧s.From < p+a.length∧q≤s.To∧s.To < q+b.length:=by
 induction a generalizing b with
 | nil=>intro p q s hs;simp [F0] at hs
 | cons x a iha =>
  induction b with
  | nil=>intro p q s hs;simp [F0] at hs
  | cons y b ihb =>
   intro p q s hs
   rw [F0] at hs
   simp only [J16]
   split at hs
   ·rcases List.mem_cons.1 hs with rfl | hs
    ·simp only;omega
    ·have:=iha b (p+1) (q+1) s hs;omega
   ·split at hs
    ·have:=iha (y::b) (p+1) q s hs;simp only [J16] at this;omega
    ·have:=ihb p (q+1) s hs;simp only [J16] at this;omega
theorem H35 (a b:List Int) (ha:a.length≤536870911) (hb:b.length≤536870911):FnOk Tryz.prog 102 [M7 a,M7 b] (fun rs=>rs=[pChanges (J7 a b)]):=by
 refine FnOk.intro Tryz.func102 (by decide) Z Z Z Z ?_
 refine k2 (A3 (A7 Z Z (A5 ?_)));refine k1 (k2 (A3 (A4 Z Z (A4 Z Z (C6 (I39 a b (by omega) (by omega)) Z Z Z ?_)))));rintro _ rfl;refine A7 Z Z (A5 ?_);refine k1 (k2 (A3 (C2 (X5 6 _ spanC Z) Z (A5 ?_))));refine k1 (k2 (A3 (A7 Z Z (A7 Z Z (A5 ?_)))));refine k1 (k2 (k3 ?_));refine D2 (X:=Nat × Nat × List Span) (fun x=>([(0,C0 Int 1 G3 a),(1,C0 Int 1 G3 b),(5,C0 (List Int) 1 intsC (B49 a b)),(6,.s (.one (.buf 6 Span 2 spanC x.2.2))),(7,B6 x.1),(8,B6 x.2.1)],[(6,.spare x.2.2.length 2 88)]))
  (fun x=>x.1≤a.length∧x.2.1≤b.length∧x.2.2.length≤x.1∧x.2.2++F0 x.1 x.2.1 (a.drop x.1) (b.drop x.2.1)=F0 0 0 a b) (fun x=>a.length+b.length - x.1 - x.2.1) (0,0,[]) (by simp) (I81 ⟨le1 rfl,le1 rfl,le1 rfl,le1 rfl,le1 rfl,le1 rfl,trivial⟩ ⟨rfl,trivial⟩) ?_
 rintro ⟨i,j,out⟩ ⟨hi,hj,ho,hp⟩
 dsimp only at hi hj ho hp ⊢
 refine k2 (k2 (A3 (A4 Z Z (A4 Z Z (E4 Z Z (F4 Z Z Z (A4 Z Z (B2 Z Z Z Z (fun hg=>by rw [hg];exact C3 Z Z) ?_))))))));refine B2 Z Z Z Z (fun hg=>by rw [hg];exact C3 Z Z) ?_;refine B2 Z Z Z Z (fun hg=>by rw [hg];exact V1 Z (.pure _ _ _ _)) ?_;refine B2 Z Z Z Z (fun hg=>by rw [hg];exact B02 Z Z) ?_;refine J5 Z Z ?_;refine A5 ?_;refine k1 ?_;refine B5 rfl (fun ht=>?_) (fun ht=>?_)
 ·have hor:=A0 (or_pick.symm.trans ht)
  refine F08 ?_
  refine K4 ?_
  refine k3 (k3 (k2 ?_))
  have hTi:i < a.length→(B49 a b)[i]?=some (P5 a b i 0):=fun h=>A65 a b 0 i (Nat.zero_le _) (by omega)
  have hTn:i < a.length→(B49 a b)[i+1]?=some (P5 a b (i+1) 0):=fun h=>A65 a b 0 (i+1) (Nat.zero_le _) (by omega)
  have hva:i < a.length→a[i]?=some (a.getD i 0):=fun h=>by simp [J17,h]
  have hvb:j < b.length→b[j]?=some (b.getD j 0):=fun h=>by simp [J17,h]
  have hga:∀h:i < a.length,a.getD i 0=a[i]:=fun h=>by simp [J17,h]
  have hgb:∀h:j < b.length,b.getD j 0=b[j]:=fun h=>by simp [J17,h]
  refine D5 (by kernel_rfl) (by kernel_rfl) (D3 Z Z (D3 Z Z (B1 (V1 Z (.pure _ _ _ _)) Z Z (B1 (B02 Z Z) Z Z (D3 Z Z (D4 Z Z (fun hg=>by rw [hg];exact C3 Z Z) Z Z ?_))))));refine D4 Z Z (fun hg=>by rw [hg];exact C3 Z Z) Z Z ?_;refine D4 Z Z (fun hg=>by rw [hg];exact V1 Z (.pure _ _ _ _)) Z Z ?_;refine D4 Z Z (fun hg=>by rw [hg];exact B02 Z Z) Z Z ?_;refine B1 (K6 Z (fun h=>by first | rfl | (rw [h];rfl)) (fun h=>by first | rfl | (rw [h];rfl))) Z Z ?_;refine D3 Z Z (D4 Z Z (fun hg=>by rw [hg];exact C3 Z Z) Z Z ?_);refine D4 Z Z (fun hg=>by rw [hg];exact C3 Z Z) Z Z ?_;refine D4 Z Z (fun hg=>by have hq:=hg;(try simp at hq);rw [hg];exact A9 Z (.pure _ _ _ _) Z (by omega) (hva (by omega))) Z Z ?_;refine D4 Z Z (fun hg=>by rw [hg];exact B3 Z Z) Z Z ?_;refine D4 Z Z (fun hg=>by rw [hg];exact C3 Z Z) Z Z ?_;refine D4 Z Z (fun hg=>by rw [hg];exact C3 Z Z) Z Z ?_;refine D4 Z Z (fun hg=>by have hq:=hg;(try simp at hq);rw [hg];exact A9 Z (.pure _ _ _ _) Z (by omega) (hvb (by omega))) Z Z ?_;refine D4 Z Z (fun hg=>by rw [hg];exact B3 Z Z) Z Z ?_;refine D4 Z Z (fun hg=>by rw [hg];exact Q0 Z Z) Z Z ?_;refine B1 (K6 Z (fun h=>by first | rfl | (rw [h];rfl)) (fun h=>by first | rfl | (rw [h];rfl))) Z Z ?_;refine B1 (K8 Z Z) Z Z (O2 ?_);refine k1 ?_;refine B5 rfl (fun ht=>?_) (fun ht=>?_)
  ·simp only [Q2] at ht
   obtain ⟨⟨hia,hjb⟩,heq⟩:=A0 ht
   have hia':i < a.length:=by omega
   have hjb':j < b.length:=by omega
   rw [hga hia',hgb hjb'] at heq
   rw [u0 a b i j hia' hjb',if_pos heq] at hp
   refine k2 (A3 (A4 Z Z (A4 Z Z (A4 Z Z (A6 (I1 Z) Z (A6 (C9 (c:=spanC) (ys:=[⟨_,_⟩]) (E0 Z Z Z Z G6) Z Z Z) Z (C2 (H4 Z Z Z (.pure _ _ _ _) (by simp;omega) Z) Z (A7 Z Z (A5 ?_)))))))));refine k1 (A3 (A4 Z Z (C5 Z Z Z (A4 Z Z (C5 Z Z Z (A7 Z Z (A7 Z Z (A5 ?_))))))));refine k4 (k4 (k1 ?_))
   exact ⟨(i+1,j+1,out++[⟨i,j⟩]),⟨by dsimp only;omega,by dsimp only;omega,by dsimp only;simp;omega,by dsimp only;rw [J25];exact hp⟩,by dsimp only;omega,I81 ⟨le1 rfl,le1 rfl,le1 rfl,le1 rfl,le1 rfl,le1 rfl,trivial⟩ ⟨rfl,trivial⟩⟩
  ·have hne:∀(h1:i < a.length) (h2:j < b.length),a[i]≠b[j]:=fun h1 h2 h=>by
    simp only [Q2] at ht
    exact A1 ht ⟨⟨by omega,by omega⟩,by rw [hga h1,hgb h2];exact h⟩
   refine k2 (D5 (by kernel_rfl) (by kernel_rfl) (D3 Z Z (D3 Z Z (B1 (V1 Z (.pure _ _ _ _)) Z Z (B1 (B02 Z Z) Z Z (D3 Z Z (D4 Z Z (fun hg=>by rw [hg];exact C3 Z Z) Z Z ?_)))))));refine D4 Z Z (fun hg=>by rw [hg];exact C3 Z Z) Z Z ?_;refine D4 Z Z (fun hg=>by have hq:=hg;(try simp at hq);rw [hg];exact U2 Z Z (by omega)) Z Z ?_;refine D4 Z Z (fun hg=>by have hq:=hg;(try simp at hq);rw [hg];exact A9 Z (.pure _ _ _ _) Z (by omega) (hTn (by omega))) Z Z ?_;refine D4 Z Z (fun hg=>by rw [hg];exact B3 Z Z) Z Z ?_;refine D4 Z Z (fun hg=>by rw [hg];exact C3 Z Z) Z Z ?_;refine D4 Z Z (fun hg=>by have hq:=hg;(try simp at hq);rw [hg];exact A9 Z (.pure _ _ _ _) Z (by omega) (u5 a b (i+1) 0 j (Nat.zero_le _) hj)) Z Z ?_;refine D4 Z Z (fun hg=>by rw [hg];exact B3 Z Z) Z Z ?_;refine D4 Z Z (fun hg=>by have hq:=hg;(try simp at hq);have h1:=B48 (a.drop (i+1)) (b.drop j);simp only [J31] at h1;rw [hg];exact U2 Z Z (by omega)) Z Z ?_;refine D4 Z Z (fun hg=>by rw [hg];exact C3 Z Z) Z Z ?_;refine D4 Z Z (fun hg=>by rw [hg];exact C3 Z Z) Z Z ?_;refine D4 Z Z (fun hg=>by have hq:=hg;(try simp at hq);rw [hg];exact A9 Z (.pure _ _ _ _) Z (by omega) (hTi (by omega))) Z Z ?_;refine D4 Z Z (fun hg=>by rw [hg];exact B3 Z Z) Z Z ?_;refine D4 Z Z (fun hg=>by rw [hg];exact C3 Z Z) Z Z ?_;refine D4 Z Z (fun hg=>by have hq:=hg;(try simp at hq);rw [hg];exact A9 Z (.pure _ _ _ _) Z (by omega) (u5 a b i 0 j (Nat.zero_le _) hj)) Z Z ?_;refine D4 Z Z (fun hg=>by rw [hg];exact B3 Z Z) Z Z ?_;refine D4 Z Z (fun hg=>by rw [hg];exact Q0 Z Z) Z Z ?_;refine B1 (K6 Z (fun h=>by first | rfl | (rw [h];rfl)) (fun h=>by first | rfl | (rw [h];rfl))) Z Z ?_;refine B1 (K8 Z Z) Z Z (O2 ?_);refine k1 ?_;refine B5 rfl (fun ht=>?_) (fun ht=>?_)
   ·rw [Q2] at ht
    obtain ⟨hia,hd⟩:=A0 ht
    have hia':i < a.length:=by omega
    have hp':out++F0 (i+1:Nat) j (a.drop (i+1)) (b.drop j)=F0 0 0 a b:=by
     by_cases hjb:j < b.length
     ·rw [u0 a b i j hia' hjb,if_neg (hne hia' hjb),if_pos (by omega)] at hp
      exact hp
     ·rw [J23 (show b.length≤j by omega),X9] at hp ⊢
      exact hp
    skip
    refine A3 (A4 Z Z (C5 Z Z Z (A7 Z Z (A5 ?_))));refine k4 (k4 (k1 ?_))
    exact ⟨(i+1,j,out),⟨by dsimp only;omega,by dsimp only;omega,by dsimp only;omega,hp'⟩,by dsimp only;omega,I81 ⟨le1 rfl,le1 rfl,le1 rfl,le1 rfl,le1 rfl,le1 rfl,trivial⟩ ⟨rfl,trivial⟩⟩
   ·rw [Q2] at ht
    have hd:=A1 ht
    have hjb:j < b.length:=by
     refine Classical.byContradiction fun h=>?_
     have hjb:j=b.length:=by omega
     have hia:i < a.length:=by omega
     apply hd
     refine ⟨by omega,?_⟩
     rw [J23 (show b.length≤j by omega),A04,A04,J31,J31]
     omega
    have hp':out++F0 i (j+1:Nat) (a.drop i) (b.drop (j+1))=F0 0 0 a b:=by
     by_cases hia:i < a.length
     ·rw [u0 a b i j hia hjb,if_neg (hne hia hjb),if_neg (fun h=>hd ⟨by omega,by omega⟩)] at hp
      exact hp
     ·rw [J23 (show a.length≤i by omega),V4] at hp ⊢
      exact hp
    skip
    refine A3 (A4 Z Z (C5 Z Z Z (A7 Z Z (A5 ?_))));refine k4 (k4 (k1 ?_))
    exact ⟨(i,j+1,out),⟨by dsimp only;omega,by dsimp only;omega,by dsimp only;omega,hp'⟩,by dsimp only;omega,I81 ⟨le1 rfl,le1 rfl,le1 rfl,le1 rfl,le1 rfl,le1 rfl,trivial⟩ ⟨rfl,trivial⟩⟩
 ·have hor:=A1 (or_pick.symm.trans ht)
  have hi':i=a.length:=by omega
  have hj':j=b.length:=by omega
  rw [hi',J23 (Nat.le_refl a.length)] at hp
  have hout:out=F0 0 0 a b:=by rw [←hp];simp [F0]
  refine k6 (k2 (A3 (A4 Z Z (A4 Z Z (E4 Z Z (A4 Z Z (E4 Z Z (C6 (made_ok out a.length b.length (by omega) (fun s hs=>by have:=C22 a b 0 0 s (hout ▸ hs);omega) (by omega)) Z Z Z ?_))))))));rintro _ rfl;refine A7 Z Z (A5 ?_);refine k1 (k10 ?_)
  exact B9 (I5 rfl rfl rfl) (by rw [hout];rfl)
theorem E67 (a b:List Int):FnOk Tryz.prog 213 [M7 a,M7 b] (fun rs=>rs=if 4096 < a.length∨4096 < b.length then [pChanges [],J0 1] else [pChanges (J7 a b),J0 0]):=by
 refine FnOk.intro Tryz.func213 (by decide) Z Z Z Z ?_
 refine k2 (A3 (A7 Z Z (A7 Z Z (A5 ?_))));refine k1 (k2 (k2 (A3 (A4 Z Z (A4 Z Z (C6 (long_ok a b) Z Z Z ?_))))));rintro _ rfl;refine A5 ?_;refine k1 ?_;refine B5 rfl (fun ht=>?_) (fun ht=>?_)
 ·have h:=A0 ht
  refine k2 (A3 (A6 (M5 _ 4 changeC) Z (A7 Z Z (A5 ?_))));refine k1 (k10 (k11 ?_))
  exact B9 (y7 rfl rfl rfl rfl rfl) (by rw [if_pos h])
 ·have h:=A1 ht
  refine k5 (k1 (k2 (A3 (A4 Z Z (A4 Z Z (C6 (H35 a b (by omega) (by omega)) Z Z Z ?_))))));rintro _ rfl;refine A7 Z Z (A7 Z Z (A5 ?_));refine k1 (k10 ?_)
  exact B9 (y7 rfl rfl rfl rfl rfl) (by rw [if_neg h])
theorem D58 (l:List Change) (m:Int) (hl:l.length≤1048576) (hm:m≤536870911) (hb:∀c∈l,c.Old≤536870911∧0≤c.OldLen∧c.OldLen≤1048576∧0≤c.NewLen∧c.NewLen≤1048576) :
  FnOk Tryz.prog 103 [pChanges l,J0 m] (fun rs=>rs=[pSpans (O9 l m)]):=by
 refine FnOk.intro Tryz.func103 (by decide) Z Z Z Z ?_
 refine k2 (A3 (A7 Z Z (A5 ?_)));refine k1 (k2 (A3 (C2 (X5 5 _ spanC Z) Z (A5 ?_))));refine k1 (k2 (A3 (A7 Z Z (A7 Z Z (A5 ?_)))));refine k1 (k2 (k2 (A3 (A7 Z Z (A5 ?_)))));refine k1 (k3 ?_);refine D2 (X:=Nat × Int × Int × List Span) (fun x=>([(0,C0 Change 4 changeC l),(1,B6 m),(5,.s (.one (.buf 5 Span 2 spanC x.2.2.2))),(6,B6 x.2.1),(7,B6 x.2.2.1),(8,B6 x.1)],[(5,.spare x.2.2.2.length 2 88)]))
  (fun x=>x.1≤l.length∧0≤x.2.1∧(x.2.2.2.length:Int)≤x.2.1∧x.2.1≤536870911+x.1*1048576∧0≤x.2.2.1∧x.2.2.1≤536870911*(x.1+1)+x.1*1048576∧x.2.2.2.length≤536870911∧x.2.2.2++K0 x.2.1 x.2.2.1 (l.drop x.1) m=O9 l m)
  (fun x=>l.length - x.1) (0,0,0,[]) (by simp [O9]) (I81 ⟨le1 rfl,le1 rfl,le1 rfl,le1 rfl,le1 rfl,le1 rfl,trivial⟩ ⟨rfl,trivial⟩) ?_
 rintro ⟨k,i,j,out⟩ ⟨hk,hi,ho,hi2,hj,hj2,ho2,hp⟩
 dsimp only at hk hi ho hi2 hj hj2 ho2 hp ⊢
 refine k2 (k2 (A3 (A4 Z Z (A4 Z Z (E4 Z Z (F4 Z Z Z (A5 ?_)))))));refine k1 ?_;refine B5 rfl (fun ht=>?_) (fun ht=>?_)
 ·have hlt:k < l.length:=by have:=A0 ht;omega
  have hv:l[k]?=some l[k]:=by simp [hlt]
  have hc:=hb l[k] (J26 hlt)
  rw [J20 hlt,K0] at hp
  refine k5 (k1 (k2 (k3 (k2 (k3 ?_)))));refine D2 (X:=Nat) (fun t=>([(0,C0 Change 4 changeC l),(1,B6 m),(5,.s (.one (.buf 5 Span 2 spanC (out++N4 i j t)))),(6,B6 (i+t)),(7,B6 (j+t)),(8,B6 k)],[(5,.spare (out++N4 i j t).length 2 88)]))
   (fun t=>t≤(l[k].Old - i).toNat) (fun t=>(l[k].Old - i).toNat - t) 0 (Nat.zero_le _) (by rw [j6,J35];exact I81 ⟨le1 rfl,le1 rfl,le1 rfl,leE rfl (by first | (simp;done) | (simp;omega)),leE rfl (by first | (simp;done) | (simp;omega)),le1 rfl,trivial⟩ ⟨rfl,trivial⟩) ?_
  intro t htl
  dsimp only at htl ⊢
  have hsl:=A03 i j t
  refine k2 (k2 ?_)
  have hol:out.length+t≤536870911:=by omega
  refine A3 (A4 Z Z (A4 Z Z (A4 Z Z (A6 (A9 Z (.pure _ _ _ _) Z (by omega) hv) Z (A6 (G7 Z) Z (A6 (B3 Z Z) Z (F4 Z Z Z (A5 ?_))))))));refine k1 ?_;refine B5 rfl (fun ht=>?_) (fun ht=>?_)
  ·have h1:=A0 ht
   refine k5 (k1 (k3 (k2 (A3 (A4 Z Z (A4 Z Z (A4 Z Z (A6 (I1 Z) Z (A6 (C9 (c:=spanC) (ys:=[⟨_,_⟩]) (E0 Z Z Z Z G6) Z Z Z) Z (C2 (H4 Z Z Z (.pure _ _ _ _) (by (simp;omega)) Z) Z (A7 Z Z (A5 ?_))))))))))));refine k1 (A3 (A4 Z Z (C5 Z Z Z (A4 Z Z (C5 Z Z Z (A7 Z Z (A7 Z Z (A5 ?_))))))));refine k4 (k1 ?_);refine ⟨t+1,by omega,by omega,?_⟩
   rw [A66,←J25]
   exact I81 ⟨le1 rfl,le1 rfl,le1 rfl,leE rfl (by first | (simp;done) | (simp;omega)),leE rfl (by first | (simp;done) | (simp;omega)),le1 rfl,trivial⟩ ⟨rfl,trivial⟩
  ·have h1:=A1 ht
   have h2:t=(l[k].Old - i).toNat:=by omega
   rw [←h2] at hp
   have h3:max i l[k].Old=i+t:=by omega
   rw [h3] at hp
   refine k6 (k7 (k7 (k8 Z (k1 (D5 (by kernel_rfl) (by kernel_rfl) (D3 Z Z (D3 Z Z (D3 Z Z (B1 (A9 Z (.pure _ _ _ _) Z (by omega) hv) Z Z (B1 (G7 Z) Z Z (B1 (B3 Z Z) Z Z (B1 (U2 Z Z (by omega)) Z Z (D3 Z Z (D3 Z Z (D3 Z Z (B1 (A9 Z (.pure _ _ _ _) Z (by omega) hv) Z Z (B1 (G7 Z) Z Z (B1 (B3 Z Z) Z Z (B1 (U2 Z Z (by omega)) Z Z (B1 (K8 Z Z) Z Z (B1 (K8 Z Z) Z Z (O2 ?_))))))))))))))))))))));refine k4 (k1 (A3 (A4 Z Z (C5 Z Z Z (A7 Z Z (A5 ?_))))));refine k1 ?_
   exact ⟨(k+1,i+t+l[k].OldLen,j+t+l[k].NewLen,out++N4 i j t),⟨by dsimp only;omega,by dsimp only;omega,by dsimp only;rw [J15,hsl];omega,by dsimp only;omega,by dsimp only;omega,by dsimp only;omega,by dsimp only;rw [J15,hsl];omega,by dsimp only;rw [J25];exact hp⟩,by dsimp only;omega,I81 ⟨le1 rfl,le1 rfl,le1 rfl,le1 rfl,le1 rfl,le1 rfl,trivial⟩ ⟨rfl,trivial⟩⟩
 ·have hk':k=l.length:=by have:=A1 ht;omega
  rw [hk',J23 (Nat.le_refl _),K0] at hp
  refine k6 (k2 (k3 ?_));refine D2 (X:=Nat) (fun t=>([(1,B6 m),(5,.s (.one (.buf 5 Span 2 spanC (out++N4 i j t)))),(6,B6 (i+t)),(7,B6 (j+t))],[(5,.spare (out++N4 i j t).length 2 88)]))
   (fun t=>t≤(m - i).toNat) (fun t=>(m - i).toNat - t) 0 (Nat.zero_le _) (by rw [j6,J35];exact I81 ⟨le1 rfl,le1 rfl,leE rfl (by first | (simp;done) | (simp;omega)),leE rfl (by first | (simp;done) | (simp;omega)),trivial⟩ ⟨rfl,trivial⟩) ?_
  intro t htl
  dsimp only at htl ⊢
  have hsl:=A03 i j t
  have hol:out.length+t≤536870911:=by omega
  refine k2 (k2 (A3 (A4 Z Z (A4 Z Z (F4 Z Z Z (A5 ?_))))));refine k1 ?_;refine B5 rfl (fun ht=>?_) (fun ht=>?_)
  ·have h1:=A0 ht
   refine k5 (k1 (k3 (k2 (A3 (A4 Z Z (A4 Z Z (A4 Z Z (A6 (I1 Z) Z (A6 (C9 (c:=spanC) (ys:=[⟨_,_⟩]) (E0 Z Z Z Z G6) Z Z Z) Z (C2 (H4 Z Z Z (.pure _ _ _ _) (by (simp;omega)) Z) Z (A7 Z Z (A5 ?_))))))))))));refine k1 (A3 (A4 Z Z (C5 Z Z Z (A4 Z Z (C5 Z Z Z (A7 Z Z (A7 Z Z (A5 ?_))))))));refine k4 (k1 ?_);refine ⟨t+1,by omega,by omega,?_⟩
   rw [A66,←J25]
   exact I81 ⟨le1 rfl,le1 rfl,leE rfl (by first | (simp;done) | (simp;omega)),leE rfl (by first | (simp;done) | (simp;omega)),trivial⟩ ⟨rfl,trivial⟩
  ·have h1:=A1 ht
   have h2:t=(m - i).toNat:=by omega
   refine k6 (k2 (A3 (A4 Z Z (A7 Z Z (A5 ?_)))));refine k1 (k10 ?_)
   exact B9 (I5 rfl rfl rfl) (by rw [h2,hp])
theorem E68 (l:List Merged) (list:List Int) (p:Int) (hl:l.length≤536870912):FnOk Tryz.prog 170 [pMerged l,M7 list,J0 p] (fun rs=>rs=if 4096 < l.length∨4096 < list.length then [pMerged [],J0 1] else [pMerged (O7 l list p),J0 0]):=by
 refine FnOk.intro Tryz.func170 (by decide) Z Z Z Z ?_
 refine k2 (A3 (A7 Z Z (A7 Z Z (A5 ?_))));refine k1 (k2 ?_)
 have hlm:(E6 l).length=l.length:=by simp [E6]
 by_cases hbig:4096 < l.length∨4096 < list.length
 ·rw [if_pos hbig]
  refine A3 (A4 Z Z (C6 (E66 l hl) Z Z Z ?_));rintro _ rfl;refine A4 Z Z (C6 ((E67 (E6 l) list).mono (post':=fun rs=>rs=[pChanges [],J0 1]) (fun rs h=>by rw [if_pos (by rw [hlm];exact hbig)] at h;exact h)) Z Z Z ?_);rintro _ rfl;refine A4 Z Z (J4 Z Z Z (J4 Z Z Z (A7 Z Z (A7 Z Z (A5 ?_)))));refine k1 (k2 (k2 (A3 (A4 Z Z (A6 (O6 Z Z) Z (A5 ?_))))));refine k1 ?_;refine B5 rfl (fun ht=>?_) (fun ht=>?_)
  ·refine k2 (A3 (A6 (M5 _ 2 mergedC) Z (A7 Z Z (A5 ?_))));refine k1 (k10 (k11 ?_))
   exact B9 (y7 rfl rfl rfl rfl rfl) rfl
  ·cases A1 ht (by decide)
 ·rw [if_neg hbig]
  refine A3 (A4 Z Z (C6 (E66 l hl) Z Z Z ?_));rintro _ rfl;refine A4 Z Z (C6 ((E67 (E6 l) list).mono (post':=fun rs=>rs=[pChanges (J7 (E6 l) list),J0 0]) (fun rs h=>by rw [if_neg (by rw [hlm];exact hbig)] at h;exact h)) Z Z Z ?_);rintro _ rfl;refine A4 Z Z (J4 Z Z Z (J4 Z Z Z (A7 Z Z (A7 Z Z (A5 ?_)))));refine k1 (k2 (k2 (A3 (A4 Z Z (A6 (O6 Z Z) Z (A5 ?_))))));refine k1 ?_;refine B5 rfl (fun ht=>?_) (fun ht=>?_)
  ·cases A0 ht rfl
  ·have hwb:=A68 (E6 l) list
   have hwl:(J7 (E6 l) list).length≤4097:=by
    have h1:=s6 (F0 0 0 (E6 l) list) 0 0 (E6 l).length list.length
    have h2:=T4 0 0 (E6 l) list
    unfold J7 Y0;omega
   have hmw:=A67 (E6 l) list
   have hasc:=T5 (E6 l) list 0 0
   rw [Int.zero_add,Int.zero_add] at hasc
   have hpl:=T4 0 0 (E6 l) list
   rw [hlm] at hmw hasc hpl
   obtain ⟨ps,hps⟩:∃ps,ps=F0 0 0 (E6 l) list:=⟨_,rfl⟩
   refine k5 (k1 (k2 (A3 (A4 Z Z (A4 Z Z (E4 Z Z (C6 (D58 (J7 (E6 l) list) l.length (by omega) (by omega) (fun c hc=>by have:=hwb c hc;rw [hlm] at this;omega)) Z Z Z ?_)))))));rintro _ rfl;refine A7 Z Z (A5 ?_);refine k1 (k2 ?_)
   rw [hmw,←hps]
   rw [←hps] at hasc hpl
   refine A3 (C2 (X5 11 _ mergedC Z) Z (A5 ?_));refine k1 (k2 (A3 (A7 Z Z (A7 Z Z (A5 ?_)))));refine k1 (k2 (k2 (A3 (A7 Z Z (A5 ?_)))));refine k1 (k3 ?_)
   have hlb:l.length≤4096∧list.length≤4096:=by omega
   have hwp:=B89 p
   refine D2 (X:=Nat × Nat × Nat × List Merged) (fun x=>([(0,C0 Merged 2 mergedC l),(1,C0 Int 1 G3 list),(2,B6 p),(10,C0 Span 2 spanC ps),(11,.s (.one (.buf 11 Merged 2 mergedC x.2.2.2))),(12,B6 x.2.1),(13,B6 x.2.2.1),(14,B6 x.1)],[(11,.spare x.2.2.2.length 2 151)]))
    (fun x=>x.1≤ps.length+1∧x.2.2.2.length≤x.2.1+x.2.2.1∧x.2.1≤l.length∧x.2.2.1≤list.length∧(x.1≤ps.length→Asc l.length list.length x.2.1 x.2.2.1 (ps.drop x.1)∧x.2.2.2++N6 l list (G4 p) x.2.1 x.2.2.1 (ps.drop x.1)=N6 l list (G4 p) 0 0 ps)∧(x.1=ps.length+1→x.2.2.2=N6 l list (G4 p) 0 0 ps))
    (fun x=>ps.length+1 - x.1) (0,0,0,[]) (by simpa using hasc) (I81 ⟨le1 rfl,le1 rfl,le1 rfl,le1 rfl,le1 rfl,le1 rfl,le1 rfl,le1 rfl,trivial⟩ ⟨rfl,trivial⟩) ?_
   rintro ⟨k,i,j,out⟩ ⟨hk,ho,hi,hj,h1,h2⟩
   dsimp only at hk ho hi hj h1 h2 ⊢
   refine k2 (k2 (A3 (A4 Z Z (A4 Z Z (E4 Z Z (A6 (A39 Z Z) Z (A5 ?_)))))));refine k1 ?_;refine B5 rfl (fun ht=>?_) (fun ht=>?_)
   ·have hk':k≤ps.length:=by have:=A0 ht;omega
    obtain ⟨ha,hp⟩:=h1 hk'
    refine k5 (k1 (k2 (k3 (k2 (A3 (A4 Z Z (E4 Z Z (A4 Z Z (E4 Z Z (A6 (I1 Z) Z (C2 (H3 15 Z) Z (G1 (B7 TySz.out Z Z Z Z Z Z) (A5 ?_)))))))))))));refine K4 ?_
    obtain ⟨x,hx⟩:∃x,x=ps.getD k ⟨l.length,list.length⟩:=⟨_,rfl⟩
    have hstep:(i:Int)≤x.From∧(j:Int)≤x.To∧x.From≤l.length∧x.To≤list.length∧(k < ps.length→x.From < l.length∧x.To < list.length∧Asc l.length list.length (x.From+1) (x.To+1) (ps.drop (k+1))) ∧
      N6 l list (G4 p) i j (ps.drop k)=(l.drop i).take (x.From.toNat - i)++(((list.drop j).take (x.To.toNat - j)).map fun v=>⟨v,G4 p⟩)++(if k < ps.length then (l[x.From.toNat]?.map fun y=>(⟨y.Line,I8 y.Parents (G4 p)⟩:Merged)).toList++N6 l list (G4 p) (x.From.toNat+1) (x.To.toNat+1) (ps.drop (k+1)) else []):=by
     by_cases h:k < ps.length
     ·have hxk:x=ps[k]:=by rw [hx,J17,J14 h];rfl
      rw [J20 h,←hxk] at ha
      obtain ⟨a1,a2,a3⟩:=ha
      have a4:=a3.le
      refine ⟨a1,a2,by omega,by omega,fun _=>⟨by omega,by omega,a3⟩,?_⟩
      rw [J20 h,←hxk,if_pos h];rfl
     ·have hxk:x=⟨l.length,list.length⟩:=by rw [hx,J17,J39 (by omega)];rfl
      rw [hxk,if_neg h,J23 (show ps.length≤k by omega)]
      refine ⟨by simp only;omega,by simp only;omega,Int.le_refl _,Int.le_refl _,fun h'=>absurd h' h,?_⟩
      simp [N6]
    obtain ⟨hx1,hx2,hx3,hx4,hx5,hjg⟩:=hstep
    refine z6 [(0,C0 Merged 2 mergedC l),(1,C0 Int 1 G3 list),(2,B6 p),(10,C0 Span 2 spanC ps),(11,.s (.one (.buf 11 Merged 2 mergedC out))),(12,B6 i),(13,B6 j),(14,B6 k),(15,.s (.one (.ref 15 0)))] [(15,.box [.p (.v (.int .i64 x.From)),.p (.v (.int .i64 x.To))]),(11,.spare out.length 2 151)] ?_ ?_
    ·refine k2 (A3 (A4 Z Z (A4 Z Z (E4 Z Z (F4 Z Z Z (A5 ?_))))));refine k1 ?_;refine B5 rfl (fun ht=>?_) (fun ht=>?_)
     ·have hlt:k < ps.length:=by have:=A0 ht;omega
      have hv:ps[k]?=some ps[k]:=by simp [hlt]
      have:x=ps[k]:=by rw [hx,J17,hv];rfl
      subst this
      skip
      refine A3 (A4 Z Z (A4 Z Z (A6 (A9 Z (.pure _ _ _ _) Z (by omega) hv) Z (A6 (F5 Z Z) Z (G1 (B7 TySz.out Z Z Z Z Z Z) (A5 ?_))))));refine k1 ?_
      exact I81 ⟨le1 rfl,le1 rfl,le1 rfl,le1 rfl,le1 rfl,le1 rfl,le1 rfl,le1 rfl,le1 rfl,trivial⟩ ⟨rfl,rfl,trivial⟩
     ·have hlt:¬k < ps.length:=by have:=A1 ht;omega
      have:x=⟨l.length,list.length⟩:=by rw [hx,J17,J39 (by omega)];rfl
      subst this
      refine k5 (k1 ?_)
      exact I81 ⟨le1 rfl,le1 rfl,le1 rfl,le1 rfl,le1 rfl,le1 rfl,le1 rfl,le1 rfl,le1 rfl,trivial⟩ ⟨rfl,rfl,trivial⟩
    ·obtain ⟨f,hf⟩:∃f:Nat,x.From=f:=⟨x.From.toNat,by omega⟩
     obtain ⟨g,hg⟩:∃g:Nat,x.To=g:=⟨x.To.toNat,by omega⟩
     rw [hf] at hx1 hx3 hx5 hjg
     rw [hg] at hx2 hx4 hx5 hjg
     simp only [J21] at hjg
     rw [hf,hg]
     refine k2 (k3 ?_);refine D2 (X:=Nat) (fun t=>([(0,C0 Merged 2 mergedC l),(1,C0 Int 1 G3 list),(2,B6 p),(10,C0 Span 2 spanC ps),(11,.s (.one (.buf 11 Merged 2 mergedC (out++(l.drop i).take t)))),(12,B6 ((i+t:Nat):Int)),(13,B6 j),(14,B6 k),(15,.s (.one (.ref 15 0)))],[(15,.box [.p (.v (.int .i64 f)),.p (.v (.int .i64 g))]),(11,.spare (out++(l.drop i).take t).length 2 151)]))
      (fun t=>t≤f - i) (fun t=>f - i - t) 0 (Nat.zero_le _) (by rw [List.take_zero,J35];exact I81 ⟨le1 rfl,le1 rfl,le1 rfl,le1 rfl,le1 rfl,le1 rfl,le1 rfl,le1 rfl,le1 rfl,trivial⟩ ⟨rfl,rfl,trivial⟩) ?_
     intro t htl
     dsimp only at htl ⊢
     have hb1:(out++(l.drop i).take t).length≤i+j+t:=by simp;omega
     refine k2 (k2 (A3 (A4 Z Z (A6 (A8 Z) Z (E9 Z Z Z Z (F4 Z Z Z (A5 ?_)))))));refine k1 ?_;refine B5 rfl (fun ht=>?_) (fun ht=>?_)
     ·have hlt:i+t < f:=by have:=A0 ht;omega
      have hv:l[i+t]?=some (l[i+t]'(by omega)):=J14 (by omega)
      refine k5 (k1 (k3 (k2 (A3 (A4 Z Z (A4 Z Z (A4 Z Z (A6 (A9 Z (.pure _ _ _ _) Z (by omega) hv) Z (A6 (F5 Z Z) Z (A6 (C9 (c:=mergedC) (ys:=[⟨_,_⟩]) (E0 Z Z Z Z G6) Z Z Z) Z (C2 (H4 Z Z Z (.pure _ _ _ _) (by (simp only [J16,J19];omega)) Z) Z (A7 Z Z (A5 ?_)))))))))))));refine k1 (A3 (A4 Z Z (C5 Z Z Z (A7 Z Z (A5 ?_)))));refine k4 (k1 ?_);refine ⟨t+1,by omega,by omega,?_⟩
      rw [A05 l i t (by omega),←J25]
      exact I81 ⟨le1 rfl,le1 rfl,le1 rfl,le1 rfl,le1 rfl,le1 rfl,le1 rfl,le1 rfl,le1 rfl,trivial⟩ ⟨rfl,rfl,trivial⟩
     ·have hte:i+t=f:=by have:=A1 ht;omega
      rw [hte]
      rw [show t=f - i by omega]
      rw [show t=f - i by omega] at hb1
      obtain ⟨o1,ho1⟩:∃o1,o1=out++(l.drop i).take (f - i):=⟨_,rfl⟩
      rw [←ho1] at hb1 ⊢
      refine k6 (k2 (k3 ?_));refine D2 (X:=Nat) (fun t=>([(0,C0 Merged 2 mergedC l),(1,C0 Int 1 G3 list),(2,B6 p),(10,C0 Span 2 spanC ps),(11,.s (.one (.buf 11 Merged 2 mergedC (o1++((list.drop j).take t).map fun v=>⟨v,G4 p⟩)))),(12,B6 f),(13,B6 ((j+t:Nat):Int)),(14,B6 k),(15,.s (.one (.ref 15 0)))],[(15,.box [.p (.v (.int .i64 f)),.p (.v (.int .i64 g))]),(11,.spare (o1++((list.drop j).take t).map fun v=>(⟨v,G4 p⟩:Merged)).length 2 151)]))
       (fun t=>t≤g - j) (fun t=>g - j - t) 0 (Nat.zero_le _) (by rw [List.take_zero,J51,J35];exact I81 ⟨le1 rfl,le1 rfl,le1 rfl,le1 rfl,le1 rfl,le1 rfl,le1 rfl,le1 rfl,le1 rfl,trivial⟩ ⟨rfl,rfl,trivial⟩) ?_
      intro t htl
      dsimp only at htl ⊢
      have hb2:(o1++((list.drop j).take t).map fun v=>(⟨v,G4 p⟩:Merged)).length≤i+j+(f - i)+t:=by simp;omega
      refine k2 (k2 (A3 (A4 Z Z (A6 (A8 Z) Z (E9 Z Z Z Z (F4 Z Z Z (A5 ?_)))))));refine k1 ?_;refine B5 rfl (fun ht=>?_) (fun ht=>?_)
      ·have hlt:j+t < g:=by have:=A0 ht;omega
       have hv:list[j+t]?=some (list[j+t]'(by omega)):=J14 (by omega)
       refine k5 (k1 (k3 (k2 (A3 (A4 Z Z (A4 Z Z (A4 Z Z (A6 (A9 Z (.pure _ _ _ _) Z (by omega) hv) Z (A6 (B3 Z Z) Z (A4 Z Z (A6 (R3 Z) Z (A6 (E50 Z Z (by omega)) Z (A6 (I1 Z) Z (A6 (C9 (c:=mergedC) (ys:=[⟨_,_⟩]) (E0 Z Z Z Z G6) Z Z Z) Z (C2 (H4 Z Z Z (.pure _ _ _ _) (by (simp only [J16,J19];omega)) Z) Z (A7 Z Z (A5 ?_)))))))))))))))));refine k1 (A3 (A4 Z Z (C5 Z Z Z (A7 Z Z (A5 ?_)))));refine k4 (k1 ?_);refine ⟨t+1,by omega,by omega,?_⟩
       rw [A05 list j t (by omega),J28,←J25]
       simp only [J24,J51]
       exact I81 ⟨le1 rfl,le1 rfl,le1 rfl,le1 rfl,le1 rfl,le1 rfl,le1 rfl,le1 rfl,le1 rfl,trivial⟩ ⟨rfl,rfl,trivial⟩
      ·have hte:j+t=g:=by have:=A1 ht;omega
       rw [hte]
       rw [show t=g - j by omega]
       rw [show t=g - j by omega] at hb2
       obtain ⟨o2,ho2⟩:∃o2,o2=o1++((list.drop j).take (g - j)).map fun v=>(⟨v,G4 p⟩:Merged):=⟨_,rfl⟩
       rw [←ho2] at hb2 ⊢
       have hout:out++N6 l list (G4 p) i j (ps.drop k)=o2++(if k < ps.length then (l[f]?.map fun y=>(⟨y.Line,I8 y.Parents (G4 p)⟩:Merged)).toList++N6 l list (G4 p) (f+1) (g+1) (ps.drop (k+1)) else []):=by
        rw [hjg,ho2,ho1];simp only [J25]
       rw [hout] at hp
       refine k6 (k2 (A3 (A4 Z Z (A4 Z Z (E4 Z Z (F4 Z Z Z (A5 ?_)))))));refine k1 ?_;refine B5 rfl (fun ht=>?_) (fun ht=>?_)
       ·have hlt:k < ps.length:=by have:=A0 ht;omega
        obtain ⟨hf1,hg1,hasc'⟩:=hx5 hlt
        have hfl:f < l.length:=by omega
        have hv:l[f]?=some l[f]:=J14 hfl
        rw [if_pos hlt,hv] at hp
        refine k2 (D5 (by kernel_rfl) (by kernel_rfl) (D3 Z Z (D3 Z Z (D3 Z Z (B1 (A9 Z (.pure _ _ _ _) Z (by omega) hv) Z Z (B1 (G7 Z) Z Z (B1 (B3 Z Z) Z Z (D3 Z Z (D3 Z Z (B1 (A9 Z (.pure _ _ _ _) Z (by omega) hv) Z Z (B1 (G7 Z) Z Z (B1 (B3 Z Z) Z Z (D3 Z Z (B1 (R3 Z) Z Z (B1 (E50 Z Z (by omega)) Z Z (B1 (Z4 Z Z Z (fun _=>rfl)) Z Z (B1 (I1 Z) Z Z (B1 (C9 (c:=mergedC) (ys:=[⟨l[f].Line,I8 l[f].Parents (G4 p)⟩]) (E0 Z Z Z Z G6) Z Z Z) Z Z (D37 (H4 Z Z Z (.pure _ _ _ _) (by (simp only [J16,J19];omega)) Z) Z Z (B1 (K8 Z Z) Z Z (O2 ?_)))))))))))))))))))));refine k1 (A3 (A4 Z Z (C5 Z Z Z (A4 Z Z (C5 Z Z Z (A7 Z Z (A7 Z Z (A5 ?_))))))));refine k4 (k1 (A3 (A4 Z Z (C5 Z Z Z (A7 Z Z (A5 ?_))))));refine k1 ?_;refine ⟨(k+1,f+1,g+1,o2++[⟨l[f].Line,I8 l[f].Parents (G4 p)⟩]),⟨by dsimp only;omega,by dsimp only;simp only [J15,J16,J19];omega,by dsimp only;omega,by dsimp only;omega,fun _=>⟨hasc',?_⟩,fun h=>?_⟩,by dsimp only;omega,I81 ⟨le1 rfl,le1 rfl,le1 rfl,le1 rfl,le1 rfl,le1 rfl,le1 rfl,le1 rfl,trivial⟩ ⟨rfl,trivial⟩⟩
        ·rw [←hp];simp
        ·dsimp only at h ⊢
         omega
       ·have hlt:¬k < ps.length:=by have:=A1 ht;omega
        rw [if_neg hlt,J35] at hp
        refine k5 (k4 (k1 (A3 (A4 Z Z (C5 Z Z Z (A7 Z Z (A5 ?_)))))));refine k1 ?_
        exact ⟨(k+1,f,g,o2),⟨by dsimp only;omega,by dsimp only;omega,by dsimp only;omega,by dsimp only;omega,fun h=>by dsimp only at h;omega,fun _=>hp⟩,by dsimp only;omega,I81 ⟨le1 rfl,le1 rfl,le1 rfl,le1 rfl,le1 rfl,le1 rfl,le1 rfl,le1 rfl,trivial⟩ ⟨rfl,trivial⟩⟩
   ·have hk':k=ps.length+1:=by have:=A1 ht;omega
    refine k6 (k2 (A3 (A4 Z Z (A7 Z Z (A7 Z Z (A5 ?_))))));refine k1 (k10 ?_)
    exact B9 (y7 rfl rfl rfl rfl rfl) (by rw [h2 hk',hps];rfl)
theorem E33 (l:List Merged) (list:List Int) (p:Int) (h1:l.length≤4096) (h2:list.length≤4096):(O7 l list p).length≤536870912:=by
 have h3:=B74 l list (G4 p) (F0 0 0 (E6 l) list) 0 0
 have h4:=T4 0 0 (E6 l) list
 have h5:(E6 l).length=l.length:=by simp [E6]
 unfold O7
 have h6:l.length*((F0 0 0 (E6 l) list).length+1)≤4096*4097:=Nat.mul_le_mul h1 (by omega)
 have h7:list.length*((F0 0 0 (E6 l) list).length+1)≤4096*4097:=Nat.mul_le_mul h2 (by omega)
 omega
theorem F88 (ls:List (List Int)):FnOk Tryz.prog 104 [pIntss ls] (fun rs=>rs=[pMerged (D9 ls).1,J0 (D9 ls).2]):=by
 refine FnOk.intro Tryz.func104 (by decide) Z Z Z Z ?_
 refine k2 (A3 (A7 Z Z (A7 Z Z (A5 ?_))));refine k1 (k2 (k2 (A3 (A4 Z Z (E4 Z Z (A6 (R0 Z Z) Z (A5 ?_)))))));refine k1 ?_;refine B5 rfl (fun ht=>?_) (fun ht=>?_)
 ·have h:=A0 ht
  refine k2 (A3 (A6 (M5 _ 2 mergedC) Z (A7 Z Z (A5 ?_))));refine k1 (k10 (k11 ?_))
  exact B9 (y7 rfl rfl rfl rfl rfl) (by rw [D9,if_pos (by omega)])
 ·have h:=A1 ht
  have hco:D9 ls=G5 [] 0 ls:=by rw [D9,if_neg (by omega)]
  rw [hco]
  refine k5 (k1 (k2 (A3 (A6 (M5 _ 2 mergedC) Z (A5 ?_)))));refine k1 (k2 (k2 (A3 (A7 Z Z (A5 ?_)))));refine k1 (k3 (D2 (X:=Nat × List Merged) (fun x=>([(0,C0 (List Int) 1 intsC ls),(4,C0 Merged 2 mergedC x.2),(5,B6 x.1)],[])) (fun x=>x.1≤ls.length∧x.2.length≤536870912∧G5 [] 0 ls=G5 x.2 x.1 (ls.drop x.1)) (fun x=>ls.length - x.1) (0,[]) (by simp) (I81 ⟨le1 rfl,le1 rfl,le1 rfl,trivial⟩ trivial) ?_))
  rintro ⟨k,acc⟩ ⟨hk,hacc,hp⟩
  dsimp only at hk hacc hp ⊢
  refine k2 (k2 (A3 (A4 Z Z (A4 Z Z (E4 Z Z (F4 Z Z Z (A5 ?_)))))));refine k1 ?_;refine B5 rfl (fun ht=>?_) (fun ht=>?_)
  ·have hlt:k < ls.length:=by have:=A0 ht;omega
   have hv:ls[k]?=some ls[k]:=by simp [hlt]
   rw [J20 hlt,G5] at hp
   by_cases hbig:4096 < acc.length∨4096 < ls[k].length
   ·rw [if_pos hbig] at hp
    refine k5 (k1 (k2 (k3 (k2 (A3 (A4 Z Z (A4 Z Z (A4 Z Z (A6 (A9 Z (.pure _ _ _ _) Z (by omega) hv) Z (A6 (B3 Z Z) Z (A4 Z Z (C6 ((E68 acc ls[k] k hacc).mono (post':=fun rs=>rs=[pMerged [],J0 1]) (fun rs h=>by rw [if_pos hbig] at h;exact h)) Z Z Z ?_))))))))))));rintro _ rfl;refine A4 Z Z (J4 Z Z Z (J4 Z Z Z (A7 Z Z (A7 Z Z (A5 ?_)))));refine k1 (k2 (k2 (A3 (A4 Z Z (A6 (O6 Z Z) Z (A5 ?_))))));refine k1 ?_;refine B5 rfl (fun ht=>?_) (fun ht=>?_)
    ·refine k2 (A3 (A4 Z Z (A6 (M5 _ 2 mergedC) Z (A7 Z Z (A5 ?_)))));refine k1 (k10 (k11 (k12 (k11 (k11 (k12 (k11 ?_)))))))
     exact B9 (y7 rfl rfl rfl rfl rfl) (by rw [hp])
    ·cases A1 ht (by decide)
   ·rw [if_neg hbig] at hp
    have hjl:=E33 acc ls[k] k (by omega) (by omega)
    refine k5 (k1 (k2 (k3 (k2 (A3 (A4 Z Z (A4 Z Z (A4 Z Z (A6 (A9 Z (.pure _ _ _ _) Z (by omega) hv) Z (A6 (B3 Z Z) Z (A4 Z Z (C6 ((E68 acc ls[k] k hacc).mono (post':=fun rs=>rs=[pMerged (O7 acc ls[k] k),J0 0]) (fun rs h=>by rw [if_neg hbig] at h;exact h)) Z Z Z ?_))))))))))));rintro _ rfl;refine A4 Z Z (J4 Z Z Z (J4 Z Z Z (A7 Z Z (A7 Z Z (A5 ?_)))));refine k1 (k2 (k2 (A3 (A4 Z Z (A6 (O6 Z Z) Z (A5 ?_))))));refine k1 ?_;refine B5 rfl (fun ht=>?_) (fun ht=>?_)
    ·cases A0 ht rfl
    ·refine k5 (k1 (A3 (A4 Z Z (A7 Z Z (A5 ?_)))));refine k4 (k1 (A3 (A4 Z Z (C5 Z Z Z (A7 Z Z (A5 ?_))))));refine k1 ?_
     exact ⟨(k+1,O7 acc ls[k] k),⟨by dsimp only;omega,hjl,hp⟩,by dsimp only;omega,I81 ⟨le1 rfl,le1 rfl,le1 rfl,trivial⟩ trivial⟩
  ·have hk':k=ls.length:=by have:=A1 ht;omega
   rw [hk',J23 (Nat.le_refl _)] at hp
   refine k6 (k2 (A3 (A4 Z Z (A7 Z Z (A7 Z Z (A5 ?_))))));refine k1 (k10 ?_)
   exact B9 (y7 rfl rfl rfl rfl rfl) (by rw [hp];rfl)
theorem u64_in {n:Int} (h:0≤n∧n < 18446744073709551616):IntKind.u64.wrap n=n:=by simp [IntKind.wrap,IntKind.signed,IntKind.bits];omega
def T7 (a n:Int):Int:=IntKind.u64.wrap a % n
theorem g9 (a:Int) {n:Int} (h:1≤n):0≤T7 a n∧T7 a n < n:=⟨Int.emod_nonneg _ (by omega),Int.emod_lt_of_pos _ (by omega)⟩
theorem F25 (a n:Int) (hn:1≤n) (hn':n≤9223372036854775807):FnOk Tryz.prog 18 [J0 a,J0 n] (fun rs=>rs=[J0 (T7 a n)]):=by
 refine FnOk.intro Tryz.func18 (by decide) Z Z Z Z ?_
 refine k2 (A3 (A7 Z Z (A5 ?_)));refine k1 (k2 ?_)
 have h1:IntKind.u64.wrap n=n:=u64_in (by omega)
 refine A3 (A4 Z Z (A6 (R3 Z) Z (A4 Z Z (A6 (R3 Z) Z (A6 (F63 Z Z (by (rw [h1];omega))) Z ?_)))));refine A6 (R3 Z) Z (A7 Z Z (A5 ?_));refine k1 (k10 (B9 (I5 Z Z Z) ?_))
 have h2:=B89 a
 have h3:(IntKind.u64.wrap a).tmod n=IntKind.u64.wrap a % n:=Int.tmod_eq_emod_of_nonneg h2
 have h4:=g9 a hn
 unfold T7 at *
 rw [h1,h3,F67 ⟨by omega,by omega⟩]
def xor64 (a b:Int):Int:=IntKind.u64.wrap ((BitVec.ofInt IntKind.u64.bits a ^^^ BitVec.ofInt IntKind.u64.bits b).toNat:Int)
def shr64 (a n:Int):Int:=a.fdiv (2 ^ (min n.toNat IntKind.u64.bits))
def at0 (k:Int):Int:=IntKind.u64.wrap (IntKind.u64.wrap (k+1)*11400714819323198485)
def at1 (raw:List Int) (k:Int):Int:=if 0 < raw.length then xor64 (at0 k) (IntKind.u64.wrap (raw.getD (k.tmod raw.length).toNat 0)) else at0 k
def at2 (x:Int):Int:=IntKind.u64.wrap (xor64 x (shr64 x 31)*13787848793156543929)
def i6 (raw:List Int) (k:Int):Int:=IntKind.i64.wrap (shr64 (xor64 (at2 (at1 raw k)) (shr64 (at2 (at1 raw k)) 29)) 1)
theorem E69 (raw:List Int) (k:Int) (h0:0≤k) (h1:k≤1099511627776):FnOk Tryz.prog 25 [M7 raw,J0 k] (fun rs=>rs=[J0 (i6 raw k)]):=by
 refine FnOk.intro Tryz.func25 (by decide) Z Z Z Z ?_
 refine C08 (t:=0) rfl (.pure _ _ _ _) fun hlen=>?_
 refine k2 (A3 (A7 Z Z (A5 ?_)));refine k1 (k2 (A3 (A4 Z Z (C5 Z Z Z (A6 (R3 Z) Z (A6 (F10 Z Z) Z (A7 Z Z (A5 ?_))))))));refine K4 ?_
 refine z6 [(0,C0 Int 1 G3 raw),(1,B6 k),(5,I9 (.int .u64 (at1 raw k)))] [] ?_ ?_
 ·refine k2 (A3 (A4 Z Z (E4 Z Z (A6 (R0 Z Z) Z (A5 ?_)))));refine k1 ?_;refine B5 rfl (fun ht=>?_) (fun ht=>?_)
  ·have hpos:0 < raw.length:=by have:=A0 ht;omega
   have hm0:0≤k.tmod raw.length:=Int.tmod_nonneg _ h0
   have hm1:k.tmod raw.length < raw.length:=Int.tmod_lt_of_pos _ (by omega)
   have hv:raw[(k.tmod raw.length).toNat]?=some (raw.getD (k.tmod raw.length).toNat 0):=by
    rw [J17,J14 (by omega)];rfl
   skip
   refine A3 (A4 Z Z (A4 Z Z (A4 Z Z (A4 Z Z (E4 Z Z (A6 (F63 Z Z (by omega)) Z (A6 (A9 Z (.pure _ _ _ _) Z (by omega) hv) Z (A6 (B3 Z Z) Z (A6 (R3 Z) Z (A6 (Z4 Z Z Z (fun _=>rfl)) Z (A7 Z Z (A5 ?_))))))))))));refine k1 ?_
   rw [at1,if_pos hpos]
   exact I81 ⟨le1 rfl,le1 rfl,le1 rfl,trivial⟩ trivial
  ·have hpos:¬0 < raw.length:=by have:=A1 ht;omega
   refine k5 (k1 ?_)
   rw [at1,if_neg hpos]
   exact I81 ⟨le1 rfl,le1 rfl,le1 rfl,trivial⟩ trivial
 ·refine k2 (A3 (A4 Z Z (A4 Z Z (A6 (B60 Z Z (by omega)) Z (A6 (Z4 Z Z Z (fun _=>rfl)) Z (A6 (F10 Z Z) Z (A7 Z Z (A5 ?_))))))));refine k1 (k2 (A3 (A4 Z Z (A4 Z Z (A6 (B60 Z Z (by omega)) Z (A6 (Z4 Z Z Z (fun _=>rfl)) Z (A6 (B60 Z Z (by omega)) Z (A6 (R3 Z) Z (A7 Z Z (A5 ?_))))))))));refine k1 (k10 ?_)
  exact B9 (I5 rfl rfl rfl) rfl
def lineTab:List Str:=[[97],[98],[99],[97,98],[98,97],[],[97,97],[98,32,97],[120,43,121],[92]]
def n7 (k:Int):Str:=lineTab.getD (T7 k 10).toNat []
theorem F89:∀s∈lineTab,s.length≤3:=by decide
theorem A58 (k:Int):(n7 k).length≤3:=by
 unfold n7
 rw [J17]
 cases h:lineTab[(T7 k 10).toNat]? with
 | none=>simp
 | some s=>exact F89 s (J30 h)
theorem F90 (k:Int):FnOk Tryz.prog 24 [J0 k] (fun rs=>rs=[P8 (n7 k)]):=by
 refine FnOk.intro Tryz.func24 (by decide) Z Z Z Z ?_
 refine k2 (A3 (A7 Z Z (A5 ?_)));refine k1 (k2 ?_)
 have hm:=g9 k (n:=10) (by decide)
 have hv:lineTab[(T7 k 10).toNat]?=some (n7 k):=by
  unfold n7
  rw [J17,J14 (show (T7 k 10).toNat < lineTab.length by simp [lineTab];omega)];rfl
 refine A3 (A6 (C9 (c:=M6) (ys:=lineTab) (E0 Z Z Z Z (E0 Z Z Z Z (E0 Z Z Z Z (E0 Z Z Z Z (E0 Z Z Z Z (E0 Z Z Z Z (E0 Z Z Z Z (E0 Z Z Z Z (E0 Z Z Z Z (E0 Z Z Z Z G6)))))))))) Z Z Z) Z (A4 Z Z (C6 (F25 k 10 (by decide) (by decide)) Z Z Z ?_)));rintro _ rfl;refine A6 (A9 Z (.pure _ _ _ _) Z (by omega) hv) Z (A6 (B3 Z Z) Z (A7 Z Z (A5 ?_)));refine k1 (k10 ?_)
 exact B9 (I5 rfl rfl rfl) rfl
theorem ids_ok (fs:List (List Str)) (hfs:fs.flatten.length≤536870912) (hf1:fs.length≤536870912):FnOk Tryz.prog 101 [pStrss fs] (fun rs=>rs=[pIntss (fs.map (J6 (D8 fs)))]):=by
 refine FnOk.intro Tryz.func101 (by decide) Z Z Z Z ?_
 refine k2 (A3 (A7 Z Z (A5 ?_)));refine k1 (k2 (A3 (A4 Z Z (C6 (F87 fs hfs) Z Z Z ?_))));rintro _ rfl;refine A7 Z Z (A5 ?_);refine k1 (k2 (A3 (C2 (X5 4 _ intsC Z) Z (A5 ?_))));refine k1 (k2 (k2 (A3 (A7 Z Z (A5 ?_)))));refine k1 (k3 (D2 (X:=Nat) (fun f=>([(0,C0 (List Str) 1 strsC fs),(3,C0 Str 1 M6 (D8 fs)),(4,.s (.one (.buf 4 (List Int) 1 intsC ((fs.take f).map (J6 (D8 fs)))))),(5,B6 f)],[(4,.spare ((fs.take f).map (J6 (D8 fs))).length 1 25)])) (fun f=>f≤fs.length) (fun f=>fs.length - f) 0 (by simp) (I81 ⟨le1 rfl,le1 rfl,le1 rfl,le1 rfl,trivial⟩ ⟨rfl,trivial⟩) ?_))
 intro f hf
 dsimp only at hf ⊢
 refine k2 (k2 (A3 (A4 Z Z (A4 Z Z (E4 Z Z (F4 Z Z Z (A5 ?_)))))));refine k1 ?_
 have hfl:((fs.take f).map (J6 (D8 fs))).length=f:=by simp;omega
 refine B5 rfl (fun ht=>?_) (fun ht=>?_)
 ·have hlt:f < fs.length:=by have:=A0 ht;omega
  have hv:fs[f]?=some fs[f]:=by simp [hlt]
  have hle:=Z0 fs (f+1)
  rw [W3 fs f hlt,J15] at hle
  refine k5 (k1 (k2 (k3 (k2 (A3 (C2 (B83 16 (c:=G3) (ys:=[]) G6 Z Z Z (by first | rfl | (simp [H6,I4,Ob.free,SV.free,S1.free,TC.free]<;>rfl))) Z ?_))))));refine A7 Z Z (A5 ?_);refine k1 (k2 (k2 (A3 (A7 Z Z (A5 ?_)))));refine k1 (k3 (D2 (X:=Nat) (fun i=>([(0,C0 (List Str) 1 strsC fs),(3,C0 Str 1 M6 (D8 fs)),(4,.s (.one (.buf 4 (List Int) 1 intsC ((fs.take f).map (J6 (D8 fs)))))),(5,B6 f),(6,.s (.one (.buf 16 Int 1 G3 (J6 (D8 fs) (fs[f].take i))))),(7,B6 i)],[(4,.spare ((fs.take f).map (J6 (D8 fs))).length 1 25),(16,.spare (J6 (D8 fs) (fs[f].take i)).length 1 3)])) (fun i=>i≤fs[f].length) (fun i=>fs[f].length - i) 0 (by simp) (I81 ⟨le1 rfl,le1 rfl,le1 rfl,le1 rfl,le1 rfl,le1 rfl,trivial⟩ ⟨rfl,rfl,trivial⟩) ?_))
  intro i hi
  dsimp only at hi ⊢
  have hil:(J6 (D8 fs) (fs[f].take i)).length=i:=by simp [J6];omega
  refine k2 (k2 (A3 (A4 Z Z (A4 Z Z (A4 Z Z (A6 (A9 Z (.pure _ _ _ _) Z (by omega) hv) Z (A6 (B3 Z Z) Z (E4 Z Z (F4 Z Z Z (A5 ?_))))))))));refine k1 ?_;refine B5 rfl (fun ht=>?_) (fun ht=>?_)
  ·have hlt2:i < fs[f].length:=by have:=A0 ht;omega
   have hvi:fs[f][i]?=some fs[f][i]:=by simp [hlt2]
   have hst:J6 (D8 fs) (fs[f].take (i+1))=J6 (D8 fs) (fs[f].take i)++[G9 (D8 fs) fs[f][i] 0]:=by
    unfold J6;rw [List.take_add_one,hvi,Option.toList_some,J28];rfl
   refine k5 (k1 (k2 (k3 (A3 (A4 Z Z (A4 Z Z (A4 Z Z (A4 Z Z (A6 (A9 Z (.pure _ _ _ _) Z (by omega) hv) Z (A6 (B3 Z Z) Z (A4 Z Z (A6 (A9 Z (.pure _ _ _ _) Z (by omega) hvi) Z (A6 (B3 Z Z) Z (C6 (F86 _ _) Z Z Z ?_))))))))))))));rintro _ rfl;refine A6 (C9 (c:=G3) (ys:=[_]) (E0 Z Z Z Z G6) Z Z Z) Z (C2 (H4 Z Z Z (.pure _ _ _ _) (by (simp only [J16,J19];omega)) Z) Z (A7 Z Z (A5 ?_)));refine k4 (k1 (A3 (A4 Z Z (C5 Z Z Z (A7 Z Z (A5 ?_))))));refine k1 ?_;refine ⟨i+1,by omega,by omega,?_⟩
   rw [hst]
   exact I81 ⟨le1 rfl,le1 rfl,le1 rfl,le1 rfl,le1 rfl,le1 rfl,trivial⟩ ⟨rfl,rfl,trivial⟩
  ·have hi':i=fs[f].length:=by have:=A1 ht;omega
   have hst:(fs.take (f+1)).map (J6 (D8 fs))=(fs.take f).map (J6 (D8 fs))++[J6 (D8 fs) (fs[f].take i)]:=by
    rw [List.take_add_one,hv,Option.toList_some,J28,hi',J32];rfl
   refine k6 (k7 (k7 (k8 Z (k1 (A3 (A4 Z Z (A4 Z Z (A6 (C9 (c:=intsC) (ys:=[_]) (E0 Z Z Z Z G6) Z Z Z) Z (C2 (H4 Z Z Z (.pure _ _ _ _) (by (simp only [J16,J19];omega)) Z) Z (A7 Z Z (A5 ?_)))))))))));refine k4 (k1 (A3 (A4 Z Z (C5 Z Z Z (A7 Z Z (A5 ?_))))));refine k1 ?_;refine ⟨f+1,by omega,by omega,?_⟩
   rw [hst]
   exact I81 ⟨le1 rfl,le1 rfl,le1 rfl,le1 rfl,trivial⟩ ⟨rfl,trivial⟩
 ·have hk':f=fs.length:=by have:=A1 ht;omega
  subst hk'
  refine k6 (k2 (A3 (A4 Z Z (A7 Z Z (A5 ?_)))));refine k1 (k10 ?_)
  exact B9 (I5 rfl rfl rfl) (by rw [J32])
def S7 (raw:List Int) (from':Int) (kinds:Int) (m:Nat):Str:=((List.range m).map fun (i:Nat)=>n7 (T7 (i6 raw (from'+1+(i:Int))) kinds)++[10]).flatten
def W1 (raw:List Int) (from' n kinds:Int):Str :=
 let s:=S7 raw from' kinds (T7 (i6 raw from') (n+1)).toNat
 if ((i6 raw (from'+90)).tmod 4=0∧(1:Int) < s.length)∧((s.getD (s.length - 2) 0).toNat:Int)≠10 then s.take (s.length - 1) else s
theorem z8 (raw:List Int) (from' kinds:Int) (m:Nat):S7 raw from' kinds (m+1)=S7 raw from' kinds m++n7 (T7 (i6 raw (from'+1+(m:Int))) kinds)++[10]:=by
 unfold S7;rw [J52,J28,J42];simp
theorem B69 (raw:List Int) (from' kinds:Int) (m:Nat):(S7 raw from' kinds m).length≤4*m:=by
 induction m with
 | zero=>simp [S7]
 | succ m ih=>have:=A58 (T7 (i6 raw (from'+1+(m:Int))) kinds);rw [z8];simp only [J15,J16,J19];omega
theorem H36 (raw:List Int) (from' n kinds:Int) (h0:0≤from'∧from'≤1073741824) (h1:0≤n∧n≤1048576) (h2:1≤kinds∧kinds≤1048576) :
  FnOk Tryz.prog 64 [M7 raw,J0 from',J0 n,J0 kinds] (fun rs=>rs=[P8 (W1 raw from' n kinds)]):=by
 obtain ⟨m,hm⟩:∃m:Nat,T7 (i6 raw from') (n+1)=m:=⟨(T7 (i6 raw from') (n+1)).toNat,by have:=g9 (i6 raw from') (n:=n+1) (by omega);omega⟩
 have hmi:=g9 (i6 raw from') (n:=n+1) (by omega)
 have hml:m≤1048576:=by omega
 refine FnOk.intro Tryz.func64 (by decide) Z Z Z Z ?_
 refine k2 (A3 (A7 Z Z (A5 ?_)));refine k1 (k2 (A3 (A4 Z Z (A4 Z Z (C6 (E69 raw from' (by omega) (by omega)) Z Z Z ?_)))));rintro _ rfl;refine A4 Z Z (C5 Z Z Z (C6 (F25 _ (n+1) (by omega) (by omega)) Z Z Z ?_));rintro _ rfl;refine A7 Z Z (A5 ?_);refine k1 (k2 ?_)
 rw [hm]
 refine A3 (A7 Z Z (A5 ?_));refine k1 (k2 (k2 (A3 (A7 Z Z (A5 ?_)))));refine k1 (k3 (D2 (X:=Nat) (fun i=>([(0,C0 Int 1 G3 raw),(1,B6 from'),(2,B6 m),(3,B6 kinds),(9,X0 (S7 raw from' kinds i)),(10,B6 i)],[])) (fun i=>i≤m) (fun i=>m - i) 0 (Nat.zero_le _) (I81 ⟨le1 rfl,le1 rfl,le1 rfl,le1 rfl,le1 rfl,le1 rfl,trivial⟩ trivial) ?_))
 intro i hi
 dsimp only at hi ⊢
 have hbl:=B69 raw from' kinds i
 refine k2 (k2 (A3 (A4 Z Z (A4 Z Z (F4 Z Z Z (A5 ?_))))));refine k1 ?_;refine B5 rfl (fun ht=>?_) (fun ht=>?_)
 ·have hlt:i < m:=by have:=A0 ht;omega
  have hll:=A58 (T7 (i6 raw (from'+1+(i:Int))) kinds)
  refine k5 (k1 (k2 (k3 (A3 (A4 Z Z (A4 Z Z (A4 Z Z (C5 Z Z Z (A4 Z Z (C5 Z Z Z (C6 (E69 raw _ (by omega) (by omega)) Z Z Z ?_)))))))))));rintro _ rfl;refine A4 Z Z (C6 (F25 _ kinds (by omega) (by omega)) Z Z Z ?_);rintro _ rfl;refine C6 (F90 _) Z Z Z ?_;rintro _ rfl;refine A6 (L0 Z Z (by omega)) Z (A6 (L0 Z Z (by (simp only [J15,J16,J19];omega))) Z (A7 Z Z (A5 ?_)));refine k4 (k1 (A3 (A4 Z Z (C5 Z Z Z (A7 Z Z (A5 ?_))))));refine k1 ?_;refine ⟨i+1,by omega,by omega,?_⟩
  rw [z8]
  exact I81 ⟨le1 rfl,le1 rfl,le1 rfl,le1 rfl,le1 rfl,le1 rfl,trivial⟩ trivial
 ·have hi':i=m:=by have:=A1 ht;omega
  subst hi'
  obtain ⟨s,hs⟩:∃s,s=S7 raw from' kinds i:=⟨_,rfl⟩
  have hv:(1:Int) < s.length→s[((s.length:Int) - 2).toNat]?=some (s.getD (s.length - 2) 0):=fun h=>by
   rw [show ((s.length:Int) - 2).toNat=s.length - 2 by omega,J17,J14 (by omega)];rfl
  have hbo:W1 raw from' n kinds=if ((i6 raw (from'+90)).tmod 4=0∧(1:Int) < s.length)∧((s.getD (s.length - 2) 0).toNat:Int)≠10 then s.take (s.length - 1) else s:=by
   simp only [W1,hm,J21,←hs]
  rw [←hs] at hbl
  refine k6 (k2 (k2 ?_))
  rw [←hs]
  refine A3 (A4 Z Z (A4 Z Z (C5 Z Z Z (C6 (E69 raw _ (by omega) (by omega)) Z Z Z ?_))));rintro _ rfl;refine A6 (F63 Z Z (by omega)) Z (A6 (Q0 Z Z) Z (A4 Z Z (B2 Z Z Z Z (fun hg=>by rw [hg];exact C3 Z Z) ?_)));refine B2 Z Z Z Z (fun hg=>by rw [hg];exact Q3 Z) ?_;refine B2 Z Z Z Z (fun hg=>by rw [hg];exact R0 Z Z) ?_;refine J5 Z Z ?_;refine A4 Z Z (B2 Z Z Z Z (fun hg=>by rw [hg];exact C3 Z Z) ?_);refine B2 Z Z Z Z (fun hg=>by rw [hg];exact C3 Z Z) ?_;refine B2 Z Z Z Z (fun hg=>by rw [hg];exact Q3 Z) ?_;refine B2 Z Z Z Z (fun hg=>by have hq:=hg;(try simp at hq);rw [hg];exact U3 Z Z (by omega)) ?_;refine B2 Z Z Z Z (fun hg=>by have hq:=hg;(try simp at hq);rw [hg];exact B40 Z Z (by omega) (hv (by omega))) ?_;refine B2 Z Z Z Z (fun hg=>by rw [hg];exact O6 Z Z) ?_;refine J5 Z Z ?_;refine A5 ?_;refine k1 ?_;refine B5 rfl (fun ht=>?_) (fun ht=>?_)
  ·simp only [Q2] at ht
   have h:=A0 ht
   skip
   refine A3 (A4 Z Z (A4 Z Z (A6 (Q3 Z) Z (A6 (U3 Z Z (by omega)) Z (A6 (H29 Z Z (by omega) (by omega)) Z (A7 Z Z (A5 ?_)))))));refine k1 (k2 (A3 (A4 Z Z (A7 Z Z (A5 ?_)))));refine k1 (k10 ?_)
   exact B9 (I5 rfl rfl rfl) (by rw [hbo,if_pos h,show ((s.length:Int) - 1).toNat=s.length - 1 by omega])
  ·simp only [Q2] at ht
   have h:=A1 ht
   refine k5 (k1 (k2 (A3 (A4 Z Z (A7 Z Z (A5 ?_))))));refine k1 (k10 ?_)
   exact B9 (I5 rfl rfl rfl) (by rw [hbo,if_neg h])
theorem B90 (raw:List Int) (from' n kinds:Int) (h1:0≤n):((W1 raw from' n kinds).length:Int)≤4*n:=by
 have h:=g9 (i6 raw from') (n:=n+1) (by omega)
 have h2:=B69 raw from' kinds (T7 (i6 raw from') (n+1)).toNat
 unfold W1
 simp only
 split
 ·simp only [J36];omega
 ·omega
def i7 (raw:List Int) (from':Int) (i:Nat) (s:Str):List Str→Str
 | []=>s
 | x::r=>if (i6 raw (from'+(i:Int))).tmod 6=0 then i7 raw from' (i+1) s r
  else if (i6 raw (from'+(i:Int))).tmod 6=1 then i7 raw from' (i+1) (s++n7 (i6 raw (from'+40+(i:Int)))++[10]++x) r
  else i7 raw from' (i+1) (s++x) r
def B91 (blob:Str) (raw:List Int) (from':Int):Str:=i7 raw from' 0 [] (B8 blob)
theorem A59 (raw:List Int) (from':Int):∀(l:List Str) (i:Nat) (s:Str),(i7 raw from' i s l).length≤s.length+l.flatten.length+4*l.length
 | [],i,s=>by simp [i7]
 | x::r,i,s=>by
  have h1:=A59 raw from' r (i+1) s
  have h2:=A59 raw from' r (i+1) (s++n7 (i6 raw (from'+40+(i:Int)))++[10]++x)
  have h3:=A59 raw from' r (i+1) (s++x)
  have h4:=A58 (i6 raw (from'+40+(i:Int)))
  simp only [J15,J16,J19,J33] at *
  unfold i7
  split
  ·omega
  ·split<;>omega
theorem C61 (s cur:Str):(H9 cur s).flatten=cur++s:=by
 induction s generalizing cur with
 | nil=>unfold H9;split<;>simp [*]
 | cons c r ih=>unfold H9;split<;>simp [ih]
theorem V3 (s:Str):(B8 s).flatten=s:=C61 s []
theorem near_ok (blob:Str) (raw:List Int) (from':Int) (hb:blob.length≤16777216) (h0:0≤from'∧from'≤1073741824) :
  FnOk Tryz.prog 26 [P8 blob,M7 raw,J0 from'] (fun rs=>rs=[P8 (B91 blob raw from')]):=by
 have hll:=R5 blob
 have hlf:=V3 blob
 have hlf':(B8 blob).flatten.length=blob.length:=by rw [hlf]
 refine FnOk.intro Tryz.func26 (by decide) Z Z Z Z ?_
 refine k2 (A3 (A7 Z Z (A5 ?_)));refine k1 (k2 (A3 (A4 Z Z (C6 (C21 blob (by omega)) Z Z Z ?_))));rintro _ rfl;refine A7 Z Z (A5 ?_);refine k1 (k2 ?_)
 obtain ⟨l,hl⟩:∃l,l=B8 blob:=⟨_,rfl⟩
 have hno:B91 blob raw from'=i7 raw from' 0 [] l:=by rw [B91,hl]
 rw [←hl] at hll hlf' ⊢
 refine A3 (A7 Z Z (A5 ?_));refine k1 (k2 (k2 (A3 (A7 Z Z (A5 ?_)))));refine k1 (k3 (D2 (X:=Nat × Str) (fun x=>([(1,C0 Int 1 G3 raw),(2,B6 from'),(7,C0 Str 1 M6 l),(8,X0 x.2),(9,B6 x.1)],[])) (fun x=>x.1≤l.length∧x.2.length≤(l.take x.1).flatten.length+4*x.1∧i7 raw from' x.1 x.2 (l.drop x.1)=i7 raw from' 0 [] l) (fun x=>l.length - x.1) (0,[]) (by simp) (I81 ⟨le1 rfl,le1 rfl,le1 rfl,le1 rfl,le1 rfl,trivial⟩ trivial) ?_))
 rintro ⟨i,s⟩ ⟨hi,hs,hp⟩
 dsimp only at hi hs hp ⊢
 have hle:=Z0 l i
 refine k2 (k2 (A3 (A4 Z Z (A4 Z Z (E4 Z Z (F4 Z Z Z (A5 ?_)))))));refine k1 ?_;refine B5 rfl (fun ht=>?_) (fun ht=>?_)
 ·have hlt:i < l.length:=by have:=A0 ht;omega
  have hv:l[i]?=some l[i]:=by simp [hlt]
  have hle2:=Z0 l (i+1)
  have hst:=W3 l i hlt
  rw [hst,J15] at hle2
  rw [J20 hlt,i7] at hp
  refine k5 (k1 (k2 (k3 (k2 (k2 (A3 (A4 Z Z (A4 Z Z (A4 Z Z (C5 Z Z Z (C6 (E69 raw _ (by omega) (by omega)) Z Z Z ?_)))))))))));rintro _ rfl;refine A6 (F63 Z Z (by omega)) Z (A5 ?_);refine k1 (k3 (k2 (A3 (A6 (Q0 Z Z) Z (A7 Z Z (A5 ?_))))));refine k1 ?_;refine B5 rfl (fun ht=>?_) (fun ht=>?_)
  ·rw [if_pos (A0 ht)] at hp
   refine k6 (k9 Z (k7 (k8 Z (k1 (A3 (A4 Z Z (C5 Z Z Z (A7 Z Z (A5 ?_)))))))));refine k1 ?_
   exact ⟨(i+1,s),⟨by dsimp only;omega,by dsimp only;rw [hst,J15];omega,hp⟩,by dsimp only;omega,I81 ⟨le1 rfl,le1 rfl,le1 rfl,le1 rfl,le1 rfl,trivial⟩ trivial⟩
  ·rw [if_neg (A1 ht)] at hp
   refine k2 (A3 (A6 (Q0 Z Z) Z (A7 Z Z (A5 ?_))));refine k1 ?_;refine B5 rfl (fun ht=>?_) (fun ht=>?_)
   ·rw [if_pos (A0 ht)] at hp
    have h4:=A58 (i6 raw (from'+40+(i:Int)))
    skip
    refine A3 (A4 Z Z (A4 Z Z (A4 Z Z (C5 Z Z Z (A4 Z Z (C5 Z Z Z (C6 (E69 raw _ (by omega) (by omega)) Z Z Z ?_)))))));rintro _ rfl;refine C6 (F90 _) Z Z Z ?_;rintro _ rfl;refine A6 (L0 Z Z (by omega)) Z (A6 (L0 Z Z (by (simp only [J15,J16,J19];omega))) Z (A7 Z Z (A5 ?_)));refine k4 (k1 (A3 (A4 Z Z (A4 Z Z (A4 Z Z (A6 (A9 Z (.pure _ _ _ _) Z (by omega) hv) Z (A6 (B3 Z Z) Z (A6 (L0 Z Z (by (simp only [J15,J16,J19];omega))) Z (A7 Z Z (A5 ?_))))))))));refine k4 (k1 (A3 (A4 Z Z (C5 Z Z Z (A7 Z Z (A5 ?_))))));refine k1 ?_
    exact ⟨(i+1,s++n7 (i6 raw (from'+40+(i:Int)))++[10]++l[i]),⟨by dsimp only;omega,by dsimp only;rw [hst];simp only [J15,J16,J19];omega,hp⟩,by dsimp only;omega,I81 ⟨le1 rfl,le1 rfl,le1 rfl,le1 rfl,le1 rfl,trivial⟩ trivial⟩
   ·rw [if_neg (A1 ht)] at hp
    refine k5 (k4 (k1 (A3 (A4 Z Z (A4 Z Z (A4 Z Z (A6 (A9 Z (.pure _ _ _ _) Z (by omega) hv) Z (A6 (B3 Z Z) Z (A6 (L0 Z Z (by omega)) Z (A7 Z Z (A5 ?_)))))))))));refine k4 (k1 (A3 (A4 Z Z (C5 Z Z Z (A7 Z Z (A5 ?_))))));refine k1 ?_
    exact ⟨(i+1,s++l[i]),⟨by dsimp only;omega,by dsimp only;rw [hst,J15,J15];omega,hp⟩,by dsimp only;omega,I81 ⟨le1 rfl,le1 rfl,le1 rfl,le1 rfl,le1 rfl,trivial⟩ trivial⟩
 ·have hi':i=l.length:=by have:=A1 ht;omega
  rw [hi',J23 (Nat.le_refl _)] at hp
  refine k6 (k2 (A3 (A4 Z Z (A7 Z Z (A5 ?_)))));refine k1 (k10 ?_)
  exact B9 (I5 rfl rfl rfl) (by rw [hno,←hp];rfl)
def n8 (raw:List Int) (lines:Int) (p:Nat):Str :=
 if (i6 raw (500+(p:Int))).tmod 5=0 then W1 raw (600+50*(p:Int)) lines 4 else if (i6 raw (500+(p:Int))).tmod 5=1 then W1 raw 0 lines 5 else B91 (W1 raw 0 lines 5) raw (600+50*(p:Int))
def X7 (raw:List Int) (n:Nat) (lines:Int):List Str:=(List.range n).map (n8 raw lines)
theorem D59 (raw:List Int) (lines:Int) (p:Nat) (h:0≤lines):((n8 raw lines p).length:Int)≤20*lines:=by
 have h1:=B90 raw (600+50*(p:Int)) lines 4 h
 have h2:=B90 raw 0 lines 5 h
 have h3:=A59 raw (600+50*(p:Int)) (B8 (W1 raw 0 lines 5)) 0 []
 have h4:=R5 (W1 raw 0 lines 5)
 rw [V3] at h3
 simp only [J19] at h3
 unfold n8 B91
 split
 ·omega
 ·split<;>omega
theorem I40 (raw:List Int) (n:Nat) (lines:Int) (h1:n≤1024) (h2:0≤lines∧lines≤524288):FnOk Tryz.prog 61 [M7 raw,J0 n,J0 lines] (fun rs=>rs=[A12 (X7 raw n lines)]):=by
 have hfl:=B90 raw 0 lines 5 h2.1
 refine FnOk.intro Tryz.func61 (by decide) Z Z Z Z ?_
 refine k2 (A3 (A7 Z Z (A5 ?_)));refine k1 (k2 (A3 (A4 Z Z (A4 Z Z (C6 (H36 raw 0 lines 5 (by omega) (by omega) (by omega)) Z Z Z ?_)))));rintro _ rfl;refine A7 Z Z (A5 ?_);refine k1 (k2 (A3 (C2 (B83 13 (c:=M6) (ys:=[]) G6 Z Z Z (by first | rfl | (simp [H6,I4,Ob.free,SV.free,S1.free,TC.free]<;>rfl))) Z ?_)));refine A7 Z Z (A5 ?_);refine k1 (k2 (k2 (A3 (A7 Z Z (A5 ?_)))));refine k1 (k3 (D2 (X:=Nat) (fun p=>([(0,C0 Int 1 G3 raw),(1,B6 n),(2,B6 lines),(7,X0 (W1 raw 0 lines 5)),(8,.s (.one (.buf 13 Str 1 M6 (X7 raw p lines)))),(9,B6 p)],[(13,.spare (X7 raw p lines).length 1 9)])) (fun p=>p≤n) (fun p=>n - p) 0 (Nat.zero_le _) (I81 ⟨le1 rfl,le1 rfl,le1 rfl,le1 rfl,le1 rfl,le1 rfl,trivial⟩ ⟨rfl,trivial⟩) ?_))
 intro p hp
 dsimp only at hp ⊢
 have hst:X7 raw (p+1) lines=X7 raw p lines++[n8 raw lines p]:=by unfold X7;rw [J52,J28];rfl
 have hbl:(X7 raw p lines).length=p:=by simp [X7]
 refine k2 (k2 (A3 (A4 Z Z (A4 Z Z (F4 Z Z Z (A5 ?_))))));refine k1 ?_;refine B5 rfl (fun ht=>?_) (fun ht=>?_)
 ·have hlt:p < n:=by have:=A0 ht;omega
  refine k5 (k1 (k2 (k3 (k2 (A3 (A4 Z Z (A4 Z Z (C5 Z Z Z (C6 (E69 raw _ (by omega) (by omega)) Z Z Z ?_)))))))));rintro _ rfl;refine A6 (F63 Z Z (by omega)) Z (A5 ?_);refine k1 (k3 (k2 (A3 (A6 (Q0 Z Z) Z (A7 Z Z (A5 ?_))))));refine k1 ?_;refine B5 rfl (fun ht=>?_) (fun ht=>?_)
  ·have hb:n8 raw lines p=W1 raw (600+50*(p:Int)) lines 4:=by rw [n8,if_pos (A0 ht)]
   skip
   refine A3 (A4 Z Z (A4 Z Z (A4 Z Z (A6 (C03 Z Z (by omega)) Z (C5 Z Z Z (A4 Z Z (C6 (H36 raw _ lines 4 (by omega) (by omega) (by omega)) Z Z Z ?_)))))));rintro _ rfl;refine A6 (C9 (c:=M6) (ys:=[_]) (E0 Z Z Z Z G6) Z Z Z) Z (C2 (H4 Z Z Z (.pure _ _ _ _) (by (simp only [J16,J19];omega)) Z) Z (A7 Z Z (A5 ?_)));refine k4 (k4 (k1 (A3 (A4 Z Z (C5 Z Z Z (A7 Z Z (A5 ?_)))))));refine k1 ?_;refine ⟨p+1,by omega,by omega,?_⟩
   rw [hst,hb]
   exact I81 ⟨le1 rfl,le1 rfl,le1 rfl,le1 rfl,le1 rfl,le1 rfl,trivial⟩ ⟨rfl,trivial⟩
  ·have h5:=A1 ht
   refine k2 (A3 (A6 (Q0 Z Z) Z (A7 Z Z (A5 ?_))));refine k1 ?_;refine B5 rfl (fun ht=>?_) (fun ht=>?_)
   ·have hb:n8 raw lines p=W1 raw 0 lines 5:=by rw [n8,if_neg h5,if_pos (A0 ht)]
    skip
    refine A3 (A4 Z Z (A4 Z Z (A6 (C9 (c:=M6) (ys:=[_]) (E0 Z Z Z Z G6) Z Z Z) Z (C2 (H4 Z Z Z (.pure _ _ _ _) (by (simp only [J16,J19];omega)) Z) Z (A7 Z Z (A5 ?_))))));refine k4 (k4 (k1 (A3 (A4 Z Z (C5 Z Z Z (A7 Z Z (A5 ?_)))))));refine k1 ?_;refine ⟨p+1,by omega,by omega,?_⟩
    rw [hst,hb]
    exact I81 ⟨le1 rfl,le1 rfl,le1 rfl,le1 rfl,le1 rfl,le1 rfl,trivial⟩ ⟨rfl,trivial⟩
   ·have hb:n8 raw lines p=B91 (W1 raw 0 lines 5) raw (600+50*(p:Int)):=by rw [n8,if_neg h5,if_neg (A1 ht)]
    skip
    refine A3 (A4 Z Z (A4 Z Z (A4 Z Z (A4 Z Z (A6 (C03 Z Z (by omega)) Z (C5 Z Z Z (C6 (near_ok _ raw _ (by omega) (by omega)) Z Z Z ?_)))))));rintro _ rfl;refine A6 (C9 (c:=M6) (ys:=[_]) (E0 Z Z Z Z G6) Z Z Z) Z (C2 (H4 Z Z Z (.pure _ _ _ _) (by (simp only [J16,J19];omega)) Z) Z (A7 Z Z (A5 ?_)));refine k4 (k4 (k1 (A3 (A4 Z Z (C5 Z Z Z (A7 Z Z (A5 ?_)))))));refine k1 ?_;refine ⟨p+1,by omega,by omega,?_⟩
    rw [hst,hb]
    exact I81 ⟨le1 rfl,le1 rfl,le1 rfl,le1 rfl,le1 rfl,le1 rfl,trivial⟩ ⟨rfl,trivial⟩
 ·have hp':p=n:=by have:=A1 ht;omega
  refine k6 (k2 (A3 (A4 Z Z (A7 Z Z (A5 ?_)))));refine k1 (k10 ?_)
  exact B9 (I5 rfl rfl rfl) (by rw [hp'])
end Go.Proofs.YtbiadkkamhpdnaaGreatDoor
namespace Go.Proofs.YtbiadkkamhpdnaaGreatDoor
open Go Go.AL
set_option maxRecDepth 100000
theorem E70 (s:Str):(ByteArray.mk s.toArray).size=s.length:=by simp [ByteArray.size]
theorem F26 (s p:Str) (hs:s.length≤1099511627776):FnOk Tryz.prog 200 [P8 s,P8 p] (fun rs=>rs=[N1 (Lib.hasSuffix s p)]) :=
 I87 (xs:=[.string ⟨s.toArray⟩,.string ⟨p.toArray⟩]) ⟨_,rfl,rfl,rfl⟩ rfl fun w=>by simpa using Tryz.strings_HasSuffix ⟨s.toArray⟩ ⟨p.toArray⟩ w (by rw [E70];omega)
theorem E34 (s p:Str) (hs:s.length≤1099511627776):FnOk Tryz.prog 225 [P8 s,P8 p] (fun rs=>rs=[P8 (Lib.trimSuffix s p)]) :=
 I87 (xs:=[.string ⟨s.toArray⟩,.string ⟨p.toArray⟩]) ⟨_,rfl,rfl,rfl⟩ rfl fun w=>by simpa using Tryz.strings_TrimSuffix ⟨s.toArray⟩ ⟨p.toArray⟩ w (by rw [E70];omega)
theorem F27 (s:Str) (c:UInt8):FnOk Tryz.prog 209 [P8 s,P8 [c]] (fun rs=>rs=[N1 (decide (0≤Lib.indexByte s c))]) :=
 I87 (xs:=[.string ⟨s.toArray⟩,.string ⟨#[c]⟩]) ⟨_,rfl,rfl,rfl⟩ rfl fun w=>by simpa using Tryz.strings_Contains_one ⟨s.toArray⟩ c w
theorem B46 (s:Str) (hs:s.length≤1099511627776):FnOk Tryz.prog 137 [P8 s] (fun rs=>rs=[N1 (ended s)]):=by
 refine FnOk.intro Tryz.func137 (by decide) Z Z Z Z ?_
 refine k2 (A3 (A7 Z Z (A5 ?_)));refine k1 (k2 (A3 (A4 Z Z (C6 (F26 s [10] hs) Z Z Z ?_))));rintro _ rfl;refine A7 Z Z (A5 ?_)
 rw [C29]
 refine k1 (k10 ?_)
 exact B9 (I5 rfl rfl rfl) rfl
theorem I41 (s:Str) (hs:s.length≤1099511627776):FnOk Tryz.prog 210 [P8 s] (fun rs=>rs=[P8 (B25 s)]):=by
 refine FnOk.intro Tryz.func210 (by decide) Z Z Z Z ?_
 refine k2 (A3 (A7 Z Z (A5 ?_)));refine k1 (k2 (A3 (A4 Z Z (C6 (E34 s [10] hs) Z Z Z ?_))));rintro _ rfl;refine A7 Z Z (A5 ?_)
 rw [E43]
 refine k1 (k10 ?_)
 exact B9 (I5 rfl rfl rfl) rfl
theorem F91 (r:Row) (c:Int) (hr:0≤r.Marks∧r.Marks < 4294967296):FnOk Tryz.prog 177 [pRow r,J0 c] (fun rs=>rs=[N1 (b9 r c)]):=by
 refine FnOk.intro Tryz.func177 (by decide) Z Z Z Z ?_
 refine k2 (A3 (C2 (T8 2 Z Z Z) Z (A7 Z Z (A5 ?_))));refine k1 (k2 (k2 (A3 (A4 Z Z (F4 Z Z Z (A4 Z Z (B2 Z Z Z Z (fun hg=>by rw [hg];exact C3 Z Z) ?_)))))));refine B2 Z Z Z Z (fun hg=>by rw [hg];exact B61 Z Z) ?_;refine J5 Z Z ?_;refine A5 ?_;refine k1 ?_;refine B5 rfl (fun ht=>?_) (fun ht=>?_)
 ·have h:=A0 (or_pick.symm.trans ht)
  refine k2 (A3 (A7 Z Z (A5 ?_)));refine k1 (k10 (k11 ?_))
  exact B9 (I5 rfl rfl rfl) (by rw [b9,if_neg (by omega),if_pos (by omega)])
 ·have h:=A1 (or_pick.symm.trans ht)
  refine k5 (k1 (k2 (k2 (A3 (A4 Z Z (F4 Z Z Z (A5 ?_)))))));refine k1 ?_;refine B5 rfl (fun ht=>?_) (fun ht=>?_)
  ·have h2:=A0 ht
   refine k2 (A3 (A6 (A8 Z) Z (E9 Z Z Z Z (A6 (M3 Z) Z (A7 Z Z (A5 ?_))))));refine k1 (k10 (k11 ?_))
   exact B9 (I5 rfl rfl rfl) (by rw [b9,if_pos (by omega)])
  ·have h2:=A1 ht
   refine k5 (k1 (k2 (D5 (by kernel_rfl) (by kernel_rfl) (B1 (A8 Z) Z Z (B1 (B4 Z Z Z) Z Z (B1 (A8 Z) Z Z (B1 (B4 Z Z Z) Z Z (D3 Z Z (B1 (B60 Z Z (by omega)) Z Z (B1 (Z4 Z Z Z (fun _=>rfl)) Z Z (B1 (Q0 Z Z) Z Z (B1 (n_eql_b Z Z TyBool.out) Z Z (B1 (K8 Z Z) Z Z (O2 ?_))))))))))))));refine k1 (k10 (B9 (I5 Z Z Z) ?_))
   have h3:0≤r.Marks / 2 ^ c.toNat:=Int.ediv_nonneg hr.1 (Int.pow_nonneg (by decide))
   have h4:r.Marks / 2 ^ c.toNat≤r.Marks:=Int.ediv_le_self _ hr.1
   rw [b9,if_neg (by omega),if_neg (by omega),H47 r.Marks c (by omega),G17 _ (by omega),Bool.beq_comm]
   rfl
theorem D60 (r:Row) (n:Int) (hn:1≤n∧n≤32) (hr:0≤r.Marks∧r.Marks < 4294967296):FnOk Tryz.prog 155 [pRow r,J0 n] (fun rs=>rs=[N1 (T6 n.toNat r)]):=by
 refine FnOk.intro Tryz.func155 (by decide) Z Z Z Z ?_
 refine k2 (A3 (C2 (T8 2 Z Z Z) Z (A7 Z Z (A5 ?_))));refine k1 (k2 (A3 (A6 (A8 Z) Z (E9 Z Z Z Z (A6 (B60 Z Z (by omega)) Z (A4 Z Z (A6 (U3 Z Z (by omega)) Z (A6 (B60 Z Z (by omega)) Z (A6 (Q0 Z Z) Z (A4 Z Z (B2 Z Z Z Z (fun hg=>by rw [hg];exact A8 Z) ?_)))))))))));refine B2 Z Z Z Z (fun hg=>by rw [hg];exact B4 Z Z Z) ?_;refine B2 Z Z Z Z (fun hg=>by rw [hg];exact M3 Z) ?_;refine B2 Z Z Z Z (fun hg=>by rw [hg];exact C3 Z Z) ?_;refine P3 Z Z Z (.gd (.val _)) Z (fun hg=>by obtain ⟨hg1,hg2⟩:=n6 hg;(try rw [hg1]);(try rw [hg2]);exact A8 Z) ?_;refine P3 Z Z Z (.gd (.val _)) Z (fun hg=>by obtain ⟨hg1,hg2⟩:=n6 hg;(try rw [hg1]);(try rw [hg2]);exact B4 Z Z Z) ?_;refine P3 Z Z Z (.gd (.val _)) Z (fun hg=>by obtain ⟨hg1,hg2⟩:=n6 hg;(try rw [hg1]);(try rw [hg2]);exact O6 Z Z) ?_;refine B2 Z Z Z Z (fun hg=>by rw [hg];exact K6 Z (fun h=>by first | rfl | (rw [h];rfl)) (fun h=>by first | rfl | (rw [h];rfl))) ?_;refine J5 Z Z ?_;refine A7 Z Z (A5 ?_);refine k1 (k10 (B9 (I5 Z Z Z) ?_))
 have h0:0≤r.Marks / 2 ^ n.toNat:=Int.ediv_nonneg hr.1 (Int.pow_nonneg (by decide))
 have e1:r.Marks.fdiv (2 ^ (min (1:Int).toNat IntKind.u32.bits))=r.Marks / 2:=by
  rw [H47 r.Marks 1 (by omega)];rfl
 have e2:(r.Marks / 2).fdiv (2 ^ (min (n - 1).toNat IntKind.u32.bits))=r.Marks / 2 ^ n.toNat:=by
  rw [H47 (r.Marks / 2) (n - 1) (by omega),Int.ediv_ediv_of_nonneg (by decide)]
  have:n.toNat=(n - 1).toNat+1:=by omega
  rw [this,Int.pow_succ,Int.mul_comm]
 have e3:(if decide ((r.Marks.fdiv (2 ^ (min (1:Int).toNat IntKind.u32.bits))).fdiv (2 ^ (min (n - 1).toNat IntKind.u32.bits))=0)=true then (if (!r.Lost)=true then true else decide (r.Marks≠0)) else false)=T6 n.toNat r:=by
  rw [e1,e2,T6]
  cases r.Lost<;>by_cases hz:r.Marks / 2 ^ n.toNat=0<;>by_cases hy:r.Marks=0<;>simp [hz,hy]
 rw [←e3]
theorem A60 (r:Row) (hs:r.Text.length≤1099511627776):FnOk Tryz.prog 157 [pRow r] (fun rs=>rs=[N1 (K3 r.Text)]):=by
 refine FnOk.intro Tryz.func157 (by decide) Z Z Z Z ?_
 refine k2 (A3 (C2 (T8 1 Z Z Z) Z (A7 Z Z (A5 ?_))));refine k1 (k2 (A3 (A6 (A8 Z) Z (E9 Z Z Z Z (A6 (D24 Z Z) Z (A4 Z Z (B2 Z Z Z Z (fun hg=>by rw [hg];exact A8 Z) ?_)))))));refine B2 Z Z Z Z (fun hg=>by rw [hg];exact B4 Z Z Z) ?_;refine B2 Z Z Z Z (fun hg=>by have hq:=hg;(try simp at hq);rw [hg];exact O4 (I41 r.Text hs) Z Z) ?_;refine B2 Z Z Z Z (fun hg=>by have hq:=hg;(try simp at hq);rw [hg];exact O4 (F27 (B25 r.Text) 10) Z Z) ?_;refine B2 Z Z Z Z (fun hg=>by rw [hg];exact M3 Z) ?_;refine J5 Z Z ?_;refine A7 Z Z (A5 ?_);refine k1 (k10 (B9 (I5 Z Z Z) ?_))
 rw [←I03]
theorem H37 (r:Row) (res:Bool) (par:Int) (hs:r.Text.length≤1099511627776) :
  FnIo Tryz.prog 158 [pRow r] [.v (.bool res),.v (.int .u32 par)] (fun rs cs=>rs=[N1 (B75 res par r)]∧cs=[.v (.bool (B27 res r)),.v (.int .u32 (B28 par r))]):=by
 refine FnIo.intro Tryz.func158 (by decide) Z Z Z Z ?_
 refine k2 (A3 (C2 (T8 3 Z Z Z) Z (A7 Z Z (A5 ?_))));refine k1 (k2 (A3 (A6 (A8 Z) Z (E9 Z Z Z Z (A7 Z Z (A5 ?_))))));refine K4 ?_
 refine z6 [(3,.s (.one (.ref 3 0))),(0,.s (.one (.ref self 0))),(5,I9 (.int .u32 (E45 r)))] [(3,.box (pRow r).s1.cells),(self,.box [.p (.v (.bool res)),.p (.v (.int .u32 par))])] ?_ ?_
 ·refine k2 (A3 (A6 (A8 Z) Z (E9 Z Z Z Z (A6 (M3 Z) Z (A5 ?_)))));refine k1 ?_;refine B5 rfl (fun ht=>?_) (fun ht=>?_)
  ·have h:r.Lost=false:=by simpa using ht
   skip
   refine A3 (A4 Z Z (A6 (n_compl Z Z (fun _=>rfl)) Z (A7 Z Z (A5 ?_))));refine k1 ?_
   rw [E45,if_neg (by rw [h];simp)]
   exact I81 ⟨le1 rfl,le1 rfl,le1 rfl,trivial⟩ ⟨rfl,rfl,trivial⟩
  ·have h:r.Lost=true:=by simpa using ht
   refine k5 (k1 ?_)
   rw [E45,if_pos h]
   exact I81 ⟨le1 rfl,le1 rfl,le1 rfl,trivial⟩ ⟨rfl,rfl,trivial⟩
 refine k2 (A3 (A4 Z Z (A6 (C8 Z) Z (A6 (A8 Z) Z (E9 Z Z Z Z (A4 Z Z (A6 (Z4 Z Z Z (fun _=>rfl)) Z (A6 (Q0 Z Z) Z (A4 Z Z (B2 Z Z Z Z (fun hg=>by rw [hg];exact A8 Z) ?_))))))))));refine B2 Z Z Z Z (fun hg=>by rw [hg];exact B4 Z Z Z) ?_;refine B2 Z Z Z Z (fun hg=>by rw [hg];exact C3 Z Z) ?_;refine P3 Z Z Z (.gd (.val _)) Z (fun hg=>by obtain ⟨hg1,hg2⟩:=n6 hg;(try rw [hg1]);(try rw [hg2]);exact C3 Z Z) ?_;refine P3 Z Z Z (.gd (.val _)) Z (fun hg=>by obtain ⟨hg1,hg2⟩:=n6 hg;(try rw [hg1]);(try rw [hg2]);exact C8 Z) ?_;refine P3 Z Z Z (.gd (.val _)) Z (fun hg=>by obtain ⟨hg1,hg2⟩:=n6 hg;(try rw [hg1]);(try rw [hg2]);exact A8 Z) ?_;refine P3 Z Z Z (.gd (.val _)) Z (fun hg=>by obtain ⟨hg1,hg2⟩:=n6 hg;(try rw [hg1]);(try rw [hg2]);exact B4 Z Z Z) ?_;refine P3 Z Z Z (.gd (.val _)) Z (fun hg=>by obtain ⟨hg1,hg2⟩:=n6 hg;(try rw [hg1]);(try rw [hg2]);exact M3 Z) ?_;refine B2 Z Z Z Z (fun hg=>by rw [hg];exact K6 Z (fun h=>by first | rfl | (rw [h];rfl)) (fun h=>by first | rfl | (rw [h];rfl))) ?_;refine J5 Z Z ?_;refine A7 Z Z (A5 ?_);refine k1 (k2 (k2 (A3 (A6 (A8 Z) Z (E9 Z Z Z Z (C6 (B46 r.Text hs) Z Z Z ?_))))));rintro _ rfl;refine A6 (M3 Z) Z (A5 ?_)
 have hok:(if decide (G19 par (E45 r)=0)=true then (if r.Lost=true then true else !res) else false)=B75 res par r:=by
  rw [B75]
  cases r.Lost<;>cases res<;>by_cases h:G19 par (E45 r)=0<;>simp [h]
 refine k1 ?_;refine B5 rfl (fun ht=>?_) (fun ht=>?_)
 ·have h:ended r.Text=false:=by simpa using ht
  refine k2 (A3 (A4 Z Z (A6 (C8 Z) Z (A6 (A8 Z) Z (E9 Z Z Z Z (A4 Z Z (A6 (Z4 Z Z Z (fun _=>rfl)) Z (A6 (C8 Z) Z (A6 (A8 Z) Z (G1 (B7 TySz.out Z Z Z Z Z Z) (A5 ?_)))))))))));refine k1 (A3 (A4 Z Z (A4 Z Z (A6 (C8 Z) Z (A6 (A8 Z) Z (E9 Z Z Z Z (A4 Z Z (B2 Z Z Z Z (fun hg=>by rw [hg];exact A8 Z) ?_))))))));refine B2 Z Z Z Z (fun hg=>by rw [hg];exact B4 Z Z Z) ?_;refine B2 Z Z Z Z (fun hg=>by rw [hg];exact M3 Z) ?_;refine J5 Z Z ?_;refine A6 (C8 Z) Z (A6 (A8 Z) Z (G1 (B7 TySz.out Z Z Z Z Z Z) (A5 ?_)));refine k1 (k2 (A3 (A4 Z Z (A7 Z Z (A5 ?_)))));refine k1 (k10 ?_);refine io_ret (I5 rfl rfl rfl) rfl rfl ⟨by rw [←hok];rfl,?_⟩
  have ea:B27 res r=(res||!r.Lost):=by rw [B27,h];rfl
  have ep:B28 par r=I8 par (E45 r):=by rw [B28,h];rfl
  rw [ea,ep]
  cases res<;>rfl
 ·have h:ended r.Text=true:=by simpa using ht
  refine k5 (k1 (k2 (A3 (A4 Z Z (A7 Z Z (A5 ?_))))));refine k1 (k10 ?_)
  exact io_ret (I5 rfl rfl rfl) rfl rfl ⟨by rw [←hok];rfl,by rw [B27,B28,if_pos h,if_pos h]⟩
theorem E71 (t:Table) (hr:L3 t.Rows) (hl:t.Rows.length≤536870911) (hx:V6 t.Rows≤536870912):FnOk Tryz.prog 116 [pTable t] (fun rs=>rs=[J0 (J2 t)]):=by
 refine FnOk.intro Tryz.func116 (by decide) Z Z Z Z ?_
 refine k2 (A3 (C2 (T8 1 Z Z Z) Z (A7 Z Z (A5 ?_))));refine k1 (k2 (k2 (A3 (A6 (A8 Z) Z (E9 Z Z Z Z (F4 Z Z Z (A4 Z Z (B2 Z Z Z Z (fun hg=>by rw [hg];exact A8 Z) ?_))))))));refine B2 Z Z Z Z (fun hg=>by rw [hg];exact B4 Z Z Z) ?_;refine B2 Z Z Z Z (fun hg=>by rw [hg];exact R0 Z Z) ?_;refine J5 Z Z ?_;refine A5 ?_;refine k1 ?_;refine B5 rfl (fun ht=>?_) (fun ht=>?_)
 ·have h:=A0 (or_pick.symm.trans ht)
  refine k2 (A3 (A7 Z Z (A5 ?_)));refine k1 (k10 (k11 ?_))
  exact B9 (I5 rfl rfl rfl) (by rw [J2,if_pos h])
 ·have h:=A1 (or_pick.symm.trans ht)
  refine L6 [(1,.s (.one (.ref 1 0)))] [(1,.box [.p (.v (.int .i64 t.Parents)),.p (.list Row 3 rowC t.Rows)])] (I81 ⟨le1 rfl,trivial⟩ ⟨rfl,trivial⟩) ?_
  refine k5 (k1 (k2 (k2 (A3 (A6 (A8 Z) Z (E9 Z Z Z Z (E4 Z Z (A4 Z Z (A5 ?_)))))))));refine k1 (k3 (D2 (X:=Nat) (fun i=>([(1,.s (.one (.ref 1 0))),(17,C0 Row 3 rowC t.Rows),(18,B6 t.Rows.length),(19,B6 i)],[(1,.box [.p (.v (.int .i64 t.Parents)),.p (.list Row 3 rowC t.Rows)])])) (fun i=>i≤t.Rows.length∧P6 t.Rows t.Parents.toNat=P6 (t.Rows.drop i) t.Parents.toNat) (fun i=>t.Rows.length - i) 0 ⟨Nat.zero_le _,rfl⟩ (I81 ⟨le1 rfl,le1 rfl,le1 rfl,le1 rfl,trivial⟩ ⟨rfl,trivial⟩) ?_))
  rintro i ⟨hi,hp⟩
  dsimp only at hi hp ⊢
  refine k2 (A3 (F4 Z Z Z (A5 ?_)));refine k1 (k2 ?_);refine B5 rfl (fun ht=>?_) (fun ht=>?_)
  ·have hlt:i < t.Rows.length:=by have:=A0 ht;omega
   have hv:t.Rows[i]?=some t.Rows[i]:=by simp [hlt]
   rw [J20 hlt,C28] at hp
   refine k5 (k1 (k2 (k3 (k2 (A3 (A6 (A9 Z (.pure _ _ _ _) Z (by omega) hv) Z (A6 (F5 Z Z) Z (C2 (H3 4 Z) Z (G1 (B7 TySz.out Z Z Z Z Z Z) (A5 ?_))))))))));refine k1 (k2 (A3 (A6 (D6 Z Z Z) Z (A6 (A8 Z) Z (E9 Z Z Z Z (C6 (D60 t.Rows[i] t.Parents (by omega) (hr _ (J26 hlt))) Z Z Z ?_))))));rintro _ rfl;refine A6 (M3 Z) Z (A5 ?_);refine k1 ?_;refine B5 rfl (fun ht=>?_) (fun ht=>?_)
   ·have h2:T6 t.Parents.toNat t.Rows[i]=false:=by simpa using ht
    rw [h2,Bool.false_and] at hp
    refine k2 (A3 (A7 Z Z (A5 ?_)));refine k1 (k10 (k12 (k11 (k11 (k12 (k11 ?_))))))
    exact B9 (I5 rfl rfl rfl) (by rw [J2,if_neg h,if_pos hp])
   ·have h2:T6 t.Parents.toNat t.Rows[i]=true:=by simpa using ht
    rw [h2,Bool.true_and] at hp
    refine k5 (k4 (k1 (A3 (C5 Z Z Z (A4 Z Z (A5 ?_))))));refine k1 ?_
    exact ⟨i+1,⟨by omega,hp⟩,by omega,I81 ⟨le1 rfl,le1 rfl,le1 rfl,le1 rfl,trivial⟩ ⟨rfl,trivial⟩⟩
  ·have hil:i=t.Rows.length:=by have:=A1 ht;omega
   rw [hil,J23 (Nat.le_refl _)] at hp
   have hm:P6 t.Rows t.Parents.toNat=true:=hp
   refine L6 [(1,.s (.one (.ref 1 0)))] [(1,.box [.p (.v (.int .i64 t.Parents)),.p (.list Row 3 rowC t.Rows)])] (I81 ⟨le1 rfl,trivial⟩ ⟨rfl,trivial⟩) ?_
   clear hil ht hp hi
   have hat:=D80 t.Rows t.Parents.toNat (by omega) hm hr
   refine k6 (k2 (A3 (C2 (H3 5 Z) Z (A5 ?_))));refine k1 (k2 (k2 (A3 (A6 (A8 Z) Z (E9 Z Z Z Z (E4 Z Z (A4 Z Z (A5 ?_))))))));refine k1 (k3 (D2 (X:=Nat × Bool × Int) (fun x=>([(1,.s (.one (.ref 1 0))),(5,.s (.one (.ref 5 0))),(30,C0 Row 3 rowC t.Rows),(31,B6 t.Rows.length),(32,B6 x.1)],[(1,.box [.p (.v (.int .i64 t.Parents)),.p (.list Row 3 rowC t.Rows)]),(5,.box [.p (.v (.bool x.2.1)),.p (.v (.int .u32 x.2.2))])])) (fun x=>x.1≤t.Rows.length∧Q6 false 0 t.Rows=Q6 x.2.1 x.2.2 (t.Rows.drop x.1)) (fun x=>t.Rows.length - x.1) (0,false,0) ⟨Nat.zero_le _,rfl⟩ (I81 ⟨le1 rfl,le1 rfl,le1 rfl,le1 rfl,le1 rfl,trivial⟩ ⟨rfl,rfl,trivial⟩) ?_))
   rintro ⟨i,res,par⟩ ⟨hi,hp⟩
   dsimp only at hi hp ⊢
   refine k2 (A3 (F4 Z Z Z (A5 ?_)));refine k1 (k2 ?_);refine B5 rfl (fun ht=>?_) (fun ht=>?_)
   ·have hlt:i < t.Rows.length:=by have:=A0 ht;omega
    have hv:t.Rows[i]?=some t.Rows[i]:=by simp [hlt]
    have htl:=G16 t.Rows _ (J26 hlt)
    rw [J20 hlt,Q6] at hp
    refine k5 (k1 (k2 (k3 (k2 (A3 (A6 (A9 Z (.pure _ _ _ _) Z (by omega) hv) Z (A6 (F5 Z Z) Z (C2 (H3 7 Z) Z (G1 (B7 TySz.out Z Z Z Z Z Z) (A5 ?_))))))))));refine k1 (k2 ?_)
    by_cases hs:K3 t.Rows[i].Text=true
    ·refine A3 (A6 (D6 Z Z Z) Z (C6 (A60 t.Rows[i] (by omega)) Z Z Z ?_));rintro _ rfl;refine A6 (M3 Z) Z (A4 Z Z (O5 Z Z Z (by rw [hs];rfl) ?_));refine A6 (D6 Z Z Z) Z (O5 Z Z Z (by rw [hs];rfl) ?_);refine F70 (H37 t.Rows[i] res par (by omega)) Z Z Z Z Z Z ?_;rintro _ _ ⟨rfl,rfl⟩;refine B2 Z Z Z Z (fun hg=>by rw [hg];exact M3 Z) ?_;refine J5 Z Z ?_;refine A5 ?_;refine k1 ?_;refine B5 rfl (fun ht=>?_) (fun ht=>?_)
     ·have h2:B75 res par t.Rows[i]=false:=by rw [hs] at ht;simpa using ht
      rw [hs,h2,Bool.true_and,Bool.false_and] at hp
      refine k2 (A3 (A7 Z Z (A5 ?_)));refine k1 (k10 (k12 (k11 (k11 (k12 (k11 ?_))))))
      exact B9 (I5 rfl rfl rfl) (by rw [J2,if_neg h,if_neg (by simp [hm]),if_pos (by rw [←hat];exact hp)])
     ·have h2:B75 res par t.Rows[i]=true:=by rw [hs] at ht;simpa using ht
      rw [hs,h2,Bool.true_and,Bool.true_and] at hp
      refine k5 (k4 (k1 (A3 (C5 Z Z Z (A4 Z Z (A5 ?_))))));refine k1 ?_
      exact ⟨(i+1,_,_),⟨by dsimp only;omega,hp⟩,by dsimp only;omega,I81 ⟨le1 rfl,le1 rfl,le1 rfl,le1 rfl,le1 rfl,trivial⟩ ⟨rfl,rfl,trivial⟩⟩
    ·have hs':K3 t.Rows[i].Text=false:=by simpa using hs
     refine A3 (A6 (D6 Z Z Z) Z (C6 (A60 t.Rows[i] (by omega)) Z Z Z ?_));rintro _ rfl;refine A6 (M3 Z) Z (A4 Z Z (B2 Z Z Z Z (fun hg=>by rw [hg];exact D6 Z Z Z) ?_));refine O8 Z Z Z (by rw [hs'];decide) Z ?_;refine O8 Z Z Z (by rw [hs'];decide) Z ?_;refine A6 (K6 (q:=true) Z (fun h=>rfl) (fun h=>by rw [hs'] at h;cases h)) Z ?_;refine A5 ?_
     rw [hs',Bool.false_and,Bool.false_and] at hp
     refine k1 ?_;refine B5 rfl (fun ht=>?_) (fun ht=>?_)
     ·refine k2 (A3 (A7 Z Z (A5 ?_)));refine k1 (k10 (k12 (k11 (k11 (k12 (k11 ?_))))))
      exact B9 (I5 rfl rfl rfl) (by rw [J2,if_neg h,if_neg (by simp [hm]),if_pos (by rw [←hat];exact hp)])
     ·rw [hs'] at ht;cases ht
   ·have hil:i=t.Rows.length:=by have:=A1 ht;omega
    rw [hil,J23 (Nat.le_refl _)] at hp
    have hp':Q6 false 0 t.Rows=true:=hp
    refine k6 (k2 (A3 (A7 Z Z (A5 ?_))));refine k1 (k10 ?_)
    exact B9 (I5 rfl rfl rfl) (by rw [J2,if_neg h,if_neg (by simp [hm]),if_neg (by rw [←hat,hp'];simp)])
def isBld (ob:Obs) (xs:Str):Prop:=(∃a,(a=.p (.v (.pointer none))∨a=.ref 700 0)∧C1 ob 700=some (.tbx 124 [a,.buf 701 UInt8 1 u8C xs]))∧C1 ob 701=some (.spare xs.length 1 5)
abbrev bldObs (ob:Obs) (ys xs:Str):Obs:=(700,.tbx 124 [.ref 700 0,.buf 701 UInt8 1 u8C xs])::(701,.spare xs.length 1 5)::Obs.forget 701 ((700,.tbx 124 [.ref 700 0,.buf 701 UInt8 1 u8C ys])::ob)
def H38:Go.Shelf.Ren:=⟨fun | 240=>147 | 276=>204 | n=>n,fun | 72=>124 | 70=>122 | 164=>240 | 37=>115 | n=>n,fun n=>n⟩
theorem ccLays:Go.Proofs.Lays.n240 Tryz.prog H38:={
 mixed:=by kernel_rfl
 f240:=Tryz.func147.trans (congrArg some (by kernel_rfl))
 f276:=Tryz.func204.trans (congrArg some (by kernel_rfl))
 t0:=Tryz.underlying0
 a0:=Tryz.isAgg0
 z0:=Tryz.sizeOf0
 v0:=Tryz.zeroValue0
 t4:=Tryz.underlying4
 a4:=Tryz.isAgg4
 z4:=Tryz.sizeOf4
 v4:=Tryz.zeroValue4
 t9:=Tryz.underlying9
 a9:=Tryz.isAgg9
 z9:=Tryz.sizeOf9
 v9:=Tryz.zeroValue9
 t20:=Tryz.underlying20
 a20:=Tryz.isAgg20
 z20:=Tryz.sizeOf20
 v20:=Tryz.zeroValue20
 t70:=Tryz.underlying122
 a70:=Tryz.isAgg122
 z70:=Tryz.sizeOf122
 v70:=Tryz.zeroValue122
 t72:=Tryz.underlying124
 a72:=Tryz.isAgg124
 z72:=Tryz.sizeOf124
 v72:=Tryz.zeroValue124
 t164:=Tryz.underlying240
 a164:=Tryz.isAgg240
 z164:=Tryz.sizeOf240
 v164:=Tryz.zeroValue240 }
theorem ccX:Builder.X72 Tryz.prog H38:={
 sizeBuilder:=by kernel_rfl
 liesBuilder:=by kernel_rfl }
theorem B70 {gf:Fr} {ob:Obs} {a t:TC} (hk:C1 ob 700=some (.tbx 124 [a,t])) (ha:a=.p (.v (.pointer none))∨a=.ref 700 0) :
  AL.Met Tryz.prog 147 [.one (.ref 700 0)] gf ob [] (fun rs ob'=>rs=[]∧ob'=(700,.tbx 124 [.ref 700 0,t])::ob) :=
 AL.Met.copyCheck ⟨_,rfl,rfl,rfl⟩ (fun b w h1 h2 h3=>Any.Builder_copyCheck_fresh (ρ:=H38) ccLays ccX b w h1 h2 h3) (fun b w h=>Any.Builder_copyCheck_used (ρ:=H38) ccLays ccX b w h) hk ha
theorem P9 {gf:Fr} {ob:Obs} {xs s:Str} (hb:isBld ob xs) (hlen:xs.length+s.length≤1073741824) :
  AL.Met Tryz.prog 85 [.one (.ref 700 0),.one (.p (.v (.string ⟨s.toArray⟩)))] gf ob [701] (fun rs ob'=>rs=[.one (.p (.v (.int .i64 s.length))),.one (.p (.v .nilIface))]∧ob'=bldObs ob xs (xs++s)):=by
 obtain ⟨⟨a,ha,hk⟩,hk1⟩:=hb
 refine AL.Met.intro Tryz.func85 (by decide) Z Z Z ?_
 refine k2 (A3 (A7 Z Z (A7 Z Z (A5 ?_))));refine k1 (k2 (A3 (A4 Z Z (A15 (B70 hk ha) Z Z Z ?_))));rintro _ _ ⟨rfl,rfl⟩;refine A5 ?_;refine k1 (k2 (A3 (A4 Z Z (A4 Z Z (A6 (C8 Z) Z (A6 (A8 Z) Z (A6 (C85 Z Z Z) Z (A4 Z Z (C2 (B80 TyStr.out Z hk1 Z (by first | omega | (simp;omega)) Z) Z (A6 (C8 Z) Z (A6 (A8 Z) Z (G1 (C12 TySz.out Z Z Z Z Z Z) (A5 ?_)))))))))))));refine k1 (k2 (A3 (A4 Z Z (A6 (Q3 Z) Z (A7 Z Z (A7 Z Z (A5 ?_)))))));refine k1 (k10 ?_)
 exact X6 (rets2 rfl rfl rfl) (by repeat (first | exact F8 | refine F9 rfl ?_ | refine M1 _ ?_)) (fun _ _ h=>h) ⟨rfl,rfl⟩
theorem B71 {gf:Fr} {ob:Obs} {xs:Str} {c:UInt8} (hb:isBld ob xs) (hlen:xs.length+1≤1073741824) :
  AL.Met Tryz.prog 136 [.one (.ref 700 0),.one (.p (.v (.int .u8 c.toNat)))] gf ob [701] (fun rs ob'=>rs=[.one (.p (.v .nilIface))]∧ob'=bldObs ob xs (xs++[c])):=by
 obtain ⟨⟨a,ha,hk⟩,hk1⟩:=hb
 refine AL.Met.intro Tryz.func136 (by decide) Z Z Z ?_
 refine k2 (A3 (A7 Z Z (A5 ?_)));refine k1 (k2 (A3 (A4 Z Z (A15 (B70 hk ha) Z Z Z ?_))));rintro _ _ ⟨rfl,rfl⟩;refine A5 ?_;refine k1 (k2 (A3 (A4 Z Z (A4 Z Z (A6 (C8 Z) Z (A6 (A8 Z) Z (A6 (C85 Z Z Z) Z (A4 Z Z (A6 (C9 (c:=u8C) (ys:=[c]) (E0 Z Z Z Z G6) Z Z Z) Z (C2 (H4 Z hk1 Z (.pure _ _ _ _) (by (simp;omega)) Z) Z (A6 (C8 Z) Z (A6 (A8 Z) Z (G1 (C12 TySz.out Z Z Z Z Z Z) (A5 ?_))))))))))))));refine k1 (k2 (A3 (A7 Z Z (A5 ?_))));refine k1 (k10 ?_)
 exact X6 (A90 rfl rfl) (by repeat (first | exact F8 | refine F9 rfl ?_ | refine M1 _ ?_)) (fun _ _ h=>h) ⟨rfl,rfl⟩
end Go.Proofs.YtbiadkkamhpdnaaGreatDoor
