/- Walks of the program's functions. -/
import Derived.Test.YtbiadkkamhpdnaaGreatDoorFb
import Derived.Test.YtbiadkkamhpdnaaGreatDoorFs
import Derived.Test.YtbiadkkamhpdnaaGreatDoorAn
set_option linter.unusedSimpArgs false
namespace Go.Proofs.YtbiadkkamhpdnaaGreatDoor
open Go Go.AL
set_option maxRecDepth 100000
end Go.Proofs.YtbiadkkamhpdnaaGreatDoor
namespace Go.Proofs.YtbiadkkamhpdnaaGreatDoor
open Go Go.AL
set_option maxRecDepth 100000
end Go.Proofs.YtbiadkkamhpdnaaGreatDoor
namespace Go.Proofs.YtbiadkkamhpdnaaGreatDoor
open Go Go.AL
set_option maxRecDepth 100000
theorem check12_good {p:Patch} (h1:¬C33 p≠0):C70 p.Hunks=true:=by
 by_cases hg:C70 p.Hunks=true
 ·exact hg
 ·exfalso;apply h1;unfold C33;split
  ·decide
  ·rw [if_pos (by simpa using hg)];decide
end Go.Proofs.YtbiadkkamhpdnaaGreatDoor
namespace Go.Proofs.YtbiadkkamhpdnaaGreatDoor
open Go Go.AL
set_option maxRecDepth 100000
end Go.Proofs.YtbiadkkamhpdnaaGreatDoor
namespace Go.Proofs.YtbiadkkamhpdnaaGreatDoor
open Go Go.AL
set_option maxRecDepth 100000
end Go.Proofs.YtbiadkkamhpdnaaGreatDoor
namespace Go.Proofs.YtbiadkkamhpdnaaGreatDoor
open Go Go.AL
set_option maxRecDepth 100000
end Go.Proofs.YtbiadkkamhpdnaaGreatDoor
namespace Go.Proofs.YtbiadkkamhpdnaaGreatDoor
open Go Go.AL
set_option maxRecDepth 100000
theorem D61 (n:Int):FnOk Tryz.prog 232 [J0 n] (fun rs=>rs=[N1 (decide (M2 n))]):=by
 refine FnOk.intro Tryz.func232 (by decide) Z Z Z Z ?_
 refine k2 (A3 (A7 Z Z (A5 ?_)));refine k1 (k2 (A3 (A4 Z Z (A6 (B61 Z Z) Z (A4 Z Z (B2 Z Z Z Z (fun hg=>by rw [hg];exact C3 Z Z) ?_))))));refine B2 Z Z Z Z (fun hg=>by rw [hg];exact A39 Z Z) ?_;refine J5 Z Z ?_;refine A7 Z Z (A5 ?_);refine k1 (k10 (B9 (I5 Z Z Z) ?_))
 simp only [Q2]
 rfl
theorem H82 {gf:Fr} {ob:Obs} (p:List Span):AL.Met Tryz.prog 261 [.one (.p (.list Span 2 spanC p))] gf ob [] (fun rs ob'=>rs=[.one (.full Span 2 spanC p)]∧ob'=ob):=by
 refine AL.Met.intro Tryz.func261 (by decide) Z Z Z ?_
 refine k2 (A3 (A7 Z Z (A5 ?_)));refine k1 (k2 (A3 (A4 Z Z (A4 Z Z (E4 Z Z (A4 Z Z (E4 Z Z (A6 (G73 Z (.pure _ _ _ _) Z Z (by omega) (by omega) (by first | rfl | omega)) Z ?_))))))));refine A7 Z Z (A5 ?_)
 rw [show p.take (p.length:Int).toNat=p by simp]
 refine k1 (k10 ?_)
 exact X6 (A90 rfl rfl) (by repeat (first | exact F8 | refine F9 rfl ?_ | refine M1 _ ?_)) (fun _ _ h=>h) ⟨rfl,rfl⟩
def A18 (i j:Int):List Span→List Change
 | []=>[]
 | x::r=>(if x.From > i∨x.To > j then [⟨i,x.From - i,j,x.To - j⟩] else [])++A18 (x.From+1) (x.To+1) r
theorem C89 (m n:Int):∀(p:List Span) (i j:Int),A18 i j (p++[⟨m,n⟩])=L9 i j p m n
 | [],i,j=>by simp [A18,L9]
 | x::r,i,j=>by
  rw [J57,A18,L9,C89 m n r]
theorem E36 (p:List Span) (m n:Int) (hp:p.length≤536870912) (hm:-1099511627776≤m∧m≤1099511627776) (hn:-1099511627776≤n∧n≤1099511627776) (hb:∀s∈p,-1099511627776≤s.From∧s.From≤1099511627776 ∧ -1099511627776≤s.To∧s.To≤1099511627776) :
  FnOk Tryz.prog 233 [pSpans p,J0 m,J0 n] (fun rs=>rs=[pChanges (Y0 p m n)]):=by
 refine FnOk.intro Tryz.func233 (by decide) Z Z Z Z ?_
 refine k2 (A3 (A7 Z Z (A5 ?_)));refine k1 (k2 (A3 (C2 (X5 7 _ changeC Z) Z (A5 ?_))));refine k1 (k2 (A3 (A7 Z Z (A7 Z Z (A5 ?_)))));refine k1 (k2 (k2 (A3 (A4 Z Z (A15 (H82 p) Z Z Z ?_)))));rintro _ _ ⟨rfl,rfl⟩;refine A4 Z Z (A4 Z Z (A6 (I1 Z) Z (A6 (C9 (c:=spanC) (ys:=[⟨m,n⟩]) (E0 Z Z Z Z G6) Z Z Z) Z (C2 (E30 18 Z Z (.pure _ _ _ _) (by simp;omega) (by simp) Z) Z (A6 (V1 Z (.buf _ _ _ _ _)) Z (A4 Z Z (A5 ?_)))))))
 obtain ⟨q,hq⟩:∃q,q=p++[(⟨m,n⟩:Span)]:=⟨_,rfl⟩
 have hql:q.length=p.length+1:=by rw [hq];simp
 have hqb:∀s∈q,-1099511627776≤s.From∧s.From≤1099511627776 ∧ -1099511627776≤s.To∧s.To≤1099511627776:=by
  intro s hs
  rw [hq] at hs
  rcases List.mem_append.1 hs with h | h
  ·exact hb s h
  ·simp at h;subst h;exact ⟨hm.1,hm.2,hn.1,hn.2⟩
 have hres:Y0 p m n=A18 0 0 q:=by rw [hq,C89];rfl
 rw [←hq]
 refine k1 (k3 (D2 (X:=Nat × Int × Int × List Change) (fun x=>([(7,.s (.one (.buf 7 Change 4 changeC x.2.2.2))),(8,B6 x.2.1),(9,B6 x.2.2.1),(18,.s (.one (.buf 18 Span 2 spanC q))),(19,B6 q.length),(20,B6 x.1)],[(7,.spare x.2.2.2.length 4 146)])) (fun x=>x.1≤q.length∧x.2.2.2++A18 x.2.1 x.2.2.1 (q.drop x.1)=Y0 p m n∧(-1099511627777≤x.2.1∧x.2.1≤1099511627777)∧(-1099511627777≤x.2.2.1∧x.2.2.1≤1099511627777)∧x.2.2.2.length≤x.1) (fun x=>q.length - x.1) (0,0,0,[]) ⟨Nat.zero_le _,hres.symm,by decide,by decide,Nat.le_refl _⟩ (I81 ⟨le1 rfl,le1 rfl,le1 rfl,le1 rfl,le1 rfl,le1 rfl,trivial⟩ ⟨rfl,trivial⟩) ?_))
 rintro ⟨k,i,j,out⟩ ⟨hk,he,hi,hj,hol⟩
 dsimp only at hk he hi hj hol ⊢
 refine k2 (A3 (F4 Z Z Z (A5 ?_)));refine k1 (k2 ?_);refine B5 rfl (fun ht=>?_) (fun ht=>?_)
 ·have hlt:k < q.length:=by have:=A0 ht;omega
  have hv:q[k]?=some q[k]:=by simp [hlt]
  have hbk:=hqb _ (J26 hlt)
  obtain ⟨c,hc⟩:∃c,c=q[k]:=⟨_,rfl⟩
  rw [J20 hlt,A18] at he
  rw [←hc] at hv he hbk
  refine k5 (k1 (k2 (k3 (k2 (A3 (A6 (A9 Z (.buf _ _ _ _ _) Z (by omega) hv) Z (A6 (F5 Z Z) Z (C2 (H3 11 Z) Z (G1 (B7 TySz.out Z Z Z Z Z Z) (A5 ?_))))))))));refine K4 ?_
  obtain ⟨out',hout'⟩:∃out',out'=out++(if c.From > i∨c.To > j then [⟨i,c.From - i,j,c.To - j⟩] else []):=⟨_,rfl⟩
  have hol':out'.length≤k+1:=by rw [hout',J15];split<;>simp<;>omega
  rw [←J25,←hout'] at he
  refine z6 [(7,.s (.one (.buf 7 Change 4 changeC out'))),(8,B6 i),(9,B6 j),(11,.s (.one (.ref 11 0))),(18,.s (.one (.buf 18 Span 2 spanC q))),(19,B6 q.length),(20,B6 k)] [(7,.spare out'.length 4 146),(11,.box [.p (.v (.int .i64 c.From)),.p (.v (.int .i64 c.To))])] ?_ ?_
  ·refine k2 (A3 (A6 (A8 Z) Z (E9 Z Z Z Z (A4 Z Z (A6 (R0 Z Z) Z (A4 Z Z (B2 Z Z Z Z (fun hg=>by rw [hg];exact A8 Z) ?_)))))));refine B2 Z Z Z Z (fun hg=>by rw [hg];exact B4 Z Z Z) ?_;refine B2 Z Z Z Z (fun hg=>by rw [hg];exact C3 Z Z) ?_;refine B2 Z Z Z Z (fun hg=>by rw [hg];exact R0 Z Z) ?_;refine J5 Z Z ?_;refine A5 ?_;refine k1 ?_;refine B5 rfl (fun ht=>?_) (fun ht=>?_)
   ·simp only [or_pick] at ht
    have h1:=A0 ht
    rw [if_pos h1] at hout'
    skip
    refine A3 (A4 Z Z (A4 Z Z (A6 (A8 Z) Z (E9 Z Z Z Z (A4 Z Z (A6 (U3 Z Z (by omega)) Z (A4 Z Z (A6 (A8 Z) Z (E9 Z Z Z Z (A4 Z Z (A6 (U3 Z Z (by omega)) Z (A6 (I1 Z) Z (A6 (C9 (c:=changeC) (ys:=[⟨i,c.From - i,j,c.To - j⟩]) (E0 Z Z Z Z G6) Z Z Z) Z (C2 (H4 Z Z Z (.pure _ _ _ _) (by (simp only [J16,J19];omega)) Z) Z (A7 Z Z (A5 ?_))))))))))))))));refine k1 ?_
    rw [hout']
    exact I81 ⟨le1 rfl,le1 rfl,le1 rfl,le1 rfl,le1 rfl,le1 rfl,le1 rfl,trivial⟩ ⟨rfl,rfl,trivial⟩
   ·simp only [or_pick] at ht
    have h1:=A1 ht
    rw [if_neg h1,J35] at hout'
    refine k5 (k1 ?_)
    rw [hout']
    exact I81 ⟨le1 rfl,le1 rfl,le1 rfl,le1 rfl,le1 rfl,le1 rfl,le1 rfl,trivial⟩ ⟨rfl,rfl,trivial⟩
  ·skip
   refine D5 (by kernel_rfl) (by kernel_rfl) (B1 (A8 Z) Z Z (B1 (B4 Z Z Z) Z Z (B1 (U2 Z Z (by omega)) Z Z (B1 (A8 Z) Z Z (B1 (B4 Z Z Z) Z Z (B1 (U2 Z Z (by omega)) Z Z (B1 (K8 Z Z) Z Z (B1 (K8 Z Z) Z Z (O2 ?_)))))))));refine k4 (k1 (A3 (C5 Z Z Z (A4 Z Z (A5 ?_)))));refine k1 ?_
   exact ⟨(k+1,c.From+1,c.To+1,out'),⟨by dsimp only;omega,he,⟨by dsimp only;omega,by dsimp only;omega⟩,⟨by dsimp only;omega,by dsimp only;omega⟩,by dsimp only;omega⟩,by dsimp only;omega,I81 ⟨le1 rfl,le1 rfl,le1 rfl,le1 rfl,le1 rfl,le1 rfl,trivial⟩ ⟨rfl,trivial⟩⟩
 ·have hk':k=q.length:=by have:=A1 ht;omega
  rw [hk',J23 (Nat.le_refl _),A18,J35] at he
  refine k6 (k2 (A3 (A4 Z Z (A7 Z Z (A5 ?_)))));refine k1 (k10 ?_)
  exact B9 (I5 rfl rfl rfl) (by rw [←he])
theorem F93 {m n:Int}:∀{p:List Span} {i j:Int},Asc m n i j p→∀k (h:k < p.length),(k=0→i≤p[k].From∧j≤p[k].To)∧(∀h0:0 < k,p[k - 1].From < p[k].From∧p[k - 1].To < p[k].To)∧p[k].From < m∧p[k].To < n
 | [],_,_,_,k,h=>by simp at h
 | x::r,i,j,ha,k,h=>by
  obtain ⟨h1,h2,h3⟩:=ha
  cases k with
  | zero=>have:=h3.le;exact ⟨fun _=>⟨h1,h2⟩,fun h0=>absurd h0 (by omega),by show x.From < m;omega,by show x.To < n;omega⟩
  | succ k =>
   obtain ⟨g1,g2,g3,g4⟩:=F93 h3 k (by simpa using h)
   refine ⟨fun h0=>absurd h0 (by omega),fun _=>?_,by simpa using g3,by simpa using g4⟩
   cases k with
   | zero =>
    obtain ⟨q1,q2⟩:=g1 rfl
    have hr:0 < r.length:=by simpa using h
    show x.From < r[0].From∧x.To < r[0].To
    omega
   | succ k=>simpa using g2 (by omega)
theorem E37 (p:List Span) (m n:Int) (hm:M2 m) (hn:M2 n) (ha:Asc m n 0 0 p) (hp:p.length≤536870912) :
  FnOk Tryz.prog 189 [pSpans p,J0 m,J0 n] (fun rs=>rs=[pChanges (Y0 p m n),J0 0]):=by
 obtain ⟨hm1,hm2⟩:=hm
 obtain ⟨hn1,hn2⟩:=hn
 have hst:=F93 ha
 have hb:∀s∈p,0≤s.From∧s.From≤4096∧0≤s.To∧s.To≤4096:=by
  have key:∀(p:List Span) (i j:Int),Asc m n i j p→0≤i→0≤j→∀s∈p,0≤s.From∧s.From≤4096∧0≤s.To∧s.To≤4096:=by
   intro p
   induction p with
   | nil=>intro _ _ _ _ _ s hs;simp at hs
   | cons x r ih =>
    rintro i j ⟨h1,h2,h3⟩ h4 h5 s hs
    have:=h3.le
    rcases List.mem_cons.1 hs with rfl | hs
    ·omega
    ·exact ih _ _ h3 (by omega) (by omega) s hs
  exact key p 0 0 ha (by omega) (by omega)
 refine FnOk.intro Tryz.func189 (by decide) Z Z Z Z ?_
 refine k2 (A3 (A7 Z Z (A7 Z Z (A5 ?_))));refine k1 (k2 (k2 (A3 (A4 Z Z (C6 (D61 m) Z Z Z ?_)))));rintro _ rfl;refine A6 (M3 Z) Z (A4 Z Z (B2 Z Z Z Z (fun hg=>by rw [hg];exact C3 Z Z) ?_));refine B2 Z Z Z Z (fun hg=>by have hq:=hg;(try simp at hq);rw [hg];exact O4 (D61 n) Z Z) ?_;refine B2 Z Z Z Z (fun hg=>by rw [hg];exact M3 Z) ?_;refine J5 Z Z ?_;refine A5 ?_;refine k1 ?_;refine B5 rfl (fun ht=>?_) (fun ht=>?_)
 ·exfalso
  simp only [←decide_not,or_pick] at ht
  have h:¬M2 m∨¬M2 n:=A0 ht
  rcases h with h | h
  ·exact h ⟨hm1,hm2⟩
  ·exact h ⟨hn1,hn2⟩
 refine L6 [(0,C0 Span 2 spanC p),(1,B6 m),(2,B6 n)] [] (I81 ⟨le1 rfl,le1 rfl,le1 rfl,trivial⟩ trivial) ?_
 refine k5 (k1 (k2 (A3 (A6 (I1 Z) Z (C2 (H3 8 Z) Z (G1 (B7 TySz.out Z Z Z Z Z Z) (A5 ?_)))))));refine k1 (k2 (k2 (A3 (A4 Z Z (E4 Z Z (A4 Z Z (A5 ?_)))))));refine k1 (k3 ?_)
 obtain ⟨lastOf,hlast⟩:∃lastOf:Nat→Span,lastOf=fun k=>if k=0 then ⟨-1,-1⟩ else p.getD (k - 1) ⟨0,0⟩:=⟨_,rfl⟩
 refine D2 (X:=Nat) (fun k=>([(0,C0 Span 2 spanC p),(1,B6 m),(2,B6 n),(8,.s (.one (.ref 8 0))),(20,C0 Span 2 spanC p),(21,B6 p.length),(22,B6 k)],[(8,.box [.p (.v (.int .i64 (lastOf k).From)),.p (.v (.int .i64 (lastOf k).To))])])) (fun k=>k≤p.length) (fun k=>p.length - k) 0 (Nat.zero_le _) ?_ ?_
 ·rw [show lastOf 0=⟨-1,-1⟩ by rw [hlast];rfl]
  exact I81 ⟨le1 rfl,le1 rfl,le1 rfl,le1 rfl,le1 rfl,le1 rfl,le1 rfl,trivial⟩ ⟨rfl,trivial⟩
 intro k hk
 dsimp only at hk ⊢
 refine k2 (A3 (F4 Z Z Z (A5 ?_)));refine k1 (k2 ?_);refine B5 rfl (fun ht=>?_) (fun ht=>?_)
 ·have hlt:k < p.length:=by have:=A0 ht;omega
  have hv:p[k]?=some p[k]:=by simp [hlt]
  obtain ⟨g1,g2,g3,g4⟩:=hst k hlt
  have hnext:lastOf (k+1)=p[k]:=by rw [hlast];simp [hlt]
  have hless:(lastOf k).From < p[k].From∧(lastOf k).To < p[k].To:=by
   rw [hlast]
   by_cases h0:k=0
   ·have:=g1 h0
    simp only [h0,if_true] at this ⊢
    omega
   ·have:=g2 (by omega)
    simp only [h0,if_false]
    have e:p.getD (k - 1) ⟨0,0⟩=p[k - 1]:=by simp [show k - 1 < p.length by omega]
    rw [e];exact this
  obtain ⟨c,hc⟩:∃c,c=p[k]:=⟨_,rfl⟩
  rw [←hc] at hv g3 g4 hnext hless
  obtain ⟨la,hla⟩:∃la,la=lastOf k:=⟨_,rfl⟩
  rw [←hla] at hless ⊢
  refine k5 (k1 (k2 (k3 (k2 (A3 (A6 (A9 Z (.pure _ _ _ _) Z (by omega) hv) Z (A6 (F5 Z Z) Z (C2 (H3 10 Z) Z (G1 (B7 TySz.out Z Z Z Z Z Z) (A5 ?_))))))))));refine k1 (k2 (k2 (A3 (A6 (A8 Z) Z (E9 Z Z Z Z (A6 (A8 Z) Z (E9 Z Z Z Z (A6 (A39 Z Z) Z (A4 Z Z (B2 Z Z Z Z (fun hg=>by rw [hg];exact A8 Z) ?_))))))))));refine B2 Z Z Z Z (fun hg=>by rw [hg];exact B4 Z Z Z) ?_;refine B2 Z Z Z Z (fun hg=>by rw [hg];exact C3 Z Z) ?_;refine B2 Z Z Z Z (fun hg=>by rw [hg];exact B61 Z Z) ?_;refine J5 Z Z ?_;refine A4 Z Z (B2 Z Z Z Z (fun hg=>by rw [hg];exact A8 Z) ?_);refine B2 Z Z Z Z (fun hg=>by rw [hg];exact B4 Z Z Z) ?_;refine B2 Z Z Z Z (fun hg=>by rw [hg];exact A8 Z) ?_;refine B2 Z Z Z Z (fun hg=>by rw [hg];exact B4 Z Z Z) ?_;refine B2 Z Z Z Z (fun hg=>by rw [hg];exact A39 Z Z) ?_;refine J5 Z Z ?_;refine A4 Z Z (B2 Z Z Z Z (fun hg=>by rw [hg];exact A8 Z) ?_);refine B2 Z Z Z Z (fun hg=>by rw [hg];exact B4 Z Z Z) ?_;refine B2 Z Z Z Z (fun hg=>by rw [hg];exact C3 Z Z) ?_;refine B2 Z Z Z Z (fun hg=>by rw [hg];exact B61 Z Z) ?_;refine J5 Z Z ?_;refine A5 ?_;refine k1 ?_;refine B5 rfl (fun ht=>?_) (fun ht=>?_)
  ·exfalso
   simp only [or_pick] at ht
   have:=A0 ht
   omega
  ·refine k5 (k1 (A3 (A6 (D6 Z Z Z) Z (G1 (B7 TySz.out Z Z Z Z Z Z) (A5 ?_)))));refine k4 (k1 (A3 (C5 Z Z Z (A4 Z Z (A5 ?_)))));refine k1 ?_;refine ⟨k+1,by omega,by omega,?_⟩
   rw [hnext]
   exact I81 ⟨le1 rfl,le1 rfl,le1 rfl,le1 rfl,le1 rfl,le1 rfl,le1 rfl,trivial⟩ ⟨rfl,trivial⟩
 ·refine k6 (k2 (A3 (A4 Z Z (A4 Z Z (A4 Z Z (C6 (E36 p m n hp (by omega) (by omega) (fun s hs=>by have:=hb s hs;omega)) Z Z Z ?_))))));rintro _ rfl;refine A7 Z Z (A7 Z Z (A5 ?_));refine k1 (k10 ?_)
  exact B9 (y7 rfl rfl rfl rfl rfl) rfl
theorem C23 {l:List Int} {i:Nat} (h:i < l.length):l[i]?=some (l.getD i 0):=by simp [h]
theorem F94 (a b:List Int):FnOk Tryz.prog 188 [M7 a,M7 b] (fun rs=>rs=[N1 (decide ((a.length:Int)≤4096∧(b.length:Int)≤4096))]):=by
 refine FnOk.intro Tryz.func188 (by decide) Z Z Z Z ?_
 refine k2 (A3 (A7 Z Z (A5 ?_)));refine k1 (k2 (A3 (A4 Z Z (E4 Z Z (A6 (A39 Z Z) Z (A4 Z Z (B2 Z Z Z Z (fun hg=>by rw [hg];exact C3 Z Z) ?_)))))));refine B2 Z Z Z Z (fun hg=>by rw [hg];exact V1 Z (.pure _ _ _ _)) ?_;refine B2 Z Z Z Z (fun hg=>by rw [hg];exact A39 Z Z) ?_;refine J5 Z Z ?_;refine A7 Z Z (A5 ?_);refine k1 (k10 ?_)
 exact B9 (I5 rfl rfl rfl) (by simp only [Q2])
theorem E38 (a b:List Int) (ha:a.length≤1073741824):FnOk Tryz.prog 234 [M7 a,M7 b] (fun rs=>rs=[J0 (U5 a b)]):=by
 refine FnOk.intro Tryz.func234 (by decide) Z Z Z Z ?_
 refine k2 (A3 (A7 Z Z (A5 ?_)));refine k1 (k2 (A3 (A7 Z Z (A5 ?_))));refine k1 (k2 (k3 (D2 (X:=Nat) (fun k=>([(0,C0 Int 1 G3 a),(1,C0 Int 1 G3 b),(5,B6 k)],[])) (fun k=>k≤a.length∧k≤b.length∧U5 a b=k+U5 (a.drop k) (b.drop k)) (fun k=>a.length - k) 0 ⟨Nat.zero_le _,Nat.zero_le _,by simp⟩ (I81 ⟨le1 rfl,le1 rfl,le1 rfl,trivial⟩ trivial) ?_)))
 rintro k ⟨hk,hk2,he⟩
 dsimp only at hk hk2 he ⊢
 refine k2 (k2 (D5 (by kernel_rfl) (by kernel_rfl) (D3 Z Z (D3 Z Z (B1 (V1 Z (.pure _ _ _ _)) Z Z (B1 (B02 Z Z) Z Z (D3 Z Z (D4 Z Z (fun hg=>by rw [hg];exact C3 Z Z) Z Z ?_))))))));refine D4 Z Z (fun hg=>by rw [hg];exact C3 Z Z) Z Z ?_;refine D4 Z Z (fun hg=>by rw [hg];exact V1 Z (.pure _ _ _ _)) Z Z ?_;refine D4 Z Z (fun hg=>by rw [hg];exact B02 Z Z) Z Z ?_;refine B1 (K6 Z (fun h=>by first | rfl | (rw [h];rfl)) (fun h=>by first | rfl | (rw [h];rfl))) Z Z ?_;refine D3 Z Z (D4 Z Z (fun hg=>by rw [hg];exact C3 Z Z) Z Z ?_);refine D4 Z Z (fun hg=>by rw [hg];exact C3 Z Z) Z Z ?_;refine D4 Z Z (fun hg=>by have hq:=hg;(try simp at hq);rw [hg];exact A9 Z (.pure _ _ _ _) Z (by omega) (C23 (by omega))) Z Z ?_;refine D4 Z Z (fun hg=>by rw [hg];exact B3 Z Z) Z Z ?_;refine D4 Z Z (fun hg=>by rw [hg];exact C3 Z Z) Z Z ?_;refine D4 Z Z (fun hg=>by rw [hg];exact C3 Z Z) Z Z ?_;refine D4 Z Z (fun hg=>by have hq:=hg;(try simp at hq);rw [hg];exact A9 Z (.pure _ _ _ _) Z (by omega) (C23 (by omega))) Z Z ?_;refine D4 Z Z (fun hg=>by rw [hg];exact B3 Z Z) Z Z ?_;refine D4 Z Z (fun hg=>by rw [hg];exact Q0 Z Z) Z Z ?_;refine B1 (K6 Z (fun h=>by first | rfl | (rw [h];rfl)) (fun h=>by first | rfl | (rw [h];rfl))) Z Z ?_;refine O2 ?_;refine k1 ?_;refine B5 rfl (fun ht=>?_) (fun ht=>?_)
 ·simp only [Q2] at ht
  obtain ⟨⟨h1,h2⟩,h3⟩:=A0 ht
  have h1:k < a.length:=by omega
  have h2:k < b.length:=by omega
  rw [D88 a b k h1 h2,if_pos (by simpa [h1,h2] using h3)] at he
  refine k5 (k1 (k3 (A3 (A4 Z Z (C5 Z Z Z (A7 Z Z (A5 ?_)))))));refine k4 (k1 ?_)
  exact ⟨k+1,⟨by omega,by omega,by omega⟩,by omega,I81 ⟨le1 rfl,le1 rfl,le1 rfl,trivial⟩ trivial⟩
 ·simp only [Q2] at ht
  have h:=A1 ht
  have h0:U5 (a.drop k) (b.drop k)=0:=by
   by_cases hc:k < a.length∧k < b.length
   ·obtain ⟨h1,h2⟩:=hc
    rw [D88 a b k h1 h2,if_neg]
    intro h3
    exact h ⟨⟨by omega,by omega⟩,by simpa [h1,h2] using h3⟩
   ·exact I11 a b k hc
  rw [h0] at he
  refine k6 (k2 (A3 (A4 Z Z (A7 Z Z (A5 ?_)))));refine k1 (k10 ?_)
  exact B9 (I5 rfl rfl rfl) (by rw [he];rfl)
theorem E39 (a b:List Int) (ha:a.length≤4096) (hb:b.length≤4096):FnOk Tryz.prog 235 [M7 a,M7 b] (fun rs=>rs=[pU16s (flat a b (fun _ _=>true))]):=by
 obtain ⟨W,hW⟩:∃W,W=b.length+1:=⟨_,rfl⟩
 have hmul:∀i:Nat,i≤a.length+1→0≤(i:Int)*(W:Int)∧(i:Int)*(W:Int)≤16789506:=by
  intro i hi
  have h1:i*W≤4098*4097:=Nat.mul_le_mul (by omega) (by omega)
  have h2:((i*W:Nat):Int)=(i:Int)*W:=by push_cast;rfl
  omega
 have hcast:∀i:Nat,(i:Int)*(W:Int)=((i*W:Nat):Int):=fun i=>by push_cast;rfl
 have hlen:∀done,(flat a b done).length=(a.length+1)*W:=fun done=>by rw [D02,hW]
 have hdl:∀i j,dist (a.drop i) (b.drop j)≤8192:=fun i j=>by
  have:=B48 (a.drop i) (b.drop j)
  simp only [J31] at this
  omega
 have hin:∀i j:Nat,i≤a.length→j≤b.length→i*W+j < (a.length+1)*W:=fun i j hi hj=>by rw [hW];exact (D31 hi hj).1
 refine FnOk.intro Tryz.func235 (by decide) Z Z Z Z ?_
 refine k2 (A3 (A7 Z Z (A5 ?_)));refine k1 (k2 (A3 (A4 Z Z (E4 Z Z (C5 Z Z Z (A7 Z Z (A5 ?_)))))));refine K4 ?_
 refine L6 [(0,C0 Int 1 G3 a),(1,C0 Int 1 G3 b),(5,B6 W)] [] (I81 ⟨⟨_,rfl,.same _⟩,⟨_,rfl,.same _⟩,⟨_,rfl,.eq (by rw [hW];simp)⟩,trivial⟩ trivial) ?_
 have hm1:=hmul (a.length+1) (Nat.le_refl _)
 have e1:((a.length:Int)+1)=((a.length+1:Nat):Int):=by omega
 refine k2 (A3 (A4 Z Z (E4 Z Z (C5 Z Z Z (A4 Z Z (A6 (C03 Z Z (by (rw [e1];omega))) Z ?_))))));refine C2 (W2 20 Int B95 0 Z Z (by (rw [e1];omega)) (by (rw [e1];omega)) (fun _=>by first | exact ⟨⟨rfl,rfl⟩,trivial⟩ | exact ⟨N3 _ _ _,trivial⟩) Z) Z ?_;refine A7 Z Z (A5 ?_);refine K4 ?_
 refine L6 [(0,C0 Int 1 G3 a),(1,C0 Int 1 G3 b),(5,B6 W),(6,.s (.one (.mut 20)))] [(20,.arr Int 1 B95 (flat a b (fun _ _=>false)))] ?_ ?_
 ·refine I81 ⟨⟨_,rfl,.same _⟩,⟨_,rfl,.same _⟩,⟨_,rfl,.same _⟩,⟨_,rfl,.same _⟩,trivial⟩ ⟨?_,trivial⟩
  rw [←I10,e1,hcast,J21,hW];rfl
 refine k2 (k2 (A3 (A4 Z Z (E4 Z Z (A4 Z Z (A5 ?_))))));refine k1 (k3 ?_);refine D2 (X:=Nat) (fun j=>([(0,C0 Int 1 G3 a),(1,C0 Int 1 G3 b),(5,B6 W),(6,.s (.one (.mut 20))),(22,B6 b.length),(23,B6 j)],[(20,.arr Int 1 B95 (flat a b (fun r q=>decide (r=a.length∧q < j))))])) (fun j=>j≤b.length) (fun j=>b.length - j) 0 (Nat.zero_le _) ?_ ?_
 ·rw [show flat a b (fun r q=>decide (r=a.length∧q < 0))=flat a b (fun _ _=>false) from A80 fun r q _ _=>.inl (by simp)]
  exact I81 ⟨le1 rfl,le1 rfl,le1 rfl,le1 rfl,le1 rfl,le1 rfl,trivial⟩ ⟨rfl,trivial⟩
 intro j hj
 dsimp only at hj ⊢
 refine k2 (A3 (F4 Z Z Z (A5 ?_)));refine k1 (k2 ?_);refine B5 rfl (fun ht=>?_) (fun ht=>?_)
 ·have hlt:j < b.length:=by have:=A0 ht;omega
  have hmm:=hmul a.length (by omega)
  have hix:=hin a.length j (Nat.le_refl _) (by omega)
  have hc1:=hcast a.length
  have hL:=hlen (fun r q=>decide (r=a.length∧q < j))
  have hst:(flat a b (fun r q=>decide (r=a.length∧q < j))).set (((a.length:Int)*(W:Int)+(j:Int)).toNat) (IntKind.u16.wrap ((b.length:Int) - j))=flat a b (fun r q=>decide (r=a.length∧q < j+1)):=by
   rw [show ((a.length:Int)*(W:Int)+(j:Int)).toNat=a.length*(b.length+1)+j by rw [hc1,hW];omega,H08 _ (by omega)]
   refine G32 (Nat.le_refl _) (by omega) ?_ (by simp) (fun r q hr hq hne=>?_)
   ·rw [J23 (Nat.le_refl a.length),dist,J31];omega
   ·rw [decide_eq_decide];omega
  refine k5 (k1 (k2 (k3 (k2 (A3 (A4 Z Z (A7 Z Z (A5 ?_))))))));refine k1 (A3 (A4 Z Z (A4 Z Z (E4 Z Z (A4 Z Z (A6 (C03 Z Z (by omega)) Z (A4 Z Z (C5 Z Z Z (A4 Z Z (E4 Z Z (A4 Z Z (A6 (U3 Z Z (by omega)) Z (A6 (R3 Z) Z (A6 (E2 Z Z Z (by omega) (by (rw [hL];omega))) Z ?_))))))))))))));refine G1 (H0 TySz.out Z Z (by (rw [hL];omega)) Z Z) ?_;refine A5 ?_;refine k4 (k1 (A3 (C5 Z Z Z (A4 Z Z (A5 ?_)))));refine k1 ?_;refine ⟨j+1,by omega,by omega,?_⟩
  rw [←hst]
  exact I81 ⟨le1 rfl,le1 rfl,le1 rfl,le1 rfl,le1 rfl,le1 rfl,trivial⟩ ⟨rfl,trivial⟩
 ·have hj':j=b.length:=by have:=A1 ht;omega
  subst hj'
  rw [show flat a b (fun r q=>decide (r=a.length∧q < b.length))=flat a b (fun r _=>decide (a.length≤r)) from A80 fun r q hr hq=>by
   by_cases h:r=a.length∧q=b.length
   ·right;rw [h.1,h.2,J23 (Nat.le_refl _),J23 (Nat.le_refl _)];exact A04 []
   ·left;rw [decide_eq_decide];omega]
  refine k6 (k2 (k2 (A3 (A4 Z Z (E4 Z Z (A6 (U3 Z Z (by omega)) Z (A7 Z Z (A5 ?_))))))));refine k1 (k3 (D2 (X:=Nat) (fun i=>([(0,C0 Int 1 G3 a),(1,C0 Int 1 G3 b),(5,B6 W),(6,.s (.one (.mut 20))),(8,B6 ((i:Int) - 1))],[(20,.arr Int 1 B95 (flat a b (fun r _=>decide (i≤r))))])) (fun i=>i≤a.length) (fun i=>i) a.length (Nat.le_refl _) (I81 ⟨le1 rfl,le1 rfl,le1 rfl,le1 rfl,le1 rfl,trivial⟩ ⟨rfl,trivial⟩) ?_))
  intro i hi
  dsimp only at hi ⊢
  refine k2 (k2 (A3 (A4 Z Z (A6 (B61 Z Z) Z (A5 ?_)))));refine k1 ?_;refine B5 rfl (fun ht=>?_) (fun ht=>?_)
  ·obtain ⟨i,rfl⟩:∃r,i=r+1:=⟨i - 1,by have:=A0 ht;omega⟩
   refine L6 [(0,C0 Int 1 G3 a),(1,C0 Int 1 G3 b),(5,B6 W),(6,.s (.one (.mut 20))),(8,B6 i)] [(20,.arr Int 1 B95 (flat a b (fun r _=>decide (i+1≤r))))] (I81 ⟨le1 rfl,le1 rfl,le1 rfl,le1 rfl,leE Z (by first | (simp;done) | (simp;omega)),trivial⟩ ⟨rfl,trivial⟩) ?_
   obtain ⟨P,hP⟩:∃P,P=i*W:=⟨_,rfl⟩
   obtain ⟨N,hN⟩:∃N,N=(a.length+1)*W:=⟨_,rfl⟩
   have c0:(i:Int)*(W:Int)=(P:Int):=by rw [hP];exact hcast i
   have c1:((i:Int)+1)*(W:Int)=(P:Int)+W:=by rw [Int.add_mul,Int.one_mul,c0]
   have c2:((i:Int)+2)*(W:Int)=(P:Int)+W+W:=by rw [Int.add_mul,c0];omega
   have hPN:P+W+W≤N:=by
    have h1:(i+2)*W≤(a.length+1)*W:=J27 _ (by omega)
    have h2:(i+2)*W=i*W+W+W:=by rw [J37];omega
    omega
   have hN2:N≤16789506:=by have:=hmul (a.length+1) (Nat.le_refl _);have:=hcast (a.length+1);omega
   have hL:∀done,(flat a b done).length=N:=fun done=>by rw [hlen,hN]
   refine k5 (k1 (k2 (k3 (k2 (D5 (by kernel_rfl) (by kernel_rfl) (D3 Z Z (D3 Z Z (D3 Z Z (B1 (C03 Z Z (by (rw [c0];omega))) Z Z ?_)))))))));refine D3 Z Z (B1 (U2 Z Z (by omega)) Z Z (D3 Z Z (B1 (C03 Z Z (by (rw [c1];omega))) Z Z ?_)));refine B1 (B11 Z Z Z Z (by (first | (rw [c0];omega) | (rw [c0,c1];omega) | (rw [c1,hL];omega))) (by (first | (rw [c0];omega) | (rw [c0,c1];omega) | (rw [c1,hL];omega))) (by (first | (rw [c0];omega) | (rw [c0,c1];omega) | (rw [c1,hL];omega)))) Z Z ?_;refine D3 Z Z (D3 Z Z (B1 (U2 Z Z (by omega)) Z Z (D3 Z Z (B1 (C03 Z Z (by (rw [c1];omega))) Z Z ?_))));refine D3 Z Z (B1 (U2 Z Z (by omega)) Z Z (D3 Z Z (B1 (C03 Z Z (by (rw [c2];omega))) Z Z ?_)));refine B1 (B11 Z Z Z Z (by (first | (rw [c1];omega) | (rw [c1,c2];omega) | (rw [c2,hL];omega))) (by (first | (rw [c1];omega) | (rw [c1,c2];omega) | (rw [c2,hL];omega))) (by (first | (rw [c1];omega) | (rw [c1,c2];omega) | (rw [c2,hL];omega)))) Z Z ?_;refine B1 (K8 Z Z) Z Z (B1 (K8 Z Z) Z Z (O2 ?_));refine K4 ?_
   have hdone:∀j,j≤b.length→(flat a b (fun r q=>decide (i+1≤r∨(r=i∧j≤q))))[P+j]?=some (dist (a.drop i) (b.drop j):Int):=fun j hj=>by
    rw [hP,hW,D87 (by omega) hj,if_pos (by simp)]
   have hbelow:∀j j',j≤b.length→(flat a b (fun r q=>decide (i+1≤r∨(r=i∧j'≤q))))[P+W+j]?=some (dist (a.drop (i+1)) (b.drop j):Int):=fun j j' hj=>by
    rw [show P+W+j=(i+1)*(b.length+1)+j by rw [hP,hW,J37];omega,D87 (by omega) hj,if_pos (by simp)]
   refine L6 [(0,C0 Int 1 G3 a),(1,C0 Int 1 G3 b),(5,B6 W),(6,.s (.one (.mut 20))),(8,B6 i),(9,.s (.one (.msl 20 1 P W))),(10,.s (.one (.msl 20 1 (P+W) W)))] [(20,.arr Int 1 B95 (flat a b (fun r _=>decide (i+1≤r))))] ?_ ?_
   ·refine I81 ⟨⟨_,rfl,.same _⟩,⟨_,rfl,.same _⟩,⟨_,rfl,.same _⟩,⟨_,rfl,.same _⟩,⟨_,rfl,.same _⟩,⟨_,rfl,.eq ?_⟩,⟨_,rfl,.eq ?_⟩,trivial⟩ ⟨rfl,trivial⟩
    ·rw [c0,c1];congr 3<;>omega
    ·rw [c1,c2];congr 3<;>omega
   have hset:∀(done done':Nat→Nat→Bool) (j:Nat) (v:Int),j≤b.length→v=(dist (a.drop i) (b.drop j):Int)→done' i j=true→(∀r q,r≤a.length→q≤b.length→¬(r=i∧q=j)→done' r q=done r q)→(flat a b done).set (P+j) v=flat a b done':=by
    intro done done' j v hj hv h1 h2
    rw [hP,hW];exact G32 (by omega) hj hv h1 h2
   have hs0:(flat a b (fun r _=>decide (i+1≤r))).set (P+((b.length:Nat):Int).toNat) (IntKind.u16.wrap ((a.length:Int) - i))=flat a b (fun r q=>decide (i+1≤r∨(r=i∧b.length≤q))):=by
    rw [J21,H08 _ (by omega)]
    refine hset _ _ _ _ (Nat.le_refl _) ?_ (by simp) (fun r q hr hq hne=>?_)
    ·rw [J23 (Nat.le_refl b.length),A04,J31];omega
    ·rw [decide_eq_decide];omega
   refine k2 (A3 (A4 Z Z (A4 Z Z (E4 Z Z (A4 Z Z (E4 Z Z (A4 Z Z (A6 (U3 Z Z (by omega)) Z (A6 (R3 Z) Z (A6 (S6 Z Z (by omega) (by omega)) Z (G1 (H0 TySz.out Z Z (by (rw [hL];omega)) Z Z) ?_)))))))))));refine A5 ?_
   rw [hs0]
   refine k1 (k2 (A3 (A4 Z Z (E4 Z Z (A6 (U3 Z Z (by omega)) Z (A7 Z Z (A5 ?_)))))));refine k1 (k3 (D2 (X:=Nat) (fun j=>([(0,C0 Int 1 G3 a),(1,C0 Int 1 G3 b),(5,B6 W),(6,.s (.one (.mut 20))),(8,B6 i),(9,.s (.one (.msl 20 1 P W))),(10,.s (.one (.msl 20 1 (P+W) W))),(11,B6 ((j:Int) - 1))],[(20,.arr Int 1 B95 (flat a b (fun r q=>decide (i+1≤r∨(r=i∧j≤q)))))])) (fun j=>j≤b.length) (fun j=>j) b.length (Nat.le_refl _) (I81 ⟨le1 rfl,le1 rfl,le1 rfl,le1 rfl,le1 rfl,le1 rfl,le1 rfl,le1 rfl,trivial⟩ ⟨rfl,trivial⟩) ?_))
   intro j hj
   dsimp only at hj ⊢
   refine k2 (k2 (A3 (A4 Z Z (A6 (B61 Z Z) Z (A5 ?_)))));refine k1 ?_;refine B5 rfl (fun ht=>?_) (fun ht=>?_)
   ·obtain ⟨j,rfl⟩:∃r,j=r+1:=⟨j - 1,by have:=A0 ht;omega⟩
    have hva:a[i]?=some a[i]:=by simp [show i < a.length by omega]
    have hvb:b[j]?=some b[j]:=by simp [show j < b.length by omega]
    have hdd:=E80 a b i j (by omega) (by omega)
    have hd1:=hdl i j
    have hd2:=hdl (i+1) j
    have hd3:=hdl i (j+1)
    have hd4:=hdl (i+1) (j+1)
    obtain ⟨u,hu⟩:∃u,u=a[i]:=⟨_,rfl⟩
    obtain ⟨v,hv⟩:∃v,v=b[j]:=⟨_,rfl⟩
    rw [←hu] at hva hdd
    rw [←hv] at hvb hdd
    have hst:(flat a b (fun r q=>decide (i+1≤r∨(r=i∧j+1≤q)))).set (P+j) (dist (a.drop i) (b.drop j):Int)=flat a b (fun r q=>decide (i+1≤r∨(r=i∧j≤q))):=hset _ _ _ _ (by omega) rfl (by simp) (fun r q hr hq hne=>by rw [decide_eq_decide];omega)
    refine L6 [(0,C0 Int 1 G3 a),(1,C0 Int 1 G3 b),(5,B6 W),(6,.s (.one (.mut 20))),(8,B6 i),(9,.s (.one (.msl 20 1 P W))),(10,.s (.one (.msl 20 1 (P+W) W))),(11,B6 j)] [(20,.arr Int 1 B95 (flat a b (fun r q=>decide (i+1≤r∨(r=i∧j+1≤q)))))] (I81 ⟨le1 rfl,le1 rfl,le1 rfl,le1 rfl,le1 rfl,le1 rfl,le1 rfl,leE Z (by first | (simp;done) | (simp;omega)),trivial⟩ ⟨rfl,trivial⟩) ?_
    refine F08 ?_
    refine K4 ?_
    refine z6 [(0,C0 Int 1 G3 a),(1,C0 Int 1 G3 b),(5,B6 W),(6,.s (.one (.mut 20))),(8,B6 i),(9,.s (.one (.msl 20 1 P W))),(10,.s (.one (.msl 20 1 (P+W) W))),(11,B6 j)] [(20,.arr Int 1 B95 (flat a b (fun r q=>decide (i+1≤r∨(r=i∧j≤q)))))] ?_ ?_
    ·refine k3 (k2 (D5 (by kernel_rfl) (by kernel_rfl) (D3 Z Z (D3 Z Z (B1 (A9 Z (.pure _ _ _ _) Z (by omega) hva) Z Z (B1 (B3 Z Z) Z Z (D3 Z Z (D3 Z Z (B1 (A9 Z (.pure _ _ _ _) Z (by omega) hvb) Z Z (B1 (B3 Z Z) Z Z (B1 (Q0 Z Z) Z Z (O2 ?_))))))))))));refine k1 ?_;refine B5 rfl (fun ht=>?_) (fun ht=>?_)
     ·rw [if_pos (A0 ht)] at hdd
      rw [hdd] at hst
      have hg:=hbelow (j+1) (j+1) (by omega)
      have hgi:(flat a b (fun r q=>decide (i+1≤r∨(r=i∧j+1≤q))))[P+W+((j:Int)+1).toNat]?=some (dist (a.drop (i+1)) (b.drop (j+1)):Int):=by rw [show ((j:Int)+1).toNat=j+1 by omega];exact hg
      skip
      refine A3 (A4 Z Z (A4 Z Z (A4 Z Z (A4 Z Z (C5 Z Z Z (A6 (S6 Z Z (by omega) (by omega)) Z (A6 (P4 Z Z hgi Z) Z (A6 (S6 Z Z (by omega) (by omega)) Z (G1 (H0 TySz.out Z Z (by (rw [hL];omega)) Z Z) ?_)))))))));refine A5 ?_;refine k4 (k1 ?_)
      rw [show P+((j:Nat):Int).toNat=P+j by omega,hst]
      exact I81 ⟨le1 rfl,le1 rfl,le1 rfl,le1 rfl,le1 rfl,le1 rfl,le1 rfl,le1 rfl,trivial⟩ ⟨rfl,trivial⟩
     ·rw [if_neg (A1 ht)] at hdd
      have hg1:=hbelow j (j+1) (by omega)
      have hg2:=hdone (j+1) (by omega)
      have hgi1:(flat a b (fun r q=>decide (i+1≤r∨(r=i∧j+1≤q))))[P+W+((j:Nat):Int).toNat]?=some (dist (a.drop (i+1)) (b.drop j):Int):=by rw [J21];exact hg1
      have hgi2:(flat a b (fun r q=>decide (i+1≤r∨(r=i∧j+1≤q))))[P+((j:Int)+1).toNat]?=some (dist (a.drop i) (b.drop (j+1)):Int):=by rw [show ((j:Int)+1).toNat=j+1 by omega];exact hg2
      have hval:IntKind.u16.wrap ((if (dist (a.drop i) (b.drop (j+1)):Int) < (dist (a.drop (i+1)) (b.drop j):Int) then (dist (a.drop i) (b.drop (j+1)):Int) else (dist (a.drop (i+1)) (b.drop j):Int))+1)=(dist (a.drop i) (b.drop j):Int):=by
       rw [H08 _ (by split<;>omega),hdd];split<;>omega
      skip
      refine D5 (by kernel_rfl) (by kernel_rfl) (D3 Z Z (D3 Z Z (D3 Z Z (D3 Z Z (B1 (S6 Z Z (by omega) (by omega)) Z Z (B1 (P4 Z Z hgi1 Z) Z Z (D3 Z Z (D3 Z Z (B1 (U2 Z Z (by omega)) Z Z (B1 (S6 Z Z (by omega) (by omega)) Z Z (B1 (P4 Z Z hgi2 Z) Z Z (B1 (F69 Z Z) Z Z (B1 (C02 Z Z) Z Z (B1 (S6 Z Z (by omega) (by omega)) Z Z (A89 (H0 TySz.out Z Z (by (rw [hL];omega)) Z Z) Z ?_)))))))))))))));refine O2 ?_;refine k4 (k1 ?_)
      rw [hval,show P+((j:Nat):Int).toNat=P+j by omega,hst]
      exact I81 ⟨le1 rfl,le1 rfl,le1 rfl,le1 rfl,le1 rfl,le1 rfl,le1 rfl,le1 rfl,trivial⟩ ⟨rfl,trivial⟩
    ·skip
     refine A3 (A4 Z Z (A6 (U3 Z Z (by omega)) Z (A7 Z Z (A5 ?_))));refine k1 ?_
     exact ⟨j,by omega,by omega,I81 ⟨le1 rfl,le1 rfl,le1 rfl,le1 rfl,le1 rfl,le1 rfl,le1 rfl,le1 rfl,trivial⟩ ⟨rfl,trivial⟩⟩
   ·obtain rfl:j=0:=by have:=A1 ht;omega
    rw [show flat a b (fun r q=>decide (i+1≤r∨(r=i∧0≤q)))=flat a b (fun r _=>decide (i≤r)) from A80 fun r q _ _=>.inl (by rw [decide_eq_decide];omega)]
    refine k6 (k7 (k7 (k8 Z (k4 (k1 (A3 (A4 Z Z (A6 (U3 Z Z (by omega)) Z (A7 Z Z (A5 ?_))))))))));refine k1 ?_
    exact ⟨i,by omega,by omega,I81 ⟨le1 rfl,le1 rfl,le1 rfl,le1 rfl,le1 rfl,trivial⟩ ⟨rfl,trivial⟩⟩
  ·obtain rfl:i=0:=by have:=A1 ht;omega
   rw [show flat a b (fun r _=>decide (0≤r))=flat a b (fun _ _=>true) from A80 fun r q _ _=>.inl (by simp)]
   refine H5 (Sees.freeze (k:=20) Z) ?_
   refine k6 (k2 (A3 (A4 Z Z (A7 Z Z (A5 ?_)))));refine k1 (k10 ?_)
   exact B9 (I5 rfl rfl rfl) rfl
theorem i64_id {n:Int} (h:-9223372036854775808≤n∧n≤9223372036854775807):IntKind.i64.wrap n=n:=IntWalk.i64_in _ h
theorem H40 {gf:Fr} {ob:Obs} (a b:List Int) (i j:Nat) (ha:a.length≤4096) (hb:b.length≤4096) (hi:i≤a.length) (hj:j≤b.length) (h8:C1 ob 8=some (.box [.p (.list Int 1 B95 (flat a b (fun _ _=>true)))])) (h3:C1 ob 3=some (.box [.p (.list Int 1 G3 b)])) :
  AL.Met Tryz.prog 236 [.one (.p (.v (.int .i64 i))),.one (.p (.v (.int .i64 j))),.one (.ref 8 0),.one (.ref 3 0)] gf ob [] (fun rs ob'=>rs=[.one (.p (.v (.int .i64 (dist (a.drop i) (b.drop j):Int))))]∧ob'=ob):=by
 have hg:=D87 (a:=a) (b:=b) (done:=fun _ _=>true) hi hj
 rw [if_pos rfl] at hg
 have hin:=(D31 (a:=a) (b:=b) hi hj).1
 have hL:=D02 a b (fun _ _=>true)
 have e1:(i:Int)*((b.length:Int)+1)=((i*(b.length+1):Nat):Int):=by push_cast;rfl
 have hbd:i*(b.length+1)≤4096*4097:=Nat.mul_le_mul (by omega) (by omega)
 have hbd2:(a.length+1)*(b.length+1)≤4097*4097:=Nat.mul_le_mul (by omega) (by omega)
 have hgi:(flat a b (fun _ _=>true))[((i:Int)*((b.length:Int)+1)+j).toNat]?=some (dist (a.drop i) (b.drop j):Int):=by
  rw [e1,show (((i*(b.length+1):Nat):Int)+j).toNat=i*(b.length+1)+j by omega];exact hg
 have hd:=B48 (a.drop i) (b.drop j)
 simp only [J31] at hd
 refine AL.Met.intro Tryz.func236 (by decide) Z Z Z ?_
 refine k2 (A3 (A7 Z Z (A5 ?_)));refine k1 (k2 (A3 (A6 (B4 Z h8 Z) Z (A4 Z Z (A6 (B4 Z h3 Z) Z (E4 Z Z (C5 Z Z Z (A6 (C03 Z Z (by (rw [e1];omega))) Z ?_))))))));refine A4 Z Z (A6 (U2 Z Z (by (rw [e1];omega))) Z ?_);refine A6 (A9 Z (.pure _ _ _ _) Z (by omega) hgi) Z (A6 (B3 Z Z) Z (A6 (R3 Z) Z (A7 Z Z (A5 ?_))))
 rw [i64_id (by omega)]
 refine k1 (k10 ?_)
 exact X6 (A90 rfl rfl) (by repeat (first | exact F8 | refine F9 rfl ?_ | refine M1 _ ?_)) (fun _ _ h=>h) ⟨rfl,rfl⟩
theorem I42 (a b:List Int) (ha:a.length≤4096) (hb:b.length≤4096):FnOk Tryz.prog 190 [M7 a,M7 b] (fun rs=>rs=[pSpans (F0 0 0 a b)]):=by
 obtain ⟨n,hn⟩:∃n,n=U5 a b:=⟨_,rfl⟩
 have hnl:=G33 a b
 rw [←hn] at hnl
 have hbeg:=D89 a b 0 0
 rw [←hn] at hbeg
 refine FnOk.intro Tryz.func190 (by decide) Z Z Z Z ?_
 refine k2 (A3 (C2 (T8 3 Z Z Z) Z (A7 Z Z (A5 ?_))));refine k1 (k2 (A3 (C2 (X5 5 _ spanC Z) Z (A5 ?_))));refine k1 (k2 (A3 (A4 Z Z (E9 Z Z Z Z (C6 (E38 a b (by omega)) Z Z Z ?_)))));rintro _ rfl;refine A7 Z Z (A5 ?_)
 rw [←hn]
 refine k1 (k2 (k2 (A3 (A4 Z Z (A4 Z Z (A5 ?_))))));refine k1 (k3 (D2 (X:=Nat) (fun k=>([(0,C0 Int 1 G3 a),(3,.s (.one (.ref 3 0))),(5,.s (.one (.buf 5 Span 2 spanC (N4 0 0 k)))),(6,B6 n),(15,B6 n),(16,B6 k)],[(3,.box [.p (.list Int 1 G3 b)]),(5,.spare (N4 0 0 k).length 2 88)])) (fun k=>k≤n) (fun k=>n - k) 0 (Nat.zero_le _) (I81 ⟨le1 rfl,le1 rfl,le1 rfl,le1 rfl,le1 rfl,le1 rfl,trivial⟩ ⟨rfl,rfl,trivial⟩) ?_))
 intro k hk
 dsimp only at hk ⊢
 have hrl:=A03 0 0 k
 refine k2 (A3 (F4 Z Z Z (A5 ?_)));refine k1 (k2 ?_);refine B5 rfl (fun ht=>?_) (fun ht=>?_)
 ·have hlt:k < n:=by have:=A0 ht;omega
  have hsn:=A66 0 0 k
  refine k5 (k1 (k2 (k3 (k2 (A3 (A4 Z Z (A7 Z Z (A5 ?_))))))));refine k1 (A3 (A4 Z Z (A4 Z Z (A4 Z Z (A6 (I1 Z) Z (A6 (C9 (c:=spanC) (ys:=[⟨(k:Int),(k:Int)⟩]) (E0 Z Z Z Z G6) Z Z Z) Z (C2 (H4 Z Z Z (.pure _ _ _ _) (by (simp only [J16,J19];omega)) Z) Z (A7 Z Z (A5 ?_)))))))));refine k4 (k1 (A3 (C5 Z Z Z (A4 Z Z (A5 ?_)))));refine k1 ?_;refine ⟨k+1,by omega,by omega,?_⟩
  rw [hsn,show (0:Int)+(k:Int)=k by omega]
  exact I81 ⟨le1 rfl,le1 rfl,le1 rfl,le1 rfl,le1 rfl,le1 rfl,trivial⟩ ⟨rfl,rfl,trivial⟩
 have hk':k=n:=by have:=A1 ht;omega
 subst hk'
 obtain ⟨a',ha'⟩:∃a',a'=a.drop k:=⟨_,rfl⟩
 obtain ⟨b',hb'⟩:∃b',b'=b.drop k:=⟨_,rfl⟩
 have hal:a'.length≤4096:=by rw [ha',J31];omega
 have hbl:b'.length≤4096:=by rw [hb',J31];omega
 rw [Int.zero_add,←ha',←hb'] at hbeg
 refine k6 (k2 (D5 (by kernel_rfl) (by kernel_rfl) (D3 Z Z (D3 Z Z (B1 (C53 Z (.pure _ _ _ _) Z (by omega) (by omega)) Z Z (B1 (B4 Z Z Z) Z Z (D3 Z Z (B1 (C53 Z (.pure _ _ _ _) Z (by omega) (by omega)) Z Z (B1 (K8 Z Z) Z Z (A89 (B7 TySz.out Z Z Z Z Z Z) Z (O2 ?_)))))))))))
 rw [J21,←ha',←hb']
 refine k1 (k2 (A3 (A4 Z Z (E9 Z Z Z Z (C6 (E39 a' b' hal hbl) Z Z Z ?_)))));rintro _ rfl;refine C2 (H3 8 Z) Z (G1 (B7 TySz.out Z Z Z Z Z Z) (A5 ?_));refine k1 (k2 (A3 (A6 (z7 Z Z) Z (A7 Z Z (A5 ?_)))));refine k1 (k2 (k2 (A3 (A7 Z Z (A7 Z Z (A5 ?_))))));refine k1 (k3 (D2 (X:=Nat × Nat × List Span) (fun x=>([(0,C0 Int 1 G3 a'),(3,.s (.one (.ref 3 0))),(5,.s (.one (.buf 5 Span 2 spanC x.2.2))),(6,B6 k),(8,.s (.one (.ref 8 0))),(9,.s (.one (.clo 236 [] [(8,0),(3,0)]))),(10,B6 x.1),(11,B6 x.2.1)],[(3,.box [.p (.list Int 1 G3 b')]),(5,.spare x.2.2.length 2 88),(8,.box [.p (.list Int 1 B95 (flat a' b' (fun _ _=>true)))])])) (fun x=>x.1≤a'.length∧x.2.1≤b'.length∧x.2.2.length≤k+x.1∧F0 0 0 a b=x.2.2++F0 (k+x.1) (k+x.2.1) (a'.drop x.1) (b'.drop x.2.1)) (fun x=>(a'.length - x.1)+(b'.length - x.2.1)) (0,0,N4 0 0 k) ⟨Nat.zero_le _,Nat.zero_le _,by rw [hrl];exact Nat.le_refl _,by simpa using hbeg⟩ (I81 ⟨le1 rfl,le1 rfl,le1 rfl,le1 rfl,le1 rfl,le1 rfl,le1 rfl,le1 rfl,trivial⟩ ⟨rfl,rfl,rfl,trivial⟩) ?_))
 rintro ⟨i,j,out⟩ ⟨hi,hj,hol,he⟩
 dsimp only at hi hj hol he ⊢
 refine k2 (k2 (A3 (A4 Z Z (A4 Z Z (E4 Z Z (F4 Z Z Z (A4 Z Z (B2 Z Z Z Z (fun hg=>by rw [hg];exact C3 Z Z) ?_))))))));refine B2 Z Z Z Z (fun hg=>by rw [hg];exact B4 Z Z Z) ?_;refine B2 Z Z Z Z (fun hg=>by rw [hg];exact V1 Z (.pure _ _ _ _)) ?_;refine B2 Z Z Z Z (fun hg=>by rw [hg];exact B02 Z Z) ?_;refine J5 Z Z ?_;refine A5 ?_;refine k1 ?_;refine B5 rfl (fun ht=>?_) (fun ht=>?_)
 ·simp only [or_pick] at ht
  have hcond:=A0 ht
  refine L6 [(0,C0 Int 1 G3 a'),(3,.s (.one (.ref 3 0))),(5,.s (.one (.buf 5 Span 2 spanC out))),(6,B6 k),(8,.s (.one (.ref 8 0))),(9,.s (.one (.clo 236 [] [(8,0),(3,0)]))),(10,B6 i),(11,B6 j)] [(3,.box [.p (.list Int 1 G3 b')]),(5,.spare out.length 2 88),(8,.box [.p (.list Int 1 B95 (flat a' b' (fun _ _=>true)))])] (I81 ⟨le1 rfl,le1 rfl,le1 rfl,le1 rfl,le1 rfl,le1 rfl,le1 rfl,le1 rfl,trivial⟩ ⟨rfl,rfl,rfl,trivial⟩) ?_
  refine k5 (k1 (k3 (k3 (k2 (D5 (by kernel_rfl) (by kernel_rfl) (D3 Z Z (D3 Z Z (B1 (V1 Z (.pure _ _ _ _)) Z Z (B1 (B02 Z Z) Z Z (D3 Z Z (D4 Z Z (fun hg=>by rw [hg];exact C3 Z Z) Z Z ?_)))))))))));refine D4 Z Z (fun hg=>by rw [hg];exact B4 Z Z Z) Z Z ?_;refine D4 Z Z (fun hg=>by rw [hg];exact V1 Z (.pure _ _ _ _)) Z Z ?_;refine D4 Z Z (fun hg=>by rw [hg];exact B02 Z Z) Z Z ?_;refine B1 (K6 Z (fun h=>by first | rfl | (rw [h];rfl)) (fun h=>by first | rfl | (rw [h];rfl))) Z Z ?_;refine D3 Z Z (D4 Z Z (fun hg=>by rw [hg];exact C3 Z Z) Z Z ?_);refine D4 Z Z (fun hg=>by rw [hg];exact C3 Z Z) Z Z ?_;refine D4 Z Z (fun hg=>by have hq:=hg;(try simp at hq);rw [hg];exact A9 Z (.pure _ _ _ _) Z (by omega) (C23 (by omega))) Z Z ?_;refine D4 Z Z (fun hg=>by rw [hg];exact B3 Z Z) Z Z ?_;refine D4 Z Z (fun hg=>by rw [hg];exact B4 Z Z Z) Z Z ?_;refine D4 Z Z (fun hg=>by rw [hg];exact C3 Z Z) Z Z ?_;refine D4 Z Z (fun hg=>by have hq:=hg;(try simp at hq);rw [hg];exact A9 Z (.pure _ _ _ _) Z (by omega) (C23 (by omega))) Z Z ?_;refine D4 Z Z (fun hg=>by rw [hg];exact B3 Z Z) Z Z ?_;refine D4 Z Z (fun hg=>by rw [hg];exact Q0 Z Z) Z Z ?_;refine B1 (K6 Z (fun h=>by first | rfl | (rw [h];rfl)) (fun h=>by first | rfl | (rw [h];rfl))) Z Z ?_;refine B1 (K8 Z Z) Z Z (O2 ?_);refine k1 ?_;refine B5 rfl (fun ht=>?_) (fun ht=>?_)
  ·simp only [Q2] at ht
   obtain ⟨⟨h1,h2⟩,h3⟩:=A0 ht
   have h1:i < a'.length:=by omega
   have h2:j < b'.length:=by omega
   rw [u0 a' b' i j h1 h2,if_pos (by simpa [h1,h2] using h3)] at he
   refine L6 [(0,C0 Int 1 G3 a'),(3,.s (.one (.ref 3 0))),(5,.s (.one (.buf 5 Span 2 spanC out))),(6,B6 k),(8,.s (.one (.ref 8 0))),(9,.s (.one (.clo 236 [] [(8,0),(3,0)]))),(10,B6 i),(11,B6 j)] [(3,.box [.p (.list Int 1 G3 b')]),(5,.spare out.length 2 88),(8,.box [.p (.list Int 1 B95 (flat a' b' (fun _ _=>true)))])] (I81 ⟨le1 rfl,le1 rfl,le1 rfl,le1 rfl,le1 rfl,le1 rfl,le1 rfl,le1 rfl,trivial⟩ ⟨rfl,rfl,rfl,trivial⟩) ?_
   refine k2 (A3 (A4 Z Z (A4 Z Z (A4 Z Z (C5 Z Z Z (A4 Z Z (A4 Z Z (C5 Z Z Z (A6 (I1 Z) Z (A6 (C9 (c:=spanC) (ys:=[⟨(k:Int)+i,(k:Int)+j⟩]) (E0 Z Z Z Z G6) Z Z Z) Z (C2 (H4 Z Z Z (.pure _ _ _ _) (by (simp only [J16,J19];omega)) Z) Z (A7 Z Z (A5 ?_)))))))))))));refine k1 (A3 (A4 Z Z (C5 Z Z Z (A4 Z Z (C5 Z Z Z (A7 Z Z (A7 Z Z (A5 ?_))))))));refine k4 (k4 (k1 ?_));refine ⟨(i+1,j+1,out++[⟨(k:Int)+i,(k:Int)+j⟩]),⟨by dsimp only;omega,by dsimp only;omega,by simp;omega,?_⟩,by dsimp only;omega,I81 ⟨le1 rfl,le1 rfl,le1 rfl,le1 rfl,le1 rfl,le1 rfl,le1 rfl,le1 rfl,trivial⟩ ⟨rfl,rfl,rfl,trivial⟩⟩
   dsimp only
   rw [he,J25]
   congr 2
  ·simp only [Q2] at ht
   have hno:=A1 ht
   refine L6 [(0,C0 Int 1 G3 a'),(3,.s (.one (.ref 3 0))),(5,.s (.one (.buf 5 Span 2 spanC out))),(6,B6 k),(8,.s (.one (.ref 8 0))),(9,.s (.one (.clo 236 [] [(8,0),(3,0)]))),(10,B6 i),(11,B6 j)] [(3,.box [.p (.list Int 1 G3 b')]),(5,.spare out.length 2 88),(8,.box [.p (.list Int 1 B95 (flat a' b' (fun _ _=>true)))])] (I81 ⟨le1 rfl,le1 rfl,le1 rfl,le1 rfl,le1 rfl,le1 rfl,le1 rfl,le1 rfl,trivial⟩ ⟨rfl,rfl,rfl,trivial⟩) ?_
   by_cases h1:i < a'.length
   ·have hr:decide ((i:Int) < (a'.length:Int))=true:=decide_eq_true (by omega)
    have hd1:=B48 (a'.drop (i+1)) (b'.drop j)
    simp only [J31] at hd1
    have hstep:¬j < b'.length→dist (a'.drop (i+1)) (b'.drop j)+1=dist (a'.drop i) (b'.drop j)∧F0 (k+i) (k+j) (a'.drop i) (b'.drop j)=F0 (k+i+1) (k+j) (a'.drop (i+1)) (b'.drop j):=by
     intro hj2
     rw [show b'.drop j=[] from J23 (by omega),A04,A04,J31,J31,X9,X9]
     exact ⟨by omega,rfl⟩
    have hgo:j < b'.length→F0 (k+i) (k+j) (a'.drop i) (b'.drop j)=if dist (a'.drop (i+1)) (b'.drop j)+1=dist (a'.drop i) (b'.drop j) then F0 (k+i+1) (k+j) (a'.drop (i+1)) (b'.drop j) else F0 (k+i) (k+j+1) (a'.drop i) (b'.drop (j+1)):=by
     intro h2
     rw [u0 a' b' i j h1 h2,if_neg]
     intro h3
     exact hno ⟨⟨by omega,by omega⟩,by simpa [h1,h2] using h3⟩
    refine k2 (A3 (A4 Z Z (A4 Z Z (E4 Z Z (F4 Z Z Z (A4 Z Z (O5 Z Z Z hr (A4 Z Z (O5 Z Z Z hr (A4 Z Z (O5 Z Z Z hr (C5 Z Z Z (O5 Z Z Z hr (A4 Z Z (O5 Z Z Z hr (A32 (H40 a' b' (i+1) j hal hbl (by omega) hj Z Z) Z Z Z Z ?_))))))))))))))));rintro _ _ ⟨rfl,rfl⟩;refine O5 Z Z Z hr (C5 Z Z Z (O5 Z Z Z hr (A4 Z Z (O5 Z Z Z hr (A4 Z Z (O5 Z Z Z hr (A4 Z Z (O5 Z Z Z hr (A32 (H40 a' b' i j hal hbl hi hj Z Z) Z Z Z Z ?_)))))))));rintro _ _ ⟨rfl,rfl⟩;refine O5 Z Z Z hr (A6 (Q0 Z Z) Z (J5 Z Z ?_));refine A7 Z Z (A5 ?_);refine k1 ?_;refine B5 rfl (fun ht=>?_) (fun ht=>?_)
    ·simp only [Q2] at ht
     obtain ⟨_,h3⟩:=A0 ht
     have h3:dist (a'.drop (i+1)) (b'.drop j)+1=dist (a'.drop i) (b'.drop j):=by omega
     have hnext:F0 (k+i) (k+j) (a'.drop i) (b'.drop j)=F0 (k+i+1) (k+j) (a'.drop (i+1)) (b'.drop j):=by
      by_cases h2:j < b'.length
      ·rw [hgo h2,if_pos h3]
      ·exact (hstep h2).2
     rw [hnext] at he
     skip
     refine A3 (A4 Z Z (C5 Z Z Z (A7 Z Z (A5 ?_))));refine k4 (k4 (k1 ?_));refine ⟨(i+1,j,out),⟨by dsimp only;omega,by dsimp only;omega,by dsimp only;omega,?_⟩,by dsimp only;omega,I81 ⟨le1 rfl,le1 rfl,le1 rfl,le1 rfl,le1 rfl,le1 rfl,le1 rfl,le1 rfl,trivial⟩ ⟨rfl,rfl,rfl,trivial⟩⟩
     dsimp only
     rw [he,show (k:Int)+(i:Int)+1=(k:Int)+((i+1:Nat):Int) by omega]
    ·simp only [Q2] at ht
     have h3:=A1 ht
     have h3:¬dist (a'.drop (i+1)) (b'.drop j)+1=dist (a'.drop i) (b'.drop j):=fun q=>h3 ⟨by omega,by omega⟩
     have h2:j < b'.length:=by
      by_cases h2:j < b'.length
      ·exact h2
      ·exact absurd (hstep h2).1 h3
     rw [hgo h2,if_neg h3] at he
     skip
     refine A3 (A4 Z Z (C5 Z Z Z (A7 Z Z (A5 ?_))));refine k4 (k4 (k1 ?_));refine ⟨(i,j+1,out),⟨by dsimp only;omega,by dsimp only;omega,by dsimp only;omega,?_⟩,by dsimp only;omega,I81 ⟨le1 rfl,le1 rfl,le1 rfl,le1 rfl,le1 rfl,le1 rfl,le1 rfl,le1 rfl,trivial⟩ ⟨rfl,rfl,rfl,trivial⟩⟩
     dsimp only
     rw [he,show (k:Int)+(j:Int)+1=(k:Int)+((j+1:Nat):Int) by omega]
   ·have hrf:decide ((i:Int) < (a'.length:Int))=false:=decide_eq_false (by omega)
    have h2:j < b'.length:=by omega
    refine k2 (A3 (A4 Z Z (A4 Z Z (E4 Z Z (F4 Z Z Z (A4 Z Z (O8 Z Z Z (by rw [hrf];decide) Z ?_)))))));refine O8 Z Z Z (by rw [hrf];decide) Z ?_;refine O8 Z Z Z (by rw [hrf];decide) Z ?_;refine O8 Z Z Z (by rw [hrf];decide) Z ?_;refine O8 Z Z Z (by rw [hrf];decide) Z ?_;refine O8 Z Z Z (by rw [hrf];decide) Z ?_;refine O8 Z Z Z (by rw [hrf];decide) Z ?_;refine O8 Z Z Z (by rw [hrf];decide) Z ?_;refine O8 Z Z Z (by rw [hrf];decide) Z ?_;refine O8 Z Z Z (by rw [hrf];decide) Z ?_;refine O8 Z Z Z (by rw [hrf];decide) Z ?_;refine A6 (C13 Z (hrf) Z) Z (A7 Z Z (A5 ?_));refine k1 ?_;refine B5 rfl (fun ht=>?_) (fun ht=>?_)
    ·cases ht
    ·skip
     refine A3 (A4 Z Z (C5 Z Z Z (A7 Z Z (A5 ?_))));refine k4 (k4 (k1 ?_));refine ⟨(i,j+1,out),⟨by dsimp only;omega,by dsimp only;omega,by dsimp only;omega,?_⟩,by dsimp only;omega,I81 ⟨le1 rfl,le1 rfl,le1 rfl,le1 rfl,le1 rfl,le1 rfl,le1 rfl,le1 rfl,trivial⟩ ⟨rfl,rfl,rfl,trivial⟩⟩
     dsimp only
     rw [he,show a'.drop i=[] from J23 (by omega),V4,V4]
 ·simp only [or_pick] at ht
  have hcond:=A1 ht
  rw [show a'.drop i=[] from J23 (by omega),V4,J35] at he
  refine k6 (k2 (A3 (A4 Z Z (A7 Z Z (A5 ?_)))));refine k1 (k10 ?_)
  exact B9 (I5 rfl rfl rfl) (by rw [he])
theorem D62 (a b:List Int) (ha:a.length≤4096) (hb:b.length≤4096):FnOk Tryz.prog 130 [M7 a,M7 b] (fun rs=>rs=[pChanges (J7 a b),J0 0]):=by
 have hA:=T5 a b 0 0
 rw [Int.zero_add,Int.zero_add] at hA
 have hl:=T4 0 0 a b
 refine FnOk.intro Tryz.func130 (by decide) Z Z Z Z ?_
 refine k2 (A3 (A7 Z Z (A7 Z Z (A5 ?_))));refine k1 (k2 (k2 (A3 (A4 Z Z (A4 Z Z (C6 (F94 a b) Z Z Z ?_))))));rintro _ rfl;refine A6 (M3 Z) Z (A5 ?_);refine k1 ?_;refine B5 rfl (fun ht=>?_) (fun ht=>?_)
 ·exfalso
  have h:decide ((a.length:Int)≤4096∧(b.length:Int)≤4096)=true:=decide_eq_true ⟨by omega,by omega⟩
  rw [h] at ht;cases ht
 refine k5 (k1 (k2 (A3 (A4 Z Z (A4 Z Z (C6 (I42 a b ha hb) Z Z Z ?_))))));rintro _ rfl;refine A4 Z Z (E4 Z Z (A4 Z Z (E4 Z Z (C6 (E37 (F0 0 0 a b) a.length b.length ⟨by omega,by omega⟩ ⟨by omega,by omega⟩ hA (by omega)) Z Z Z ?_))));rintro _ rfl;refine J4 Z Z Z (J4 Z Z Z (A7 Z Z (A7 Z Z (A5 ?_))));refine k1 (k10 ?_)
 exact B9 (y7 rfl rfl rfl rfl rfl) rfl
theorem F95 (l:List Merged) (hl:l.length≤536870912):FnOk Tryz.prog 253 [pMerged l] (fun rs=>rs=[M7 (E6 l)]):=by
 refine FnOk.intro Tryz.func253 (by decide) Z Z Z Z ?_
 refine k2 (A3 (A7 Z Z (A5 ?_)));refine k1 (k2 (A3 (C2 (X5 756 _ G3 Z) Z (A5 ?_))));refine k1 (k2 (k2 (A3 (A4 Z Z (E4 Z Z (A4 Z Z (A5 ?_)))))));refine k1 (k3 (D2 (X:=Nat) (fun i=>([(3,.s (.one (.buf 756 Int 1 G3 (E6 (l.take i))))),(6,C0 Merged 2 mergedC l),(7,B6 l.length),(8,B6 i)],[(756,.spare (E6 (l.take i)).length 1 3)])) (fun i=>i≤l.length) (fun i=>l.length - i) 0 (Nat.zero_le _) (I81 ⟨le1 rfl,le1 rfl,le1 rfl,le1 rfl,trivial⟩ ⟨rfl,trivial⟩) ?_))
 intro i hi
 dsimp only at hi ⊢
 have hml:(E6 (l.take i)).length=i:=by simp [E6];omega
 refine k2 (A3 (F4 Z Z Z (A5 ?_)));refine k1 (k2 ?_);refine B5 rfl (fun ht=>?_) (fun ht=>?_)
 ·have hlt:i < l.length:=by have:=A0 ht;omega
  have hv:l[i]?=some l[i]:=by simp [hlt]
  have hst:E6 (l.take (i+1))=E6 (l.take i)++[l[i].Line]:=by unfold E6;rw [J22 hlt];simp only [J28,J24,J51]
  obtain ⟨m,hm⟩:∃m,m=l[i]:=⟨_,rfl⟩
  rw [←hm] at hv hst
  refine k5 (k1 (k2 (k3 (k2 (A3 (A6 (A9 Z (.pure _ _ _ _) Z (by omega) hv) Z (A6 (F5 Z Z) Z (C2 (H3 757 Z) Z (G1 (B7 TySz.out Z Z Z Z Z Z) (A5 ?_))))))))));refine k1 (A3 (A4 Z Z (A6 (A8 Z) Z (E9 Z Z Z Z (A6 (C9 (c:=G3) (ys:=[m.Line]) (E0 Z Z Z Z G6) Z Z Z) Z (C2 (H4 Z Z Z (.pure _ _ _ _) (by (rw [hml];simp only [J16,J19];omega)) Z) Z ?_))))));refine A7 Z Z (A5 ?_);refine k4 (k1 (A3 (C5 Z Z Z (A4 Z Z (A5 ?_)))));refine k1 ?_;refine ⟨i+1,by omega,by omega,?_⟩
  rw [hst]
  exact I81 ⟨le1 rfl,le1 rfl,le1 rfl,le1 rfl,trivial⟩ ⟨rfl,trivial⟩
 ·have hil:i=l.length:=by have:=A1 ht;omega
  rw [hil,J32]
  refine k6 (k2 (A3 (A4 Z Z (A7 Z Z (A5 ?_)))));refine k1 (k10 ?_)
  exact B9 (I5 rfl rfl rfl) rfl
theorem G75 (l:List Merged) (bit:Int) {a t:Nat} (h:a+t < l.length):Y4 l bit a (a+(t+1))=Y4 l bit a (a+t)++[⟨l[a+t].Line,I8 l[a+t].Parents bit⟩]:=by
 rw [D03 l bit (show a≤a+t by omega) (show a+t≤a+(t+1) by omega),show a+(t+1)=a+t+1 by omega,C74 l bit h,J14 h];rfl
theorem C24 (l:List Merged) (bit:Int) (a b:Nat):(Y4 l bit a b).length≤b - a:=by unfold Y4;rw [J29,J36];omega
abbrev i8 (i:Int):Ob:=.box [.p (.v (.int .i64 i))]
abbrev B92 (i:Int):Ob:=.box [.p (.v (.int .u32 i))]
abbrev lBox (l:List Merged):Ob:=.box [.p (.list Merged 2 mergedC l)]
theorem C90 {gf:Fr} {ob:Obs} (l out:List Merged) (bit:Int) (a e:Nat) (he:e≤l.length) (ha:a≤e) (hl:l.length≤536870912) (ho:out.length≤268435456) (hl2:l.length≤268435456)
  (h11:C1 ob 11=some (i8 a)) (h10:C1 ob 10=some (.box [.buf 20 Merged 2 mergedC out])) (h3:C1 ob 3=some (lBox l)) (h5:C1 ob 5=some (B92 bit)) (h20:C1 ob 20=some (.spare out.length 2 151)) :
  AL.Met Tryz.prog 254 [.one (.p (.v (.int .i64 e))),.one (.ref 11 0),.one (.ref 10 0),.one (.ref 3 0),.one (.ref 5 0)] gf ob [20]
   (fun rs ob'=>rs=[]∧ob'=(10,.box [.buf 20 Merged 2 mergedC (out++Y4 l bit a e)])::(11,i8 e)::(3,lBox l)::(5,B92 bit)::(20,.spare (out++Y4 l bit a e).length 2 151)::Obs.forget 20 ob):=by
 refine AL.Met.introH Tryz.func254 (by decide) rfl rfl rfl (fun hH=>?_)
 refine k3 ?_;refine D2 (X:=Nat) (fun t=>([(0,B6 e),(1,.s (.one (.ref 11 0))),(2,.s (.one (.ref 10 0))),(3,.s (.one (.ref 3 0))),(4,.s (.one (.ref 5 0)))]++Fr.forget 20 gf,(10,.box [.buf 20 Merged 2 mergedC (out++Y4 l bit a (a+t))])::(11,i8 ((a+t:Nat):Int))::(3,lBox l)::(5,B92 bit)::(20,.spare (out++Y4 l bit a (a+t)).length 2 151)::Obs.forget 20 ob)) (fun t=>a+t≤e) (fun t=>e - (a+t)) 0 (by omega) ?_ ?_
 ·rw [Nat.add_zero,C73,J35]
  exact J11 20 (l:=[(0,B6 e),(1,.s (.one (.ref 11 0))),(2,.s (.one (.ref 10 0))),(3,.s (.one (.ref 3 0))),(4,.s (.one (.ref 5 0)))]) (L:=[(10,_),(11,_),(3,_),(5,_),(20,_)]) ⟨le1 rfl,le1 rfl,le1 rfl,le1 rfl,le1 rfl,trivial⟩ hH (by repeat (first | exact F8 | refine F9 rfl ?_)) ⟨h10,h11,h3,h5,h20,trivial⟩
 intro t ht0
 dsimp only at ht0 ⊢
 have hpl:=C24 l bit a (a+t)
 refine k2 (k2 (A3 (E9 Z Z Z Z (A4 Z Z (F4 Z Z Z (A5 ?_))))));refine k1 ?_;refine B5 rfl (fun ht=>?_) (fun ht=>?_)
 ·have h1:a+t < l.length:=by have:=A0 ht;omega
  have hv:l[a+t]?=some l[a+t]:=by simp [h1]
  have hst:=G75 l bit h1
  obtain ⟨m,hm⟩:∃m,m=l[a+t]:=⟨_,rfl⟩
  rw [←hm] at hv hst
  refine k5 (k1 (k2 (k3 (D5 (by kernel_rfl) (by kernel_rfl) (B1 (B4 Z Z Z) Z Z (B1 (B4 Z Z Z) Z Z (B1 (B4 Z Z Z) Z Z (B1 (A9 Z (.pure _ _ _ _) Z (by omega) hv) Z Z (B1 (G7 Z) Z Z (B1 (B3 Z Z) Z Z (B1 (B4 Z Z Z) Z Z (B1 (B4 Z Z Z) Z Z (B1 (A9 Z (.pure _ _ _ _) Z (by omega) hv) Z Z (B1 (G7 Z) Z Z (B1 (B3 Z Z) Z Z (B1 (B4 Z Z Z) Z Z (B1 (Z4 Z Z Z (fun _=>rfl)) Z Z (B1 (I1 Z) Z Z (B1 (C9 (c:=mergedC) (ys:=[⟨m.Line,I8 m.Parents bit⟩]) (E0 Z Z Z Z G6) Z Z Z) Z Z (D37 (H4 Z Z Z (.pure _ _ _ _) (by (simp only [J15,J16,J19];omega)) Z) Z Z (A89 (B7 TySz.out Z Z Z Z Z Z) Z (O2 ?_))))))))))))))))))))));refine k4 (k1 (A3 (E9 Z Z Z Z (C5 Z Z Z (G1 (B7 TySz.out Z Z Z Z Z Z) (A5 ?_))))));refine k1 ?_;refine ⟨t+1,by have:=A0 ht;omega,by have:=A0 ht;omega,?_⟩
  rw [hst,←J25,show ((a+(t+1):Nat):Int)=((a+t:Nat):Int)+1 by omega]
  exact I82 ⟨le1 rfl,le1 rfl,le1 rfl,le1 rfl,le1 rfl,trivial⟩ (C87 hH) (by repeat (first | exact F8 | refine tail_drop rfl ?_ | refine F9 rfl ?_ | refine F20 _ ?_)) (B45 (L:=[(10,_),(11,_),(3,_),(5,_),(20,_)]) ⟨rfl,rfl,rfl,rfl,rfl,trivial⟩ (by repeat (first | exact B13 | refine B14 rfl ?_ | refine obs_fgt _ ?_)))
 ·have h2:a+t=e:=by have:=A1 ht;omega
  rw [h2]
  refine k6 (k7 (k7 (k8 Z ?_)))
  exact D41 (rets0 rfl) (by repeat (first | exact F8 | refine F9 rfl ?_ | refine M1 _ ?_)) (fun _ _ h=>h) ⟨rfl,rfl⟩
def C62 (l:List Merged) (list:List Int) (bit:Int):List Merged:=N6 l list bit 0 0 (F0 0 0 (E6 l) list)
theorem H83 (list:List Int) (bit:Int) {a t:Nat} (h:a+t < list.length):C36 list bit a (t+1)=C36 list bit a t++[⟨list[a+t],bit⟩]:=by
 unfold C36;rw [A05 list a t h,J28];rfl
theorem C91 (list:List Int) (bit:Int) (a n:Nat):(C36 list bit a n).length≤n:=by unfold C36;rw [J29,J36];omega
theorem walk_sc (l:List Merged) (list:List Int) (hl:l.length≤4096) (hn:list.length≤4096):ScOk 0 0 (J7 (E6 l) list) l.length list.length:=by
 have hasc:=T5 (E6 l) list 0 0
 rw [Int.zero_add,Int.zero_add] at hasc
 have h:=B51 (m:=(E6 l).length) (n:=list.length) ⟨by omega,by simp [E6];omega⟩ ⟨by omega,by omega⟩ (F0 0 0 (E6 l) list) 0 0 0 0 0 hasc (by omega) (by omega) (by omega) (by omega) (by omega)
 have:=A25 _ _ _ _ _ _ h
 unfold J7 Y0
 rwa [show (E6 l).length=l.length by simp [E6]] at this ⊢
set_option maxHeartbeats 1000000
theorem H84 (l:List Merged) (list:List Int) (bit:Int) (hl:l.length≤4096) (hn:list.length≤4096) :
  FnOk Tryz.prog 219 [pMerged l,M7 list,.one (.v (.int .u32 bit))] (fun rs=>rs=[pMerged (C62 l list bit),J0 0]):=by
 have hll:(E6 l).length=l.length:=by simp [E6]
 have hsc:=walk_sc l list hl hn
 have hmi:=I59 l list bit
 obtain ⟨W,hW⟩:∃W,W=C62 l list bit:=⟨_,rfl⟩
 obtain ⟨cs,hcs⟩:∃cs,cs=J7 (E6 l) list:=⟨_,rfl⟩
 have hS:=D62 (E6 l) list (by omega) hn
 have hmi:j9 l list bit 0 cs=W:=by rw [hcs,hmi,hW];rfl
 rw [←hcs] at hsc hS
 rw [←hW]
 refine FnOk.intro Tryz.func219 (by decide) Z Z Z Z ?_
 refine k2 (A3 (C2 (T8 3 Z Z Z) Z (C2 (T8 5 Z Z Z) Z (A7 Z Z (A7 Z Z (A5 ?_))))));refine k1 (k2 (A3 (E9 Z Z Z Z (C6 (F95 l (by omega)) Z Z Z ?_))));rintro _ rfl;refine A4 Z Z (C6 (hS) Z Z Z ?_);rintro _ rfl;refine A4 Z Z (J4 Z Z Z (J4 Z Z Z (A7 Z Z (A7 Z Z (A5 ?_)))));refine k1 (k2 (k2 (A3 (A4 Z Z (A6 (O6 Z Z) Z (A5 ?_))))));refine k1 ?_;refine B5 rfl (fun ht=>?_) (fun ht=>?_)
 ·cases ht
 refine k5 (k1 (k2 (A3 (C2 (H3 10 Z) Z (A5 ?_)))));refine H5 (I89 20 Merged 2 mergedC 151 (kb:=10) (o:=0) Z Z Z) ?_
 refine k2 (A3 (C2 (H3 11 Z) Z (G1 (B7 TySz.out Z Z Z Z Z Z) (A5 ?_))));refine k1 (k2 (A3 (A6 (z7 Z Z) Z (A7 Z Z (A5 ?_)))));refine k1 (k2 (k2 (A3 (A4 Z Z (E4 Z Z (A4 Z Z (A5 ?_)))))));refine k1 (k3 ?_);refine D2 (X:=Nat × Nat × Nat × List Merged) (fun x=>([(1,C0 Int 1 G3 list),(3,.s (.one (.ref 3 0))),(5,.s (.one (.ref 5 0))),(10,.s (.one (.ref 10 0))),(11,.s (.one (.ref 11 0))),(12,.s (.one (.clo 254 [] [(11,0),(10,0),(3,0),(5,0)]))),(28,C0 Change 4 changeC cs),(29,B6 cs.length),(30,B6 x.1)],[(3,lBox l),(5,B92 bit),(10,.box [.buf 20 Merged 2 mergedC x.2.2.2]),(11,i8 x.2.1),(20,.spare x.2.2.2.length 2 151)]))
  (fun x=>x.1≤cs.length∧ScOk x.2.1 x.2.2.1 (cs.drop x.1) l.length list.length∧x.2.2.2.length≤x.2.1+x.2.2.1∧x.2.2.2++j9 l list bit x.2.1 (cs.drop x.1)=W) (fun x=>cs.length - x.1) (0,0,0,[]) ⟨Nat.zero_le _,hsc,(by simp),hmi⟩ (I81 ⟨le1 rfl,le1 rfl,le1 rfl,le1 rfl,le1 rfl,le1 rfl,le1 rfl,le1 rfl,le1 rfl,trivial⟩ ⟨rfl,rfl,rfl,rfl,rfl,trivial⟩) ?_
 rintro ⟨i,k,j,out⟩ ⟨hi,hok,hol,hp⟩
 dsimp only at hi hok hol hp ⊢
 refine k2 (A3 (F4 Z Z Z (A5 ?_)));refine k1 (k2 ?_);refine B5 rfl (fun ht=>?_) (fun ht=>?_)
 rotate_left
 ·have hil:i=cs.length:=by have:=A1 ht;omega
  rw [hil,J23 (Nat.le_refl _)] at hp hok
  have hend:(k:Int)≤l.length∧(j:Int)≤list.length:=hok
  have hp:out++Y4 l bit k l.length=W:=hp
  refine k6 (k2 (A3 (A4 Z Z (E9 Z Z Z Z (E4 Z Z (A32 (C90 l out bit k l.length (by omega) (by omega) (by omega) (by omega) (by omega) Z Z Z Z Z) Z Z Z Z ?_))))));rintro _ _ ⟨rfl,rfl⟩;refine A5 ?_;refine k1 (k2 ?_)
  rw [hp]
  refine H5 (Sees.forget 20) ?_
  refine A3 (E9 Z Z Z Z (A7 Z Z (A7 Z Z (A5 ?_))));refine k1 (k10 ?_)
  exact B9 (y7 rfl rfl rfl rfl rfl) rfl
 have hlt:i < cs.length:=by have:=A0 ht;omega
 have hv:cs[i]?=some cs[i]:=by simp [hlt]
 rw [J20 hlt] at hp hok
 obtain ⟨c,hc⟩:∃c,c=cs[i]:=⟨_,rfl⟩
 rw [←hc] at hv hp hok
 obtain ⟨⟨o1,o2⟩,⟨o3,o4⟩,⟨o5,o6⟩,⟨o7,o8⟩,o9,o10,hok⟩:=hok
 have hend:=hok.end_le
 obtain ⟨co,col,cn,cnl⟩:=c
 dsimp only at o1 o2 o3 o4 o5 o6 o7 o8 o9 o10 hok hend
 obtain ⟨A,rfl⟩:∃A:Nat,co=A:=⟨co.toNat,by omega⟩
 obtain ⟨B,rfl⟩:∃B:Nat,col=B:=⟨col.toNat,by omega⟩
 obtain ⟨C,rfl⟩:∃C:Nat,cn=C:=⟨cn.toNat,by omega⟩
 obtain ⟨D,rfl⟩:∃D:Nat,cnl=D:=⟨cnl.toNat,by omega⟩
 rw [j9] at hp
 dsimp only at hp
 simp only [J21] at hp
 have hpl:=C24 l bit k A
 have hsl:((l.drop A).take B).length=B:=by rw [J36,J31];omega
 refine k5 (k1 (k2 (k3 (k2 (A3 (A6 (A9 Z (.pure _ _ _ _) Z (by omega) hv) Z (A6 (F5 Z Z) Z (C2 (H3 14 Z) Z (G1 (B7 TySz.out Z Z Z Z Z Z) (A5 ?_))))))))));refine L6 [(1,C0 Int 1 G3 list),(3,.s (.one (.ref 3 0))),(5,.s (.one (.ref 5 0))),(10,.s (.one (.ref 10 0))),(11,.s (.one (.ref 11 0))),(12,.s (.one (.clo 254 [] [(11,0),(10,0),(3,0),(5,0)]))),(14,.s (.one (.ref 14 0))),(28,C0 Change 4 changeC cs),(29,B6 cs.length),(30,B6 i)] [(3,lBox l),(5,B92 bit),(10,.box [.buf 20 Merged 2 mergedC out]),(11,i8 k),(20,.spare out.length 2 151),(14,.box [.p (.v (.int .i64 A)),.p (.v (.int .i64 B)),.p (.v (.int .i64 C)),.p (.v (.int .i64 D))])] (I81 ⟨le1 rfl,le1 rfl,le1 rfl,le1 rfl,le1 rfl,le1 rfl,le1 rfl,le1 rfl,le1 rfl,le1 rfl,trivial⟩ ⟨rfl,rfl,rfl,rfl,rfl,rfl,trivial⟩) ?_
 refine k2 (A3 (A4 Z Z (A6 (A8 Z) Z (E9 Z Z Z Z (A32 (C90 l out bit k A (by omega) (by omega) (by omega) (by omega) (by omega) Z Z Z Z Z) Z Z Z Z ?_)))));rintro _ _ ⟨rfl,rfl⟩;refine A5 ?_
 obtain ⟨o1',ho1⟩:∃o',o'=out++Y4 l bit k A:=⟨_,rfl⟩
 have hp:o1'++((l.drop A).take B++C36 list bit C D++j9 l list bit (A+B) (cs.drop (i+1)))=W:=by rw [ho1,←hp];simp only [J25]
 have hol':o1'.length≤k+j+(A - k):=by rw [ho1,J15];omega
 rw [←ho1]
 refine L6 [(1,C0 Int 1 G3 list),(3,.s (.one (.ref 3 0))),(5,.s (.one (.ref 5 0))),(10,.s (.one (.ref 10 0))),(11,.s (.one (.ref 11 0))),(12,.s (.one (.clo 254 [] [(11,0),(10,0),(3,0),(5,0)]))),(14,.s (.one (.ref 14 0))),(28,C0 Change 4 changeC cs),(29,B6 cs.length),(30,B6 i)] [(3,lBox l),(5,B92 bit),(10,.box [.buf 20 Merged 2 mergedC o1']),(11,i8 A),(20,.spare o1'.length 2 151),(14,.box [.p (.v (.int .i64 A)),.p (.v (.int .i64 B)),.p (.v (.int .i64 C)),.p (.v (.int .i64 D))])] (I81 ⟨le1 rfl,le1 rfl,le1 rfl,le1 rfl,le1 rfl,le1 rfl,le1 rfl,le1 rfl,le1 rfl,le1 rfl,trivial⟩ ⟨rfl,rfl,rfl,rfl,rfl,rfl,trivial⟩) ?_
 refine k2 ?_
 have eAB:((A:Int)+B).toNat - (A:Int).toNat=B:=by omega
 refine D5 (by kernel_rfl) (by kernel_rfl) (B1 (B4 Z Z Z) Z Z (B1 (B4 Z Z Z) Z Z (B1 (B4 Z Z Z) Z Z (B1 (B4 Z Z Z) Z Z (B1 (A8 Z) Z Z (B1 (B4 Z Z Z) Z Z (B1 (U2 Z Z (by omega)) Z Z (B1 (X1 Z (.pure _ _ _ _) Z Z (by omega) (by omega) (by omega)) Z Z (D37 (H4 Z Z Z (.pure _ _ _ _) (by (rw [eAB,J21,hsl];omega)) Z) Z Z ?_)))))))));refine A89 (B7 TySz.out Z Z Z Z Z Z) Z (O2 ?_)
 rw [eAB,J21]
 refine k1 (k2 (A3 (E9 Z Z Z Z (A6 (A8 Z) Z (E9 Z Z Z Z (C5 Z Z Z (G1 (B7 TySz.out Z Z Z Z Z Z) (A5 ?_))))))));refine k1 (k2 ?_)
 have eCD:((C:Int)+D).toNat - (C:Int).toNat=D:=by omega
 have hLl:((list.drop C).take D).length=D:=by rw [J36,J31];omega
 refine A3 (A4 Z Z (A6 (A8 Z) Z (E9 Z Z Z Z (A6 (A8 Z) Z (E9 Z Z Z Z (A6 (A8 Z) Z (E9 Z Z Z Z (C5 Z Z Z (A6 (X1 Z (.pure _ _ _ _) Z Z (by omega) (by omega) (by omega)) Z (E4 Z Z (A4 Z Z (A5 ?_))))))))))))
 rw [eCD,J21]
 refine k1 (k3 ?_)
 obtain ⟨o2',ho2⟩:∃o',o'=o1'++(l.drop A).take B:=⟨_,rfl⟩
 have hp:o2'++(C36 list bit C D++j9 l list bit (A+B) (cs.drop (i+1)))=W:=by rw [ho2,←hp];simp only [J25]
 have hol2:o2'.length≤k+j+(A - k)+B:=by rw [ho2,J15,hsl];omega
 rw [←ho2]
 obtain ⟨NL,hNL⟩:∃NL,NL=(list.drop C).take D:=⟨_,rfl⟩
 rw [←hNL] at hLl ⊢
 refine D2 (X:=Nat) (fun t=>([(1,C0 Int 1 G3 list),(3,.s (.one (.ref 3 0))),(5,.s (.one (.ref 5 0))),(10,.s (.one (.ref 10 0))),(11,.s (.one (.ref 11 0))),(12,.s (.one (.clo 254 [] [(11,0),(10,0),(3,0),(5,0)]))),(28,C0 Change 4 changeC cs),(29,B6 cs.length),(30,B6 i),(59,C0 Int 1 G3 NL),(60,B6 NL.length),(61,B6 t)],[(3,lBox l),(5,B92 bit),(10,.box [.buf 20 Merged 2 mergedC (o2'++C36 list bit C t)]),(11,i8 ((A:Int)+B)),(20,.spare (o2'++C36 list bit C t).length 2 151)])) (fun t=>t≤D) (fun t=>D - t) 0 (Nat.zero_le _) (by rw [show C36 list bit C 0=[] by unfold C36;simp,J35];exact I81 ⟨le1 rfl,le1 rfl,le1 rfl,le1 rfl,le1 rfl,le1 rfl,le1 rfl,le1 rfl,le1 rfl,le1 rfl,le1 rfl,le1 rfl,trivial⟩ ⟨rfl,rfl,rfl,rfl,rfl,trivial⟩) ?_
 intro t ht1
 dsimp only at ht1 ⊢
 have hnl:=C91 list bit C t
 refine k2 (A3 (F4 Z Z Z (A5 ?_)));refine k1 (k2 ?_);refine B5 rfl (fun ht=>?_) (fun ht=>?_)
 ·have hltD:t < D:=by have:=A0 ht;omega
  have hltL:C+t < list.length:=by omega
  have hv2:NL[t]?=some list[C+t]:=by rw [hNL,J54 hltD,J56,J14 hltL]
  have hst:=H83 list bit hltL
  obtain ⟨v,hvv⟩:∃v,v=list[C+t]:=⟨_,rfl⟩
  rw [←hvv] at hv2 hst
  refine k5 (k1 (k2 (k3 (k2 (A3 (A6 (A9 Z (.pure _ _ _ _) Z (by omega) hv2) Z (A6 (B3 Z Z) Z (A7 Z Z (A5 ?_)))))))));refine k1 (A3 (E9 Z Z Z Z (A4 Z Z (E9 Z Z Z Z (A6 (I1 Z) Z (A6 (C9 (c:=mergedC) (ys:=[⟨v,bit⟩]) (E0 Z Z Z Z G6) Z Z Z) Z (C2 (H4 Z Z Z (.pure _ _ _ _) (by (simp only [J15,J16,J19];omega)) Z) Z (G1 (B7 TySz.out Z Z Z Z Z Z) (A5 ?_)))))))));refine k4 (k1 (A3 (C5 Z Z Z (A4 Z Z (A5 ?_)))));refine k1 ?_;refine ⟨t+1,by omega,by omega,?_⟩
  rw [hst,←J25]
  exact I81 ⟨le1 rfl,le1 rfl,le1 rfl,le1 rfl,le1 rfl,le1 rfl,le1 rfl,le1 rfl,le1 rfl,le1 rfl,le1 rfl,le1 rfl,trivial⟩ ⟨rfl,rfl,rfl,rfl,rfl,trivial⟩
 have htD:t=D:=by have:=A1 ht;omega
 have hcsl:cs.length≤4097:=by rw [hcs];have:=s6 (F0 0 0 (E6 l) list) 0 0 (E6 l).length list.length;have:=T4 0 0 (E6 l) list;unfold J7 Y0;omega
 rw [htD]
 refine k6 (k7 (k7 (k8 Z (k4 (k1 (A3 (C5 Z Z Z (A4 Z Z (A5 ?_)))))))));refine k1 ?_
 have hnl2:=C91 list bit C D
 exact ⟨(i+1,A+B,C+D,o2'++C36 list bit C D),⟨by dsimp only;omega,by dsimp only;exact hok,by dsimp only;rw [J15];omega,by dsimp only;rw [J25];exact hp⟩,by dsimp only;omega,I81 ⟨le1 rfl,le1 rfl,le1 rfl,le1 rfl,le1 rfl,le1 rfl,le1 rfl,le1 rfl,le1 rfl,trivial⟩ ⟨rfl,rfl,rfl,rfl,rfl,trivial⟩⟩
end Go.Proofs.YtbiadkkamhpdnaaGreatDoor
