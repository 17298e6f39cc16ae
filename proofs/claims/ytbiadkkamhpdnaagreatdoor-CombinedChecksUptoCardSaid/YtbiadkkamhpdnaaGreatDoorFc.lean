/- Walks of the program's functions. -/
import Derived.Test.YtbiadkkamhpdnaaGreatDoorFb
import Derived.Test.YtbiadkkamhpdnaaGreatDoorFs
import Derived.Test.YtbiadkkamhpdnaaGreatDoorAn
set_option linter.unusedSimpArgs false
namespace Go.Proofs.YtbiadkkamhpdnaaGreatDoor
open Go Go.AL
set_option maxRecDepth 100000
end Go.Proofs.YtbiadkkamhpdnaaGreatDoor
namespace Go.Proofs.YtbiadkkamhpdnaaGreatDoor
open Go Go.AL
set_option maxRecDepth 100000
end Go.Proofs.YtbiadkkamhpdnaaGreatDoor
namespace Go.Proofs.YtbiadkkamhpdnaaGreatDoor
open Go Go.AL
set_option maxRecDepth 100000
theorem check12_good {p:Patch} (h1:¬D07 p≠0):D43 p.Hunks=true:=by
 by_cases hg:D43 p.Hunks=true
 ·exact hg
 ·exfalso;apply h1;unfold D07;split
  ·decide
  ·rw [if_pos (by simpa using hg)];decide
end Go.Proofs.YtbiadkkamhpdnaaGreatDoor
namespace Go.Proofs.YtbiadkkamhpdnaaGreatDoor
open Go Go.AL
set_option maxRecDepth 100000
end Go.Proofs.YtbiadkkamhpdnaaGreatDoor
namespace Go.Proofs.YtbiadkkamhpdnaaGreatDoor
open Go Go.AL
set_option maxRecDepth 100000
end Go.Proofs.YtbiadkkamhpdnaaGreatDoor
namespace Go.Proofs.YtbiadkkamhpdnaaGreatDoor
open Go Go.AL
set_option maxRecDepth 100000
end Go.Proofs.YtbiadkkamhpdnaaGreatDoor
namespace Go.Proofs.YtbiadkkamhpdnaaGreatDoor
open Go Go.AL
set_option maxRecDepth 100000
theorem E52 (n:Int):FnOk Tryz.prog 232 [H3 n] (fun rs=>rs=[M3 (decide (O2 n))]):=by
 refine FnOk.intro Tryz.func232 (by decide) Z Z Z Z ?_
 refine k2 (A3 (A7 Z Z (A5 ?_)));refine k1 (k2 (A3 (A4 Z Z (A6 (A58 Z Z) Z (A4 Z Z (B2 Z Z Z Z (fun hg=>by rw [hg];exact B7 Z Z) ?_))))));refine B2 Z Z Z Z (fun hg=>by rw [hg];exact j6 Z Z) ?_;refine J4 Z Z ?_;refine A7 Z Z (A5 ?_);refine k1 (k10 (B6 (G6 Z Z Z) ?_))
 simp only [R7]
 rfl
theorem I79 {gf:Fr} {ob:Obs} (p:List Span):AL.Met Tryz.prog 261 [.one (.p (.list Span 2 spanC p))] gf ob [] (fun rs ob'=>rs=[.one (.full Span 2 spanC p)]∧ob'=ob):=by
 refine AL.Met.intro Tryz.func261 (by decide) Z Z Z ?_
 refine k2 (A3 (A7 Z Z (A5 ?_)));refine k1 (k2 (A3 (A4 Z Z (A4 Z Z (E7 Z Z (A4 Z Z (E7 Z Z (A6 (H67 Z (.pure _ _ _ _) Z Z (by omega) (by omega) (by first | rfl | omega)) Z ?_))))))));refine A7 Z Z (A5 ?_)
 rw [show p.take (p.length:Int).toNat=p by simp]
 refine k1 (k10 ?_)
 exact l8 (C81 rfl rfl) (by repeat (first | exact I9 | refine J0 rfl ?_ | refine P2 _ ?_)) (fun _ _ h=>h) ⟨rfl,rfl⟩
def A65 (i j:Int):List Span→List Change
 | []=>[]
 | x::r=>(if x.From > i∨x.To > j then [⟨i,x.From - i,j,x.To - j⟩] else [])++A65 (x.From+1) (x.To+1) r
theorem D62 (m n:Int):∀(p:List Span) (i j:Int),A65 i j (p++[⟨m,n⟩])=O0 i j p m n
 | [],i,j=>by simp [A65,O0]
 | x::r,i,j=>by
  rw [K45,A65,O0,D62 m n r]
theorem F25 (p:List Span) (m n:Int) (hp:p.length≤536870912) (hm:-1099511627776≤m∧m≤1099511627776) (hn:-1099511627776≤n∧n≤1099511627776) (hb:∀s∈p,-1099511627776≤s.From∧s.From≤1099511627776 ∧ -1099511627776≤s.To∧s.To≤1099511627776) :
  FnOk Tryz.prog 233 [pSpans p,H3 m,H3 n] (fun rs=>rs=[pChanges (i7 p m n)]):=by
 refine FnOk.intro Tryz.func233 (by decide) Z Z Z Z ?_
 refine k2 (A3 (A7 Z Z (A5 ?_)));refine k1 (k2 (A3 (C1 (V1 7 _ changeC Z) Z (A5 ?_))));refine k1 (k2 (A3 (A7 Z Z (A7 Z Z (A5 ?_)))));refine k1 (k2 (k2 (A3 (A4 Z Z (B57 (I79 p) Z Z Z ?_)))));rintro _ _ ⟨rfl,rfl⟩;refine A4 Z Z (A4 Z Z (A6 (H1 Z) Z (A6 (D5 (c:=spanC) (ys:=[⟨m,n⟩]) (E0 Z Z Z Z F3) Z Z Z) Z (C1 (F19 18 Z Z (.pure _ _ _ _) (by simp;omega) (by simp) Z) Z (A6 (V3 Z (.buf _ _ _ _ _)) Z (A4 Z Z (A5 ?_)))))))
 obtain ⟨q,hq⟩:∃q,q=p++[(⟨m,n⟩:Span)]:=⟨_,rfl⟩
 have hql:q.length=p.length+1:=by rw [hq];simp
 have hqb:∀s∈q,-1099511627776≤s.From∧s.From≤1099511627776 ∧ -1099511627776≤s.To∧s.To≤1099511627776:=by
  intro s hs
  rw [hq] at hs
  rcases List.mem_append.1 hs with h | h
  ·exact hb s h
  ·simp at h;subst h;exact ⟨hm.1,hm.2,hn.1,hn.2⟩
 have hres:i7 p m n=A65 0 0 q:=by rw [hq,D62];rfl
 rw [←hq]
 refine k1 (k3 (D6 (X:=Nat × Int × Int × List Change) (fun x=>([(7,.s (.one (.buf 7 Change 4 changeC x.2.2.2))),(8,B9 x.2.1),(9,B9 x.2.2.1),(18,.s (.one (.buf 18 Span 2 spanC q))),(19,B9 q.length),(20,B9 x.1)],[(7,.spare x.2.2.2.length 4 146)])) (fun x=>x.1≤q.length∧x.2.2.2++A65 x.2.1 x.2.2.1 (q.drop x.1)=i7 p m n∧(-1099511627777≤x.2.1∧x.2.1≤1099511627777)∧(-1099511627777≤x.2.2.1∧x.2.2.1≤1099511627777)∧x.2.2.2.length≤x.1) (fun x=>q.length - x.1) (0,0,0,[]) ⟨Nat.zero_le _,hres.symm,by decide,by decide,Nat.le_refl _⟩ (J69 ⟨le1 rfl,le1 rfl,le1 rfl,le1 rfl,le1 rfl,le1 rfl,trivial⟩ ⟨rfl,trivial⟩) ?_))
 rintro ⟨k,i,j,out⟩ ⟨hk,he,hi,hj,hol⟩
 dsimp only at hk he hi hj hol ⊢
 refine k2 (A3 (E4 Z Z Z (A5 ?_)));refine k1 (k2 ?_);refine B3 rfl (fun ht=>?_) (fun ht=>?_)
 ·have hlt:k < q.length:=by have:=A0 ht;omega
  have hv:q[k]?=some q[k]:=by simp [hlt]
  have hbk:=hqb _ (K17 hlt)
  obtain ⟨c,hc⟩:∃c,c=q[k]:=⟨_,rfl⟩
  rw [K13 hlt,A65] at he
  rw [←hc] at hv he hbk
  refine k5 (k1 (k2 (k3 (k2 (A3 (A6 (B0 Z (.buf _ _ _ _ _) Z (by omega) hv) Z (A6 (G3 Z Z) Z (C1 (I3 11 Z) Z (F8 (B8 TySz.out Z Z Z Z Z Z) (A5 ?_))))))))));refine L0 ?_
  obtain ⟨out',hout'⟩:∃out',out'=out++(if c.From > i∨c.To > j then [⟨i,c.From - i,j,c.To - j⟩] else []):=⟨_,rfl⟩
  have hol':out'.length≤k+1:=by rw [hout',K06];split<;>simp<;>omega
  rw [←K18,←hout'] at he
  refine A21 [(7,.s (.one (.buf 7 Change 4 changeC out'))),(8,B9 i),(9,B9 j),(11,.s (.one (.ref 11 0))),(18,.s (.one (.buf 18 Span 2 spanC q))),(19,B9 q.length),(20,B9 k)] [(7,.spare out'.length 4 146),(11,.box [.p (.v (.int .i64 c.From)),.p (.v (.int .i64 c.To))])] ?_ ?_
  ·refine k2 (A3 (A6 (A8 Z) Z (E1 Z Z Z Z (A4 Z Z (A6 (N5 Z Z) Z (A4 Z Z (B2 Z Z Z Z (fun hg=>by rw [hg];exact A8 Z) ?_)))))));refine B2 Z Z Z Z (fun hg=>by rw [hg];exact B5 Z Z Z) ?_;refine B2 Z Z Z Z (fun hg=>by rw [hg];exact B7 Z Z) ?_;refine B2 Z Z Z Z (fun hg=>by rw [hg];exact N5 Z Z) ?_;refine J4 Z Z ?_;refine A5 ?_;refine k1 ?_;refine B3 rfl (fun ht=>?_) (fun ht=>?_)
   ·simp only [or_pick] at ht
    have h1:=A0 ht
    rw [if_pos h1] at hout'
    skip
    refine A3 (A4 Z Z (A4 Z Z (A6 (A8 Z) Z (E1 Z Z Z Z (A4 Z Z (A6 (U0 Z Z (by omega)) Z (A4 Z Z (A6 (A8 Z) Z (E1 Z Z Z Z (A4 Z Z (A6 (U0 Z Z (by omega)) Z (A6 (H1 Z) Z (A6 (D5 (c:=changeC) (ys:=[⟨i,c.From - i,j,c.To - j⟩]) (E0 Z Z Z Z F3) Z Z Z) Z (C1 (G4 Z Z Z (.pure _ _ _ _) (by (simp only [K08,K11];omega)) Z) Z (A7 Z Z (A5 ?_))))))))))))))));refine k1 ?_
    rw [hout']
    exact J69 ⟨le1 rfl,le1 rfl,le1 rfl,le1 rfl,le1 rfl,le1 rfl,le1 rfl,trivial⟩ ⟨rfl,rfl,trivial⟩
   ·simp only [or_pick] at ht
    have h1:=A1 ht
    rw [if_neg h1,K29] at hout'
    refine k5 (k1 ?_)
    rw [hout']
    exact J69 ⟨le1 rfl,le1 rfl,le1 rfl,le1 rfl,le1 rfl,le1 rfl,le1 rfl,trivial⟩ ⟨rfl,rfl,trivial⟩
  ·skip
   refine C9 (by kernel_rfl) (by kernel_rfl) (A9 (A8 Z) Z Z (A9 (B5 Z Z Z) Z Z (A9 (V2 Z Z (by omega)) Z Z (A9 (A8 Z) Z Z (A9 (B5 Z Z Z) Z Z (A9 (V2 Z Z (by omega)) Z Z (A9 (J6 Z Z) Z Z (A9 (J6 Z Z) Z Z (L6 ?_)))))))));refine k4 (k1 (A3 (C6 Z Z Z (A4 Z Z (A5 ?_)))));refine k1 ?_
   exact ⟨(k+1,c.From+1,c.To+1,out'),⟨by dsimp only;omega,he,⟨by dsimp only;omega,by dsimp only;omega⟩,⟨by dsimp only;omega,by dsimp only;omega⟩,by dsimp only;omega⟩,by dsimp only;omega,J69 ⟨le1 rfl,le1 rfl,le1 rfl,le1 rfl,le1 rfl,le1 rfl,trivial⟩ ⟨rfl,trivial⟩⟩
 ·have hk':k=q.length:=by have:=A1 ht;omega
  rw [hk',K15 (Nat.le_refl _),A65,K29] at he
  refine k6 (k2 (A3 (A4 Z Z (A7 Z Z (A5 ?_)))));refine k1 (k10 ?_)
  exact B6 (G6 rfl rfl rfl) (by rw [←he])
theorem G92 {m n:Int}:∀{p:List Span} {i j:Int},Asc m n i j p→∀k (h:k < p.length),(k=0→i≤p[k].From∧j≤p[k].To)∧(∀h0:0 < k,p[k - 1].From < p[k].From∧p[k - 1].To < p[k].To)∧p[k].From < m∧p[k].To < n
 | [],_,_,_,k,h=>by simp at h
 | x::r,i,j,ha,k,h=>by
  obtain ⟨h1,h2,h3⟩:=ha
  cases k with
  | zero=>have:=h3.le;exact ⟨fun _=>⟨h1,h2⟩,fun h0=>absurd h0 (by omega),by show x.From < m;omega,by show x.To < n;omega⟩
  | succ k =>
   obtain ⟨g1,g2,g3,g4⟩:=G92 h3 k (by simpa using h)
   refine ⟨fun h0=>absurd h0 (by omega),fun _=>?_,by simpa using g3,by simpa using g4⟩
   cases k with
   | zero =>
    obtain ⟨q1,q2⟩:=g1 rfl
    have hr:0 < r.length:=by simpa using h
    show x.From < r[0].From∧x.To < r[0].To
    omega
   | succ k=>simpa using g2 (by omega)
theorem F26 (p:List Span) (m n:Int) (hm:O2 m) (hn:O2 n) (ha:Asc m n 0 0 p) (hp:p.length≤536870912) :
  FnOk Tryz.prog 189 [pSpans p,H3 m,H3 n] (fun rs=>rs=[pChanges (i7 p m n),H3 0]):=by
 obtain ⟨hm1,hm2⟩:=hm
 obtain ⟨hn1,hn2⟩:=hn
 have hst:=G92 ha
 have hb:∀s∈p,0≤s.From∧s.From≤4096∧0≤s.To∧s.To≤4096:=by
  have key:∀(p:List Span) (i j:Int),Asc m n i j p→0≤i→0≤j→∀s∈p,0≤s.From∧s.From≤4096∧0≤s.To∧s.To≤4096:=by
   intro p
   induction p with
   | nil=>intro _ _ _ _ _ s hs;simp at hs
   | cons x r ih =>
    rintro i j ⟨h1,h2,h3⟩ h4 h5 s hs
    have:=h3.le
    rcases List.mem_cons.1 hs with rfl | hs
    ·omega
    ·exact ih _ _ h3 (by omega) (by omega) s hs
  exact key p 0 0 ha (by omega) (by omega)
 refine FnOk.intro Tryz.func189 (by decide) Z Z Z Z ?_
 refine k2 (A3 (A7 Z Z (A7 Z Z (A5 ?_))));refine k1 (k2 (k2 (A3 (A4 Z Z (C4 (E52 m) Z Z Z ?_)))));rintro _ rfl;refine O6 Z Z (A4 Z Z (B2 Z Z Z Z (fun hg=>by rw [hg];exact B7 Z Z) ?_));refine B2 Z Z Z Z (fun hg=>by have hq:=hg;(try simp at hq);rw [hg];exact H2 (E52 n) Z Z) ?_;refine B2 Z Z Z Z (fun hg=>by rw [hg];exact B56 Z) ?_;refine J4 Z Z ?_;refine A5 ?_;refine k1 ?_;refine B3 rfl (fun ht=>?_) (fun ht=>?_)
 ·exfalso
  simp only [←decide_not,or_pick] at ht
  have h:¬O2 m∨¬O2 n:=A0 ht
  rcases h with h | h
  ·exact h ⟨hm1,hm2⟩
  ·exact h ⟨hn1,hn2⟩
 refine M9 [(0,C3 Span 2 spanC p),(1,B9 m),(2,B9 n)] [] (J69 ⟨le1 rfl,le1 rfl,le1 rfl,trivial⟩ trivial) ?_
 refine k5 (k1 (k2 (A3 (A6 (H1 Z) Z (C1 (I3 8 Z) Z (F8 (B8 TySz.out Z Z Z Z Z Z) (A5 ?_)))))));refine k1 (k2 (k2 (A3 (A4 Z Z (E7 Z Z (A4 Z Z (A5 ?_)))))));refine k1 (k3 ?_)
 obtain ⟨lastOf,hlast⟩:∃lastOf:Nat→Span,lastOf=fun k=>if k=0 then ⟨-1,-1⟩ else p.getD (k - 1) ⟨0,0⟩:=⟨_,rfl⟩
 refine D6 (X:=Nat) (fun k=>([(0,C3 Span 2 spanC p),(1,B9 m),(2,B9 n),(8,.s (.one (.ref 8 0))),(20,C3 Span 2 spanC p),(21,B9 p.length),(22,B9 k)],[(8,.box [.p (.v (.int .i64 (lastOf k).From)),.p (.v (.int .i64 (lastOf k).To))])])) (fun k=>k≤p.length) (fun k=>p.length - k) 0 (Nat.zero_le _) ?_ ?_
 ·rw [show lastOf 0=⟨-1,-1⟩ by rw [hlast];rfl]
  exact J69 ⟨le1 rfl,le1 rfl,le1 rfl,le1 rfl,le1 rfl,le1 rfl,le1 rfl,trivial⟩ ⟨rfl,trivial⟩
 intro k hk
 dsimp only at hk ⊢
 refine k2 (A3 (E4 Z Z Z (A5 ?_)));refine k1 (k2 ?_);refine B3 rfl (fun ht=>?_) (fun ht=>?_)
 ·have hlt:k < p.length:=by have:=A0 ht;omega
  have hv:p[k]?=some p[k]:=by simp [hlt]
  obtain ⟨g1,g2,g3,g4⟩:=hst k hlt
  have hnext:lastOf (k+1)=p[k]:=by rw [hlast];simp [hlt]
  have hless:(lastOf k).From < p[k].From∧(lastOf k).To < p[k].To:=by
   rw [hlast]
   by_cases h0:k=0
   ·have:=g1 h0
    simp only [h0,if_true] at this ⊢
    omega
   ·have:=g2 (by omega)
    simp only [h0,if_false]
    have e:p.getD (k - 1) ⟨0,0⟩=p[k - 1]:=by simp [show k - 1 < p.length by omega]
    rw [e];exact this
  obtain ⟨c,hc⟩:∃c,c=p[k]:=⟨_,rfl⟩
  rw [←hc] at hv g3 g4 hnext hless
  obtain ⟨la,hla⟩:∃la,la=lastOf k:=⟨_,rfl⟩
  rw [←hla] at hless ⊢
  refine k5 (k1 (k2 (k3 (k2 (A3 (A6 (B0 Z (.pure _ _ _ _) Z (by omega) hv) Z (A6 (G3 Z Z) Z (C1 (I3 10 Z) Z (F8 (B8 TySz.out Z Z Z Z Z Z) (A5 ?_))))))))));refine k1 (k2 (k2 (A3 (A6 (A8 Z) Z (E1 Z Z Z Z (A6 (A8 Z) Z (E1 Z Z Z Z (A6 (j6 Z Z) Z (A4 Z Z (B2 Z Z Z Z (fun hg=>by rw [hg];exact A8 Z) ?_))))))))));refine B2 Z Z Z Z (fun hg=>by rw [hg];exact B5 Z Z Z) ?_;refine B2 Z Z Z Z (fun hg=>by rw [hg];exact B7 Z Z) ?_;refine B2 Z Z Z Z (fun hg=>by rw [hg];exact A58 Z Z) ?_;refine J4 Z Z ?_;refine A4 Z Z (B2 Z Z Z Z (fun hg=>by rw [hg];exact A8 Z) ?_);refine B2 Z Z Z Z (fun hg=>by rw [hg];exact B5 Z Z Z) ?_;refine B2 Z Z Z Z (fun hg=>by rw [hg];exact A8 Z) ?_;refine B2 Z Z Z Z (fun hg=>by rw [hg];exact B5 Z Z Z) ?_;refine B2 Z Z Z Z (fun hg=>by rw [hg];exact j6 Z Z) ?_;refine J4 Z Z ?_;refine A4 Z Z (B2 Z Z Z Z (fun hg=>by rw [hg];exact A8 Z) ?_);refine B2 Z Z Z Z (fun hg=>by rw [hg];exact B5 Z Z Z) ?_;refine B2 Z Z Z Z (fun hg=>by rw [hg];exact B7 Z Z) ?_;refine B2 Z Z Z Z (fun hg=>by rw [hg];exact A58 Z Z) ?_;refine J4 Z Z ?_;refine A5 ?_;refine k1 ?_;refine B3 rfl (fun ht=>?_) (fun ht=>?_)
  ·exfalso
   simp only [or_pick] at ht
   have:=A0 ht
   omega
  ·refine k5 (k1 (A3 (A6 (C5 Z Z Z) Z (F8 (B8 TySz.out Z Z Z Z Z Z) (A5 ?_)))));refine k4 (k1 (A3 (C6 Z Z Z (A4 Z Z (A5 ?_)))));refine k1 ?_;refine ⟨k+1,by omega,by omega,?_⟩
   rw [hnext]
   exact J69 ⟨le1 rfl,le1 rfl,le1 rfl,le1 rfl,le1 rfl,le1 rfl,le1 rfl,trivial⟩ ⟨rfl,trivial⟩
 ·refine k6 (k2 (A3 (A4 Z Z (A4 Z Z (A4 Z Z (C4 (F25 p m n hp (by omega) (by omega) (fun s hs=>by have:=hb s hs;omega)) Z Z Z ?_))))));rintro _ rfl;refine A7 Z Z (A7 Z Z (A5 ?_));refine k1 (k10 ?_)
  exact B6 (s6 rfl rfl rfl rfl rfl) rfl
theorem C96 {l:List Int} {i:Nat} (h:i < l.length):l[i]?=some (l.getD i 0):=by simp [h]
theorem G93 (a b:List Int):FnOk Tryz.prog 188 [P0 a,P0 b] (fun rs=>rs=[M3 (decide ((a.length:Int)≤4096∧(b.length:Int)≤4096))]):=by
 refine FnOk.intro Tryz.func188 (by decide) Z Z Z Z ?_
 refine k2 (A3 (A7 Z Z (A5 ?_)));refine k1 (k2 (A3 (A4 Z Z (E7 Z Z (A6 (j6 Z Z) Z (A4 Z Z (B2 Z Z Z Z (fun hg=>by rw [hg];exact B7 Z Z) ?_)))))));refine B2 Z Z Z Z (fun hg=>by rw [hg];exact V3 Z (.pure _ _ _ _)) ?_;refine B2 Z Z Z Z (fun hg=>by rw [hg];exact j6 Z Z) ?_;refine J4 Z Z ?_;refine A7 Z Z (A5 ?_);refine k1 (k10 ?_)
 exact B6 (G6 rfl rfl rfl) (by simp only [R7])
theorem F27 (a b:List Int) (ha:a.length≤1073741824):FnOk Tryz.prog 234 [P0 a,P0 b] (fun rs=>rs=[H3 (X8 a b)]):=by
 refine FnOk.intro Tryz.func234 (by decide) Z Z Z Z ?_
 refine k2 (A3 (A7 Z Z (A5 ?_)));refine k1 (k2 (A3 (A7 Z Z (A5 ?_))));refine k1 (k2 (k3 (D6 (X:=Nat) (fun k=>([(0,C3 Int 1 F7 a),(1,C3 Int 1 F7 b),(5,B9 k)],[])) (fun k=>k≤a.length∧k≤b.length∧X8 a b=k+X8 (a.drop k) (b.drop k)) (fun k=>a.length - k) 0 ⟨Nat.zero_le _,Nat.zero_le _,by simp⟩ (J69 ⟨le1 rfl,le1 rfl,le1 rfl,trivial⟩ trivial) ?_)))
 rintro k ⟨hk,hk2,he⟩
 dsimp only at hk hk2 he ⊢
 refine k2 (k2 (C9 (by kernel_rfl) (by kernel_rfl) (C8 Z Z (C8 Z Z (A9 (V3 Z (.pure _ _ _ _)) Z Z (A9 (A05 Z Z) Z Z (C8 Z Z (C0 Z Z (fun hg=>by rw [hg];exact B7 Z Z) Z Z ?_))))))));refine C0 Z Z (fun hg=>by rw [hg];exact B7 Z Z) Z Z ?_;refine C0 Z Z (fun hg=>by rw [hg];exact V3 Z (.pure _ _ _ _)) Z Z ?_;refine C0 Z Z (fun hg=>by rw [hg];exact A05 Z Z) Z Z ?_;refine A9 (F6 Z (fun h=>by first | rfl | (rw [h];rfl)) (fun h=>by first | rfl | (rw [h];rfl))) Z Z ?_;refine C8 Z Z (C0 Z Z (fun hg=>by rw [hg];exact B7 Z Z) Z Z ?_);refine C0 Z Z (fun hg=>by rw [hg];exact B7 Z Z) Z Z ?_;refine C0 Z Z (fun hg=>by have hq:=hg;(try simp at hq);rw [hg];exact B0 Z (.pure _ _ _ _) Z (by omega) (C96 (by omega))) Z Z ?_;refine C0 Z Z (fun hg=>by rw [hg];exact B1 Z Z) Z Z ?_;refine C0 Z Z (fun hg=>by rw [hg];exact B7 Z Z) Z Z ?_;refine C0 Z Z (fun hg=>by rw [hg];exact B7 Z Z) Z Z ?_;refine C0 Z Z (fun hg=>by have hq:=hg;(try simp at hq);rw [hg];exact B0 Z (.pure _ _ _ _) Z (by omega) (C96 (by omega))) Z Z ?_;refine C0 Z Z (fun hg=>by rw [hg];exact B1 Z Z) Z Z ?_;refine C0 Z Z (fun hg=>by rw [hg];exact K0 Z Z) Z Z ?_;refine A9 (F6 Z (fun h=>by first | rfl | (rw [h];rfl)) (fun h=>by first | rfl | (rw [h];rfl))) Z Z ?_;refine L6 ?_;refine k1 ?_;refine B3 rfl (fun ht=>?_) (fun ht=>?_)
 ·simp only [R7] at ht
  obtain ⟨⟨h1,h2⟩,h3⟩:=A0 ht
  have h1:k < a.length:=by omega
  have h2:k < b.length:=by omega
  rw [E82 a b k h1 h2,if_pos (by simpa [h1,h2] using h3)] at he
  refine k5 (k1 (k3 (A3 (A4 Z Z (C6 Z Z Z (A7 Z Z (A5 ?_)))))));refine k4 (k1 ?_)
  exact ⟨k+1,⟨by omega,by omega,by omega⟩,by omega,J69 ⟨le1 rfl,le1 rfl,le1 rfl,trivial⟩ trivial⟩
 ·simp only [R7] at ht
  have h:=A1 ht
  have h0:X8 (a.drop k) (b.drop k)=0:=by
   by_cases hc:k < a.length∧k < b.length
   ·obtain ⟨h1,h2⟩:=hc
    rw [E82 a b k h1 h2,if_neg]
    intro h3
    exact h ⟨⟨by omega,by omega⟩,by simpa [h1,h2] using h3⟩
   ·exact J13 a b k hc
  rw [h0] at he
  refine k6 (k2 (A3 (A4 Z Z (A7 Z Z (A5 ?_)))));refine k1 (k10 ?_)
  exact B6 (G6 rfl rfl rfl) (by rw [he];rfl)
theorem F28 (a b:List Int) (ha:a.length≤4096) (hb:b.length≤4096):FnOk Tryz.prog 235 [P0 a,P0 b] (fun rs=>rs=[pU16s (flat a b (fun _ _=>true))]):=by
 obtain ⟨W,hW⟩:∃W,W=b.length+1:=⟨_,rfl⟩
 have hmul:∀i:Nat,i≤a.length+1→0≤(i:Int)*(W:Int)∧(i:Int)*(W:Int)≤16789506:=by
  intro i hi
  have h1:i*W≤4098*4097:=Nat.mul_le_mul (by omega) (by omega)
  have h2:((i*W:Nat):Int)=(i:Int)*W:=by push_cast;rfl
  omega
 have hcast:∀i:Nat,(i:Int)*(W:Int)=((i*W:Nat):Int):=fun i=>by push_cast;rfl
 have hlen:∀done,(flat a b done).length=(a.length+1)*W:=fun done=>by rw [D83,hW]
 have hdl:∀i j,dist (a.drop i) (b.drop j)≤8192:=fun i j=>by
  have:=C22 (a.drop i) (b.drop j)
  simp only [K23] at this
  omega
 have hin:∀i j:Nat,i≤a.length→j≤b.length→i*W+j < (a.length+1)*W:=fun i j hi hj=>by rw [hW];exact (E13 hi hj).1
 refine FnOk.intro Tryz.func235 (by decide) Z Z Z Z ?_
 refine k2 (A3 (A7 Z Z (A5 ?_)));refine k1 (k2 (A3 (A4 Z Z (E7 Z Z (C6 Z Z Z (A7 Z Z (A5 ?_)))))));refine L0 ?_
 refine M9 [(0,C3 Int 1 F7 a),(1,C3 Int 1 F7 b),(5,B9 W)] [] (J69 ⟨⟨_,rfl,.same _⟩,⟨_,rfl,.same _⟩,⟨_,rfl,.eq (by rw [hW];simp)⟩,trivial⟩ trivial) ?_
 have hm1:=hmul (a.length+1) (Nat.le_refl _)
 have e1:((a.length:Int)+1)=((a.length+1:Nat):Int):=by omega
 refine k2 (A3 (A4 Z Z (E7 Z Z (C6 Z Z Z (A4 Z Z (A6 (C70 Z Z (by (rw [e1];omega))) Z ?_))))));refine C1 (Y0 20 Int C63 0 Z Z (by (rw [e1];omega)) (by (rw [e1];omega)) (fun _=>by first | exact ⟨⟨rfl,rfl⟩,trivial⟩ | exact ⟨P6 _ _ _,trivial⟩) Z) Z ?_;refine A7 Z Z (A5 ?_);refine L0 ?_
 refine M9 [(0,C3 Int 1 F7 a),(1,C3 Int 1 F7 b),(5,B9 W),(6,.s (.one (.mut 20)))] [(20,.arr Int 1 C63 (flat a b (fun _ _=>false)))] ?_ ?_
 ·refine J69 ⟨⟨_,rfl,.same _⟩,⟨_,rfl,.same _⟩,⟨_,rfl,.same _⟩,⟨_,rfl,.same _⟩,trivial⟩ ⟨?_,trivial⟩
  rw [←J12,e1,hcast,K12,hW];rfl
 refine k2 (k2 (A3 (A4 Z Z (E7 Z Z (A4 Z Z (A5 ?_))))));refine k1 (k3 ?_);refine D6 (X:=Nat) (fun j=>([(0,C3 Int 1 F7 a),(1,C3 Int 1 F7 b),(5,B9 W),(6,.s (.one (.mut 20))),(22,B9 b.length),(23,B9 j)],[(20,.arr Int 1 C63 (flat a b (fun r q=>decide (r=a.length∧q < j))))])) (fun j=>j≤b.length) (fun j=>b.length - j) 0 (Nat.zero_le _) ?_ ?_
 ·rw [show flat a b (fun r q=>decide (r=a.length∧q < 0))=flat a b (fun _ _=>false) from B45 fun r q _ _=>.inl (by simp)]
  exact J69 ⟨le1 rfl,le1 rfl,le1 rfl,le1 rfl,le1 rfl,le1 rfl,trivial⟩ ⟨rfl,trivial⟩
 intro j hj
 dsimp only at hj ⊢
 refine k2 (A3 (E4 Z Z Z (A5 ?_)));refine k1 (k2 ?_);refine B3 rfl (fun ht=>?_) (fun ht=>?_)
 ·have hlt:j < b.length:=by have:=A0 ht;omega
  have hmm:=hmul a.length (by omega)
  have hix:=hin a.length j (Nat.le_refl _) (by omega)
  have hc1:=hcast a.length
  have hL:=hlen (fun r q=>decide (r=a.length∧q < j))
  have hst:(flat a b (fun r q=>decide (r=a.length∧q < j))).set (((a.length:Int)*(W:Int)+(j:Int)).toNat) (IntKind.u16.wrap ((b.length:Int) - j))=flat a b (fun r q=>decide (r=a.length∧q < j+1)):=by
   rw [show ((a.length:Int)*(W:Int)+(j:Int)).toNat=a.length*(b.length+1)+j by rw [hc1,hW];omega,I01 _ (by omega)]
   refine H25 (Nat.le_refl _) (by omega) ?_ (by simp) (fun r q hr hq hne=>?_)
   ·rw [K15 (Nat.le_refl a.length),dist,K23];omega
   ·rw [decide_eq_decide];omega
  refine k5 (k1 (k2 (k3 (k2 (A3 (A4 Z Z (A7 Z Z (A5 ?_))))))));refine k1 (A3 (A4 Z Z (A4 Z Z (E7 Z Z (A4 Z Z (A6 (C70 Z Z (by omega)) Z (A4 Z Z (C6 Z Z Z (A4 Z Z (E7 Z Z (A4 Z Z (A6 (U0 Z Z (by omega)) Z (A6 (N6 Z) Z (A6 (E3 Z Z Z (by omega) (by (rw [hL];omega))) Z ?_))))))))))))));refine F8 (I2 TySz.out Z Z (by (rw [hL];omega)) Z Z) ?_;refine A5 ?_;refine k4 (k1 (A3 (C6 Z Z Z (A4 Z Z (A5 ?_)))));refine k1 ?_;refine ⟨j+1,by omega,by omega,?_⟩
  rw [←hst]
  exact J69 ⟨le1 rfl,le1 rfl,le1 rfl,le1 rfl,le1 rfl,le1 rfl,trivial⟩ ⟨rfl,trivial⟩
 ·have hj':j=b.length:=by have:=A1 ht;omega
  subst hj'
  rw [show flat a b (fun r q=>decide (r=a.length∧q < b.length))=flat a b (fun r _=>decide (a.length≤r)) from B45 fun r q hr hq=>by
   by_cases h:r=a.length∧q=b.length
   ·right;rw [h.1,h.2,K15 (Nat.le_refl _),K15 (Nat.le_refl _)];exact A49 []
   ·left;rw [decide_eq_decide];omega]
  refine k6 (k2 (k2 (A3 (A4 Z Z (E7 Z Z (A6 (U0 Z Z (by omega)) Z (A7 Z Z (A5 ?_))))))));refine k1 (k3 (D6 (X:=Nat) (fun i=>([(0,C3 Int 1 F7 a),(1,C3 Int 1 F7 b),(5,B9 W),(6,.s (.one (.mut 20))),(8,B9 ((i:Int) - 1))],[(20,.arr Int 1 C63 (flat a b (fun r _=>decide (i≤r))))])) (fun i=>i≤a.length) (fun i=>i) a.length (Nat.le_refl _) (J69 ⟨le1 rfl,le1 rfl,le1 rfl,le1 rfl,le1 rfl,trivial⟩ ⟨rfl,trivial⟩) ?_))
  intro i hi
  dsimp only at hi ⊢
  refine k2 (k2 (A3 (A4 Z Z (A6 (A58 Z Z) Z (A5 ?_)))));refine k1 ?_;refine B3 rfl (fun ht=>?_) (fun ht=>?_)
  ·obtain ⟨i,rfl⟩:∃r,i=r+1:=⟨i - 1,by have:=A0 ht;omega⟩
   refine M9 [(0,C3 Int 1 F7 a),(1,C3 Int 1 F7 b),(5,B9 W),(6,.s (.one (.mut 20))),(8,B9 i)] [(20,.arr Int 1 C63 (flat a b (fun r _=>decide (i+1≤r))))] (J69 ⟨le1 rfl,le1 rfl,le1 rfl,le1 rfl,leE Z (by first | (simp;done) | (simp;omega)),trivial⟩ ⟨rfl,trivial⟩) ?_
   obtain ⟨P,hP⟩:∃P,P=i*W:=⟨_,rfl⟩
   obtain ⟨N,hN⟩:∃N,N=(a.length+1)*W:=⟨_,rfl⟩
   have c0:(i:Int)*(W:Int)=(P:Int):=by rw [hP];exact hcast i
   have c1:((i:Int)+1)*(W:Int)=(P:Int)+W:=by rw [Int.add_mul,Int.one_mul,c0]
   have c2:((i:Int)+2)*(W:Int)=(P:Int)+W+W:=by rw [Int.add_mul,c0];omega
   have hPN:P+W+W≤N:=by
    have h1:(i+2)*W≤(a.length+1)*W:=K21 _ (by omega)
    have h2:(i+2)*W=i*W+W+W:=by rw [K32];omega
    omega
   have hN2:N≤16789506:=by have:=hmul (a.length+1) (Nat.le_refl _);have:=hcast (a.length+1);omega
   have hL:∀done,(flat a b done).length=N:=fun done=>by rw [hlen,hN]
   refine k5 (k1 (k2 (k3 (k2 (C9 (by kernel_rfl) (by kernel_rfl) (C8 Z Z (C8 Z Z (C8 Z Z (A9 (C70 Z Z (by (rw [c0];omega))) Z Z ?_)))))))));refine C8 Z Z (A9 (V2 Z Z (by omega)) Z Z (C8 Z Z (A9 (C70 Z Z (by (rw [c1];omega))) Z Z ?_)));refine A9 (B77 Z Z Z Z (by (first | (rw [c0];omega) | (rw [c0,c1];omega) | (rw [c1,hL];omega))) (by (first | (rw [c0];omega) | (rw [c0,c1];omega) | (rw [c1,hL];omega))) (by (first | (rw [c0];omega) | (rw [c0,c1];omega) | (rw [c1,hL];omega)))) Z Z ?_;refine C8 Z Z (C8 Z Z (A9 (V2 Z Z (by omega)) Z Z (C8 Z Z (A9 (C70 Z Z (by (rw [c1];omega))) Z Z ?_))));refine C8 Z Z (A9 (V2 Z Z (by omega)) Z Z (C8 Z Z (A9 (C70 Z Z (by (rw [c2];omega))) Z Z ?_)));refine A9 (B77 Z Z Z Z (by (first | (rw [c1];omega) | (rw [c1,c2];omega) | (rw [c2,hL];omega))) (by (first | (rw [c1];omega) | (rw [c1,c2];omega) | (rw [c2,hL];omega))) (by (first | (rw [c1];omega) | (rw [c1,c2];omega) | (rw [c2,hL];omega)))) Z Z ?_;refine A9 (J6 Z Z) Z Z (A9 (J6 Z Z) Z Z (L6 ?_));refine L0 ?_
   have hdone:∀j,j≤b.length→(flat a b (fun r q=>decide (i+1≤r∨(r=i∧j≤q))))[P+j]?=some (dist (a.drop i) (b.drop j):Int):=fun j hj=>by
    rw [hP,hW,E81 (by omega) hj,if_pos (by simp)]
   have hbelow:∀j j',j≤b.length→(flat a b (fun r q=>decide (i+1≤r∨(r=i∧j'≤q))))[P+W+j]?=some (dist (a.drop (i+1)) (b.drop j):Int):=fun j j' hj=>by
    rw [show P+W+j=(i+1)*(b.length+1)+j by rw [hP,hW,K32];omega,E81 (by omega) hj,if_pos (by simp)]
   refine M9 [(0,C3 Int 1 F7 a),(1,C3 Int 1 F7 b),(5,B9 W),(6,.s (.one (.mut 20))),(8,B9 i),(9,.s (.one (.msl 20 1 P W))),(10,.s (.one (.msl 20 1 (P+W) W)))] [(20,.arr Int 1 C63 (flat a b (fun r _=>decide (i+1≤r))))] ?_ ?_
   ·refine J69 ⟨⟨_,rfl,.same _⟩,⟨_,rfl,.same _⟩,⟨_,rfl,.same _⟩,⟨_,rfl,.same _⟩,⟨_,rfl,.same _⟩,⟨_,rfl,.eq ?_⟩,⟨_,rfl,.eq ?_⟩,trivial⟩ ⟨rfl,trivial⟩
    ·rw [c0,c1];congr 3<;>omega
    ·rw [c1,c2];congr 3<;>omega
   have hset:∀(done done':Nat→Nat→Bool) (j:Nat) (v:Int),j≤b.length→v=(dist (a.drop i) (b.drop j):Int)→done' i j=true→(∀r q,r≤a.length→q≤b.length→¬(r=i∧q=j)→done' r q=done r q)→(flat a b done).set (P+j) v=flat a b done':=by
    intro done done' j v hj hv h1 h2
    rw [hP,hW];exact H25 (by omega) hj hv h1 h2
   have hs0:(flat a b (fun r _=>decide (i+1≤r))).set (P+((b.length:Nat):Int).toNat) (IntKind.u16.wrap ((a.length:Int) - i))=flat a b (fun r q=>decide (i+1≤r∨(r=i∧b.length≤q))):=by
    rw [K12,I01 _ (by omega)]
    refine hset _ _ _ _ (Nat.le_refl _) ?_ (by simp) (fun r q hr hq hne=>?_)
    ·rw [K15 (Nat.le_refl b.length),A49,K23];omega
    ·rw [decide_eq_decide];omega
   refine k2 (A3 (A4 Z Z (A4 Z Z (E7 Z Z (A4 Z Z (E7 Z Z (A4 Z Z (A6 (U0 Z Z (by omega)) Z (A6 (N6 Z) Z (A6 (V8 Z Z (by omega) (by omega)) Z (F8 (I2 TySz.out Z Z (by (rw [hL];omega)) Z Z) ?_)))))))))));refine A5 ?_
   rw [hs0]
   refine k1 (k2 (A3 (A4 Z Z (E7 Z Z (A6 (U0 Z Z (by omega)) Z (A7 Z Z (A5 ?_)))))));refine k1 (k3 (D6 (X:=Nat) (fun j=>([(0,C3 Int 1 F7 a),(1,C3 Int 1 F7 b),(5,B9 W),(6,.s (.one (.mut 20))),(8,B9 i),(9,.s (.one (.msl 20 1 P W))),(10,.s (.one (.msl 20 1 (P+W) W))),(11,B9 ((j:Int) - 1))],[(20,.arr Int 1 C63 (flat a b (fun r q=>decide (i+1≤r∨(r=i∧j≤q)))))])) (fun j=>j≤b.length) (fun j=>j) b.length (Nat.le_refl _) (J69 ⟨le1 rfl,le1 rfl,le1 rfl,le1 rfl,le1 rfl,le1 rfl,le1 rfl,le1 rfl,trivial⟩ ⟨rfl,trivial⟩) ?_))
   intro j hj
   dsimp only at hj ⊢
   refine k2 (k2 (A3 (A4 Z Z (A6 (A58 Z Z) Z (A5 ?_)))));refine k1 ?_;refine B3 rfl (fun ht=>?_) (fun ht=>?_)
   ·obtain ⟨j,rfl⟩:∃r,j=r+1:=⟨j - 1,by have:=A0 ht;omega⟩
    have hva:a[i]?=some a[i]:=by simp [show i < a.length by omega]
    have hvb:b[j]?=some b[j]:=by simp [show j < b.length by omega]
    have hdd:=F77 a b i j (by omega) (by omega)
    have hd1:=hdl i j
    have hd2:=hdl (i+1) j
    have hd3:=hdl i (j+1)
    have hd4:=hdl (i+1) (j+1)
    obtain ⟨u,hu⟩:∃u,u=a[i]:=⟨_,rfl⟩
    obtain ⟨v,hv⟩:∃v,v=b[j]:=⟨_,rfl⟩
    rw [←hu] at hva hdd
    rw [←hv] at hvb hdd
    have hst:(flat a b (fun r q=>decide (i+1≤r∨(r=i∧j+1≤q)))).set (P+j) (dist (a.drop i) (b.drop j):Int)=flat a b (fun r q=>decide (i+1≤r∨(r=i∧j≤q))):=hset _ _ _ _ (by omega) rfl (by simp) (fun r q hr hq hne=>by rw [decide_eq_decide];omega)
    refine M9 [(0,C3 Int 1 F7 a),(1,C3 Int 1 F7 b),(5,B9 W),(6,.s (.one (.mut 20))),(8,B9 i),(9,.s (.one (.msl 20 1 P W))),(10,.s (.one (.msl 20 1 (P+W) W))),(11,B9 j)] [(20,.arr Int 1 C63 (flat a b (fun r q=>decide (i+1≤r∨(r=i∧j+1≤q)))))] (J69 ⟨le1 rfl,le1 rfl,le1 rfl,le1 rfl,le1 rfl,le1 rfl,le1 rfl,leE Z (by first | (simp;done) | (simp;omega)),trivial⟩ ⟨rfl,trivial⟩) ?_
    refine G05 ?_
    refine L0 ?_
    refine A21 [(0,C3 Int 1 F7 a),(1,C3 Int 1 F7 b),(5,B9 W),(6,.s (.one (.mut 20))),(8,B9 i),(9,.s (.one (.msl 20 1 P W))),(10,.s (.one (.msl 20 1 (P+W) W))),(11,B9 j)] [(20,.arr Int 1 C63 (flat a b (fun r q=>decide (i+1≤r∨(r=i∧j≤q)))))] ?_ ?_
    ·refine k3 (k2 (C9 (by kernel_rfl) (by kernel_rfl) (C8 Z Z (C8 Z Z (A9 (B0 Z (.pure _ _ _ _) Z (by omega) hva) Z Z (A9 (B1 Z Z) Z Z (C8 Z Z (C8 Z Z (A9 (B0 Z (.pure _ _ _ _) Z (by omega) hvb) Z Z (A9 (B1 Z Z) Z Z (A9 (K0 Z Z) Z Z (L6 ?_))))))))))));refine k1 ?_;refine B3 rfl (fun ht=>?_) (fun ht=>?_)
     ·rw [if_pos (A0 ht)] at hdd
      rw [hdd] at hst
      have hg:=hbelow (j+1) (j+1) (by omega)
      have hgi:(flat a b (fun r q=>decide (i+1≤r∨(r=i∧j+1≤q))))[P+W+((j:Int)+1).toNat]?=some (dist (a.drop (i+1)) (b.drop (j+1)):Int):=by rw [show ((j:Int)+1).toNat=j+1 by omega];exact hg
      skip
      refine A3 (A4 Z Z (A4 Z Z (A4 Z Z (A4 Z Z (C6 Z Z Z (A6 (V8 Z Z (by omega) (by omega)) Z (A6 (O1 Z Z hgi Z) Z (A6 (V8 Z Z (by omega) (by omega)) Z (F8 (I2 TySz.out Z Z (by (rw [hL];omega)) Z Z) ?_)))))))));refine A5 ?_;refine k4 (k1 ?_)
      rw [show P+((j:Nat):Int).toNat=P+j by omega,hst]
      exact J69 ⟨le1 rfl,le1 rfl,le1 rfl,le1 rfl,le1 rfl,le1 rfl,le1 rfl,le1 rfl,trivial⟩ ⟨rfl,trivial⟩
     ·rw [if_neg (A1 ht)] at hdd
      have hg1:=hbelow j (j+1) (by omega)
      have hg2:=hdone (j+1) (by omega)
      have hgi1:(flat a b (fun r q=>decide (i+1≤r∨(r=i∧j+1≤q))))[P+W+((j:Nat):Int).toNat]?=some (dist (a.drop (i+1)) (b.drop j):Int):=by rw [K12];exact hg1
      have hgi2:(flat a b (fun r q=>decide (i+1≤r∨(r=i∧j+1≤q))))[P+((j:Int)+1).toNat]?=some (dist (a.drop i) (b.drop (j+1)):Int):=by rw [show ((j:Int)+1).toNat=j+1 by omega];exact hg2
      have hval:IntKind.u16.wrap ((if (dist (a.drop i) (b.drop (j+1)):Int) < (dist (a.drop (i+1)) (b.drop j):Int) then (dist (a.drop i) (b.drop (j+1)):Int) else (dist (a.drop (i+1)) (b.drop j):Int))+1)=(dist (a.drop i) (b.drop j):Int):=by
       rw [I01 _ (by split<;>omega),hdd];split<;>omega
      skip
      refine C9 (by kernel_rfl) (by kernel_rfl) (C8 Z Z (C8 Z Z (C8 Z Z (C8 Z Z (A9 (V8 Z Z (by omega) (by omega)) Z Z (A9 (O1 Z Z hgi1 Z) Z Z (C8 Z Z (C8 Z Z (A9 (V2 Z Z (by omega)) Z Z (A9 (V8 Z Z (by omega) (by omega)) Z Z (A9 (O1 Z Z hgi2 Z) Z Z (A9 (n_min Z Z) Z Z (A9 (A57 Z Z) Z Z (A9 (V8 Z Z (by omega) (by omega)) Z Z (s7 (I2 TySz.out Z Z (by (rw [hL];omega)) Z Z) Z ?_)))))))))))))));refine L6 ?_;refine k4 (k1 ?_)
      rw [hval,show P+((j:Nat):Int).toNat=P+j by omega,hst]
      exact J69 ⟨le1 rfl,le1 rfl,le1 rfl,le1 rfl,le1 rfl,le1 rfl,le1 rfl,le1 rfl,trivial⟩ ⟨rfl,trivial⟩
    ·skip
     refine A3 (A4 Z Z (A6 (U0 Z Z (by omega)) Z (A7 Z Z (A5 ?_))));refine k1 ?_
     exact ⟨j,by omega,by omega,J69 ⟨le1 rfl,le1 rfl,le1 rfl,le1 rfl,le1 rfl,le1 rfl,le1 rfl,le1 rfl,trivial⟩ ⟨rfl,trivial⟩⟩
   ·obtain rfl:j=0:=by have:=A1 ht;omega
    rw [show flat a b (fun r q=>decide (i+1≤r∨(r=i∧0≤q)))=flat a b (fun r _=>decide (i≤r)) from B45 fun r q _ _=>.inl (by rw [decide_eq_decide];omega)]
    refine k6 (k7 (k7 (k8 Z (k4 (k1 (A3 (A4 Z Z (A6 (U0 Z Z (by omega)) Z (A7 Z Z (A5 ?_))))))))));refine k1 ?_
    exact ⟨i,by omega,by omega,J69 ⟨le1 rfl,le1 rfl,le1 rfl,le1 rfl,le1 rfl,trivial⟩ ⟨rfl,trivial⟩⟩
  ·obtain rfl:i=0:=by have:=A1 ht;omega
   rw [show flat a b (fun r _=>decide (0≤r))=flat a b (fun _ _=>true) from B45 fun r q _ _=>.inl (by simp)]
   refine G5 (Sees.freeze (k:=20) Z) ?_
   refine k6 (k2 (A3 (A4 Z Z (A7 Z Z (A5 ?_)))));refine k1 (k10 ?_)
   exact B6 (G6 rfl rfl rfl) rfl
theorem i64_id {n:Int} (h:-9223372036854775808≤n∧n≤9223372036854775807):IntKind.i64.wrap n=n:=IntWalk.i64_in _ h
theorem I38 {gf:Fr} {ob:Obs} (a b:List Int) (i j:Nat) (ha:a.length≤4096) (hb:b.length≤4096) (hi:i≤a.length) (hj:j≤b.length) (h8:C7 ob 8=some (.box [.p (.list Int 1 C63 (flat a b (fun _ _=>true)))])) (h3:C7 ob 3=some (.box [.p (.list Int 1 F7 b)])) :
  AL.Met Tryz.prog 236 [.one (.p (.v (.int .i64 i))),.one (.p (.v (.int .i64 j))),.one (.ref 8 0),.one (.ref 3 0)] gf ob [] (fun rs ob'=>rs=[.one (.p (.v (.int .i64 (dist (a.drop i) (b.drop j):Int))))]∧ob'=ob):=by
 have hg:=E81 (a:=a) (b:=b) (done:=fun _ _=>true) hi hj
 rw [if_pos rfl] at hg
 have hin:=(E13 (a:=a) (b:=b) hi hj).1
 have hL:=D83 a b (fun _ _=>true)
 have e1:(i:Int)*((b.length:Int)+1)=((i*(b.length+1):Nat):Int):=by push_cast;rfl
 have hbd:i*(b.length+1)≤4096*4097:=Nat.mul_le_mul (by omega) (by omega)
 have hbd2:(a.length+1)*(b.length+1)≤4097*4097:=Nat.mul_le_mul (by omega) (by omega)
 have hgi:(flat a b (fun _ _=>true))[((i:Int)*((b.length:Int)+1)+j).toNat]?=some (dist (a.drop i) (b.drop j):Int):=by
  rw [e1,show (((i*(b.length+1):Nat):Int)+j).toNat=i*(b.length+1)+j by omega];exact hg
 have hd:=C22 (a.drop i) (b.drop j)
 simp only [K23] at hd
 refine AL.Met.intro Tryz.func236 (by decide) Z Z Z ?_
 refine k2 (A3 (A7 Z Z (A5 ?_)));refine k1 (k2 (A3 (A6 (B5 Z h8 Z) Z (A4 Z Z (A6 (B5 Z h3 Z) Z (E7 Z Z (C6 Z Z Z (A6 (C70 Z Z (by (rw [e1];omega))) Z ?_))))))));refine A4 Z Z (A6 (V2 Z Z (by (rw [e1];omega))) Z ?_);refine A6 (B0 Z (.pure _ _ _ _) Z (by omega) hgi) Z (A6 (B1 Z Z) Z (A6 (N6 Z) Z (A7 Z Z (A5 ?_))))
 rw [i64_id (by omega)]
 refine k1 (k10 ?_)
 exact l8 (C81 rfl rfl) (by repeat (first | exact I9 | refine J0 rfl ?_ | refine P2 _ ?_)) (fun _ _ h=>h) ⟨rfl,rfl⟩
theorem J38 (a b:List Int) (ha:a.length≤4096) (hb:b.length≤4096):FnOk Tryz.prog 190 [P0 a,P0 b] (fun rs=>rs=[pSpans (F9 0 0 a b)]):=by
 obtain ⟨n,hn⟩:∃n,n=X8 a b:=⟨_,rfl⟩
 have hnl:=H26 a b
 rw [←hn] at hnl
 have hbeg:=E83 a b 0 0
 rw [←hn] at hbeg
 refine FnOk.intro Tryz.func190 (by decide) Z Z Z Z ?_
 refine k2 (A3 (C1 (R4 3 Z Z Z) Z (A7 Z Z (A5 ?_))));refine k1 (k2 (A3 (C1 (V1 5 _ spanC Z) Z (A5 ?_))));refine k1 (k2 (A3 (A4 Z Z (E1 Z Z Z Z (C4 (F27 a b (by omega)) Z Z Z ?_)))));rintro _ rfl;refine A7 Z Z (A5 ?_)
 rw [←hn]
 refine k1 (k2 (k2 (A3 (A4 Z Z (A4 Z Z (A5 ?_))))));refine k1 (k3 (D6 (X:=Nat) (fun k=>([(0,C3 Int 1 F7 a),(3,.s (.one (.ref 3 0))),(5,.s (.one (.buf 5 Span 2 spanC (P7 0 0 k)))),(6,B9 n),(15,B9 n),(16,B9 k)],[(3,.box [.p (.list Int 1 F7 b)]),(5,.spare (P7 0 0 k).length 2 88)])) (fun k=>k≤n) (fun k=>n - k) 0 (Nat.zero_le _) (J69 ⟨le1 rfl,le1 rfl,le1 rfl,le1 rfl,le1 rfl,le1 rfl,trivial⟩ ⟨rfl,rfl,trivial⟩) ?_))
 intro k hk
 dsimp only at hk ⊢
 have hrl:=A48 0 0 k
 refine k2 (A3 (E4 Z Z Z (A5 ?_)));refine k1 (k2 ?_);refine B3 rfl (fun ht=>?_) (fun ht=>?_)
 ·have hlt:k < n:=by have:=A0 ht;omega
  have hsn:=B28 0 0 k
  refine k5 (k1 (k2 (k3 (k2 (A3 (A4 Z Z (A7 Z Z (A5 ?_))))))));refine k1 (A3 (A4 Z Z (A4 Z Z (A4 Z Z (A6 (H1 Z) Z (A6 (D5 (c:=spanC) (ys:=[⟨(k:Int),(k:Int)⟩]) (E0 Z Z Z Z F3) Z Z Z) Z (C1 (G4 Z Z Z (.pure _ _ _ _) (by (simp only [K08,K11];omega)) Z) Z (A7 Z Z (A5 ?_)))))))));refine k4 (k1 (A3 (C6 Z Z Z (A4 Z Z (A5 ?_)))));refine k1 ?_;refine ⟨k+1,by omega,by omega,?_⟩
  rw [hsn,show (0:Int)+(k:Int)=k by omega]
  exact J69 ⟨le1 rfl,le1 rfl,le1 rfl,le1 rfl,le1 rfl,le1 rfl,trivial⟩ ⟨rfl,rfl,trivial⟩
 have hk':k=n:=by have:=A1 ht;omega
 subst hk'
 obtain ⟨a',ha'⟩:∃a',a'=a.drop k:=⟨_,rfl⟩
 obtain ⟨b',hb'⟩:∃b',b'=b.drop k:=⟨_,rfl⟩
 have hal:a'.length≤4096:=by rw [ha',K23];omega
 have hbl:b'.length≤4096:=by rw [hb',K23];omega
 rw [Int.zero_add,←ha',←hb'] at hbeg
 refine k6 (k2 (C9 (by kernel_rfl) (by kernel_rfl) (C8 Z Z (C8 Z Z (A9 (C13 Z (.pure _ _ _ _) Z (by omega) (by omega)) Z Z (A9 (B5 Z Z Z) Z Z (C8 Z Z (A9 (C13 Z (.pure _ _ _ _) Z (by omega) (by omega)) Z Z (A9 (J6 Z Z) Z Z (s7 (B8 TySz.out Z Z Z Z Z Z) Z (L6 ?_)))))))))))
 rw [K12,←ha',←hb']
 refine k1 (k2 (A3 (A4 Z Z (E1 Z Z Z Z (C4 (F28 a' b' hal hbl) Z Z Z ?_)))));rintro _ rfl;refine C1 (I3 8 Z) Z (F8 (B8 TySz.out Z Z Z Z Z Z) (A5 ?_));refine k1 (k2 (A3 (A6 (C51 Z Z) Z (A7 Z Z (A5 ?_)))));refine k1 (k2 (k2 (A3 (A7 Z Z (A7 Z Z (A5 ?_))))));refine k1 (k3 (D6 (X:=Nat × Nat × List Span) (fun x=>([(0,C3 Int 1 F7 a'),(3,.s (.one (.ref 3 0))),(5,.s (.one (.buf 5 Span 2 spanC x.2.2))),(6,B9 k),(8,.s (.one (.ref 8 0))),(9,.s (.one (.clo 236 [] [(8,0),(3,0)]))),(10,B9 x.1),(11,B9 x.2.1)],[(3,.box [.p (.list Int 1 F7 b')]),(5,.spare x.2.2.length 2 88),(8,.box [.p (.list Int 1 C63 (flat a' b' (fun _ _=>true)))])])) (fun x=>x.1≤a'.length∧x.2.1≤b'.length∧x.2.2.length≤k+x.1∧F9 0 0 a b=x.2.2++F9 (k+x.1) (k+x.2.1) (a'.drop x.1) (b'.drop x.2.1)) (fun x=>(a'.length - x.1)+(b'.length - x.2.1)) (0,0,P7 0 0 k) ⟨Nat.zero_le _,Nat.zero_le _,by rw [hrl];exact Nat.le_refl _,by simpa using hbeg⟩ (J69 ⟨le1 rfl,le1 rfl,le1 rfl,le1 rfl,le1 rfl,le1 rfl,le1 rfl,le1 rfl,trivial⟩ ⟨rfl,rfl,rfl,trivial⟩) ?_))
 rintro ⟨i,j,out⟩ ⟨hi,hj,hol,he⟩
 dsimp only at hi hj hol he ⊢
 refine k2 (k2 (A3 (A4 Z Z (A4 Z Z (E7 Z Z (E4 Z Z Z (A4 Z Z (B2 Z Z Z Z (fun hg=>by rw [hg];exact B7 Z Z) ?_))))))));refine B2 Z Z Z Z (fun hg=>by rw [hg];exact B5 Z Z Z) ?_;refine B2 Z Z Z Z (fun hg=>by rw [hg];exact V3 Z (.pure _ _ _ _)) ?_;refine B2 Z Z Z Z (fun hg=>by rw [hg];exact A05 Z Z) ?_;refine J4 Z Z ?_;refine A5 ?_;refine k1 ?_;refine B3 rfl (fun ht=>?_) (fun ht=>?_)
 ·simp only [or_pick] at ht
  have hcond:=A0 ht
  refine M9 [(0,C3 Int 1 F7 a'),(3,.s (.one (.ref 3 0))),(5,.s (.one (.buf 5 Span 2 spanC out))),(6,B9 k),(8,.s (.one (.ref 8 0))),(9,.s (.one (.clo 236 [] [(8,0),(3,0)]))),(10,B9 i),(11,B9 j)] [(3,.box [.p (.list Int 1 F7 b')]),(5,.spare out.length 2 88),(8,.box [.p (.list Int 1 C63 (flat a' b' (fun _ _=>true)))])] (J69 ⟨le1 rfl,le1 rfl,le1 rfl,le1 rfl,le1 rfl,le1 rfl,le1 rfl,le1 rfl,trivial⟩ ⟨rfl,rfl,rfl,trivial⟩) ?_
  refine k5 (k1 (k3 (k3 (k2 (C9 (by kernel_rfl) (by kernel_rfl) (C8 Z Z (C8 Z Z (A9 (V3 Z (.pure _ _ _ _)) Z Z (A9 (A05 Z Z) Z Z (C8 Z Z (C0 Z Z (fun hg=>by rw [hg];exact B7 Z Z) Z Z ?_)))))))))));refine C0 Z Z (fun hg=>by rw [hg];exact B5 Z Z Z) Z Z ?_;refine C0 Z Z (fun hg=>by rw [hg];exact V3 Z (.pure _ _ _ _)) Z Z ?_;refine C0 Z Z (fun hg=>by rw [hg];exact A05 Z Z) Z Z ?_;refine A9 (F6 Z (fun h=>by first | rfl | (rw [h];rfl)) (fun h=>by first | rfl | (rw [h];rfl))) Z Z ?_;refine C8 Z Z (C0 Z Z (fun hg=>by rw [hg];exact B7 Z Z) Z Z ?_);refine C0 Z Z (fun hg=>by rw [hg];exact B7 Z Z) Z Z ?_;refine C0 Z Z (fun hg=>by have hq:=hg;(try simp at hq);rw [hg];exact B0 Z (.pure _ _ _ _) Z (by omega) (C96 (by omega))) Z Z ?_;refine C0 Z Z (fun hg=>by rw [hg];exact B1 Z Z) Z Z ?_;refine C0 Z Z (fun hg=>by rw [hg];exact B5 Z Z Z) Z Z ?_;refine C0 Z Z (fun hg=>by rw [hg];exact B7 Z Z) Z Z ?_;refine C0 Z Z (fun hg=>by have hq:=hg;(try simp at hq);rw [hg];exact B0 Z (.pure _ _ _ _) Z (by omega) (C96 (by omega))) Z Z ?_;refine C0 Z Z (fun hg=>by rw [hg];exact B1 Z Z) Z Z ?_;refine C0 Z Z (fun hg=>by rw [hg];exact K0 Z Z) Z Z ?_;refine A9 (F6 Z (fun h=>by first | rfl | (rw [h];rfl)) (fun h=>by first | rfl | (rw [h];rfl))) Z Z ?_;refine A9 (J6 Z Z) Z Z (L6 ?_);refine k1 ?_;refine B3 rfl (fun ht=>?_) (fun ht=>?_)
  ·simp only [R7] at ht
   obtain ⟨⟨h1,h2⟩,h3⟩:=A0 ht
   have h1:i < a'.length:=by omega
   have h2:j < b'.length:=by omega
   rw [A15 a' b' i j h1 h2,if_pos (by simpa [h1,h2] using h3)] at he
   refine M9 [(0,C3 Int 1 F7 a'),(3,.s (.one (.ref 3 0))),(5,.s (.one (.buf 5 Span 2 spanC out))),(6,B9 k),(8,.s (.one (.ref 8 0))),(9,.s (.one (.clo 236 [] [(8,0),(3,0)]))),(10,B9 i),(11,B9 j)] [(3,.box [.p (.list Int 1 F7 b')]),(5,.spare out.length 2 88),(8,.box [.p (.list Int 1 C63 (flat a' b' (fun _ _=>true)))])] (J69 ⟨le1 rfl,le1 rfl,le1 rfl,le1 rfl,le1 rfl,le1 rfl,le1 rfl,le1 rfl,trivial⟩ ⟨rfl,rfl,rfl,trivial⟩) ?_
   refine k2 (A3 (A4 Z Z (A4 Z Z (A4 Z Z (C6 Z Z Z (A4 Z Z (A4 Z Z (C6 Z Z Z (A6 (H1 Z) Z (A6 (D5 (c:=spanC) (ys:=[⟨(k:Int)+i,(k:Int)+j⟩]) (E0 Z Z Z Z F3) Z Z Z) Z (C1 (G4 Z Z Z (.pure _ _ _ _) (by (simp only [K08,K11];omega)) Z) Z (A7 Z Z (A5 ?_)))))))))))));refine k1 (A3 (A4 Z Z (C6 Z Z Z (A4 Z Z (C6 Z Z Z (A7 Z Z (A7 Z Z (A5 ?_))))))));refine k4 (k4 (k1 ?_));refine ⟨(i+1,j+1,out++[⟨(k:Int)+i,(k:Int)+j⟩]),⟨by dsimp only;omega,by dsimp only;omega,by simp;omega,?_⟩,by dsimp only;omega,J69 ⟨le1 rfl,le1 rfl,le1 rfl,le1 rfl,le1 rfl,le1 rfl,le1 rfl,le1 rfl,trivial⟩ ⟨rfl,rfl,rfl,trivial⟩⟩
   dsimp only
   rw [he,K18]
   congr 2
  ·simp only [R7] at ht
   have hno:=A1 ht
   refine M9 [(0,C3 Int 1 F7 a'),(3,.s (.one (.ref 3 0))),(5,.s (.one (.buf 5 Span 2 spanC out))),(6,B9 k),(8,.s (.one (.ref 8 0))),(9,.s (.one (.clo 236 [] [(8,0),(3,0)]))),(10,B9 i),(11,B9 j)] [(3,.box [.p (.list Int 1 F7 b')]),(5,.spare out.length 2 88),(8,.box [.p (.list Int 1 C63 (flat a' b' (fun _ _=>true)))])] (J69 ⟨le1 rfl,le1 rfl,le1 rfl,le1 rfl,le1 rfl,le1 rfl,le1 rfl,le1 rfl,trivial⟩ ⟨rfl,rfl,rfl,trivial⟩) ?_
   by_cases h1:i < a'.length
   ·have hr:decide ((i:Int) < (a'.length:Int))=true:=decide_eq_true (by omega)
    have hd1:=C22 (a'.drop (i+1)) (b'.drop j)
    simp only [K23] at hd1
    have hstep:¬j < b'.length→dist (a'.drop (i+1)) (b'.drop j)+1=dist (a'.drop i) (b'.drop j)∧F9 (k+i) (k+j) (a'.drop i) (b'.drop j)=F9 (k+i+1) (k+j) (a'.drop (i+1)) (b'.drop j):=by
     intro hj2
     rw [show b'.drop j=[] from K15 (by omega),A49,A49,K23,K23,d8,d8]
     exact ⟨by omega,rfl⟩
    have hgo:j < b'.length→F9 (k+i) (k+j) (a'.drop i) (b'.drop j)=if dist (a'.drop (i+1)) (b'.drop j)+1=dist (a'.drop i) (b'.drop j) then F9 (k+i+1) (k+j) (a'.drop (i+1)) (b'.drop j) else F9 (k+i) (k+j+1) (a'.drop i) (b'.drop (j+1)):=by
     intro h2
     rw [A15 a' b' i j h1 h2,if_neg]
     intro h3
     exact hno ⟨⟨by omega,by omega⟩,by simpa [h1,h2] using h3⟩
    refine k2 (A3 (A4 Z Z (A4 Z Z (E7 Z Z (E4 Z Z Z (A4 Z Z (Q1 Z Z Z hr (A4 Z Z (Q1 Z Z Z hr (A4 Z Z (Q1 Z Z Z hr (C6 Z Z Z (Q1 Z Z Z hr (A4 Z Z (Q1 Z Z Z hr (D32 (I38 a' b' (i+1) j hal hbl (by omega) hj Z Z) Z Z Z Z ?_))))))))))))))));rintro _ _ ⟨rfl,rfl⟩;refine Q1 Z Z Z hr (C6 Z Z Z (Q1 Z Z Z hr (A4 Z Z (Q1 Z Z Z hr (A4 Z Z (Q1 Z Z Z hr (A4 Z Z (Q1 Z Z Z hr (D32 (I38 a' b' i j hal hbl hi hj Z Z) Z Z Z Z ?_)))))))));rintro _ _ ⟨rfl,rfl⟩;refine Q1 Z Z Z hr (A6 (K0 Z Z) Z (J4 Z Z ?_));refine A7 Z Z (A5 ?_);refine k1 ?_;refine B3 rfl (fun ht=>?_) (fun ht=>?_)
    ·simp only [R7] at ht
     obtain ⟨_,h3⟩:=A0 ht
     have h3:dist (a'.drop (i+1)) (b'.drop j)+1=dist (a'.drop i) (b'.drop j):=by omega
     have hnext:F9 (k+i) (k+j) (a'.drop i) (b'.drop j)=F9 (k+i+1) (k+j) (a'.drop (i+1)) (b'.drop j):=by
      by_cases h2:j < b'.length
      ·rw [hgo h2,if_pos h3]
      ·exact (hstep h2).2
     rw [hnext] at he
     skip
     refine A3 (A4 Z Z (C6 Z Z Z (A7 Z Z (A5 ?_))));refine k4 (k4 (k1 ?_));refine ⟨(i+1,j,out),⟨by dsimp only;omega,by dsimp only;omega,by dsimp only;omega,?_⟩,by dsimp only;omega,J69 ⟨le1 rfl,le1 rfl,le1 rfl,le1 rfl,le1 rfl,le1 rfl,le1 rfl,le1 rfl,trivial⟩ ⟨rfl,rfl,rfl,trivial⟩⟩
     dsimp only
     rw [he,show (k:Int)+(i:Int)+1=(k:Int)+((i+1:Nat):Int) by omega]
    ·simp only [R7] at ht
     have h3:=A1 ht
     have h3:¬dist (a'.drop (i+1)) (b'.drop j)+1=dist (a'.drop i) (b'.drop j):=fun q=>h3 ⟨by omega,by omega⟩
     have h2:j < b'.length:=by
      by_cases h2:j < b'.length
      ·exact h2
      ·exact absurd (hstep h2).1 h3
     rw [hgo h2,if_neg h3] at he
     skip
     refine A3 (A4 Z Z (C6 Z Z Z (A7 Z Z (A5 ?_))));refine k4 (k4 (k1 ?_));refine ⟨(i,j+1,out),⟨by dsimp only;omega,by dsimp only;omega,by dsimp only;omega,?_⟩,by dsimp only;omega,J69 ⟨le1 rfl,le1 rfl,le1 rfl,le1 rfl,le1 rfl,le1 rfl,le1 rfl,le1 rfl,trivial⟩ ⟨rfl,rfl,rfl,trivial⟩⟩
     dsimp only
     rw [he,show (k:Int)+(j:Int)+1=(k:Int)+((j+1:Nat):Int) by omega]
   ·have hrf:decide ((i:Int) < (a'.length:Int))=false:=decide_eq_false (by omega)
    have h2:j < b'.length:=by omega
    refine k2 (A3 (A4 Z Z (A4 Z Z (E7 Z Z (E4 Z Z Z (A4 Z Z (S6 Z Z Z (by rw [hrf];decide) Z ?_)))))));refine S6 Z Z Z (by rw [hrf];decide) Z ?_;refine S6 Z Z Z (by rw [hrf];decide) Z ?_;refine S6 Z Z Z (by rw [hrf];decide) Z ?_;refine S6 Z Z Z (by rw [hrf];decide) Z ?_;refine S6 Z Z Z (by rw [hrf];decide) Z ?_;refine S6 Z Z Z (by rw [hrf];decide) Z ?_;refine S6 Z Z Z (by rw [hrf];decide) Z ?_;refine S6 Z Z Z (by rw [hrf];decide) Z ?_;refine S6 Z Z Z (by rw [hrf];decide) Z ?_;refine S6 Z Z Z (by rw [hrf];decide) Z ?_;refine A6 (C84 Z (hrf) Z) Z (A7 Z Z (A5 ?_));refine k1 ?_;refine B3 rfl (fun ht=>?_) (fun ht=>?_)
    ·cases ht
    ·skip
     refine A3 (A4 Z Z (C6 Z Z Z (A7 Z Z (A5 ?_))));refine k4 (k4 (k1 ?_));refine ⟨(i,j+1,out),⟨by dsimp only;omega,by dsimp only;omega,by dsimp only;omega,?_⟩,by dsimp only;omega,J69 ⟨le1 rfl,le1 rfl,le1 rfl,le1 rfl,le1 rfl,le1 rfl,le1 rfl,le1 rfl,trivial⟩ ⟨rfl,rfl,rfl,trivial⟩⟩
     dsimp only
     rw [he,show a'.drop i=[] from K15 (by omega),Y9,Y9]
 ·simp only [or_pick] at ht
  have hcond:=A1 ht
  rw [show a'.drop i=[] from K15 (by omega),Y9,K29] at he
  refine k6 (k2 (A3 (A4 Z Z (A7 Z Z (A5 ?_)))));refine k1 (k10 ?_)
  exact B6 (G6 rfl rfl rfl) (by rw [he])
theorem E53 (a b:List Int) (ha:a.length≤4096) (hb:b.length≤4096):FnOk Tryz.prog 130 [P0 a,P0 b] (fun rs=>rs=[pChanges (L3 a b),H3 0]):=by
 have hA:=X0 a b 0 0
 rw [Int.zero_add,Int.zero_add] at hA
 have hl:=W9 0 0 a b
 refine FnOk.intro Tryz.func130 (by decide) Z Z Z Z ?_
 refine k2 (A3 (A7 Z Z (A7 Z Z (A5 ?_))));refine k1 (k2 (k2 (A3 (A4 Z Z (A4 Z Z (C4 (G93 a b) Z Z Z ?_))))));rintro _ rfl;refine O6 Z Z (A5 ?_);refine k1 ?_;refine B3 rfl (fun ht=>?_) (fun ht=>?_)
 ·exfalso
  have h:decide ((a.length:Int)≤4096∧(b.length:Int)≤4096)=true:=decide_eq_true ⟨by omega,by omega⟩
  rw [h] at ht;cases ht
 refine k5 (k1 (k2 (A3 (A4 Z Z (A4 Z Z (C4 (J38 a b ha hb) Z Z Z ?_))))));rintro _ rfl;refine A4 Z Z (E7 Z Z (A4 Z Z (E7 Z Z (C4 (F26 (F9 0 0 a b) a.length b.length ⟨by omega,by omega⟩ ⟨by omega,by omega⟩ hA (by omega)) Z Z Z ?_))));rintro _ rfl;refine H9 Z Z Z (H9 Z Z Z (A7 Z Z (A7 Z Z (A5 ?_))));refine k1 (k10 ?_)
 exact B6 (s6 rfl rfl rfl rfl rfl) rfl
end Go.Proofs.YtbiadkkamhpdnaaGreatDoor
namespace Go.Proofs.YtbiadkkamhpdnaaGreatDoor
open Go Go.AL
set_option maxRecDepth 100000
end Go.Proofs.YtbiadkkamhpdnaaGreatDoor
