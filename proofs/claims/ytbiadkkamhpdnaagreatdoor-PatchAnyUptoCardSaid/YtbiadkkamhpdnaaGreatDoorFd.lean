/- Walks of the program's functions. -/
import Derived.Test.YtbiadkkamhpdnaaGreatDoorFc
import Derived.Test.YtbiadkkamhpdnaaGreatDoorFs
import Derived.Test.YtbiadkkamhpdnaaGreatDoorFb
set_option linter.unusedSimpArgs false
namespace Go.Proofs.YtbiadkkamhpdnaaGreatDoor
open Go Go.AL
set_option maxRecDepth 100000
set_option maxHeartbeats 1000000
end Go.Proofs.YtbiadkkamhpdnaaGreatDoor
namespace Go.Proofs.YtbiadkkamhpdnaaGreatDoor
open Go Go.AL
set_option maxRecDepth 100000
set_option maxHeartbeats 1000000
def H4 (hs:List PatchHunk) (r:Nat):List TC:=(K0 3 phunkC hs).set (r*3+2) (.mut 703)
def hunkLs (hs:List PatchHunk) (r:Nat):List PatchLine:=((hs[r]?).map (·.Lines)).getD []
theorem B16 {α:Type} {ec:Nat} {c:α→Nat→Cell}:∀(xs:List α) (x:α),K0 ec c (xs++[x])=K0 ec c xs++K0 ec c [x]
 | [],x=>rfl
 | y::ys,x=>by
  have ih:=B16 (ec:=ec) (c:=c) ys x
  simp only [G39,K0] at ih ⊢
  rw [ih];simp [G28]
theorem E25 {hs:List PatchHunk} {r:Nat} (h:PatchHunk) (hr:r≠hs.length):H4 (hs++[h]) r=H4 hs r++K0 3 phunkC [h]:=by
 unfold H4
 rw [B16]
 have hl:=G1 (ec:=3) (c:=phunkC) hs
 by_cases h1:r < hs.length
 ·rw [List.set_append_left _ _ (by omega)]
 ·have h2:(K0 3 phunkC hs).set (r*3+2) (TC.mut 703)=K0 3 phunkC hs:=List.set_eq_of_length_le (by omega)
  have h3:(K0 3 phunkC hs++K0 3 phunkC [h]).set (r*3+2) (TC.mut 703)=K0 3 phunkC hs++K0 3 phunkC [h]:=List.set_eq_of_length_le (by rw [G07,G1,G1,List.length_singleton];omega)
  rw [h2,h3]
theorem E26 (hs:List PatchHunk) (h:PatchHunk):H4 (hs++[h]) hs.length=H4 hs hs.length++[.p (phunkC h 0),.p (phunkC h 1),.mut 703]:=by
 unfold H4
 rw [B16,List.set_eq_of_length_le (l:=K0 3 phunkC hs) (by rw [G1];omega),List.set_append_right _ _ (by rw [G1];omega),G1,show hs.length*3+2 - hs.length*3=2 by omega]
 rfl
theorem E27 {hs:List PatchHunk} {r:Nat} (h:PatchHunk) (hr:r≠hs.length):hunkLs (hs++[h]) r=hunkLs hs r:=by
 unfold hunkLs
 by_cases h1:r < hs.length
 ·rw [G21 h1]
 ·rw [G31 (l:=hs) (by omega),G31 (by rw [G07,List.length_singleton];omega)]
theorem E28 (hs:List PatchHunk) (h:PatchHunk):hunkLs (hs++[h]) hs.length=h.Lines:=by unfold hunkLs;simp
theorem C11 {α:Type} {ec:Nat} {c:α→Nat→Cell}:∀(xs:List α),∀t∈K0 ec c xs,∃z,t=TC.p z
 | [],t,h=>by cases h
 | x::xs,t,h=>by
  unfold K0 at h
  rcases List.mem_append.1 h with h | h
  ·obtain ⟨z,_,rfl⟩:=List.mem_map.1 h
   exact ⟨_,rfl⟩
  ·exact C11 xs t h
theorem A22 {hs:List PatchHunk} {r:Nat}:∀t∈H4 hs r,(∃z,t=TC.p z)∨t=.mut 703:=fun t h=>by
 rcases List.mem_or_eq_of_mem_set h with h | h
 ·exact .inl (C11 _ t h)
 ·exact .inr h
theorem j2 (hs:List PatchHunk) (r:Nat) {k:Nat} (hk:Nat.beq 703 k=false):(H4 hs r).map (TC.forget k)=H4 hs r:=by
 conv=>rhs;rw [←List.map_id (H4 hs r)]
 refine List.map_congr_left fun t ht=>?_
 rcases A22 t ht with ⟨z,rfl⟩ | rfl
 ·rfl
 ·simp [TC.forget,hk]
theorem C90 (hs:List PatchHunk) (r:Nat) {k:Nat} (hk:Nat.beq 703 k=false) (α:Type) (ec:Nat) (c:α→Nat→Cell) (xs:List α):(H4 hs r).map (TC.freeze k α ec c xs)=H4 hs r:=by
 conv=>rhs;rw [←List.map_id (H4 hs r)]
 refine List.map_congr_left fun t ht=>?_
 rcases A22 t ht with ⟨z,rfl⟩ | rfl
 ·rfl
 ·simp [TC.freeze,hk]
theorem l9 (hs:List PatchHunk) (r:Nat) {k:Nat} (hk:Nat.beq 703 k=false):(H4 hs r).all (TC.free k)=true:=by
 rw [List.all_eq_true]
 intro t ht
 rcases A22 t ht with ⟨z,rfl⟩ | rfl
 ·rfl
 ·simp [TC.free,hk]
theorem B72 {α:Type} {ec:Nat} {c:α→Nat→Cell} (f:TC→TC) (hf:∀z,f (.p z)=.p z) (xs:List α):(K0 ec c xs).map f=K0 ec c xs:=by
 conv=>rhs;rw [←List.map_id (K0 ec c xs)]
 refine List.map_congr_left fun t ht=>?_
 obtain ⟨z,rfl⟩:=C11 xs t ht
 exact hf z
theorem C55 {α:Type} {ec:Nat} {c:α→Nat→Cell} (k:Nat) (xs:List α):(K0 ec c xs).all (TC.free k)=true:=by
 rw [List.all_eq_true]
 intro t ht
 obtain ⟨z,rfl⟩:=C11 xs t ht
 rfl
theorem D67 {hs:List PatchHunk} {r:Nat} (h:r < hs.length):(H4 hs r).map (TC.freeze 703 PatchLine 2 plineC (hunkLs hs r))=K0 3 phunkC hs:=by
 unfold H4
 rw [List.map_set,B72 _ (fun _=>rfl)]
 have hg:=Y7 (c:=phunkC) hs r 2 hs[r] (G09 h) (show 2 < 3 by decide)
 have e:TC.freeze 703 PatchLine 2 plineC (hunkLs hs r) (.mut 703)=.p (phunkC hs[r] 2):=by
  unfold hunkLs
  rw [G09 h];rfl
 rw [e]
 refine List.ext_getElem? fun i=>?_
 rw [List.getElem?_set]
 by_cases hi:r*3+2=i
 ·subst hi
  rw [if_pos rfl,hg,if_pos (by rw [G1];omega)]
 ·rw [if_neg hi]
theorem E74 {hs:List PatchHunk} {r:Nat} (h:hs.length≤r):H4 hs r=K0 3 phunkC hs:=List.set_eq_of_length_le (by rw [G1];omega)
theorem E29 {Q:Nat→Ob→Prop}:∀{ob:Obs},(∀p∈ob,Q p.1 p.2)→∀i o,C8 ob i=some o→Q i o
 | [],_,_,_,h=>by cases h
 | (j,x)::r,hq,i,o,h=>by
  unfold C8 at h
  cases hb:Nat.beq j i
  ·rw [hb] at h;exact E29 (fun p hp=>hq p (List.mem_cons_of_mem _ hp)) i o h
  ·rw [hb] at h;cases h
   have e:j=i:=Nat.eq_of_beq_eq_true hb
   subst e
   exact hq (j,x) List.mem_cons_self
theorem retsC2 {P:Program} {fn:Func} {fr:Fr} {ob:Obs} {t t':Tmp} {k n:Nat} {tt:TypeId} {ts:List TC} {s':S1} [hty:TyAgg P tt n] (hr:fn.results=#[.cell t tt,.tmp t']) (ht:j6 fr t=some (.s (.one (.ref k 0)))) (hk:C8 ob k=some (.box ts)) (hn:ts.length=n)
  (ht':j6 fr t'=some (.s s')):RetS P fn fr ob [.agg ts,s']:=by
 unfold RetS
 intro S G a w h
 obtain ⟨b,hg,hu⟩:=h.slot ht
 obtain ⟨b',vs,tt',hg',hh,ha⟩:=h.box hk
 rw [hg] at hg';cases hg'
 have h2:(loadVar tt ⟨b,0,none⟩).run P w=.ok (.agg (List.toArray vs)) w:=L9 (ht:=hty) (by rw [←ha.length,hn]) (fun j z hz=>by rw [Nat.zero_add];exact cell_of_heap hh (by simpa using hz))
 rw [Array.getD_eq_getD_getElem?] at hu
 exact ⟨_,by simp [results,hr,hu,asAddr,h2],[_,_],rfl,⟨vs,rfl,ha⟩,h.slot ht',trivial⟩
set_option maxHeartbeats 1000000
theorem E75 (on nn a b:Str) (ctx:Int) (ha:a.length≤4096) (hb:b.length≤4096) (r:Nat) (hr:r < (n8 on nn a b ctx false).1.Hunks.length) :
  AL.Met Tryz.prog 63 [(I1 on).s1,(I1 nn).s1,(I1 a).s1,(I1 b).s1,(I8 ctx).s1,(O8 false).s1] [] [] []
   (fun rs ob'=>rs=[.agg [.p (.v (.string ⟨on.toArray⟩)),.p (.v (.string ⟨nn.toArray⟩)),.mut 702],.one (.p (.v (.int .i64 0)))]∧ob'=[(702,.growT 29 (n8 on nn a b ctx false).1.Hunks.length 3 (H4 (n8 on nn a b ctx false).1.Hunks r)),(703,.grow 36 PatchLine 2 plineC (hunkLs (n8 on nn a b ctx false).1.Hunks r))]):=by
 obtain ⟨x,hx⟩:∃x,x=B6 a:=⟨_,rfl⟩
 obtain ⟨y,hy⟩:∃y,y=B6 b:=⟨_,rfl⟩
 obtain ⟨f1,f2⟩:=V5 a
 obtain ⟨f3,f4⟩:=V5 b
 rw [←hx] at f1 f2
 rw [←hy] at f3 f4
 have hsa:=j4 ha
 have hsb:=j4 hb
 rw [←hx] at hsa
 rw [←hy] at hsb
 have hxm:∀s∈x,s∈D6 [x,y]:=fun s hs=>Z0 _ _ x (by simp) hs
 have hym:∀s∈y,s∈D6 [x,y]:=fun s hs=>Z0 _ _ y (by simp) hs
 have i1:(H3 (D6 [x,y]) x).length=x.length:=by simp [H3]
 have i2:(H3 (D6 [x,y]) y).length=y.length:=by simp [H3]
 have hs0:=B19 x y (by omega) (by omega)
 have hs0l:=o8 x y
 obtain ⟨d,hd0⟩:∃d,d=false:=⟨_,rfl⟩
 rw [←hd0] at hr ⊢
 have hdf:=(A72 x y d (by omega) (by omega)).1
 have hdl:=E49 x y d (by omega) (by omega)
 obtain ⟨l,hl⟩:∃l,l=p7 x y d:=⟨_,rfl⟩
 rw [←hl] at hdf hdl
 have hmk:n8 on nn a b ctx d=if J0 on=false∨J0 nn=false then (O1,120) else if ctx < 0∨1048576 < ctx then (O1,3) else (⟨on,nn,G2 l x y ctx⟩,0):=by rw [hl,hx,hy];rfl
 have hxl:x.length≤4096:=by omega
 have hyl:y.length≤4096:=by omega
 refine AL.Met.intro Tryz.func63 (by decide) Z Z Z ?_
 refine k2 ?_
 refine A3 (C4 (F7 12 Z) Z (A2 (A5 Z Z) Z (A6 ?_)))
 refine k1 (k2 (k2 ?_))
 refine A3 (A2 (A4 Z Z) Z (C2 (A05 on) Z Z Z ?_));rintro _ rfl;refine A2 (L2 Z) Z (A2 (A4 Z Z) Z (A8 Z Z Z Z (fun hg=>by rw [hg];exact A4 Z Z) ?_));refine A8 Z Z Z Z (fun hg=>by have hq:=hg;(try simp at hq);rw [hg];exact E9 (A05 nn) Z Z) ?_;refine A8 Z Z Z Z (fun hg=>by rw [hg];exact L2 Z) ?_;refine A2 (B2 Z (fun h=>by first | rfl | (rw [h];rfl)) (fun h=>by first | rfl | (rw [h];rfl))) Z ?_;refine A6 ?_
 refine k1 ?_
 refine B4 rfl (fun ht=>?_) (fun ht=>?_)
 ·simp only [B42,or_pick] at ht
  have h:=A0 ht
  rw [hmk,if_pos h] at hr
  exact absurd hr (Nat.not_lt_zero _)
 simp only [B42,or_pick] at ht
 have h:=A1 ht
 rw [if_neg h] at hmk
 have hn1:J0 on=true:=by cases q:J0 on<;>simp [q] at h ⊢
 have hn2:J0 nn=true:=by cases q:J0 nn<;>simp [q] at h ⊢
 refine k5 (k1 (k2 ?_))
 refine A3 (A2 (A4 Z Z) Z (C2 (A04 a (by omega)) Z Z Z ?_));rintro _ rfl;refine A2 (A4 Z Z) Z (A2 (C5 Z Z) Z (A2 (C5 Z Z) Z (A2 (A5 Z Z) Z (A2 (A5 Z Z) Z (A6 ?_)))))
 rw [hsa]
 refine k1 (k2 (k2 ?_))
 refine A3 (A2 (A4 Z Z) Z (A2 (H8 Z Z) Z (A6 ?_)))
 refine k1 ?_
 refine B4 rfl (fun ht=>?_) (fun ht=>?_)
 ·cases ht
 refine k5 (k1 (k2 ?_))
 refine A3 (A2 (A4 Z Z) Z (C2 (A04 b (by omega)) Z Z Z ?_));rintro _ rfl;refine A2 (A4 Z Z) Z (A2 (C5 Z Z) Z (A2 (C5 Z Z) Z (A2 (A5 Z Z) Z (A2 (A5 Z Z) Z (A6 ?_)))))
 rw [hsb]
 refine k1 (k2 (k2 ?_))
 refine A3 (A2 (A4 Z Z) Z (A2 (H8 Z Z) Z (A6 ?_)))
 refine k1 ?_
 refine B4 rfl (fun ht=>?_) (fun ht=>?_)
 ·cases ht
 refine k5 (k1 (k2 ?_))
 refine A3 (A2 (A4 Z Z) Z (A2 (A4 Z Z) Z (C2 (C51 x y hxl hyl) Z Z Z ?_)));rintro _ rfl;refine A2 (A5 Z Z) Z (A6 ?_)
 rw [show A24 (H3 (D6 [x,y]) x) (H3 (D6 [x,y]) y)=E7 x y from rfl]
 refine M8 ?_
 refine A51 [(0,P8 on),(1,P8 nn),(4,D2 ctx),(5,J4 (.bool d)),(12,.s (.one (.ref 12 0))),(14,D5 Str 1 H0 x),(16,D5 Str 1 H0 y),(17,D5 Change 4 changeC (E7 x y))] [(12,.box [.p (.v (.string ⟨#[]⟩)),.p (.v (.string ⟨#[]⟩)),.p (.v (.slice none 0 0))])] (F77 ⟨le1 rfl,le1 rfl,le1 rfl,le1 rfl,le1 rfl,le1 rfl,le1 rfl,le1 rfl,trivial⟩ ⟨rfl,trivial⟩) ?_
 refine s9 [(0,P8 on),(1,P8 nn),(4,D2 ctx),(12,.s (.one (.ref 12 0))),(14,D5 Str 1 H0 x),(16,D5 Str 1 H0 y),(17,D5 Change 4 changeC l)] [(12,.box [.p (.v (.string ⟨#[]⟩)),.p (.v (.string ⟨#[]⟩)),.p (.v (.slice none 0 0))])] ?_ ?_
 ·refine k2 ?_
  refine A3 (A2 (A4 Z Z) Z (A6 ?_))
  refine k1 ?_
  refine B4 rfl (fun ht=>?_) (fun ht=>?_)
  ·have hd:d=true:=ht
   rw [hd0] at hd;cases hd
  ·have hd:d=false:=ht
   have hl2:l=E7 x y:=by rw [hl,hd];rfl
   rw [←hl2]
   refine k5 (k1 ?_)
   exact F77 ⟨le1 rfl,le1 rfl,le1 rfl,le1 rfl,le1 rfl,le1 rfl,le1 rfl,trivial⟩ ⟨rfl,trivial⟩
 refine k2 ?_
 refine A3 (A2 (A4 Z Z) Z (A2 (A4 Z Z) Z (A2 (E1 Z (.pure _ _ _ _)) Z (A2 (A4 Z Z) Z (A2 (E1 Z (.pure _ _ _ _)) Z (A2 (A4 Z Z) Z (C2 (C50 l x.length y.length ctx (by omega)) Z Z Z ?_)))))));rintro _ rfl;refine A2 (A4 Z Z) Z (A2 (C5 Z Z) Z (A2 (C5 Z Z) Z (A2 (A5 Z Z) Z (A2 (A5 Z Z) Z (A6 ?_)))))
 refine k1 (k2 (k2 ?_))
 by_cases hcx:ctx < 0∨1048576 < ctx
 ·rw [hmk,if_pos hcx] at hr
  exact absurd hr (Nat.not_lt_zero _)
 rw [F48 hdf hcx]
 rw [if_neg hcx] at hmk
 have hmd:=D43 on nn a b l ctx hn1 hn2 hcx ha hb (by rw [←hx,←hy];exact hdf)
 have hsc:=hdf.ok
 have hgo:=A30 hdf.ok (by omega) (ctx:=ctx) l.length (Nat.le_refl _)
 have hgl:=(V3 l x.length ctx l.length).1
 have hho:G2 l x y ctx=(F8 l x.length ctx l.length).map (F6 l x y):=rfl
 obtain ⟨g,hg⟩:∃g,g=F8 l x.length ctx l.length:=⟨_,rfl⟩
 have hscl:=hdl
 rw [←hg] at hgo hgl hho ⊢
 refine A3 (A2 (A4 Z Z) Z (A2 (H8 Z Z) Z (A6 ?_)))
 refine k1 ?_
 refine B4 rfl (fun ht=>?_) (fun ht=>?_)
 ·cases ht
 refine A51 [(0,P8 on),(1,P8 nn),(12,.s (.one (.ref 12 0))),(14,D5 Str 1 H0 x),(16,D5 Str 1 H0 y),(17,D5 Change 4 changeC l),(19,D5 Hunk 6 hunkC g)] [(12,.box [.p (.v (.string ⟨#[]⟩)),.p (.v (.string ⟨#[]⟩)),.p (.v (.slice none 0 0))])] (F77 ⟨le1 rfl,le1 rfl,le1 rfl,le1 rfl,le1 rfl,le1 rfl,le1 rfl,trivial⟩ ⟨rfl,trivial⟩) ?_
 refine k5 (k1 (k2 ?_))
 refine A3 (A2 (A4 Z Z) Z (A2 (A4 Z Z) Z (A2 (J2 Z) Z (C4 (F7 20 Z) Z (F3 (B8 TySz.out Z Z Z Z Z Z) (A6 ?_))))))
 refine k1 (k2 (k2 ?_))
 refine K3 (F89 702 PatchHunk 3 phunkC 29 (kb:=20) (o:=2) Z Z Z) ?_
 refine K3 (G05 702 Z) ?_
 refine K3 (G01 703 PatchLine 2 plineC 36 Z) ?_
 skip
 refine A3 (A2 (A5 Z Z) Z (A6 ?_))
 refine k1 (k3 ?_)
 refine D8 (X:=Nat) (fun k=>([(12,.s (.one (.ref 12 0))),(14,D5 Str 1 H0 x),(16,D5 Str 1 H0 y),(17,D5 Change 4 changeC l),(19,D5 Hunk 6 hunkC g),(20,.s (.one (.ref 20 0))),(21,D2 k)],[(12,.box [.p (.v (.string ⟨#[]⟩)),.p (.v (.string ⟨#[]⟩)),.p (.v (.slice none 0 0))]),(20,.box [.p (.v (.string ⟨on.toArray⟩)),.p (.v (.string ⟨nn.toArray⟩)),.mut 702]),(702,.growT 29 ((g.take k).map (F6 l x y)).length 3 (H4 ((g.take k).map (F6 l x y)) r)),(703,.grow 36 PatchLine 2 plineC (hunkLs ((g.take k).map (F6 l x y)) r))])) (fun k=>k≤g.length) (fun k=>g.length - k) 0 (Nat.zero_le _) ?_ ?_
 ·have e0:hunkLs (((g.take 0)).map (F6 l x y)) r=[]:=by simp [hunkLs]
  dsimp only
  rw [e0]
  exact F77 ⟨le1 rfl,le1 rfl,le1 rfl,le1 rfl,le1 rfl,le1 rfl,le1 rfl,trivial⟩ ⟨rfl,rfl,rfl,rfl,trivial⟩
 intro k hk
 dsimp only at hk ⊢
 refine k2 (k2 ?_)
 refine A3 (A2 (A4 Z Z) Z (A2 (A4 Z Z) Z (A2 (E1 Z (.pure _ _ _ _)) Z (A2 (E5 Z Z) Z (A6 ?_)))))
 refine k1 ?_
 refine B4 rfl (fun ht=>?_) (fun ht=>?_)
 ·have hlt:k < g.length:=by have:=A0 ht;omega
  have hv:g[k]?=some g[k]:=by simp [hlt]
  have hq:=hgo _ (G22 hlt)
  have htk:(g.take (k+1)).map (F6 l x y)=(g.take k).map (F6 l x y)++[F6 l x y g[k]]:=by rw [G14 hlt,G27];rfl
  obtain ⟨q,hqe⟩:∃q,q=g[k]:=⟨_,rfl⟩
  rw [←hqe] at hv hq htk
  obtain ⟨hs,hhs⟩:∃hs,hs=(g.take k).map (F6 l x y):=⟨_,rfl⟩
  have hhl:hs.length=k:=by rw [hhs,G35,G17];omega
  rw [←hhs] at htk ⊢
  obtain ⟨a,b,q1,q2,q3,q4,q5,q6,q7,q8,q9,q10⟩:=hq
  have hgb:=hsc.get b q4
  refine k5 (k1 (k2 (k3 (k2 ?_))))
  refine A56 13 22 (by kernel_rfl) (by kernel_rfl) Z (by show ((H4 hs r).all (TC.free 22)&&true)=true;rw [l9 hs r rfl];rfl) Z ?_;refine R6 (A4 Z Z) Z (A4 Z Z) (R6 (A4 Z Z) Z (A4 Z Z) (R6 (B1 Z (.pure _ _ _ _) Z (by omega) hv) Z (B1 Z (.pure _ _ _ _) Z (by omega) hv) (R6 (B7 Z) Z (B7 Z) (R6 (B7 Z) Z (B7 Z) (R6 (B3 Z Z) Z (B3 Z Z) (R6 (A4 Z Z) Z (A4 Z Z) (R6 (A4 Z Z) Z (A4 Z Z) (R6 (B1 Z (.pure _ _ _ _) Z (by omega) hv) Z (B1 Z (.pure _ _ _ _) Z (by omega) hv) (R6 (B7 Z) Z (B7 Z) (R6 (B7 Z) Z (B7 Z) (R6 (B3 Z Z) Z (B3 Z Z) (R6 (J2 Z) Z (J2 Z) (b_nil Z (v6 (B8 TySz.out Z Z Z Z Z Z) Z (H5 ?_)))))))))))))))
  refine k1 (k2 ?_)
  refine K3 (F89 701 PatchLine 2 plineC 36 (kb:=22) (o:=2) Z Z (by show ((H4 hs r).all (TC.free 701)&&true)=true;rw [l9 hs r rfl];rfl)) ?_
  refine A3 (A2 (A7 Z) Z (A2 (A9 Z Z Z) Z (A2 (A5 Z Z) Z (A6 ?_))))
  refine k1 (k2 (k2 ?_))
  refine A3 (A2 (A4 Z Z) Z (A2 (A4 Z Z) Z (A2 (B1 Z (.pure _ _ _ _) Z (by omega) hv) Z (A2 (B7 Z) Z (A2 (B3 Z Z) Z (A2 (A5 Z Z) Z (A6 ?_)))))))
  refine k1 (k3 ?_)
  refine D8 (X:=Nat) (fun t=>([(12,.s (.one (.ref 12 0))),(14,D5 Str 1 H0 x),(16,D5 Str 1 H0 y),(17,D5 Change 4 changeC l),(19,D5 Hunk 6 hunkC g),(20,.s (.one (.ref 20 0))),(21,D2 k),(22,.s (.one (.ref 22 0))),(23,D2 (P4 l q.Old.From a t)),(24,D2 ((a+t:Nat):Int))],[(12,.box [.p (.v (.string ⟨#[]⟩)),.p (.v (.string ⟨#[]⟩)),.p (.v (.slice none 0 0))]),(20,.box [.p (.v (.string ⟨on.toArray⟩)),.p (.v (.string ⟨nn.toArray⟩)),.mut 702]),(702,.growT 29 hs.length 3 (H4 hs r)),(703,.grow 36 PatchLine 2 plineC (hunkLs hs r)),(22,.box [.p (.v (.int .i64 q.Old.From)),.p (.v (.int .i64 q.New.From)),.mut 701]),(701,.grow 36 PatchLine 2 plineC (L6 l x y q.Old.From a t))])) (fun t=>a+t≤b+1) (fun t=>b+1 - (a+t)) 0 (by omega) ?_ ?_
  ·have e1:P4 l q.Old.From a 0=q.Old.From:=if_pos rfl
   rw [e1,show ((a+0:Nat):Int)=q.First by rw [q1];simp]
   exact F77 ⟨le1 rfl,le1 rfl,le1 rfl,le1 rfl,le1 rfl,le1 rfl,le1 rfl,le1 rfl,le1 rfl,le1 rfl,trivial⟩ ⟨rfl,rfl,rfl,rfl,rfl,rfl,trivial⟩
  intro t hat
  dsimp only at hat ⊢
  have hml:=B18 l x y q.Old.From a t
  have hml2:(L6 l x y q.Old.From a t).length≤4097*12288:=Nat.le_trans hml (Nat.mul_le_mul (by omega) (by omega))
  refine k2 (k2 ?_)
  refine A3 (A2 (A4 Z Z) Z (A2 (A4 Z Z) Z (A2 (A4 Z Z) Z (A2 (B1 Z (.pure _ _ _ _) Z (by omega) hv) Z (A2 (B7 Z) Z (A2 (B3 Z Z) Z (A2 (E5 Z Z) Z (A6 ?_))))))))
  refine k1 ?_
  refine B4 rfl (fun ht=>?_) (fun ht=>?_)
  ·have hlt2:a+t≤b:=by have:((a+t:Nat):Int) < q.Last:=A0 ht;omega
   obtain ⟨c,hc⟩:∃c,c=cAt l (a+t):=⟨_,rfl⟩
   have hcv:l[((a+t:Nat):Int).toNat]?=some c:=by rw [hc];exact C13 (by omega)
   have hgc:=hsc.get (a+t) (by omega)
   rw [←hc] at hgc
   obtain ⟨⟨g1,g2⟩,⟨g3,g4⟩,⟨g5,g6⟩,⟨g7,g8⟩,g9,g10⟩:=hgc
   obtain ⟨i0,hi0⟩:∃i0,i0=P4 l q.Old.From a t:=⟨_,rfl⟩
   have hpos:0≤i0∧i0≤c.Old:=by
    rw [hi0,hc];unfold P4 T8
    split
    ·rename_i h0;subst h0;exact ⟨q5,q6⟩
    ·have h4:=hsc.next (a+t - 1) (by omega)
     have h5:=hsc.get (a+t - 1) (by omega)
     rw [show a+t - 1+1=a+t by omega] at h4
     unfold G9 at h5;omega
   obtain ⟨ls,hls⟩:∃ls,ls=L6 l x y q.Old.From a t:=⟨_,rfl⟩
   obtain ⟨p1,hp1⟩:∃p1,p1=J3 32 (sub x i0 c.Old):=⟨_,rfl⟩
   obtain ⟨p2,hp2⟩:∃p2,p2=J3 45 (sub x c.Old (T8 c)):=⟨_,rfl⟩
   obtain ⟨p3,hp3⟩:∃p3,p3=J3 43 (sub y c.New (c.New+c.NewLen)):=⟨_,rfl⟩
   have hsucc:L6 l x y q.Old.From a (t+1)=ls++p1++p2++p3:=by rw [hls,hp1,hp2,hp3,hi0,hc];rfl
   have hps:P4 l q.Old.From a (t+1)=T8 c:=by rw [B17,hc]
   have l1:=U5 x i0 c.Old
   have l2:=U5 x c.Old (T8 c)
   have l3:=U5 y c.New (c.New+c.NewLen)
   have m1:p1.length=(sub x i0 c.Old).length:=by rw [hp1,Z4]
   have m2:p2.length=(sub x c.Old (T8 c)).length:=by rw [hp2,Z4]
   have hend:T8 c=c.Old+c.OldLen:=rfl
   rw [←hls] at hml2 ⊢
   rw [←hi0]
   refine k5 (k1 (k2 (k3 (k2 ?_))))
   refine K8 10 (by kernel_rfl) (by kernel_rfl) Z (B0 (A7 Z) Z Z (B0 (A9 Z Z Z) Z Z (B0 (A4 Z Z) Z Z (B0 (A4 Z Z) Z Z (B0 (A4 Z Z) Z Z (B0 (A4 Z Z) Z Z (B0 (B1 Z (.pure _ _ _ _) Z (by omega) hcv) Z Z (B0 (B7 Z) Z Z (B0 (B3 Z Z) Z Z (B0 (O7 Z (.pure _ _ _ _) Z Z (by omega) (by omega) (by omega)) Z Z (H5 (a6 (A81 ls 32 (sub x i0 c.Old) Z (by omega)) Z Z Z ?_))))))))))));rintro _ _ ⟨rfl,rfl⟩;refine ⟨_,rfl,?_⟩;refine B0 (A7 Z) Z Z (v6 (B8 TySz.out Z Z Z Z Z Z) Z (H5 ?_))
   rw [←hp1]
   refine k1 (k2 ?_)
   refine D7 (by kernel_rfl) (by kernel_rfl) (B0 (A4 Z Z) Z Z (B0 (A4 Z Z) Z Z (B0 (B1 Z (.pure _ _ _ _) Z (by omega) hcv) Z Z (B0 (B7 Z) Z Z (B0 (B3 Z Z) Z Z (B0 (A4 Z Z) Z Z (B0 (A4 Z Z) Z Z (B0 (B1 Z (.pure _ _ _ _) Z (by omega) hcv) Z Z (B0 (B7 Z) Z Z (B0 (B3 Z Z) Z Z (B0 (C3 Z Z (by omega)) Z Z (B0 (A5 Z Z) Z Z (H5 ?_)))))))))))))
   rw [show c.Old+c.OldLen=T8 c from rfl]
   refine k1 (k2 ?_)
   refine K8 10 (by kernel_rfl) (by kernel_rfl) Z (B0 (A7 Z) Z Z (B0 (A9 Z Z Z) Z Z (B0 (A4 Z Z) Z Z (B0 (A4 Z Z) Z Z (B0 (A4 Z Z) Z Z (B0 (B1 Z (.pure _ _ _ _) Z (by omega) hcv) Z Z (B0 (B7 Z) Z Z (B0 (B3 Z Z) Z Z (B0 (A4 Z Z) Z Z (B0 (O7 Z (.pure _ _ _ _) Z Z (by omega) (by omega) (by omega)) Z Z (H5 (a6 (A81 (ls++p1) 45 (sub x c.Old (T8 c)) Z (by simp only [G07];omega)) Z Z Z ?_))))))))))));rintro _ _ ⟨rfl,rfl⟩;refine ⟨_,rfl,?_⟩;refine B0 (A7 Z) Z Z (v6 (B8 TySz.out Z Z Z Z Z Z) Z (H5 ?_))
   rw [←hp2]
   refine k1 ?_
   refine K8 20 (by kernel_rfl) (by kernel_rfl) Z (B0 (A7 Z) Z Z (B0 (A9 Z Z Z) Z Z (B0 (A4 Z Z) Z Z (B0 (A4 Z Z) Z Z (B0 (A4 Z Z) Z Z (B0 (B1 Z (.pure _ _ _ _) Z (by omega) hcv) Z Z (B0 (B7 Z) Z Z (B0 (B3 Z Z) Z Z (B0 (A4 Z Z) Z Z (B0 (A4 Z Z) Z Z (B0 (B1 Z (.pure _ _ _ _) Z (by omega) hcv) Z Z (B0 (B7 Z) Z Z (B0 (B3 Z Z) Z Z (B0 (A4 Z Z) Z Z (B0 (A4 Z Z) Z Z (B0 (B1 Z (.pure _ _ _ _) Z (by omega) hcv) Z Z (B0 (B7 Z) Z Z (B0 (B3 Z Z) Z Z (B0 (C3 Z Z (by omega)) Z Z (B0 (O7 Z (.pure _ _ _ _) Z Z (by omega) (by omega) (by omega)) Z Z (H5 (a6 (A81 (ls++p1++p2) 43 (sub y c.New (c.New+c.NewLen)) Z (by simp only [G07];omega)) Z Z Z ?_))))))))))))))))))))));rintro _ _ ⟨rfl,rfl⟩;refine ⟨_,rfl,?_⟩;refine B0 (A7 Z) Z Z (v6 (B8 TySz.out Z Z Z Z Z Z) Z (H5 ?_))
   rw [←hp3]
   refine k4 (k1 ?_)
   refine A3 (A2 (A4 Z Z) Z (A2 (C3 Z Z (by omega)) Z (A2 (A5 Z Z) Z (A6 ?_))))
   refine k1 ?_
   refine ⟨t+1,by omega,by omega,?_⟩
   rw [hsucc,hps,show ((a+(t+1):Nat):Int)=((a+t:Nat):Int)+1 by omega]
   exact F77 ⟨le1 rfl,le1 rfl,le1 rfl,le1 rfl,le1 rfl,le1 rfl,le1 rfl,le1 rfl,le1 rfl,le1 rfl,trivial⟩ ⟨rfl,rfl,(by show some (Ob.growT 29 hs.length 3 (List.map (TC.forget 701) (List.map (TC.forget 701) (List.map (TC.forget 701) (H4 hs r)))))=_;simp only [j2 hs r (k:=701) rfl]),rfl,rfl,rfl,trivial⟩
  ·have htb:a+t=b+1:=by
    have h0:¬((a+t:Nat):Int) < q.Last:=A1 ht
    omega
   obtain ⟨i0,hi0⟩:∃i0,i0=P4 l q.Old.From a t:=⟨_,rfl⟩
   have hib:i0=(cAt l b).Old+(cAt l b).OldLen:=by
    rw [hi0];unfold P4 T8
    rw [if_neg (by omega),show a+t - 1=b by omega]
   unfold G9 at hgb
   obtain ⟨ls,hls⟩:∃ls,ls=L6 l x y q.Old.From a t:=⟨_,rfl⟩
   have hG:F6 l x y q=⟨q.Old.From,q.New.From,ls++J3 32 (sub x i0 q.Old.To)⟩:=by
    rw [F6,q1,q2,show ((a:Nat):Int).toNat=a by omega,show ((b:Int)+1).toNat - a=t by omega,←hls,←hi0]
   have l1:=U5 x i0 q.Old.To
   have hgn:g.length≤l.length:=hgl
   rw [←hls] at hml2 ⊢
   rw [←hi0]
   refine k6 (k2 ?_)
   refine K8 11 (by kernel_rfl) (by kernel_rfl) Z (B0 (A7 Z) Z Z (B0 (A9 Z Z Z) Z Z (B0 (A4 Z Z) Z Z (B0 (A4 Z Z) Z Z (B0 (A4 Z Z) Z Z (B0 (A4 Z Z) Z Z (B0 (B1 Z (.pure _ _ _ _) Z (by omega) hv) Z Z (B0 (B7 Z) Z Z (B0 (B7 Z) Z Z (B0 (B3 Z Z) Z Z (B0 (O7 Z (.pure _ _ _ _) Z Z (by omega) (by omega) (by omega)) Z Z (H5 (a6 (A81 ls 32 (sub x i0 q.Old.To) Z (by omega)) Z Z Z ?_)))))))))))));rintro _ _ ⟨rfl,rfl⟩;refine ⟨_,rfl,?_⟩;refine B0 (A7 Z) Z Z (v6 (B8 TySz.out Z Z Z Z Z Z) Z (H5 ?_))
   refine k1 ?_
   by_cases hkr:k=r
   ·subst hkr
    have hoff:H4 hs k=K0 3 phunkC hs:=E74 (by omega)
    refine A51 [(12,.s (.one (.ref 12 0))),(14,D5 Str 1 H0 x),(16,D5 Str 1 H0 y),(17,D5 Change 4 changeC l),(19,D5 Hunk 6 hunkC g),(20,.s (.one (.ref 20 0))),(21,D2 k),(22,.s (.one (.ref 22 0)))] [(12,.box [.p (.v (.string ⟨#[]⟩)),.p (.v (.string ⟨#[]⟩)),.p (.v (.slice none 0 0))]),(20,.box [.p (.v (.string ⟨on.toArray⟩)),.p (.v (.string ⟨nn.toArray⟩)),.mut 702]),(702,.growT 29 hs.length 3 (K0 3 phunkC hs)),(22,.box [.p (.v (.int .i64 q.Old.From)),.p (.v (.int .i64 q.New.From)),.mut 701]),(701,.grow 36 PatchLine 2 plineC (ls++J3 32 (sub x i0 q.Old.To)))] (F77 ⟨le1 rfl,le1 rfl,le1 rfl,le1 rfl,le1 rfl,le1 rfl,le1 rfl,le1 rfl,trivial⟩ ⟨rfl,rfl,(by show some (Ob.growT 29 hs.length 3 (List.map (TC.forget 701) (H4 hs k)))=_;rw [j2 hs k (k:=701) rfl,hoff]),rfl,rfl,trivial⟩) ?_
    refine K3 (G00 (ob':=[(12,.box [.p (.v (.string ⟨#[]⟩)),.p (.v (.string ⟨#[]⟩)),.p (.v (.slice none 0 0))]),(20,.box [.p (.v (.string ⟨on.toArray⟩)),.p (.v (.string ⟨nn.toArray⟩)),.mut 702]),(702,.growT 29 hs.length 3 (K0 3 phunkC hs)),(22,.box [.p (.v (.int .i64 q.Old.From)),.p (.v (.int .i64 q.New.From)),.mut 703]),(703,.grow 36 PatchLine 2 plineC (ls++J3 32 (sub x i0 q.Old.To)))]) (j:=701) (k:=703) rfl rfl (by decide) rfl (E29 ?_)) ?_
    ·intro p hp
     simp only [List.mem_cons,List.not_mem_nil,or_false] at hp
     rcases hp with rfl | rfl | rfl | rfl | rfl
     ·exact ⟨by dsimp only;omega,_,rfl,rfl,rfl⟩
     ·exact ⟨by dsimp only;omega,_,rfl,rfl,rfl⟩
     ·exact ⟨by dsimp only;omega,_,rfl,C55 _ _,by show Ob.growT _ _ _ _=Ob.growT _ _ _ (List.map (TC.ren 701 703) (K0 3 phunkC hs));rw [B72 _ (fun _=>rfl)]⟩
     ·exact ⟨by dsimp only;omega,_,rfl,rfl,rfl⟩
     ·exact ⟨by dsimp only;omega,_,rfl,rfl,rfl⟩
    skip
    refine A3 (A2 (A7 Z) Z (A2 (A9 Z Z Z) Z (A2 (C1 Z Z Z) Z (C4 (E08 735 Z Z Z Z Z (by show ((K0 3 phunkC hs).all (TC.free 735)&&true)=true;rw [C55];rfl)) Z ?_))));refine C4 (W0 Z Z Z Z (by (omega)) Z) Z ?_;refine A2 (A7 Z) Z (F3 (B8 TySz.out Z Z Z Z Z Z) (A6 ?_))
    refine k4 (k1 ?_)
    refine A3 (A2 (A4 Z Z) Z (A2 (C3 Z Z (by omega)) Z (A2 (A5 Z Z) Z (A6 ?_))))
    refine k1 ?_
    refine ⟨k+1,by omega,by omega,?_⟩
    have e1:=E26 hs ⟨q.Old.From,q.New.From,(ls++J3 32 (sub x i0 q.Old.To))⟩
    have e2:=E28 hs ⟨q.Old.From,q.New.From,(ls++J3 32 (sub x i0 q.Old.To))⟩
    rw [hhl] at e1 e2
    dsimp only
    rw [htk,hG,e1,e2,hoff,G07]
    exact F77 ⟨le1 rfl,le1 rfl,le1 rfl,le1 rfl,le1 rfl,le1 rfl,le1 rfl,trivial⟩ ⟨rfl,rfl,(by show some (Ob.growT 29 (hs.length+1) 3 (List.map (TC.forget 702) (K0 3 phunkC hs++[_,_,.mut 703])))=_;rw [G27,B72 _ (fun _=>rfl)];rfl),rfl,trivial⟩
   ·refine K3 (Sees.freezeG (k:=701) Z Z) ?_
    refine A51 [(12,.s (.one (.ref 12 0))),(14,D5 Str 1 H0 x),(16,D5 Str 1 H0 y),(17,D5 Change 4 changeC l),(19,D5 Hunk 6 hunkC g),(20,.s (.one (.ref 20 0))),(21,D2 k),(22,.s (.one (.ref 22 0)))] [(12,.box [.p (.v (.string ⟨#[]⟩)),.p (.v (.string ⟨#[]⟩)),.p (.v (.slice none 0 0))]),(20,.box [.p (.v (.string ⟨on.toArray⟩)),.p (.v (.string ⟨nn.toArray⟩)),.mut 702]),(702,.growT 29 hs.length 3 (H4 hs r)),(703,.grow 36 PatchLine 2 plineC (hunkLs hs r)),(22,.box [.p (.v (.int .i64 q.Old.From)),.p (.v (.int .i64 q.New.From)),.p (.list PatchLine 2 plineC (ls++J3 32 (sub x i0 q.Old.To)))])] (F77 ⟨le1 rfl,le1 rfl,le1 rfl,le1 rfl,le1 rfl,le1 rfl,le1 rfl,le1 rfl,trivial⟩ ⟨rfl,rfl,(by show some (Ob.growT 29 hs.length 3 (List.map (TC.freeze 701 PatchLine 2 plineC (ls++J3 32 (sub x i0 q.Old.To))) (List.map (TC.forget 701) (H4 hs r))))=_;rw [j2 hs r (k:=701) rfl,C90 hs r (k:=701) rfl]),rfl,rfl,trivial⟩) ?_
    skip
    refine A3 (A2 (A7 Z) Z (A2 (A9 Z Z Z) Z (A2 (C1 Z Z Z) Z (C4 (E08 735 Z Z Z Z Z (by show ((H4 hs r).all (TC.free 735)&&true)=true;rw [l9 hs r rfl];rfl)) Z ?_))));refine C4 (W0 Z Z Z Z (by (omega)) Z) Z ?_;refine A2 (A7 Z) Z (F3 (B8 TySz.out Z Z Z Z Z Z) (A6 ?_))
    refine k4 (k1 ?_)
    refine A3 (A2 (A4 Z Z) Z (A2 (C3 Z Z (by omega)) Z (A2 (A5 Z Z) Z (A6 ?_))))
    refine k1 ?_
    refine ⟨k+1,by omega,by omega,?_⟩
    dsimp only
    rw [htk,hG,E25 _ (show r≠hs.length by omega),E27 _ (show r≠hs.length by omega),G07]
    exact F77 ⟨le1 rfl,le1 rfl,le1 rfl,le1 rfl,le1 rfl,le1 rfl,le1 rfl,trivial⟩ ⟨rfl,rfl,(by show some (Ob.growT 29 (hs.length+1) 3 (List.map (TC.forget 702) (H4 hs r++K0 3 phunkC [⟨q.Old.From,q.New.From,ls++J3 32 (sub x i0 q.Old.To)⟩])))=_;rw [G27,j2 hs r (k:=702) rfl];rfl),rfl,trivial⟩
 ·have hk':k=g.length:=by have:=A1 ht;omega
  subst hk'
  rw [G23,←hho]
  have hsz:=hmd.sz
  have hch:=hmd.chk
  rw [←hx,←hy] at hsz hch
  refine k6 (k2 (k2 ?_))
  have hrl:r < (G2 l x y ctx).length:=by rw [hmk] at hr;exact hr
  have hm1:(n8 on nn a b ctx d).1.Hunks=G2 l x y ctx:=by rw [hmk]
  rw [hm1]
  refine A3 (A2 (C1 Z Z Z) Z (F55 ((Sees.freezeG (k:=703) Z rfl).trans ((G06 702 (G2 l x y ctx) Z Z (D67 hrl)).trans (Sees.freezeG (k:=702) Z Z))) (x4 ⟨on,nn,G2 l x y ctx⟩ hsz) Z Z Z ?_));rintro _ rfl;refine ⟨fun _ _ _ h=>h,?_⟩;refine A2 (A5 Z Z) Z (A6 ?_)
  rw [hch]
  refine k1 (k2 ?_)
  refine A3 (A2 (A4 Z Z) Z (A2 (H8 Z Z) Z (A6 ?_)))
  refine k1 ?_
  refine B4 rfl (fun ht=>?_) (fun ht=>?_)
  ·cases ht
  ·refine k5 (k1 (k2 ?_))
   refine A3 (A2 (C1 Z Z Z) Z (F3 (B8 TySz.out Z Z Z Z Z Z) (A2 (A5 Z Z) Z (A6 ?_))))
   refine k1 (k10 ?_)
   exact X4 (retsC2 rfl rfl rfl rfl rfl) (by repeat (first | exact I4 | refine I5 rfl ?_ | refine K6 _ ?_)) (ObIn.spec (ob':=[(702,_),(703,_)]) ⟨rfl,rfl,trivial⟩) ⟨rfl,rfl⟩
theorem retsC3 {P:Program} {fn:Func} {fr:Fr} {ob:Obs} {t t' t'':Tmp} {k n:Nat} {tt:TypeId} {ts:List TC} {s' s'':S1} [hty:TyAgg P tt n] (hr:fn.results=#[.cell t tt,.tmp t',.tmp t'']) (ht:j6 fr t=some (.s (.one (.ref k 0)))) (hk:C8 ob k=some (.box ts)) (hn:ts.length=n)
  (ht':j6 fr t'=some (.s s')) (ht'':j6 fr t''=some (.s s'')):RetS P fn fr ob [.agg ts,s',s'']:=by
 unfold RetS
 intro S G a w h
 obtain ⟨b,hg,hu⟩:=h.slot ht
 obtain ⟨b',vs,tt',hg',hh,ha⟩:=h.box hk
 rw [hg] at hg';cases hg'
 have h2:(loadVar tt ⟨b,0,none⟩).run P w=.ok (.agg (List.toArray vs)) w:=L9 (ht:=hty) (by rw [←ha.length,hn]) (fun j z hz=>by rw [Nat.zero_add];exact cell_of_heap hh (by simpa using hz))
 rw [Array.getD_eq_getD_getElem?] at hu
 exact ⟨_,by simp [results,hr,hu,asAddr,h2],[_,_,_],rfl,⟨vs,rfl,ha⟩,h.slot ht',h.slot ht'',trivial⟩
def d8 (on nn:Str) (raw:List Int) (c:Int):List PatchHunk:=(n8 on nn (P3 raw) (T3 raw) c false).1.Hunks
theorem D31 {on nn:Str} (hn:J0 on=true) (hn':J0 nn=true) (raw:List Int) {c:Int} (hc:0≤c∧c≤1048576):n8 on nn (P3 raw) (T3 raw) c false=(⟨on,nn,d8 on nn raw c⟩,0)∧D9 ⟨on,nn,d8 on nn raw c⟩=0∧szP (d8 on nn raw c)≤65536:=by
 have hal:=s5 raw
 have hbl:=A82 raw
 obtain ⟨f1,h1⟩:=V5 (P3 raw)
 obtain ⟨f2,h2⟩:=V5 (T3 raw)
 obtain ⟨hf,_⟩:=A72 (B6 (P3 raw)) (B6 (T3 raw)) false (by omega) (by omega)
 have hm:=D43 on nn (P3 raw) (T3 raw) _ c hn hn' (by omega) (by omega) (by omega) hf
 have hz:=hf.size hc.1 (d9 (P3 raw)).1 (d9 (T3 raw)).1
 have e:n8 on nn (P3 raw) (T3 raw) c false=(⟨on,nn,G2 (p7 (B6 (P3 raw)) (B6 (T3 raw)) false) (B6 (P3 raw)) (B6 (T3 raw)) c⟩,0):=by
  unfold n8
  rw [if_neg (by rw [hn,hn'];simp),if_neg (by omega)]
 have e2:d8 on nn raw c=G2 (p7 (B6 (P3 raw)) (B6 (T3 raw)) false) (B6 (P3 raw)) (B6 (T3 raw)) c:=by unfold d8;rw [e]
 rw [e2]
 exact ⟨e,hm.chk,by omega⟩
theorem B90:∀(hs:List PatchHunk) (i j:Int),S8 i j hs=true→∀x∈hs,0 < x.Lines.length
 | [],_,_,_,_,hm=>by cases hm
 | x::r,i,j,hg,y,hm=>by
  simp only [S8,G08,decide_eq_true_eq] at hg
  obtain ⟨_,h1,_,h3⟩:=hg
  rcases List.mem_cons.1 hm with rfl | hm
  ·refine List.length_pos_iff.2 fun e=>h1 ?_
   unfold N7
   rw [e]
   exact .inl (.inl (.inl (.inl (.inl rfl))))
  ·exact B90 r _ _ h3 y hm
theorem E76 {p:Patch} (h:D9 p=0):∀x∈p.Hunks,0 < x.Lines.length∧(0≤x.Old∧x.Old≤4096)∧(0≤x.New∧x.New≤4096):=by
 have hg:=check12_good (p:=p) (fun e=>e h)
 intro x hx
 have hr:=W3 hg x hx
 refine ⟨?_,by omega,by omega⟩
 unfold M5 at hg
 rw [G08] at hg
 exact B90 _ _ _ hg.1 x hx
theorem E30 {hs:List PatchHunk} {r:Nat} {h:PatchHunk} (hv:hs[r]?=some h):(∀i (hi:i < hs.length),i≠r→∀j,j < 3→(H4 hs r)[i*3+j]?=some (.p (phunkC hs[i] j)))∧∀j,j < 3→(H4 hs r)[r*3+j]?=([.p (.v (.int .i64 h.Old)),.p (.v (.int .i64 h.New)),.mut 703]:List TC)[j]?:=by
 have hr:r < hs.length:=(List.getElem?_eq_some_iff.1 hv).1
 refine ⟨fun i hi hir j hj=>?_,fun j hj=>?_⟩
 ·unfold H4
  rw [List.getElem?_set_ne (by omega)]
  exact Y7 (c:=phunkC) hs i j _ (G09 hi) hj
 ·have hg:=fun (j:Nat) (hj:j < 3)=>Y7 (c:=phunkC) hs r j h hv hj
  unfold H4
  match j,hj with
  | 0,_=>rw [List.getElem?_set_ne (by omega)];exact hg 0 (by decide)
  | 1,_=>rw [List.getElem?_set_ne (by omega)];exact hg 1 (by decide)
  | 2,_=>rw [G45 (by rw [G1];omega)];rfl
theorem F39 {hs:List PatchHunk} {r:Nat} {h:PatchHunk} (hv:hs[r]?=some h):hunkLs hs r=h.Lines:=by unfold hunkLs;rw [hv];rfl
theorem E31 {rs:List S1} {e e2:TypeId} {n r:Nat} {hs:List PatchHunk} {ls:List PatchLine} {fr:Fr} {ob:Obs} (hrs:(rs.flatMap S1.refs).all (fun k=>Nat.beq k 702)=true)
  (h2:((C46 fr++B10 ob).all (fun k=>!(Nat.beq 702 k)&&!(Nat.beq 703 k))&&ob.all (fun p=>!(Nat.beq 702 p.1)&&!(Nat.beq 703 p.1)))=true) :
  F11 rs [(702,.growT e n 3 (H4 hs r)),(703,.grow e2 PatchLine 2 plineC ls)] fr ob=true:=by
 have hg:∀k,(C8 [(702,Ob.growT e n 3 (H4 hs r)),(703,.grow e2 PatchLine 2 plineC ls)] k).isSome=(Nat.beq 702 k||Nat.beq 703 k):=by
  intro k;simp only [C8];cases Nat.beq 702 k<;>cases Nat.beq 703 k<;>rfl
 have hg2:∀k,(C8 [(702,Ob.growT e n 3 (H4 hs r)),(703,.grow e2 PatchLine 2 plineC ls)] k).isNone=(!(Nat.beq 702 k)&&!(Nat.beq 703 k)):=by
  intro k;simp only [C8];cases Nat.beq 702 k<;>cases Nat.beq 703 k<;>rfl
 unfold F11
 simp only [hg,hg2]
 rw [G08] at h2
 rw [G08,G08]
 refine ⟨⟨?_,h2.1⟩,h2.2⟩
 rw [List.all_append,G08]
 refine ⟨List.all_eq_true.2 fun k hk=>?_,List.all_eq_true.2 fun k hk=>?_⟩
 ·have e:=Nat.eq_of_beq_eq_true (List.all_eq_true.1 hrs k hk)
  subst e;rfl
 ·have hk:k∈(H4 hs r).flatMap TC.refs:=by simpa [B10,Ob.refs] using hk
  obtain ⟨t,ht,hkt⟩:=List.mem_flatMap.1 hk
  rcases A22 t ht with ⟨z,rfl⟩ | rfl
  ·cases hkt
  ·have:k=703:=by simpa [TC.refs] using hkt
   subst this;rfl
set_option maxHeartbeats 1000000
theorem E77 (raw:List Int) (ctx:Int) (r:Nat) (hr:r < (d8 [111] [110] raw (M2 ctx 4)).length):AL.Met Tryz.prog 17 [(A43 raw).s1,(I8 ctx).s1] [] [] []
  (fun rs ob'=>rs=[.agg [.p (.v (.string ⟨([111]:Str).toArray⟩)),.p (.v (.string ⟨([110]:Str).toArray⟩)),.mut 702],(I1 (P3 raw)).s1,(I1 (T3 raw)).s1]∧ob'=[(702,.growT 29 (d8 [111] [110] raw (M2 ctx 4)).length 3 (H4 (d8 [111] [110] raw (M2 ctx 4)) r)),(703,.grow 36 PatchLine 2 plineC (hunkLs (d8 [111] [110] raw (M2 ctx 4)) r))]):=by
 have ha:=s5 raw
 have hb:=A82 raw
 have hmk:=E75 [111] [110] (P3 raw) (T3 raw) (M2 ctx 4) (by omega) (by omega) r hr
 rw [show (n8 [111] [110] (P3 raw) (T3 raw) (M2 ctx 4) false).1.Hunks=d8 [111] [110] raw (M2 ctx 4) from rfl] at hmk
 obtain ⟨hs,hhs⟩:∃hs,hs=d8 [111] [110] raw (M2 ctx 4):=⟨_,rfl⟩
 rw [←hhs] at hmk ⊢
 refine AL.Met.intro Tryz.func17 (by decide) Z Z Z ?_
 refine k2 ?_
 refine A3 (C4 (F7 4 Z) Z (A2 (A5 Z Z) Z (A2 (A5 Z Z) Z (A6 ?_))))
 refine k1 (k2 ?_)
 refine A3 (A2 (A4 Z Z) Z (C2 (F13 raw 0 9 5 (by omega) (by omega) (by omega)) Z Z Z ?_));rintro _ rfl;refine A2 (A5 Z Z) Z (A6 ?_)
 rw [←D28]
 refine k1 (k2 ?_)
 refine A3 (A2 (A4 Z Z) Z (A2 (A4 Z Z) Z (C2 (F14 (P3 raw) raw 100 (by omega) (by omega)) Z Z Z ?_)));rintro _ rfl;refine A2 (A5 Z Z) Z (A6 ?_)
 rw [←D29]
 refine k1 (k2 ?_)
 refine A3 (A2 (A4 Z Z) Z (A2 (A4 Z Z) Z (A2 (A4 Z Z) Z (C2 (A60 ctx 4 (by omega) (by omega)) Z Z Z ?_))));rintro _ rfl;refine l_new (hmk) Z Z Z Z ?_;rintro _ _ ⟨rfl,rfl⟩;refine ⟨E31 rfl rfl,?_⟩;refine A2 (A4 Z Z) Z (A2 (C5 Z Z) Z (A2 (C5 Z Z) Z (C4 (F7 9 (by show ((H4 hs r).all (TC.free 9)&&true)=true;rw [l9 hs r rfl];rfl)) Z ?_)));refine F3 (B8 TySz.out Z Z Z Z Z Z) (A2 (A5 Z Z) Z (A6 ?_))
 refine k1 (k2 ?_)
 refine A3 (A2 (C1 Z Z Z) Z (A2 (A4 Z Z) Z (A2 (A4 Z Z) Z (F3 (B8 TySz.out Z Z Z Z Z Z) (A2 (A5 Z Z) Z (A2 (A5 Z Z) Z (A6 ?_)))))))
 refine k1 (k10 ?_)
 exact X4 (retsC3 rfl rfl rfl rfl rfl rfl) (by repeat (first | exact I4 | refine I5 rfl ?_ | refine K6 _ ?_)) (ObIn.spec (ob':=[(702,_),(703,_)]) ⟨rfl,rfl,trivial⟩) ⟨rfl,rfl⟩
end Go.Proofs.YtbiadkkamhpdnaaGreatDoor
namespace Go.Proofs.YtbiadkkamhpdnaaGreatDoor
open Go Go.AL
set_option maxRecDepth 100000
set_option maxHeartbeats 1000000
end Go.Proofs.YtbiadkkamhpdnaaGreatDoor
namespace Go.Proofs.YtbiadkkamhpdnaaGreatDoor
open Go Go.AL
set_option maxRecDepth 100000
set_option maxHeartbeats 1000000
end Go.Proofs.YtbiadkkamhpdnaaGreatDoor
