/- Walks of the program's functions. -/
import Derived.Test.YtkahafmcmiiolaaGreatDoorFa
import Derived.Test.YtkahafmcmiiolaaGreatDoorFs
import Derived.Lib.Bytealg
set_option linter.unusedSimpArgs false
namespace Go.Proofs.YtkahafmcmiiolaaGreatDoor
open Go Go.AL
set_option maxRecDepth 100000
set_option maxHeartbeats 1000000
structure FewT (g:Graph):Prop where
 few:FewG g
 tree:∀c∈g,FewF c.Files
theorem FewT.files {g:Graph} (h:FewT g) (c:Nat):FewF (O4 g c):=by
 unfold O4
 by_cases hc:c < g.length
 ·rw [J60 hc];exact h.tree _ (J66 hc)
 ·rw [J80 (by omega)];exact ⟨by simp,(fun _ h=>by cases h),(fun _ h=>by cases h)⟩
theorem B98:∀{g:List Commit} {i:Nat},(∀k,k < i→∀h:k < g.length,G5 g[k].Files=0)→X4 g=X4 (g.drop i)
 | g,0,_=>rfl
 | [],i+1,_=>by simp
 | c::r,i+1,h=>by
  have h0:=h 0 (by omega) (by simp)
  rw [X4,if_neg (by simpa using h0),List.drop_succ_cons]
  exact B98 fun k hk hl=>h (k+1) (by omega) (by simpa using hl)
theorem I05 (g:Graph) (h:FewT g):FnOk Tryz.prog 62 [P1 g] (fun rs=>rs=[G1 (N8 g)]):=by
 have hg:=h.few.len
 refine FnOk.intro Tryz.func62 (by decide) J J J J ?_
 refine k2 (A2 (A6 J J (A4 ?_)));refine k1 (k2 (k3 (k2 (A2 (A3 J J (D8 (G32 g h.few (by omega)) J J J ?_))))));rintro _ rfl;refine A5 (U0 J) J (A6 J J (A4 ?_));refine k1 ?_;refine B0 rfl (fun ht=>?_) (fun ht=>?_)
 ·have h1:j6 g=false:=by simpa using ht
  refine k2 (A2 (A6 J J (A4 ?_)));refine k1 (k10 (k12 (k11 ?_)))
  exact B7 (rs:=[G1 1]) (I4 rfl rfl rfl) (by unfold N8;rw [if_pos h1])
 have hlim:j6 g=true:=by simpa using ht
 refine k2 (A2 (A3 J J (D8 (G33 g h.few (by omega)) J J J ?_)));rintro _ rfl;refine A5 (U0 J) J (A6 J J (A4 ?_));refine k1 ?_;refine B0 rfl (fun ht=>?_) (fun ht=>?_)
 ·have h1:related g=false:=by simpa using ht
  refine k2 (A2 (A6 J J (A4 ?_)));refine k1 (k10 (k12 (k11 ?_)))
  exact B7 (rs:=[G1 230]) (I4 rfl rfl rfl) (by unfold N8;rw [if_neg (by rw [hlim];decide),if_pos h1])
 have hrel:related g=true:=by simpa using ht
 have hres:N8 g=if cyclic g=true then 231 else if C67 g=true then 3 else X4 g:=by unfold N8;rw [if_neg (by rw [hlim];decide),if_neg (by rw [hrel];decide)]
 rw [hres]
 refine k2 (A2 (A3 J J (D8 (H21 g h.few hrel) J J J ?_)));rintro _ ⟨ch,out,rfl,hK⟩;refine F3 J J (A3 J J (F3 J J (G7 J J J (A6 J J (A4 ?_)))))
 have hcy:=hK.done hrel
 have hcy:decide ((out.length:Int) < g.length)=cyclic g:=by rw [←hcy,decide_eq_decide];omega
 refine k1 ?_
 rw [hcy]
 refine B0 rfl (fun ht=>?_) (fun ht=>?_)
 ·rw [if_pos ht]
  refine k2 (A2 (A6 J J (A4 ?_)));refine k1 (k10 (k12 (k11 ?_)))
  exact B7 (rs:=[G1 231]) (I4 rfl rfl rfl) rfl
 rw [ht,if_neg (by decide)]
 refine k2 (A2 (A3 J J (D8 (A38 97 (fun c=>decide (c.Date < 0∨c.Date > 2147483647)) g (by omega) (fun c _=>H19 c)) J J J ?_)));rintro _ rfl;refine A6 J J (A4 ?_);refine k1 ?_;refine B0 rfl (fun ht=>?_) (fun ht=>?_)
 ·have h1:C67 g=true:=ht
  rw [if_pos h1]
  refine k2 (A2 (A6 J J (A4 ?_)));refine k1 (k10 (k12 (k11 ?_)))
  exact B7 (rs:=[G1 3]) (I4 rfl rfl rfl) rfl
 have hbd:C67 g=false:=ht
 rw [hbd,if_neg (by decide)]
 refine k5 (k2 (k2 (A2 (A3 J J (F3 J J (A3 J J (A4 ?_)))))));refine k1 (k3 (D6 (X:=Nat) (fun i=>([(24,D5 Commit 3 J5 g),(25,C3 g.length),(26,C3 i)],[])) (fun i=>i≤g.length∧∀k,k < i→∀h:k < g.length,G5 g[k].Files=0) (fun i=>g.length - i) 0 ⟨Nat.zero_le _,fun c h=>by omega⟩ (Sees.of ⟨le1 rfl,le1 rfl,le1 rfl,trivial⟩ trivial) ?_))
 rintro i ⟨hi,hz⟩
 dsimp only at hi hz ⊢
 have hfe:=B98 hz
 refine k2 (A2 (G7 J J J (A4 ?_)));refine k1 (k2 ?_);refine B0 rfl (fun ht=>?_) (fun ht=>?_)
 ·have hlt:i < g.length:=by have h1:=A0 ht;(try dsimp only at h1);omega
  obtain ⟨c,hc⟩:∃c,c=g[i]:=⟨_,rfl⟩
  have hv:g[i]?=some c:=by rw [hc];simp [hlt]
  have hm:c∈g:=by rw [hc];exact J66 hlt
  rw [J71 hlt,←hc,X4] at hfe
  refine k5 (k1 (k2 (k3 (k2 (A2 (A5 (B3 J (.pure _ _ _ _) J (by omega) hv) J (A5 (E3 J J) J (D2 (I9 4 J) J (H7 (C4 TySz.out J J J J J J) (A4 ?_))))))))));refine k1 (k2 (A2 (A5 (A7 J) J (G3 J J J J (D8 (C20 c.Files (h.tree c hm)) J J J ?_)))));rintro _ rfl;refine A6 J J (A4 ?_);refine k1 (k2 (A2 (A3 J J (A5 (T9 J J) J (A4 ?_)))));refine k1 ?_;refine B0 rfl (fun ht=>?_) (fun ht=>?_)
  ·have h2:G5 c.Files≠0:=A0 ht
   rw [if_pos h2] at hfe
   rw [hfe]
   refine k2 (A2 (A3 J J (A6 J J (A4 ?_))));refine k1 (k10 (k12 (k11 (k11 (k12 (k11 ?_))))))
   exact B7 (rs:=[G1 (G5 c.Files)]) (I4 rfl rfl rfl) rfl
  ·have h2:¬G5 c.Files≠0:=A1 ht
   refine k5 (k4 (k1 (A2 (E4 J J J (A3 J J (A4 ?_))))));refine k1 ?_;refine ⟨i+1,⟨hlt,fun k hk hkl=>?_⟩,by omega,(Sees.of ⟨le1 rfl,le1 rfl,le1 rfl,trivial⟩ trivial)⟩
   by_cases e:k=i
   ·subst e;rw [←hc];exact Decidable.not_not.1 h2
   ·exact hz k (by omega) hkl
 have hie:i=g.length:=by have h1:=A1 ht;(try dsimp only at h1);omega
 rw [hie,List.drop_length] at hfe
 rw [hfe]
 refine k6 (k2 (A2 (A6 J J (A4 ?_))));refine k1 (k10 ?_)
 exact B7 (rs:=[G1 0]) (I4 rfl rfl rfl) rfl
set_option maxHeartbeats 1000000
set_option maxHeartbeats 1000000
theorem G46 {nd s:Str} {p:Nat} {out:List Int} {f:Nat} (h:A18 nd s f p out=X7 nd s):out.length≤(X7 nd s).length:=by
 have key:∀(f p:Nat) (out:List Int),out.length≤(A18 nd s f p out).length:=by
  intro f
  induction f with
  | zero=>intro p out;exact Nat.le_refl _
  | succ f ih =>
   intro p out
   rw [A18]
   split
   ·exact Nat.le_refl _
   ·rename_i i _
    have:=ih (i+nd.length) (out++[(i:Int)])
    rw [J63] at this
    omega
 rw [←h];exact key f p out
theorem G47 {w:World} (h:Grd Tryz.prog (fun _=>False) w):∃m,w.cell? ⟨0,0,none⟩=some (.int .i64 m):=by
 obtain ⟨wg,⟨hsh,_⟩,hle,hk⟩:=h
 obtain ⟨m,hm⟩:=Tryz.laysM143.s1_3 wg hsh
 refine ⟨m,?_⟩
 have hlt:0 < wg.heap.size:=World.block_lt_of_cell? wg _ hm
 rw [World.cell?_of_block (w:=wg) (a:=⟨0,0,none⟩) (hk _ hlt).1]
 exact hm
theorem J04 (s nd:Str) (hs:s.length < 4294967281):FnOk Tryz.prog 118 [M1 s,M1 nd] (fun rs=>rs=[G1 (Lib.index s nd)]) :=
 J46 (xs:=[.string ⟨s.toArray⟩,.string ⟨nd.toArray⟩]) ⟨_,rfl,rfl,rfl⟩ rfl fun w hg=>by
  obtain ⟨m,hm⟩:=G47 hg
  refine (Tryz.strings_Index ⟨s.toArray⟩ ⟨nd.toArray⟩ m w hs hm).mono ?_
  rintro e w' ⟨rfl,rfl⟩
  exact ⟨by simp,rfl,rfl,rfl,Nat.le_refl _,fun _ _=>rfl⟩
theorem G48 (nd s:Str) (p:Nat) (hn:nd.length≤1073741824) (hs:s.length≤1073741824):FnOk Tryz.prog 84 [M1 nd,M1 s,G1 p] (fun rs=>rs=[G1 ((U7 nd s p).getD 0:Nat),J2 (U7 nd s p).isSome]):=by
 refine FnOk.intro Tryz.func84 (by decide) J J J J ?_
 refine k2 (A2 (A6 J J (A6 J J (A4 ?_))));refine k1 (k2 (k2 (A2 (A3 J J (A5 (A90 J J) J (A3 J J (C2 J J J J (fun hg=>by rw [hg];exact C8 J J) ?_)))))));refine C2 J J J J (fun hg=>by rw [hg];exact B34 J J) ?_;refine A5 (D7 J (fun h=>by first | rfl | (rw [h];rfl)) (fun h=>by first | rfl | (rw [h];rfl))) J ?_;refine A3 J J (C2 J J J J (fun hg=>by rw [hg];exact C8 J J) ?_);refine C2 J J J J (fun hg=>by rw [hg];exact C8 J J) ?_;refine C2 J J J J (fun hg=>by rw [hg];exact N2 J) ?_;refine C2 J J J J (fun hg=>by rw [hg];exact R8 J J) ?_;refine A5 (D7 J (fun h=>by first | rfl | (rw [h];rfl)) (fun h=>by first | rfl | (rw [h];rfl))) J ?_;refine A4 ?_;refine k1 ?_;refine B0 rfl (fun ht=>?_) (fun ht=>?_)
 ·simp only [or_pick] at ht
  have h:=A0 ht
  have hno:U7 nd s p=none:=by
   unfold U7
   rw [if_pos (by rcases h with (h | h) | h<;>first | exact .inl h | exact absurd h (by omega) | exact .inr (.inl (by omega)))]
  rw [hno]
  refine k2 (A2 (A6 J J (A6 J J (A4 ?_))));refine k1 (k10 (k11 ?_))
  exact B7 (rs:=[G1 0,J2 false]) (l9 rfl rfl rfl rfl rfl) rfl
 simp only [or_pick] at ht
 have h:=A1 ht
 have hne:nd≠[]:=fun e=>h (.inl (.inl e))
 have hpl:p≤s.length:=by
  apply Classical.byContradiction
  intro e;exact h (.inr (by omega))
 have hdl:(s.drop p).length≤s.length:=by rw [J76];omega
 have hlo:=Lib.index_ge (s.drop p) nd
 have hhi:=Lib.index_room (s.drop p) nd
 rw [J76] at hhi
 have hnx:U7 nd s p=if Lib.index (s.drop p) nd < 0 then none else some (p+(Lib.index (s.drop p) nd).toNat):=by
  unfold U7
  by_cases h0:Lib.index (s.drop p) nd < 0
  ·rw [if_pos (.inr (.inr h0)),if_pos h0]
  ·rw [if_neg (by simp only [not_or];exact ⟨hne,by omega,h0⟩),if_neg h0]
 obtain ⟨i,hi⟩:∃i,i=Lib.index (s.drop p) nd:=⟨_,rfl⟩
 refine k5 (k1 (k2 (A2 (A3 J J (A3 J J (A5 (H93 J J (by omega) (by omega)) J (A3 J J (D8 (J04 (s.drop p) nd (by omega)) J J J ?_))))))));rintro _ rfl;refine A6 J J (A4 ?_)
 rw [J62,←hi]
 rw [←hi] at hnx hlo hhi
 refine k1 (k2 (k2 (A2 (A3 J J (G7 J J J (A4 ?_))))));refine k1 ?_;refine B0 rfl (fun ht=>?_) (fun ht=>?_)
 ·have h1:i < 0:=A0 ht
  rw [hnx,if_pos h1]
  refine k2 (A2 (A6 J J (A6 J J (A4 ?_))));refine k1 (k10 (k11 ?_))
  exact B7 (rs:=[G1 0,J2 false]) (l9 rfl rfl rfl rfl rfl) rfl
 ·have h1:¬i < 0:=A1 ht
  rw [hnx,if_neg h1]
  refine k5 (k1 (k2 (A2 (A3 J J (A3 J J (E4 J J J (A6 J J (A6 J J (A4 ?_)))))))));refine k1 (k10 (B7 (l9 J J J J J) ?_))
  dsimp only [Option.getD,Option.isSome]
  rw [show (p:Int)+i=((p+i.toNat:Nat):Int) by omega]
theorem E93 (nd s:Str) (hn:nd.length≤1073741824) (hs:s.length≤16777216):FnOk Tryz.prog 51 [M1 nd,M1 s] (fun rs=>rs=[L1 (X7 nd s)]):=by
 have hpl:=A68 nd s
 refine FnOk.intro Tryz.func51 (by decide) J J J J ?_
 refine k2 (A2 (A6 J J (A4 ?_)));refine k1 (k2 (A2 (D2 (Y1 5 _ F0 J) J (A4 ?_))));refine k1 (k2 (A2 (A3 J J (A3 J J (D8 (G48 nd s 0 hn (by omega)) J J J ?_)))));rintro _ rfl;refine A3 J J (H5 J J J (H5 J J J (A6 J J (A6 J J (A4 ?_)))));refine k1 (k2 (k3 (D6 (X:=Nat × List Int) (fun x=>([(0,V5 nd),(1,V5 s),(5,.s (.one (.buf 5 Int 1 F0 x.2))),(6,C3 ((U7 nd s x.1).getD 0:Nat)),(7,R0 (U7 nd s x.1).isSome)],[(5,.spare x.2.length 1 3)])) (fun x=>x.1≤s.length∧A18 nd s (s.length+2 - x.1) x.1 x.2=X7 nd s) (fun x=>s.length+1 - x.1) (0,[]) ⟨Nat.zero_le _,rfl⟩ (Sees.of ⟨le1 rfl,le1 rfl,le1 rfl,le1 rfl,le1 rfl,trivial⟩ ⟨rfl,trivial⟩) ?_)))
 rintro ⟨p,out⟩ ⟨hp,hg⟩
 dsimp only at hp hg ⊢
 have hob:=G46 hg
 refine k2 (k2 (A2 (A3 J J (A4 ?_))));refine k1 ?_
 cases hnx:U7 nd s p with
 | none =>
  rw [A87 hnx] at hg
  refine B0 rfl (fun ht=>?_) (fun ht=>?_)
  ·cases ht
  ·refine k6 (k2 (A2 (A3 J J (A6 J J (A4 ?_)))));refine k1 (k10 ?_)
   exact B7 (rs:=[L1 out]) (I4 rfl rfl rfl) (by rw [hg])
 | some i =>
  have hro:=A49 hnx
  have hnp:0 < nd.length:=List.length_pos_iff.2 hro.1
  rw [C37 (by omega) hnx] at hg
  refine B0 rfl (fun ht=>?_) (fun ht=>?_)
  ·refine k5 (k1 (k3 (k2 (A2 (A3 J J (A3 J J (A5 (D1 (c:=F0) (ys:=[(i:Int)]) (E5 J J J J H1) J J J) J (D2 (M6 J J J (.pure _ _ _ _) (by (simp only [J64,J68];omega)) J) J (A6 J J (A4 ?_))))))))));refine k1 ?_
   dsimp only [Option.getD]
   refine A2 (A3 J J (A3 J J (A3 J J (A3 J J (A5 (N2 J) J (E4 J J J (D8 ((show FnOk Tryz.prog 84 [M1 nd,M1 s,G1 ((i:Int)+(nd.length:Int))] (fun rs=>rs=[G1 ((U7 nd s (i+nd.length)).getD 0:Nat),J2 (U7 nd s (i+nd.length)).isSome]) from by rw [show (i:Int)+(nd.length:Int)=((i+nd.length:Nat):Int) by omega];exact G48 nd s (i+nd.length) hn (by omega))) J J J ?_)))))));rintro _ rfl;refine A3 J J (H5 J J J (H5 J J J (A6 J J (A6 J J (A4 ?_)))));refine k4 (k1 ?_);refine ⟨(i+nd.length,out++[(i:Int)]),⟨by dsimp only;omega,?_⟩,by dsimp only;omega,(Sees.of ⟨le1 rfl,le1 rfl,le1 rfl,le1 rfl,le1 rfl,trivial⟩ ⟨rfl,trivial⟩)⟩
   dsimp only
   rw [←hg]
   exact E73 _ _ _ _ (by omega) (by omega)
  ·cases ht
theorem B74 (nd s:Str) (hn:nd.length≤1073741824) (hs:s.length≤16777216):FnOk Tryz.prog 34 [M1 nd,M1 s] (fun rs=>rs=[G1 (W6 nd s)]):=by
 have hpl:=A68 nd s
 refine FnOk.intro Tryz.func34 (by decide) J J J J ?_
 refine k2 (A2 (A6 J J (A4 ?_)));refine k1 (k2 (A2 (A3 J J (A3 J J (D8 (E93 nd s hn hs) J J J ?_)))));rintro _ rfl;refine F3 J J (A6 J J (A4 ?_));refine k1 (k10 ?_)
 exact B7 (I4 rfl rfl rfl) rfl
set_option maxHeartbeats 1000000
theorem D08 {g:Graph} {c:Nat} {cm:Commit} (h:g[c]?=some cm):O4 g c=cm.Files:=by unfold O4;rw [h];rfl
def o9 (g:Graph) (ps:List Int) (i:Nat):List (List File):=(ps.take i).map fun p=>O4 g p.toNat
theorem F77 {g:Graph} {ps:List Int} {i:Nat} (h:i < ps.length):o9 g ps (i+1)=o9 g ps i++[O4 g ps[i].toNat]:=by
 unfold o9
 rw [List.take_add_one,J60 h,Option.toList_some,J91];rfl
theorem G49 (g:Graph) (ps:List Int) (i:Nat):(o9 g ps i).length≤i:=by
 unfold o9;rw [J85,J70];omega
set_option maxHeartbeats 1000000
theorem I49 (xs bs:List Str):(A12 xs bs).length≤xs.length+bs.length:=by
 have key:∀(xs:List Str),∀bs,(A12 xs bs).length≤xs.length+bs.length:=by
  intro xs
  induction xs with
  | nil=>intro bs;simp [A12]
  | cons a xs ih =>
   intro bs
   rw [A12]
   induction bs with
   | nil=>rw [p7];have:=ih [];simp only [J68,J64] at this ⊢;omega
   | cons b bs ihb =>
    rw [p7]
    split
    ·have:=ih (b::bs);simp only [J64] at this ⊢;omega
    ·split
     ·simp only [J64] at ihb ⊢;omega
     ·have:=ih bs;simp only [J64] at this ⊢;omega
 exact key xs bs
set_option maxHeartbeats 1000000
theorem E28 (a b:List File):(V0 a b).length≤a.length+b.length:=by
 unfold V0
 have h1:=List.length_filterMap_le (B06 a b) (A12 (a.map (·.Path)) (b.map (·.Path)))
 have h2:=I49 (a.map (·.Path)) (b.map (·.Path))
 rw [J85,J85] at h2
 omega
theorem Valid.files {g:Graph} (h:Valid g) (c:Nat):(O4 g c).length≤200:=by
 unfold O4
 by_cases hc:c < g.length
 ·rw [J60 hc]
  exact (p9 (h.tree _ (J66 hc))).2.1
 ·rw [J80 (by omega)];simp
theorem Valid.trees {g:Graph} (h:Valid g) (c:Nat):∀t∈O5 g c,t.length≤200:=by
 intro t ht
 unfold O5 at ht
 split at ht
 ·rw [List.mem_singleton.1 ht];simp
 ·obtain ⟨p,_,rfl⟩:=List.mem_map.1 ht
  exact Valid.files h _
theorem B45 {g:Graph} (h:Valid g) (c:Nat):(O5 g c).length≤33:=by
 unfold O5
 split
 ·simp
 ·rw [J85]
  by_cases hc:c < g.length
  ·rw [u7 hc];have:=h.pars _ (J66 hc);omega
  ·rw [B56 hc];simp
theorem G50 {l:List File} (h:FewF l) (p:Str):(A50 l p).length≤16777216:=by
 unfold A50
 cases hf:K3 l p with
 | none=>simp
 | some x =>
  obtain ⟨f,hm,_,rfl⟩:=A14 hf
  exact h.blob f hm
structure FewB (B:List (List (Str × Str))):Prop where
 len:B.length≤33
 lens:∀l∈B,l.length≤400
 strs:∀l∈B,∀x∈l,x.1.length≤16777216∧x.2.length≤16777216
theorem D09 {g:Graph} (h:FewT g) (hv:Valid g) (c:Nat):FewB (O2 g c) where
 len:=by unfold O2;rw [J85];exact B45 hv c
 lens:=fun l hl=>by
  unfold O2 at hl
  obtain ⟨t,ht,rfl⟩:=List.mem_map.1 hl
  unfold B18
  rw [J85]
  have h1:=E28 t (O4 g c)
  have h2:=Valid.trees hv c t ht
  have h3:=Valid.files hv c
  omega
 strs:=fun l hl x hx=>by
  unfold O2 at hl
  obtain ⟨t,ht,rfl⟩:=List.mem_map.1 hl
  unfold B18 at hx
  obtain ⟨d,_,rfl⟩:=List.mem_map.1 hx
  refine ⟨G50 ?_ _,G50 (h.files c) _⟩
  unfold O5 at ht
  split at ht
  ·rw [List.mem_singleton.1 ht];exact ⟨by simp,(fun _ h=>by cases h),(fun _ h=>by cases h)⟩
  ·obtain ⟨p,_,rfl⟩:=List.mem_map.1 ht
   exact h.files _
def Z4 (ts:List (List File)) (u:List File) (i:Nat):List (List (Str × Str)):=(ts.take i).map fun t=>B18 t u
theorem F78 {ts:List (List File)} {u:List File} {i:Nat} (h:i < ts.length):Z4 ts u (i+1)=Z4 ts u i++[B18 ts[i] u]:=by
 unfold Z4
 rw [List.take_add_one,J60 h,Option.toList_some,J91];rfl
theorem G51 (ts:List (List File)) (u:List File) (i:Nat):(Z4 ts u i).length≤ts.length:=by
 unfold Z4;rw [J85,J70];omega
def p5 (t u:List File) (ds:List Delta) (i:Nat):List (Str × Str):=(ds.take i).map (H83 t u)
theorem F79 {t u:List File} {ds:List Delta} {i:Nat} (h:i < ds.length):p5 t u ds (i+1)=p5 t u ds i++[H83 t u ds[i]]:=by
 unfold p5
 rw [List.take_add_one,J60 h,Option.toList_some,J91];rfl
theorem D40 (t u:List File) (ds:List Delta) (i:Nat):(p5 t u ds i).length≤ds.length:=by
 unfold p5;rw [J85,J70];omega
theorem C57 (nd s:Str) (hs:s.length≤16777216):0≤W6 nd s∧W6 nd s≤16777218:=by
 have:=A68 nd s
 unfold W6;omega
set_option maxHeartbeats 1000000
theorem cmp_lt:∀(a b:Str),decide (Lib.compareBytes a b < 0)=ltS a b
 | [],[]=>rfl
 | [],_::_=>rfl
 | _::_,[]=>rfl
 | a::x,b::y=>by
  rw [Lib.compareBytes,A83]
  have ih:=cmp_lt x y
  by_cases h1:a < b
  ·simp [h1]
  ·by_cases h2:b < a
   ·have:¬a=b:=fun e=>by subst e;exact h1 h2
    simp [h1,h2,this]
   ·have:a=b:=UInt8.toNat_inj.1 (by rw [UInt8.lt_iff_toNat_lt] at h1 h2;omega)
    subst this
    simpa [h1] using ih
theorem H26 (a b:Str):FnOk Tryz.prog 123 [M1 a,M1 b] (fun rs=>rs=[G1 (Lib.compareBytes a b)]) :=
 J40 (xs:=[.string ⟨a.toArray⟩,.string ⟨b.toArray⟩]) ⟨_,rfl,rfl,rfl⟩ rfl fun w=>by simpa using Tryz.strings_Compare ⟨a.toArray⟩ ⟨b.toArray⟩ w
theorem I50 (x y:Delta):FnOk Tryz.prog 122 [pDelta x,pDelta y] (fun rs=>rs=[G1 (Lib.compareBytes x.Path y.Path)]):=by
 refine FnOk.intro Tryz.func122 (by decide) J J J J ?_
 refine k2 (A2 (D2 (l4 2 J J J) J (D2 (l4 3 J J J) J (A6 J J (A4 ?_)))));refine k1 (k2 (A2 (A5 (A7 J) J (G3 J J J J (A5 (A7 J) J (G3 J J J J (D8 (H26 x.Path y.Path) J J J ?_)))))));rintro _ rfl;refine A6 J J (A4 ?_);refine k1 (k10 ?_)
 exact B7 (I4 rfl rfl rfl) rfl
def l5 (rev:List Delta) (x:Delta) (m:Nat) (rest:List Delta):List Delta:=(rev.drop m).reverse++x::((rev.take m).reverse++rest)
theorem I51 {rev:List Delta} {x:Delta} {m:Nat} {rest:List Delta} (hm:m≤rev.length):(l5 rev x m rest).length=rev.length+1+rest.length:=by
 unfold l5
 simp only [J63,K03,J76,J64,J70]
 omega
theorem insAt_x {rev:List Delta} {x:Delta} {m:Nat} {rest:List Delta} (_hm:m≤rev.length):(l5 rev x m rest)[rev.length - m]?=some x:=by
 unfold l5
 rw [J74 (by simp),K03,J76,K06];rfl
theorem insAt_p {rev:List Delta} {x:Delta} {m:Nat} {rest:List Delta} (hm:m < rev.length):(l5 rev x m rest)[rev.length - m - 1]?=some rev[m]:=by
 unfold l5
 rw [J75 (by simp;omega),List.getElem?_reverse (by simp;omega),J76,J98]
 rw [show m+(rev.length - m - 1 - (rev.length - m - 1))=m by omega,J60 hm]
theorem H27 {rev:List Delta} {x:Delta} {m:Nat} {rest:List Delta} (hm:m < rev.length):((l5 rev x m rest).set (rev.length - m) rev[m]).set (rev.length - m - 1) x=l5 rev x (m+1) rest:=by
 have e1:(rev.drop m).reverse=(rev.drop (m+1)).reverse++[rev[m]]:=by rw [J71 hm,List.reverse_cons]
 have e2:(rev.take (m+1)).reverse=rev[m]::(rev.take m).reverse:=by rw [List.take_add_one,J60 hm,Option.toList_some,List.reverse_append];rfl
 have hl:(rev.drop (m+1)).reverse.length=rev.length - m - 1:=by rw [K03,J76];omega
 unfold l5
 rw [e1,e2,J73,J82,J93]
 generalize (rev.drop (m+1)).reverse=P at hl ⊢
 rw [←hl,show rev.length - m=P.length+1 by omega]
 rw [List.set_append_right _ _ (by omega),show P.length+1 - P.length=1 by omega]
 rw [List.set_append_right _ _ (by omega),K06]
 rfl
theorem insR_at {rev:List Delta} {x:Delta}:∀{m:Nat},m≤rev.length→(∀k,(h:k < m)→(h2:k < rev.length)→ltS x.Path rev[k].Path=true)→(∀h:m < rev.length,ltS x.Path rev[m].Path=false)→B86 x rev=rev.take m++x::rev.drop m:=by
 induction rev with
 | nil=>intro m _ _ _;rw [List.take_nil,List.drop_nil];rfl
 | cons y r ih =>
  intro m hm h1 h2
  cases m with
  | zero =>
   have:=h2 (by simp)
   unfold B86
   rw [if_neg (by rw [show y.Path=((y::r)[0]).Path from rfl,this];decide)];rfl
  | succ m =>
   have h3:ltS x.Path y.Path=true:=h1 0 (by omega) (by simp)
   unfold B86
   rw [if_pos h3,ih (m:=m) (by simpa using hm) (fun k hk hk2=>h1 (k+1) (by omega) (by simpa using hk2)) (fun h=>h2 (by simpa using h))]
   rfl
theorem H28 {rev:List Delta} {x:Delta} {m:Nat} {rest:List Delta} (hm:m≤rev.length) (h1:∀k,(h:k < m)→(h2:k < rev.length)→ltS x.Path rev[k].Path=true) (h2:∀h:m < rev.length,ltS x.Path rev[m].Path=false):l5 rev x m rest=(B86 x rev).reverse++rest:=by
 rw [insR_at hm h1 h2]
 unfold l5
 rw [List.reverse_append,List.reverse_cons]
 simp only [J73,List.singleton_append,J82,J93]
theorem F22 (l acc:List Delta):(l6 acc l).length=acc.length+l.length:=by
 induction l generalizing acc with
 | nil=>rfl
 | cons x r ih=>rw [l6,ih,D52,J64];omega
theorem H29 (l:List Delta) (i:Nat) (h:i < l.length):l6 [] (l.take (i+1))=B86 l[i] (l6 [] (l.take i)):=by
 have key:∀(a b acc:List Delta),l6 acc (a++b)=l6 (l6 acc a) b:=by
  intro a
  induction a with
  | nil=>intro b acc;rfl
  | cons x r ih=>intro b acc;exact ih b _
 rw [List.take_add_one,J60 h,Option.toList_some,key];rfl
def A07 (l:List Delta) (i:Nat):List Delta:=(l6 [] (l.take i)).reverse++l.drop i
theorem H30 (l:List Delta) (i:Nat):(A07 l i).length=l.length:=by
 unfold A07
 rw [J63,K03,F22,J70,J76,J68];omega
theorem H31 (l:List Delta):A07 l 1=l:=by
 cases l with
 | nil=>rfl
 | cons x r=>rfl
theorem H32 {l:List Delta} {i:Nat} (h:i < l.length):l5 (l6 [] (l.take i)) l[i] 0 (l.drop (i+1))=A07 l i:=by
 unfold l5 A07
 rw [List.drop_zero,List.take_zero,J71 h];rfl
theorem G52 {l:List Delta} {i:Nat} (h:i < l.length):A07 l (i+1)=(B86 l[i] (l6 [] (l.take i))).reverse++l.drop (i+1):=by
 unfold A07;rw [H29 l i h]
abbrev B99 (l:List Delta):Ob:=.grow 102 Delta 2 B05 l
theorem G53 {gf:Fr} {ob:Obs} (l:List Delta) (hl:l.length≤1048576) (h0:B4 ob 802=some (B99 l)) :
  AL.Met Tryz.prog 161 [.one (.mut 802),.one (.p (.v (.int .i64 0))),.one (.p (.v (.int .i64 l.length))),.one (.p (.v (.func (.func 122) #[] #[])))] gf ob []
   (fun rs ob'=>rs=[]∧ob'=(802,B99 (C03 l))::ob):=by
 refine AL.Met.introH Tryz.func161 (by decide) rfl rfl rfl (fun hH=>?_)
 refine k2 (A2 (A3 J J (E4 J J J (A6 J J (A4 ?_)))));refine k1 (k3 ?_);refine D6 (X:=Nat) (fun i=>([(0,.s (.one (.mut 802))),(1,C3 0),(2,C3 l.length),(3,I0 (.func (.func 122) #[] #[])),(8,C3 i)]++gf,(802,B99 (A07 l i))::ob)) (fun i=>1≤i∧(i≤l.length∨(i=1∧l=[]))) (fun i=>l.length - i) 1 ⟨Nat.le_refl _,by cases l;exact .inr ⟨rfl,rfl⟩;left;simp⟩ ?_ ?_
 ·rw [H31]
  exact J36 ⟨le1 rfl,le1 rfl,le1 rfl,le1 rfl,le1 rfl,trivial⟩ hH (by repeat (first | exact A8 | refine A9 rfl ?_)) (C9 (L:=[(802,_)]) ⟨h0,trivial⟩ B8)
 rintro i ⟨hi1,hi2⟩
 dsimp only at hi1 hi2 ⊢
 have hdl:=H30 l i
 refine k2 (k2 (A2 (A3 J J (A3 J J (G7 J J J (A4 ?_))))));refine k1 ?_;refine B0 rfl (fun ht=>?_) (fun ht=>?_)
 rotate_left
 ·have h1:=A1 ht
  have he:A07 l i=C03 l:=by
   rcases hi2 with h2 | ⟨h2,h3⟩
   ·have:i=l.length:=by omega
    rw [this];unfold A07 C03;rw [J67,List.drop_length,J87]
   ·rw [h2,h3];rfl
  rw [he]
  refine k6 (k7 (k7 (k8 J ?_)))
  exact P6 (A31 rfl) (by repeat (first | exact A8 | refine A9 rfl ?_ | refine B6 _ ?_)) (fun _ _ h=>h) ⟨rfl,rfl⟩
 have hlt:i < l.length:=by have h1:=A0 ht;omega
 obtain ⟨x,hx⟩:∃x,x=l[i]:=⟨_,rfl⟩
 obtain ⟨rev,hrev⟩:∃rev,rev=l6 [] (l.take i):=⟨_,rfl⟩
 obtain ⟨rest,hrest⟩:∃rest,rest=l.drop (i+1):=⟨_,rfl⟩
 have hrl:rev.length=i:=by rw [hrev,F22,J70,J68];omega
 have hrestl:rest.length=l.length - (i+1):=by rw [hrest,J76]
 have e0:=H32 hlt
 have e1:=G52 hlt
 rw [←hx,←hrev,←hrest] at e0 e1
 rw [←e0]
 refine k5 (k1 (k2 (k3 (k2 (A2 (A3 J J (A6 J J (A4 ?_))))))));refine k1 (k3 ?_);refine D6 (X:=Nat) (fun m=>([(0,.s (.one (.mut 802))),(1,C3 0),(2,C3 l.length),(3,I0 (.func (.func 122) #[] #[])),(8,C3 i),(9,C3 ((i - m:Nat):Int))]++gf,(802,B99 (l5 rev x m rest))::ob)) (fun m=>m≤i∧∀k,(h:k < m)→(h2:k < rev.length)→ltS x.Path rev[k].Path=true) (fun m=>i - m) 0 ⟨Nat.zero_le _,fun k h=>by omega⟩ ?_ ?_
 ·exact J36 ⟨le1 rfl,le1 rfl,le1 rfl,le1 rfl,le1 rfl,le1 rfl,trivial⟩ hH (by repeat (first | exact A8 | refine A9 rfl ?_)) (C9 (L:=[(802,_)]) ⟨rfl,trivial⟩ (by repeat (first | exact B8 | refine C0 rfl ?_)))
 rintro m ⟨hm,hall⟩
 dsimp only at hm hall ⊢
 have hil:=I51 (x:=x) (rest:=rest) (show m≤rev.length by omega)
 have hvx:=insAt_x (x:=x) (rest:=rest) (show m≤rev.length by omega)
 rw [hrl] at hil hvx
 have hvx:(l5 rev x m rest)[((i - m:Nat):Int).toNat]?=some x:=by rw [J62];exact hvx
 have hvp:(0:Int) < ((i - m:Nat):Int)→(l5 rev x m rest)[(((i - m:Nat):Int) - 1).toNat]?=some (rev.getD m ⟨[],0⟩):=fun h=>by
  have:=insAt_p (x:=x) (rest:=rest) (show m < rev.length by omega)
  rw [show (((i - m:Nat):Int) - 1).toNat=rev.length - m - 1 by omega,this,J65,J60 (by omega)];rfl
 obtain ⟨y,hy⟩:∃y,y=rev.getD m ⟨[],0⟩:=⟨_,rfl⟩
 rw [←hy] at hvp
 have hcmp:=cmp_lt x.Path y.Path
 refine k2 (k2 (F5 (by kernel_rfl) (by kernel_rfl) (F9 J J (F9 J J (B5 (R8 J J) J J (F9 J J (F7 J J (fun hg=>by rw [hg];exact C8 J J) J J ?_)))))));refine F7 J J (fun hg=>by rw [hg];exact C8 J J) J J ?_;refine F7 J J (fun hg=>by rw [hg];exact C8 J J) J J ?_;refine F7 J J (fun hg=>by have hq:=hg;(try simp at hq);rw [hg];exact H0 J J J (by omega) (by (rw [hil];omega))) J J ?_;refine F7 J J (fun hg=>by rw [hg];exact z6 J J hvx J) J J ?_;refine F7 J J (fun hg=>by rw [hg];exact C8 J J) J J ?_;refine F7 J J (fun hg=>by rw [hg];exact C8 J J) J J ?_;refine F7 J J (fun hg=>by have hq:=hg;(try simp at hq);rw [hg];exact K1 J J (by omega)) J J ?_;refine F7 J J (fun hg=>by have hq:=hg;(try simp at hq);rw [hg];exact H0 J J J (by omega) (by (rw [hil];omega))) J J ?_;refine F7 J J (fun hg=>by have hq:=hg;(try simp at hq);rw [hg];exact z6 J J (hvp (by omega)) J) J J ?_;refine F7 J J (fun hg=>by rw [hg];exact F66 (I50 x y) J J J) J J ?_;refine F7 J J (fun hg=>by rw [hg];exact B34 J J) J J ?_;refine B5 (D7 J (fun h=>by first | rfl | (rw [h];rfl)) (fun h=>by first | rfl | (rw [h];rfl))) J J ?_;refine R1 ?_;refine k1 ?_;refine B0 rfl (fun ht=>?_) (fun ht=>?_)
 ·rw [G78,J61,decide_eq_true_eq,hcmp] at ht
  have hml:m < rev.length:=by omega
  have hym:y=rev[m]:=by rw [hy,J65,J60 hml];rfl
  have hsw:=H27 (x:=x) (rest:=rest) hml
  rw [hrl,←hym] at hsw
  have hvp:=hvp ht.1
  have hvp2:((l5 rev x m rest).set ((i - m:Nat):Int).toNat y)[(((i - m:Nat):Int) - 1).toNat]?=some y:=by
   rw [List.getElem?_set_ne (by omega)];exact hvp
  refine k5 (k1 (k2 (k3 (N6 [17,15] [[],[15],[17,15]] [(15,([],[])),(17,([],[]))] [(0,[]),(1,[]),(2,[]),(3,[]),(4,[]),(5,[]),(6,[]),(7,[]),(8,[]),(9,[]),(10,[]),(11,[]),(12,[]),(13,[]),(14,[]),(15,[]),(16,[15]),(17,[15])] [(2,[15]),(3,[15]),(4,[15])] (by kernel_rfl) (by kernel_rfl) (E2 J J (by kernel_rfl) J J (C8 J J) (E2 J J (by kernel_rfl) J J (C8 J J) (E2 J J (by kernel_rfl) J J (C8 J J) (E2 J J (by kernel_rfl) J J (C8 J J) (E2 J J (by kernel_rfl) J J (K1 J J (by omega)) (E2 J J (by kernel_rfl) J J (C8 J J) (E2 J J (by kernel_rfl) J J (C8 J J) (E2 J J (by kernel_rfl) J J (K1 J J (by omega)) (E2 J J (by kernel_rfl) J J (H0 J J J (by omega) (by (rw [hil];omega))) ?_)))))))))))));refine E2 J J (by kernel_rfl) J J (z6 J J hvp J) (E2 J J (by kernel_rfl) J J (C8 J J) (E2 J J (by kernel_rfl) J J (C8 J J) (E2 J J (by kernel_rfl) J J (H0 J J J (by omega) (by (first | (rw [hil];omega) | (rw [J83,hil];omega)))) ?_)));refine E2 J J (by kernel_rfl) J J (z6 J J hvx J) (E2 J J (by kernel_rfl) J J (H0 J J J (by omega) (by (rw [hil];omega))) ?_);refine U9 J J (by kernel_rfl) J J (A34 (fun frc hU=>m7 (y) TySz.out (Q5 hU J) J hvx (Q5 hU J) J J J (fun _ _ _ h=>r9 h) (by intro j h1 h2;rcases j with _ | _ | _ | _ | _ | _ | _ | j<;>first | rfl | omega))) J ?_;refine E2 J J (by kernel_rfl) J J (H0 J J J (by omega) (by (rw [J83,hil];omega))) ?_;refine U9 J J (by kernel_rfl) J J (A34 (fun frc hU=>m7 (x) TySz.out (Q5 hU J) J hvp2 (Q5 hU J) J J J (fun _ _ _ h=>r9 h) (by intro j h1 h2;rcases j with _ | _ | _ | _ | _ | _ | _ | j<;>first | rfl | omega))) J ?_;refine F12 (by kernel_rfl) rfl ?_ ?_
  ·refine M2 J J (by kernel_rfl) J J (C8 J J) (M2 J J (by kernel_rfl) J J (C8 J J) (M2 J J (by kernel_rfl) J J (K1 J J (by omega)) ?_));exact B41
  refine k4 (k1 (A2 (A3 J J (A5 (K1 J J (by omega)) J (A6 J J (A4 ?_))))));refine k1 ?_;refine ⟨m+1,⟨by omega,fun k hk hk2=>?_⟩,by omega,?_⟩
  ·by_cases e:k=m
   ·subst e;rw [←hym];exact ht.2
   ·exact hall k (by omega) hk2
  ·rw [J62,show (((i - m:Nat):Int) - 1).toNat=i - m - 1 by omega,hsw,show ((i - (m+1):Nat):Int)=((i - m:Nat):Int) - 1 by omega]
   exact J36 ⟨le1 rfl,le1 rfl,le1 rfl,le1 rfl,le1 rfl,le1 rfl,trivial⟩ hH (by repeat (first | exact A8 | refine tail_drop rfl ?_ | refine A9 rfl ?_)) (C9 (L:=[(802,_)]) ⟨rfl,trivial⟩ (by repeat (first | exact B8 | refine C0 rfl ?_)))
 ·rw [G78,Bool.and_eq_false_iff,decide_eq_false_iff_not,hcmp] at ht
  have hd:l5 rev x m rest=A07 l (i+1):=by
   rw [e1]
   refine H28 (by omega) hall fun hml=>?_
   rcases ht with h | h
   ·omega
   ·rw [hy,J65,J60 hml] at h;exact h
  rw [hd]
  refine k6 (k7 (k7 (k8 J (k4 (k1 (A2 (A3 J J (E4 J J J (A6 J J (A4 ?_))))))))));refine k1 ?_;refine ⟨i+1,⟨by omega,.inl (by omega)⟩,by omega,?_⟩
  exact J36 ⟨le1 rfl,le1 rfl,le1 rfl,le1 rfl,le1 rfl,trivial⟩ hH (by repeat (first | exact A8 | refine A9 rfl ?_)) (C9 (L:=[(802,_)]) ⟨rfl,trivial⟩ (by repeat (first | exact B8 | refine C0 rfl ?_)))
theorem pdq_met {gf:Fr} {ob:Obs} (l:List Delta) (n:Int) (hl:l.length≤12) (h0:B4 ob 802=some (B99 l)) :
  AL.Met Tryz.prog 144 [.one (.mut 802),.one (.p (.v (.int .i64 0))),.one (.p (.v (.int .i64 l.length))),.one (.p (.v (.int .i64 n))),.one (.p (.v (.func (.func 122) #[] #[])))] gf ob []
   (fun rs ob'=>rs=[]∧ob'=(802,B99 (C03 l))::ob):=by
 refine AL.Met.introH Tryz.func144 (by decide) rfl rfl rfl (fun hH=>?_)
 refine k2 (A2 (A6 J J (A4 ?_)));refine k1 (k2 (A2 (A6 J J (A4 ?_))));refine k1 (k3 ?_);refine D6 (X:=Nat) (fun _=>([(0,.s (.one (.mut 802))),(1,C3 0),(2,C3 l.length),(3,C3 n),(4,I0 (.func (.func 122) #[] #[])),(10,R0 true),(11,R0 true)]++gf,ob)) (fun _=>True) (fun _=>0) 0 trivial ?_ ?_
 ·exact J36 ⟨le1 rfl,le1 rfl,le1 rfl,le1 rfl,le1 rfl,le1 rfl,le1 rfl,trivial⟩ hH (by repeat (first | exact A8 | refine A9 rfl ?_)) (fun _ _ h=>h)
 intro _ _
 dsimp only
 refine k3 (k2 (A2 (A3 J J (A3 J J (A5 (K1 J J (by omega)) J (A6 J J (A4 ?_)))))));refine k1 (k2 (k2 (A2 (A3 J J (A5 (C41 J J) J (A4 ?_))))));refine k1 ?_;refine B0 rfl (fun ht=>?_) (fun ht=>?_)
 ·refine k2 (A2 (A3 J J (A3 J J (A3 J J (A3 J J (H4 (G53 l (by omega) h0) J J J ?_))))));rintro _ _ ⟨rfl,rfl⟩;refine A4 ?_;refine k1 (k10 (k11 (k12 (k11 (k12 ?_)))))
  exact E0 (A31 rfl) (by repeat (first | exact A8 | refine A9 rfl ?_ | refine B6 _ ?_)) (fun _ _ h=>h) ⟨rfl,rfl⟩
 ·have h1:=A1 ht
  omega
set_option maxHeartbeats 1000000
theorem J05 (n:Nat) (hn:n < 256):FnOk Tryz.prog 170 [.one (.v (.int .u64 n))] (fun rs=>rs=[G1 (Lib.bitLen n:Nat)]) :=
 J40 (xs:=[.int .u64 n]) ⟨_,rfl,rfl,rfl⟩ rfl fun w=>by simpa using Tryz.bits_Len64 (n:Int) w (by omega) (by omega)
theorem H33 (n:Nat) (hn:n < 256):FnOk Tryz.prog 145 [.one (.v (.int .u64 n))] (fun rs=>∃r:Int,rs=[G1 r]):=by
 refine FnOk.intro Tryz.func145 (by decide) J J J J ?_
 refine k2 (A2 (A6 J J (A4 ?_)));refine k1 (k2 (c_condF ?_))
 refine k5 (k1 (k2 (A2 (A3 J J (D8 (J05 n hn) J J J ?_)))));rintro _ rfl;refine A6 J J (A4 ?_);refine k1 (k10 ?_)
 exact B7 (I4 rfl rfl rfl) ⟨_,rfl⟩
theorem F80 {gf:Fr} {ob:Obs} (l:List Delta) (hl:l.length≤12) (h0:B4 ob 802=some (B99 l)) :
  AL.Met Tryz.prog 121 [.one (.mut 802),.one (.p (.v (.func (.func 122) #[] #[])))] gf ob []
   (fun rs ob'=>rs=[]∧ob'=(802,B99 (C03 l))::ob):=by
 have hw:IntKind.u64.wrap (l.length:Int)=(l.length:Nat):=by unfold IntKind.wrap;simp [IntKind.signed,IntKind.bits];omega
 refine AL.Met.intro Tryz.func121 (by decide) J J J ?_
 refine k2 (A2 (A3 J J (A5 (T3 J h0) J (A6 J J (A4 ?_)))));refine k1 (A2 (A3 J J (A3 J J (A3 J J (A5 (V3 J) J (D8 ((by rw [hw];exact H33 l.length (by omega))) J J J ?_))))));rintro _ ⟨r,rfl⟩;refine A3 J J (H4 (pdq_met l r hl h0) J J J ?_);rintro _ _ ⟨rfl,rfl⟩;refine A4 ?_
 skip
 exact P6 (A31 rfl) (by repeat (first | exact A8 | refine A9 rfl ?_ | refine B6 _ ?_)) (fun _ _ h=>h) ⟨rfl,rfl⟩
def B46 (b:List File) (a:List File) (i:Nat):List Delta:=(a.take i).filterMap (A66 b)
theorem G54 {b a:List File} {i:Nat} (h:i < a.length):B46 b a (i+1)=B46 b a i++(A66 b a[i]).toList:=by
 have e:[a[i]].filterMap (A66 b)=(A66 b a[i]).toList:=by
  cases hd:A66 b a[i] with
  | none=>rw [List.filterMap_cons_none hd];rfl
  | some d=>rw [List.filterMap_cons_some hd];rfl
 unfold B46
 rw [List.take_add_one,J60 h,Option.toList_some,List.filterMap_append,e]
def A61 (a:List File) (b:List File) (i:Nat):List Delta:=(b.take i).filterMap (B85 a)
theorem G55 {a b:List File} {i:Nat} (h:i < b.length):A61 a b (i+1)=A61 a b i++(B85 a b[i]).toList:=by
 have e:[b[i]].filterMap (B85 a)=(B85 a b[i]).toList:=by
  cases hd:B85 a b[i] with
  | none=>rw [List.filterMap_cons_none hd];rfl
  | some d=>rw [List.filterMap_cons_some hd];rfl
 unfold A61
 rw [List.take_add_one,J60 h,Option.toList_some,List.filterMap_append,e]
theorem H34 (b a:List File) (i:Nat):(B46 b a i).length≤a.length:=by
 unfold B46
 have:=List.length_filterMap_le (A66 b) (a.take i)
 rw [J70] at this;omega
theorem H35 (a b:List File) (i:Nat):(A61 a b i).length≤b.length:=by
 unfold A61
 have:=List.length_filterMap_le (B85 a) (b.take i)
 rw [J70] at this;omega
def B47 (a b:List File):Int:=if G5 a≠0 then G5 a else G5 b
theorem J06 (a b:List File) (ha:FewF a) (hb:FewF b) (hab:B47 a b=0→a.length+b.length≤12):FnOk Tryz.prog 85 [n6 a,n6 b] (fun rs=>rs=[F94 (if B47 a b≠0 then [] else V0 a b),G1 (B47 a b)]):=by
 have hal:=ha.len
 have hbl:=hb.len
 refine FnOk.intro Tryz.func85 (by decide) J J J J ?_
 refine k2 (A2 (A6 J J (A6 J J (A4 ?_))));refine k1 (k2 (k2 (A2 (A3 J J (A3 J J (D8 (J03 a b ha hb) J J J ?_))))));rintro _ rfl;refine A6 J J (A4 ?_);refine k1 (k2 (A2 (A3 J J (A5 (T9 J J) J (A4 ?_)))));refine k1 ?_;refine B0 rfl (fun ht=>?_) (fun ht=>?_)
 ·have h1:B47 a b≠0:=A0 ht
  refine k2 (A2 (A3 J J (A5 (I7 _ 2 B05) J (A6 J J (A4 ?_)))));refine k1 (k10 (k11 ?_))
  exact B7 (rs:=[F94 [],G1 (B47 a b)]) (l9 rfl rfl rfl rfl rfl) (by rw [if_pos h1])
 have h1:¬B47 a b≠0:=A1 ht
 have h0:B47 a b=0:=Decidable.not_not.1 h1
 have hlen:=hab h0
 have ha0:G5 a=0:=by
  apply Classical.byContradiction
  intro h;unfold B47 at h0;rw [if_pos h] at h0;exact h h0
 have hb0:G5 b=0:=by unfold B47 at h0;rw [if_neg (fun h=>h ha0)] at h0;exact h0
 have hda:=(p9 ha0).1
 have hdb:=(p9 hb0).1
 have hfa:=C53 hda
 have hfb:=C53 hdb
 rw [h0,if_neg (show ¬(0:Int)≠0 from fun h=>h rfl),←I74 hda hdb]
 refine k5 (k1 (k2 (A2 (A3 J J (A77 (G35 a hal) J J J J ?_)))));rintro _ _ ⟨rfl,rfl⟩;refine ⟨rfl,?_⟩;refine A3 J J (A77 (E25 b hbl) J J J J ?_);rintro _ _ ⟨rfl,rfl⟩;refine ⟨rfl,?_⟩;refine A6 J J (A6 J J (A4 ?_));refine k1 (k2 (A2 (D2 (G19 802 _ B05 J) J (A4 ?_))));refine k1 (k2 (k2 (A2 (A3 J J (F3 J J (A3 J J (A4 ?_)))))));refine k1 (k3 (D6 (X:=Nat) (fun i=>([(1,D5 File 2 y1 b),(7,.s (.one (.mut 801))),(8,.s (.one (.mut 800))),(9,.s (.one (.mut 802))),(28,D5 File 2 y1 a),(29,C3 a.length),(30,C3 i)],[(800,.map Str i6 (S2 b)),(801,.map Str i6 (S2 a)),(802,B99 (B46 b a i))])) (fun i=>i≤a.length) (fun i=>a.length - i) 0 (Nat.zero_le _) (Sees.of ⟨le1 rfl,le1 rfl,le1 rfl,le1 rfl,le1 rfl,le1 rfl,le1 rfl,trivial⟩ ⟨rfl,rfl,rfl,trivial⟩) ?_))
 intro i hi
 dsimp only at hi ⊢
 have hrl:=H34 b a i
 refine k2 (A2 (G7 J J J (A4 ?_)));refine k1 (k2 ?_);refine B0 rfl (fun ht=>?_) (fun ht=>?_)
 ·have hlt:i < a.length:=by have h1:=A0 ht;(try dsimp only at h1);omega
  obtain ⟨f,hf⟩:∃f,f=a[i]:=⟨_,rfl⟩
  have hv:a[i]?=some f:=by rw [hf];simp [hlt]
  have hs:=G54 (b:=b) hlt
  rw [←hf] at hs
  refine k5 (k1 (k2 (k3 (k2 (A2 (A5 (B3 J (.pure _ _ _ _) J (by omega) hv) J (A5 (E3 J J) J (D2 (I9 11 J) J (H7 (C4 TySz.out J J J J J J) (A4 ?_))))))))));refine k1 (k2 (A2 (A3 J J (A5 (A7 J) J (G3 J J J J (A5 (B40 (f.Path) (r:=((K3 b f.Path).map E90)) J J J s7 s8 (hfb f.Path)) J (A3 J J (H5 J J J (H5 J J J (A6 J J (A6 J J (A4 ?_))))))))))));refine k1 (k2 (A2 (A3 J J (A5 (U0 J) J (A4 ?_)))));refine k1 ?_
  cases hfo:K3 b f.Path with
  | none =>
   have hra:A66 b f=some ⟨f.Path,2⟩:=by unfold A66;rw [hfo]
   rw [hra] at hs
   refine B0 rfl (fun ht=>?_) (fun ht=>?_)
   ·skip
    refine A2 (A3 J J (A5 (A7 J) J (G3 J J J J (A5 (I8 J) J (A5 (D1 (c:=B05) (ys:=[⟨f.Path,2⟩]) (E5 J J J J H1) J J J) J (D2 (Q8 J J J (.pure _ _ _ _) (by (simp only [J64,J68];omega)) J) J (A6 J J (A4 ?_))))))));refine k4 (k1 (A2 (E4 J J J (A3 J J (A4 ?_)))));refine k1 ?_;refine ⟨i+1,by omega,by omega,?_⟩
    rw [hs]
    exact (Sees.of ⟨le1 rfl,le1 rfl,le1 rfl,le1 rfl,le1 rfl,le1 rfl,le1 rfl,trivial⟩ ⟨rfl,rfl,rfl,trivial⟩)
   ·cases ht
  | some y =>
   refine B0 rfl (fun ht=>?_) (fun ht=>?_)
   ·cases ht
   refine k2 (A2 (A3 J J (A5 (A7 J) J (G3 J J J J (A5 (D85 J J) J (A4 ?_))))));refine k1 ?_;refine B0 rfl (fun ht=>?_) (fun ht=>?_)
   ·have h2:y≠f.Blob:=A0 ht
    have hra:A66 b f=some ⟨f.Path,3⟩:=by unfold A66;rw [hfo];dsimp only;rw [if_pos h2]
    rw [hra] at hs
    skip
    refine A2 (A3 J J (A5 (A7 J) J (G3 J J J J (A5 (I8 J) J (A5 (D1 (c:=B05) (ys:=[⟨f.Path,3⟩]) (E5 J J J J H1) J J J) J (D2 (Q8 J J J (.pure _ _ _ _) (by (simp only [J64,J68];omega)) J) J (A6 J J (A4 ?_))))))));refine k4 (k1 (A2 (E4 J J J (A3 J J (A4 ?_)))));refine k1 ?_;refine ⟨i+1,by omega,by omega,?_⟩
    rw [hs]
    exact (Sees.of ⟨le1 rfl,le1 rfl,le1 rfl,le1 rfl,le1 rfl,le1 rfl,le1 rfl,trivial⟩ ⟨rfl,rfl,rfl,trivial⟩)
   ·have h2:¬y≠f.Blob:=A1 ht
    have hra:A66 b f=none:=by unfold A66;rw [hfo];dsimp only;rw [if_neg h2]
    rw [hra] at hs
    refine k5 (k4 (k1 (A2 (E4 J J J (A3 J J (A4 ?_))))));refine k1 ?_;refine ⟨i+1,by omega,by omega,?_⟩
    rw [hs]
    simp only [Option.toList_none,J87]
    exact (Sees.of ⟨le1 rfl,le1 rfl,le1 rfl,le1 rfl,le1 rfl,le1 rfl,le1 rfl,trivial⟩ ⟨rfl,rfl,rfl,trivial⟩)
 have hie:i=a.length:=by have h1:=A1 ht;(try dsimp only at h1);omega
 have hA:B46 b a a.length=a.filterMap (A66 b):=by unfold B46;rw [J67]
 obtain ⟨A,hAd⟩:∃A,A=a.filterMap (A66 b):=⟨_,rfl⟩
 have hAl:A.length≤a.length:=by rw [hAd];exact List.length_filterMap_le _ _
 rw [hie,hA,←hAd]
 refine k6 (k2 (k2 (A2 (A3 J J (F3 J J (A3 J J (A4 ?_)))))));refine k1 (k3 (D6 (X:=Nat) (fun i=>([(7,.s (.one (.mut 801))),(9,.s (.one (.mut 802))),(60,D5 File 2 y1 b),(61,C3 b.length),(62,C3 i)],[(801,.map Str i6 (S2 a)),(802,B99 (A++A61 a b i))])) (fun i=>i≤b.length) (fun i=>b.length - i) 0 (Nat.zero_le _) (by rw [show A++A61 a b 0=A by unfold A61;simp];exact (Sees.of ⟨le1 rfl,le1 rfl,le1 rfl,le1 rfl,le1 rfl,trivial⟩ ⟨rfl,rfl,trivial⟩)) ?_))
 intro i hi
 dsimp only at hi ⊢
 have hrl2:=H35 a b i
 refine k2 (A2 (G7 J J J (A4 ?_)));refine k1 (k2 ?_);refine B0 rfl (fun ht=>?_) (fun ht=>?_)
 ·have hlt:i < b.length:=by have h1:=A0 ht;(try dsimp only at h1);omega
  obtain ⟨f,hf⟩:∃f,f=b[i]:=⟨_,rfl⟩
  have hv:b[i]?=some f:=by rw [hf];simp [hlt]
  have hs:=G55 (a:=a) hlt
  rw [←hf] at hs
  refine k5 (k1 (k2 (k3 (k2 (A2 (A5 (B3 J (.pure _ _ _ _) J (by omega) hv) J (A5 (E3 J J) J (D2 (I9 15 J) J (H7 (C4 TySz.out J J J J J J) (A4 ?_))))))))));refine k1 (k2 (A2 (A3 J J (A5 (A7 J) J (G3 J J J J (A5 (B40 (f.Path) (r:=((K3 a f.Path).map E90)) J J J s7 s8 (hfa f.Path)) J (A3 J J (H5 J J J (H5 J J J (A6 J J (A6 J J (A4 ?_))))))))))));refine k1 (k2 (A2 (A3 J J (A5 (U0 J) J (A4 ?_)))));refine k1 ?_
  cases hfo:K3 a f.Path with
  | none =>
   have hra:B85 a f=some ⟨f.Path,1⟩:=by unfold B85;rw [hfo]
   rw [hra] at hs
   refine B0 rfl (fun ht=>?_) (fun ht=>?_)
   ·skip
    refine A2 (A3 J J (A5 (A7 J) J (G3 J J J J (A5 (I8 J) J (A5 (D1 (c:=B05) (ys:=[⟨f.Path,1⟩]) (E5 J J J J H1) J J J) J (D2 (Q8 J J J (.pure _ _ _ _) (by (simp only [J63,J64,J68];omega)) J) J (A6 J J (A4 ?_))))))));refine k4 (k1 (A2 (E4 J J J (A3 J J (A4 ?_)))));refine k1 ?_;refine ⟨i+1,by omega,by omega,?_⟩
    rw [hs,←J73]
    exact (Sees.of ⟨le1 rfl,le1 rfl,le1 rfl,le1 rfl,le1 rfl,trivial⟩ ⟨rfl,rfl,trivial⟩)
   ·cases ht
  | some y =>
   have hra:B85 a f=none:=by unfold B85;rw [hfo]
   rw [hra] at hs
   refine B0 rfl (fun ht=>?_) (fun ht=>?_)
   ·cases ht
   ·refine k5 (k4 (k1 (A2 (E4 J J J (A3 J J (A4 ?_))))));refine k1 ?_;refine ⟨i+1,by omega,by omega,?_⟩
    rw [hs]
    simp only [Option.toList_none,J87]
    exact (Sees.of ⟨le1 rfl,le1 rfl,le1 rfl,le1 rfl,le1 rfl,trivial⟩ ⟨rfl,rfl,trivial⟩)
 have hie:i=b.length:=by have h1:=A1 ht;(try dsimp only at h1);omega
 have hB:A++A61 a b b.length=p8 a b:=by unfold A61 p8;rw [J67,hAd]
 have hdl:=H70 a b
 rw [hie,hB]
 refine k6 (k2 (A2 (A3 J J (H4 (F80 (p8 a b) (by omega) J) J J J ?_))));rintro _ _ ⟨rfl,rfl⟩;refine A4 ?_;refine k1 (k2 (D9 (Sees.freezeG (k:=802) J J) ?_))
 refine A2 (A3 J J (A6 J J (A6 J J (A4 ?_))));refine k1 (k10 ?_)
 exact B7 (rs:=[F94 (diffOf a b),G1 0]) (l9 rfl rfl rfl rfl rfl) rfl
set_option maxHeartbeats 1000000
theorem E29 {nd:Str}:∀{l:List (Str × Str)},(∀x∈l,x.1.length≤16777216∧x.2.length≤16777216) → -(16777218*(l.length:Int))≤X9 nd l∧X9 nd l≤16777218*(l.length:Int)
 | [],_=>⟨by simp [X9],by simp [X9]⟩
 | x::r,h=>by
  have ih:=E29 (nd:=nd) fun y hy=>h y (List.mem_cons_of_mem _ hy)
  have h1:=C57 nd x.1 (h x List.mem_cons_self).1
  have h2:=C57 nd x.2 (h x List.mem_cons_self).2
  have e:X9 nd (x::r)=W6 nd x.2 - W6 nd x.1+X9 nd r:=by unfold X9;rw [J77,K10]
  rw [e,J64]
  constructor<;>omega
theorem J07 {nd:Str} {l:List (Str × Str)} {i:Nat} (h:i < l.length):X9 nd (l.take (i+1))=X9 nd (l.take i)+(W6 nd l[i].2 - W6 nd l[i].1):=by
 unfold X9
 rw [List.take_add_one,J60 h,Option.toList_some,J91,List.sum_append];simp
theorem G56 {nd:Str} {B:List (List (Str × Str))} {p:Nat} (h:p < B.length):(B.take (p+1)).map (X9 nd)=(B.take p).map (X9 nd)++[X9 nd B[p]]:=by
 rw [List.take_add_one,J60 h,Option.toList_some,J91];rfl
theorem D41 {g:Graph} {c:Int} (h:b8 g c=0):Valid g∧0≤c∧c < g.length:=by
 unfold b8 at h
 split at h
 ·rename_i hd;exact absurd h hd
 ·rename_i hd
  split at h
  ·rename_i hc;exact ⟨A15 (Decidable.not_not.1 hd),hc⟩
  ·cases h
theorem H36 (g:Graph) (c:Int) (h:FewT g):FnOk Tryz.prog 52 [P1 g,G1 c] (fun rs=>rs=[G1 (b8 g c)]):=by
 refine FnOk.intro Tryz.func52 (by decide) J J J J ?_
 refine k2 (A2 (A6 J J (A4 ?_)));refine k1 (k2 (k2 (A2 (A3 J J (D8 (I05 g h) J J J ?_)))));rintro _ rfl;refine A6 J J (A4 ?_);refine k1 (k2 (A2 (A3 J J (A5 (T9 J J) J (A4 ?_)))));refine k1 ?_;refine B0 rfl (fun ht=>?_) (fun ht=>?_)
 ·have h1:N8 g≠0:=A0 ht
  refine k2 (A2 (A3 J J (A6 J J (A4 ?_))));refine k1 (k10 (k11 ?_))
  exact B7 (rs:=[G1 (N8 g)]) (I4 rfl rfl rfl) (by unfold b8;rw [if_pos h1])
 have h1:¬N8 g≠0:=A1 ht
 refine k5 (k1 (k2 (k2 (A2 (A3 J J (A3 J J (D8 (dis_ok g c) J J J ?_)))))));rintro _ rfl;refine A5 (U0 J) J (A4 ?_);refine k1 ?_;refine B0 rfl (fun ht=>?_) (fun ht=>?_)
 ·have h2:¬j9 g c:=by simpa using ht
  refine k2 (A2 (A6 J J (A4 ?_)));refine k1 (k10 (k11 ?_))
  exact B7 (rs:=[G1 5]) (I4 rfl rfl rfl) (by unfold b8;rw [if_neg h1,if_neg h2])
 ·have h2:j9 g c:=by simpa using ht
  refine k5 (k1 (k2 (A2 (A6 J J (A4 ?_)))));refine k1 (k10 ?_)
  exact B7 (rs:=[G1 0]) (I4 rfl rfl rfl) (by unfold b8;rw [if_neg h1,if_pos h2])
theorem D42 (g:Graph) (c:Nat) (hf:FewG g) (hr:related g=true) (hc:c < g.length):FnOk Tryz.prog 54 [P1 g,G1 c] (fun rs=>rs=[F95 (O5 g c)]):=by
 obtain ⟨cm,hcm⟩:∃cm,cm=g[c]:=⟨_,rfl⟩
 have hv:g[((c:Nat):Int).toNat]?=some cm:=by rw [hcm];simp [hc]
 have hps:F1 g c=cm.Parents:=by rw [u7 hc,hcm]
 have hpr:=(K5 hr c).1
 have hpl:=hf.pars cm (by rw [hcm];exact J66 hc)
 have htr:O5 g c=if cm.Parents=[] then [[]] else o9 g cm.Parents cm.Parents.length:=by unfold O5 o9;rw [hps,J67]
 rw [hps] at hpr
 rw [htr]
 refine FnOk.intro Tryz.func54 (by decide) J J J J ?_
 refine k2 (A2 (A6 J J (A4 ?_)));refine k1 (k2 (k2 (A2 (A3 J J (A3 J J (A5 (B3 J (.pure _ _ _ _) J (by omega) hv) J (A5 (C5 J) J (A5 (B1 J J) J (F3 J J (A5 (F4 J J) J (A4 ?_)))))))))));refine k1 ?_;refine B0 rfl (fun ht=>?_) (fun ht=>?_)
 ·have h1:cm.Parents=[]:=by
   have h1:=A0 ht
   exact List.length_eq_zero_iff.1 (by omega)
  rw [if_pos h1]
  refine k2 (A2 (A5 (D1 (c:=B53) (ys:=[[]]) (J00 J J H1) J J J) J (A6 J J (A4 ?_))));refine k1 (k10 (k11 ?_))
  exact B7 (rs:=[F95 [[]]]) (I4 rfl rfl rfl) rfl
 have h1:¬cm.Parents=[]:=fun e=>by
  have h1:=A1 ht
  rw [e] at h1;exact h1 rfl
 rw [if_neg h1]
 refine k5 (k1 (k2 (A2 (D2 (Y1 5 _ B53 J) J (A4 ?_)))));refine k1 (k2 (k2 (A2 (A3 J J (A3 J J (A5 (B3 J (.pure _ _ _ _) J (by omega) hv) J (A5 (C5 J) J (A5 (B1 J J) J (F3 J J (A3 J J (A4 ?_)))))))))));refine k1 (k3 (D6 (X:=Nat) (fun i=>([(0,D5 Commit 3 J5 g),(5,.s (.one (.buf 5 (List File) 1 B53 (o9 g cm.Parents i)))),(20,D5 Int 1 F0 cm.Parents),(21,C3 cm.Parents.length),(22,C3 i)],[(5,.spare (o9 g cm.Parents i).length 1 36)])) (fun i=>i≤cm.Parents.length) (fun i=>cm.Parents.length - i) 0 (Nat.zero_le _) (Sees.of ⟨le1 rfl,le1 rfl,le1 rfl,le1 rfl,le1 rfl,trivial⟩ ⟨rfl,trivial⟩) ?_))
 intro i hi
 dsimp only at hi ⊢
 have hul:=G49 g cm.Parents i
 refine k2 (A2 (G7 J J J (A4 ?_)));refine k1 (k2 ?_);refine B0 rfl (fun ht=>?_) (fun ht=>?_)
 ·have hlt:i < cm.Parents.length:=by have h1:=A0 ht;(try dsimp only at h1);omega
  have hpb:=hpr _ (J66 hlt)
  obtain ⟨p,hp⟩:∃p:Nat,cm.Parents[i]=(p:Int):=⟨cm.Parents[i].toNat,by omega⟩
  have hvp:cm.Parents[i]?=some (p:Int):=by rw [J60 hlt,hp]
  obtain ⟨pm,hpm⟩:∃pm,pm=g[p]:=⟨_,rfl⟩
  have hvpm:g[((p:Nat):Int).toNat]?=some pm:=by rw [hpm,J62];simp [show p < g.length by omega]
  have hs:=F77 (g:=g) hlt
  rw [hp,J62,D08 (by rw [J62] at hvpm;exact hvpm)] at hs
  refine k5 (k1 (k2 (k3 (k2 (A2 (A5 (B3 J (.pure _ _ _ _) J (by omega) hvp) J (A5 (B1 J J) J (A6 J J (A4 ?_)))))))));refine k1 (A2 (A3 J J (A3 J J (A3 J J (A5 (B3 J (.pure _ _ _ _) J (by omega) hvpm) J (A5 (C5 J) J (A5 (B1 J J) J (A5 (D1 (c:=B53) (ys:=[pm.Files]) (E5 J J J J H1) J J J) J (D2 (M6 J J J (.pure _ _ _ _) (by (simp only [J64,J68];omega)) J) J (A6 J J (A4 ?_)))))))))));refine k4 (k1 (A2 (E4 J J J (A3 J J (A4 ?_)))));refine k1 ?_;refine ⟨i+1,by omega,by omega,?_⟩
  rw [hs]
  exact (Sees.of ⟨le1 rfl,le1 rfl,le1 rfl,le1 rfl,le1 rfl,trivial⟩ ⟨rfl,trivial⟩)
 ·have hie:i=cm.Parents.length:=by have h1:=A1 ht;(try dsimp only at h1);omega
  rw [hie]
  refine k6 (k2 (A2 (A3 J J (A6 J J (A4 ?_)))));refine k1 (k10 ?_)
  exact B7 (rs:=[F95 (o9 g cm.Parents cm.Parents.length)]) (I4 rfl rfl rfl) rfl
def Short (g:Graph):Prop:=∀c:Nat,(O4 g c).length≤6
theorem Short.tree {g:Graph} (h:Short g) {c:Nat} {t:List File} (ht:t∈O5 g c):t.length≤6:=by
 unfold O5 at ht
 split at ht
 ·rw [List.mem_singleton.1 ht];simp
 ·obtain ⟨p,_,rfl⟩:=List.mem_map.1 ht
  exact h _
theorem I52 {g:Graph} (h:FewT g) {c:Nat} {t:List File} (ht:t∈O5 g c):FewF t:=by
 unfold O5 at ht
 split at ht
 ·rw [List.mem_singleton.1 ht];exact ⟨by simp,(fun _ h=>by cases h),(fun _ h=>by cases h)⟩
 ·obtain ⟨p,_,rfl⟩:=List.mem_map.1 ht
  exact h.files _
theorem Valid.check {g:Graph} (h:Valid g) (c:Nat):G5 (O4 g c)=0:=by
 unfold O4
 by_cases hc:c < g.length
 ·rw [J60 hc]
  exact h.tree _ (J66 hc)
 ·rw [J80 (by omega)];decide
theorem Valid.checks {g:Graph} (h:Valid g) {c:Nat} {t:List File} (ht:t∈O5 g c):G5 t=0:=by
 unfold O5 at ht
 split at ht
 ·rw [List.mem_singleton.1 ht];decide
 ·obtain ⟨p,_,rfl⟩:=List.mem_map.1 ht
  exact Valid.check h _
def z7 (g:Graph) (c:Nat):List (List Delta):=(O5 g c).map fun t=>V0 t (O4 g c)
def O3 (ts:List (List File)) (u:List File) (i:Nat):List (List Delta):=(ts.take i).map fun t=>V0 t u
theorem E30 {ts:List (List File)} {u:List File} {i:Nat} (h:i < ts.length):O3 ts u (i+1)=O3 ts u i++[V0 ts[i] u]:=by
 unfold O3
 rw [List.take_add_one,J60 h,Option.toList_some,J91];rfl
theorem E94 (ts:List (List File)) (u:List File) (i:Nat):(O3 ts u i).length≤ts.length:=by
 unfold O3;rw [J85,J70];omega
theorem cof_ok (g:Graph) (c:Nat) (h:FewT g) (hv:Valid g) (hs6:Short g) (hc:c < g.length):FnOk Tryz.prog 53 [P1 g,G1 c] (fun rs=>rs=[.one (.list (List Delta) 1 j2 (z7 g c))]):=by
 obtain ⟨cm,hcm⟩:∃cm,cm=g[c]:=⟨_,rfl⟩
 have hvc:g[((c:Nat):Int).toNat]?=some cm:=by rw [hcm];simp [hc]
 have hfc:O4 g c=cm.Files:=D08 (by rw [J62] at hvc;exact hvc)
 have htl:=B45 hv c
 have htf:∀t∈O5 g c,FewF t∧G5 t=0∧t.length≤6:=fun t ht=>⟨I52 h ht,Valid.checks hv ht,hs6.tree ht⟩
 have huf:=h.files c
 have hu0:=Valid.check hv c
 have hu6:=hs6 c
 obtain ⟨ts,hts⟩:∃ts,ts=O5 g c:=⟨_,rfl⟩
 obtain ⟨u,hu⟩:∃u,u=cm.Files:=⟨_,rfl⟩
 have hres:z7 g c=O3 ts u ts.length:=by unfold z7 O3;rw [J67,hfc,hts,hu]
 rw [hfc,←hu] at huf hu0 hu6
 rw [←hts] at htl htf
 rw [hres]
 refine FnOk.intro Tryz.func53 (by decide) J J J J ?_
 refine k2 (A2 (A6 J J (A4 ?_)));refine k1 (k2 (A2 (D2 (Y1 5 _ j2 J) J (A4 ?_))));refine k1 (k2 (k2 (A2 (A3 J J (A3 J J (D8 (D42 g c h.few hv.rel hc) J J J ?_))))));rintro _ rfl;refine F3 J J (A3 J J (A4 ?_))
 rw [←hts]
 refine k1 (k3 (D6 (X:=Nat) (fun p=>([(0,D5 Commit 3 J5 g),(1,C3 c),(5,.s (.one (.buf 5 (List Delta) 1 j2 (O3 ts u p)))),(12,D5 (List File) 1 B53 ts),(13,C3 ts.length),(14,C3 p)],[(5,.spare (O3 ts u p).length 1 100)])) (fun p=>p≤ts.length) (fun p=>ts.length - p) 0 (Nat.zero_le _) (Sees.of ⟨le1 rfl,le1 rfl,le1 rfl,le1 rfl,le1 rfl,le1 rfl,trivial⟩ ⟨rfl,trivial⟩) ?_))
 intro p hp
 dsimp only at hp ⊢
 have hbl:=E94 ts u p
 refine k2 (A2 (G7 J J J (A4 ?_)));refine k1 (k2 ?_);refine B0 rfl (fun ht=>?_) (fun ht=>?_)
 ·have hplt:p < ts.length:=by have h1:=A0 ht;(try dsimp only at h1);omega
  have hs:=E30 (u:=u) hplt
  obtain ⟨t,ht0⟩:∃t,t=ts[p]:=⟨_,rfl⟩
  have hvt:ts[p]?=some t:=by rw [ht0];simp [hplt]
  obtain ⟨htf1,ht1,ht6⟩:=htf t (by rw [ht0];exact J66 hplt)
  rw [←ht0] at hs
  have hte:B47 t u=0:=by unfold B47;rw [ht1,if_neg (fun h=>h rfl),hu0]
  have hdiff:=J06 t u htf1 huf (fun _=>by omega)
  rw [hte,if_neg (fun h=>h rfl),show n6 u=n6 cm.Files by rw [hu]] at hdiff
  refine k5 (k1 (k2 (k3 (k2 (A2 (A5 (B3 J (.pure _ _ _ _) J (by omega) hvt) J (A5 (B1 J J) J (A6 J J (A4 ?_)))))))));refine k1 (k2 (A2 (A3 J J (A3 J J (A3 J J (A5 (B3 J (.pure _ _ _ _) J (by omega) hvc) J (A5 (C5 J) J (A5 (B1 J J) J (D8 (hdiff) J J J ?_)))))))));rintro _ rfl;refine A3 J J (H5 J J J (H5 J J J (A6 J J (A6 J J (A4 ?_)))));refine k1 (A2 (A3 J J (A3 J J (A5 (D1 (c:=j2) (ys:=[V0 t u]) (E5 J J J J H1) J J J) J (D2 (M6 J J J (.pure _ _ _ _) (by (simp only [J64,J68];omega)) J) J (A6 J J (A4 ?_)))))));refine k4 (k1 (A2 (E4 J J J (A3 J J (A4 ?_)))));refine k1 ?_;refine ⟨p+1,by omega,by omega,?_⟩
  rw [hs]
  exact (Sees.of ⟨le1 rfl,le1 rfl,le1 rfl,le1 rfl,le1 rfl,le1 rfl,trivial⟩ ⟨rfl,trivial⟩)
 ·have hpe:p=ts.length:=by have h1:=A1 ht;(try dsimp only at h1);omega
  rw [hpe]
  refine k6 (k2 (A2 (A3 J J (A6 J J (A4 ?_)))));refine k1 (k10 ?_)
  exact B7 (rs:=[.one (.list (List Delta) 1 j2 (O3 ts u ts.length))]) (I4 rfl rfl rfl) rfl
theorem I53 (g:Graph) (c:Int) (h:FewT g) (hs6:Short g):FnOk Tryz.prog 35 [P1 g,G1 c] (fun rs=>∃l,rs=[.one (.list (List Delta) 1 j2 l),G1 (b8 g c)]):=by
 refine FnOk.intro Tryz.func35 (by decide) J J J J ?_
 refine k2 (A2 (A6 J J (A6 J J (A4 ?_))));refine k1 (k2 (k2 (A2 (A3 J J (A3 J J (D8 (H36 g c h) J J J ?_))))));rintro _ rfl;refine A6 J J (A4 ?_);refine k1 (k2 (A2 (A3 J J (A5 (T9 J J) J (A4 ?_)))));refine k1 ?_;refine B0 rfl (fun ht=>?_) (fun ht=>?_)
 ·refine k2 (A2 (A3 J J (A5 (I7 _ 1 j2) J (A6 J J (A4 ?_)))));refine k1 (k10 (k11 ?_))
  exact B7 (rs:=[.one (.list (List Delta) 1 j2 []),G1 (b8 g c)]) (l9 rfl rfl rfl rfl rfl) ⟨_,rfl⟩
 have h1:¬b8 g c≠0:=A1 ht
 have h0:b8 g c=0:=Decidable.not_not.1 h1
 obtain ⟨hv,hc0,hc1⟩:=D41 h0
 obtain ⟨k,rfl⟩:∃k:Nat,c=(k:Int):=⟨c.toNat,by omega⟩
 rw [h0]
 refine k5 (k1 (k2 (A2 (A3 J J (A3 J J (D8 (cof_ok g k h hv hs6 (by omega)) J J J ?_))))));rintro _ rfl;refine A6 J J (A6 J J (A4 ?_));refine k1 (k10 ?_)
 exact B7 (rs:=[.one (.list (List Delta) 1 j2 (z7 g k)),G1 0]) (l9 rfl rfl rfl rfl rfl) ⟨_,rfl⟩
set_option maxHeartbeats 1000000
theorem F23 (g:Graph) (c:Nat) (h:FewT g) (hv:Valid g) (hs6:Short g) (hc:c < g.length):FnOk Tryz.prog 36 [P1 g,G1 c] (fun rs=>rs=[G11 (O2 g c)]):=by
 obtain ⟨cm,hcm⟩:∃cm,cm=g[c]:=⟨_,rfl⟩
 have hvc:g[((c:Nat):Int).toNat]?=some cm:=by rw [hcm];simp [hc]
 have hfc:O4 g c=cm.Files:=D08 (by rw [J62] at hvc;exact hvc)
 have htl:=B45 hv c
 have htm:∀t∈O5 g c,t.length≤6:=fun t ht=>hs6.tree ht
 have hul:=hs6 c
 rw [hfc] at hul
 obtain ⟨ts,hts⟩:∃ts,ts=O5 g c:=⟨_,rfl⟩
 obtain ⟨u,hu⟩:∃u,u=cm.Files:=⟨_,rfl⟩
 have hres:O2 g c=Z4 ts u ts.length:=by unfold O2 Z4;rw [J67,hfc,hts,hu]
 have hds:z7 g c=O3 ts u ts.length:=by unfold z7 O3;rw [J67,hfc,hts,hu]
 rw [←hu] at hul
 rw [←hts] at htl htm
 rw [hres]
 obtain ⟨DS,hDS⟩:∃DS,DS=O3 ts u ts.length:=⟨_,rfl⟩
 have hDl:DS.length=ts.length:=by rw [hDS];unfold O3;rw [J85,J67]
 refine FnOk.intro Tryz.func36 (by decide) J J J J ?_
 refine k2 (A2 (A6 J J (A4 ?_)));refine k1 (k2 (A2 (D2 (Y1 5 _ A69 J) J (A4 ?_))));refine k1 (k2 (A2 (A3 J J (A3 J J (D8 (D42 g c h.few hv.rel hc) J J J ?_)))));rintro _ rfl;refine A6 J J (A4 ?_)
 rw [←hts]
 refine k1 (k2 (k2 (A2 (A3 J J (A3 J J (D8 (cof_ok g c h hv hs6 hc) J J J ?_))))));rintro _ rfl;refine F3 J J (A3 J J (A4 ?_))
 rw [hds,←hDS]
 refine k1 (k3 (D6 (X:=Nat) (fun p=>([(0,D5 Commit 3 J5 g),(1,C3 c),(5,.s (.one (.buf 5 (List (Str × Str)) 1 A69 (Z4 ts u p)))),(6,D5 (List File) 1 B53 ts),(21,.s (.one (.p (.list (List Delta) 1 j2 DS)))),(22,C3 DS.length),(23,C3 p)],[(5,.spare (Z4 ts u p).length 1 76)])) (fun p=>p≤ts.length) (fun p=>ts.length - p) 0 (Nat.zero_le _) (Sees.of ⟨le1 rfl,le1 rfl,le1 rfl,le1 rfl,le1 rfl,le1 rfl,le1 rfl,trivial⟩ ⟨rfl,trivial⟩) ?_))
 intro p hp
 dsimp only at hp ⊢
 have hbl:=G51 ts u p
 refine k2 (A2 (G7 J J J (A4 ?_)));refine k1 (k2 ?_);refine B0 rfl (fun ht=>?_) (fun ht=>?_)
 rotate_left
 ·have hpe:p=ts.length:=by have h1:=A1 ht;(try dsimp only at h1);omega
  rw [hpe]
  refine k6 (k2 (A2 (A3 J J (A6 J J (A4 ?_)))));refine k1 (k10 ?_)
  exact B7 (rs:=[G11 (Z4 ts u ts.length)]) (I4 rfl rfl rfl) rfl
 have hplt:p < ts.length:=by have h1:=A0 ht;(try dsimp only at h1);omega
 have hs:=F78 (u:=u) hplt
 obtain ⟨t,ht0⟩:∃t,t=ts[p]:=⟨_,rfl⟩
 have hvt:ts[p]?=some t:=by rw [ht0];simp [hplt]
 have htl2:=htm t (by rw [ht0];exact J66 hplt)
 rw [←ht0] at hs
 have hdl:=E28 t u
 obtain ⟨ds,hdsd⟩:∃ds,ds=V0 t u:=⟨_,rfl⟩
 have hvd:DS[p]?=some ds:=by
  rw [hDS,hdsd,ht0];unfold O3
  rw [J67,K02,J60 hplt];rfl
 have hpo:B18 t u=p5 t u ds ds.length:=by unfold B18 p5;rw [J67,hdsd]
 rw [hpo] at hs
 rw [←hdsd] at hdl
 refine k5 (k1 (k2 (k3 (k2 (A2 (A3 J J (A5 (B3 J (.pure _ _ _ _) J (by omega) hvd) J (A5 (B1 J J) J (A6 J J (A6 J J (A4 ?_)))))))))));refine k1 (k2 (A2 (D2 (Y1 9 _ A19 J) J (A4 ?_))));refine k1 (k2 (k2 (A2 (A3 J J (F3 J J (A3 J J (A4 ?_)))))));refine k1 (k3 (D6 (X:=Nat) (fun i=>([(0,D5 Commit 3 J5 g),(1,C3 c),(5,.s (.one (.buf 5 (List (Str × Str)) 1 A69 (Z4 ts u p)))),(6,D5 (List File) 1 B53 ts),(7,C3 p),(9,.s (.one (.buf 9 (Str × Str) 2 A19 (p5 t u ds i)))),(21,.s (.one (.p (.list (List Delta) 1 j2 DS)))),(22,C3 DS.length),(23,C3 p),(28,D5 Delta 2 B05 ds),(29,C3 ds.length),(30,C3 i)],[(5,.spare (Z4 ts u p).length 1 76),(9,.spare (p5 t u ds i).length 2 60)])) (fun i=>i≤ds.length) (fun i=>ds.length - i) 0 (Nat.zero_le _) (Sees.of ⟨le1 rfl,le1 rfl,le1 rfl,le1 rfl,le1 rfl,le1 rfl,le1 rfl,le1 rfl,le1 rfl,le1 rfl,le1 rfl,le1 rfl,trivial⟩ ⟨rfl,rfl,trivial⟩) ?_))
 intro i hi
 dsimp only at hi ⊢
 have hpl:=D40 t u ds i
 refine k2 (A2 (G7 J J J (A4 ?_)));refine k1 (k2 ?_);refine B0 rfl (fun ht=>?_) (fun ht=>?_)
 ·have hilt:i < ds.length:=by have h1:=A0 ht;(try dsimp only at h1);omega
  have hs2:=F79 (t:=t) (u:=u) hilt
  obtain ⟨d,hd⟩:∃d,d=ds[i]:=⟨_,rfl⟩
  have hvdi:ds[i]?=some d:=by rw [hd];simp [hilt]
  rw [←hd] at hs2
  have hfu:=G45 u d.Path (by omega)
  rw [show n6 u=n6 cm.Files by rw [hu]] at hfu
  refine k5 (k1 (k2 (k3 (k2 (A2 (A5 (B3 J (.pure _ _ _ _) J (by omega) hvdi) J (A5 (E3 J J) J (D2 (I9 11 J) J (H7 (C4 TySz.out J J J J J J) (A4 ?_))))))))));refine k1 (k2 (F5 (by kernel_rfl) (by kernel_rfl) (F9 J J (F9 J J (B5 (B3 J (.pure _ _ _ _) J (by omega) hvt) J J (B5 (B1 J J) J J (B5 (A7 J) J J (B5 (C6 J J J) J J (B5 (U4 (G45 t d.Path (by omega)) J J) J J (F9 J J (B5 (Y0 J J) J J (B5 (Y0 J J) J J (B5 (J8 J J) J J (B5 (J8 J J) J J (R1 ?_)))))))))))))));refine k1 (k2 (F5 (by kernel_rfl) (by kernel_rfl) (F9 J J (F9 J J (B5 (B3 J (.pure _ _ _ _) J (by omega) hvc) J J (B5 (C5 J) J J (B5 (B1 J J) J J (B5 (A7 J) J J (B5 (C6 J J J) J J (B5 (U4 (hfu) J J) J J (F9 J J (B5 (Y0 J J) J J (B5 (Y0 J J) J J (B5 (J8 J J) J J (B5 (J8 J J) J J (R1 ?_))))))))))))))));refine k1 (A2 (A3 J J (A3 J J (A3 J J (A5 (C18 J) J (A5 (D1 (c:=A19) (ys:=[(A50 t d.Path,A50 u d.Path)]) (E5 J J J J H1) J J J) J (D2 (M6 J J J (.pure _ _ _ _) (by (simp only [J64,J68];omega)) J) J (A6 J J (A4 ?_)))))))));refine k4 (k1 (A2 (E4 J J J (A3 J J (A4 ?_)))));refine k1 ?_;refine ⟨i+1,by omega,by omega,?_⟩
  rw [hs2]
  exact (Sees.of ⟨le1 rfl,le1 rfl,le1 rfl,le1 rfl,le1 rfl,le1 rfl,le1 rfl,le1 rfl,le1 rfl,le1 rfl,le1 rfl,le1 rfl,trivial⟩ ⟨rfl,rfl,trivial⟩)
 ·have hie:i=ds.length:=by have h1:=A1 ht;(try dsimp only at h1);omega
  rw [hie]
  have hpl2:=D40 t u ds ds.length
  refine k6 (k7 (k7 (k8 J (k1 (A2 (A3 J J (A3 J J (A5 (D1 (c:=A69) (ys:=[p5 t u ds ds.length]) (E5 J J J J H1) J J J) J (D2 (M6 J J J (.pure _ _ _ _) (by (simp only [J64,J68];omega)) J) J (A6 J J (A4 ?_)))))))))));refine k4 (k1 (A2 (E4 J J J (A3 J J (A4 ?_)))));refine k1 ?_;refine ⟨p+1,by omega,by omega,?_⟩
  rw [hs]
  exact (Sees.of ⟨le1 rfl,le1 rfl,le1 rfl,le1 rfl,le1 rfl,le1 rfl,le1 rfl,trivial⟩ ⟨rfl,trivial⟩)
set_option maxHeartbeats 1000000
abbrev cE (nd:Str):Unit→Nat→Cell:=fun _ _=>.v (.string ⟨nd.toArray⟩)
abbrev G57 (x:Str × Str):S1:=.agg [.p (A19 x 0),.p (A19 x 1)]
abbrev A79 (b:Bool):S1:=.one (.p (.v (.bool b)))
abbrev M3 (i:Int):S1:=.one (.p (.v (.int .i64 i)))
theorem J08 (nd:Str) (x:Str × Str) (hn:nd.length≤1073741824) (h1:x.1.length≤16777216) (h2:x.2.length≤16777216) :
  AL.Met Tryz.prog 33 [G57 x,.one (.eref Unit 1 (cE nd) () 0)] [] [] [] (fun rs ob'=>rs=[A79 (differs nd x)]∧ob'=[]):=by
 refine AL.Met.intro Tryz.func33 (by decide) J J J ?_
 refine k2 (A2 (D2 (l4 2 J J J) J (A6 J J (A4 ?_))));refine k1 (k2 (F5 (by kernel_rfl) (by kernel_rfl) (B5 (B1 J J) J J (B5 (L4 J J (by first | omega | decide) (by omega)) J J (B5 (C6 J J J) J J (B5 (U4 (B74 nd x.1 hn h1) J J) J J (B5 (B1 J J) J J (B5 (L4 J J (by first | omega | decide) (by omega)) J J (B5 (C6 J J J) J J (B5 (U4 (B74 nd x.2 hn h2) J J) J J (B5 (T9 J J) J J (B5 (J8 J J) J J (R1 ?_)))))))))))));refine k1 (k10 ?_)
 exact E0 (H9 rfl rfl) (by repeat (first | exact A8 | refine A9 rfl ?_ | refine B6 _ ?_)) (ObIn.spec (ob':=[]) trivial) ⟨rfl,rfl⟩
theorem E95 (f:FuncId) (α:Type) (ec:Nat) (c:α→Nat→Cell) (v:α) (pr:Str × Str→Bool) (l:List (Str × Str)) (hl:l.length≤1073741824) (hf:∀x∈l,AL.Met Tryz.prog f [G57 x,.one (.eref α ec c v 0)] [] [] [] (fun rs ob'=>rs=[A79 (pr x)]∧ob'=[])) :
  AL.Met Tryz.prog 69 [.one (.p (.list (Str × Str) 2 A19 l)),.one (.fncE f α ec c v)] [] [] [] (fun rs ob'=>(∃i:Int,rs=[M3 i]∧decide (0≤i)=l.any pr)∧ob'=[]):=by
 refine AL.Met.intro Tryz.func69 (by decide) J J J ?_
 refine k2 (A2 (A6 J J (A4 ?_)));refine k1 (k2 (k2 (A2 (A3 J J (F3 J J (A3 J J (A4 ?_)))))));refine k1 (k3 (D6 (X:=Nat) (fun i=>([(0,D5 (Str × Str) 2 A19 l),(1,.s (.one (.fncE f α ec c v))),(7,C3 l.length),(8,C3 i)],[])) (fun i=>i≤l.length∧(l.take i).any pr=false) (fun i=>l.length - i) 0 ⟨Nat.zero_le _,rfl⟩ (Sees.of ⟨le1 rfl,le1 rfl,le1 rfl,le1 rfl,trivial⟩ trivial) ?_))
 rintro i ⟨hi,hn⟩
 dsimp only at hi hn ⊢
 refine k2 (A2 (G7 J J J (A4 ?_)));refine k1 (k2 ?_);refine B0 rfl (fun ht=>?_) (fun ht=>?_)
 rotate_left
 ·have h1:i=l.length:=by have h1:=A1 ht;(try dsimp only at h1);omega
  rw [h1,J67] at hn
  refine k6 (k2 (A2 (A6 J J (A4 ?_))));refine k1 (k10 ?_)
  exact E0 (H9 rfl rfl) (by repeat (first | exact A8 | refine A9 rfl ?_ | refine B6 _ ?_)) (ObIn.spec (ob':=[]) trivial) ⟨⟨-1,rfl,by rw [hn];rfl⟩,rfl⟩
 have hlt:i < l.length:=by have h1:=A0 ht;(try dsimp only at h1);omega
 obtain ⟨x,hx⟩:∃x,x=l[i]:=⟨_,rfl⟩
 have hv:l[i]?=some x:=by rw [hx];simp [hlt]
 have hfx:=hf x (by rw [hx];exact J66 hlt)
 refine k5 (k1 (k2 (k3 (k2 (A2 (A3 J J (A6 J J (A4 ?_))))))));refine k1 (k2 (A2 (A3 J J (A3 J J (A3 J J (A5 (B3 J (.pure _ _ _ _) J (by omega) hv) J (A5 (E3 J J) J (A5 (n_callE (hfx) J J J) J (A4 ?_)))))))));refine k1 ?_;refine B0 rfl (fun ht=>?_) (fun ht=>?_)
 ·refine k2 (A2 (A3 J J (A6 J J (A4 ?_))));refine k1 (k10 (k12 (k11 (k11 (k12 (k11 ?_))))));refine E0 (H9 rfl rfl) (by repeat (first | exact A8 | refine A9 rfl ?_ | refine B6 _ ?_)) (ObIn.spec (ob':=[]) trivial) ⟨⟨i,rfl,?_⟩,rfl⟩
  rw [List.any_eq_true.2 ⟨x,by rw [hx];exact J66 hlt,ht⟩]
  exact decide_eq_true (by omega)
 ·refine k5 (k4 (k1 (A2 (E4 J J J (A3 J J (A4 ?_))))));refine k1 ?_;refine ⟨i+1,⟨hlt,?_⟩,by omega,(Sees.of ⟨le1 rfl,le1 rfl,le1 rfl,le1 rfl,trivial⟩ trivial)⟩
  rw [List.take_add_one,hv,Option.toList_some,List.any_append,hn,Bool.false_or,List.any_cons,List.any_nil,Bool.or_false]
  exact ht
theorem D10 (f:FuncId) (α:Type) (ec:Nat) (c:α→Nat→Cell) (v:α) (pr:Str × Str→Bool) (l:List (Str × Str)) (hl:l.length≤1073741824) (hf:∀x∈l,AL.Met Tryz.prog f [G57 x,.one (.eref α ec c v 0)] [] [] [] (fun rs ob'=>rs=[A79 (pr x)]∧ob'=[])) :
  AL.Met Tryz.prog 40 [.one (.p (.list (Str × Str) 2 A19 l)),.one (.fncE f α ec c v)] [] [] [] (fun rs ob'=>rs=[A79 (l.any pr)]∧ob'=[]):=by
 refine AL.Met.intro Tryz.func40 (by decide) J J J ?_
 refine k2 (A2 (A6 J J (A4 ?_)));refine k1 (k2 (A2 (A3 J J (A3 J J (A77 (E95 f α ec c v pr l hl hf) J J J J ?_)))));rintro _ _ ⟨⟨i,rfl,hi⟩,rfl⟩;refine ⟨rfl,?_⟩;refine A5 (U8 J J) J (A6 J J (A4 ?_));refine k1 (k10 ?_)
 exact E0 (H9 rfl rfl) (by repeat (first | exact A8 | refine A9 rfl ?_ | refine B6 _ ?_)) (ObIn.spec (ob':=[]) trivial) ⟨by rw [←hi],rfl⟩
def i7 (B:List (List (Str × Str))) (i:Nat):List (Str × Str):=(B.take i).flatten
theorem D43 {B:List (List (Str × Str))} {i:Nat} (h:i < B.length):i7 B (i+1)=i7 B i++B[i]:=by
 unfold i7
 rw [List.take_add_one,J60 h,Option.toList_some,J95];simp
theorem F24:∀{B:List (List (Str × Str))},(∀l∈B,l.length≤400)→B.flatten.length≤400*B.length
 | [],_=>by simp
 | l::B,h=>by
  have:=F24 fun x hx=>h x (List.mem_cons_of_mem l hx)
  have:=h l List.mem_cons_self
  rw [J92,J63,J64];omega
theorem B00 {B:List (List (Str × Str))} (hB:FewB B) (i:Nat):(i7 B i).length≤13200:=by
 have h1:=F24 (B:=B.take i) fun l hl=>hB.lens l (List.mem_of_mem_take hl)
 have h2:=hB.len
 rw [J70] at h1
 unfold i7;omega
abbrev I06 (l:List (Str × Str)):Ob:=.grow 60 (Str × Str) 2 A19 l
set_option maxHeartbeats 1000000
abbrev M8 (s:Str) (a d:Nat):Ob:=.box [.p (.v (.string ⟨s.toArray⟩)),.p (.v (.int .i64 a)),.p (.v (.int .i64 d)),.mut 811]
abbrev M4 (l:List AL.Node):Ob:=.grow 152 AL.Node 8 w9 l
abbrev W4 (c:UInt8):S1:=.one (.p (.v (.int .u8 c.toNat)))
abbrev P0:S1:=.one (.ref 810 0)
theorem A08 {gf:Fr} {ob:Obs} (s:Str) (a d:Nat) (ha:a≤s.length) (_hs:s.length≤1000) (h0:B4 ob 810=some (M8 s a d)) :
  AL.Met Tryz.prog 124 [P0] gf ob [] (fun rs ob'=>rs=[W4 (s.getD a 0),A79 (decide (a < s.length))]∧ob'=ob):=by
 refine AL.Met.intro Tryz.func124 (by decide) J J J ?_
 refine k2 (A2 (A6 J J (A6 J J (A4 ?_))));refine k1 (k2 (k2 (F5 (by kernel_rfl) (by kernel_rfl) (F9 J J (B5 (B2 J) J J (B5 (A7 J) J J (B5 (C6 J h0 J) J J (F9 J J (B5 (B2 J) J J (B5 (A7 J) J J (B5 (C6 J h0 J) J J (B5 (N2 J) J J (B5 (F4 J J) J J (R1 ?_))))))))))))));refine k1 ?_;refine B0 rfl (fun ht=>?_) (fun ht=>?_)
 ·have h1:a=s.length:=by have h1:=A0 ht;omega
  refine k2 (A2 (A6 J J (A6 J J (A4 ?_))));refine k1 (k10 (k11 ?_));refine E0 (H95 rfl rfl rfl) (by repeat (first | exact A8 | refine A9 rfl ?_ | refine B6 _ ?_)) (fun _ _ h=>h) ⟨?_,rfl⟩
  rw [h1,decide_eq_false (by omega),J65,J80 (by omega)];rfl
 ·have h1:a < s.length:=by have h1:=A1 ht;omega
  have hv:s[((a:Nat):Int).toNat]?=some (s.getD a 0):=by rw [J62,J65,J60 h1];rfl
  refine k5 (k1 (k2 (F5 (by kernel_rfl) (by kernel_rfl) (F9 J J (B5 (B2 J) J J (B5 (A7 J) J J (B5 (C6 J h0 J) J J (F9 J J (B5 (B2 J) J J (B5 (A7 J) J J (B5 (C6 J h0 J) J J (B5 (y8 J J (by omega) hv) J J (B5 (J8 J J) J J (B5 (J8 J J) J J (R1 ?_)))))))))))))));refine k1 (k10 ?_);refine E0 (H95 rfl rfl rfl) (by repeat (first | exact A8 | refine A9 rfl ?_ | refine B6 _ ?_)) (fun _ _ h=>h) ⟨?_,rfl⟩
  rw [decide_eq_true h1]
theorem F81 {gf:Fr} {ob:Obs} (s:Str) (a d:Nat) (c:UInt8) (ha:a≤s.length) (hs:s.length≤1000) (h0:B4 ob 810=some (M8 s a d)) :
  AL.Met Tryz.prog 87 [P0,W4 c] gf ob [] (fun rs ob'=>rs=[A79 (decide (s[a]?=some c))]∧ob'=(810,M8 s (if s[a]?=some c then a+1 else a) d)::ob):=by
 have hu:∀x y:UInt8,((x.toNat:Int)=y.toNat)↔x=y:=fun x y=>⟨fun h=>UInt8.toNat_inj.1 (by omega),fun h=>by rw [h]⟩
 refine AL.Met.introH Tryz.func87 (by decide) rfl rfl rfl (fun hH=>?_)
 refine D9 (J36 (l:=[(0,.s P0),(1,.s (W4 c))]) (ob':=(810,M8 s a d)::ob) ⟨le1 rfl,le1 rfl,trivial⟩ hH (by repeat (first | exact A8 | refine A9 rfl ?_)) (C9 (L:=[(810,_)]) ⟨h0,trivial⟩ B8)) ?_
 refine k2 (A2 (A6 J J (A4 ?_)));refine k1 (k2 (A2 (A3 J J (H4 (A08 s a d ha hs J) J J J ?_))));rintro _ _ ⟨rfl,rfl⟩;refine A3 J J (H5 J J J (H5 J J J (A6 J J (A6 J J (A4 ?_)))));refine k1 (k2 (k2 (A2 (A3 J J (A5 (U0 J) J (A3 J J (C2 J J J J (fun hg=>by rw [hg];exact C8 J J) ?_)))))));refine C2 J J J J (fun hg=>by rw [hg];exact C8 J J) ?_;refine C2 J J J J (fun hg=>by rw [hg];exact T9 J J) ?_;refine A5 (D7 J (fun h=>by first | rfl | (rw [h];rfl)) (fun h=>by first | rfl | (rw [h];rfl))) J ?_;refine A4 ?_;refine k1 ?_
 by_cases hc:s[a]?=some c
 ·have hlt:a < s.length:=(List.getElem?_eq_some_iff.1 hc).1
  have hg:s.getD a 0=c:=by rw [J65,hc];rfl
  rw [decide_eq_true hc,if_pos hc]
  refine B0 rfl (fun ht=>?_) (fun ht=>?_)
  ·rw [ifOr,decide_eq_true hlt,hg] at ht
   simp at ht
  ·refine k5 (k1 (k2 (A2 (A3 J J (A5 (B2 J) J (A5 (A7 J) J (G3 J J J J (E4 J J J (A5 (B2 J) J (A5 (A7 J) J (H7 (C4 TySz.out J J J J J J) (A4 ?_))))))))))));refine k1 (k2 (A2 (A6 J J (A4 ?_))));refine k1 (k10 ?_)
   exact E0 (H9 rfl rfl) (by repeat (first | exact A8 | refine A9 rfl ?_ | refine B6 _ ?_)) (C9 (L:=[(810,_)]) ⟨rfl,trivial⟩ (by repeat (first | exact B8 | refine C0 rfl ?_))) ⟨rfl,rfl⟩
 ·rw [decide_eq_false hc,if_neg hc]
  refine B0 rfl (fun ht=>?_) (fun ht=>?_)
  ·refine k2 (A2 (A6 J J (A4 ?_)));refine k1 (k10 (k11 ?_))
   exact E0 (H9 rfl rfl) (by repeat (first | exact A8 | refine A9 rfl ?_ | refine B6 _ ?_)) (fun _ _ h=>h) ⟨rfl,rfl⟩
  ·rw [ifOr,J99] at ht
   have h1:a < s.length:=by simpa using ht.1
   have h2:=A1 ht.2
   exfalso
   refine hc ?_
   have h3:s.getD a 0=c:=(hu _ _).1 (Decidable.not_not.1 h2)
   rw [←h3,J65,J60 h1];rfl
theorem J09 {gf:Fr} {ob:Obs} (s:Str) (a d:Nat) (ha:a < s.length) (hs:s.length≤1000) (h0:B4 ob 810=some (M8 s a d)) :
  AL.Met Tryz.prog 192 [P0] gf ob [] (fun rs ob'=>rs=[W4 (s.getD a 0)]∧ob'=(810,M8 s (a+1) d)::ob):=by
 refine AL.Met.introH Tryz.func192 (by decide) rfl rfl rfl (fun hH=>?_)
 refine D9 (J36 (l:=[(0,.s P0)]) (ob':=(810,M8 s a d)::ob) ⟨le1 rfl,trivial⟩ hH (by repeat (first | exact A8 | refine A9 rfl ?_)) (C9 (L:=[(810,_)]) ⟨h0,trivial⟩ B8)) ?_
 refine k2 (A2 (A6 J J (A4 ?_)));refine k1 (k2 (A2 (A3 J J (H4 (A08 s a d (by omega) hs J) J J J ?_))));rintro _ _ ⟨rfl,rfl⟩;refine A3 J J (H5 J J J (H5 J J J (A6 J J (A6 J J (A4 ?_)))))
 rw [decide_eq_true ha]
 refine k1 (k2 (k2 (A2 (A3 J J (A5 (U0 J) J (A4 ?_))))));refine k1 ?_;refine B0 rfl (fun ht=>?_) (fun ht=>?_)
 ·cases ht
 refine k5 (k1 (k2 (A2 (A3 J J (A5 (B2 J) J (A5 (A7 J) J (G3 J J J J (E4 J J J (A5 (B2 J) J (A5 (A7 J) J (H7 (C4 TySz.out J J J J J J) (A4 ?_))))))))))));refine k1 (k2 (A2 (A3 J J (A6 J J (A4 ?_)))));refine k1 (k10 ?_)
 exact E0 (H9 rfl rfl) (by repeat (first | exact A8 | refine A9 rfl ?_ | refine B6 _ ?_)) (C9 (L:=[(810,_)]) ⟨rfl,trivial⟩ (by repeat (first | exact B8 | refine C0 rfl ?_))) ⟨rfl,rfl⟩
theorem A09 {gf:Fr} {ob:Obs} (s:Str) (a d:Nat) (l:List AL.Node) (n:AL.Node) (hl:l.length≤1000) (h0:B4 ob 810=some (M8 s a d)) (h1:B4 ob 811=some (M4 l)) :
  AL.Met Tryz.prog 126 [P0,(D68 n).s1] gf ob [811] (fun rs ob'=>rs=[M3 l.length]∧ob'=(810,M8 s a d)::(811,M4 (l++[n]))::Obs.forget 811 ob):=by
 refine AL.Met.introH Tryz.func126 (by decide) rfl rfl rfl (fun hH=>?_)
 refine D9 (J37 811 (l:=[(0,.s P0),(1,.s (D68 n).s1)]) (L:=[(810,_),(811,_)]) ⟨le1 rfl,le1 rfl,trivial⟩ hH (by repeat (first | exact A8 | refine A9 rfl ?_)) ⟨h0,h1,trivial⟩) ?_
 refine k2 (A2 (A5 (m9 J J J) J (A6 J J (A4 ?_))));refine k1 (k2 ?_);refine D9 (J36 (gf':=Fr.forget 811 gf) (l:=[(0,.s P0),(3,.s (.one (.eref Unit 8 (fun _ j=>(cellsOf w9 n 0 8).getD j (.v undef)) () 0)))]) (ob':=[(810,M8 s a d),(811,M4 l)]++Obs.forget 811 ob) ⟨le1 rfl,le1 rfl,trivial⟩ (A32 hH) (by repeat (first | exact A8 | refine A9 rfl ?_)) (fun _ _ h=>h)) ?_
 refine N6 [10,7] [[],[7],[10,7]] [(7,([811],[9])),(10,([],[]))] [(0,[]),(1,[]),(2,[]),(3,[]),(4,[]),(5,[]),(6,[]),(7,[]),(8,[7]),(9,[7]),(10,[7])] [(0,[7])] (by kernel_rfl) (by kernel_rfl) (E2 J J (by kernel_rfl) J J (C8 J J) (E2 J J (by kernel_rfl) J J (C8 J J) (E2 J J (by kernel_rfl) J J (B2 J) (E2 J J (by kernel_rfl) J J (A7 J) (E2 J J (by kernel_rfl) J J (C6 J J J) (E2 J J (by kernel_rfl) J J (E3 J J) (E2 J J (by kernel_rfl) J J (D1 (c:=w9) (ys:=[n]) (E5 J J J J H1) J J J) (U9 J J (by kernel_rfl) J J (D04 (fun frc hU=>Q8 (Q5 hU J) J (Q5 hU J) (.pure _ _ _ _) (by (simp only [J64,J68];omega)) J)) J (E2 J J (by kernel_rfl) J J (B2 J) (E2 J J (by kernel_rfl) J J (A7 J) (U9 J J (by kernel_rfl) J J (A34 (fun frc hU=>C4 TySz.out (Q5 hU J) J (Q5 hU J) J J J)) J ?_)))))))))));refine D05 (ks:=[811]) rfl (by kernel_rfl) rfl ?_ ?_
 ·refine M2 J J (by kernel_rfl) J J (C8 J J) ?_;exact B41
 refine k1 (k2 (A2 (A3 J J (A5 (B2 J) J (A5 (A7 J) J (G3 J J J J (A5 (T3 J J) J (A5 (K1 J J (by (simp only [J63,List.length_singleton];omega))) J (A6 J J (A4 ?_))))))))));refine k1 (k10 ?_);refine E0 (H9 rfl rfl) (by repeat (first | exact A8 | refine tail_drop rfl ?_ | refine A9 rfl ?_ | refine H2 _ ?_ | refine B6 _ ?_)) (C9 (L:=[(810,_),(811,_)]) ⟨rfl,rfl,trivial⟩ (by repeat (first | exact B8 | refine C0 rfl ?_ | refine J3 _ ?_))) ⟨?_,rfl⟩
 rw [J63,List.length_singleton]
 congr 5
 omega
set_option maxHeartbeats 1000000
theorem I54:FnOk Tryz.prog 191 [F48 ⟨0,0,0,0⟩,pByte 97] (fun rs=>rs=[F48 ⟨0,8589934592,0,0⟩]):=by
 refine FnOk.intro Tryz.func191 (by decide) J J J J ?_
 refine k2 (A2 (D2 (l4 2 J J J) J (D2 (I9 4 J) J (A4 ?_))));refine k1 (k2 (A2 (A3 J J (A5 (D84 J J (by decide)) J (A5 (L4 J J (by first | omega | decide) (by decide)) J (G3 J J J J (A3 J J (A5 (D31 J J (by decide)) J (A5 (n_shl J J (by decide)) J (A5 (C92 J J J (fun _=>rfl)) J (A5 (L4 J J (by first | omega | decide) (by decide)) J (H7 (C4 TySz.out J J J J J J) (A4 ?_)))))))))))));refine k1 (k2 (A2 (A5 (U1 J J J) J (H7 (C4 TySz.out J J J J J J) (A4 ?_)))));refine k1 (k10 ?_)
 exact B7 (retc rfl rfl rfl rfl rfl) (by kernel_rfl)
theorem G58 {gf:Fr} {ob:Obs} (s:Str) (a d:Nat) (l:List AL.Node) (z:Set4) (hl:l.length≤1000) (h0:B4 ob 810=some (M8 s a d)) (h1:B4 ob 811=some (M4 l)) :
  AL.Met Tryz.prog 190 [P0,(F48 z).s1] gf ob [811] (fun rs ob'=>rs=[M3 l.length]∧ob'=(810,M8 s a d)::(811,M4 (l++[⟨1,z,0,0,[]⟩]))::Obs.forget 811 ob):=by
 refine AL.Met.introH Tryz.func190 (by decide) rfl rfl rfl (fun hH=>?_)
 refine D9 (J37 811 (l:=[(0,.s P0),(1,.s (F48 z).s1)]) (L:=[(810,_),(811,_)]) ⟨le1 rfl,le1 rfl,trivial⟩ hH (by repeat (first | exact A8 | refine A9 rfl ?_)) ⟨h0,h1,trivial⟩) ?_
 refine k2 (A2 (A5 (m9 J J J) J (A6 J J (A4 ?_))));refine k1 (k2 (A2 (A3 J J (A5 (E3 J J) J (A5 (I8 J) J (C96 ((J42 Int 1 F0 7 7 J J)) (H4 (A09 s a d l ⟨1,z,0,0,[]⟩ hl J J) J J J ?_)))))));rintro _ _ ⟨rfl,rfl⟩;refine A6 J J (A4 ?_);refine k1 (k10 ?_)
 exact E0 (H9 rfl rfl) (by repeat (first | exact A8 | refine tail_drop rfl ?_ | refine A9 rfl ?_ | refine H2 _ ?_ | refine B6 _ ?_)) (C9 (L:=[(810,_),(811,_)]) ⟨rfl,rfl,trivial⟩ (by repeat (first | exact B8 | refine C0 rfl ?_ | refine J3 _ ?_))) ⟨rfl,rfl⟩
theorem F25 {gf:Fr} {ob:Obs} (s:Str) (a d:Nat) (c:UInt8) (h:s[a]?=some c) (hs:s.length≤1000) (h0:B4 ob 810=some (M8 s a d)) :
  AL.Met Tryz.prog 192 [P0] gf ob [] (fun rs ob'=>rs=[W4 c]∧ob'=(810,M8 s (a+1) d)::ob):=by
 have hlt:=(List.getElem?_eq_some_iff.1 h).1
 have:=J09 (gf:=gf) s a d hlt hs h0
 rwa [show s.getD a 0=c by rw [J65,h];rfl] at this
theorem J10 {gf:Fr} {ob:Obs} (s:Str) (a d:Nat) (c:UInt8) (h:s[a]?=some c) (hs:s.length≤1000) (h0:B4 ob 810=some (M8 s a d)) :
  AL.Met Tryz.prog 87 [P0,W4 c] gf ob [] (fun rs ob'=>rs=[A79 true]∧ob'=(810,M8 s (a+1) d)::ob):=by
 have hlt:=(List.getElem?_eq_some_iff.1 h).1
 have:=F81 (gf:=gf) s a d c (by omega) hs h0
 rwa [if_pos h,decide_eq_true h] at this
theorem A80 {gf:Fr} {ob:Obs} (s:Str) (a d:Nat) (c:UInt8) (h:¬s[a]?=some c) (ha:a≤s.length) (hs:s.length≤1000) (h0:B4 ob 810=some (M8 s a d)) :
  AL.Met Tryz.prog 87 [P0,W4 c] gf ob [] (fun rs ob'=>rs=[A79 false]∧ob'=(810,M8 s a d)::ob):=by
 have:=F81 (gf:=gf) s a d c ha hs h0
 rwa [if_neg h,decide_eq_false h] at this
theorem H37 {gf:Fr} {ob:Obs} (s:Str) (a d:Nat) (l:List AL.Node) (h:s[a]?=some 97) (hs:s.length≤1000) (hl:l.length≤1000) (h0:B4 ob 810=some (M8 s a d)) (h1:B4 ob 811=some (M4 l)) :
  AL.Met Tryz.prog 177 [P0] gf ob [811] (fun rs ob'=>rs=[M3 l.length]∧ob'=(810,M8 s (a+1) d)::(811,M4 (l++[⟨1,⟨0,8589934592,0,0⟩,0,0,[]⟩]))::Obs.forget 811 ob):=by
 refine AL.Met.introH Tryz.func177 (by decide) rfl rfl rfl (fun hH=>?_)
 refine D9 (J37 811 (l:=[(0,.s P0)]) (L:=[(810,_),(811,_)]) ⟨le1 rfl,trivial⟩ hH (by repeat (first | exact A8 | refine A9 rfl ?_)) ⟨h0,h1,trivial⟩) ?_
 refine k2 (A2 (A6 J J (A4 ?_)));refine k1 (k2 (A2 (A3 J J (A5 (C18 J) J (A3 J J (H4 (F25 s a d 97 h hs J) J J J ?_))))));rintro _ _ ⟨rfl,rfl⟩;refine D8 (I54) J J J ?_;rintro _ rfl;refine H4 (G58 s (a+1) d l ⟨0,8589934592,0,0⟩ hl J J) J J J ?_;rintro _ _ ⟨rfl,rfl⟩;refine A6 J J (A4 ?_);refine k1 (k10 ?_)
 exact E0 (H9 rfl rfl) (by repeat (first | exact A8 | refine tail_drop rfl ?_ | refine A9 rfl ?_ | refine H2 _ ?_ | refine B6 _ ?_)) (C9 (L:=[(810,_),(811,_)]) ⟨rfl,rfl,trivial⟩ (by repeat (first | exact B8 | refine C0 rfl ?_ | refine J3 _ ?_))) ⟨rfl,rfl⟩
theorem H38 {gf:Fr} {ob:Obs} (s:Str) (a d:Nat) (h:s[a]?=some 43) (hs:s.length≤1000) (h0:B4 ob 810=some (M8 s a d)) :
  AL.Met Tryz.prog 149 [P0] gf ob [] (fun rs ob'=>rs=[M3 1,M3 (-1),A79 true]∧ob'=(810,M8 s (a+1) d)::ob):=by
 have hlt:=(List.getElem?_eq_some_iff.1 h).1
 refine AL.Met.introH Tryz.func149 (by decide) rfl rfl rfl (fun hH=>?_)
 refine D9 (J36 (l:=[(0,.s P0)]) (ob':=(810,M8 s a d)::ob) ⟨le1 rfl,trivial⟩ hH (by repeat (first | exact A8 | refine A9 rfl ?_)) (C9 (L:=[(810,_)]) ⟨h0,trivial⟩ B8)) ?_
 refine k2 (A2 (A6 J J (A6 J J (A6 J J (A4 ?_)))));refine k1 (k2 (k3 (k2 (A2 (A3 J J (H4 (A80 s a d 42 (by rw [h];decide) (by omega) hs J) J J J ?_))))));rintro _ _ ⟨rfl,rfl⟩;refine A6 J J (A4 ?_);refine k1 ?_;refine B0 rfl (fun ht=>?_) (fun ht=>?_)
 ·cases ht
 refine k2 (A2 (A3 J J (H4 (J10 s a d 43 h hs J) J J J ?_)));rintro _ _ ⟨rfl,rfl⟩;refine A6 J J (A4 ?_);refine k1 ?_;refine B0 rfl (fun ht=>?_) (fun ht=>?_)
 ·refine k2 (A2 (A6 J J (A6 J J (A6 J J (A4 ?_)))));refine k1 (k10 (k12 (k11 ?_)))
  exact E0 (rets3 rfl rfl rfl rfl) (by repeat (first | exact A8 | refine A9 rfl ?_ | refine B6 _ ?_)) (C9 (L:=[(810,_)]) ⟨rfl,trivial⟩ (by repeat (first | exact B8 | refine C0 rfl ?_))) ⟨rfl,rfl⟩
 ·cases ht
set_option maxHeartbeats 1000000
theorem G59 {gf:Fr} {ob:Obs} (s:Str) (a d:Nat) (l:List AL.Node) (kind:Int) (h:s[a+1]?=some 97) (hs:s.length≤1000) (hl:l.length≤1000) (h0:B4 ob 810=some (M8 s a d)) (h1:B4 ob 811=some (M4 l)) :
  AL.Met Tryz.prog 147 [P0,M3 kind] gf ob [811] (fun rs ob'=>rs=[M3 l.length]∧ob'=(810,M8 s (a+1) d)::(811,M4 (l++[⟨kind,⟨0,0,0,0⟩,0,0,[]⟩]))::Obs.forget 811 ob):=by
 have hlt:=(List.getElem?_eq_some_iff.1 h).1
 refine AL.Met.introH Tryz.func147 (by decide) rfl rfl rfl (fun hH=>?_)
 refine D9 (J37 811 (l:=[(0,.s P0),(1,.s (M3 kind))]) (L:=[(810,_),(811,_)]) ⟨le1 rfl,le1 rfl,trivial⟩ hH (by repeat (first | exact A8 | refine A9 rfl ?_)) ⟨h0,h1,trivial⟩) ?_
 refine k2 (A2 (A6 J J (A4 ?_)));refine k1 (k2 (A2 (A3 J J (A5 (B2 J) J (A5 (A7 J) J (G3 J J J J (E4 J J J (A5 (B2 J) J (A5 (A7 J) J (H7 (C4 TySz.out J J J J J J) (A4 ?_)))))))))));refine k1 (k2 (A2 (A3 J J (A3 J J (A5 (I8 J) J (C96 ((J42 Int 1 F0 17 7 J J)) (H4 (A09 s (a+1) d l ⟨kind,⟨0,0,0,0⟩,0,0,[]⟩ hl J J) J J J ?_)))))));rintro _ _ ⟨rfl,rfl⟩;refine A6 J J (A4 ?_);refine k1 (k2 (k2 (A2 (A3 J J (H4 (A08 s (a+1) d (by omega) hs J) J J J ?_)))));rintro _ _ ⟨rfl,rfl⟩;refine A3 J J (H5 J J J (H5 J J J (A6 J J (A6 J J (A4 ?_)))))
 rw [decide_eq_true hlt,show s.getD (a+1) 0=97 by rw [J65,h];rfl]
 refine k1 (k2 (A2 (A3 J J (A3 J J (G6 J J J J (A3 J J (G6 J J J J (D8 (C54 [42,43,63,123] 97) J J J ?_))))))));rintro _ rfl;refine G6 J J J J (A5 (U8 J J) J (A5 (O8 J (rfl) J) J (A4 ?_)));refine k1 ?_;refine B0 rfl (fun ht=>?_) (fun ht=>?_)
 ·exact absurd (A0 ht) (by decide)
 refine k5 (k1 (k2 (A2 (A3 J J (A6 J J (A4 ?_))))));refine k1 (k10 ?_)
 exact E0 (H9 rfl rfl) (by repeat (first | exact A8 | refine tail_drop rfl ?_ | refine A9 rfl ?_ | refine H2 _ ?_ | refine B6 _ ?_)) (C9 (L:=[(810,_),(811,_)]) ⟨rfl,rfl,trivial⟩ (by repeat (first | exact B8 | refine C0 rfl ?_ | refine J3 _ ?_))) ⟨rfl,rfl⟩
theorem G60 {gf:Fr} {ob:Obs} (s:Str) (a d:Nat) (l:List AL.Node) (kind:Int) (h:a+1=s.length) (hs:s.length≤1000) (hl:l.length≤1000) (h0:B4 ob 810=some (M8 s a d)) (h1:B4 ob 811=some (M4 l)) :
  AL.Met Tryz.prog 147 [P0,M3 kind] gf ob [811] (fun rs ob'=>rs=[M3 l.length]∧ob'=(810,M8 s (a+1) d)::(811,M4 (l++[⟨kind,⟨0,0,0,0⟩,0,0,[]⟩]))::Obs.forget 811 ob):=by
 refine AL.Met.introH Tryz.func147 (by decide) rfl rfl rfl (fun hH=>?_)
 refine D9 (J37 811 (l:=[(0,.s P0),(1,.s (M3 kind))]) (L:=[(810,_),(811,_)]) ⟨le1 rfl,le1 rfl,trivial⟩ hH (by repeat (first | exact A8 | refine A9 rfl ?_)) ⟨h0,h1,trivial⟩) ?_
 refine k2 (A2 (A6 J J (A4 ?_)));refine k1 (k2 (A2 (A3 J J (A5 (B2 J) J (A5 (A7 J) J (G3 J J J J (E4 J J J (A5 (B2 J) J (A5 (A7 J) J (H7 (C4 TySz.out J J J J J J) (A4 ?_)))))))))));refine k1 (k2 (A2 (A3 J J (A3 J J (A5 (I8 J) J (C96 ((J42 Int 1 F0 17 7 J J)) (H4 (A09 s (a+1) d l ⟨kind,⟨0,0,0,0⟩,0,0,[]⟩ hl J J) J J J ?_)))))));rintro _ _ ⟨rfl,rfl⟩;refine A6 J J (A4 ?_);refine k1 (k2 (k2 (A2 (A3 J J (H4 (A08 s (a+1) d (by omega) hs J) J J J ?_)))));rintro _ _ ⟨rfl,rfl⟩;refine A3 J J (H5 J J J (H5 J J J (A6 J J (A6 J J (A4 ?_)))))
 rw [decide_eq_false (show ¬a+1 < s.length by omega)]
 refine k1 (k2 (A2 (A3 J J (A3 J J (I6 J J J (by decide) J (I6 J J J (by decide) J (I6 J J J (by decide) J (A5 (W9 J (rfl) J) J (A4 ?_)))))))));refine k1 ?_;refine B0 rfl (fun ht=>?_) (fun ht=>?_)
 ·cases ht
 refine k5 (k1 (k2 (A2 (A3 J J (A6 J J (A4 ?_))))));refine k1 (k10 ?_)
 exact E0 (H9 rfl rfl) (by repeat (first | exact A8 | refine tail_drop rfl ?_ | refine A9 rfl ?_ | refine H2 _ ?_ | refine B6 _ ?_)) (C9 (L:=[(810,_),(811,_)]) ⟨rfl,rfl,trivial⟩ (by repeat (first | exact B8 | refine C0 rfl ?_ | refine J3 _ ?_))) ⟨rfl,rfl⟩
theorem H39 {gf:Fr} {ob:Obs} :
  AL.Met Tryz.prog 148 [P0,W4 97] gf ob [] (fun rs ob'=>rs=[.one (.clo 177 [(810,0)] [])]∧ob'=ob):=by
 refine AL.Met.intro Tryz.func148 (by decide) J J J ?_
 refine k2 (A2 (A6 J J (A4 ?_)));refine k1 (k2 (k2 (A2 (A3 J J (A4 ?_)))));refine k1 (k3 (k2 (A2 (A5 (F4 J J) J (A6 J J (A4 ?_))))));refine k1 ?_;refine B0 rfl (fun ht=>?_) (fun ht=>?_)
 ·exact absurd (A0 ht) (by decide)
 refine k2 (A2 (A5 (F4 J J) J (A6 J J (A4 ?_))));refine k1 ?_;refine B0 rfl (fun ht=>?_) (fun ht=>?_)
 ·exact absurd (A0 ht) (by decide)
 refine k2 (A2 (A5 (F4 J J) J (A6 J J (A4 ?_))));refine k1 ?_;refine B0 rfl (fun ht=>?_) (fun ht=>?_)
 ·exact absurd (A0 ht) (by decide)
 refine k2 (A2 (A5 (F4 J J) J (A6 J J (A4 ?_))));refine k1 ?_;refine B0 rfl (fun ht=>?_) (fun ht=>?_)
 ·exact absurd (A0 ht) (by decide)
 refine k2 (k2 (A2 (A5 (F4 J J) J (A6 J J (A4 ?_)))));refine k1 ?_;refine B0 rfl (fun ht=>?_) (fun ht=>?_)
 ·exact absurd (A0 ht) (by decide)
 refine k2 (A2 (A5 (F4 J J) J (A6 J J (A4 ?_))));refine k1 ?_;refine B0 rfl (fun ht=>?_) (fun ht=>?_)
 ·exact absurd (A0 ht) (by decide)
 refine k2 (A2 (A5 (F4 J J) J (A6 J J (A4 ?_))));refine k1 ?_;refine B0 rfl (fun ht=>?_) (fun ht=>?_)
 ·exact absurd (A0 ht) (by decide)
 skip
 refine A2 (A5 (F4 J J) J (A6 J J (A4 ?_)));refine k1 ?_;refine B0 rfl (fun ht=>?_) (fun ht=>?_)
 ·exact absurd (A0 ht) (by decide)
 refine k5 (k2 (A2 (A3 J J (A5 (m8 J J) J (A6 J J (A4 ?_))))));refine k1 (k10 ?_)
 exact E0 (H9 rfl rfl) (by repeat (first | exact A8 | refine A9 rfl ?_ | refine B6 _ ?_)) (fun _ _ h=>h) ⟨rfl,rfl⟩
set_option maxHeartbeats 1000000
theorem E31 {gf:Fr} {ob:Obs} (s:Str) (a d:Nat) (l:List AL.Node) (h:s[a+1]?=some 97) (hs:s.length≤1000) (hl:l.length≤900) (h0:B4 ob 810=some (M8 s a d)) (h1:B4 ob 811=some (M4 l)) :
  AL.Met Tryz.prog 125 [P0,W4 94] gf ob [811] (fun rs ob'=>rs=[M3 l.length]∧ob'=(810,M8 s (a+1) d)::(811,M4 (l++[⟨2,⟨0,0,0,0⟩,0,0,[]⟩]))::Obs.forget 811 ob):=by
 refine AL.Met.introH Tryz.func125 (by decide) rfl rfl rfl (fun hH=>?_)
 refine D9 (J37 811 (l:=[(0,.s P0),(1,.s (W4 94))]) (L:=[(810,_),(811,_)]) ⟨le1 rfl,le1 rfl,trivial⟩ hH (by repeat (first | exact A8 | refine A9 rfl ?_)) ⟨h0,h1,trivial⟩) ?_
 refine k2 (A2 (A6 J J (A4 ?_)));refine k1 (k2 (k2 (A2 (A3 J J (A4 ?_)))));refine k1 (k3 (k2 (A2 (A5 (F4 J J) J (A6 J J (A4 ?_))))));refine k1 ?_;refine B0 rfl (fun ht=>?_) (fun ht=>?_)
 ·refine k2 (A2 (A3 J J (H4 (G59 s a d l 2 h hs (by omega) J J) J J J ?_)));rintro _ _ ⟨rfl,rfl⟩;refine A6 J J (A4 ?_);refine k1 (k10 (k12 (k11 ?_)))
  exact E0 (H9 rfl rfl) (by repeat (first | exact A8 | refine tail_drop rfl ?_ | refine A9 rfl ?_ | refine H2 _ ?_ | refine B6 _ ?_)) (C9 (L:=[(810,_),(811,_)]) ⟨rfl,rfl,trivial⟩ (by repeat (first | exact B8 | refine C0 rfl ?_ | refine J3 _ ?_))) ⟨rfl,rfl⟩
 ·cases ht
theorem F82 {gf:Fr} {ob:Obs} (s:Str) (a d:Nat) (l:List AL.Node) (h:a+1=s.length) (hs:s.length≤1000) (hl:l.length≤900) (h0:B4 ob 810=some (M8 s a d)) (h1:B4 ob 811=some (M4 l)) :
  AL.Met Tryz.prog 125 [P0,W4 36] gf ob [811] (fun rs ob'=>rs=[M3 l.length]∧ob'=(810,M8 s (a+1) d)::(811,M4 (l++[⟨3,⟨0,0,0,0⟩,0,0,[]⟩]))::Obs.forget 811 ob):=by
 refine AL.Met.introH Tryz.func125 (by decide) rfl rfl rfl (fun hH=>?_)
 refine D9 (J37 811 (l:=[(0,.s P0),(1,.s (W4 36))]) (L:=[(810,_),(811,_)]) ⟨le1 rfl,le1 rfl,trivial⟩ hH (by repeat (first | exact A8 | refine A9 rfl ?_)) ⟨h0,h1,trivial⟩) ?_
 refine k2 (A2 (A6 J J (A4 ?_)));refine k1 (k2 (k2 (A2 (A3 J J (A4 ?_)))));refine k1 (k3 (k2 (A2 (A5 (F4 J J) J (A6 J J (A4 ?_))))));refine k1 ?_;refine B0 rfl (fun ht=>?_) (fun ht=>?_)
 ·exact absurd (A0 ht) (by decide)
 refine k2 (A2 (A5 (F4 J J) J (A6 J J (A4 ?_))));refine k1 ?_;refine B0 rfl (fun ht=>?_) (fun ht=>?_)
 ·refine k2 (A2 (A3 J J (H4 (G60 s a d l 3 h hs (by omega) J J) J J J ?_)));rintro _ _ ⟨rfl,rfl⟩;refine A6 J J (A4 ?_);refine k1 (k10 (k12 (k11 ?_)))
  exact E0 (H9 rfl rfl) (by repeat (first | exact A8 | refine tail_drop rfl ?_ | refine A9 rfl ?_ | refine H2 _ ?_ | refine B6 _ ?_)) (C9 (L:=[(810,_),(811,_)]) ⟨rfl,rfl,trivial⟩ (by repeat (first | exact B8 | refine C0 rfl ?_ | refine J3 _ ?_))) ⟨rfl,rfl⟩
 ·cases ht
theorem H40 {gf:Fr} {ob:Obs} (s:Str) (a d:Nat) (l:List AL.Node) (h:s[a]?=some 97) (h2:s[a+1]?=some 43) (hs:s.length≤1000) (hl:l.length≤900) (h0:B4 ob 810=some (M8 s a d)) (h1:B4 ob 811=some (M4 l)) :
  AL.Met Tryz.prog 125 [P0,W4 97] gf ob [811] (fun rs ob'=>rs=[M3 (l.length+1)]∧ob'=(810,M8 s (a+2) d)::(811,M4 (l++[⟨1,⟨0,8589934592,0,0⟩,0,0,[]⟩]++[⟨6,⟨0,0,0,0⟩,1,-1,[(l.length:Int)]⟩]))::Obs.forget 811 ob):=by
 have hl1:(((l++[⟨1,⟨0,8589934592,0,0⟩,0,0,[]⟩]:List AL.Node)).length:Int)=(l.length:Int)+1:=by rw [J63,List.length_singleton];rfl
 have hll:((l++[⟨1,⟨0,8589934592,0,0⟩,0,0,[]⟩]:List AL.Node)).length≤1000:=by rw [J63,List.length_singleton];omega
 refine AL.Met.introH Tryz.func125 (by decide) rfl rfl rfl (fun hH=>?_)
 refine D9 (J37 811 (l:=[(0,.s P0),(1,.s (W4 97))]) (L:=[(810,_),(811,_)]) ⟨le1 rfl,le1 rfl,trivial⟩ hH (by repeat (first | exact A8 | refine A9 rfl ?_)) ⟨h0,h1,trivial⟩) ?_
 refine k2 (A2 (A6 J J (A4 ?_)));refine k1 (k2 (k2 (A2 (A3 J J (A4 ?_)))));refine k1 (k3 (k2 (A2 (A5 (F4 J J) J (A6 J J (A4 ?_))))));refine k1 ?_;refine B0 rfl (fun ht=>?_) (fun ht=>?_)
 ·exact absurd (A0 ht) (by decide)
 refine k2 (A2 (A5 (F4 J J) J (A6 J J (A4 ?_))));refine k1 ?_;refine B0 rfl (fun ht=>?_) (fun ht=>?_)
 ·exact absurd (A0 ht) (by decide)
 refine k5 (k2 (A2 (A3 J J (A3 J J (H4 (H39) J J J ?_)))));rintro _ _ ⟨rfl,rfl⟩;refine A6 J J (A4 ?_);refine k1 (k2 (A2 (A3 J J (A96 (H37 s a d l h hs (by omega) J J) J J J J ?_))));rintro _ _ ⟨rfl,rfl⟩;refine A6 J J (A4 ?_);refine k1 (k2 (A2 (A3 J J (H4 (H38 s (a+1) d h2 hs J) J J J ?_))));rintro _ _ ⟨rfl,rfl⟩;refine A3 J J (H5 J J J (H5 J J J (H5 J J J (A6 J J (A6 J J (A6 J J (A4 ?_)))))));refine k1 (k2 (k2 (A2 (A3 J J (A5 (U0 J) J (A4 ?_))))));refine k1 ?_;refine B0 rfl (fun ht=>?_) (fun ht=>?_)
 ·cases ht
 refine k5 (k1 (k2 (A2 (A3 J J (A3 J J (A3 J J (A3 J J (A5 (D1 (c:=F0) (ys:=[(l.length:Int)]) (E5 J J J J H1) J J J) J (A5 (I8 J) J (H4 (A09 s (a+2) d (l++[⟨1,⟨0,8589934592,0,0⟩,0,0,[]⟩]) ⟨6,⟨0,0,0,0⟩,1,-1,[(l.length:Int)]⟩ hll J J) J J J ?_))))))))));rintro _ _ ⟨rfl,rfl⟩;refine A6 J J (A4 ?_)
 rw [hl1]
 refine k1 (k10 ?_)
 exact E0 (H9 rfl rfl) (by repeat (first | exact A8 | refine tail_drop rfl ?_ | refine A9 rfl ?_ | refine H2 _ ?_ | refine B6 _ ?_)) (C9 (L:=[(810,_),(811,_)]) ⟨rfl,rfl,trivial⟩ (by repeat (first | exact B8 | refine C0 rfl ?_ | refine J3 _ ?_))) ⟨rfl,rfl⟩
set_option maxHeartbeats 1000000
theorem E32 {gf:Fr} {ob:Obs} (s:Str) (a d:Nat) (l:List AL.Node) (kind:Int) (kids:List Int) (h2:2≤kids.length) (hl:l.length≤1000) (h0:B4 ob 810=some (M8 s a d)) (h1:B4 ob 811=some (M4 l)) :
  AL.Met Tryz.prog 88 [P0,M3 kind,.one (.p (.list Int 1 F0 kids))] gf ob [811] (fun rs ob'=>rs=[M3 l.length]∧ob'=(810,M8 s a d)::(811,M4 (l++[⟨kind,⟨0,0,0,0⟩,0,0,kids⟩]))::Obs.forget 811 ob):=by
 refine AL.Met.introH Tryz.func88 (by decide) rfl rfl rfl (fun hH=>?_)
 refine D9 (J37 811 (l:=[(0,.s P0),(1,.s (M3 kind)),(2,D5 Int 1 F0 kids)]) (L:=[(810,_),(811,_)]) ⟨le1 rfl,le1 rfl,le1 rfl,trivial⟩ hH (by repeat (first | exact A8 | refine A9 rfl ?_)) ⟨h0,h1,trivial⟩) ?_
 refine k2 (A2 (A6 J J (A4 ?_)));refine k1 (k2 (k2 (A2 (A3 J J (F3 J J (A4 ?_))))));refine k1 (k3 (k2 (A2 (A5 (F4 J J) J (A6 J J (A4 ?_))))));refine k1 ?_;refine B0 rfl (fun ht=>?_) (fun ht=>?_)
 ·have:=A0 ht
  omega
 refine k2 (A2 (A5 (F4 J J) J (A6 J J (A4 ?_))));refine k1 ?_;refine B0 rfl (fun ht=>?_) (fun ht=>?_)
 ·have:=A0 ht
  omega
 refine k5 (k2 (A2 (A3 J J (A3 J J (A3 J J (A5 (I8 J) J (H4 (A09 s a d l ⟨kind,⟨0,0,0,0⟩,0,0,kids⟩ hl J J) J J J ?_)))))));rintro _ _ ⟨rfl,rfl⟩;refine A6 J J (A4 ?_);refine k1 (k10 ?_)
 exact E0 (H9 rfl rfl) (by repeat (first | exact A8 | refine tail_drop rfl ?_ | refine A9 rfl ?_ | refine H2 _ ?_ | refine B6 _ ?_)) (C9 (L:=[(810,_),(811,_)]) ⟨rfl,rfl,trivial⟩ (by repeat (first | exact B8 | refine C0 rfl ?_ | refine J3 _ ?_))) ⟨rfl,rfl⟩
theorem C21 {gf:Fr} {ob:Obs} (kind x:Int) :
  AL.Met Tryz.prog 88 [P0,M3 kind,.one (.p (.list Int 1 F0 [x]))] gf ob [] (fun rs ob'=>rs=[M3 x]∧ob'=ob):=by
 have hv:[x][Int.toNat 0]?=some x:=rfl
 refine AL.Met.intro Tryz.func88 (by decide) J J J ?_
 refine k2 (A2 (A6 J J (A4 ?_)));refine k1 (k2 (k2 (A2 (A3 J J (F3 J J (A4 ?_))))));refine k1 (k3 (k2 (A2 (A5 (F4 J J) J (A6 J J (A4 ?_))))));refine k1 ?_;refine B0 rfl (fun ht=>?_) (fun ht=>?_)
 ·exact absurd (A0 ht) (by simp)
 refine k2 (A2 (A5 (F4 J J) J (A6 J J (A4 ?_))));refine k1 ?_;refine B0 rfl (fun ht=>?_) (fun ht=>?_)
 ·refine k2 (A2 (A3 J J (A5 (B3 J (.pure _ _ _ _) J (by omega) hv) J (A5 (B1 J J) J (A6 J J (A4 ?_))))));refine k1 (k10 (k12 (k11 ?_)))
  exact E0 (H9 rfl rfl) (by repeat (first | exact A8 | refine A9 rfl ?_ | refine B6 _ ?_)) (fun _ _ h=>h) ⟨rfl,rfl⟩
 ·exact absurd rfl (A1 ht)
set_option maxHeartbeats 1000000
theorem J11 (st:AL.State) (b e:Bool):FnOk Tryz.prog 141 [H85 st,J2 b,J2 e] (fun rs=>rs=[L1 (O6 st b e)]):=by
 refine FnOk.intro Tryz.func141 (by decide) J J J J ?_
 refine k2 (A2 (D2 (l4 3 J J J) J (A5 (I7 _ 1 F0) J (A4 ?_))));refine k1 (k2 (k2 (A2 (A5 (A7 J) J (G3 J J J J (A4 ?_))))));refine k1 (k3 (k2 (A2 (A5 (F4 J J) J (A6 J J (A4 ?_))))));refine k1 ?_;refine B0 rfl (fun ht=>?_) (fun ht=>?_)
 ·have h1:st.Kind=1:=A0 ht
  refine k2 (A2 (A5 (A7 J) J (G3 J J J J (A5 (A7 J) J (G3 J J J J (A5 (D1 (c:=F0) (ys:=[st.Next,st.Other]) (E5 J J J J (E5 J J J J H1)) J J J) J (A6 J J (A4 ?_))))))));refine k1 (k10 (k12 (k11 ?_)))
  exact B7 (rs:=[L1 [st.Next,st.Other]]) (I4 rfl rfl rfl) (by unfold O6;simp [h1])
 have h1:¬st.Kind=1:=A1 ht
 refine k2 (A2 (A5 (F4 J J) J (A6 J J (A4 ?_))));refine k1 ?_;refine B0 rfl (fun ht=>?_) (fun ht=>?_)
 ·have h2:st.Kind=2:=A0 ht
  refine k2 (A2 (A3 J J (A4 ?_)));refine k1 ?_;refine B0 rfl (fun ht=>?_) (fun ht=>?_)
  ·refine k2 (A2 (A5 (A7 J) J (G3 J J J J (A5 (D1 (c:=F0) (ys:=[st.Next]) (E5 J J J J H1) J J J) J (A6 J J (A4 ?_))))));refine k1 (k10 (k12 (k11 ?_)))
   exact B7 (rs:=[L1 [st.Next]]) (I4 rfl rfl rfl) (by unfold O6;simp [h2,ht])
  ·refine k5 (k2 (A2 (A5 (I7 _ 1 F0) J (A4 ?_))));refine k1 (k10 ?_)
   exact B7 (rs:=[L1 []]) (I4 rfl rfl rfl) (by unfold O6;simp [h2,ht])
 have h2:¬st.Kind=2:=A1 ht
 refine k2 (A2 (A5 (F4 J J) J (A6 J J (A4 ?_))));refine k1 ?_;refine B0 rfl (fun ht=>?_) (fun ht=>?_)
 ·have h3:st.Kind=3:=A0 ht
  refine k2 (A2 (A3 J J (A4 ?_)));refine k1 ?_;refine B0 rfl (fun ht=>?_) (fun ht=>?_)
  ·refine k2 (A2 (A5 (A7 J) J (G3 J J J J (A5 (D1 (c:=F0) (ys:=[st.Next]) (E5 J J J J H1) J J J) J (A6 J J (A4 ?_))))));refine k1 (k10 (k12 (k11 ?_)))
   exact B7 (rs:=[L1 [st.Next]]) (I4 rfl rfl rfl) (by unfold O6;simp [h3,ht])
  ·refine k5 (k2 (A2 (A5 (I7 _ 1 F0) J (A4 ?_))));refine k1 (k10 ?_)
   exact B7 (rs:=[L1 []]) (I4 rfl rfl rfl) (by unfold O6;simp [h3,ht])
 have h3:¬st.Kind=3:=A1 ht
 refine k5 (k2 (A2 (A5 (I7 _ 1 F0) J (A4 ?_))));refine k1 (k10 ?_)
 exact B7 (rs:=[L1 []]) (I4 rfl rfl rfl) (by unfold O6;simp [h1,h2,h3])
end Go.Proofs.YtkahafmcmiiolaaGreatDoor
