/- Walks of the program's functions. -/
import Derived.Test.YtjmoigcpoopjhaaGreatDoorFa
import Derived.Test.YtjmoigcpoopjhaaGreatDoorFs
import Derived.Lib.Bytealg
import Derived.RecoverIn
set_option linter.unusedSimpArgs false
namespace Go.Proofs.YtjmoigcpoopjhaaGreatDoor
open Go Go.AL
set_option maxRecDepth 100000
set_option maxHeartbeats 1000000
theorem H68 {nd s:Str} {p:Nat} {out:List Int} {f:Nat} (h:A65 nd s f p out=i8 nd s):out.length≤(i8 nd s).length:=by
 have key:∀(f p:Nat) (out:List Int),out.length≤(A65 nd s f p out).length:=by
  intro f
  induction f with
  | zero=>intro p out;exact Nat.le_refl _
  | succ f ih =>
   intro p out
   rw [A65]
   split
   ·exact Nat.le_refl _
   ·rename_i i _
    have:=ih (i+nd.length) (out++[(i:Int)])
    rw [L06] at this
    omega
 rw [←h];exact key f p out
theorem E20 {w:World} (h:Grd Tryz.prog (fun _=>False) w):∃m,w.cell? ⟨0,0,none⟩=some (.int .i64 m):=by
 obtain ⟨wg,⟨hsh,_⟩,hle,hk⟩:=h
 obtain ⟨m,hm⟩:=Tryz.laysM143.s1_3 wg hsh
 refine ⟨m,?_⟩
 have hlt:0 < wg.heap.size:=World.block_lt_of_cell? wg _ hm
 rw [World.cell?_of_block (w:=wg) (a:=⟨0,0,none⟩) (hk _ hlt).1]
 exact hm
theorem K38 (s nd:Str) (hs:s.length < 4294967281):FnOk Tryz.prog 78 [H7 s,H7 nd] (fun rs=>rs=[E2 (Lib.index s nd)]) :=
 K85 (xs:=[.string ⟨s.toArray⟩,.string ⟨nd.toArray⟩]) ⟨_,rfl,rfl,rfl⟩ rfl fun w hg=>by
  obtain ⟨m,hm⟩:=E20 hg
  refine (Tryz.strings_Index ⟨s.toArray⟩ ⟨nd.toArray⟩ m w hs hm).mono ?_
  rintro e w' ⟨rfl,rfl⟩
  exact ⟨by simp,rfl,rfl,rfl,Nat.le_refl _,fun _ _=>rfl⟩
theorem H69 (nd s:Str) (p:Nat) (hn:nd.length≤1073741824) (hs:s.length≤1073741824):FnOk Tryz.prog 50 [H7 nd,H7 s,E2 p] (fun rs=>rs=[E2 ((Z2 nd s p).getD 0:Nat),H1 (Z2 nd s p).isSome]):=by
 refine FnOk.intro Tryz.func50 (by decide) A0 A0 A0 A0 ?_
 refine k2 (A3 (A7 A0 A0 (A7 A0 A0 (A5 ?_))));refine k1 (k2 (k2 (A3 (A4 A0 A0 (A6 (O5 A0 A0) A0 (A4 A0 A0 (B5 A0 A0 A0 A0 (fun hg=>by rw [hg];exact C2 A0 A0) ?_)))))));refine B5 A0 A0 A0 A0 (fun hg=>by rw [hg];exact A75 A0 A0) ?_;refine K7 A0 A0 ?_;refine A4 A0 A0 (B5 A0 A0 A0 A0 (fun hg=>by rw [hg];exact C2 A0 A0) ?_);refine B5 A0 A0 A0 A0 (fun hg=>by rw [hg];exact C2 A0 A0) ?_;refine B5 A0 A0 A0 A0 (fun hg=>by rw [hg];exact J7 A0) ?_;refine B5 A0 A0 A0 A0 (fun hg=>by rw [hg];exact O1 A0 A0) ?_;refine K7 A0 A0 ?_;refine A5 ?_;refine k1 ?_;refine B1 rfl (fun ht=>?_) (fun ht=>?_)
 ·simp only [or_pick] at ht
  have h:=A1 ht
  have hno:Z2 nd s p=none:=by
   unfold Z2
   rw [if_pos (by rcases h with (h | h) | h<;>first | exact .inl h | exact absurd h (by omega) | exact .inr (.inl (by omega)))]
  rw [hno]
  refine k2 (A3 (A7 A0 A0 (A7 A0 A0 (A5 ?_))));refine k1 (k10 (k11 ?_))
  exact B8 (rs:=[E2 0,H1 false]) (a6 rfl rfl rfl rfl rfl) rfl
 simp only [or_pick] at ht
 have h:=A2 ht
 have hne:nd≠[]:=fun e=>h (.inl (.inl e))
 have hpl:p≤s.length:=by
  apply Classical.byContradiction
  intro e;exact h (.inr (by omega))
 have hdl:(s.drop p).length≤s.length:=by rw [L12];omega
 have hlo:=Lib.index_ge (s.drop p) nd
 have hhi:=Lib.index_room (s.drop p) nd
 rw [L12] at hhi
 have hnx:Z2 nd s p=if Lib.index (s.drop p) nd < 0 then none else some (p+(Lib.index (s.drop p) nd).toNat):=by
  unfold Z2
  by_cases h0:Lib.index (s.drop p) nd < 0
  ·rw [if_pos (.inr (.inr h0)),if_pos h0]
  ·rw [if_neg (by simp only [not_or];exact ⟨hne,by omega,h0⟩),if_neg h0]
 obtain ⟨i,hi⟩:∃i,i=Lib.index (s.drop p) nd:=⟨_,rfl⟩
 refine k5 (k1 (k2 (A3 (A4 A0 A0 (A4 A0 A0 (A6 (B44 A0 A0 (by omega) (by omega)) A0 (A4 A0 A0 (C9 (K38 (s.drop p) nd (by omega)) A0 A0 A0 ?_))))))));rintro _ rfl;refine A7 A0 A0 (A5 ?_)
 rw [L03,←hi]
 rw [←hi] at hnx hlo hhi
 refine k1 (k2 (k2 (A3 (A4 A0 A0 (F7 A0 A0 A0 (A5 ?_))))));refine k1 ?_;refine B1 rfl (fun ht=>?_) (fun ht=>?_)
 ·have h1:i < 0:=A1 ht
  rw [hnx,if_pos h1]
  refine k2 (A3 (A7 A0 A0 (A7 A0 A0 (A5 ?_))));refine k1 (k10 (k11 ?_))
  exact B8 (rs:=[E2 0,H1 false]) (a6 rfl rfl rfl rfl rfl) rfl
 ·have h1:¬i < 0:=A2 ht
  rw [hnx,if_neg h1]
  refine k5 (k1 (k2 (A3 (A4 A0 A0 (A4 A0 A0 (E3 A0 A0 A0 (A7 A0 A0 (A7 A0 A0 (A5 ?_)))))))));refine k1 (k10 (B8 (a6 A0 A0 A0 A0 A0) ?_))
  dsimp only [Option.getD,Option.isSome]
  rw [show (p:Int)+i=((p+i.toNat:Nat):Int) by omega]
theorem F83 (nd s:Str) (hn:nd.length≤1073741824) (hs:s.length≤16777216):FnOk Tryz.prog 25 [H7 nd,H7 s] (fun rs=>rs=[K9 (i8 nd s)]):=by
 have hpl:=B20 nd s
 refine FnOk.intro Tryz.func25 (by decide) A0 A0 A0 A0 ?_
 refine k2 (A3 (A7 A0 A0 (A5 ?_)));refine k1 (k2 (A3 (D1 (j4 5 _ F2 A0) A0 (A5 ?_))));refine k1 (k2 (A3 (A4 A0 A0 (A4 A0 A0 (C9 (H69 nd s 0 hn (by omega)) A0 A0 A0 ?_)))));rintro _ rfl;refine A4 A0 A0 (E8 A0 A0 A0 (E8 A0 A0 A0 (A7 A0 A0 (A7 A0 A0 (A5 ?_)))));refine k1 (k2 (k3 (D2 (X:=Nat × List Int) (fun x=>([(0,Z9 nd),(1,Z9 s),(5,.s (.one (.buf 5 Int 1 F2 x.2))),(6,C7 ((Z2 nd s x.1).getD 0:Nat)),(7,S0 (Z2 nd s x.1).isSome)],[(5,.spare x.2.length 1 3)])) (fun x=>x.1≤s.length∧A65 nd s (s.length+2 - x.1) x.1 x.2=i8 nd s) (fun x=>s.length+1 - x.1) (0,[]) ⟨Nat.zero_le _,rfl⟩ (Sees.of ⟨le1 rfl,le1 rfl,le1 rfl,le1 rfl,le1 rfl,trivial⟩ ⟨rfl,trivial⟩) ?_)))
 rintro ⟨p,out⟩ ⟨hp,hg⟩
 dsimp only at hp hg ⊢
 have hob:=H68 hg
 refine k2 (k2 (A3 (A4 A0 A0 (A5 ?_))));refine k1 ?_
 cases hnx:Z2 nd s p with
 | none =>
  rw [B39 hnx] at hg
  refine B1 rfl (fun ht=>?_) (fun ht=>?_)
  ·cases ht
  ·refine k6 (k2 (A3 (A4 A0 A0 (A7 A0 A0 (A5 ?_)))));refine k1 (k10 ?_)
   exact B8 (rs:=[K9 out]) (I1 rfl rfl rfl) (by rw [hg])
 | some i =>
  have hro:=A99 hnx
  have hnp:0 < nd.length:=List.length_pos_iff.2 hro.1
  rw [D16 (by omega) hnx] at hg
  refine B1 rfl (fun ht=>?_) (fun ht=>?_)
  ·refine k5 (k1 (k3 (k2 (A3 (A4 A0 A0 (A4 A0 A0 (A6 (D7 (c:=F2) (ys:=[(i:Int)]) (G6 A0 A0 A0 A0 I0) A0 A0 A0) A0 (D1 (P0 A0 A0 A0 (.pure _ _ _ _) (by (simp only [L04,L09];omega)) A0) A0 (A7 A0 A0 (A5 ?_))))))))));refine k1 ?_
   dsimp only [Option.getD]
   refine A3 (A4 A0 A0 (A4 A0 A0 (A4 A0 A0 (A4 A0 A0 (A6 (J7 A0) A0 (E3 A0 A0 A0 (C9 ((show FnOk Tryz.prog 50 [H7 nd,H7 s,E2 ((i:Int)+(nd.length:Int))] (fun rs=>rs=[E2 ((Z2 nd s (i+nd.length)).getD 0:Nat),H1 (Z2 nd s (i+nd.length)).isSome]) from by rw [show (i:Int)+(nd.length:Int)=((i+nd.length:Nat):Int) by omega];exact H69 nd s (i+nd.length) hn (by omega))) A0 A0 A0 ?_)))))));rintro _ rfl;refine A4 A0 A0 (E8 A0 A0 A0 (E8 A0 A0 A0 (A7 A0 A0 (A7 A0 A0 (A5 ?_)))));refine k4 (k1 ?_);refine ⟨(i+nd.length,out++[(i:Int)]),⟨by dsimp only;omega,?_⟩,by dsimp only;omega,(Sees.of ⟨le1 rfl,le1 rfl,le1 rfl,le1 rfl,le1 rfl,trivial⟩ ⟨rfl,trivial⟩)⟩
   dsimp only
   rw [←hg]
   exact F61 _ _ _ _ (by omega) (by omega)
  ·cases ht
theorem C41 (nd s:Str) (hn:nd.length≤1073741824) (hs:s.length≤16777216):FnOk Tryz.prog 13 [H7 nd,H7 s] (fun rs=>rs=[E2 (c7 nd s)]):=by
 have hpl:=B20 nd s
 refine FnOk.intro Tryz.func13 (by decide) A0 A0 A0 A0 ?_
 refine k2 (A3 (A7 A0 A0 (A5 ?_)));refine k1 (k2 (A3 (A4 A0 A0 (A4 A0 A0 (C9 (F83 nd s hn hs) A0 A0 A0 ?_)))));rintro _ rfl;refine F4 A0 A0 (A7 A0 A0 (A5 ?_));refine k1 (k10 ?_)
 exact B8 (I1 rfl rfl rfl) rfl
set_option maxHeartbeats 1000000
theorem D87 {g:Graph} {c:Nat} {cm:Commit} (h:g[c]?=some cm):R4 g c=cm.Files:=by unfold R4;rw [h];rfl
def A04 (g:Graph) (ps:List Int) (i:Nat):List (List File):=(ps.take i).map fun p=>R4 g p.toNat
theorem G82 {g:Graph} {ps:List Int} {i:Nat} (h:i < ps.length):A04 g ps (i+1)=A04 g ps i++[R4 g ps[i].toNat]:=by
 unfold A04
 rw [List.take_add_one,L01 h,Option.toList_some,L40];rfl
theorem H70 (g:Graph) (ps:List Int) (i:Nat):(A04 g ps i).length≤i:=by
 unfold A04;rw [L33,L10];omega
set_option maxHeartbeats 1000000
theorem J82 (xs bs:List Str):(A57 xs bs).length≤xs.length+bs.length:=by
 have key:∀(xs:List Str),∀bs,(A57 xs bs).length≤xs.length+bs.length:=by
  intro xs
  induction xs with
  | nil=>intro bs;simp [A57]
  | cons a xs ih =>
   intro bs
   rw [A57]
   induction bs with
   | nil=>rw [A07];have:=ih [];simp only [L09,L04] at this ⊢;omega
   | cons b bs ihb =>
    rw [A07]
    split
    ·have:=ih (b::bs);simp only [L04] at this ⊢;omega
    ·split
     ·simp only [L04] at ihb ⊢;omega
     ·have:=ih bs;simp only [L04] at this ⊢;omega
 exact key xs bs
set_option maxHeartbeats 1000000
theorem F11 (a b:List File):(Z6 a b).length≤a.length+b.length:=by
 unfold Z6
 have h1:=List.length_filterMap_le (B62 a b) (A57 (a.map (·.Path)) (b.map (·.Path)))
 have h2:=J82 (a.map (·.Path)) (b.map (·.Path))
 rw [L33,L33] at h2
 omega
theorem Valid.files {g:Graph} (h:Valid g) (c:Nat):(R4 g c).length≤200:=by
 unfold R4
 by_cases hc:c < g.length
 ·rw [L01 hc]
  exact (A09 (h.tree _ (L05 hc))).2.1
 ·rw [L18 (by omega)];simp
theorem Valid.trees {g:Graph} (h:Valid g) (c:Nat):∀t∈S3 g c,t.length≤200:=by
 intro t ht
 unfold S3 at ht
 split at ht
 ·rw [List.mem_singleton.1 ht];simp
 ·obtain ⟨p,_,rfl⟩:=List.mem_map.1 ht
  exact Valid.files h _
theorem C07 {g:Graph} (h:Valid g) (c:Nat):(S3 g c).length≤33:=by
 unfold S3
 split
 ·simp
 ·rw [L33]
  by_cases hc:c < g.length
  ·rw [g9 hc];have:=h.pars _ (L05 hc);omega
  ·rw [B36 hc];simp
theorem H71 {l:List File} (h:FewF l) (p:Str):(B00 l p).length≤16777216:=by
 unfold B00
 cases hf:L7 l p with
 | none=>simp
 | some x =>
  obtain ⟨f,hm,_,rfl⟩:=A59 hf
  exact h.blob f hm
structure FewB (B:List (List (Str × Str))):Prop where
 len:B.length≤33
 lens:∀l∈B,l.length≤400
 strs:∀l∈B,∀x∈l,x.1.length≤16777216∧x.2.length≤16777216
theorem D88 {g:Graph} (h:FewT g) (hv:Valid g) (c:Nat):FewB (O4 g c) where
 len:=by unfold O4;rw [L33];exact C07 hv c
 lens:=fun l hl=>by
  unfold O4 at hl
  obtain ⟨t,ht,rfl⟩:=List.mem_map.1 hl
  unfold B74
  rw [L33]
  have h1:=F11 t (R4 g c)
  have h2:=Valid.trees hv c t ht
  have h3:=Valid.files hv c
  omega
 strs:=fun l hl x hx=>by
  unfold O4 at hl
  obtain ⟨t,ht,rfl⟩:=List.mem_map.1 hl
  unfold B74 at hx
  obtain ⟨d,_,rfl⟩:=List.mem_map.1 hx
  refine ⟨H71 ?_ _,H71 (h.files c) _⟩
  unfold S3 at ht
  split at ht
  ·rw [List.mem_singleton.1 ht];exact ⟨by simp,(fun _ h=>by cases h),(fun _ h=>by cases h)⟩
  ·obtain ⟨p,_,rfl⟩:=List.mem_map.1 ht
   exact h.files _
def m9 (ts:List (List File)) (u:List File) (i:Nat):List (List (Str × Str)):=(ts.take i).map fun t=>B74 t u
theorem G83 {ts:List (List File)} {u:List File} {i:Nat} (h:i < ts.length):m9 ts u (i+1)=m9 ts u i++[B74 ts[i] u]:=by
 unfold m9
 rw [List.take_add_one,L01 h,Option.toList_some,L40];rfl
theorem H72 (ts:List (List File)) (u:List File) (i:Nat):(m9 ts u i).length≤ts.length:=by
 unfold m9;rw [L33,L10];omega
def A05 (t u:List File) (ds:List Delta) (i:Nat):List (Str × Str):=(ds.take i).map (J12 t u)
theorem G84 {t u:List File} {ds:List Delta} {i:Nat} (h:i < ds.length):A05 t u ds (i+1)=A05 t u ds i++[J12 t u ds[i]]:=by
 unfold A05
 rw [List.take_add_one,L01 h,Option.toList_some,L40];rfl
theorem E21 (t u:List File) (ds:List Delta) (i:Nat):(A05 t u ds i).length≤ds.length:=by
 unfold A05;rw [L33,L10];omega
theorem D35 (nd s:Str) (hs:s.length≤16777216):0≤c7 nd s∧c7 nd s≤16777218:=by
 have:=B20 nd s
 unfold c7;omega
set_option maxHeartbeats 1000000
theorem cmp_lt:∀(a b:Str),decide (Lib.compareBytes a b < 0)=ltS a b
 | [],[]=>rfl
 | [],_::_=>rfl
 | _::_,[]=>rfl
 | a::x,b::y=>by
  rw [Lib.compareBytes,B35]
  have ih:=cmp_lt x y
  by_cases h1:a < b
  ·simp [h1]
  ·by_cases h2:b < a
   ·have:¬a=b:=fun e=>by subst e;exact h1 h2
    simp [h1,h2,this]
   ·have:a=b:=UInt8.toNat_inj.1 (by rw [UInt8.lt_iff_toNat_lt] at h1 h2;omega)
    subst this
    simpa [h1] using ih
theorem I56 (a b:Str):FnOk Tryz.prog 106 [H7 a,H7 b] (fun rs=>rs=[E2 (Lib.compareBytes a b)]) :=
 K80 (xs:=[.string ⟨a.toArray⟩,.string ⟨b.toArray⟩]) ⟨_,rfl,rfl,rfl⟩ rfl fun w=>by simpa using Tryz.strings_Compare ⟨a.toArray⟩ ⟨b.toArray⟩ w
theorem J83 (x y:Delta):FnOk Tryz.prog 105 [pDelta x,pDelta y] (fun rs=>rs=[E2 (Lib.compareBytes x.Path y.Path)]):=by
 refine FnOk.intro Tryz.func105 (by decide) A0 A0 A0 A0 ?_
 refine k2 (A3 (D1 (s6 2 A0 A0 A0) A0 (D1 (s6 3 A0 A0 A0) A0 (A7 A0 A0 (A5 ?_)))));refine k1 (k2 (A3 (A6 (B0 A0) A0 (G3 A0 A0 A0 A0 (A6 (B0 A0) A0 (G3 A0 A0 A0 A0 (C9 (I56 x.Path y.Path) A0 A0 A0 ?_)))))));rintro _ rfl;refine A7 A0 A0 (A5 ?_);refine k1 (k10 ?_)
 exact B8 (I1 rfl rfl rfl) rfl
def w8 (rev:List Delta) (x:Delta) (m:Nat) (rest:List Delta):List Delta:=(rev.drop m).reverse++x::((rev.take m).reverse++rest)
theorem J84 {rev:List Delta} {x:Delta} {m:Nat} {rest:List Delta} (hm:m≤rev.length):(w8 rev x m rest).length=rev.length+1+rest.length:=by
 unfold w8
 simp only [L06,L44,L12,L04,L10]
 omega
theorem insAt_x {rev:List Delta} {x:Delta} {m:Nat} {rest:List Delta} (_hm:m≤rev.length):(w8 rev x m rest)[rev.length - m]?=some x:=by
 unfold w8
 rw [L17 (by simp),L44,L12,L42];rfl
theorem insAt_p {rev:List Delta} {x:Delta} {m:Nat} {rest:List Delta} (hm:m < rev.length):(w8 rev x m rest)[rev.length - m - 1]?=some rev[m]:=by
 unfold w8
 rw [L19 (by simp;omega),List.getElem?_reverse (by simp;omega),L12,L28]
 rw [show m+(rev.length - m - 1 - (rev.length - m - 1))=m by omega,L01 hm]
theorem I57 {rev:List Delta} {x:Delta} {m:Nat} {rest:List Delta} (hm:m < rev.length):((w8 rev x m rest).set (rev.length - m) rev[m]).set (rev.length - m - 1) x=w8 rev x (m+1) rest:=by
 have e1:(rev.drop m).reverse=(rev.drop (m+1)).reverse++[rev[m]]:=by rw [L11 hm,List.reverse_cons]
 have e2:(rev.take (m+1)).reverse=rev[m]::(rev.take m).reverse:=by rw [List.take_add_one,L01 hm,Option.toList_some,List.reverse_append];rfl
 have hl:(rev.drop (m+1)).reverse.length=rev.length - m - 1:=by rw [L44,L12];omega
 unfold w8
 rw [e1,e2,L15,L25,L37]
 generalize (rev.drop (m+1)).reverse=P at hl ⊢
 rw [←hl,show rev.length - m=P.length+1 by omega]
 rw [List.set_append_right _ _ (by omega),show P.length+1 - P.length=1 by omega]
 rw [List.set_append_right _ _ (by omega),L42]
 rfl
theorem insR_at {rev:List Delta} {x:Delta}:∀{m:Nat},m≤rev.length→(∀k,(h:k < m)→(h2:k < rev.length)→ltS x.Path rev[k].Path=true)→(∀h:m < rev.length,ltS x.Path rev[m].Path=false)→C60 x rev=rev.take m++x::rev.drop m:=by
 induction rev with
 | nil=>intro m _ _ _;rw [List.take_nil,List.drop_nil];rfl
 | cons y r ih =>
  intro m hm h1 h2
  cases m with
  | zero =>
   have:=h2 (by simp)
   unfold C60
   rw [if_neg (by rw [show y.Path=((y::r)[0]).Path from rfl,this];decide)];rfl
  | succ m =>
   have h3:ltS x.Path y.Path=true:=h1 0 (by omega) (by simp)
   unfold C60
   rw [if_pos h3,ih (m:=m) (by simpa using hm) (fun k hk hk2=>h1 (k+1) (by omega) (by simpa using hk2)) (fun h=>h2 (by simpa using h))]
   rfl
theorem I58 {rev:List Delta} {x:Delta} {m:Nat} {rest:List Delta} (hm:m≤rev.length) (h1:∀k,(h:k < m)→(h2:k < rev.length)→ltS x.Path rev[k].Path=true) (h2:∀h:m < rev.length,ltS x.Path rev[m].Path=false):w8 rev x m rest=(C60 x rev).reverse++rest:=by
 rw [insR_at hm h1 h2]
 unfold w8
 rw [List.reverse_append,List.reverse_cons]
 simp only [L15,List.singleton_append,L25,L37]
theorem G22 (l acc:List Delta):(w9 acc l).length=acc.length+l.length:=by
 induction l generalizing acc with
 | nil=>rfl
 | cons x r ih=>rw [w9,ih,E32,L04];omega
theorem I59 (l:List Delta) (i:Nat) (h:i < l.length):w9 [] (l.take (i+1))=C60 l[i] (w9 [] (l.take i)):=by
 have key:∀(a b acc:List Delta),w9 acc (a++b)=w9 (w9 acc a) b:=by
  intro a
  induction a with
  | nil=>intro b acc;rfl
  | cons x r ih=>intro b acc;exact ih b _
 rw [List.take_add_one,L01 h,Option.toList_some,key];rfl
def A52 (l:List Delta) (i:Nat):List Delta:=(w9 [] (l.take i)).reverse++l.drop i
theorem I60 (l:List Delta) (i:Nat):(A52 l i).length=l.length:=by
 unfold A52
 rw [L06,L44,G22,L10,L12,L09];omega
theorem I61 (l:List Delta):A52 l 1=l:=by
 cases l with
 | nil=>rfl
 | cons x r=>rfl
theorem I62 {l:List Delta} {i:Nat} (h:i < l.length):w8 (w9 [] (l.take i)) l[i] 0 (l.drop (i+1))=A52 l i:=by
 unfold w8 A52
 rw [List.drop_zero,List.take_zero,L11 h];rfl
theorem H73 {l:List Delta} {i:Nat} (h:i < l.length):A52 l (i+1)=(C60 l[i] (w9 [] (l.take i))).reverse++l.drop (i+1):=by
 unfold A52;rw [I59 l i h]
abbrev C73 (l:List Delta):Ob:=.grow 90 Delta 2 B60 l
theorem H74 {gf:Fr} {ob:Obs} (l:List Delta) (hl:l.length≤1048576) (h0:C1 ob 802=some (C73 l)) :
  AL.Met Tryz.prog 144 [.one (.mut 802),.one (.p (.v (.int .i64 0))),.one (.p (.v (.int .i64 l.length))),.one (.p (.v (.func (.func 105) #[] #[])))] gf ob []
   (fun rs ob'=>rs=[]∧ob'=(802,C73 (C81 l))::ob):=by
 refine AL.Met.introH Tryz.func144 (by decide) rfl rfl rfl (fun hH=>?_)
 refine k2 (A3 (A4 A0 A0 (E3 A0 A0 A0 (A7 A0 A0 (A5 ?_)))));refine k1 (k3 ?_);refine D2 (X:=Nat) (fun i=>([(0,.s (.one (.mut 802))),(1,C7 0),(2,C7 l.length),(3,I7 (.func (.func 105) #[] #[])),(8,C7 i)]++gf,(802,C73 (A52 l i))::ob)) (fun i=>1≤i∧(i≤l.length∨(i=1∧l=[]))) (fun i=>l.length - i) 1 ⟨Nat.le_refl _,by cases l;exact .inr ⟨rfl,rfl⟩;left;simp⟩ ?_ ?_
 ·rw [I61]
  exact K76 ⟨le1 rfl,le1 rfl,le1 rfl,le1 rfl,le1 rfl,trivial⟩ hH (by repeat (first | exact A8 | refine A9 rfl ?_)) (E4 (L:=[(802,_)]) ⟨h0,trivial⟩ D5)
 rintro i ⟨hi1,hi2⟩
 dsimp only at hi1 hi2 ⊢
 have hdl:=I60 l i
 refine k2 (k2 (A3 (A4 A0 A0 (A4 A0 A0 (F7 A0 A0 A0 (A5 ?_))))));refine k1 ?_;refine B1 rfl (fun ht=>?_) (fun ht=>?_)
 rotate_left
 ·have h1:=A2 ht
  have he:A52 l i=C81 l:=by
   rcases hi2 with h2 | ⟨h2,h3⟩
   ·have:i=l.length:=by omega
    rw [this];unfold A52 C81;rw [L08,List.drop_length,L29]
   ·rw [h2,h3];rfl
  rw [he]
  refine k6 (k7 (k7 (k8 A0 ?_)))
  exact S8 (A81 rfl) (by repeat (first | exact A8 | refine A9 rfl ?_ | refine D4 _ ?_)) (fun _ _ h=>h) ⟨rfl,rfl⟩
 have hlt:i < l.length:=by have h1:=A1 ht;omega
 obtain ⟨x,hx⟩:∃x,x=l[i]:=⟨_,rfl⟩
 obtain ⟨rev,hrev⟩:∃rev,rev=w9 [] (l.take i):=⟨_,rfl⟩
 obtain ⟨rest,hrest⟩:∃rest,rest=l.drop (i+1):=⟨_,rfl⟩
 have hrl:rev.length=i:=by rw [hrev,G22,L10,L09];omega
 have hrestl:rest.length=l.length - (i+1):=by rw [hrest,L12]
 have e0:=I62 hlt
 have e1:=H73 hlt
 rw [←hx,←hrev,←hrest] at e0 e1
 rw [←e0]
 refine k5 (k1 (k2 (k3 (k2 (A3 (A4 A0 A0 (A7 A0 A0 (A5 ?_))))))));refine k1 (k3 ?_);refine D2 (X:=Nat) (fun m=>([(0,.s (.one (.mut 802))),(1,C7 0),(2,C7 l.length),(3,I7 (.func (.func 105) #[] #[])),(8,C7 i),(9,C7 ((i - m:Nat):Int))]++gf,(802,C73 (w8 rev x m rest))::ob)) (fun m=>m≤i∧∀k,(h:k < m)→(h2:k < rev.length)→ltS x.Path rev[k].Path=true) (fun m=>i - m) 0 ⟨Nat.zero_le _,fun k h=>by omega⟩ ?_ ?_
 ·exact K76 ⟨le1 rfl,le1 rfl,le1 rfl,le1 rfl,le1 rfl,le1 rfl,trivial⟩ hH (by repeat (first | exact A8 | refine A9 rfl ?_)) (E4 (L:=[(802,_)]) ⟨rfl,trivial⟩ (by repeat (first | exact D5 | refine D8 rfl ?_)))
 rintro m ⟨hm,hall⟩
 dsimp only at hm hall ⊢
 have hil:=J84 (x:=x) (rest:=rest) (show m≤rev.length by omega)
 have hvx:=insAt_x (x:=x) (rest:=rest) (show m≤rev.length by omega)
 rw [hrl] at hil hvx
 have hvx:(w8 rev x m rest)[((i - m:Nat):Int).toNat]?=some x:=by rw [L03];exact hvx
 have hvp:(0:Int) < ((i - m:Nat):Int)→(w8 rev x m rest)[(((i - m:Nat):Int) - 1).toNat]?=some (rev.getD m ⟨[],0⟩):=fun h=>by
  have:=insAt_p (x:=x) (rest:=rest) (show m < rev.length by omega)
  rw [show (((i - m:Nat):Int) - 1).toNat=rev.length - m - 1 by omega,this,L07,L01 (by omega)];rfl
 obtain ⟨y,hy⟩:∃y,y=rev.getD m ⟨[],0⟩:=⟨_,rfl⟩
 rw [←hy] at hvp
 have hcmp:=cmp_lt x.Path y.Path
 refine k2 (k2 (E7 (by kernel_rfl) (by kernel_rfl) (E9 A0 A0 (E9 A0 A0 (B7 (O1 A0 A0) A0 A0 (E9 A0 A0 (F6 A0 A0 (fun hg=>by rw [hg];exact C2 A0 A0) A0 A0 ?_)))))));refine F6 A0 A0 (fun hg=>by rw [hg];exact C2 A0 A0) A0 A0 ?_;refine F6 A0 A0 (fun hg=>by rw [hg];exact C2 A0 A0) A0 A0 ?_;refine F6 A0 A0 (fun hg=>by have hq:=hg;(try simp at hq);rw [hg];exact H6 A0 A0 A0 (by omega) (by (rw [hil];omega))) A0 A0 ?_;refine F6 A0 A0 (fun hg=>by rw [hg];exact A43 A0 A0 hvx A0) A0 A0 ?_;refine F6 A0 A0 (fun hg=>by rw [hg];exact C2 A0 A0) A0 A0 ?_;refine F6 A0 A0 (fun hg=>by rw [hg];exact C2 A0 A0) A0 A0 ?_;refine F6 A0 A0 (fun hg=>by have hq:=hg;(try simp at hq);rw [hg];exact N1 A0 A0 (by omega)) A0 A0 ?_;refine F6 A0 A0 (fun hg=>by have hq:=hg;(try simp at hq);rw [hg];exact H6 A0 A0 A0 (by omega) (by (rw [hil];omega))) A0 A0 ?_;refine F6 A0 A0 (fun hg=>by have hq:=hg;(try simp at hq);rw [hg];exact A43 A0 A0 (hvp (by omega)) A0) A0 A0 ?_;refine F6 A0 A0 (fun hg=>by rw [hg];exact G69 (J83 x y) A0 A0 A0) A0 A0 ?_;refine F6 A0 A0 (fun hg=>by rw [hg];exact A75 A0 A0) A0 A0 ?_;refine B7 (L8 A0 (fun h=>by first | rfl | (rw [h];rfl)) (fun h=>by first | rfl | (rw [h];rfl))) A0 A0 ?_;refine Q6 ?_;refine k1 ?_;refine B1 rfl (fun ht=>?_) (fun ht=>?_)
 ·rw [C79,L02,decide_eq_true_eq,hcmp] at ht
  have hml:m < rev.length:=by omega
  have hym:y=rev[m]:=by rw [hy,L07,L01 hml];rfl
  have hsw:=I57 (x:=x) (rest:=rest) hml
  rw [hrl,←hym] at hsw
  have hvp:=hvp ht.1
  have hvp2:((w8 rev x m rest).set ((i - m:Nat):Int).toNat y)[(((i - m:Nat):Int) - 1).toNat]?=some y:=by
   rw [List.getElem?_set_ne (by omega)];exact hvp
  refine k5 (k1 (k2 (k3 (Q0 [17,15] [[],[15],[17,15]] [(15,([],[])),(17,([],[]))] [(0,[]),(1,[]),(2,[]),(3,[]),(4,[]),(5,[]),(6,[]),(7,[]),(8,[]),(9,[]),(10,[]),(11,[]),(12,[]),(13,[]),(14,[]),(15,[]),(16,[15]),(17,[15])] [(2,[15]),(3,[15]),(4,[15])] (by kernel_rfl) (by kernel_rfl) (E6 A0 A0 (by kernel_rfl) A0 A0 (C2 A0 A0) (E6 A0 A0 (by kernel_rfl) A0 A0 (C2 A0 A0) (E6 A0 A0 (by kernel_rfl) A0 A0 (C2 A0 A0) (E6 A0 A0 (by kernel_rfl) A0 A0 (C2 A0 A0) (E6 A0 A0 (by kernel_rfl) A0 A0 (N1 A0 A0 (by omega)) (E6 A0 A0 (by kernel_rfl) A0 A0 (C2 A0 A0) (E6 A0 A0 (by kernel_rfl) A0 A0 (C2 A0 A0) (E6 A0 A0 (by kernel_rfl) A0 A0 (N1 A0 A0 (by omega)) (E6 A0 A0 (by kernel_rfl) A0 A0 (H6 A0 A0 A0 (by omega) (by (rw [hil];omega))) ?_)))))))))))));refine E6 A0 A0 (by kernel_rfl) A0 A0 (A43 A0 A0 hvp A0) (E6 A0 A0 (by kernel_rfl) A0 A0 (C2 A0 A0) (E6 A0 A0 (by kernel_rfl) A0 A0 (C2 A0 A0) (E6 A0 A0 (by kernel_rfl) A0 A0 (H6 A0 A0 A0 (by omega) (by (first | (rw [hil];omega) | (rw [L26,hil];omega)))) ?_)));refine E6 A0 A0 (by kernel_rfl) A0 A0 (A43 A0 A0 hvx A0) (E6 A0 A0 (by kernel_rfl) A0 A0 (H6 A0 A0 A0 (by omega) (by (rw [hil];omega))) ?_);refine Z5 A0 A0 (by kernel_rfl) A0 A0 (A84 (fun frc hU=>x9 (y) TySz.out (T9 hU A0) A0 hvx (T9 hU A0) A0 A0 A0 (fun _ _ _ h=>s8 h) (by intro j h1 h2;rcases j with _ | _ | _ | _ | _ | _ | _ | j<;>first | rfl | omega))) A0 ?_;refine E6 A0 A0 (by kernel_rfl) A0 A0 (H6 A0 A0 A0 (by omega) (by (rw [L26,hil];omega))) ?_;refine Z5 A0 A0 (by kernel_rfl) A0 A0 (A84 (fun frc hU=>x9 (x) TySz.out (T9 hU A0) A0 hvp2 (T9 hU A0) A0 A0 A0 (fun _ _ _ h=>s8 h) (by intro j h1 h2;rcases j with _ | _ | _ | _ | _ | _ | _ | j<;>first | rfl | omega))) A0 ?_;refine G11 (by kernel_rfl) rfl ?_ ?_
  ·refine O3 A0 A0 (by kernel_rfl) A0 A0 (C2 A0 A0) (O3 A0 A0 (by kernel_rfl) A0 A0 (C2 A0 A0) (O3 A0 A0 (by kernel_rfl) A0 A0 (N1 A0 A0 (by omega)) ?_));exact C03
  refine k4 (k1 (A3 (A4 A0 A0 (A6 (N1 A0 A0 (by omega)) A0 (A7 A0 A0 (A5 ?_))))));refine k1 ?_;refine ⟨m+1,⟨by omega,fun k hk hk2=>?_⟩,by omega,?_⟩
  ·by_cases e:k=m
   ·subst e;rw [←hym];exact ht.2
   ·exact hall k (by omega) hk2
  ·rw [L03,show (((i - m:Nat):Int) - 1).toNat=i - m - 1 by omega,hsw,show ((i - (m+1):Nat):Int)=((i - m:Nat):Int) - 1 by omega]
   exact K76 ⟨le1 rfl,le1 rfl,le1 rfl,le1 rfl,le1 rfl,le1 rfl,trivial⟩ hH (by repeat (first | exact A8 | refine tail_drop rfl ?_ | refine A9 rfl ?_)) (E4 (L:=[(802,_)]) ⟨rfl,trivial⟩ (by repeat (first | exact D5 | refine D8 rfl ?_)))
 ·rw [C79,Bool.and_eq_false_iff,decide_eq_false_iff_not,hcmp] at ht
  have hd:w8 rev x m rest=A52 l (i+1):=by
   rw [e1]
   refine I58 (by omega) hall fun hml=>?_
   rcases ht with h | h
   ·omega
   ·rw [hy,L07,L01 hml] at h;exact h
  rw [hd]
  refine k6 (k7 (k7 (k8 A0 (k4 (k1 (A3 (A4 A0 A0 (E3 A0 A0 A0 (A7 A0 A0 (A5 ?_))))))))));refine k1 ?_;refine ⟨i+1,⟨by omega,.inl (by omega)⟩,by omega,?_⟩
  exact K76 ⟨le1 rfl,le1 rfl,le1 rfl,le1 rfl,le1 rfl,trivial⟩ hH (by repeat (first | exact A8 | refine A9 rfl ?_)) (E4 (L:=[(802,_)]) ⟨rfl,trivial⟩ (by repeat (first | exact D5 | refine D8 rfl ?_)))
theorem pdq_met {gf:Fr} {ob:Obs} (l:List Delta) (n:Int) (hl:l.length≤12) (h0:C1 ob 802=some (C73 l)) :
  AL.Met Tryz.prog 127 [.one (.mut 802),.one (.p (.v (.int .i64 0))),.one (.p (.v (.int .i64 l.length))),.one (.p (.v (.int .i64 n))),.one (.p (.v (.func (.func 105) #[] #[])))] gf ob []
   (fun rs ob'=>rs=[]∧ob'=(802,C73 (C81 l))::ob):=by
 refine AL.Met.introH Tryz.func127 (by decide) rfl rfl rfl (fun hH=>?_)
 refine k2 (A3 (A7 A0 A0 (A5 ?_)));refine k1 (k2 (A3 (A7 A0 A0 (A5 ?_))));refine k1 (k3 ?_);refine D2 (X:=Nat) (fun _=>([(0,.s (.one (.mut 802))),(1,C7 0),(2,C7 l.length),(3,C7 n),(4,I7 (.func (.func 105) #[] #[])),(10,S0 true),(11,S0 true)]++gf,ob)) (fun _=>True) (fun _=>0) 0 trivial ?_ ?_
 ·exact K76 ⟨le1 rfl,le1 rfl,le1 rfl,le1 rfl,le1 rfl,le1 rfl,le1 rfl,trivial⟩ hH (by repeat (first | exact A8 | refine A9 rfl ?_)) (fun _ _ h=>h)
 intro _ _
 dsimp only
 refine k3 (k2 (A3 (A4 A0 A0 (A4 A0 A0 (A6 (N1 A0 A0 (by omega)) A0 (A7 A0 A0 (A5 ?_)))))));refine k1 (k2 (k2 (A3 (A4 A0 A0 (A6 (B81 A0 A0) A0 (A5 ?_))))));refine k1 ?_;refine B1 rfl (fun ht=>?_) (fun ht=>?_)
 ·refine k2 (A3 (A4 A0 A0 (A4 A0 A0 (A4 A0 A0 (A4 A0 A0 (L4 (H74 l (by omega) h0) A0 A0 A0 ?_))))));rintro _ _ ⟨rfl,rfl⟩;refine A5 ?_;refine k1 (k10 (k11 (k12 (k11 (k12 ?_)))))
  exact G7 (A81 rfl) (by repeat (first | exact A8 | refine A9 rfl ?_ | refine D4 _ ?_)) (fun _ _ h=>h) ⟨rfl,rfl⟩
 ·have h1:=A2 ht
  omega
set_option maxHeartbeats 1000000
theorem K39 (n:Nat) (hn:n < 256):FnOk Tryz.prog 153 [.one (.v (.int .u64 n))] (fun rs=>rs=[E2 (Lib.bitLen n:Nat)]) :=
 K80 (xs:=[.int .u64 n]) ⟨_,rfl,rfl,rfl⟩ rfl fun w=>by simpa using Tryz.bits_Len64 (n:Int) w (by omega) (by omega)
theorem I63 (n:Nat) (hn:n < 256):FnOk Tryz.prog 128 [.one (.v (.int .u64 n))] (fun rs=>∃r:Int,rs=[E2 r]):=by
 refine FnOk.intro Tryz.func128 (by decide) A0 A0 A0 A0 ?_
 refine k2 (A3 (A7 A0 A0 (A5 ?_)));refine k1 (k2 (c_condF ?_))
 refine k5 (k1 (k2 (A3 (A4 A0 A0 (C9 (K39 n hn) A0 A0 A0 ?_)))));rintro _ rfl;refine A7 A0 A0 (A5 ?_);refine k1 (k10 ?_)
 exact B8 (I1 rfl rfl rfl) ⟨_,rfl⟩
theorem G85 {gf:Fr} {ob:Obs} (l:List Delta) (hl:l.length≤12) (h0:C1 ob 802=some (C73 l)) :
  AL.Met Tryz.prog 104 [.one (.mut 802),.one (.p (.v (.func (.func 105) #[] #[])))] gf ob []
   (fun rs ob'=>rs=[]∧ob'=(802,C73 (C81 l))::ob):=by
 have hw:IntKind.u64.wrap (l.length:Int)=(l.length:Nat):=by unfold IntKind.wrap;simp [IntKind.signed,IntKind.bits];omega
 refine AL.Met.intro Tryz.func104 (by decide) A0 A0 A0 ?_
 refine k2 (A3 (A4 A0 A0 (A6 (X3 A0 h0) A0 (A7 A0 A0 (A5 ?_)))));refine k1 (A3 (A4 A0 A0 (A4 A0 A0 (A4 A0 A0 (A6 (j3 A0) A0 (C9 ((by rw [hw];exact I63 l.length (by omega))) A0 A0 A0 ?_))))));rintro _ ⟨r,rfl⟩;refine A4 A0 A0 (L4 (pdq_met l r hl h0) A0 A0 A0 ?_);rintro _ _ ⟨rfl,rfl⟩;refine A5 ?_
 skip
 exact S8 (A81 rfl) (by repeat (first | exact A8 | refine A9 rfl ?_ | refine D4 _ ?_)) (fun _ _ h=>h) ⟨rfl,rfl⟩
def C08 (b:List File) (a:List File) (i:Nat):List Delta:=(a.take i).filterMap (B17 b)
theorem H75 {b a:List File} {i:Nat} (h:i < a.length):C08 b a (i+1)=C08 b a i++(B17 b a[i]).toList:=by
 have e:[a[i]].filterMap (B17 b)=(B17 b a[i]).toList:=by
  cases hd:B17 b a[i] with
  | none=>rw [List.filterMap_cons_none hd];rfl
  | some d=>rw [List.filterMap_cons_some hd];rfl
 unfold C08
 rw [List.take_add_one,L01 h,Option.toList_some,List.filterMap_append,e]
def B10 (a:List File) (b:List File) (i:Nat):List Delta:=(b.take i).filterMap (C59 a)
theorem H76 {a b:List File} {i:Nat} (h:i < b.length):B10 a b (i+1)=B10 a b i++(C59 a b[i]).toList:=by
 have e:[b[i]].filterMap (C59 a)=(C59 a b[i]).toList:=by
  cases hd:C59 a b[i] with
  | none=>rw [List.filterMap_cons_none hd];rfl
  | some d=>rw [List.filterMap_cons_some hd];rfl
 unfold B10
 rw [List.take_add_one,L01 h,Option.toList_some,List.filterMap_append,e]
theorem I64 (b a:List File) (i:Nat):(C08 b a i).length≤a.length:=by
 unfold C08
 have:=List.length_filterMap_le (B17 b) (a.take i)
 rw [L10] at this;omega
theorem I65 (a b:List File) (i:Nat):(B10 a b i).length≤b.length:=by
 unfold B10
 have:=List.length_filterMap_le (C59 a) (b.take i)
 rw [L10] at this;omega
def C09 (a b:List File):Int:=if F1 a≠0 then F1 a else F1 b
theorem K40 (a b:List File) (ha:FewF a) (hb:FewF b) (hab:C09 a b=0→a.length+b.length≤12):FnOk Tryz.prog 68 [u0 a,u0 b] (fun rs=>rs=[H08 (if C09 a b≠0 then [] else Z6 a b),E2 (C09 a b)]):=by
 have hal:=ha.len
 have hbl:=hb.len
 refine FnOk.intro Tryz.func68 (by decide) A0 A0 A0 A0 ?_
 refine k2 (A3 (A7 A0 A0 (A7 A0 A0 (A5 ?_))));refine k1 (k2 (k2 (A3 (A4 A0 A0 (A4 A0 A0 (C9 (K37 a b ha hb) A0 A0 A0 ?_))))));rintro _ rfl;refine A7 A0 A0 (A5 ?_);refine k1 (k2 (A3 (A4 A0 A0 (A6 (O2 A0 A0) A0 (A5 ?_)))));refine k1 ?_;refine B1 rfl (fun ht=>?_) (fun ht=>?_)
 ·have h1:C09 a b≠0:=A1 ht
  refine k2 (A3 (A4 A0 A0 (A6 (H4 _ 2 B60) A0 (A7 A0 A0 (A5 ?_)))));refine k1 (k10 (k11 ?_))
  exact B8 (rs:=[H08 [],E2 (C09 a b)]) (a6 rfl rfl rfl rfl rfl) (by rw [if_pos h1])
 have h1:¬C09 a b≠0:=A2 ht
 have h0:C09 a b=0:=Decidable.not_not.1 h1
 have hlen:=hab h0
 have ha0:F1 a=0:=by
  apply Classical.byContradiction
  intro h;unfold C09 at h0;rw [if_pos h] at h0;exact h h0
 have hb0:F1 b=0:=by unfold C09 at h0;rw [if_neg (fun h=>h ha0)] at h0;exact h0
 have hda:=(A09 ha0).1
 have hdb:=(A09 hb0).1
 have hfa:=D31 hda
 have hfb:=D31 hdb
 rw [h0,if_neg (show ¬(0:Int)≠0 from fun h=>h rfl),←K07 hda hdb]
 refine k5 (k1 (k2 (A3 (A4 A0 A0 (A33 (H59 a hal) A0 A0 A0 A0 ?_)))));rintro _ _ ⟨rfl,rfl⟩;refine ⟨rfl,?_⟩;refine A4 A0 A0 (A33 (F09 b hbl) A0 A0 A0 A0 ?_);rintro _ _ ⟨rfl,rfl⟩;refine ⟨rfl,?_⟩;refine A7 A0 A0 (A7 A0 A0 (A5 ?_));refine k1 (k2 (A3 (D1 (H40 802 _ B60 A0) A0 (A5 ?_))));refine k1 (k2 (k2 (A3 (A4 A0 A0 (F4 A0 A0 (A4 A0 A0 (A5 ?_)))))));refine k1 (k3 (D2 (X:=Nat) (fun i=>([(1,D6 File 2 d8 b),(7,.s (.one (.mut 801))),(8,.s (.one (.mut 800))),(9,.s (.one (.mut 802))),(28,D6 File 2 d8 a),(29,C7 a.length),(30,C7 i)],[(800,.map Str s9 (V7 b)),(801,.map Str s9 (V7 a)),(802,C73 (C08 b a i))])) (fun i=>i≤a.length) (fun i=>a.length - i) 0 (Nat.zero_le _) (Sees.of ⟨le1 rfl,le1 rfl,le1 rfl,le1 rfl,le1 rfl,le1 rfl,le1 rfl,trivial⟩ ⟨rfl,rfl,rfl,trivial⟩) ?_))
 intro i hi
 dsimp only at hi ⊢
 have hrl:=I64 b a i
 refine k2 (A3 (F7 A0 A0 A0 (A5 ?_)));refine k1 (k2 ?_);refine B1 rfl (fun ht=>?_) (fun ht=>?_)
 ·have hlt:i < a.length:=by have h1:=A1 ht;(try dsimp only at h1);omega
  obtain ⟨f,hf⟩:∃f,f=a[i]:=⟨_,rfl⟩
  have hv:a[i]?=some f:=by rw [hf];simp [hlt]
  have hs:=H75 (b:=b) hlt
  rw [←hf] at hs
  refine k5 (k1 (k2 (k3 (k2 (A3 (A6 (B6 A0 (.pure _ _ _ _) A0 (by omega) hv) A0 (A6 (E1 A0 A0) A0 (D1 (J1 11 A0) A0 (G1 (B9 TySz.out A0 A0 A0 A0 A0 A0) (A5 ?_))))))))));refine k1 (k2 (A3 (A4 A0 A0 (A6 (B0 A0) A0 (G3 A0 A0 A0 A0 (A6 (C02 (f.Path) (r:=((L7 b f.Path).map F79)) A0 A0 A0 A12 A13 (hfb f.Path)) A0 (A4 A0 A0 (E8 A0 A0 A0 (E8 A0 A0 A0 (A7 A0 A0 (A7 A0 A0 (A5 ?_))))))))))));refine k1 (k2 (A3 (A4 A0 A0 (A6 (S2 A0) A0 (A5 ?_)))));refine k1 ?_
  cases hfo:L7 b f.Path with
  | none =>
   have hra:B17 b f=some ⟨f.Path,2⟩:=by unfold B17;rw [hfo]
   rw [hra] at hs
   refine B1 rfl (fun ht=>?_) (fun ht=>?_)
   ·skip
    refine A3 (A4 A0 A0 (A6 (B0 A0) A0 (G3 A0 A0 A0 A0 (A6 (K0 A0) A0 (A6 (D7 (c:=B60) (ys:=[⟨f.Path,2⟩]) (G6 A0 A0 A0 A0 I0) A0 A0 A0) A0 (D1 (U3 A0 A0 A0 (.pure _ _ _ _) (by (simp only [L04,L09];omega)) A0) A0 (A7 A0 A0 (A5 ?_))))))));refine k4 (k1 (A3 (E3 A0 A0 A0 (A4 A0 A0 (A5 ?_)))));refine k1 ?_;refine ⟨i+1,by omega,by omega,?_⟩
    rw [hs]
    exact (Sees.of ⟨le1 rfl,le1 rfl,le1 rfl,le1 rfl,le1 rfl,le1 rfl,le1 rfl,trivial⟩ ⟨rfl,rfl,rfl,trivial⟩)
   ·cases ht
  | some y =>
   refine B1 rfl (fun ht=>?_) (fun ht=>?_)
   ·cases ht
   refine k2 (A3 (A4 A0 A0 (A6 (B0 A0) A0 (G3 A0 A0 A0 A0 (A6 (J27 A0 A0) A0 (A5 ?_))))));refine k1 ?_;refine B1 rfl (fun ht=>?_) (fun ht=>?_)
   ·have h2:y≠f.Blob:=A1 ht
    have hra:B17 b f=some ⟨f.Path,3⟩:=by unfold B17;rw [hfo];dsimp only;rw [if_pos h2]
    rw [hra] at hs
    skip
    refine A3 (A4 A0 A0 (A6 (B0 A0) A0 (G3 A0 A0 A0 A0 (A6 (K0 A0) A0 (A6 (D7 (c:=B60) (ys:=[⟨f.Path,3⟩]) (G6 A0 A0 A0 A0 I0) A0 A0 A0) A0 (D1 (U3 A0 A0 A0 (.pure _ _ _ _) (by (simp only [L04,L09];omega)) A0) A0 (A7 A0 A0 (A5 ?_))))))));refine k4 (k1 (A3 (E3 A0 A0 A0 (A4 A0 A0 (A5 ?_)))));refine k1 ?_;refine ⟨i+1,by omega,by omega,?_⟩
    rw [hs]
    exact (Sees.of ⟨le1 rfl,le1 rfl,le1 rfl,le1 rfl,le1 rfl,le1 rfl,le1 rfl,trivial⟩ ⟨rfl,rfl,rfl,trivial⟩)
   ·have h2:¬y≠f.Blob:=A2 ht
    have hra:B17 b f=none:=by unfold B17;rw [hfo];dsimp only;rw [if_neg h2]
    rw [hra] at hs
    refine k5 (k4 (k1 (A3 (E3 A0 A0 A0 (A4 A0 A0 (A5 ?_))))));refine k1 ?_;refine ⟨i+1,by omega,by omega,?_⟩
    rw [hs]
    simp only [Option.toList_none,L29]
    exact (Sees.of ⟨le1 rfl,le1 rfl,le1 rfl,le1 rfl,le1 rfl,le1 rfl,le1 rfl,trivial⟩ ⟨rfl,rfl,rfl,trivial⟩)
 have hie:i=a.length:=by have h1:=A2 ht;(try dsimp only at h1);omega
 have hA:C08 b a a.length=a.filterMap (B17 b):=by unfold C08;rw [L08]
 obtain ⟨A,hAd⟩:∃A,A=a.filterMap (B17 b):=⟨_,rfl⟩
 have hAl:A.length≤a.length:=by rw [hAd];exact List.length_filterMap_le _ _
 rw [hie,hA,←hAd]
 refine k6 (k2 (k2 (A3 (A4 A0 A0 (F4 A0 A0 (A4 A0 A0 (A5 ?_)))))));refine k1 (k3 (D2 (X:=Nat) (fun i=>([(7,.s (.one (.mut 801))),(9,.s (.one (.mut 802))),(60,D6 File 2 d8 b),(61,C7 b.length),(62,C7 i)],[(801,.map Str s9 (V7 a)),(802,C73 (A++B10 a b i))])) (fun i=>i≤b.length) (fun i=>b.length - i) 0 (Nat.zero_le _) (by rw [show A++B10 a b 0=A by unfold B10;simp];exact (Sees.of ⟨le1 rfl,le1 rfl,le1 rfl,le1 rfl,le1 rfl,trivial⟩ ⟨rfl,rfl,trivial⟩)) ?_))
 intro i hi
 dsimp only at hi ⊢
 have hrl2:=I65 a b i
 refine k2 (A3 (F7 A0 A0 A0 (A5 ?_)));refine k1 (k2 ?_);refine B1 rfl (fun ht=>?_) (fun ht=>?_)
 ·have hlt:i < b.length:=by have h1:=A1 ht;(try dsimp only at h1);omega
  obtain ⟨f,hf⟩:∃f,f=b[i]:=⟨_,rfl⟩
  have hv:b[i]?=some f:=by rw [hf];simp [hlt]
  have hs:=H76 (a:=a) hlt
  rw [←hf] at hs
  refine k5 (k1 (k2 (k3 (k2 (A3 (A6 (B6 A0 (.pure _ _ _ _) A0 (by omega) hv) A0 (A6 (E1 A0 A0) A0 (D1 (J1 15 A0) A0 (G1 (B9 TySz.out A0 A0 A0 A0 A0 A0) (A5 ?_))))))))));refine k1 (k2 (A3 (A4 A0 A0 (A6 (B0 A0) A0 (G3 A0 A0 A0 A0 (A6 (C02 (f.Path) (r:=((L7 a f.Path).map F79)) A0 A0 A0 A12 A13 (hfa f.Path)) A0 (A4 A0 A0 (E8 A0 A0 A0 (E8 A0 A0 A0 (A7 A0 A0 (A7 A0 A0 (A5 ?_))))))))))));refine k1 (k2 (A3 (A4 A0 A0 (A6 (S2 A0) A0 (A5 ?_)))));refine k1 ?_
  cases hfo:L7 a f.Path with
  | none =>
   have hra:C59 a f=some ⟨f.Path,1⟩:=by unfold C59;rw [hfo]
   rw [hra] at hs
   refine B1 rfl (fun ht=>?_) (fun ht=>?_)
   ·skip
    refine A3 (A4 A0 A0 (A6 (B0 A0) A0 (G3 A0 A0 A0 A0 (A6 (K0 A0) A0 (A6 (D7 (c:=B60) (ys:=[⟨f.Path,1⟩]) (G6 A0 A0 A0 A0 I0) A0 A0 A0) A0 (D1 (U3 A0 A0 A0 (.pure _ _ _ _) (by (simp only [L06,L04,L09];omega)) A0) A0 (A7 A0 A0 (A5 ?_))))))));refine k4 (k1 (A3 (E3 A0 A0 A0 (A4 A0 A0 (A5 ?_)))));refine k1 ?_;refine ⟨i+1,by omega,by omega,?_⟩
    rw [hs,←L15]
    exact (Sees.of ⟨le1 rfl,le1 rfl,le1 rfl,le1 rfl,le1 rfl,trivial⟩ ⟨rfl,rfl,trivial⟩)
   ·cases ht
  | some y =>
   have hra:C59 a f=none:=by unfold C59;rw [hfo]
   rw [hra] at hs
   refine B1 rfl (fun ht=>?_) (fun ht=>?_)
   ·cases ht
   ·refine k5 (k4 (k1 (A3 (E3 A0 A0 A0 (A4 A0 A0 (A5 ?_))))));refine k1 ?_;refine ⟨i+1,by omega,by omega,?_⟩
    rw [hs]
    simp only [Option.toList_none,L29]
    exact (Sees.of ⟨le1 rfl,le1 rfl,le1 rfl,le1 rfl,le1 rfl,trivial⟩ ⟨rfl,rfl,trivial⟩)
 have hie:i=b.length:=by have h1:=A2 ht;(try dsimp only at h1);omega
 have hB:A++B10 a b b.length=A08 a b:=by unfold B10 A08;rw [L08,hAd]
 have hdl:=J01 a b
 rw [hie,hB]
 refine k6 (k2 (A3 (A4 A0 A0 (L4 (G85 (A08 a b) (by omega) A0) A0 A0 A0 ?_))));rintro _ _ ⟨rfl,rfl⟩;refine A5 ?_;refine k1 (k2 (D3 (Sees.freezeG (k:=802) A0 A0) ?_))
 refine A3 (A4 A0 A0 (A7 A0 A0 (A7 A0 A0 (A5 ?_))));refine k1 (k10 ?_)
 exact B8 (rs:=[H08 (diffOf a b),E2 0]) (a6 rfl rfl rfl rfl rfl) rfl
set_option maxHeartbeats 1000000
theorem F12 {nd:Str}:∀{l:List (Str × Str)},(∀x∈l,x.1.length≤16777216∧x.2.length≤16777216) → -(16777218*(l.length:Int))≤j1 nd l∧j1 nd l≤16777218*(l.length:Int)
 | [],_=>⟨by simp [j1],by simp [j1]⟩
 | x::r,h=>by
  have ih:=F12 (nd:=nd) fun y hy=>h y (List.mem_cons_of_mem _ hy)
  have h1:=D35 nd x.1 (h x List.mem_cons_self).1
  have h2:=D35 nd x.2 (h x List.mem_cons_self).2
  have e:j1 nd (x::r)=c7 nd x.2 - c7 nd x.1+j1 nd r:=by unfold j1;rw [L16,L53]
  rw [e,L04]
  constructor<;>omega
theorem K41 {nd:Str} {l:List (Str × Str)} {i:Nat} (h:i < l.length):j1 nd (l.take (i+1))=j1 nd (l.take i)+(c7 nd l[i].2 - c7 nd l[i].1):=by
 unfold j1
 rw [List.take_add_one,L01 h,Option.toList_some,L40,List.sum_append];simp
theorem H77 {nd:Str} {B:List (List (Str × Str))} {p:Nat} (h:p < B.length):(B.take (p+1)).map (j1 nd)=(B.take p).map (j1 nd)++[j1 nd B[p]]:=by
 rw [List.take_add_one,L01 h,Option.toList_some,L40];rfl
theorem E22 {g:Graph} {c:Int} (h:a8 g c=0):Valid g∧0≤c∧c < g.length:=by
 unfold a8 at h
 split at h
 ·rename_i hd;exact absurd h hd
 ·rename_i hd
  split at h
  ·rename_i hc;exact ⟨A60 (Decidable.not_not.1 hd),hc⟩
  ·cases h
theorem F13 (g:Graph) (c:Int) (h:FewT g):FnOk Tryz.prog 37 [K3 g,E2 c] (fun rs=>rs=[E2 (a8 g c)]):=by
 refine FnOk.intro Tryz.func37 (by decide) A0 A0 A0 A0 ?_
 refine k2 (A3 (A7 A0 A0 (A5 ?_)));refine k1 (k2 (k2 (A3 (A4 A0 A0 (C9 (J38 g h) A0 A0 A0 ?_)))));rintro _ rfl;refine A7 A0 A0 (A5 ?_);refine k1 (k2 (A3 (A4 A0 A0 (A6 (O2 A0 A0) A0 (A5 ?_)))));refine k1 ?_;refine B1 rfl (fun ht=>?_) (fun ht=>?_)
 ·have h1:H3 g≠0:=A1 ht
  refine k2 (A3 (A4 A0 A0 (A7 A0 A0 (A5 ?_))));refine k1 (k10 (k11 ?_))
  exact B8 (rs:=[E2 (H3 g)]) (I1 rfl rfl rfl) (by unfold a8;rw [if_pos h1])
 have h1:¬H3 g≠0:=A2 ht
 refine k5 (k1 (k2 (k2 (A3 (A4 A0 A0 (A4 A0 A0 (C9 (dis_ok g c) A0 A0 A0 ?_)))))));rintro _ rfl;refine A6 (S2 A0) A0 (A5 ?_);refine k1 ?_;refine B1 rfl (fun ht=>?_) (fun ht=>?_)
 ·have h2:¬v6 g c:=by simpa using ht
  refine k2 (A3 (A7 A0 A0 (A5 ?_)));refine k1 (k10 (k11 ?_))
  exact B8 (rs:=[E2 5]) (I1 rfl rfl rfl) (by unfold a8;rw [if_neg h1,if_neg h2])
 ·have h2:v6 g c:=by simpa using ht
  refine k5 (k1 (k2 (A3 (A7 A0 A0 (A5 ?_)))));refine k1 (k10 ?_)
  exact B8 (rs:=[E2 0]) (I1 rfl rfl rfl) (by unfold a8;rw [if_neg h1,if_pos h2])
theorem E23 (g:Graph) (c:Nat) (hf:FewG g) (hr:related g=true) (hc:c < g.length):FnOk Tryz.prog 39 [K3 g,E2 c] (fun rs=>rs=[H09 (S3 g c)]):=by
 obtain ⟨cm,hcm⟩:∃cm,cm=g[c]:=⟨_,rfl⟩
 have hv:g[((c:Nat):Int).toNat]?=some cm:=by rw [hcm];simp [hc]
 have hps:F3 g c=cm.Parents:=by rw [g9 hc,hcm]
 have hpr:=(K8 hr c).1
 have hpl:=hf.pars cm (by rw [hcm];exact L05 hc)
 have htr:S3 g c=if cm.Parents=[] then [[]] else A04 g cm.Parents cm.Parents.length:=by unfold S3 A04;rw [hps,L08]
 rw [hps] at hpr
 rw [htr]
 refine FnOk.intro Tryz.func39 (by decide) A0 A0 A0 A0 ?_
 refine k2 (A3 (A7 A0 A0 (A5 ?_)));refine k1 (k2 (k2 (A3 (A4 A0 A0 (A4 A0 A0 (A6 (B6 A0 (.pure _ _ _ _) A0 (by omega) hv) A0 (A6 (C3 A0) A0 (A6 (B3 A0 A0) A0 (F4 A0 A0 (A6 (H0 A0 A0) A0 (A5 ?_)))))))))));refine k1 ?_;refine B1 rfl (fun ht=>?_) (fun ht=>?_)
 ·have h1:cm.Parents=[]:=by
   have h1:=A1 ht
   exact List.length_eq_zero_iff.1 (by omega)
  rw [if_pos h1]
  refine k2 (A3 (A6 (D7 (c:=B61) (ys:=[[]]) (K33 A0 A0 I0) A0 A0 A0) A0 (A7 A0 A0 (A5 ?_))));refine k1 (k10 (k11 ?_))
  exact B8 (rs:=[H09 [[]]]) (I1 rfl rfl rfl) rfl
 have h1:¬cm.Parents=[]:=fun e=>by
  have h1:=A2 ht
  rw [e] at h1;exact h1 rfl
 rw [if_neg h1]
 refine k5 (k1 (k2 (A3 (D1 (j4 5 _ B61 A0) A0 (A5 ?_)))));refine k1 (k2 (k2 (A3 (A4 A0 A0 (A4 A0 A0 (A6 (B6 A0 (.pure _ _ _ _) A0 (by omega) hv) A0 (A6 (C3 A0) A0 (A6 (B3 A0 A0) A0 (F4 A0 A0 (A4 A0 A0 (A5 ?_)))))))))));refine k1 (k3 (D2 (X:=Nat) (fun i=>([(0,D6 Commit 3 H2 g),(5,.s (.one (.buf 5 (List File) 1 B61 (A04 g cm.Parents i)))),(20,D6 Int 1 F2 cm.Parents),(21,C7 cm.Parents.length),(22,C7 i)],[(5,.spare (A04 g cm.Parents i).length 1 27)])) (fun i=>i≤cm.Parents.length) (fun i=>cm.Parents.length - i) 0 (Nat.zero_le _) (Sees.of ⟨le1 rfl,le1 rfl,le1 rfl,le1 rfl,le1 rfl,trivial⟩ ⟨rfl,trivial⟩) ?_))
 intro i hi
 dsimp only at hi ⊢
 have hul:=H70 g cm.Parents i
 refine k2 (A3 (F7 A0 A0 A0 (A5 ?_)));refine k1 (k2 ?_);refine B1 rfl (fun ht=>?_) (fun ht=>?_)
 ·have hlt:i < cm.Parents.length:=by have h1:=A1 ht;(try dsimp only at h1);omega
  have hpb:=hpr _ (L05 hlt)
  obtain ⟨p,hp⟩:∃p:Nat,cm.Parents[i]=(p:Int):=⟨cm.Parents[i].toNat,by omega⟩
  have hvp:cm.Parents[i]?=some (p:Int):=by rw [L01 hlt,hp]
  obtain ⟨pm,hpm⟩:∃pm,pm=g[p]:=⟨_,rfl⟩
  have hvpm:g[((p:Nat):Int).toNat]?=some pm:=by rw [hpm,L03];simp [show p < g.length by omega]
  have hs:=G82 (g:=g) hlt
  rw [hp,L03,D87 (by rw [L03] at hvpm;exact hvpm)] at hs
  refine k5 (k1 (k2 (k3 (k2 (A3 (A6 (B6 A0 (.pure _ _ _ _) A0 (by omega) hvp) A0 (A6 (B3 A0 A0) A0 (A7 A0 A0 (A5 ?_)))))))));refine k1 (A3 (A4 A0 A0 (A4 A0 A0 (A4 A0 A0 (A6 (B6 A0 (.pure _ _ _ _) A0 (by omega) hvpm) A0 (A6 (C3 A0) A0 (A6 (B3 A0 A0) A0 (A6 (D7 (c:=B61) (ys:=[pm.Files]) (G6 A0 A0 A0 A0 I0) A0 A0 A0) A0 (D1 (P0 A0 A0 A0 (.pure _ _ _ _) (by (simp only [L04,L09];omega)) A0) A0 (A7 A0 A0 (A5 ?_)))))))))));refine k4 (k1 (A3 (E3 A0 A0 A0 (A4 A0 A0 (A5 ?_)))));refine k1 ?_;refine ⟨i+1,by omega,by omega,?_⟩
  rw [hs]
  exact (Sees.of ⟨le1 rfl,le1 rfl,le1 rfl,le1 rfl,le1 rfl,trivial⟩ ⟨rfl,trivial⟩)
 ·have hie:i=cm.Parents.length:=by have h1:=A2 ht;(try dsimp only at h1);omega
  rw [hie]
  refine k6 (k2 (A3 (A4 A0 A0 (A7 A0 A0 (A5 ?_)))));refine k1 (k10 ?_)
  exact B8 (rs:=[H09 (A04 g cm.Parents cm.Parents.length)]) (I1 rfl rfl rfl) rfl
def Short (g:Graph):Prop:=∀c:Nat,(R4 g c).length≤6
theorem Short.tree {g:Graph} (h:Short g) {c:Nat} {t:List File} (ht:t∈S3 g c):t.length≤6:=by
 unfold S3 at ht
 split at ht
 ·rw [List.mem_singleton.1 ht];simp
 ·obtain ⟨p,_,rfl⟩:=List.mem_map.1 ht
  exact h _
theorem J85 {g:Graph} (h:FewT g) {c:Nat} {t:List File} (ht:t∈S3 g c):FewF t:=by
 unfold S3 at ht
 split at ht
 ·rw [List.mem_singleton.1 ht];exact ⟨by simp,(fun _ h=>by cases h),(fun _ h=>by cases h)⟩
 ·obtain ⟨p,_,rfl⟩:=List.mem_map.1 ht
  exact h.files _
theorem Valid.check {g:Graph} (h:Valid g) (c:Nat):F1 (R4 g c)=0:=by
 unfold R4
 by_cases hc:c < g.length
 ·rw [L01 hc]
  exact h.tree _ (L05 hc)
 ·rw [L18 (by omega)];decide
theorem Valid.checks {g:Graph} (h:Valid g) {c:Nat} {t:List File} (ht:t∈S3 g c):F1 t=0:=by
 unfold S3 at ht
 split at ht
 ·rw [List.mem_singleton.1 ht];decide
 ·obtain ⟨p,_,rfl⟩:=List.mem_map.1 ht
  exact Valid.check h _
def A44 (g:Graph) (c:Nat):List (List Delta):=(S3 g c).map fun t=>Z6 t (R4 g c)
def R8 (ts:List (List File)) (u:List File) (i:Nat):List (List Delta):=(ts.take i).map fun t=>Z6 t u
theorem F14 {ts:List (List File)} {u:List File} {i:Nat} (h:i < ts.length):R8 ts u (i+1)=R8 ts u i++[Z6 ts[i] u]:=by
 unfold R8
 rw [List.take_add_one,L01 h,Option.toList_some,L40];rfl
theorem F84 (ts:List (List File)) (u:List File) (i:Nat):(R8 ts u i).length≤ts.length:=by
 unfold R8;rw [L33,L10];omega
theorem cof_ok (g:Graph) (c:Nat) (h:FewT g) (hv:Valid g) (hs6:Short g) (hc:c < g.length):FnOk Tryz.prog 38 [K3 g,E2 c] (fun rs=>rs=[.one (.list (List Delta) 1 c5 (A44 g c))]):=by
 obtain ⟨cm,hcm⟩:∃cm,cm=g[c]:=⟨_,rfl⟩
 have hvc:g[((c:Nat):Int).toNat]?=some cm:=by rw [hcm];simp [hc]
 have hfc:R4 g c=cm.Files:=D87 (by rw [L03] at hvc;exact hvc)
 have htl:=C07 hv c
 have htf:∀t∈S3 g c,FewF t∧F1 t=0∧t.length≤6:=fun t ht=>⟨J85 h ht,Valid.checks hv ht,hs6.tree ht⟩
 have huf:=h.files c
 have hu0:=Valid.check hv c
 have hu6:=hs6 c
 obtain ⟨ts,hts⟩:∃ts,ts=S3 g c:=⟨_,rfl⟩
 obtain ⟨u,hu⟩:∃u,u=cm.Files:=⟨_,rfl⟩
 have hres:A44 g c=R8 ts u ts.length:=by unfold A44 R8;rw [L08,hfc,hts,hu]
 rw [hfc,←hu] at huf hu0 hu6
 rw [←hts] at htl htf
 rw [hres]
 refine FnOk.intro Tryz.func38 (by decide) A0 A0 A0 A0 ?_
 refine k2 (A3 (A7 A0 A0 (A5 ?_)));refine k1 (k2 (A3 (D1 (j4 5 _ c5 A0) A0 (A5 ?_))));refine k1 (k2 (k2 (A3 (A4 A0 A0 (A4 A0 A0 (C9 (E23 g c h.few hv.rel hc) A0 A0 A0 ?_))))));rintro _ rfl;refine F4 A0 A0 (A4 A0 A0 (A5 ?_))
 rw [←hts]
 refine k1 (k3 (D2 (X:=Nat) (fun p=>([(0,D6 Commit 3 H2 g),(1,C7 c),(5,.s (.one (.buf 5 (List Delta) 1 c5 (R8 ts u p)))),(12,D6 (List File) 1 B61 ts),(13,C7 ts.length),(14,C7 p)],[(5,.spare (R8 ts u p).length 1 88)])) (fun p=>p≤ts.length) (fun p=>ts.length - p) 0 (Nat.zero_le _) (Sees.of ⟨le1 rfl,le1 rfl,le1 rfl,le1 rfl,le1 rfl,le1 rfl,trivial⟩ ⟨rfl,trivial⟩) ?_))
 intro p hp
 dsimp only at hp ⊢
 have hbl:=F84 ts u p
 refine k2 (A3 (F7 A0 A0 A0 (A5 ?_)));refine k1 (k2 ?_);refine B1 rfl (fun ht=>?_) (fun ht=>?_)
 ·have hplt:p < ts.length:=by have h1:=A1 ht;(try dsimp only at h1);omega
  have hs:=F14 (u:=u) hplt
  obtain ⟨t,ht0⟩:∃t,t=ts[p]:=⟨_,rfl⟩
  have hvt:ts[p]?=some t:=by rw [ht0];simp [hplt]
  obtain ⟨htf1,ht1,ht6⟩:=htf t (by rw [ht0];exact L05 hplt)
  rw [←ht0] at hs
  have hte:C09 t u=0:=by unfold C09;rw [ht1,if_neg (fun h=>h rfl),hu0]
  have hdiff:=K40 t u htf1 huf (fun _=>by omega)
  rw [hte,if_neg (fun h=>h rfl),show u0 u=u0 cm.Files by rw [hu]] at hdiff
  refine k5 (k1 (k2 (k3 (k2 (A3 (A6 (B6 A0 (.pure _ _ _ _) A0 (by omega) hvt) A0 (A6 (B3 A0 A0) A0 (A7 A0 A0 (A5 ?_)))))))));refine k1 (k2 (A3 (A4 A0 A0 (A4 A0 A0 (A4 A0 A0 (A6 (B6 A0 (.pure _ _ _ _) A0 (by omega) hvc) A0 (A6 (C3 A0) A0 (A6 (B3 A0 A0) A0 (C9 (hdiff) A0 A0 A0 ?_)))))))));rintro _ rfl;refine A4 A0 A0 (E8 A0 A0 A0 (E8 A0 A0 A0 (A7 A0 A0 (A7 A0 A0 (A5 ?_)))));refine k1 (A3 (A4 A0 A0 (A4 A0 A0 (A6 (D7 (c:=c5) (ys:=[Z6 t u]) (G6 A0 A0 A0 A0 I0) A0 A0 A0) A0 (D1 (P0 A0 A0 A0 (.pure _ _ _ _) (by (simp only [L04,L09];omega)) A0) A0 (A7 A0 A0 (A5 ?_)))))));refine k4 (k1 (A3 (E3 A0 A0 A0 (A4 A0 A0 (A5 ?_)))));refine k1 ?_;refine ⟨p+1,by omega,by omega,?_⟩
  rw [hs]
  exact (Sees.of ⟨le1 rfl,le1 rfl,le1 rfl,le1 rfl,le1 rfl,le1 rfl,trivial⟩ ⟨rfl,trivial⟩)
 ·have hpe:p=ts.length:=by have h1:=A2 ht;(try dsimp only at h1);omega
  rw [hpe]
  refine k6 (k2 (A3 (A4 A0 A0 (A7 A0 A0 (A5 ?_)))));refine k1 (k10 ?_)
  exact B8 (rs:=[.one (.list (List Delta) 1 c5 (R8 ts u ts.length))]) (I1 rfl rfl rfl) rfl
theorem J86 (g:Graph) (c:Int) (h:FewT g) (hs6:Short g):FnOk Tryz.prog 20 [K3 g,E2 c] (fun rs=>∃l,rs=[.one (.list (List Delta) 1 c5 l),E2 (a8 g c)]):=by
 refine FnOk.intro Tryz.func20 (by decide) A0 A0 A0 A0 ?_
 refine k2 (A3 (A7 A0 A0 (A7 A0 A0 (A5 ?_))));refine k1 (k2 (k2 (A3 (A4 A0 A0 (A4 A0 A0 (C9 (F13 g c h) A0 A0 A0 ?_))))));rintro _ rfl;refine A7 A0 A0 (A5 ?_);refine k1 (k2 (A3 (A4 A0 A0 (A6 (O2 A0 A0) A0 (A5 ?_)))));refine k1 ?_;refine B1 rfl (fun ht=>?_) (fun ht=>?_)
 ·refine k2 (A3 (A4 A0 A0 (A6 (H4 _ 1 c5) A0 (A7 A0 A0 (A5 ?_)))));refine k1 (k10 (k11 ?_))
  exact B8 (rs:=[.one (.list (List Delta) 1 c5 []),E2 (a8 g c)]) (a6 rfl rfl rfl rfl rfl) ⟨_,rfl⟩
 have h1:¬a8 g c≠0:=A2 ht
 have h0:a8 g c=0:=Decidable.not_not.1 h1
 obtain ⟨hv,hc0,hc1⟩:=E22 h0
 obtain ⟨k,rfl⟩:∃k:Nat,c=(k:Int):=⟨c.toNat,by omega⟩
 rw [h0]
 refine k5 (k1 (k2 (A3 (A4 A0 A0 (A4 A0 A0 (C9 (cof_ok g k h hv hs6 (by omega)) A0 A0 A0 ?_))))));rintro _ rfl;refine A7 A0 A0 (A7 A0 A0 (A5 ?_));refine k1 (k10 ?_)
 exact B8 (rs:=[.one (.list (List Delta) 1 c5 (A44 g k)),E2 0]) (a6 rfl rfl rfl rfl rfl) ⟨_,rfl⟩
set_option maxHeartbeats 1000000
theorem G23 (g:Graph) (c:Nat) (h:FewT g) (hv:Valid g) (hs6:Short g) (hc:c < g.length):FnOk Tryz.prog 21 [K3 g,E2 c] (fun rs=>rs=[H27 (O4 g c)]):=by
 obtain ⟨cm,hcm⟩:∃cm,cm=g[c]:=⟨_,rfl⟩
 have hvc:g[((c:Nat):Int).toNat]?=some cm:=by rw [hcm];simp [hc]
 have hfc:R4 g c=cm.Files:=D87 (by rw [L03] at hvc;exact hvc)
 have htl:=C07 hv c
 have htm:∀t∈S3 g c,t.length≤6:=fun t ht=>hs6.tree ht
 have hul:=hs6 c
 rw [hfc] at hul
 obtain ⟨ts,hts⟩:∃ts,ts=S3 g c:=⟨_,rfl⟩
 obtain ⟨u,hu⟩:∃u,u=cm.Files:=⟨_,rfl⟩
 have hres:O4 g c=m9 ts u ts.length:=by unfold O4 m9;rw [L08,hfc,hts,hu]
 have hds:A44 g c=R8 ts u ts.length:=by unfold A44 R8;rw [L08,hfc,hts,hu]
 rw [←hu] at hul
 rw [←hts] at htl htm
 rw [hres]
 obtain ⟨DS,hDS⟩:∃DS,DS=R8 ts u ts.length:=⟨_,rfl⟩
 have hDl:DS.length=ts.length:=by rw [hDS];unfold R8;rw [L33,L08]
 refine FnOk.intro Tryz.func21 (by decide) A0 A0 A0 A0 ?_
 refine k2 (A3 (A7 A0 A0 (A5 ?_)));refine k1 (k2 (A3 (D1 (j4 5 _ B21 A0) A0 (A5 ?_))));refine k1 (k2 (A3 (A4 A0 A0 (A4 A0 A0 (C9 (E23 g c h.few hv.rel hc) A0 A0 A0 ?_)))));rintro _ rfl;refine A7 A0 A0 (A5 ?_)
 rw [←hts]
 refine k1 (k2 (k2 (A3 (A4 A0 A0 (A4 A0 A0 (C9 (cof_ok g c h hv hs6 hc) A0 A0 A0 ?_))))));rintro _ rfl;refine F4 A0 A0 (A4 A0 A0 (A5 ?_))
 rw [hds,←hDS]
 refine k1 (k3 (D2 (X:=Nat) (fun p=>([(0,D6 Commit 3 H2 g),(1,C7 c),(5,.s (.one (.buf 5 (List (Str × Str)) 1 B21 (m9 ts u p)))),(6,D6 (List File) 1 B61 ts),(21,.s (.one (.p (.list (List Delta) 1 c5 DS)))),(22,C7 DS.length),(23,C7 p)],[(5,.spare (m9 ts u p).length 1 60)])) (fun p=>p≤ts.length) (fun p=>ts.length - p) 0 (Nat.zero_le _) (Sees.of ⟨le1 rfl,le1 rfl,le1 rfl,le1 rfl,le1 rfl,le1 rfl,le1 rfl,trivial⟩ ⟨rfl,trivial⟩) ?_))
 intro p hp
 dsimp only at hp ⊢
 have hbl:=H72 ts u p
 refine k2 (A3 (F7 A0 A0 A0 (A5 ?_)));refine k1 (k2 ?_);refine B1 rfl (fun ht=>?_) (fun ht=>?_)
 rotate_left
 ·have hpe:p=ts.length:=by have h1:=A2 ht;(try dsimp only at h1);omega
  rw [hpe]
  refine k6 (k2 (A3 (A4 A0 A0 (A7 A0 A0 (A5 ?_)))));refine k1 (k10 ?_)
  exact B8 (rs:=[H27 (m9 ts u ts.length)]) (I1 rfl rfl rfl) rfl
 have hplt:p < ts.length:=by have h1:=A1 ht;(try dsimp only at h1);omega
 have hs:=G83 (u:=u) hplt
 obtain ⟨t,ht0⟩:∃t,t=ts[p]:=⟨_,rfl⟩
 have hvt:ts[p]?=some t:=by rw [ht0];simp [hplt]
 have htl2:=htm t (by rw [ht0];exact L05 hplt)
 rw [←ht0] at hs
 have hdl:=F11 t u
 obtain ⟨ds,hdsd⟩:∃ds,ds=Z6 t u:=⟨_,rfl⟩
 have hvd:DS[p]?=some ds:=by
  rw [hDS,hdsd,ht0];unfold R8
  rw [L08,L51,L01 hplt];rfl
 have hpo:B74 t u=A05 t u ds ds.length:=by unfold B74 A05;rw [L08,hdsd]
 rw [hpo] at hs
 rw [←hdsd] at hdl
 refine k5 (k1 (k2 (k3 (k2 (A3 (A4 A0 A0 (A6 (B6 A0 (.pure _ _ _ _) A0 (by omega) hvd) A0 (A6 (B3 A0 A0) A0 (A7 A0 A0 (A7 A0 A0 (A5 ?_)))))))))));refine k1 (k2 (A3 (D1 (j4 9 _ A66 A0) A0 (A5 ?_))));refine k1 (k2 (k2 (A3 (A4 A0 A0 (F4 A0 A0 (A4 A0 A0 (A5 ?_)))))));refine k1 (k3 (D2 (X:=Nat) (fun i=>([(0,D6 Commit 3 H2 g),(1,C7 c),(5,.s (.one (.buf 5 (List (Str × Str)) 1 B21 (m9 ts u p)))),(6,D6 (List File) 1 B61 ts),(7,C7 p),(9,.s (.one (.buf 9 (Str × Str) 2 A66 (A05 t u ds i)))),(21,.s (.one (.p (.list (List Delta) 1 c5 DS)))),(22,C7 DS.length),(23,C7 p),(28,D6 Delta 2 B60 ds),(29,C7 ds.length),(30,C7 i)],[(5,.spare (m9 ts u p).length 1 60),(9,.spare (A05 t u ds i).length 2 40)])) (fun i=>i≤ds.length) (fun i=>ds.length - i) 0 (Nat.zero_le _) (Sees.of ⟨le1 rfl,le1 rfl,le1 rfl,le1 rfl,le1 rfl,le1 rfl,le1 rfl,le1 rfl,le1 rfl,le1 rfl,le1 rfl,le1 rfl,trivial⟩ ⟨rfl,rfl,trivial⟩) ?_))
 intro i hi
 dsimp only at hi ⊢
 have hpl:=E21 t u ds i
 refine k2 (A3 (F7 A0 A0 A0 (A5 ?_)));refine k1 (k2 ?_);refine B1 rfl (fun ht=>?_) (fun ht=>?_)
 ·have hilt:i < ds.length:=by have h1:=A1 ht;(try dsimp only at h1);omega
  have hs2:=G84 (t:=t) (u:=u) hilt
  obtain ⟨d,hd⟩:∃d,d=ds[i]:=⟨_,rfl⟩
  have hvdi:ds[i]?=some d:=by rw [hd];simp [hilt]
  rw [←hd] at hs2
  have hfu:=H67 u d.Path (by omega)
  rw [show u0 u=u0 cm.Files by rw [hu]] at hfu
  refine k5 (k1 (k2 (k3 (k2 (A3 (A6 (B6 A0 (.pure _ _ _ _) A0 (by omega) hvdi) A0 (A6 (E1 A0 A0) A0 (D1 (J1 11 A0) A0 (G1 (B9 TySz.out A0 A0 A0 A0 A0 A0) (A5 ?_))))))))));refine k1 (k2 (E7 (by kernel_rfl) (by kernel_rfl) (E9 A0 A0 (E9 A0 A0 (B7 (B6 A0 (.pure _ _ _ _) A0 (by omega) hvt) A0 A0 (B7 (B3 A0 A0) A0 A0 (B7 (B0 A0) A0 A0 (B7 (C5 A0 A0 A0) A0 A0 (B7 (O7 (H67 t d.Path (by omega)) A0 A0) A0 A0 (E9 A0 A0 (B7 (N2 A0 A0) A0 A0 (B7 (N2 A0 A0) A0 A0 (B7 (H5 A0 A0) A0 A0 (B7 (H5 A0 A0) A0 A0 (Q6 ?_)))))))))))))));refine k1 (k2 (E7 (by kernel_rfl) (by kernel_rfl) (E9 A0 A0 (E9 A0 A0 (B7 (B6 A0 (.pure _ _ _ _) A0 (by omega) hvc) A0 A0 (B7 (C3 A0) A0 A0 (B7 (B3 A0 A0) A0 A0 (B7 (B0 A0) A0 A0 (B7 (C5 A0 A0 A0) A0 A0 (B7 (O7 (hfu) A0 A0) A0 A0 (E9 A0 A0 (B7 (N2 A0 A0) A0 A0 (B7 (N2 A0 A0) A0 A0 (B7 (H5 A0 A0) A0 A0 (B7 (H5 A0 A0) A0 A0 (Q6 ?_))))))))))))))));refine k1 (A3 (A4 A0 A0 (A4 A0 A0 (A4 A0 A0 (A6 (y3 A0) A0 (A6 (D7 (c:=A66) (ys:=[(B00 t d.Path,B00 u d.Path)]) (G6 A0 A0 A0 A0 I0) A0 A0 A0) A0 (D1 (P0 A0 A0 A0 (.pure _ _ _ _) (by (simp only [L04,L09];omega)) A0) A0 (A7 A0 A0 (A5 ?_)))))))));refine k4 (k1 (A3 (E3 A0 A0 A0 (A4 A0 A0 (A5 ?_)))));refine k1 ?_;refine ⟨i+1,by omega,by omega,?_⟩
  rw [hs2]
  exact (Sees.of ⟨le1 rfl,le1 rfl,le1 rfl,le1 rfl,le1 rfl,le1 rfl,le1 rfl,le1 rfl,le1 rfl,le1 rfl,le1 rfl,le1 rfl,trivial⟩ ⟨rfl,rfl,trivial⟩)
 ·have hie:i=ds.length:=by have h1:=A2 ht;(try dsimp only at h1);omega
  rw [hie]
  have hpl2:=E21 t u ds ds.length
  refine k6 (k7 (k7 (k8 A0 (k1 (A3 (A4 A0 A0 (A4 A0 A0 (A6 (D7 (c:=B21) (ys:=[A05 t u ds ds.length]) (G6 A0 A0 A0 A0 I0) A0 A0 A0) A0 (D1 (P0 A0 A0 A0 (.pure _ _ _ _) (by (simp only [L04,L09];omega)) A0) A0 (A7 A0 A0 (A5 ?_)))))))))));refine k4 (k1 (A3 (E3 A0 A0 A0 (A4 A0 A0 (A5 ?_)))));refine k1 ?_;refine ⟨p+1,by omega,by omega,?_⟩
  rw [hs]
  exact (Sees.of ⟨le1 rfl,le1 rfl,le1 rfl,le1 rfl,le1 rfl,le1 rfl,le1 rfl,trivial⟩ ⟨rfl,trivial⟩)
set_option maxHeartbeats 1000000
abbrev cE (nd:Str):Unit→Nat→Cell:=fun _ _=>.v (.string ⟨nd.toArray⟩)
abbrev H78 (x:Str × Str):S1:=.agg [.p (A66 x 0),.p (A66 x 1)]
abbrev C10 (b:Bool):S1:=.one (.p (.v (.bool b)))
abbrev R5 (i:Int):S1:=.one (.p (.v (.int .i64 i)))
theorem K42 (nd:Str) (x:Str × Str) (hn:nd.length≤1073741824) (h1:x.1.length≤16777216) (h2:x.2.length≤16777216) :
  AL.Met Tryz.prog 12 [H78 x,.one (.eref Unit 1 (cE nd) () 0)] [] [] [] (fun rs ob'=>rs=[C10 (differs nd x)]∧ob'=[]):=by
 refine AL.Met.intro Tryz.func12 (by decide) A0 A0 A0 ?_
 refine k2 (A3 (D1 (s6 2 A0 A0 A0) A0 (A7 A0 A0 (A5 ?_))));refine k1 (k2 (E7 (by kernel_rfl) (by kernel_rfl) (B7 (B3 A0 A0) A0 A0 (B7 (I5 A0 A0 (by first | omega | decide) (by omega)) A0 A0 (B7 (C5 A0 A0 A0) A0 A0 (B7 (O7 (C41 nd x.1 hn h1) A0 A0) A0 A0 (B7 (B3 A0 A0) A0 A0 (B7 (I5 A0 A0 (by first | omega | decide) (by omega)) A0 A0 (B7 (C5 A0 A0 A0) A0 A0 (B7 (O7 (C41 nd x.2 hn h2) A0 A0) A0 A0 (B7 (O2 A0 A0) A0 A0 (B7 (H5 A0 A0) A0 A0 (Q6 ?_)))))))))))));refine k1 (k10 ?_)
 exact G7 (I8 rfl rfl) (by repeat (first | exact A8 | refine A9 rfl ?_ | refine D4 _ ?_)) (ObIn.spec (ob':=[]) trivial) ⟨rfl,rfl⟩
theorem F85 (f:FuncId) (α:Type) (ec:Nat) (c:α→Nat→Cell) (v:α) (pr:Str × Str→Bool) (l:List (Str × Str)) (hl:l.length≤1073741824) (hf:∀x∈l,AL.Met Tryz.prog f [H78 x,.one (.eref α ec c v 0)] [] [] [] (fun rs ob'=>rs=[C10 (pr x)]∧ob'=[])) :
  AL.Met Tryz.prog 48 [.one (.p (.list (Str × Str) 2 A66 l)),.one (.fncE f α ec c v)] [] [] [] (fun rs ob'=>(∃i:Int,rs=[R5 i]∧decide (0≤i)=l.any pr)∧ob'=[]):=by
 refine AL.Met.intro Tryz.func48 (by decide) A0 A0 A0 ?_
 refine k2 (A3 (A7 A0 A0 (A5 ?_)));refine k1 (k2 (k2 (A3 (A4 A0 A0 (F4 A0 A0 (A4 A0 A0 (A5 ?_)))))));refine k1 (k3 (D2 (X:=Nat) (fun i=>([(0,D6 (Str × Str) 2 A66 l),(1,.s (.one (.fncE f α ec c v))),(7,C7 l.length),(8,C7 i)],[])) (fun i=>i≤l.length∧(l.take i).any pr=false) (fun i=>l.length - i) 0 ⟨Nat.zero_le _,rfl⟩ (Sees.of ⟨le1 rfl,le1 rfl,le1 rfl,le1 rfl,trivial⟩ trivial) ?_))
 rintro i ⟨hi,hn⟩
 dsimp only at hi hn ⊢
 refine k2 (A3 (F7 A0 A0 A0 (A5 ?_)));refine k1 (k2 ?_);refine B1 rfl (fun ht=>?_) (fun ht=>?_)
 rotate_left
 ·have h1:i=l.length:=by have h1:=A2 ht;(try dsimp only at h1);omega
  rw [h1,L08] at hn
  refine k6 (k2 (A3 (A7 A0 A0 (A5 ?_))));refine k1 (k10 ?_)
  exact G7 (I8 rfl rfl) (by repeat (first | exact A8 | refine A9 rfl ?_ | refine D4 _ ?_)) (ObIn.spec (ob':=[]) trivial) ⟨⟨-1,rfl,by rw [hn];rfl⟩,rfl⟩
 have hlt:i < l.length:=by have h1:=A1 ht;(try dsimp only at h1);omega
 obtain ⟨x,hx⟩:∃x,x=l[i]:=⟨_,rfl⟩
 have hv:l[i]?=some x:=by rw [hx];simp [hlt]
 have hfx:=hf x (by rw [hx];exact L05 hlt)
 refine k5 (k1 (k2 (k3 (k2 (A3 (A4 A0 A0 (A7 A0 A0 (A5 ?_))))))));refine k1 (k2 (A3 (A4 A0 A0 (A4 A0 A0 (A4 A0 A0 (A6 (B6 A0 (.pure _ _ _ _) A0 (by omega) hv) A0 (A6 (E1 A0 A0) A0 (A6 (n_callE (hfx) A0 A0 A0) A0 (A5 ?_)))))))));refine k1 ?_;refine B1 rfl (fun ht=>?_) (fun ht=>?_)
 ·refine k2 (A3 (A4 A0 A0 (A7 A0 A0 (A5 ?_))));refine k1 (k10 (k12 (k11 (k11 (k12 (k11 ?_))))));refine G7 (I8 rfl rfl) (by repeat (first | exact A8 | refine A9 rfl ?_ | refine D4 _ ?_)) (ObIn.spec (ob':=[]) trivial) ⟨⟨i,rfl,?_⟩,rfl⟩
  rw [List.any_eq_true.2 ⟨x,by rw [hx];exact L05 hlt,ht⟩]
  exact decide_eq_true (by omega)
 ·refine k5 (k4 (k1 (A3 (E3 A0 A0 A0 (A4 A0 A0 (A5 ?_))))));refine k1 ?_;refine ⟨i+1,⟨hlt,?_⟩,by omega,(Sees.of ⟨le1 rfl,le1 rfl,le1 rfl,le1 rfl,trivial⟩ trivial)⟩
  rw [List.take_add_one,hv,Option.toList_some,L50,hn,Bool.false_or,List.any_cons,List.any_nil,Bool.or_false]
  exact ht
theorem D89 (f:FuncId) (α:Type) (ec:Nat) (c:α→Nat→Cell) (v:α) (pr:Str × Str→Bool) (l:List (Str × Str)) (hl:l.length≤1073741824) (hf:∀x∈l,AL.Met Tryz.prog f [H78 x,.one (.eref α ec c v 0)] [] [] [] (fun rs ob'=>rs=[C10 (pr x)]∧ob'=[])) :
  AL.Met Tryz.prog 23 [.one (.p (.list (Str × Str) 2 A66 l)),.one (.fncE f α ec c v)] [] [] [] (fun rs ob'=>rs=[C10 (l.any pr)]∧ob'=[]):=by
 refine AL.Met.intro Tryz.func23 (by decide) A0 A0 A0 ?_
 refine k2 (A3 (A7 A0 A0 (A5 ?_)));refine k1 (k2 (A3 (A4 A0 A0 (A4 A0 A0 (A33 (F85 f α ec c v pr l hl hf) A0 A0 A0 A0 ?_)))));rintro _ _ ⟨⟨i,rfl,hi⟩,rfl⟩;refine ⟨rfl,?_⟩;refine A6 (V2 A0 A0) A0 (A7 A0 A0 (A5 ?_));refine k1 (k10 ?_)
 exact G7 (I8 rfl rfl) (by repeat (first | exact A8 | refine A9 rfl ?_ | refine D4 _ ?_)) (ObIn.spec (ob':=[]) trivial) ⟨by rw [←hi],rfl⟩
def t6 (B:List (List (Str × Str))) (i:Nat):List (Str × Str):=(B.take i).flatten
theorem E24 {B:List (List (Str × Str))} {i:Nat} (h:i < B.length):t6 B (i+1)=t6 B i++B[i]:=by
 unfold t6
 rw [List.take_add_one,L01 h,Option.toList_some,L45];simp
theorem G24:∀{B:List (List (Str × Str))},(∀l∈B,l.length≤400)→B.flatten.length≤400*B.length
 | [],_=>by simp
 | l::B,h=>by
  have:=G24 fun x hx=>h x (List.mem_cons_of_mem l hx)
  have:=h l List.mem_cons_self
  rw [L36,L06,L04];omega
theorem B55 {B:List (List (Str × Str))} (hB:FewB B) (i:Nat):(t6 B i).length≤13200:=by
 have h1:=G24 (B:=B.take i) fun l hl=>hB.lens l (List.mem_of_mem_take hl)
 have h2:=hB.len
 rw [L10] at h1
 unfold t6;omega
abbrev J39 (l:List (Str × Str)):Ob:=.grow 40 (Str × Str) 2 A66 l
set_option maxHeartbeats 1000000
abbrev C56 (s:Str) (a d:Nat):Ob:=.box [.p (.v (.string ⟨s.toArray⟩)),.p (.v (.int .i64 a)),.p (.v (.int .i64 d)),.mut 811]
abbrev C11 (l:List AL.Node):Ob:=.grow 154 AL.Node 8 A68 l
abbrev A34 (c:UInt8):S1:=.one (.p (.v (.int .u8 c.toNat)))
abbrev L9:S1:=.one (.ref 810 0)
theorem B32 {gf:Fr} {ob:Obs} (s:Str) (a d:Nat) (ha:a≤s.length) (_hs:s.length≤1000) (h0:C1 ob 810=some (C56 s a d)) :
  AL.Met Tryz.prog 116 [L9] gf ob [] (fun rs ob'=>rs=[A34 (s.getD a 0),C10 (decide (a < s.length))]∧ob'=ob):=by
 refine AL.Met.intro Tryz.func116 (by decide) A0 A0 A0 ?_
 refine k2 (A3 (A7 A0 A0 (A7 A0 A0 (A5 ?_))));refine k1 (k2 (k2 (E7 (by kernel_rfl) (by kernel_rfl) (E9 A0 A0 (B7 (B2 A0) A0 A0 (B7 (B0 A0) A0 A0 (B7 (C5 A0 h0 A0) A0 A0 (E9 A0 A0 (B7 (B2 A0) A0 A0 (B7 (B0 A0) A0 A0 (B7 (C5 A0 h0 A0) A0 A0 (B7 (J7 A0) A0 A0 (B7 (H0 A0 A0) A0 A0 (Q6 ?_))))))))))))));refine k1 ?_;refine B1 rfl (fun ht=>?_) (fun ht=>?_)
 ·have h1:a=s.length:=by have h1:=A1 ht;omega
  refine k2 (A3 (A7 A0 A0 (A7 A0 A0 (A5 ?_))));refine k1 (k10 (k11 ?_));refine G7 (E86 rfl rfl rfl) (by repeat (first | exact A8 | refine A9 rfl ?_ | refine D4 _ ?_)) (fun _ _ h=>h) ⟨?_,rfl⟩
  rw [h1,decide_eq_false (by omega),L07,L18 (by omega)];rfl
 ·have h1:a < s.length:=by have h1:=A2 ht;omega
  have hv:s[((a:Nat):Int).toNat]?=some (s.getD a 0):=by rw [L03,L07,L01 h1];rfl
  refine k5 (k1 (k2 (E7 (by kernel_rfl) (by kernel_rfl) (E9 A0 A0 (B7 (B2 A0) A0 A0 (B7 (B0 A0) A0 A0 (B7 (C5 A0 h0 A0) A0 A0 (E9 A0 A0 (B7 (B2 A0) A0 A0 (B7 (B0 A0) A0 A0 (B7 (C5 A0 h0 A0) A0 A0 (B7 (R7 A0 A0 (by omega) hv) A0 A0 (B7 (H5 A0 A0) A0 A0 (B7 (H5 A0 A0) A0 A0 (Q6 ?_)))))))))))))));refine k1 (k10 ?_);refine G7 (E86 rfl rfl rfl) (by repeat (first | exact A8 | refine A9 rfl ?_ | refine D4 _ ?_)) (fun _ _ h=>h) ⟨?_,rfl⟩
  rw [decide_eq_true h1]
theorem n4 {gf:Fr} {ob:Obs} (s:Str) (a d:Nat) (c:UInt8) (ha:a≤s.length) (hs:s.length≤1000) (h0:C1 ob 810=some (C56 s a d)) :
  AL.Met Tryz.prog 80 [L9,A34 c] gf ob [] (fun rs ob'=>rs=[C10 (decide (s[a]?=some c))]∧ob'=(810,C56 s (if s[a]?=some c then a+1 else a) d)::ob):=by
 have hu:∀x y:UInt8,((x.toNat:Int)=y.toNat)↔x=y:=fun x y=>⟨fun h=>UInt8.toNat_inj.1 (by omega),fun h=>by rw [h]⟩
 refine AL.Met.introH Tryz.func80 (by decide) rfl rfl rfl (fun hH=>?_)
 refine D3 (K76 (l:=[(0,.s L9),(1,.s (A34 c))]) (ob':=(810,C56 s a d)::ob) ⟨le1 rfl,le1 rfl,trivial⟩ hH (by repeat (first | exact A8 | refine A9 rfl ?_)) (E4 (L:=[(810,_)]) ⟨h0,trivial⟩ D5)) ?_
 refine k2 (A3 (A7 A0 A0 (A5 ?_)));refine k1 (k2 (A3 (A4 A0 A0 (L4 (B32 s a d ha hs A0) A0 A0 A0 ?_))));rintro _ _ ⟨rfl,rfl⟩;refine A4 A0 A0 (E8 A0 A0 A0 (E8 A0 A0 A0 (A7 A0 A0 (A7 A0 A0 (A5 ?_)))));refine k1 (k2 (k2 (A3 (A4 A0 A0 (A6 (S2 A0) A0 (A4 A0 A0 (B5 A0 A0 A0 A0 (fun hg=>by rw [hg];exact C2 A0 A0) ?_)))))));refine B5 A0 A0 A0 A0 (fun hg=>by rw [hg];exact C2 A0 A0) ?_;refine B5 A0 A0 A0 A0 (fun hg=>by rw [hg];exact O2 A0 A0) ?_;refine K7 A0 A0 ?_;refine A5 ?_;refine k1 ?_
 by_cases hc:s[a]?=some c
 ·have hlt:a < s.length:=(List.getElem?_eq_some_iff.1 hc).1
  have hg:s.getD a 0=c:=by rw [L07,hc];rfl
  rw [decide_eq_true hc,if_pos hc]
  refine B1 rfl (fun ht=>?_) (fun ht=>?_)
  ·rw [F38,decide_eq_true hlt,hg] at ht
   simp at ht
  ·refine k5 (k1 (k2 (A3 (A4 A0 A0 (A6 (B2 A0) A0 (A6 (B0 A0) A0 (G3 A0 A0 A0 A0 (E3 A0 A0 A0 (A6 (B2 A0) A0 (A6 (B0 A0) A0 (G1 (B9 TySz.out A0 A0 A0 A0 A0 A0) (A5 ?_))))))))))));refine k1 (k2 (A3 (A7 A0 A0 (A5 ?_))));refine k1 (k10 ?_)
   exact G7 (I8 rfl rfl) (by repeat (first | exact A8 | refine A9 rfl ?_ | refine D4 _ ?_)) (E4 (L:=[(810,_)]) ⟨rfl,trivial⟩ (by repeat (first | exact D5 | refine D8 rfl ?_))) ⟨rfl,rfl⟩
 ·rw [decide_eq_false hc,if_neg hc]
  refine B1 rfl (fun ht=>?_) (fun ht=>?_)
  ·refine k2 (A3 (A7 A0 A0 (A5 ?_)));refine k1 (k10 (k11 ?_))
   exact G7 (I8 rfl rfl) (by repeat (first | exact A8 | refine A9 rfl ?_ | refine D4 _ ?_)) (fun _ _ h=>h) ⟨rfl,rfl⟩
  ·rw [F38,L34] at ht
   have h1:a < s.length:=by simpa using ht.1
   have h2:=A2 ht.2
   exfalso
   refine hc ?_
   have h3:s.getD a 0=c:=(hu _ _).1 (Decidable.not_not.1 h2)
   rw [←h3,L07,L01 h1];rfl
theorem D36 {gf:Fr} {ob:Obs} (s:Str) (a d:Nat) (l:List AL.Node) (n:AL.Node) (hl:l.length≤1000) (h0:C1 ob 810=some (C56 s a d)) (h1:C1 ob 811=some (C11 l)) :
  AL.Met Tryz.prog 118 [L9,(D67 n).s1] gf ob [811] (fun rs ob'=>rs=[R5 l.length]∧ob'=(810,C56 s a d)::(811,C11 (l++[n]))::Obs.forget 811 ob):=by
 refine AL.Met.introH Tryz.func118 (by decide) rfl rfl rfl (fun hH=>?_)
 refine D3 (K77 811 (l:=[(0,.s L9),(1,.s (D67 n).s1)]) (L:=[(810,_),(811,_)]) ⟨le1 rfl,le1 rfl,trivial⟩ hH (by repeat (first | exact A8 | refine A9 rfl ?_)) ⟨h0,h1,trivial⟩) ?_
 refine k2 (A3 (A6 (o5 A0 A0 A0) A0 (A7 A0 A0 (A5 ?_))));refine k1 (k2 ?_);refine D3 (K76 (gf':=Fr.forget 811 gf) (l:=[(0,.s L9),(3,.s (.one (.eref Unit 8 (fun _ j=>(cellsOf A68 n 0 8).getD j (.v undef)) () 0)))]) (ob':=[(810,C56 s a d),(811,C11 l)]++Obs.forget 811 ob) ⟨le1 rfl,le1 rfl,trivial⟩ (A82 hH) (by repeat (first | exact A8 | refine A9 rfl ?_)) (fun _ _ h=>h)) ?_
 refine Q0 [10,7] [[],[7],[10,7]] [(7,([811],[9])),(10,([],[]))] [(0,[]),(1,[]),(2,[]),(3,[]),(4,[]),(5,[]),(6,[]),(7,[]),(8,[7]),(9,[7]),(10,[7])] [(0,[7])] (by kernel_rfl) (by kernel_rfl) (E6 A0 A0 (by kernel_rfl) A0 A0 (C2 A0 A0) (E6 A0 A0 (by kernel_rfl) A0 A0 (C2 A0 A0) (E6 A0 A0 (by kernel_rfl) A0 A0 (B2 A0) (E6 A0 A0 (by kernel_rfl) A0 A0 (B0 A0) (E6 A0 A0 (by kernel_rfl) A0 A0 (C5 A0 A0 A0) (E6 A0 A0 (by kernel_rfl) A0 A0 (E1 A0 A0) (E6 A0 A0 (by kernel_rfl) A0 A0 (D7 (c:=A68) (ys:=[n]) (G6 A0 A0 A0 A0 I0) A0 A0 A0) (Z5 A0 A0 (by kernel_rfl) A0 A0 (D84 (fun frc hU=>U3 (T9 hU A0) A0 (T9 hU A0) (.pure _ _ _ _) (by (simp only [L04,L09];omega)) A0)) A0 (E6 A0 A0 (by kernel_rfl) A0 A0 (B2 A0) (E6 A0 A0 (by kernel_rfl) A0 A0 (B0 A0) (Z5 A0 A0 (by kernel_rfl) A0 A0 (A84 (fun frc hU=>B9 TySz.out (T9 hU A0) A0 (T9 hU A0) A0 A0 A0)) A0 ?_)))))))))));refine D85 (ks:=[811]) rfl (by kernel_rfl) rfl ?_ ?_
 ·refine O3 A0 A0 (by kernel_rfl) A0 A0 (C2 A0 A0) ?_;exact C03
 refine k1 (k2 (A3 (A4 A0 A0 (A6 (B2 A0) A0 (A6 (B0 A0) A0 (G3 A0 A0 A0 A0 (A6 (X3 A0 A0) A0 (A6 (N1 A0 A0 (by (simp only [L06,List.length_singleton];omega))) A0 (A7 A0 A0 (A5 ?_))))))))));refine k1 (k10 ?_);refine G7 (I8 rfl rfl) (by repeat (first | exact A8 | refine tail_drop rfl ?_ | refine A9 rfl ?_ | refine P9 _ ?_ | refine D4 _ ?_)) (E4 (L:=[(810,_),(811,_)]) ⟨rfl,rfl,trivial⟩ (by repeat (first | exact D5 | refine D8 rfl ?_ | refine A02 _ ?_))) ⟨?_,rfl⟩
 rw [L06,List.length_singleton]
 congr 5
 omega
set_option maxHeartbeats 1000000
theorem K43 {gf:Fr} {ob:Obs} (s:Str) (a d:Nat) (l:List AL.Node) (z:Set4) (hl:l.length≤1000) (h0:C1 ob 810=some (C56 s a d)) (h1:C1 ob 811=some (C11 l)) :
  AL.Met Tryz.prog 174 [L9,(W5 z).s1] gf ob [811] (fun rs ob'=>rs=[R5 l.length]∧ob'=(810,C56 s a d)::(811,C11 (l++[⟨1,z,0,0,[]⟩]))::Obs.forget 811 ob):=by
 refine AL.Met.introH Tryz.func174 (by decide) rfl rfl rfl (fun hH=>?_)
 refine D3 (K77 811 (l:=[(0,.s L9),(1,.s (W5 z).s1)]) (L:=[(810,_),(811,_)]) ⟨le1 rfl,le1 rfl,trivial⟩ hH (by repeat (first | exact A8 | refine A9 rfl ?_)) ⟨h0,h1,trivial⟩) ?_
 refine k2 (A3 (A6 (o5 A0 A0 A0) A0 (A7 A0 A0 (A5 ?_))));refine k1 (k2 (A3 (A4 A0 A0 (A6 (E1 A0 A0) A0 (A6 (K0 A0) A0 (E80 ((K82 Int 1 F2 7 7 A0 A0)) (L4 (D36 s a d l ⟨1,z,0,0,[]⟩ hl A0 A0) A0 A0 A0 ?_)))))));rintro _ _ ⟨rfl,rfl⟩;refine A7 A0 A0 (A5 ?_);refine k1 (k10 ?_)
 exact G7 (I8 rfl rfl) (by repeat (first | exact A8 | refine tail_drop rfl ?_ | refine A9 rfl ?_ | refine P9 _ ?_ | refine D4 _ ?_)) (E4 (L:=[(810,_),(811,_)]) ⟨rfl,rfl,trivial⟩ (by repeat (first | exact D5 | refine D8 rfl ?_ | refine A02 _ ?_))) ⟨rfl,rfl⟩
set_option maxHeartbeats 1000000
set_option maxHeartbeats 1000000
set_option maxHeartbeats 1000000
theorem I66 {gf:Fr} {ob:Obs} (s:Str) (a d:Nat) (l:List AL.Node) (kind:Int) (kids:List Int) (h2:2≤kids.length) (hl:l.length≤1000) (h0:C1 ob 810=some (C56 s a d)) (h1:C1 ob 811=some (C11 l)) :
  AL.Met Tryz.prog 81 [L9,R5 kind,.one (.p (.list Int 1 F2 kids))] gf ob [811] (fun rs ob'=>rs=[R5 l.length]∧ob'=(810,C56 s a d)::(811,C11 (l++[⟨kind,⟨0,0,0,0⟩,0,0,kids⟩]))::Obs.forget 811 ob):=by
 refine AL.Met.introH Tryz.func81 (by decide) rfl rfl rfl (fun hH=>?_)
 refine D3 (K77 811 (l:=[(0,.s L9),(1,.s (R5 kind)),(2,D6 Int 1 F2 kids)]) (L:=[(810,_),(811,_)]) ⟨le1 rfl,le1 rfl,le1 rfl,trivial⟩ hH (by repeat (first | exact A8 | refine A9 rfl ?_)) ⟨h0,h1,trivial⟩) ?_
 refine k2 (A3 (A7 A0 A0 (A5 ?_)));refine k1 (k2 (k2 (A3 (A4 A0 A0 (F4 A0 A0 (A5 ?_))))));refine k1 (k3 (k2 (A3 (A6 (H0 A0 A0) A0 (A7 A0 A0 (A5 ?_))))));refine k1 ?_;refine B1 rfl (fun ht=>?_) (fun ht=>?_)
 ·have:=A1 ht
  omega
 refine k2 (A3 (A6 (H0 A0 A0) A0 (A7 A0 A0 (A5 ?_))));refine k1 ?_;refine B1 rfl (fun ht=>?_) (fun ht=>?_)
 ·have:=A1 ht
  omega
 refine k5 (k2 (A3 (A4 A0 A0 (A4 A0 A0 (A4 A0 A0 (A6 (K0 A0) A0 (L4 (D36 s a d l ⟨kind,⟨0,0,0,0⟩,0,0,kids⟩ hl A0 A0) A0 A0 A0 ?_)))))));rintro _ _ ⟨rfl,rfl⟩;refine A7 A0 A0 (A5 ?_);refine k1 (k10 ?_)
 exact G7 (I8 rfl rfl) (by repeat (first | exact A8 | refine tail_drop rfl ?_ | refine A9 rfl ?_ | refine P9 _ ?_ | refine D4 _ ?_)) (E4 (L:=[(810,_),(811,_)]) ⟨rfl,rfl,trivial⟩ (by repeat (first | exact D5 | refine D8 rfl ?_ | refine A02 _ ?_))) ⟨rfl,rfl⟩
theorem I67 {gf:Fr} {ob:Obs} (kind x:Int) :
  AL.Met Tryz.prog 81 [L9,R5 kind,.one (.p (.list Int 1 F2 [x]))] gf ob [] (fun rs ob'=>rs=[R5 x]∧ob'=ob):=by
 have hv:[x][Int.toNat 0]?=some x:=rfl
 refine AL.Met.intro Tryz.func81 (by decide) A0 A0 A0 ?_
 refine k2 (A3 (A7 A0 A0 (A5 ?_)));refine k1 (k2 (k2 (A3 (A4 A0 A0 (F4 A0 A0 (A5 ?_))))));refine k1 (k3 (k2 (A3 (A6 (H0 A0 A0) A0 (A7 A0 A0 (A5 ?_))))));refine k1 ?_;refine B1 rfl (fun ht=>?_) (fun ht=>?_)
 ·exact absurd (A1 ht) (by simp)
 refine k2 (A3 (A6 (H0 A0 A0) A0 (A7 A0 A0 (A5 ?_))));refine k1 ?_;refine B1 rfl (fun ht=>?_) (fun ht=>?_)
 ·refine k2 (A3 (A4 A0 A0 (A6 (B6 A0 (.pure _ _ _ _) A0 (by omega) hv) A0 (A6 (B3 A0 A0) A0 (A7 A0 A0 (A5 ?_))))));refine k1 (k10 (k12 (k11 ?_)))
  exact G7 (I8 rfl rfl) (by repeat (first | exact A8 | refine A9 rfl ?_ | refine D4 _ ?_)) (fun _ _ h=>h) ⟨rfl,rfl⟩
 ·exact absurd rfl (A2 ht)
set_option maxHeartbeats 1000000
theorem K44 (st:AL.State) (b e:Bool):FnOk Tryz.prog 125 [J14 st,H1 b,H1 e] (fun rs=>rs=[K9 (Z3 st b e)]):=by
 refine FnOk.intro Tryz.func125 (by decide) A0 A0 A0 A0 ?_
 refine k2 (A3 (D1 (s6 3 A0 A0 A0) A0 (A6 (H4 _ 1 F2) A0 (A5 ?_))));refine k1 (k2 (k2 (A3 (A6 (B0 A0) A0 (G3 A0 A0 A0 A0 (A5 ?_))))));refine k1 (k3 (k2 (A3 (A6 (H0 A0 A0) A0 (A7 A0 A0 (A5 ?_))))));refine k1 ?_;refine B1 rfl (fun ht=>?_) (fun ht=>?_)
 ·have h1:st.Kind=1:=A1 ht
  refine k2 (A3 (A6 (B0 A0) A0 (G3 A0 A0 A0 A0 (A6 (B0 A0) A0 (G3 A0 A0 A0 A0 (A6 (D7 (c:=F2) (ys:=[st.Next,st.Other]) (G6 A0 A0 A0 A0 (G6 A0 A0 A0 A0 I0)) A0 A0 A0) A0 (A7 A0 A0 (A5 ?_))))))));refine k1 (k10 (k12 (k11 ?_)))
  exact B8 (rs:=[K9 [st.Next,st.Other]]) (I1 rfl rfl rfl) (by unfold Z3;simp [h1])
 have h1:¬st.Kind=1:=A2 ht
 refine k2 (A3 (A6 (H0 A0 A0) A0 (A7 A0 A0 (A5 ?_))));refine k1 ?_;refine B1 rfl (fun ht=>?_) (fun ht=>?_)
 ·have h2:st.Kind=2:=A1 ht
  refine k2 (A3 (A4 A0 A0 (A5 ?_)));refine k1 ?_;refine B1 rfl (fun ht=>?_) (fun ht=>?_)
  ·refine k2 (A3 (A6 (B0 A0) A0 (G3 A0 A0 A0 A0 (A6 (D7 (c:=F2) (ys:=[st.Next]) (G6 A0 A0 A0 A0 I0) A0 A0 A0) A0 (A7 A0 A0 (A5 ?_))))));refine k1 (k10 (k12 (k11 ?_)))
   exact B8 (rs:=[K9 [st.Next]]) (I1 rfl rfl rfl) (by unfold Z3;simp [h2,ht])
  ·refine k5 (k2 (A3 (A6 (H4 _ 1 F2) A0 (A5 ?_))));refine k1 (k10 ?_)
   exact B8 (rs:=[K9 []]) (I1 rfl rfl rfl) (by unfold Z3;simp [h2,ht])
 have h2:¬st.Kind=2:=A2 ht
 refine k2 (A3 (A6 (H0 A0 A0) A0 (A7 A0 A0 (A5 ?_))));refine k1 ?_;refine B1 rfl (fun ht=>?_) (fun ht=>?_)
 ·have h3:st.Kind=3:=A1 ht
  refine k2 (A3 (A4 A0 A0 (A5 ?_)));refine k1 ?_;refine B1 rfl (fun ht=>?_) (fun ht=>?_)
  ·refine k2 (A3 (A6 (B0 A0) A0 (G3 A0 A0 A0 A0 (A6 (D7 (c:=F2) (ys:=[st.Next]) (G6 A0 A0 A0 A0 I0) A0 A0 A0) A0 (A7 A0 A0 (A5 ?_))))));refine k1 (k10 (k12 (k11 ?_)))
   exact B8 (rs:=[K9 [st.Next]]) (I1 rfl rfl rfl) (by unfold Z3;simp [h3,ht])
  ·refine k5 (k2 (A3 (A6 (H4 _ 1 F2) A0 (A5 ?_))));refine k1 (k10 ?_)
   exact B8 (rs:=[K9 []]) (I1 rfl rfl rfl) (by unfold Z3;simp [h3,ht])
 have h3:¬st.Kind=3:=A2 ht
 refine k5 (k2 (A3 (A6 (H4 _ 1 F2) A0 (A5 ?_))));refine k1 (k10 ?_)
 exact B8 (rs:=[K9 []]) (I1 rfl rfl rfl) (by unfold Z3;simp [h1,h2,h3])
set_option maxHeartbeats 1000000
theorem H79 (n:AL.Node) (h:0≤n.Min∧n.Min≤100∧(n.Max = -1∨n.Min≤n.Max∧n.Max≤100)):FnOk Tryz.prog 142 [D67 n] (fun rs=>rs=[H1 true]):=by
 refine FnOk.intro Tryz.func142 (by decide) A0 A0 A0 A0 ?_
 refine k2 (A3 (A6 (o5 A0 A0 A0) A0 (A7 A0 A0 (A5 ?_))));refine k1 (k2 (A3 (A6 (C3 A0) A0 (A6 (B3 A0 A0) A0 (A6 (V2 A0 A0) A0 (A4 A0 A0 (B5 A0 A0 A0 A0 (fun hg=>by rw [hg];exact C3 A0) ?_)))))));refine B5 A0 A0 A0 A0 (fun hg=>by rw [hg];exact B3 A0 A0) ?_;refine B5 A0 A0 A0 A0 (fun hg=>by rw [hg];exact B81 A0 A0) ?_;refine K7 A0 A0 ?_;refine A4 A0 A0 (B5 A0 A0 A0 A0 (fun hg=>by rw [hg];exact C3 A0) ?_);refine B5 A0 A0 A0 A0 (fun hg=>by rw [hg];exact B3 A0 A0) ?_;refine B5 A0 A0 A0 A0 (fun hg=>by rw [hg];exact H0 A0 A0) ?_;refine B5 A0 A0 A0 A0 (fun hg=>by rw [hg];exact C2 A0 A0) ?_;refine N0 A0 A0 A0 (.gd (.val _)) A0 (fun hg=>by obtain ⟨hg1,hg2⟩:=X5 hg;(try rw [hg1]);(try rw [hg2]);exact C3 A0) ?_;refine N0 A0 A0 A0 (.gd (.val _)) A0 (fun hg=>by obtain ⟨hg1,hg2⟩:=X5 hg;(try rw [hg1]);(try rw [hg2]);exact B3 A0 A0) ?_;refine N0 A0 A0 A0 (.gd (.val _)) A0 (fun hg=>by obtain ⟨hg1,hg2⟩:=X5 hg;(try rw [hg1]);(try rw [hg2]);exact C3 A0) ?_;refine N0 A0 A0 A0 (.gd (.val _)) A0 (fun hg=>by obtain ⟨hg1,hg2⟩:=X5 hg;(try rw [hg1]);(try rw [hg2]);exact B3 A0 A0) ?_;refine N0 A0 A0 A0 (.gd (.val _)) A0 (fun hg=>by obtain ⟨hg1,hg2⟩:=X5 hg;(try rw [hg1]);(try rw [hg2]);exact V2 A0 A0) ?_;refine N0 A0 A0 A0 (.gd (.val _)) A0 (fun hg=>by obtain ⟨hg1,hg2⟩:=X5 hg;(try rw [hg1]);(try rw [hg2]);exact C2 A0 A0) ?_;refine N0 A0 A0 A0 (.gd (.gd (.val _))) A0 (fun hg=>by obtain ⟨hg1,hg2,hg3⟩:=G62 hg;(try rw [hg1]);(try rw [hg2]);(try rw [hg3]);exact C3 A0) ?_;refine N0 A0 A0 A0 (.gd (.gd (.val _))) A0 (fun hg=>by obtain ⟨hg1,hg2,hg3⟩:=G62 hg;(try rw [hg1]);(try rw [hg2]);(try rw [hg3]);exact B3 A0 A0) ?_;refine N0 A0 A0 A0 (.gd (.gd (.val _))) A0 (fun hg=>by obtain ⟨hg1,hg2,hg3⟩:=G62 hg;(try rw [hg1]);(try rw [hg2]);(try rw [hg3]);exact B81 A0 A0) ?_;refine N0 A0 A0 A0 (.gd (.val _)) A0 (fun hg=>by obtain ⟨hg1,hg2⟩:=X5 hg;(try rw [hg1]);(try rw [hg2]);exact L8 A0 (fun h=>by first | rfl | (rw [h];rfl)) (fun h=>by first | rfl | (rw [h];rfl))) ?_;refine B5 A0 A0 A0 A0 (fun hg=>by rw [hg];exact L8 A0 (fun h=>by first | rfl | (rw [h];rfl)) (fun h=>by first | rfl | (rw [h];rfl))) ?_;refine K7 A0 A0 ?_;refine A7 A0 A0 (A5 ?_);refine k1 (k10 (B8 (I1 A0 A0 A0) ?_))
 simp only [and_pick,or_pick]
 rw [decide_eq_true (by omega)]
theorem B56 {n:AL.Node} {i:Int} (h:A70 n i=true):(∀k∈n.Kids,0≤k∧k < i)∧((n.Kind=0∨n.Kind=1∨n.Kind=2∨n.Kind=3)∧n.Kids.length=0∨(n.Kind=4∨n.Kind=5)∧2≤n.Kids.length∨n.Kind=6∧n.Kids.length=1∧0≤n.Min∧n.Min≤100∧(n.Max = -1∨n.Min≤n.Max∧n.Max≤100)):=by
 unfold A70 at h
 rw [L02,List.all_eq_true] at h
 refine ⟨fun k hk=>A1 (h.1 k hk),?_⟩
 have h2:=h.2
 split at h2
 ·rename_i hk;exact .inl ⟨hk,A1 h2⟩
 ·split at h2
  ·rename_i hk;exact .inr (.inl ⟨hk,A1 h2⟩)
  ·split at h2
   ·rename_i hk;exact .inr (.inr ⟨hk,A1 h2⟩)
   ·cases h2
theorem A53 {L:List AL.Node} (h:B25 L=0):1≤L.length∧L.length≤4000∧∀(i:Nat) n,L[i]?=some n→A70 n i=true:=by
 unfold B25 at h
 split at h
 ·cases h
 ·split at h
  ·rename_i h1 h2
   refine ⟨by omega,by omega,fun i n hn=>?_⟩
   have h3:=List.all_eq_true.1 h2 i (List.mem_range.2 (List.getElem?_eq_some_iff.1 hn).1)
   rwa [L07,hn] at h3
  ·cases h
theorem K45 (n:AL.Node) (i:Int) (hf:A70 n i=true) (hlen:n.Kids.length≤4000):FnOk Tryz.prog 119 [D67 n,E2 i] (fun rs=>rs=[H1 true]):=by
 obtain ⟨hk,hX⟩:=B56 hf
 refine FnOk.intro Tryz.func119 (by decide) A0 A0 A0 A0 ?_
 refine k2 (A3 (A6 (o5 A0 A0 A0) A0 (A7 A0 A0 (A5 ?_))));refine k1 (k2 (k2 (A3 (A6 (C3 A0) A0 (A6 (B3 A0 A0) A0 (F4 A0 A0 (A4 A0 A0 (A5 ?_))))))));refine k1 (k3 (D2 (X:=Nat) (fun j=>([(1,C7 i),(2,.s (.one (.eref Unit 8 (fun _ j=>(cellsOf A68 n 0 8).getD j (.v undef)) () 0))),(8,D6 Int 1 F2 n.Kids),(9,C7 n.Kids.length),(10,C7 j)],[])) (fun j=>j≤n.Kids.length) (fun j=>n.Kids.length - j) 0 (Nat.zero_le _) (Sees.of ⟨le1 rfl,le1 rfl,le1 rfl,le1 rfl,le1 rfl,trivial⟩ trivial) ?_))
 intro j hj
 dsimp only at hj ⊢
 refine k2 (A3 (F7 A0 A0 A0 (A5 ?_)));refine k1 (k2 ?_);refine B1 rfl (fun ht=>?_) (fun ht=>?_)
 ·have hlt:j < n.Kids.length:=by have:=A1 ht;omega
  have hv:=getI hlt
  have hkj:=hk _ (L14 hv)
  refine k5 (k1 (k2 (k3 (k2 (A3 (A6 (B6 A0 (.pure _ _ _ _) A0 (by omega) hv) A0 (A6 (B3 A0 A0) A0 (A7 A0 A0 (A5 ?_)))))))));refine k1 (k2 (A3 (A4 A0 A0 (F7 A0 A0 A0 (A4 A0 A0 (B5 A0 A0 A0 A0 (fun hg=>by rw [hg];exact C2 A0 A0) ?_))))));refine B5 A0 A0 A0 A0 (fun hg=>by rw [hg];exact C2 A0 A0) ?_;refine B5 A0 A0 A0 A0 (fun hg=>by rw [hg];exact V2 A0 A0) ?_;refine K7 A0 A0 ?_;refine A5 ?_;refine k1 ?_;refine B1 rfl (fun ht=>?_) (fun ht=>?_)
  ·simp only [or_pick] at ht
   have:=A1 ht
   omega
  refine k5 (k4 (k1 (A3 (E3 A0 A0 A0 (A4 A0 A0 (A5 ?_))))));refine k1 ?_
  exact ⟨j+1,by omega,by omega,Sees.of ⟨le1 rfl,le1 rfl,le1 rfl,le1 rfl,le1 rfl,trivial⟩ trivial⟩
 refine k6 (k2 (k2 (A3 (A6 (C3 A0) A0 (A6 (B3 A0 A0) A0 (A5 ?_))))));refine k1 (k3 (k2 (k2 (A3 (A6 (H0 A0 A0) A0 (A7 A0 A0 (A5 ?_)))))));refine k1 ?_;refine B1 rfl (fun ht=>?_) (fun ht=>?_)
 ·have hK:=A1 ht
  have hT:decide ((n.Kids.length:Int)=0)=true:=decide_eq_true (by omega)
  refine k5 (k1 ?_);refine B1 rfl (fun ht=>?_) (fun ht=>?_)
  rotate_left
  ·exact absurd hK (A2 ht)
  refine k2 (A3 (A6 (C3 A0) A0 (A6 (B3 A0 A0) A0 (F4 A0 A0 (A6 (H0 A0 A0) A0 (A7 A0 A0 (A5 ?_)))))));refine k1 (k10 (k12 (k11 ?_)))
  exact B8 (I1 rfl rfl rfl) (by rw [hT])
 have hK0:=A2 ht
 refine k2 (A3 (A6 (H0 A0 A0) A0 (A7 A0 A0 (A5 ?_))));refine k1 ?_;refine B1 rfl (fun ht=>?_) (fun ht=>?_)
 ·have hK:=A1 ht
  have hT:decide ((n.Kids.length:Int)=0)=true:=decide_eq_true (by omega)
  refine k5 (k1 ?_);refine B1 rfl (fun ht=>?_) (fun ht=>?_)
  rotate_left
  ·exact absurd hK (A2 ht)
  refine k2 (A3 (A6 (C3 A0) A0 (A6 (B3 A0 A0) A0 (F4 A0 A0 (A6 (H0 A0 A0) A0 (A7 A0 A0 (A5 ?_)))))));refine k1 (k10 (k12 (k11 ?_)))
  exact B8 (I1 rfl rfl rfl) (by rw [hT])
 have hK1:=A2 ht
 refine k2 (A3 (A6 (H0 A0 A0) A0 (A7 A0 A0 (A5 ?_))));refine k1 ?_;refine B1 rfl (fun ht=>?_) (fun ht=>?_)
 ·have hK:=A1 ht
  have hT:decide ((n.Kids.length:Int)=0)=true:=decide_eq_true (by omega)
  refine k5 (k1 ?_);refine B1 rfl (fun ht=>?_) (fun ht=>?_)
  rotate_left
  ·exact absurd hK (A2 ht)
  refine k2 (A3 (A6 (C3 A0) A0 (A6 (B3 A0 A0) A0 (F4 A0 A0 (A6 (H0 A0 A0) A0 (A7 A0 A0 (A5 ?_)))))));refine k1 (k10 (k12 (k11 ?_)))
  exact B8 (I1 rfl rfl rfl) (by rw [hT])
 have hK2:=A2 ht
 skip
 refine A3 (A6 (H0 A0 A0) A0 (A7 A0 A0 (A5 ?_)));refine k1 ?_;refine B1 rfl (fun ht=>?_) (fun ht=>?_)
 ·have hK:=A1 ht
  have hT:decide ((n.Kids.length:Int)=0)=true:=decide_eq_true (by omega)
  refine k2 (A3 (A6 (C3 A0) A0 (A6 (B3 A0 A0) A0 (F4 A0 A0 (A6 (H0 A0 A0) A0 (A7 A0 A0 (A5 ?_)))))));refine k1 (k10 (k12 (k11 ?_)))
  exact B8 (I1 rfl rfl rfl) (by rw [hT])
 have hK3:=A2 ht
 refine k2 (k2 (A3 (A6 (H0 A0 A0) A0 (A7 A0 A0 (A5 ?_)))));refine k1 ?_;refine B1 rfl (fun ht=>?_) (fun ht=>?_)
 ·have hK:=A1 ht
  have hT:decide ((n.Kids.length:Int)≥2)=true:=decide_eq_true (by omega)
  refine k5 (k1 ?_);refine B1 rfl (fun ht=>?_) (fun ht=>?_)
  rotate_left
  ·exact absurd hK (A2 ht)
  refine k2 (A3 (A6 (C3 A0) A0 (A6 (B3 A0 A0) A0 (F4 A0 A0 (A6 (V2 A0 A0) A0 (A7 A0 A0 (A5 ?_)))))));refine k1 (k10 (k12 (k11 ?_)))
  exact B8 (I1 rfl rfl rfl) (by rw [hT])
 have hK4:=A2 ht
 skip
 refine A3 (A6 (H0 A0 A0) A0 (A7 A0 A0 (A5 ?_)));refine k1 ?_;refine B1 rfl (fun ht=>?_) (fun ht=>?_)
 ·have hK:=A1 ht
  have hT:decide ((n.Kids.length:Int)≥2)=true:=decide_eq_true (by omega)
  refine k2 (A3 (A6 (C3 A0) A0 (A6 (B3 A0 A0) A0 (F4 A0 A0 (A6 (V2 A0 A0) A0 (A7 A0 A0 (A5 ?_)))))));refine k1 (k10 (k12 (k11 ?_)))
  exact B8 (I1 rfl rfl rfl) (by rw [hT])
 have hK5:=A2 ht
 refine k2 (A3 (A6 (H0 A0 A0) A0 (A7 A0 A0 (A5 ?_))));refine k1 ?_;refine B1 rfl (fun ht=>?_) (fun ht=>?_)
 ·have hK:=A1 ht
  have hd1:decide ((n.Kids.length:Int)=1)=true:=decide_eq_true (by omega)
  refine k2 (A3 (A6 (C3 A0) A0 (A6 (B3 A0 A0) A0 (F4 A0 A0 (A6 (H0 A0 A0) A0 (A4 A0 A0 (G9 A0 A0 A0 hd1 (A6 (E1 A0 A0) A0 (G9 A0 A0 A0 hd1 (C9 (H79 n (by omega)) A0 A0 A0 ?_))))))))));rintro _ rfl;refine A6 (S9 A0 (hd1) A0) A0 (A7 A0 A0 (A5 ?_));refine k1 (k10 (k12 (k11 ?_)))
  exact B8 (I1 rfl rfl rfl) rfl
 have hK6:=A2 ht
 exfalso
 omega
theorem I68 (L:List AL.Node) (hc:B25 L=0) (hkl:∀n∈L,n.Kids.length≤4000):FnOk Tryz.prog 82 [j2 L] (fun rs=>rs=[E2 0]):=by
 obtain ⟨hl1,hl2,hk⟩:=A53 hc
 refine FnOk.intro Tryz.func82 (by decide) A0 A0 A0 A0 ?_
 refine k2 (A3 (A7 A0 A0 (A5 ?_)));refine k1 (k2 (k2 (A3 (A4 A0 A0 (F4 A0 A0 (A6 (H0 A0 A0) A0 (A4 A0 A0 (B5 A0 A0 A0 A0 (fun hg=>by rw [hg];exact C2 A0 A0) ?_))))))));refine B5 A0 A0 A0 A0 (fun hg=>by rw [hg];exact r5 A0 (.pure _ _ _ _)) ?_;refine B5 A0 A0 A0 A0 (fun hg=>by rw [hg];exact O1 A0 A0) ?_;refine K7 A0 A0 ?_;refine A5 ?_;refine k1 ?_;refine B1 rfl (fun ht=>?_) (fun ht=>?_)
 ·simp only [or_pick] at ht
  have:=A1 ht
  omega
 refine k5 (k1 (k2 (k2 (A3 (A4 A0 A0 (F4 A0 A0 (A4 A0 A0 (A5 ?_))))))));refine k1 (k3 (D2 (X:=Nat) (fun i=>([(13,.s (j2 L).s1),(14,C7 L.length),(15,C7 i)],[])) (fun i=>i≤L.length) (fun i=>L.length - i) 0 (Nat.zero_le _) (Sees.of ⟨le1 rfl,le1 rfl,le1 rfl,trivial⟩ trivial) ?_))
 intro i hi
 dsimp only at hi ⊢
 refine k2 (A3 (F7 A0 A0 A0 (A5 ?_)));refine k1 (k2 ?_);refine B1 rfl (fun ht=>?_) (fun ht=>?_)
 ·have hlt:i < L.length:=by have:=A1 ht;omega
  obtain ⟨n,hn⟩:∃n,n=L[i]:=⟨_,rfl⟩
  have hv:L[i]?=some n:=by rw [hn];simp [hlt]
  have hkk:=hk i n hv
  refine k5 (k1 (k2 (k3 (k2 (A3 (A4 A0 A0 (A6 (B6 A0 (.pure _ _ _ _) A0 (by omega) hv) A0 (A6 (E1 A0 A0) A0 (D1 (J1 4 A0) A0 (A7 A0 A0 (G1 (B9 TySz.out A0 A0 A0 A0 A0 A0) (A5 ?_))))))))))));refine k1 (k2 (A3 (A6 (J5 A0 A0 A0) A0 (A4 A0 A0 (C9 (K45 n i hkk (hkl n (L14 hv))) A0 A0 A0 ?_)))));rintro _ rfl;refine A6 (S2 A0) A0 (A5 ?_);refine k1 ?_;refine B1 rfl (fun ht=>?_) (fun ht=>?_)
  ·cases ht
  refine k5 (k4 (k1 (A3 (E3 A0 A0 A0 (A4 A0 A0 (A5 ?_))))));refine k1 ?_
  exact ⟨i+1,by omega,by omega,Sees.of ⟨le1 rfl,le1 rfl,le1 rfl,trivial⟩ trivial⟩
 refine k6 (k2 (A3 (A7 A0 A0 (A5 ?_))));refine k1 (k10 ?_)
 exact B8 (rs:=[E2 0]) (I1 rfl rfl rfl) rfl
theorem J40 (w:List Int) (hw:∀v∈w,0≤v∧v≤4001) (k:Int):0≤atG w k.toNat∧atG w k.toNat≤4001:=by
 unfold atG
 cases h:w[k.toNat]? with
 | none=>simp
 | some v=>exact hw v (L14 h)
theorem I69 (n:AL.Node) (w:List Int) (i:Int) (hf:A70 n i=true) (hlen:n.Kids.length≤4000) (hi:i≤w.length) (hw:∀v∈w,0≤v∧v≤4001):FnOk Tryz.prog 83 [D67 n,K9 w] (fun rs=>rs=[E2 (B03 n w)]):=by
 obtain ⟨hk0,hX⟩:=B56 hf
 have hk:∀k∈n.Kids,0≤k∧k < w.length:=fun k hk=>by have:=hk0 k hk;omega
 refine FnOk.intro Tryz.func83 (by decide) A0 A0 A0 A0 ?_
 refine k2 (A3 (A6 (o5 A0 A0 A0) A0 (A7 A0 A0 (A5 ?_))));refine k1 (k2 (A3 (A7 A0 A0 (A5 ?_))));refine k1 (k2 (k2 (A3 (A6 (C3 A0) A0 (A6 (B3 A0 A0) A0 (F4 A0 A0 (A4 A0 A0 (A5 ?_))))))));refine k1 (k3 (D2 (X:=Nat × Int) (fun x=>([(1,D6 Int 1 F2 w),(2,.s (.one (.eref Unit 8 (fun _ j=>(cellsOf A68 n 0 8).getD j (.v undef)) () 0))),(5,C7 x.2),(9,D6 Int 1 F2 n.Kids),(10,C7 n.Kids.length),(11,C7 x.1)],[])) (fun x=>x.1≤n.Kids.length∧0≤x.2∧x.2≤4001∧H28 w x.2 (n.Kids.drop x.1)=H28 w 0 n.Kids) (fun x=>n.Kids.length - x.1) (0,0) ⟨Nat.zero_le _,by decide,by decide,rfl⟩ (Sees.of ⟨le1 rfl,le1 rfl,le1 rfl,le1 rfl,le1 rfl,le1 rfl,trivial⟩ trivial) ?_))
 rintro ⟨j,acc⟩ ⟨hj,h0,h1,hs⟩
 dsimp only at hj h0 h1 hs ⊢
 refine k2 (A3 (F7 A0 A0 A0 (A5 ?_)));refine k1 (k2 ?_);refine B1 rfl (fun ht=>?_) (fun ht=>?_)
 ·have hlt:j < n.Kids.length:=by have:=A1 ht;omega
  obtain ⟨k,hkd⟩:∃k,k=n.Kids[j]:=⟨_,rfl⟩
  have hv:n.Kids[j]?=some k:=by rw [hkd];simp [hlt]
  have hkk:=hk k (L14 hv)
  have hb:=J40 w hw k
  have hvw:w[k.toNat]?=some (atG w k.toNat):=by
   unfold atG
   rw [L01 (by omega)];rfl
  rw [L11 hlt,←hkd,H28] at hs
  refine k5 (k1 (k2 (k3 (k2 (A3 (A6 (B6 A0 (.pure _ _ _ _) A0 (by omega) hv) A0 (A6 (B3 A0 A0) A0 (A7 A0 A0 (A5 ?_)))))))));refine k1 (A3 (A4 A0 A0 (A4 A0 A0 (A4 A0 A0 (A6 (B6 A0 (.pure _ _ _ _) A0 (by omega) hvw) A0 (A6 (B3 A0 A0) A0 (E3 A0 A0 A0 (A6 (E85 A0 A0) A0 (A7 A0 A0 (A5 ?_))))))))));refine k4 (k1 (A3 (E3 A0 A0 A0 (A4 A0 A0 (A5 ?_)))));refine k1 ?_
  exact ⟨(j+1,B02 (acc+atG w k.toNat) 4001),⟨by dsimp only;omega,by dsimp only [B02];split<;>omega,by dsimp only [B02];split<;>omega,hs⟩,by dsimp only;omega,Sees.of ⟨le1 rfl,le1 rfl,le1 rfl,le1 rfl,le1 rfl,le1 rfl,trivial⟩ trivial⟩
 have hjl:j=n.Kids.length:=by have:=A2 ht;omega
 have hs:acc=H28 w 0 n.Kids:=by
  rw [hjl,List.drop_length] at hs
  exact hs
 have hW:B03 n w=if n.Kind=4 then acc else if n.Kind=5 then B02 (acc+n.Kids.length - 1) 4001 else if n.Kind=6 then (if n.Max < 0 then B02 (n.Min*acc+acc+1) 4001 else B02 (n.Min*acc+(n.Max - n.Min)*(acc+1)) 4001) else 1:=by
  rw [hs];rfl
 refine k6 (k2 (k2 (A3 (A6 (C3 A0) A0 (A6 (B3 A0 A0) A0 (A5 ?_))))));refine k1 (k3 (k2 (A3 (A6 (H0 A0 A0) A0 (A7 A0 A0 (A5 ?_))))));refine k1 ?_;refine B1 rfl (fun ht=>?_) (fun ht=>?_)
 ·have hK:n.Kind=4:=A1 ht
  refine k2 (A3 (A4 A0 A0 (A7 A0 A0 (A5 ?_))));refine k1 (k10 (k12 (k11 ?_)))
  exact B8 (rs:=[E2 acc]) (I1 rfl rfl rfl) (by rw [hW,if_pos hK])
 have hK4:¬n.Kind=4:=A2 ht
 refine k2 (A3 (A6 (H0 A0 A0) A0 (A7 A0 A0 (A5 ?_))));refine k1 ?_;refine B1 rfl (fun ht=>?_) (fun ht=>?_)
 ·have hK:n.Kind=5:=A1 ht
  refine k2 (A3 (A4 A0 A0 (A6 (C3 A0) A0 (A6 (B3 A0 A0) A0 (F4 A0 A0 (E3 A0 A0 A0 (A6 (N1 A0 A0 (by omega)) A0 (A6 (E85 A0 A0) A0 (A7 A0 A0 (A5 ?_))))))))));refine k1 (k10 (k12 (k11 ?_)))
  exact B8 (I1 rfl rfl rfl) (by rw [hW,if_neg hK4,if_pos hK];rfl)
 have hK5:¬n.Kind=5:=A2 ht
 refine k2 (A3 (A6 (H0 A0 A0) A0 (A7 A0 A0 (A5 ?_))));refine k1 ?_;refine B1 rfl (fun ht=>?_) (fun ht=>?_)
 ·have hK:n.Kind=6:=A1 ht
  have hm1:0≤n.Min*acc:=Int.mul_nonneg (by omega) (by omega)
  have hm2:n.Min*acc≤100*4001:=Int.mul_le_mul (by omega) (by omega) (by omega) (by omega)
  refine k2 (k2 (A3 (A6 (C3 A0) A0 (A6 (B3 A0 A0) A0 (F7 A0 A0 A0 (A5 ?_))))));refine k1 ?_;refine B1 rfl (fun ht=>?_) (fun ht=>?_)
  ·have hM:n.Max < 0:=A1 ht
   refine k2 (A3 (A6 (C3 A0) A0 (A6 (B3 A0 A0) A0 (A4 A0 A0 (A6 (B80 A0 A0 (by ((try dsimp only);omega))) A0 ?_)))));refine A4 A0 A0 (A6 (l6 A0 A0 (by ((try dsimp only);omega))) A0 ?_);refine A6 (l6 A0 A0 (by ((try dsimp only);omega))) A0 ?_;refine A6 (E85 A0 A0) A0 (A7 A0 A0 (A5 ?_));refine k1 (k10 (k11 (k12 (k11 ?_))))
   exact B8 (I1 rfl rfl rfl) (by rw [hW,if_neg hK4,if_neg hK5,if_pos hK,if_pos hM];rfl)
  ·have hM:¬n.Max < 0:=A2 ht
   have hm3:0≤(n.Max - n.Min)*(acc+1):=Int.mul_nonneg (by omega) (by omega)
   have hm4:(n.Max - n.Min)*(acc+1)≤100*4002:=Int.mul_le_mul (by omega) (by omega) (by omega) (by omega)
   refine k5 (k1 (k2 (A3 (A6 (C3 A0) A0 (A6 (B3 A0 A0) A0 (A4 A0 A0 (A6 (B80 A0 A0 (by ((try dsimp only);omega))) A0 ?_)))))));refine A6 (C3 A0) A0 (A6 (B3 A0 A0) A0 (A6 (C3 A0) A0 (A6 (B3 A0 A0) A0 (A6 (N1 A0 A0 (by ((try dsimp only);omega))) A0 ?_))));refine A4 A0 A0 (A6 (l6 A0 A0 (by ((try dsimp only);omega))) A0 ?_);refine A6 (B80 A0 A0 (by ((try dsimp only);omega))) A0 ?_;refine A6 (l6 A0 A0 (by ((try dsimp only);omega))) A0 ?_;refine A6 (E85 A0 A0) A0 (A7 A0 A0 (A5 ?_));refine k1 (k10 (k12 (k11 ?_)))
   exact B8 (I1 rfl rfl rfl) (by rw [hW,if_neg hK4,if_neg hK5,if_pos hK,if_neg hM];rfl)
 have hK6:¬n.Kind=6:=A2 ht
 refine k5 (k2 (A3 (A7 A0 A0 (A5 ?_))));refine k1 (k10 ?_)
 exact B8 (rs:=[E2 1]) (I1 rfl rfl rfl) (by rw [hW,if_neg hK4,if_neg hK5,if_neg hK6])
def wtU (L:List AL.Node) (i:Nat):List Int:=Y0 (L.take i) 0 (List.replicate L.length 0)
theorem C74:∀(l:List AL.Node) (i:Nat) (w:List Int),(Y0 l i w).length=w.length
 | [],_,_=>rfl
 | n::r,i,w=>by rw [Y0,C74 r,L26]
theorem C12:∀(l:List AL.Node) (n:AL.Node) (i:Nat) (w:List Int),Y0 (l++[n]) i w=(Y0 l i w).set (i+l.length) (B03 n (Y0 l i w))
 | [],n,i,w=>rfl
 | x::r,n,i,w=>by
  rw [L25,Y0,C12 r,Y0,L04,show i+1+r.length=i+(r.length+1) by omega]
theorem H80 {L:List AL.Node} {i:Nat} {n:AL.Node} (h:L[i]?=some n):wtU L (i+1)=(wtU L i).set i (B03 n (wtU L i)):=by
 have hlt:=(List.getElem?_eq_some_iff.1 h).1
 unfold wtU
 rw [List.take_add_one,h,Option.toList_some,C12,L10,Nat.zero_add,Nat.min_eq_left (by omega)]
theorem G86 (L:List AL.Node) (i:Nat):(wtU L i).length=L.length:=by unfold wtU;rw [C74,L24]
theorem G87 (L:List AL.Node):wtU L L.length=Y1 L:=by unfold wtU Y1;rw [L08]
theorem J41 (w:List Int) (hw:∀v∈w,0≤v∧v≤4001):∀(ks:List Int) (acc:Int),0≤acc∧acc≤4001→0≤H28 w acc ks∧H28 w acc ks≤4001
 | [],_,h=>h
 | k::r,acc,h=>by
  have:=J40 w hw k
  exact J41 w hw r _ (by unfold B02;split<;>omega)
theorem I70 {n:AL.Node} {i:Int} (hf:A70 n i=true) {w:List Int} (hw:∀v∈w,0≤v∧v≤4001):0≤B03 n w∧B03 n w≤4001:=by
 obtain ⟨_,hX⟩:=B56 hf
 obtain ⟨h1,h2⟩:=J41 w hw n.Kids 0 (by decide)
 have cap:∀a:Int,0≤a→0≤B02 a 4001∧B02 a 4001≤4001:=fun a ha=>by unfold B02;split<;>omega
 unfold B03
 obtain ⟨s,hs⟩:∃s,s=H28 w 0 n.Kids:=⟨_,rfl⟩
 rw [←hs] at h1 h2
 rw [←hs]
 dsimp only
 split
 ·exact ⟨h1,h2⟩
 split
 ·exact cap _ (by omega)
 split
 ·rename_i h6
  have hm1:0≤n.Min*s:=Int.mul_nonneg (by omega) h1
  split
  ·exact cap _ (by omega)
  ·have hm3:0≤(n.Max - n.Min)*(s+1):=Int.mul_nonneg (by omega) (by omega)
   exact cap _ (by omega)
 ·decide
theorem I71 {L:List AL.Node} (hk:∀(i:Nat) n,L[i]?=some n→A70 n i=true):∀i,i≤L.length→∀v∈wtU L i,0≤v∧v≤4001
 | 0,_,v,hv=>by
  unfold wtU at hv
  rw [List.take_zero,Y0] at hv
  rw [(List.mem_replicate.1 hv).2];decide
 | i+1,hi,v,hv=>by
  have hn:L[i]?=some L[i]:=L01 (by omega)
  rw [H80 hn] at hv
  rcases List.mem_or_eq_of_mem_set hv with h | rfl
  ·exact I71 hk i (by omega) v h
  ·exact I70 (hk i _ hn) (I71 hk i (by omega))
theorem E25 (L:List AL.Node) (hc:B25 L=0) (hkl:∀n∈L,n.Kids.length≤4000):FnOk Tryz.prog 54 [j2 L] (fun rs=>rs=[K9 (Y1 L)]):=by
 obtain ⟨hl1,hl2,hk⟩:=A53 hc
 refine FnOk.intro Tryz.func54 (by decide) A0 A0 A0 A0 ?_
 refine k2 (A3 (A7 A0 A0 (A5 ?_)));refine k1 (k2 (A3 (A4 A0 A0 (F4 A0 A0 (D1 (A00 764 Int F2 0 A0 A0 (by omega) (by omega) (fun _=>by first | exact ⟨⟨rfl,rfl⟩,trivial⟩ | exact ⟨I4 _ _ _,trivial⟩ | exact ⟨I4 _ _ _,⟨rfl,rfl⟩,I4 _ _ _,trivial⟩) (by first | rfl | (simp [K4,L0,Ob.free,SV.free,S1.free,TC.free]<;>rfl))) A0 ?_)))));refine A7 A0 A0 (A5 ?_);refine k1 (k2 (k2 (A3 (A4 A0 A0 (F4 A0 A0 (A4 A0 A0 (A5 ?_)))))));refine k1 (k3 ?_);refine D2 (X:=Nat) (fun i=>([(3,.s (.one (.mut 764))),(9,.s (j2 L).s1),(10,C7 L.length),(11,C7 i)],[(764,.arr Int 1 F2 (wtU L i))])) (fun i=>i≤L.length) (fun i=>L.length - i) 0 (Nat.zero_le _) ?_ ?_
 ·rw [show wtU L 0=List.replicate ((L.length:Nat):Int).toNat 0 by rw [L03];rfl]
  exact Sees.of ⟨le1 rfl,le1 rfl,le1 rfl,le1 rfl,trivial⟩ ⟨rfl,trivial⟩
 intro i hi
 dsimp only at hi ⊢
 have h5:=G86 L i
 have hb:=I71 hk i hi
 refine k2 (A3 (F7 A0 A0 A0 (A5 ?_)));refine k1 (k2 ?_);refine B1 rfl (fun ht=>?_) (fun ht=>?_)
 ·have hlt:i < L.length:=by have:=A1 ht;omega
  obtain ⟨n,hn⟩:∃n,n=L[i]:=⟨_,rfl⟩
  have hv:L[i]?=some n:=by rw [hn];simp [hlt]
  have hvw:(wtU L i)[i]?=some ((wtU L i)[i]'(by omega)):=L01 (by omega)
  refine k5 (k1 (k2 (k3 (k2 (A3 (A4 A0 A0 (A6 (B6 A0 (.pure _ _ _ _) A0 (by omega) hv) A0 (A6 (E1 A0 A0) A0 (D1 (J1 5 A0) A0 (A7 A0 A0 (G1 (B9 TySz.out A0 A0 A0 A0 A0 A0) (A5 ?_))))))))))));refine k1 (A3 (A4 A0 A0 (A4 A0 A0 (A6 (J5 A0 A0 A0) A0 (A4 A0 A0 (K32 (Sees.freeze (k:=764) A0) (I69 n (wtU L i) i (hk i n hv) (hkl n (L14 hv)) (by omega) hb) A0 A0 A0 ?_))))));rintro _ rfl;refine ⟨fun _ _ _ h=>h,?_⟩;refine A6 (F9 A0 A0 A0 (by omega) (by omega)) A0 (G1 (L3 TySz.out A0 A0 (by simp;omega) A0 A0) (A5 ?_))
  rw [L03,←H80 hv]
  refine k4 (k1 (A3 (E3 A0 A0 A0 (A4 A0 A0 (A5 ?_)))));refine k1 ?_
  exact ⟨i+1,by omega,by omega,Sees.of ⟨le1 rfl,le1 rfl,le1 rfl,le1 rfl,trivial⟩ ⟨rfl,trivial⟩⟩
 have hie:i=L.length:=by have:=A2 ht;omega
 rw [hie,G87]
 refine D3 (Sees.freeze (k:=764) A0) ?_
 refine k6 (k2 (A3 (A4 A0 A0 (A7 A0 A0 (A5 ?_)))));refine k1 (k10 ?_)
 exact B8 (rs:=[K9 (Y1 L)]) (I1 rfl rfl rfl) rfl
def G88 (L:List AL.Node):Int:=atG (Y1 L) (L.length - 1)
theorem E26 (L:List AL.Node) (hc:B25 L=0) (hkl:∀n∈L,n.Kids.length≤4000):FnOk Tryz.prog 53 [j2 L] (fun rs=>rs=[E2 (G88 L),E2 0]):=by
 obtain ⟨hl1,hl2,hk⟩:=A53 hc
 have hwl:(Y1 L).length=L.length:=by rw [←G87];exact G86 L _
 refine FnOk.intro Tryz.func53 (by decide) A0 A0 A0 A0 ?_
 refine k2 (A3 (A7 A0 A0 (A7 A0 A0 (A5 ?_))));refine k1 (k2 (k2 (A3 (A4 A0 A0 (C9 (I68 L hc hkl) A0 A0 A0 ?_)))));rintro _ rfl;refine A7 A0 A0 (A5 ?_);refine k1 (k2 (A3 (A4 A0 A0 (A6 (O2 A0 A0) A0 (A5 ?_)))));refine k1 ?_;refine B1 rfl (fun ht=>?_) (fun ht=>?_)
 ·cases ht
 refine k5 (k1 (k2 ?_))
 have hv:(Y1 L)[((L.length:Int) - 1).toNat]?=some (G88 L):=by
  rw [show ((L.length:Int) - 1).toNat=L.length - 1 by omega,G88,atG,L01 (by omega)];rfl
 refine A3 (A4 A0 A0 (C9 (E25 L hc hkl) A0 A0 A0 ?_));rintro _ rfl;refine A4 A0 A0 (F4 A0 A0 (A6 (N1 A0 A0 (by omega)) A0 (A6 (B6 A0 (.pure _ _ _ _) A0 (by omega) hv) A0 (A6 (B3 A0 A0) A0 (A7 A0 A0 (A7 A0 A0 (A5 ?_)))))));refine k1 (k10 ?_)
 exact B8 (rs:=[E2 (G88 L),E2 0]) (a6 rfl rfl rfl rfl rfl) rfl
set_option maxHeartbeats 1000000
abbrev pat4:Str:=[94,97,43,36]
abbrev ndS:AL.Node:=⟨2,⟨0,0,0,0⟩,0,0,[]⟩
abbrev ndA:AL.Node:=⟨1,⟨0,8589934592,0,0⟩,0,0,[]⟩
abbrev ndR:AL.Node:=⟨6,⟨0,0,0,0⟩,1,-1,[1]⟩
abbrev ndE:AL.Node:=⟨3,⟨0,0,0,0⟩,0,0,[]⟩
abbrev ndC:AL.Node:=⟨4,⟨0,0,0,0⟩,0,0,[0,2,3]⟩
def atI:Nat→Nat
 | 0=>0
 | 1=>1
 | 2=>3
 | _=>4
theorem F15 (k q:Nat) (o:Ob):(o.forget q).forget k=(o.forget k).forget q:=by
 cases o with
 | box l=>simp only [Ob.forget,L38];congr 1;exact List.map_congr_left fun t _=>TC.forget_comm k q t
 | tbx e l=>simp only [Ob.forget,L38];congr 1;exact List.map_congr_left fun t _=>TC.forget_comm k q t
 | tarr n m l=>simp only [Ob.forget,L38];congr 1;exact List.map_congr_left fun t _=>TC.forget_comm k q t
 | growT e n m l=>simp only [Ob.forget,L38];congr 1;exact List.map_congr_left fun t _=>TC.forget_comm k q t
 | growA e α ec c xs p l=>simp only [Ob.forget,L38];congr 1;exact List.map_congr_left fun t _=>TC.forget_comm k q t
 | _=>rfl
theorem E59 (k q:Nat) (ob:Obs):Obs.forget k (Obs.forget q ob)=Obs.forget q (Obs.forget k ob):=by
 simp only [Obs.forget,L38,Function.comp_def,F15 k q]
set_option maxHeartbeats 1000000
theorem H81:IdleFn Tryz.prog 51 2:=by
 intro vs w hl
 obtain ⟨x,y,rfl⟩:∃x y,vs=[x,y]:=by
  match vs,hl with
  | [x,y],_=>exact ⟨x,y,rfl⟩
 refine ⟨M4 ⟨_,rfl,rfl,rfl⟩,?_⟩
 have hta:(Instr.typeAssert .nilIface 20 30 true).run Tryz.prog w=.ok (.tuple #[.int .i64 0,.bool false]) w:=by
  simp only [Instr.typeAssert]
  rfl
 refine callsDIn_of_wpSIn Tryz.func51 rfl trivial fun c₀ cs hu=>?_
 simp only [Tryz.ntmps51,List.size_toArray,L04,L09,Nat.reduceAdd,Nat.reduceSub,Array.replicate_succ,Array.replicate_zero,List.push_toArray,List.append_toArray,L37,L25]
 apply wpSIn_seq
 apply wpSIn_region
 simp [wpOpsSIn,go_sem,recoverD,hu,Exit.thenS,hta]
 apply wpSIn_seq
 apply wpSIn_region
 simp [wpOpsSIn,go_sem,Exit.thenS]
 refine wpSIn_cond (t:=false) (by simp [Act.eval]) ?_
 simp only [Bool.false_eq_true,if_false]
 refine wpSIn_of_wpIn rfl (wpIn_skip ?_)
 cases c₀
 simp_all [bodyPostS,results,Tryz.results51]
theorem E66 {P:Program} {fr:Fr} {ob:Obs} {S:Ctx} {G:Gh} {a:Act} {w:World} (h:Sim P S fr ob G a w) {t:Tmp} {k:Nat} {tt:TypeId} {ts:List TC} {c:Cell} [hty:TyOne P tt] (ht:c9 fr t=some (.s (.one (.ref k 0)))) (hk:C1 ob k=some (.box ts)) (h0:ts[0]?=some (.p c)) :
  ∃b z,a.tmps.getD t undef=.pointer (some ⟨b,0,none⟩)∧(loadVar tt ⟨b,0,none⟩).run P w=.ok z w∧(PV.one c).rep (F0 (Mut S ob G) w) z:=by
 obtain ⟨b,hg,hu⟩:=h.slot ht
 obtain ⟨b',vs,tt',hg',hh,ha⟩:=h.box hk
 rw [hg] at hg';cases hg'
 obtain ⟨z,hz1,hz2⟩:=ha.get 0 _ h0
 exact ⟨b,z,hu,U8 (ht:=hty) (O6 hh (by simpa using hz1)),hz2⟩
theorem retcc {P:Program} {fn:Func} {fr:Fr} {ob:Obs} {t t':Tmp} {k k':Nat} {tt tt':TypeId} {ts ts':List TC} {c c':Cell} [TyOne P tt] [TyOne P tt'] (hr:fn.results=#[.cell t tt,.cell t' tt']) (ht:c9 fr t=some (.s (.one (.ref k 0)))) (hk:C1 ob k=some (.box ts)) (h0:ts[0]?=some (.p c))
  (ht':c9 fr t'=some (.s (.one (.ref k' 0)))) (hk':C1 ob k'=some (.box ts')) (h0':ts'[0]?=some (.p c')):RetOk P fn fr ob [.one c,.one c']:=by
 unfold RetOk
 intro S G a w h
 obtain ⟨b,z,h1,h2,h3⟩:=E66 h (tt:=tt) ht hk h0
 obtain ⟨b',z',h1',h2',h3'⟩:=E66 h (tt:=tt') ht' hk' h0'
 rw [Array.getD_eq_getD_getElem?] at h1 h1'
 exact ⟨_,by simp [results,hr,h1,h1',asAddr,h2,h2'],[_,_],rfl,h3,h3',trivial⟩
abbrev G89:List AL.Node:=[ndS,ndA,ndR,ndE,ndC]
set_option maxHeartbeats 1000000
set_option maxHeartbeats 1000000
theorem five {p:Nat→Prop} (h0:p 0) (h1:p 1) (h2:p 2) (h3:p 3) (h4:p 4):∀i,i < 5→p i
 | 0,_=>h0
 | 1,_=>h1
 | 2,_=>h2
 | 3,_=>h3
 | 4,_=>h4
end Go.Proofs.YtjmoigcpoopjhaaGreatDoor
