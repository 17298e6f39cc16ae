/- An abstract logic for calls that make data and change none that was there. No project text. -/
import Derived.WalkKit
import Derived.Still
import Derived.Lib.AppendStr
import Derived.Lib.Builder
import Derived.Lib.UnsafeStr
import Derived.Lib.LaidTab
import Derived.Lib.ItoaNum
import Derived.RangeFuncLeaves
set_option linter.unusedSimpArgs false
namespace Go.AL
theorem A0 {α:Sort _} {a:α}:a=a:=rfl
theorem A1 {p:Prop} [Decidable p]:decide p=true→p:=of_decide_eq_true
theorem A2 {p:Prop} [Decidable p]:decide p=false→¬p:=of_decide_eq_false
abbrev L01:=@List.getElem?_eq_getElem
abbrev L02:=@Bool.and_eq_true
abbrev L03:=@Int.toNat_natCast
abbrev L04:=@List.length_cons
abbrev L05:=@List.getElem_mem
abbrev L06:=@List.length_append
abbrev L07:=@List.getD_eq_getElem?_getD
abbrev L08:=@List.take_length
abbrev L09:=@List.length_nil
abbrev L10:=@List.length_take
abbrev L11:=@List.drop_eq_getElem_cons
abbrev L12:=@List.length_drop
abbrev L13:=@Nat.mul_le_mul_right
abbrev L14:=@List.mem_of_getElem?
abbrev L15:=@List.append_assoc
abbrev L16:=@List.map_cons
abbrev L17:=@List.getElem?_append_right
abbrev L18:=@List.getElem?_eq_none
abbrev L19:=@List.getElem?_append_left
abbrev L20:=@Bool.or_eq_true
abbrev L21:=@List.drop_eq_nil_of_le
abbrev L22:=@Nat.add_mul
abbrev L23:=@List.mem_cons
abbrev L24:=@List.length_replicate
abbrev L25:=@List.cons_append
abbrev L26:=@List.length_set
abbrev L27:=@List.getElem?_take_of_lt
abbrev L28:=@List.getElem?_drop
abbrev L29:=@List.append_nil
abbrev L30:=@List.mem_append
abbrev L31:=@List.take_of_length_le
abbrev L32:=@List.foldl_cons
abbrev L33:=@List.length_map
abbrev L34:=@Bool.or_eq_false_iff
abbrev L35:=@List.take_succ_eq_append_getElem
abbrev L36:=@List.flatten_cons
abbrev L37:=@List.nil_append
abbrev L38:=@List.map_map
abbrev L39:=@List.length_range
abbrev L40:=@List.map_append
abbrev L41:=@List.foldl_append
abbrev L42:=@Nat.sub_self
abbrev L43:=@List.all_append
abbrev L44:=@List.length_reverse
abbrev L45:=@List.flatten_append
abbrev L46:=@List.filter_cons
abbrev L47:=@List.not_mem_nil
abbrev L48:=@List.take_append_drop
abbrev L49:=@List.getElem_append_right
abbrev L50:=@List.any_append
abbrev L51:=@List.getElem?_map
abbrev L52:=@List.getElem_append_left
abbrev L53:=@List.sum_cons
abbrev L54:=@List.map_nil
abbrev L55:=@List.range_succ
open Go Go.RowKit
set_option linter.unusedVariables false
universe u v
theorem W6 {i k:Nat} (h:i≠k):Nat.beq i k=false:=by
 cases hb:Nat.beq i k
 ·rfl
 ·exact absurd (Nat.eq_of_beq_eq_true hb) h
def All2 {α:Type u} {β:Type v} (R:α→β→Prop):List α→List β→Prop
 | [],[]=>True
 | a::as,b::bs=>R a b∧All2 R as bs
 | _,_=>False
theorem All2.length {α:Type u} {β:Type v} {R:α→β→Prop}:∀{as:List α} {bs:List β},All2 R as bs→as.length=bs.length
 | [],[],_=>rfl
 | [],_::_,h=>h.elim
 | _::_,[],h=>h.elim
 | _::as,_::bs,h=>by simp [All2.length h.2]
theorem All2.mono {α:Type u} {β:Type v} {R R':α→β→Prop} (hr:∀a b,R a b→R' a b):∀{as:List α} {bs:List β},All2 R as bs→All2 R' as bs
 | [],[],_=>trivial
 | [],_::_,h=>h.elim
 | _::_,[],h=>h.elim
 | _::_,_::_,h=>⟨hr _ _ h.1,All2.mono hr h.2⟩
theorem All2.map {α:Type u} {γ:Type u} {β:Type v} {R:α→β→Prop} {R':γ→β→Prop} (f:α→γ) (hr:∀a b,R a b→R' (f a) b):∀{as:List α} {bs:List β},All2 R as bs→All2 R' (as.map f) bs
 | [],[],_=>trivial
 | [],_::_,h=>h.elim
 | _::_,[],h=>h.elim
 | _::_,_::_,h=>⟨hr _ _ h.1,All2.map f hr h.2⟩
theorem All2.get {α:Type u} {β:Type v} {R:α→β→Prop}:∀{as:List α} {bs:List β},All2 R as bs→∀(i:Nat) (a:α),as[i]?=some a→∃b,bs[i]?=some b∧R a b
 | [],[],_,i,a,h=>by simp at h
 | [],_::_,h,_,_,_=>h.elim
 | _::_,[],h,_,_,_=>h.elim
 | x::as,y::bs,h,i,a,hi=>by
  cases i with
  | zero=>simp at hi;subst hi;exact ⟨y,rfl,h.1⟩
  | succ i=>simpa using All2.get h.2 i a (by simpa using hi)
theorem All2.set {α:Type u} {β:Type v} {R:α→β→Prop} {x:α} {y:β} (hxy:R x y):∀{as:List α} {bs:List β} (i:Nat),All2 R as bs→All2 R (as.set i x) (bs.set i y)
 | [],[],_,_=>trivial
 | [],_::_,_,h=>h.elim
 | _::_,[],_,h=>h.elim
 | _::as,_::bs,0,h=>⟨hxy,h.2⟩
 | _::as,_::bs,i+1,h=>⟨h.1,All2.set hxy i h.2⟩
theorem All2.append {α:Type u} {β:Type v} {R:α→β→Prop}:∀{as:List α} {bs:List β} {cs:List α} {ds:List β},All2 R as bs→All2 R cs ds→All2 R (as++cs) (bs++ds)
 | [],[],_,_,_,h=>h
 | [],_::_,_,_,h,_=>h.elim
 | _::_,[],_,_,h,_=>h.elim
 | _::_,_::_,_,_,h,h'=>⟨h.1,All2.append h.2 h'⟩
abbrev Rd:=Nat→Nat→Value→Prop
inductive Cell:Type 1 where
 | v (x:Value)
 | list (α:Type) (ec:Nat) (c:α→Nat→Cell) (xs:List α)
def SliceAt (rd:Rd) (ec n:Nat) (el:Nat→Nat→Value→Prop) (u:Value):Prop :=
 ∃a cap,u=.slice a n cap∧(n≤cap∧(a=none→cap=0))∧n < 4611686018427387904 ∧
  (n=0∨∃b o,a=some ⟨b,o,none⟩∧∀i,i < n→∀j,j < ec→∃z,rd b (o+i*ec+j) z∧el i j z)
def Cell.rep (rd:Rd):Cell→Value→Prop
 | .v x,u=>u=x∧x.oneCell'=true
 | .list _ ec c xs,u=>SliceAt rd ec xs.length (fun i j z=>∃h:i < xs.length,(c xs[i] j).rep rd z) u
theorem SliceAt.mono {rd rd':Rd} {ec n:Nat} {el el':Nat→Nat→Value→Prop} {u:Value} (hr:∀b i z,rd b i z→rd' b i z) (he:∀i j z,i < n→j < ec→el i j z→el' i j z)
  (h:SliceAt rd ec n el u):SliceAt rd' ec n el' u:=by
 obtain ⟨a,cap,h1,h2,h3,h4⟩:=h
 refine ⟨a,cap,h1,h2,h3,?_⟩
 rcases h4 with h4 | ⟨b,o,ha,hc⟩
 ·exact .inl h4
 ·refine .inr ⟨b,o,ha,fun i hi j hj=>?_⟩
  obtain ⟨z,hz1,hz2⟩:=hc i hi j hj
  exact ⟨z,hr _ _ _ hz1,he _ _ _ hi hj hz2⟩
theorem Cell.rep_mono {rd rd':Rd} (hr:∀b i z,rd b i z→rd' b i z):∀(c:Cell) (u:Value),c.rep rd u→c.rep rd' u:=by
 intro c
 induction c with
 | v x=>intro u h;exact h
 | list α ec c xs ih =>
  intro u h
  simp only [Cell.rep] at h ⊢
  exact h.mono hr fun i j z _ _ ⟨hi,hz⟩=>⟨hi,ih _ _ _ hz⟩
theorem Cell.rep_one {rd:Rd}:∀{c:Cell} {u:Value},c.rep rd u→u.oneCell'=true
 | .v x,u,h=>by obtain ⟨rfl,h⟩:=h;exact h
 | .list _ _ _ _,u,h=>by simp only [Cell.rep] at h;obtain ⟨a,cap,rfl,_⟩:=h;rfl
inductive PV:Type 1 where
 | one (c:Cell)
 | agg (cs:List Cell)
def PV.rep (rd:Rd):PV→Value→Prop
 | .one c,u=>c.rep rd u
 | .agg cs,u=>∃vs,u=.agg (List.toArray vs)∧All2 (Cell.rep rd) cs vs
theorem PV.rep_mono {rd rd':Rd} (hr:∀b i z,rd b i z→rd' b i z):∀{c:PV} {u:Value},c.rep rd u→c.rep rd' u
 | .one c,u,h=>Cell.rep_mono hr c u h
 | .agg cs,u,⟨vs,h1,h2⟩=>⟨vs,h1,h2.mono fun _ _=>Cell.rep_mono hr _ _⟩
inductive TC:Type 1 where
 | p (c:Cell)
 | buf (k:Nat) (α:Type) (ec:Nat) (c:α→Nat→Cell) (xs:List α)
 | ref (k off:Nat)
 | eref (α:Type) (ec:Nat) (c:α→Nat→Cell) (x:α) (off:Nat)
 | mut (k:Nat)
 | mref (k ec i off:Nat)
 | any
 | clo (f:Nat) (nf nc:List (Nat × Nat))
 | msl (k ec off n:Nat)
 | full (α:Type) (ec:Nat) (c:α→Nat→Cell) (xs:List α)
 | ifc (t k off:Nat)
 | fnc (f:Nat) (cs:List Cell)
 | fncE (f:Nat) (α:Type) (ec:Nat) (c:α→Nat→Cell) (x:α)
abbrev Gh:=Nat→Value
def A31 (G:Gh) (p:Nat × Nat) (u:Value):Prop:=∃b,G p.1=.pointer (some ⟨b,0,none⟩)∧u=.pointer (some ⟨b,p.2,none⟩)
def A74 (k:Nat) (l:List (Nat × Nat)):Bool:=l.any fun p=>Nat.beq p.1 k
theorem B91 {G G':Gh} {k:Nat} (hG:∀j,j≠k→G' j=G j):∀{l:List (Nat × Nat)} {us:List Value},A74 k l=false→All2 (A31 G) l us→All2 (A31 G') l us
 | [],[],_,_=>trivial
 | [],_::_,_,h=>h.elim
 | _::_,[],_,h=>h.elim
 | p::l,u::us,hk,h=>by
  unfold A74 at hk
  simp only [List.any_cons,L34] at hk
  obtain ⟨⟨b,h1,h2⟩,h3⟩:=h
  have hne:p.1≠k:=fun e=>by rw [e,Nat.beq_refl] at hk;cases hk.1
  exact ⟨⟨b,by rw [hG _ hne];exact h1,h2⟩,B91 hG hk.2 h3⟩
def TC.rep (rd:Rd) (G:Gh):TC→Value→Prop
 | .p c,u=>c.rep rd u
 | .buf k α ec c xs,u=>u=G k∧(Cell.list α ec c xs).rep rd u
 | .ref k off,u=>∃b,G k=.pointer (some ⟨b,0,none⟩)∧u=.pointer (some ⟨b,off,none⟩)
 | .eref _ ec c x off,u=>∃b o,u=.pointer (some ⟨b,o+off,none⟩)∧∀j,j < ec→∃z,rd b (o+j) z∧(c x j).rep rd z
 | .mut k,u=>u=G k∧u.oneCell'=true
 | .mref k ec i off,u=>∃b n cap,G k=.slice (some ⟨b,0,none⟩) n cap∧u=.pointer (some ⟨b,i*ec+off,none⟩)
 | .any,u=>u.oneCell'=true
 | .clo f nf nc,u=>∃vs ws,u=.func (.func f) (List.toArray vs) (List.toArray ws)∧All2 (A31 G) nf vs∧All2 (A31 G) nc ws
 | .msl k ec off n,u=>∃b m cap cap' o',G k=.slice (some ⟨b,0,none⟩) m cap∧off+n≤m∧u=.slice (some ⟨b,o',none⟩) n cap'∧n≤cap'∧m < 4611686018427387904∧(n=0∨o'=off*ec)
 | .full α ec c xs,u=>(Cell.list α ec c xs).rep rd u∧∃a,u=.slice a xs.length xs.length
 | .ifc t k off,u=>∃b,G k=.pointer (some ⟨b,0,none⟩)∧u=.iface t (.pointer (some ⟨b,off,none⟩))
 | .fnc f cs,u=>∃vs,u=.func (.func f) (List.toArray vs) #[]∧All2 (Cell.rep rd) cs vs
 | .fncE f _ ec c x,u=>∃b o,u=.func (.func f) #[] #[.pointer (some ⟨b,o,none⟩)]∧∀j,j < ec→∃z,rd b (o+j) z∧(c x j).rep rd z
theorem TC.rep_mono {rd rd':Rd} {G:Gh} (hr:∀b i z,rd b i z→rd' b i z):∀{c:TC} {u:Value},c.rep rd G u→c.rep rd' G u
 | .p c,u,h=>Cell.rep_mono hr c u h
 | .buf _ _ _ _ _,u,⟨h1,h2⟩=>⟨h1,Cell.rep_mono hr _ u h2⟩
 | .ref _ _,u,h=>h
 | .eref _ _ _ _ _,u,⟨b,o,h1,h2⟩=>⟨b,o,h1,fun j hj=>let ⟨z,h3,h4⟩:=h2 j hj;⟨z,hr _ _ _ h3,Cell.rep_mono hr _ _ h4⟩⟩
 | .mut _,u,h=>h
 | .mref _ _ _ _,u,h=>h
 | .any,u,h=>h
 | .clo _ _ _,_,h=>h
 | .msl _ _ _ _,_,h=>h
 | .full _ _ _ _,u,⟨h1,h2⟩=>⟨Cell.rep_mono hr _ u h1,h2⟩
 | .ifc _ _ _,_,h=>h
 | .fnc _ _,_,⟨vs,h1,h2⟩=>⟨vs,h1,h2.mono fun _ _=>Cell.rep_mono hr _ _⟩
 | .fncE _ _ _ _ _,_,⟨b,o,h1,h2⟩=>⟨b,o,h1,fun j hj=>let ⟨z,h3,h4⟩:=h2 j hj;⟨z,hr _ _ _ h3,Cell.rep_mono hr _ _ h4⟩⟩
theorem TC.rep_one {rd:Rd} {G:Gh}:∀{c:TC} {u:Value},c.rep rd G u→u.oneCell'=true
 | .p c,u,h=>Cell.rep_one h
 | .buf _ _ _ _ _,u,⟨_,h2⟩=>Cell.rep_one h2
 | .ref _ _,u,h=>by obtain ⟨b,_,rfl⟩:=h;rfl
 | .eref _ _ _ _ _,u,h=>by obtain ⟨b,o,rfl,_⟩:=h;rfl
 | .mut _,u,h=>h.2
 | .mref _ _ _ _,u,h=>by obtain ⟨b,n,cap,_,rfl⟩:=h;rfl
 | .any,u,h=>h
 | .clo _ _ _,_,h=>by obtain ⟨vs,ws,rfl,_⟩:=h;rfl
 | .msl _ _ _ _,_,h=>by obtain ⟨b,m,cap,cap',o',_,_,rfl,_⟩:=h;rfl
 | .full _ _ _ _,u,⟨h1,_⟩=>Cell.rep_one h1
 | .ifc _ _ _,_,h=>by obtain ⟨b,_,rfl⟩:=h;rfl
 | .fnc _ _,_,h=>by obtain ⟨vs,rfl,_⟩:=h;rfl
 | .fncE _ _ _ _ _,_,h=>by obtain ⟨b,o,rfl,_⟩:=h;rfl
def TC.forget (k:Nat):TC→TC
 | .buf k' α ec c xs=>cond (Nat.beq k' k) (.p (.list α ec c xs)) (.buf k' α ec c xs)
 | .ref k' off=>cond (Nat.beq k' k) .any (.ref k' off)
 | .mut k'=>cond (Nat.beq k' k) .any (.mut k')
 | .mref k' ec i off=>cond (Nat.beq k' k) .any (.mref k' ec i off)
 | .clo f nf nc=>cond (A74 k nf||A74 k nc) .any (.clo f nf nc)
 | .msl k' ec off n=>cond (Nat.beq k' k) .any (.msl k' ec off n)
 | .ifc t k' off=>cond (Nat.beq k' k) .any (.ifc t k' off)
 | t=>t
def TC.pure?:TC→Option Cell
 | .p c=>some c
 | .buf _ α ec c xs=>some (.list α ec c xs)
 | .full α ec c xs=>some (.list α ec c xs)
 | _=>none
theorem K89 {rd:Rd} {G:Gh} {t:TC} {c:Cell} {u:Value} (h:t.pure?=some c) (hr:t.rep rd G u):c.rep rd u:=by
 cases t<;>simp only [TC.pure?,Option.some.injEq,reduceCtorEq] at h
 ·subst h;exact hr
 ·subst h;exact hr.2
 ·subst h;exact hr.1
theorem TC.rep_forget {rd:Rd} {G G':Gh} {k:Nat} (hG:∀j,j≠k→G' j=G j):∀{t:TC} {u:Value},t.rep rd G u→(t.forget k).rep rd G' u
 | .p c,u,h=>h
 | .buf k' α ec c xs,u,h=>by
  simp only [TC.forget]
  cases hb:Nat.beq k' k
  ·have hne:k'≠k:=fun e=>by simp [e] at hb
   simp only [cond];exact ⟨by rw [hG _ hne];exact h.1,h.2⟩
  ·simp only [cond];exact h.2
 | .ref k' off,u,h=>by
  simp only [TC.forget]
  cases hb:Nat.beq k' k
  ·have hne:k'≠k:=fun e=>by simp [e] at hb
   simp only [cond,TC.rep];rw [hG _ hne];exact h
  ·simp only [cond];exact TC.rep_one (c:=.ref k' off) h
 | .eref _ _ _ _ _,u,h=>h
 | .mut k',u,h=>by
  simp only [TC.forget]
  cases hb:Nat.beq k' k
  ·have hne:k'≠k:=fun e=>by simp [e] at hb
   simp only [cond,TC.rep];rw [hG _ hne];exact h
  ·simp only [cond];exact h.2
 | .mref k' ec i off,u,h=>by
  simp only [TC.forget]
  cases hb:Nat.beq k' k
  ·have hne:k'≠k:=fun e=>by simp [e] at hb
   simp only [cond,TC.rep];rw [hG _ hne];exact h
  ·simp only [cond];exact TC.rep_one (c:=.mref k' ec i off) h
 | .any,u,h=>h
 | .clo f nf nc,u,h=>by
  simp only [TC.forget]
  cases hb:A74 k nf||A74 k nc
  ·simp only [cond]
   rw [L34] at hb
   obtain ⟨vs,ws,h1,h2,h3⟩:=h
   exact ⟨vs,ws,h1,B91 hG hb.1 h2,B91 hG hb.2 h3⟩
  ·simp only [cond];exact TC.rep_one (c:=.clo f nf nc) h
 | .msl k' ec off n,u,h=>by
  simp only [TC.forget]
  cases hb:Nat.beq k' k
  ·have hne:k'≠k:=fun e=>by simp [e] at hb
   simp only [cond,TC.rep];rw [hG _ hne];exact h
  ·simp only [cond];exact TC.rep_one (c:=.msl k' ec off n) h
 | .full _ _ _ _,_,h=>h
 | .ifc t k' off,u,h=>by
  simp only [TC.forget]
  cases hb:Nat.beq k' k
  ·have hne:k'≠k:=fun e=>by simp [e] at hb
   simp only [cond,TC.rep];rw [hG _ hne];exact h
  ·simp only [cond];exact TC.rep_one (c:=.ifc t k' off) h
 | .fnc _ _,_,h=>h
 | .fncE _ _ _ _ _,_,h=>h
inductive S1:Type 1 where
 | one (t:TC)
 | agg (ts:List TC)
inductive SV:Type 1 where
 | s (x:S1)
 | tup (xs:List S1)
 | any
 | un
def S1.rep (rd:Rd) (G:Gh):S1→Value→Prop
 | .one t,u=>t.rep rd G u
 | .agg ts,u=>∃vs,u=.agg (List.toArray vs)∧All2 (TC.rep rd G) ts vs
def SV.rep (rd:Rd) (G:Gh):SV→Value→Prop
 | .s x,u=>x.rep rd G u
 | .tup xs,u=>∃us,u=.tuple (List.toArray us)∧All2 (S1.rep rd G) xs us
 | .any,_=>True
 | .un,u=>u=undef
theorem S1.rep_mono {rd rd':Rd} {G:Gh} (hr:∀b i z,rd b i z→rd' b i z):∀{c:S1} {u:Value},c.rep rd G u→c.rep rd' G u
 | .one t,u,h=>TC.rep_mono (c:=t) hr h
 | .agg ts,u,⟨vs,h1,h2⟩=>⟨vs,h1,h2.mono fun _ _=>TC.rep_mono hr⟩
theorem SV.rep_mono {rd rd':Rd} {G:Gh} (hr:∀b i z,rd b i z→rd' b i z):∀{c:SV} {u:Value},c.rep rd G u→c.rep rd' G u
 | .s t,u,h=>S1.rep_mono (c:=t) hr h
 | .tup ts,u,⟨vs,h1,h2⟩=>⟨vs,h1,h2.mono fun _ _=>S1.rep_mono hr⟩
 | .any,_,_=>trivial
 | .un,_,h=>h
def S1.forget (k:Nat):S1→S1
 | .one t=>.one (t.forget k)
 | .agg ts=>.agg (ts.map (TC.forget k))
def SV.forget (k:Nat):SV→SV
 | .s x=>.s (x.forget k)
 | .tup xs=>.tup (xs.map (S1.forget k))
 | .any=>.any
 | .un=>.un
theorem S1.rep_forget {rd:Rd} {G G':Gh} {k:Nat} (hG:∀j,j≠k→G' j=G j):∀{t:S1} {u:Value},t.rep rd G u→(t.forget k).rep rd G' u
 | .one t,u,h=>TC.rep_forget (t:=t) hG h
 | .agg ts,u,⟨vs,h1,h2⟩=>⟨vs,h1,h2.map (TC.forget k) fun _ _=>TC.rep_forget hG⟩
theorem SV.rep_forget {rd:Rd} {G G':Gh} {k:Nat} (hG:∀j,j≠k→G' j=G j):∀{t:SV} {u:Value},t.rep rd G u→(t.forget k).rep rd G' u
 | .s t,u,h=>S1.rep_forget (t:=t) hG h
 | .tup ts,u,⟨vs,h1,h2⟩=>⟨vs,h1,h2.map (S1.forget k) fun _ _=>S1.rep_forget hG⟩
 | .any,_,_=>trivial
 | .un,_,h=>h
def S1.pure?:S1→Option PV
 | .one t=>t.pure?.map .one
 | .agg ts=>(ts.mapM TC.pure?).map .agg
inductive Ob:Type 1 where
 | box (ts:List TC)
 | tbx (e:TypeId) (ts:List TC)
 | arr (α:Type) (ec:Nat) (c:α→Nat→Cell) (xs:List α)
 | spare (n ec:Nat) (e:TypeId)
 | tarr (n ec:Nat) (ts:List TC)
 | grow (e:TypeId) (α:Type) (ec:Nat) (c:α→Nat→Cell) (xs:List α)
 | map (κ:Type) (kf:κ→Value) (kvs:List (κ × Cell))
 | growA (e:TypeId) (α:Type) (ec:Nat) (c:α→Nat→Cell) (xs:List α) (p:Nat) (ts:List TC)
 | growT (e:TypeId) (n ec:Nat) (ts:List TC)
def Ob.forget (k:Nat):Ob→Ob
 | .box ts=>.box (ts.map (TC.forget k))
 | .tbx e ts=>.tbx e (ts.map (TC.forget k))
 | .tarr n ec ts=>.tarr n ec (ts.map (TC.forget k))
 | .growA e α ec c xs p ts=>.growA e α ec c xs p (ts.map (TC.forget k))
 | .growT e n ec ts=>.growT e n ec (ts.map (TC.forget k))
 | o=>o
abbrev Fr:=List (Nat × SV)
abbrev Obs:=List (Nat × Ob)
def E5:Fr→Nat→Option SV
 | [],_=>none
 | (i,s)::r,k=>cond (Nat.beq i k) (some s) (E5 r k)
def C1:Obs→Nat→Option Ob
 | [],_=>none
 | (i,s)::r,k=>cond (Nat.beq i k) (some s) (C1 r k)
def Fr.forget (k:Nat) (fr:Fr):Fr:=fr.map fun x=>(x.1,x.2.forget k)
def Obs.forget (k:Nat) (ob:Obs):Obs:=ob.map fun x=>(x.1,x.2.forget k)
def Obs.drop (k:Nat):Obs→Obs
 | []=>[]
 | (i,s)::r=>cond (Nat.beq i k) (Obs.drop k r) ((i,s)::Obs.drop k r)
theorem E0 (i:Nat) (s:SV) (r:Fr):E5 ((i,s)::r) i=some s:=by simp [E5]
theorem C8 {i k:Nat} (h:i≠k) (s:SV) (r:Fr):E5 ((i,s)::r) k=E5 r k:=by
 have:Nat.beq i k=false:=W6 h
 simp [E5,this]
theorem C4 (i:Nat) (s:Ob) (r:Obs):C1 ((i,s)::r) i=some s:=by simp [C1]
theorem B4 {i k:Nat} (h:i≠k) (s:Ob) (r:Obs):C1 ((i,s)::r) k=C1 r k:=by
 have:Nat.beq i k=false:=W6 h
 simp [C1,this]
theorem N7 (k:Nat):∀(fr:Fr) (i:Nat),E5 (Fr.forget k fr) i=(E5 fr i).map (SV.forget k)
 | [],i=>rfl
 | (j,s)::r,i=>by
  by_cases h:j=i
  ·subst h;simp [Fr.forget,E5]
  ·have ih:=N7 k r i
   simp only [Fr.forget,L16] at ih ⊢
   rw [C8 h,C8 h,ih]
theorem K6 (k:Nat):∀(ob:Obs) (i:Nat),C1 (Obs.forget k ob) i=(C1 ob i).map (Ob.forget k)
 | [],i=>rfl
 | (j,s)::r,i=>by
  by_cases h:j=i
  ·subst h;simp [Obs.forget,C1]
  ·have ih:=K6 k r i
   simp only [Obs.forget,L16] at ih ⊢
   rw [B4 h,B4 h,ih]
theorem U1 (k:Nat):∀(ob:Obs),C1 (Obs.drop k ob) k=none
 | []=>rfl
 | (j,s)::r=>by
  by_cases h:j=k
  ·subst h;simp [Obs.drop,U1 j r]
  ·have:Nat.beq j k=false:=W6 h
   simp only [Obs.drop,this,cond]
   rw [B4 h,U1 k r]
theorem S7 {k i:Nat} (hi:i≠k):∀(ob:Obs),C1 (Obs.drop k ob) i=C1 ob i
 | []=>rfl
 | (j,s)::r=>by
  by_cases h:j=k
  ·subst h;simp only [Obs.drop,Nat.beq_refl,cond];rw [B4 (Ne.symm hi),S7 hi r]
  ·have:Nat.beq j k=false:=W6 h
   simp only [Obs.drop,this,cond]
   by_cases h2:j=i
   ·subst h2;simp [C1]
   ·rw [B4 h2,B4 h2,S7 hi r]
end Go.AL
namespace Go.AL
open Go Go.RowKit
set_option linter.unusedVariables false
def blk:Value→Option Nat
 | .pointer (some a)=>some a.block
 | .slice (some a) _ _=>some a.block
 | .map (some r)=>some r
 | _=>none
def Own (u:Value) (o:Ob) (b i:Nat):Prop :=
 blk u=some b∧match o with
  | .spare n ec _=>n*ec≤i
  | _=>True
structure Ctx where
 w0:World
 M0:Nat→Nat→Prop
 io:Nat→Prop
 nt:Nat
 pin:Nat→Value
 gv:Nat→Value
 df:List Deferred:=[]
def Ctx.sl (S:Ctx) (a:Act) (i:Nat):Value:=cond (Nat.blt i 1000000) (a.tmps.getD i undef) (S.gv i)
theorem Ctx.sl_lt {S:Ctx} {a:Act} {i:Nat} (h:i < 1000000):S.sl a i=a.tmps.getD i undef:=by
 have:Nat.blt i 1000000=true:=by simpa using h
 simp [Ctx.sl,this]
theorem Ctx.sl_ge {S:Ctx} {a:Act} {i:Nat} (h:1000000≤i):S.sl a i=S.gv i:=by
 have:Nat.blt i 1000000=false:=by
  cases hb:Nat.blt i 1000000
  ·rfl
  ·rw [Nat.blt_eq] at hb;omega
 simp [Ctx.sl,this]
abbrev Ctx.B (S:Ctx):Nat:=S.w0.heap.size
def Mut (S:Ctx) (ob:Obs) (G:Gh) (b i:Nat):Prop:=S.M0 b i∨∃k o,C1 ob k=some o∧Own (G k) o b i
def F0 (M:Nat→Nat→Prop) (w:World):Rd:=fun b i z=>w.cell? ⟨b,i,none⟩=some z∧¬M b i
def J24 (P:Program) (w:World):Prop:=∀g,P.globalNamed "internal/strconv.uint64pow10"=some g→Lib.TabIs P w "internal/strconv.uint64pow10" .u64 Lib.pow10Tab
def Grd (P:Program) (io:Nat→Prop) (w:World):Prop :=
 ∃wg:World,(wg.ShapedOpen P∧J24 P wg)∧wg.heap.size≤w.heap.size∧∀k,k < wg.heap.size→w.heap[k]?=wg.heap[k]?∧¬io k
def ObOk (S:Ctx) (rd:Rd) (G:Gh) (w:World) (u:Value):Ob→Prop
 | .box ts=>∃b vs t,u=.pointer (some ⟨b,0,none⟩)∧w.heap[b]?=some (.cells (List.toArray vs) t (0,0))∧All2 (TC.rep rd G) ts vs
 | .tbx e ts=>∃b vs,u=.pointer (some ⟨b,0,none⟩)∧w.heap[b]?=some (.cells (List.toArray vs) e (0,0))∧All2 (TC.rep rd G) ts vs
 | .arr α ec c xs=>∃b vs t,u=.slice (some ⟨b,0,none⟩) xs.length xs.length∧xs.length < 4611686018427387904∧w.heap[b]?=some (.cells vs t (0,0))∧vs.size=xs.length*ec ∧
   ∀i (h:i < xs.length) j,j < ec→∃z,vs[i*ec+j]?=some z∧(c xs[i] j).rep rd z
 | .spare n ec e=>∃vs,w.ownsRow S.B e ec u n vs
 | .tarr n ec ts=>∃b vs t,u=.slice (some ⟨b,0,none⟩) n n∧n < 4611686018427387904∧w.heap[b]?=some (.cells (List.toArray vs) t (0,0))∧ts.length=n*ec∧All2 (TC.rep rd G) ts vs
 | .grow e α ec c xs=>∃vs,w.ownsRow S.B e ec u xs.length vs∧xs.length < 4611686018427387904∧∀i (h:i < xs.length) j,j < ec→∃z,vs[i*ec+j]?=some z∧(c xs[i] j).rep rd z
 | .map κ kf kvs=>∃r es clock,u=.map (some r)∧w.heap[r]?=some (.map es clock)∧All2 (fun (kv:κ × Cell) (e:MapEntry)=>e.key=kf kv.1∧kv.2.rep rd e.val) kvs es.toList
 | .growA e α ec c xs p ts=>∃vs,w.ownsRow S.B e ec u xs.length vs∧xs.length < 4611686018427387904∧p < xs.length∧ts.length=ec∧(∀i (h:i < xs.length),i≠p→∀j,j < ec→∃z,vs[i*ec+j]?=some z∧(c xs[i] j).rep rd z) ∧
   All2 (TC.rep rd G) ts ((vs.drop (p*ec)).take ec)
 | .growT e n ec ts=>∃vs,w.ownsRow S.B e ec u n vs∧n < 4611686018427387904∧ts.length=n*ec∧All2 (TC.rep rd G) ts vs
structure Sim (P:Program) (S:Ctx) (fr:Fr) (ob:Obs) (G:Gh) (a:Act) (w:World):Prop where
 nt:a.tmps.size=S.nt
 ntb:S.nt≤1000000
 defers:a.defers=S.df
 os:w.os=S.w0.os
 tape:w.tape=S.w0.tape
 output:w.output=S.w0.output
 size:S.B≤w.heap.size
 keep:∀k,k < S.B→¬S.io k→w.heap[k]?=S.w0.heap[k]?
 m0:∀b i,S.M0 b i→b < S.B
 m0io:∀b i,S.M0 b i→¬S.io b
 grd:Grd P S.io S.w0
 pin:∀k,1000000≤k→G k=S.pin k
 old:∀k o b,C1 ob k=some o→blk (G k)=some b→S.B≤b∨(S.io b∧1000000≤k)
 dis:∀k k' o o' b,C1 ob k=some o→C1 ob k'=some o'→blk (G k)=some b→blk (G k')=some b→k=k'
 obs:∀k o,C1 ob k=some o→ObOk S (F0 (Mut S ob G) w) G w (G k) o
 facts:∀i s,E5 fr i=some s→s.rep (F0 (Mut S ob G) w) G (S.sl a i)
def c9 (fr:Fr) (t:Nat):Option SV:=cond (Nat.blt t 1000000) (E5 fr t) none
theorem G04 {fr:Fr} {t:Nat} {s:SV} (h:c9 fr t=some s):t < 1000000∧E5 fr t=some s:=by
 unfold c9 at h
 cases hb:Nat.blt t 1000000
 ·rw [hb] at h;cases h
 ·rw [hb] at h;exact ⟨by simpa using hb,h⟩
theorem Sim.slot {P:Program} {S:Ctx} {fr:Fr} {ob:Obs} {G:Gh} {a:Act} {w:World} (h:Sim P S fr ob G a w) {t:Nat} {s:SV} (ht:c9 fr t=some s):s.rep (F0 (Mut S ob G) w) G (a.tmps.getD t undef):=by
 obtain ⟨h1,h2⟩:=G04 ht
 have:=h.facts t s h2
 rwa [Ctx.sl_lt h1] at this
theorem Sim.fact {P:Program} {S:Ctx} {fr:Fr} {ob:Obs} {G:Gh} {a:Act} {w:World} (h:Sim P S fr ob G a w) {t:Nat} {s:SV} (hlt:t < S.nt) (ht:E5 fr t=some s):s.rep (F0 (Mut S ob G) w) G (a.tmps.getD t undef):=by
 have:=h.facts t s ht
 rwa [Ctx.sl_lt (by have:=h.ntb;omega)] at this
abbrev Post:=Exit→Fr→Obs→Prop
def Idle (P:Program) (ds ds0:List Deferred) (w w':World):Prop :=
 ∀(fn:Func) (tmps:Array Value) (R:Ending→World→Prop),LeavesInM Fence.wide 0 P fn tmps R ds0 .returning w'→LeavesInM Fence.wide 0 P fn tmps R ds .returning w
def SimX (P:Program) (S:Ctx) (e:Exit) (fr:Fr) (ob:Obs) (G:Gh) (a:Act) (w:World):Prop:=Sim P S fr ob G a w∨(e=.ret∧∃ds w',Sim P { S with df:=ds } fr ob G a w'∧Idle P ds S.df w w')
def PostOf (P:Program) (S:Ctx) (Q:Post) (e:Exit) (a:Act) (w:World):Prop:=∃fr ob G,Q e fr ob∧SimX P S e fr ob G a w
def WpC (P:Program) (nt:Nat) (c:Code) (fr:Fr) (ob:Obs) (Q:Post):Prop :=
 ∀S G a w,S.nt=nt→Sim P S fr ob G a w→c.wp P (PostOf P S Q) a w
def WpL (P:Program) (nt:Nat) (ops:Array Oper) (rest:List Oper) (fr:Fr) (ob:Obs) (Q:Post):Prop :=
 ∀S G a w,S.nt=nt→Sim P S fr ob G a w→wpList P ops (PostOf P S Q) rest a w
section control
variable {P:Program} {nt:Nat} {fr:Fr} {ob:Obs} {Q:Post}
theorem PostOf.mono {S:Ctx} {Q Q':Post} (h:∀e fr ob,Q e fr ob→Q' e fr ob) {e:Exit} {a:Act} {w:World} (hq:PostOf P S Q e a w):PostOf P S Q' e a w :=
 let ⟨fr,ob,G,h1,h2⟩:=hq;⟨fr,ob,G,h _ _ _ h1,h2⟩
theorem WpC.mono {c:Code} {Q':Post} (h:WpC P nt c fr ob Q) (hq:∀e fr ob,Q e fr ob→Q' e fr ob):WpC P nt c fr ob Q' :=
 fun S G a w hn hs=>wp_mono (h S G a w hn hs) fun _ _ _ hp=>hp.mono hq
def B79 (next:Fr→Obs→Prop) (Q:Post):Post
 | .normal,fr,ob=>next fr ob
 | e,fr,ob=>Q e fr ob
def d5 (id:Nat) (Q:Post):Post
 | .exit id',fr,ob=>cond (Nat.beq id' id) (Q .normal fr ob) (Q (.exit id') fr ob)
 | e,fr,ob=>Q e fr ob
theorem c_skip (h:Q .normal fr ob):WpC P nt .skip fr ob Q:=fun _ G _ _ _ hs=>wp_skip ⟨fr,ob,G,h,.inl hs⟩
theorem c_exit {id:Nat} (h:Q (.exit id) fr ob):WpC P nt (.exit id) fr ob Q:=fun _ G _ _ _ hs=>wp_exit ⟨fr,ob,G,h,.inl hs⟩
theorem c_ret (h:Q .ret fr ob):WpC P nt .ret fr ob Q:=fun _ G _ _ _ hs=>wp_ret ⟨fr,ob,G,h,.inl hs⟩
theorem c_seq {x y:Code} (h:WpC P nt x fr ob (B79 (fun fr ob=>WpC P nt y fr ob Q) Q)):WpC P nt (.seq x y) fr ob Q:=by
 intro S G a w hn hs
 refine wp_seq (wp_mono (h S G a w hn hs) ?_)
 rintro e a' w' ⟨fr',ob',G',hq,hs'⟩
 cases e with
 | normal=>exact hq S G' a' w' hn (hs'.resolve_right fun h=>nomatch h.1)
 | _=>exact ⟨fr',ob',G',hq,hs'⟩
theorem c_block {id:Nat} {c:Code} (h:WpC P nt c fr ob (d5 id Q)):WpC P nt (.block id c) fr ob Q:=by
 intro S G a w hn hs
 refine wp_block (wp_mono (h S G a w hn hs) ?_)
 rintro e a' w' ⟨fr',ob',G',hq,hs'⟩
 cases e with
 | exit id' =>
  simp only [Exit.inBlock]
  simp only [d5] at hq
  by_cases hid:id'=id
  ·subst hid;simp only [Nat.beq_refl,cond] at hq;rw [if_pos rfl];exact ⟨fr',ob',G',hq,.inl (hs'.resolve_right fun h=>nomatch h.1)⟩
  ·have hb:Nat.beq id' id=false:=W6 hid
   rw [hb] at hq
   rw [if_neg hid];exact ⟨fr',ob',G',hq,hs'⟩
 | _=>exact ⟨fr',ob',G',hq,hs'⟩
theorem B1 {t:Tmp} {x y:Code} {b:Bool} (ht:c9 fr t=some (.s (.one (.p (.v (.bool b)))))) (h1:b=true→WpC P nt x fr ob Q) (h2:b=false→WpC P nt y fr ob Q) :
  WpC P nt (.cond (.tmp t) x y) fr ob Q:=by
 intro S G a w hn hs
 have hv:=hs.slot ht
 obtain ⟨hv,_⟩:=hv
 refine wp_cond_split (c:=.tmp t) (t:=b) hv (fun hb=>h1 hb S G a w hn hs) (fun hb=>h2 hb S G a w hn hs)
theorem A3 {id:Nat} {l:List Oper} (h:WpL P nt l.toArray l fr ob Q):WpC P nt (.region id l.toArray false) fr ob Q :=
 fun S G a w hn hs=>wp_region_lit (h S G a w hn hs)
theorem A5 {ops:Array Oper} (h:Q .normal fr ob):WpL P nt ops [] fr ob Q:=fun _ G _ _ _ hs=>wpList_nil ⟨fr,ob,G,h,.inl hs⟩
theorem c_loop {c:Code} {X:Type 1} (E:X→Fr × Obs) (I:X→Prop) (m:X→Nat) (x0:X) (h0:I x0)
  (start:∀S G a w,S.nt=nt→Sim P S fr ob G a w→∃G',Sim P S (E x0).1 (E x0).2 G' a w)
  (round:∀x,I x→WpC P nt c (E x).1 (E x).2 (B79 (fun fr' ob'=>∃x',I x'∧m x' < m x∧∀S G a w,S.nt=nt→Sim P S fr' ob' G a w→∃G',Sim P S (E x').1 (E x').2 G' a w) Q)) :
  WpC P nt (.loop c) fr ob Q:=by
 intro S G a w hn hs
 obtain ⟨G0,hs0⟩:=start S G a w hn hs
 intro b k cs
 have key:∀n x a w G,m x=n→I x→Sim P S (E x).1 (E x).2 G a w →
   ∃e a' w',PostOf P S Q e a' w'∧Arrives P (lone (b.at a (.code c::.inLoop c::k)) cs w) b k cs e a' w':=by
  intro n
  induction n using Nat.strongRecOn with
  | _ n ih =>
   intro x a w G hm hI hsx
   obtain ⟨e,a₁,w₁,hq,harr⟩:=round x hI S G a w hn hsx b (.inLoop c::k) cs
   obtain ⟨fr',ob',G',hq,hs'⟩:=hq
   cases e with
   | normal =>
    obtain ⟨x',hI',hlt,hsim⟩:=hq
    obtain ⟨G'',hs''⟩:=hsim S G' a₁ w₁ hn (hs'.resolve_right fun h=>nomatch h.1)
    obtain ⟨e₂,a₂,w₂,hq₂,harr₂⟩:=ih (m x') (hm ▸ hlt) x' a₁ w₁ G'' rfl hI' hs''
    exact ⟨e₂,a₂,w₂,hq₂,.of_steps (Steps.trans harr (.one step_inLoop)) harr₂⟩
   | exit id=>exact ⟨_,a₁,w₁,⟨fr',ob',G',hq,hs'⟩,.pass (x:=.inLoop c) rfl (fun _ _=>.inl (by simp)) harr⟩
   | goto l=>exact ⟨_,a₁,w₁,⟨fr',ob',G',hq,hs'⟩,.pass (x:=.inLoop c) rfl (fun _ _=>.inl (by simp)) harr⟩
   | ret=>exact ⟨_,a₁,w₁,⟨fr',ob',G',hq,hs'⟩,.pass (x:=.inLoop c) rfl (fun _ _=>.inl (by simp)) harr⟩
   | panic ch=>exact ⟨_,a₁,w₁,⟨fr',ob',G',hq,hs'⟩,.pass (x:=.inLoop c) rfl (fun _ _=>.inl (by simp)) harr⟩
   | outgrown=>exact ⟨_,a₁,w₁,⟨fr',ob',G',hq,hs'⟩,.pass (x:=.inLoop c) rfl (fun _ _=>.inl (by simp)) harr⟩
 obtain ⟨e,a',w',hq,harr⟩:=key _ x0 a w G0 rfl h0 hs0
 exact ⟨e,a',w',hq,.of_steps (.one step_loop) harr⟩
end control
end Go.AL
namespace Go.AL
open Go Go.RowKit
set_option linter.unusedVariables false
section sim
variable {P:Program} {S:Ctx} {fr:Fr} {ob:Obs} {G:Gh} {a:Act} {w w':World}
theorem ObOk.blk_lt {rd:Rd} {u:Value} {o:Ob} (h:ObOk S rd G w u o):∀b,blk u=some b→b < w.heap.size:=by
 intro b hb
 cases o with
 | box ts=>obtain ⟨b',vs,t,rfl,hh,_⟩:=h;simp [blk] at hb;subst hb;exact (Array.getElem?_eq_some_iff.1 hh).1
 | tbx e ts=>obtain ⟨b',vs,rfl,hh,_⟩:=h;simp [blk] at hb;subst hb;exact (Array.getElem?_eq_some_iff.1 hh).1
 | arr α ec c xs=>obtain ⟨b',vs,t,rfl,_,hh,_⟩:=h;simp [blk] at hb;subst hb;exact (Array.getElem?_eq_some_iff.1 hh).1
 | tarr n ec ts=>obtain ⟨b',vs,t,rfl,_,hh,_⟩:=h;simp [blk] at hb;subst hb;exact (Array.getElem?_eq_some_iff.1 hh).1
 | grow e α ec c xs =>
  obtain ⟨vs,h,_⟩:=h
  rcases h.2 with ⟨rfl,_⟩ | ⟨g,cap,cur,rfl,_,hg,_⟩
  ·simp [blk] at hb
  ·simp [blk] at hb;subst hb;exact (Array.getElem?_eq_some_iff.1 hg).1
 | map κ kf kvs=>obtain ⟨r,es,clock,rfl,hh,_⟩:=h;simp [blk] at hb;subst hb;exact (Array.getElem?_eq_some_iff.1 hh).1
 | growA e α ec c xs p ts =>
  obtain ⟨vs,h,_⟩:=h
  rcases h.2 with ⟨rfl,_⟩ | ⟨g,cap,cur,rfl,_,hg,_⟩
  ·simp [blk] at hb
  ·simp [blk] at hb;subst hb;exact (Array.getElem?_eq_some_iff.1 hg).1
 | growT e n ec ts =>
  obtain ⟨vs,h,_⟩:=h
  rcases h.2 with ⟨rfl,_⟩ | ⟨g,cap,cur,rfl,_,hg,_⟩
  ·simp [blk] at hb
  ·simp [blk] at hb;subst hb;exact (Array.getElem?_eq_some_iff.1 hg).1
 | spare n ec e =>
  obtain ⟨vs,h⟩:=h
  rcases h.2 with ⟨rfl,_⟩ | ⟨g,cap,cur,rfl,_,hg,_⟩
  ·simp [blk] at hb
  ·simp [blk] at hb;subst hb;exact (Array.getElem?_eq_some_iff.1 hg).1
theorem Sim.mut_lt (h:Sim P S fr ob G a w) {b i:Nat} (hm:Mut S ob G b i):b < w.heap.size:=by
 rcases hm with hm | ⟨k,o,hk,hb,_⟩
 ·exact Nat.lt_of_lt_of_le (h.m0 _ _ hm) h.size
 ·exact (h.obs k o hk).blk_lt b hb
theorem E73 {w w':World} (h:Below w.heap.size w w') {b i:Nat} {z:Value} (hc:w.cell? ⟨b,i,none⟩=some z):w'.cell? ⟨b,i,none⟩=some z:=by
 have hlt:b < w.heap.size:=World.block_lt_of_cell? w _ hc
 rw [h.cell (p:=⟨b,i,none⟩) hlt];exact hc
theorem B27 {M:Nat→Nat→Prop} (hx:Below w.heap.size w w') {b i:Nat} {z:Value} (h:F0 M w b i z):F0 M w' b i z:=⟨E73 hx h.1,h.2⟩
theorem ObOk.ext {rd rd':Rd} {u:Value} {o:Ob} (hr:∀b i z,rd b i z→rd' b i z) (hx:Below w.heap.size w w') (h:ObOk S rd G w u o):ObOk S rd' G w' u o:=by
 cases o with
 | box ts =>
  obtain ⟨b',vs,t,rfl,hh,ha⟩:=h
  exact ⟨b',vs,t,rfl,by rw [hx.block b' (Array.getElem?_eq_some_iff.1 hh).1];exact hh,ha.mono fun _ _=>TC.rep_mono hr⟩
 | tbx e ts =>
  obtain ⟨b',vs,rfl,hh,ha⟩:=h
  exact ⟨b',vs,rfl,by rw [hx.block b' (Array.getElem?_eq_some_iff.1 hh).1];exact hh,ha.mono fun _ _=>TC.rep_mono hr⟩
 | tarr n ec ts =>
  obtain ⟨b',vs,t,rfl,h2,hh,h3,ha⟩:=h
  exact ⟨b',vs,t,rfl,h2,by rw [hx.block b' (Array.getElem?_eq_some_iff.1 hh).1];exact hh,h3,ha.mono fun _ _=>TC.rep_mono hr⟩
 | arr α ec c xs =>
  obtain ⟨b',vs,t,rfl,h2,hh,h3,ha⟩:=h
  refine ⟨b',vs,t,rfl,h2,by rw [hx.block b' (Array.getElem?_eq_some_iff.1 hh).1];exact hh,h3,fun i hi j hj=>?_⟩
  obtain ⟨z,hz1,hz2⟩:=ha i hi j hj
  exact ⟨z,hz1,Cell.rep_mono hr _ _ hz2⟩
 | grow e α ec c xs =>
  obtain ⟨vs,h,hl,ha⟩:=h
  refine ⟨vs,h.kept (row:=none) ⟨hx.os,hx.tape,hx.output,hx.size,fun k hk _=>hx.block k hk⟩ (by cases hb:u.ownBlock<;>simp),hl,fun i hi j hj=>?_⟩
  obtain ⟨z,hz1,hz2⟩:=ha i hi j hj
  exact ⟨z,hz1,Cell.rep_mono hr _ _ hz2⟩
 | map κ kf kvs =>
  obtain ⟨r,es,clock,rfl,hh,ha⟩:=h
  exact ⟨r,es,clock,rfl,by rw [hx.block r (Array.getElem?_eq_some_iff.1 hh).1];exact hh,ha.mono fun _ _ ⟨e1,e2⟩=>⟨e1,Cell.rep_mono hr _ _ e2⟩⟩
 | growA e α ec c xs p ts =>
  obtain ⟨vs,h,hl,hp,ht,ha,hts⟩:=h
  refine ⟨vs,h.kept (row:=none) ⟨hx.os,hx.tape,hx.output,hx.size,fun k hk _=>hx.block k hk⟩ (by cases hb:u.ownBlock<;>simp),hl,hp,ht,fun i hi hne j hj=>?_,hts.mono fun _ _=>TC.rep_mono hr⟩
  obtain ⟨z,hz1,hz2⟩:=ha i hi hne j hj
  exact ⟨z,hz1,Cell.rep_mono hr _ _ hz2⟩
 | growT e n ec ts =>
  obtain ⟨vs,h,hl,ht,hts⟩:=h
  exact ⟨vs,h.kept (row:=none) ⟨hx.os,hx.tape,hx.output,hx.size,fun k hk _=>hx.block k hk⟩ (by cases hb:u.ownBlock<;>simp),hl,ht,hts.mono fun _ _=>TC.rep_mono hr⟩
 | spare n ec e =>
  obtain ⟨vs,h⟩:=h
  exact ⟨vs,h.kept (row:=none) ⟨hx.os,hx.tape,hx.output,hx.size,fun k hk _=>hx.block k hk⟩ (by cases hb:u.ownBlock<;>simp)⟩
theorem Grd.ext {io:Nat→Prop} (hx:Below w.heap.size w w') (h:Grd P io w):Grd P io w':=by
 obtain ⟨wg,h1,h2,h3⟩:=h
 exact ⟨wg,h1,Nat.le_trans h2 hx.size,fun k hk=>⟨(hx.block k (Nat.lt_of_lt_of_le hk h2)).trans (h3 k hk).1,(h3 k hk).2⟩⟩
theorem Sim.ext (h:Sim P S fr ob G a w) (hx:Below w.heap.size w w'):Sim P S fr ob G a w' where
 nt:=h.nt
 ntb:=h.ntb
 defers:=h.defers
 os:=hx.os.trans h.os
 tape:=hx.tape.trans h.tape
 output:=hx.output.trans h.output
 size:=Nat.le_trans h.size hx.size
 keep:=fun k hk hn=>(hx.block k (Nat.lt_of_lt_of_le hk h.size)).trans (h.keep k hk hn)
 m0:=h.m0
 m0io:=h.m0io
 grd:=h.grd
 pin:=h.pin
 old:=h.old
 dis:=h.dis
 obs:=fun k o hk=>(h.obs k o hk).ext (fun _ _ _=>B27 hx) hx
 facts:=fun i s hi=>SV.rep_mono (fun _ _ _=>B27 hx) (h.facts i s hi)
theorem F72 (t:Array Value) (d:Nat) (v:Value) (hd:d < t.size):(t.setIfInBounds d v).getD d undef=v:=by
 simp [Array.getD,hd]
theorem E74 (t:Array Value) {d i:Nat} (v:Value) (hd:d≠i):(t.setIfInBounds d v).getD i undef=t.getD i undef:=by
 simp only [Array.getD_eq_getD_getElem?,Array.getElem?_setIfInBounds_ne hd]
theorem Ctx.sl_put_same (h:Sim P S fr ob G a w) {d:Nat} {v:Value} (hd:d < S.nt):S.sl (a.put (some d) v) d=v:=by
 rw [Ctx.sl_lt (by have:=h.ntb;omega)]
 simp only [Act.put]
 exact F72 _ _ _ (by rw [h.nt];exact hd)
theorem Ctx.sl_put_other {d i:Nat} {v:Value} (he:d≠i):S.sl (a.put (some d) v) i=S.sl a i:=by
 by_cases hi:i < 1000000
 ·rw [Ctx.sl_lt hi,Ctx.sl_lt hi]
  simp only [Act.put]
  exact E74 _ _ he
 ·rw [Ctx.sl_ge (by omega),Ctx.sl_ge (by omega)]
theorem Sim.put (h:Sim P S fr ob G a w) {d:Nat} (hd:d < S.nt) {s:SV} {v:Value} (hs:s.rep (F0 (Mut S ob G) w) G v):Sim P S ((d,s)::fr) ob G (a.put (some d) v) w where
 nt:=by simpa [Act.put] using h.nt
 ntb:=h.ntb
 defers:=h.defers
 os:=h.os
 tape:=h.tape
 output:=h.output
 size:=h.size
 keep:=h.keep
 m0:=h.m0
 m0io:=h.m0io
 grd:=h.grd
 pin:=h.pin
 old:=h.old
 dis:=h.dis
 obs:=h.obs
 facts:=fun i s' hi=>by
  by_cases he:d=i
  ·subst he
   rw [E0] at hi
   cases hi
   rw [Ctx.sl_put_same h hd]
   exact hs
  ·rw [C8 he] at hi
   rw [Ctx.sl_put_other he]
   exact h.facts i s' hi
theorem Sim.weaken (h:Sim P S fr ob G a w) {fr':Fr} (hf:∀i s,E5 fr' i=some s→E5 fr i=some s):Sim P S fr' ob G a w :=
 { h with facts:=fun i s hi=>h.facts i s (hf i s hi) }
end sim
def Does (P:Program) (o:Oper) (a:Act) (w:World) (K:Value→World→Prop):Prop :=
 match (execOp a.eval o).run P w with
 | .ok (.value v) w'=>K v w'
 | .ok .skip w'=>K undef w'
 | .ok (.enter f args) w'=>Calls P f args w' (fun e w''=>∃v,e=.returned v∧K v w'')
 | _=>False
theorem M9 {P:Program} {o:Oper} {a:Act} {w:World} {K:Value→World→Prop} (h:Does P o a w K) {next:Act→World→Prop} {Q:Exit→Act→World→Prop}
  (hk:∀v w',K v w'→next (a.put o.dst v) w'):o.wp P a w next Q:=by
 unfold Does at h
 unfold Oper.wp
 generalize (execOp a.eval o).run P w=r at *
 cases r with
 | ok n w' =>
  cases n<;>simp only at h<;>simp only [Oper.upon]<;>try exact h.elim
  case value v=>exact hk _ _ h
  case skip=>exact hk _ _ h
  case enter f args =>
   refine h.mono ?_
   rintro e w'' ⟨v,rfl,hv⟩
   exact hk _ _ hv
 | halt x w'=>exact h.elim
theorem J9 {P:Program} {o:Oper} {a:Act} {w w':World} {v:Value} {K:Value→World→Prop} (h:(execOp a.eval o).run P w=.ok (.value v) w') (hk:K v w'):Does P o a w K:=by
 unfold Does;rw [h];exact hk
def Neu (P:Program) (o:Oper) (fr:Fr) (ob:Obs) (post:SV→Prop):Prop :=
 ∀S G a w,Sim P S fr ob G a w→Does P o a w (fun v w'=>Below w.heap.size w w'∧∃s,post s∧s.rep (F0 (Mut S ob G) w') G v)
def Eff (P:Program) (o:Oper) (fr:Fr) (ob:Obs) (fr':Fr) (ob':Obs):Prop :=
 ∀S G a w,Sim P S fr ob G a w→Does P o a w (fun _ w'=>∃G',Sim P S fr' ob' G' a w')
def EffV (P:Program) (o:Oper) (fr:Fr) (ob:Obs) (s:SV) (fr':Fr) (ob':Obs):Prop :=
 ∀S G a w,Sim P S fr ob G a w→Does P o a w (fun v w'=>∃G',Sim P S fr' ob' G' a w'∧s.rep (F0 (Mut S ob' G') w') G' v)
section steps
variable {P:Program} {nt:Nat} {ops:Array Oper} {rest:List Oper} {o:Oper} {fr:Fr} {ob:Obs} {Q:Post} {d:Nat}
theorem l_neuP {op:Op} {ty:TypeId} {pos:String} {af:Array Edge} {post:SV→Prop} (h:Neu P ⟨some d,op,ty,pos,af,none⟩ fr ob post) (hd:Nat.blt d nt=true) (k:∀s,post s→WpL P nt ops rest ((d,s)::fr) ob Q) :
  WpL P nt ops (⟨some d,op,ty,pos,af,none⟩::rest) fr ob Q:=by
 intro S G a w hn hs
 refine wpList_plain A0 fun K hK=>M9 (h S G a w hs) ?_
 rintro v w' ⟨hx,s,hp,hv⟩
 have hlt:d < S.nt:=by rw [hn];simpa using hd
 exact hK _ _ (k s hp S G _ w' hn ((hs.ext hx).put hlt hv))
theorem A6 {op:Op} {ty:TypeId} {pos:String} {af:Array Edge} {s:SV} (h:Neu P ⟨some d,op,ty,pos,af,none⟩ fr ob (fun s'=>s'=s)) (hd:Nat.blt d nt=true) (k:WpL P nt ops rest ((d,s)::fr) ob Q) :
  WpL P nt ops (⟨some d,op,ty,pos,af,none⟩::rest) fr ob Q :=
 l_neuP h hd fun _ he=>he ▸ k
theorem G1 {op:Op} {ty:TypeId} {pos:String} {af:Array Edge} {fr':Fr} {ob':Obs} (h:Eff P ⟨none,op,ty,pos,af,none⟩ fr ob fr' ob') (k:WpL P nt ops rest fr' ob' Q) :
  WpL P nt ops (⟨none,op,ty,pos,af,none⟩::rest) fr ob Q:=by
 intro S G a w hn hs
 refine wpList_plain A0 fun K hK=>M9 (h S G a w hs) ?_
 rintro v w' ⟨G',hs'⟩
 exact hK _ _ (k S G' _ w' hn hs')
theorem D1 {op:Op} {ty:TypeId} {pos:String} {af:Array Edge} {fr':Fr} {ob':Obs} {s:SV} (h:EffV P ⟨some d,op,ty,pos,af,none⟩ fr ob s fr' ob') (hd:Nat.blt d nt=true) (k:WpL P nt ops rest ((d,s)::fr') ob' Q) :
  WpL P nt ops (⟨some d,op,ty,pos,af,none⟩::rest) fr ob Q:=by
 intro S G a w hn hs
 refine wpList_plain A0 fun K hK=>M9 (h S G a w hs) ?_
 rintro v w' ⟨G',hs',hv⟩
 have hlt:d < S.nt:=by rw [hn];simpa using hd
 exact hK _ _ (k S G' _ w' hn (hs'.put hlt hv))
theorem G9 {op:Op} {ty:TypeId} {pos:String} {af:Array Edge} {dst:Option Tmp} {j t:Nat} {b x:Bool} (ht:(ops[j]?).bind (·.dst)=some t) (htn:Nat.blt t nt=true) (hx:E5 fr t=some (.s (.one (.p (.v (.bool x)))))) (hb:x=b)
  (k:WpL P nt ops (⟨dst,op,ty,pos,af,none⟩::rest) fr ob Q):WpL P nt ops (⟨dst,op,ty,pos,af,some (j,b)⟩::rest) fr ob Q:=by
 intro S G a w hn hs
 have hk:=k S G a w hn hs
 have hts:t < a.tmps.size:=by rw [hs.nt,hn];simpa using htn
 have hv:=(hs.fact (by rw [←hs.nt];exact hts) hx).1
 have hget:a.tmps[t]?=some (.bool x):=by rw [←hv];simp [Array.getD,hts]
 have hy:yielded ops a.tmps j=some b:=by
  unfold yielded
  rw [ht];simp only [Option.bind_some,hget,hb]
 unfold wpList at hk ⊢
 rw [if_pos (by simp [Region.wanted])] at hk
 rw [if_pos (by simp [Region.wanted,hy])]
 rcases hk with hk | hk
 ·refine .inl ?_
  unfold Oper.wp Oper.upon at hk ⊢
  exact hk
 ·refine .inr ⟨?_,hk.2⟩
  exact hk.1
inductive Wants (b:Bool):SV→Bool→Prop
 | val (x:Bool):Wants b (.s (.one (.p (.v (.bool x))))) (x == b)
 | un:Wants b .un false
theorem Wants.yields {b:Bool} {s:SV} {W:Bool} (hW:Wants b s W) {rd:Rd} {G:Gh} {v:Value} (hv:s.rep rd G v) {ops:Array Oper} {tmps:Array Value} {j t:Nat} (ht:(ops[j]?).bind (·.dst)=some t) (hts:t < tmps.size) (hg:tmps.getD t undef=v) :
  (yielded ops tmps j == some b)=W:=by
 have hget:tmps[t]?=some v:=by rw [←hg];simp [Array.getD,hts]
 unfold yielded
 rw [ht];simp only [Option.bind_some,hget]
 cases hW with
 | val x=>obtain ⟨rfl,_⟩:=hv;cases x<;>cases b<;>rfl
 | un=>rw [show v=undef from hv];rfl
theorem K1 {op:Op} {ty:TypeId} {pos:String} {af:Array Edge} {j t:Nat} {b x:Bool} (ht:(ops[j]?).bind (·.dst)=some t) (htn:Nat.blt t nt=true) (hx:E5 fr t=some (.s (.one (.p (.v (.bool x)))))) (hb:x≠b) (hd:Nat.blt d nt=true)
  (k:WpL P nt ops rest ((d,.un)::fr) ob Q):WpL P nt ops (⟨some d,op,ty,pos,af,some (j,b)⟩::rest) fr ob Q:=by
 intro S G a w hn hs
 have hlt:d < S.nt:=by rw [hn];simpa using hd
 have hk:=k S G _ w hn (hs.put (s:=.un) (v:=undef) hlt rfl)
 have hts:t < a.tmps.size:=by rw [hs.nt,hn];simpa using htn
 have hv:=(hs.fact (by rw [←hs.nt];exact hts) hx).1
 have hget:a.tmps[t]?=some (.bool x):=by rw [←hv];simp [Array.getD,hts]
 have hy:yielded ops a.tmps j=some x:=by
  unfold yielded
  rw [ht];simp only [Option.bind_some,hget]
 unfold wpList
 rw [if_neg (by simp [Region.wanted,hy,hb])]
 exact hk
theorem N0 {op:Op} {ty:TypeId} {pos:String} {af:Array Edge} {j t:Nat} {b W:Bool} {s sv:SV} (ht:(ops[j]?).bind (·.dst)=some t) (htn:Nat.blt t nt=true) (hx:E5 fr t=some sv) (hW:Wants b sv W) (hd:Nat.blt d nt=true)
  (h:W=true→Neu P ⟨some d,op,ty,pos,af,none⟩ fr ob (fun s'=>s'=s)) (k:WpL P nt ops rest ((d,cond (W == true) s .un)::fr) ob Q):WpL P nt ops (⟨some d,op,ty,pos,af,some (j,b)⟩::rest) fr ob Q:=by
 intro S G a w hn hs
 have hts:t < a.tmps.size:=by rw [hs.nt,hn];simpa using htn
 have hy:=hW.yields (hs.fact (by rw [←hs.nt];exact hts) hx) ht hts rfl
 have hw:∀(o:Oper),o.guard=some (j,b)→Region.wanted o (yielded ops a.tmps)=W:=fun o ho=>by
  unfold Region.wanted;rw [ho];simp only;rw [←hy]
 cases hWb:W with
 | false =>
  rw [hWb] at k hw
  have hlt:d < S.nt:=by rw [hn];simpa using hd
  have hk:=k S G _ w hn (hs.put (s:=.un) (v:=undef) hlt rfl)
  unfold wpList
  rw [if_neg (by rw [hw _ rfl];simp)]
  exact hk
 | true =>
  rw [hWb] at k hw h
  have hk:=A6 (ops:=ops) (h rfl) hd k S G a w hn hs
  unfold wpList at hk ⊢
  rw [if_pos (by simp [Region.wanted])] at hk
  rw [if_pos (by rw [hw _ rfl])]
  rcases hk with hk | hk
  ·refine .inl ?_
   unfold Oper.wp Oper.upon at hk ⊢
   exact hk
  ·exact .inr ⟨hk.1,hk.2⟩
def b8 (fr:Fr):List Nat→Fr
 | []=>[]
 | i::r=>match E5 fr i with
  | some s=>(i,s)::b8 fr r
  | none=>b8 fr r
theorem A46 {fr:Fr}:∀{l:List Nat} {i:Nat} {s:SV},E5 (b8 fr l) i=some s→E5 fr i=some s
 | [],i,s,h=>by simp [b8,E5] at h
 | j::l,i,s,h=>by
  unfold b8 at h
  split at h
  ·rename_i s' hs'
   by_cases he:j=i
   ·subst he;rw [E0] at h;rw [←h];exact hs'
   ·rw [C8 he] at h;exact A46 h
  ·exact A46 h
def FrIn (fr:Fr):Fr→Prop
 | []=>True
 | (i,s)::r=>E5 fr i=some s∧FrIn fr r
theorem FrIn.spec {fr:Fr}:∀{fr':Fr},FrIn fr fr'→∀i s,E5 fr' i=some s→E5 fr i=some s
 | [],_,i,s,h=>by simp [E5] at h
 | (j,t)::r,hf,i,s,h=>by
  by_cases he:j=i
  ·subst he;rw [E0] at h;cases h;exact hf.1
  ·rw [C8 he] at h;exact FrIn.spec hf.2 i s h
end steps
def E61:Value→SV
 | .agg cs=>.s (.agg (cs.toList.map fun c=>.p (.v c)))
 | .tuple _=>.any
 | v=>.s (.one (.p (.v v)))
def opv (fr:Fr):Operand→Option SV
 | .tmp t=>c9 fr t
 | .const v=>some (E61 v)
 | .func f=>some (.s (.one (.p (.v (.func (.func f) #[] #[])))))
 | .global g=>some (.s (.one (.p (.v (.pointer (some ⟨g,0,none⟩))))))
def H8:Operand→Bool
 | .const (.agg cs)=>cs.toList.all (·.oneCell')
 | _=>true
theorem o8 {rd:Rd} {G:Gh}:∀(cs:List Value),cs.all (·.oneCell')=true→All2 (TC.rep rd G) (cs.map fun c=>.p (.v c)) cs
 | [],_=>trivial
 | c::cs,h=>by
  simp only [List.all_cons,L02] at h
  exact ⟨⟨rfl,h.1⟩,o8 cs h.2⟩
theorem V1 {P:Program} {S:Ctx} {fr:Fr} {ob:Obs} {G:Gh} {a:Act} {w:World} (h:Sim P S fr ob G a w) {x:Operand} {s:SV} (hx:opv fr x=some s) (hc:H8 x=true) :
  s.rep (F0 (Mut S ob G) w) G (a.eval x):=by
 cases x with
 | tmp t=>exact h.slot hx
 | const v =>
  simp only [opv,Option.some.injEq] at hx
  subst hx
  cases v<;>first | exact ⟨rfl,rfl⟩ | trivial | skip
  rename_i cs
  exact ⟨cs.toList,rfl,o8 _ (by simpa [H8] using hc)⟩
 | global g=>simp only [opv,Option.some.injEq] at hx;subst hx;exact ⟨rfl,rfl⟩
 | func f=>simp only [opv,Option.some.injEq] at hx;subst hx;exact ⟨rfl,rfl⟩
theorem G5 {P:Program} {S:Ctx} {fr:Fr} {ob:Obs} {G:Gh} {a:Act} {w:World} (h:Sim P S fr ob G a w) {x:Operand} {v:Value} (hx:opv fr x=some (.s (.one (.p (.v v))))):a.eval x=v:=by
 cases x with
 | tmp t=>exact (h.slot hx).1
 | const u =>
  simp only [opv,Option.some.injEq] at hx
  cases u<;>simp [E61] at hx<;>(subst hx;rfl)
 | global g=>simp only [opv,Option.some.injEq,SV.s.injEq,S1.one.injEq,TC.p.injEq,Cell.v.injEq] at hx;subst hx;rfl
 | func f=>simp only [opv,Option.some.injEq,SV.s.injEq,S1.one.injEq,TC.p.injEq,Cell.v.injEq] at hx;subst hx;rfl
theorem J0 {P:Program} {S:Ctx} {fr:Fr} {ob:Obs} {G:Gh} {a:Act} {w:World} (h:Sim P S fr ob G a w) {x:Operand} {t:TC} (hx:opv fr x=some (.s (.one t))):t.rep (F0 (Mut S ob G) w) G (a.eval x):=by
 refine V1 h hx ?_
 cases x with
 | const u =>
  cases u<;>first | rfl | skip
  simp [opv,E61] at hx
 | _=>rfl
abbrev I7 (v:Value):SV:=.s (.one (.p (.v v)))
abbrev C7 (n:Int):SV:=.s (.one (.p (.v (.int .i64 n))))
abbrev S0 (b:Bool):SV:=.s (.one (.p (.v (.bool b))))
abbrev D6 (α:Type) (ec:Nat) (c:α→Nat→Cell) (xs:List α):SV:=.s (.one (.p (.list α ec c xs)))
end Go.AL
namespace Go.AL
open Go Go.RowKit
set_option linter.unusedVariables false
abbrev str (l:List UInt8):Value:=.string ⟨l.toArray⟩
abbrev Z9 (l:List UInt8):SV:=.s (.one (.p (.v (.string ⟨l.toArray⟩))))
theorem A10 (l:List UInt8):(ByteArray.mk l.toArray).size=l.length:=by simp [ByteArray.size]
section
variable {P:Program} {dst:Option Tmp} {ty:TypeId} {pos:String} {af:Array Edge} {gd:Option (Nat × Bool)} {fr:Fr} {ob:Obs}
theorem F5 {op:Op} {s:SV} (h:∀S G a w,Sim P S fr ob G a w→∃v,(execOp a.eval ⟨dst,op,ty,pos,af,gd⟩).run P w=.ok (.value v) w∧s.rep (F0 (Mut S ob G) w) G v) :
  Neu P ⟨dst,op,ty,pos,af,gd⟩ fr ob (fun s'=>s'=s):=by
 intro S G a w hs
 obtain ⟨v,hr,hv⟩:=h S G a w hs
 exact J9 hr ⟨Below.refl _ _,s,rfl,hv⟩
theorem M6 {x:Sem Value} {w w':World} {v:Value} (h:x.run P w=.ok v w'):(do pure (Next.value (←x)):Sem Next).run P w=.ok (.value v) w':=by
 simp [h]
theorem C2 {x:Operand} {s:SV} (hx:opv fr x=some s) (hc:H8 x=true):Neu P ⟨dst,.move x,ty,pos,af,gd⟩ fr ob (fun s'=>s'=s) :=
 F5 fun S G a w hs=>⟨a.eval x,rfl,V1 hs hx hc⟩
theorem H5 {x:Operand} {s:SV} (hx:opv fr x=some s) (hc:H8 x=true):Neu P ⟨dst,.assign x,ty,pos,af,gd⟩ fr ob (fun s'=>s'=s) :=
 F5 fun S G a w hs=>⟨a.eval x,rfl,V1 hs hx hc⟩
theorem I4 {rd:Rd} (α:Type) (ec:Nat) (c:α→Nat→Cell):(Cell.list α ec c []).rep rd (.slice none 0 0):=by
 simp only [Cell.rep]
 exact ⟨none,0,rfl,⟨Nat.le_refl _,fun _=>rfl⟩,by simp,.inl rfl⟩
theorem H4 (α:Type) (ec:Nat) (c:α→Nat→Cell):Neu P ⟨dst,.assign (.const (.slice none 0 0)),ty,pos,af,gd⟩ fr ob (fun s'=>s'=D6 α ec c []) :=
 F5 fun S G a w hs=>⟨_,rfl,I4 α ec c⟩
theorem L8 {c x y:Operand} {b p q:Bool} (hc:opv fr c=some (S0 b)) (hx:b=true→opv fr x=some (S0 p)) (hy:b=false→opv fr y=some (S0 q)) :
  Neu P ⟨dst,.pick c x y,ty,pos,af,gd⟩ fr ob (fun s'=>s'=S0 (if b then p else q)) :=
 F5 fun S G a w h=>by
  have:=G5 h hc
  cases b
  ·exact ⟨.bool q,by simp [execOp,this,asBool,G5 h (hy rfl)],rfl,rfl⟩
  ·exact ⟨.bool p,by simp [execOp,this,asBool,G5 h (hx rfl)],rfl,rfl⟩
theorem w7 {op:BinOp} {t yt:TypeId} {x y:Operand} {u v r:Value} (hx:opv fr x=some (I7 u)) (hy:opv fr y=some (I7 v))
  (hg:∀w:World,(eqGuard op t x y u v).run P w=.ok () w) (hr:∀w:World,(binOp op t u v).run P w=.ok r w) (h1:r.oneCell'=true):Neu P ⟨dst,.binOp op t x y yt,ty,pos,af,gd⟩ fr ob (fun s'=>s'=I7 r) :=
 F5 fun S G a w h=>by
  refine ⟨r,?_,rfl,h1⟩
  simp only [execOp,G5 h hx,G5 h hy]
  exact M6 (by simp [hg,hr])
section
variable {t yt:TypeId} {x y:Operand} {k:IntKind} {a b:Int}
theorem J25 (hx:opv fr x=some (I7 (.int k a))) (hy:opv fr y=some (I7 (.int k b))):Neu P ⟨dst,.binOp .add t x y yt,ty,pos,af,gd⟩ fr ob (fun s'=>s'=I7 (.int k (k.wrap (a+b)))) :=
 w7 hx hy (fun _=>rfl) (fun w=>by simp [binOp,Op.intArith]) rfl
theorem J26 (hx:opv fr x=some (I7 (.int k a))) (hy:opv fr y=some (I7 (.int k b))):Neu P ⟨dst,.binOp .sub t x y yt,ty,pos,af,gd⟩ fr ob (fun s'=>s'=I7 (.int k (k.wrap (a - b)))) :=
 w7 hx hy (fun _=>rfl) (fun w=>by simp [binOp,Op.intArith]) rfl
theorem n_mul_w (hx:opv fr x=some (I7 (.int k a))) (hy:opv fr y=some (I7 (.int k b))):Neu P ⟨dst,.binOp .mul t x y yt,ty,pos,af,gd⟩ fr ob (fun s'=>s'=I7 (.int k (k.wrap (a*b)))) :=
 w7 hx hy (fun _=>rfl) (fun w=>by simp [binOp,Op.intArith]) rfl
theorem l6 (hx:opv fr x=some (C7 a)) (hy:opv fr y=some (C7 b)) (h:-9223372036854775808≤a+b∧a+b≤9223372036854775807):Neu P ⟨dst,.binOp .add t x y yt,ty,pos,af,gd⟩ fr ob (fun s'=>s'=C7 (a+b)):=by
 have:=J25 (P:=P) (dst:=dst) (ty:=ty) (pos:=pos) (af:=af) (gd:=gd) (t:=t) (yt:=yt) (ob:=ob) hx hy
 rwa [IntWalk.i64_in _ h] at this
theorem N1 (hx:opv fr x=some (C7 a)) (hy:opv fr y=some (C7 b)) (h:-9223372036854775808≤a - b∧a - b≤9223372036854775807):Neu P ⟨dst,.binOp .sub t x y yt,ty,pos,af,gd⟩ fr ob (fun s'=>s'=C7 (a - b)):=by
 have:=J26 (P:=P) (dst:=dst) (ty:=ty) (pos:=pos) (af:=af) (gd:=gd) (t:=t) (yt:=yt) (ob:=ob) hx hy
 rwa [IntWalk.i64_in _ h] at this
theorem B80 (hx:opv fr x=some (C7 a)) (hy:opv fr y=some (C7 b)) (h:-9223372036854775808≤a*b∧a*b≤9223372036854775807):Neu P ⟨dst,.binOp .mul t x y yt,ty,pos,af,gd⟩ fr ob (fun s'=>s'=C7 (a*b)):=by
 have:=n_mul_w (P:=P) (dst:=dst) (ty:=ty) (pos:=pos) (af:=af) (gd:=gd) (t:=t) (yt:=yt) (ob:=ob) hx hy
 rwa [IntWalk.i64_in _ h] at this
theorem n_rem (hx:opv fr x=some (I7 (.int k a))) (hy:opv fr y=some (I7 (.int k b))) (h:b≠0):Neu P ⟨dst,.binOp .rem t x y yt,ty,pos,af,gd⟩ fr ob (fun s'=>s'=I7 (.int k (a.tmod b))) :=
 w7 hx hy (fun _=>rfl) (fun w=>by simp [binOp,Op.intDiv,h]) rfl
theorem G58 (hx:opv fr x=some (I7 (.int k a))) (hy:opv fr y=some (I7 (.int k b))) (h:b≠0):Neu P ⟨dst,.binOp .quo t x y yt,ty,pos,af,gd⟩ fr ob (fun s'=>s'=I7 (.int k (k.wrap (a.tdiv b)))) :=
 w7 hx hy (fun _=>rfl) (fun w=>by simp [binOp,Op.intDiv,h]) rfl
theorem n_bits {op:BinOp} {r:Int} (hx:opv fr x=some (I7 (.int k a))) (hy:opv fr y=some (I7 (.int k b))) (ho:(match op with | .and | .or | .xor | .andNot=>true | _=>false)=true)
  (hr:∀w:World,(Op.intBits op k a b).run P w=.ok (.int k r) w):Neu P ⟨dst,.binOp op t x y yt,ty,pos,af,gd⟩ fr ob (fun s'=>s'=I7 (.int k r)) :=
 w7 hx hy (fun _=>by cases op<;>first | rfl | simp at ho) (fun w=>by cases op<;>first | (simp [binOp];exact hr w) | simp at ho) rfl
theorem n_shl {yk:IntKind} (hx:opv fr x=some (I7 (.int k a))) (hy:opv fr y=some (I7 (.int yk b))) (h:0≤b):Neu P ⟨dst,.binOp .shl t x y yt,ty,pos,af,gd⟩ fr ob (fun s'=>s'=I7 (.int k (k.wrap (a*2 ^ (min b.toNat k.bits))))) :=
 w7 hx hy (fun _=>rfl) (fun w=>by simp [binOp,Op.shift,Int.not_lt.2 h]) rfl
theorem n_shr {yk:IntKind} (hx:opv fr x=some (I7 (.int k a))) (hy:opv fr y=some (I7 (.int yk b))) (h:0≤b):Neu P ⟨dst,.binOp .shr t x y yt,ty,pos,af,gd⟩ fr ob (fun s'=>s'=I7 (.int k (a.fdiv (2 ^ (min b.toNat k.bits))))) :=
 w7 hx hy (fun _=>rfl) (fun w=>by simp [binOp,Op.shift,Int.not_lt.2 h]) rfl
theorem A75 (hx:opv fr x=some (I7 (.int k a))) (hy:opv fr y=some (I7 (.int k b))):Neu P ⟨dst,.binOp .lss t x y yt,ty,pos,af,gd⟩ fr ob (fun s'=>s'=S0 (decide (a < b))) :=
 w7 hx hy (fun _=>rfl) (fun w=>by simp [binOp,Op.intCmp]) rfl
theorem B81 (hx:opv fr x=some (I7 (.int k a))) (hy:opv fr y=some (I7 (.int k b))):Neu P ⟨dst,.binOp .leq t x y yt,ty,pos,af,gd⟩ fr ob (fun s'=>s'=S0 (decide (a≤b))) :=
 w7 hx hy (fun _=>rfl) (fun w=>by simp [binOp,Op.intCmp]) rfl
theorem O1 (hx:opv fr x=some (I7 (.int k a))) (hy:opv fr y=some (I7 (.int k b))):Neu P ⟨dst,.binOp .gtr t x y yt,ty,pos,af,gd⟩ fr ob (fun s'=>s'=S0 (decide (b < a))) :=
 w7 hx hy (fun _=>rfl) (fun w=>by simp [binOp,Op.intCmp]) rfl
theorem V2 (hx:opv fr x=some (I7 (.int k a))) (hy:opv fr y=some (I7 (.int k b))):Neu P ⟨dst,.binOp .geq t x y yt,ty,pos,af,gd⟩ fr ob (fun s'=>s'=S0 (decide (b≤a))) :=
 w7 hx hy (fun _=>rfl) (fun w=>by simp [binOp,Op.intCmp]) rfl
theorem H0 (hx:opv fr x=some (I7 (.int k a))) (hy:opv fr y=some (I7 (.int k b))):Neu P ⟨dst,.binOp .eql t x y yt,ty,pos,af,gd⟩ fr ob (fun s'=>s'=S0 (decide (a=b))) :=
 w7 hx hy (fun _=>rfl) (fun w=>by simp [binOp,Op.intCmp];rfl) rfl
theorem O2 (hx:opv fr x=some (I7 (.int k a))) (hy:opv fr y=some (I7 (.int k b))):Neu P ⟨dst,.binOp .neq t x y yt,ty,pos,af,gd⟩ fr ob (fun s'=>s'=S0 (decide (a≠b))) :=
 w7 hx hy (fun _=>rfl) (fun w=>by simp only [binOp,Op.intCmp];simp;rfl) rfl
variable {l m:List UInt8}
theorem H36 (l m:List UInt8):(l == m)=decide (l=m):=by rw [Bool.eq_iff_iff];simp
theorem O5 (hx:opv fr x=some (Z9 l)) (hy:opv fr y=some (Z9 m)):Neu P ⟨dst,.binOp .eql t x y yt,ty,pos,af,gd⟩ fr ob (fun s'=>s'=S0 (decide (l=m))) :=
 w7 hx hy (fun _=>rfl) (fun w=>by rw [binOp_string_eql,ByteArray.toList_mk,ByteArray.toList_mk,H36];rfl) rfl
theorem J27 (hx:opv fr x=some (Z9 l)) (hy:opv fr y=some (Z9 m)):Neu P ⟨dst,.binOp .neq t x y yt,ty,pos,af,gd⟩ fr ob (fun s'=>s'=S0 (decide (l≠m))) :=
 w7 hx hy (fun _=>rfl) (fun w=>by rw [binOp_string_neq,ByteArray.toList_mk,ByteArray.toList_mk,H36];simp) rfl
theorem n_add_s (hx:opv fr x=some (Z9 l)) (hy:opv fr y=some (Z9 m)) (h:l.length+m.length≤9223372036854775807):Neu P ⟨dst,.binOp .add t x y yt,ty,pos,af,gd⟩ fr ob (fun s'=>s'=Z9 (l++m)) :=
 w7 hx hy (fun _=>rfl) (fun w=>by rw [binOp_string_add,run_string_add_sum _ _ _ (by rw [A10,A10];exact h),ByteArray.mk_append_mk]) rfl
end
theorem S2 {x:Operand} {t:TypeId} {b:Bool} (hx:opv fr x=some (S0 b)):Neu P ⟨dst,.unOp .not t x,ty,pos,af,gd⟩ fr ob (fun s'=>s'=S0 (!b)) :=
 F5 fun S G a w h=>⟨.bool (!b),by simp only [execOp,G5 h hx];exact M6 (by simp [Op.unary]),rfl,rfl⟩
class TyOne (P:Program) (t:TypeId):Prop where
 out:∃d,P.underlying t=some d∧(match d with | .struct _ | .array _ _=>False | _=>True)
class TyAgg (P:Program) (t:TypeId) (n:outParam Nat):Prop where
 out:(∃d,P.underlying t=some d∧(match d with | .struct _ | .array _ _=>True | _=>False))∧(P.info? t).map (·.size)=some n
class TySl (P:Program) (t:TypeId) (e:outParam TypeId) (ec bytes:outParam Nat):Prop where
 out:P.underlying t=some (.slice e)∧(P.info? e).map (fun i=>(i.size,i.bytes))=some (ec,bytes)∧0 < ec∧bytes≤4096∧((P.info? e).bind (·.zero)).map (fun z=>z.cells.size)=some ec
class TyFld (P:Program) (t:TypeId) (f:Nat) (off n:outParam Nat):Prop where
 out:∃fs fd,P.underlying t=some (.struct fs)∧fs[f]?=some fd∧fd.offset=off∧(P.info? fd.type).map (·.size)=some n∧0 < n
class TyStr (P:Program) (t:TypeId):Prop where
 out:P.underlying t=some .string
class TyInt (P:Program) (t:TypeId) (k:outParam IntKind):Prop where
 out:P.underlying t=some (.int k)
class TyBool (P:Program) (t:TypeId):Prop where
 out:P.underlying t=some .bool
theorem F73 {t:TypeId} [h:TyOne P t] (w:World):(isAgg t).run P w=.ok false w:=by
 obtain ⟨d,h1,h2⟩:=h.out
 cases d<;>simp [isAgg,run_underlying h1] at h2 ⊢
theorem F74 {t:TypeId} {n:Nat} [h:TyAgg P t n] (w:World):(isAgg t).run P w=.ok true w:=by
 obtain ⟨⟨d,h1,h2⟩,_⟩:=h.out
 cases d<;>simp [isAgg,run_underlying h1] at h2 ⊢
theorem J8 {t:TypeId} {n:Nat} (h:(P.info? t).map (·.size)=some n) (w:World):(sizeOf t).run P w=.ok n w:=by
 cases hi:P.info? t with
 | none=>simp [hi] at h
 | some i=>simp [hi] at h;simp [sizeOf,typeInfo,hi,h]
theorem TySl.size {t e:TypeId} {ec bytes:Nat} (h:TySl P t e ec bytes):(P.info? e).map (·.size)=some ec:=by
 have:=h.out.2.1
 cases hi:P.info? e with
 | none=>simp [hi] at this
 | some i=>simp [hi] at this ⊢;exact this.1
theorem J7 {x:Operand} {t:TypeId} {l:List UInt8} (hx:opv fr x=some (Z9 l)) [ht:TyStr P t]:Neu P ⟨dst,.call ⟨.builtin .len,#[x],#[t]⟩,ty,pos,af,gd⟩ fr ob (fun s'=>s'=C7 l.length) :=
 F5 fun S G a w h=>by
  refine ⟨.int .i64 l.length,?_,rfl,rfl⟩
  have hb:=ht.out
  simp [execOp,resolve,invoke,builtin,G5 h hx,run_len_string w t ty _ hb,goInt,A10]
theorem l7 {rd:Rd} {α:Type} {ec:Nat} {c:α→Nat→Cell} {xs:List α} {u:Value} (h:(Cell.list α ec c xs).rep rd u):∃a cap,u=.slice a xs.length cap∧xs.length≤cap∧xs.length < 4611686018427387904:=by
 simp only [Cell.rep] at h
 obtain ⟨a,cap,h1,h2,h3,_⟩:=h
 exact ⟨a,cap,h1,h2.1,h3⟩
inductive IsList:SV→(α:Type)→(ec:Nat)→(α→Nat→Cell)→List α→Prop
 | pure (α:Type) (ec:Nat) (c:α→Nat→Cell) (xs:List α):IsList (.s (.one (.p (.list α ec c xs)))) α ec c xs
 | buf (k:Nat) (α:Type) (ec:Nat) (c:α→Nat→Cell) (xs:List α):IsList (.s (.one (.buf k α ec c xs))) α ec c xs
 | full (α:Type) (ec:Nat) (c:α→Nat→Cell) (xs:List α):IsList (.s (.one (.full α ec c xs))) α ec c xs
theorem IsList.rep {s:SV} {α:Type} {ec:Nat} {c:α→Nat→Cell} {xs:List α} (h:IsList s α ec c xs) {rd:Rd} {G:Gh} {u:Value} (hr:s.rep rd G u):(Cell.list α ec c xs).rep rd u:=by
 cases h
 ·exact hr
 ·exact hr.2
 ·exact hr.1
theorem IsList.one {s:SV} {α:Type} {ec:Nat} {c:α→Nat→Cell} {xs:List α} (h:IsList s α ec c xs):∃t,s=.s (.one t):=by
 cases h<;>exact ⟨_,rfl⟩
theorem l8 {S:Ctx} {G:Gh} {a:Act} {w:World} (h:Sim P S fr ob G a w) {x:Operand} {s:SV} {α:Type} {ec:Nat} {c:α→Nat→Cell} {xs:List α} (hx:opv fr x=some s) (hl:IsList s α ec c xs) :
  (Cell.list α ec c xs).rep (F0 (Mut S ob G) w) (a.eval x):=by
 obtain ⟨t,rfl⟩:=hl.one
 exact hl.rep (J0 h hx)
theorem r5 {x:Operand} {t e:TypeId} {eb bytes:Nat} {s:SV} {α:Type} {ec:Nat} {c:α→Nat→Cell} {xs:List α} (hx:opv fr x=some s) (hl:IsList s α ec c xs) [ht:TySl P t e eb bytes] :
  Neu P ⟨dst,.call ⟨.builtin .len,#[x],#[t]⟩,ty,pos,af,gd⟩ fr ob (fun s'=>s'=C7 xs.length) :=
 F5 fun S G a w h=>by
  refine ⟨.int .i64 xs.length,?_,rfl,rfl⟩
  obtain ⟨ad,cap,hu,_⟩:=l7 (l8 h hx hl)
  simp [execOp,resolve,invoke,builtin,hu,Builtin.len_,run_underlying ht.out.1,goInt]
theorem C33 {x:Operand} {t e:TypeId} {eb bytes:Nat} (hx:opv fr x=some (I7 (.slice none 0 0))) [ht:TySl P t e eb bytes] :
  Neu P ⟨dst,.call ⟨.builtin .len,#[x],#[t]⟩,ty,pos,af,gd⟩ fr ob (fun s'=>s'=C7 0) :=
 F5 fun S G a w h=>by
  refine ⟨.int .i64 0,?_,rfl,rfl⟩
  simp [execOp,resolve,invoke,builtin,G5 h hx,Builtin.len_,run_underlying ht.out.1,goInt]
theorem R7 {x y:Operand} {t:TypeId} {l:List UInt8} {k:IntKind} {i:Int} {c:UInt8} (hx:opv fr x=some (Z9 l)) (hy:opv fr y=some (I7 (.int k i))) [ht:TyStr P t] (h0:0≤i) (hc:l[i.toNat]?=some c) :
  Neu P ⟨dst,.index t x y,ty,pos,af,gd⟩ fr ob (fun s'=>s'=I7 (.int .u8 (c.toNat:Int))) :=
 F5 fun S G a w h=>by
  refine ⟨.int .u8 c.toNat,?_,rfl,rfl⟩
  obtain ⟨hlt,hc'⟩:=List.getElem?_eq_some_iff.1 hc
  have hb:0≤i∧i < ((ByteArray.mk l.toArray).size:Int):=by rw [A10];omega
  simp only [execOp,G5 h hx,G5 h hy]
  refine M6 ?_
  rw [run_index_string w t _ k i ht.out,dif_pos hb]
  congr 3
  rw [←hc'];rfl
theorem B6 {x y:Operand} {t e:TypeId} {eb bytes:Nat} {s:SV} {α:Type} {c:α→Nat→Cell} {xs:List α} {k:IntKind} {i:Int} {v:α} [ht:TySl P t e eb bytes] (hx:opv fr x=some s) (hl:IsList s α eb c xs)
  (hy:opv fr y=some (I7 (.int k i))) (h0:0≤i) (hv:xs[i.toNat]?=some v):Neu P ⟨dst,.indexAddr t x y,ty,pos,af,gd⟩ fr ob (fun s'=>s'=.s (.one (.eref α eb c v 0))) :=
 F5 fun S G a w h=>by
  have hr:=l8 h hx hl
  simp only [Cell.rep] at hr
  obtain ⟨ad,cap,hu,h1,h2,h3⟩:=hr
  obtain ⟨hlt,hv'⟩:=List.getElem?_eq_some_iff.1 hv
  rcases h3 with h3 | ⟨b,o,rfl,h3⟩
  ·omega
  ·refine ⟨.pointer (some ⟨b,o+i.toNat*eb,none⟩),?_,⟨b,o+i.toNat*eb,rfl,fun j hj=>?_⟩⟩
   ·simp only [execOp,hu,G5 h hy]
    refine M6 ?_
    have hb:0≤i∧i < (xs.length:Int):=by omega
    simp [Instr.indexAt,run_underlying ht.out.1,asIntOf,hb,J8 ht.size,Addr.add_lit]
   ·obtain ⟨z,hz1,hi,hz2⟩:=h3 i.toNat hlt j hj
    exact ⟨z,hz1,by rw [←hv'];exact hz2⟩
theorem B92 {t:TypeId} {f off n:Nat} [ht:TyFld P t f off n] (w:World) (b o:Nat):(Instr.fieldAt t (.pointer (some ⟨b,o,none⟩)) f).run P w=.ok (.pointer (some ⟨b,o+off,none⟩)) w:=by
 obtain ⟨fs,fd,h1,h2,rfl,h3,h4⟩:=ht.out
 have:n≠0:=by omega
 simp [Instr.fieldAt,run_underlying h1,h2,Instr.sureAddr,fieldPlace,J8 h3,this,Addr.add_lit]
theorem C3 {x:Operand} {t:TypeId} {f off n:Nat} {α:Type} {ec:Nat} {c:α→Nat→Cell} {v:α} {o:Nat} (hx:opv fr x=some (.s (.one (.eref α ec c v o)))) [ht:TyFld P t f off n] :
  Neu P ⟨dst,.fieldAddr t x f,ty,pos,af,gd⟩ fr ob (fun s'=>s'=.s (.one (.eref α ec c v (o+off)))) :=
 F5 fun S G a w h=>by
  obtain ⟨b,o',hu,hr⟩:=J0 h hx
  refine ⟨.pointer (some ⟨b,o'+(o+off),none⟩),?_,b,o',rfl,hr⟩
  simp only [execOp,hu]
  refine M6 ?_
  rw [B92 (ht:=ht)]
  simp [Nat.add_assoc]
theorem B0 {x:Operand} {t:TypeId} {f off n:Nat} {k o:Nat} (hx:opv fr x=some (.s (.one (.ref k o)))) [ht:TyFld P t f off n] :
  Neu P ⟨dst,.fieldAddr t x f,ty,pos,af,gd⟩ fr ob (fun s'=>s'=.s (.one (.ref k (o+off)))) :=
 F5 fun S G a w h=>by
  obtain ⟨b,hg,hu⟩:=J0 h hx
  refine ⟨.pointer (some ⟨b,o+off,none⟩),?_,b,hg,rfl⟩
  simp only [execOp,hu]
  exact M6 (B92 (ht:=ht) _ _ _)
theorem G59 {x:Operand} {t:TypeId} {f off n:Nat} {k ec i o:Nat} (hx:opv fr x=some (.s (.one (.mref k ec i o)))) [ht:TyFld P t f off n] :
  Neu P ⟨dst,.fieldAddr t x f,ty,pos,af,gd⟩ fr ob (fun s'=>s'=.s (.one (.mref k ec i (o+off)))) :=
 F5 fun S G a w h=>by
  obtain ⟨b,m,cap,hg,hu⟩:=J0 h hx
  refine ⟨.pointer (some ⟨b,i*ec+(o+off),none⟩),?_,b,m,cap,hg,rfl⟩
  simp only [execOp,hu]
  refine M6 ?_
  rw [B92 (ht:=ht)]
  simp [Nat.add_assoc]
theorem U8 {t:TypeId} [ht:TyOne P t] {w:World} {b o:Nat} {z:Value} (hz:w.cell? ⟨b,o,none⟩=some z):(loadVar t ⟨b,o,none⟩).run P w=.ok z w:=by
 simp [loadVar,F73,hz]
theorem Z4 {t:TypeId} {n:Nat} [ht:TyAgg P t n] {w:World} {b o:Nat} {vs:List Value} (hn:vs.length=n) (hz:∀j z,vs[j]?=some z→w.cell? ⟨b,o+j,none⟩=some z):(loadVar t ⟨b,o,none⟩).run P w=.ok (.agg vs.toArray) w:=by
 have:=run_loadCells_list (P:=P) w ⟨b,o,none⟩ vs (fun j v hv=>by rw [Addr.add_lit];exact hz j v hv)
 rw [hn] at this
 simp [loadVar,F74 (P:=P) (t:=t) (n:=n),J8 ht.out.2,this]
theorem B3 {x:Operand} {t:TypeId} {α:Type} {ec:Nat} {c:α→Nat→Cell} {v:α} {o:Nat} [ht:TyOne P t] (hx:opv fr x=some (.s (.one (.eref α ec c v o)))) (ho:Nat.blt o ec=true) :
  Neu P ⟨dst,.load t x,ty,pos,af,gd⟩ fr ob (fun s'=>s'=.s (.one (.p (c v o)))) :=
 F5 fun S G a w h=>by
  obtain ⟨b,o',hu,hr⟩:=J0 h hx
  obtain ⟨z,hz1,hz2⟩:=hr o (by simpa using ho)
  refine ⟨z,?_,hz2⟩
  simp only [execOp,hu]
  exact M6 (by simp [Instr.loadAt,Instr.sureAddr,U8 hz1.1])
theorem A76 {R:Nat→Value→Prop}:∀(n:Nat),(∀j,j < n→∃z,R j z)→∃vs:List Value,vs.length=n∧∀j z,vs[j]?=some z→R j z
 | 0,_=>⟨[],rfl,fun j z h=>by simp at h⟩
 | n+1,h=>by
  obtain ⟨vs,h1,h2⟩:=A76 n (fun j hj=>h j (by omega))
  obtain ⟨z,hz⟩:=h n (by omega)
  refine ⟨vs++[z],by simp [h1],fun j y hj=>?_⟩
  by_cases hlt:j < vs.length
  ·rw [L19 hlt] at hj;exact h2 j y hj
  ·rw [L17 (by omega)] at hj
   have:j=n:=by
    rcases Nat.lt_or_ge (j - vs.length) 1 with h' | h'
    ·omega
    ·rw [L18 (by simpa using h')] at hj;cases hj
   subst this
   simp [h1] at hj
   rw [←hj];exact hz
theorem A77 {α:Type 1} {R:α→Value→Prop}:∀{ts:List α} {vs:List Value},vs.length=ts.length→(∀(j:Nat) (t:α) (z:Value),ts[j]?=some t→vs[j]?=some z→R t z)→All2 R ts vs
 | [],[],_,_=>trivial
 | [],_::_,h,_=>by simp at h
 | _::_,[],h,_=>by simp at h
 | t::ts,v::vs,h,hr=>⟨hr 0 t v rfl rfl,A77 (by simpa using h) fun j t z h1 h2=>hr (j+1) t z (by simpa using h1) (by simpa using h2)⟩
def cellsOf {α:Type} (c:α→Nat→Cell) (v:α):Nat→Nat→List Cell
 | _,0=>[]
 | o,n+1=>c v o::cellsOf c v (o+1) n
theorem V3 {α:Type} (c:α→Nat→Cell) (v:α):∀(n o j:Nat) (t:Cell),(cellsOf c v o n)[j]?=some t→t=c v (o+j)∧j < n
 | 0,o,j,t,h=>by simp [cellsOf] at h
 | n+1,o,0,t,h=>by simp [cellsOf] at h;exact ⟨h.symm,by omega⟩
 | n+1,o,j+1,t,h=>by
  simp [cellsOf] at h
  obtain ⟨h1,h2⟩:=V3 c v n (o+1) j t h
  exact ⟨by rw [h1];congr 1;omega,by omega⟩
theorem L6 {α:Type} (c:α→Nat→Cell) (v:α):∀(n o:Nat),(cellsOf c v o n).length=n
 | 0,_=>rfl
 | n+1,o=>by simp [cellsOf,L6 c v n]
theorem E1 {x:Operand} {t:TypeId} {n:Nat} {α:Type} {ec:Nat} {c:α→Nat→Cell} {v:α} {o:Nat} [ht:TyAgg P t n] (hx:opv fr x=some (.s (.one (.eref α ec c v o)))) (ho:Nat.ble (o+n) ec=true) :
  Neu P ⟨dst,.load t x,ty,pos,af,gd⟩ fr ob (fun s'=>s'=.s (.agg ((cellsOf c v o n).map .p))) :=
 F5 fun S G a w h=>by
  obtain ⟨b,o',hu,hr⟩:=J0 h hx
  have hle:o+n≤ec:=by simpa using ho
  obtain ⟨vs,hl,hvs⟩:=A76 n (fun j hj=>hr (o+j) (by omega))
  refine ⟨.agg vs.toArray,?_,vs,rfl,?_⟩
  ·simp only [execOp,hu]
   refine M6 ?_
   simp [Instr.loadAt,Instr.sureAddr,Z4 (ht:=ht) (o:=o'+o) hl (fun j z hz=>by rw [Nat.add_assoc];exact (hvs j z hz).1.1)]
  ·refine A77 (by simp [hl,L6]) fun j t z h1 h2=>?_
   rw [L51] at h1
   cases hc:(cellsOf c v o n)[j]? with
   | none=>simp [hc] at h1
   | some cc =>
    simp [hc] at h1
    obtain ⟨rfl,_⟩:=V3 c v n o j cc hc
    subst h1
    exact (hvs j z h2).2
theorem Sim.box {S:Ctx} {G:Gh} {a:Act} {w:World} (h:Sim P S fr ob G a w) {k:Nat} {ts:List TC} (hk:C1 ob k=some (.box ts)) :
  ∃b vs t,G k=.pointer (some ⟨b,0,none⟩)∧w.heap[b]?=some (.cells (List.toArray vs) t (0,0))∧All2 (TC.rep (F0 (Mut S ob G) w) G) ts vs:=h.obs k _ hk
theorem O6 {w:World} {b o:Nat} {vs:Array Value} {t:TypeId} {f:Nat × Nat} {z:Value} (h:w.heap[b]?=some (.cells vs t f)) (hz:vs[o]?=some z):w.cell? ⟨b,o,none⟩=some z:=by
 simp [World.cell?,h,hz]
theorem C5 {x:Operand} {t:TypeId} {k o:Nat} {ts:List TC} {s:TC} [ht:TyOne P t] (hx:opv fr x=some (.s (.one (.ref k o)))) (hk:C1 ob k=some (.box ts)) (ho:ts[o]?=some s) :
  Neu P ⟨dst,.load t x,ty,pos,af,gd⟩ fr ob (fun s'=>s'=.s (.one s)) :=
 F5 fun S G a w h=>by
  obtain ⟨b,hg,hu⟩:=J0 h hx
  obtain ⟨b',vs,tt,hg',hh,ha⟩:=h.box hk
  rw [hg] at hg';cases hg'
  obtain ⟨z,hz1,hz2⟩:=ha.get o s ho
  refine ⟨z,?_,hz2⟩
  simp only [execOp,hu]
  refine M6 ?_
  simp [Instr.loadAt,Instr.sureAddr,U8 (ht:=ht) (O6 hh (by simpa using hz1))]
theorem All2.drop {α:Type 1} {β:Type} {R:α→β→Prop}:∀{as:List α} {bs:List β} (n:Nat),All2 R as bs→All2 R (as.drop n) (bs.drop n)
 | [],[],n,_=>by simp [All2]
 | [],_::_,_,h=>h.elim
 | _::_,[],_,h=>h.elim
 | _::_,_::_,0,h=>h
 | _::_,_::_,n+1,h=>by simpa using All2.drop n h.2
theorem All2.take {α:Type 1} {β:Type} {R:α→β→Prop}:∀{as:List α} {bs:List β} (n:Nat),All2 R as bs→All2 R (as.take n) (bs.take n)
 | [],[],n,_=>by simp [All2]
 | [],_::_,_,h=>h.elim
 | _::_,[],_,h=>h.elim
 | _::_,_::_,0,h=>by simp [All2]
 | _::_,_::_,n+1,h=>⟨h.1,All2.take n h.2⟩
theorem J5 {x:Operand} {t:TypeId} {n k o:Nat} {ts:List TC} [ht:TyAgg P t n] (hx:opv fr x=some (.s (.one (.ref k o)))) (hk:C1 ob k=some (.box ts)) (ho:Nat.ble (o+n) ts.length=true) :
  Neu P ⟨dst,.load t x,ty,pos,af,gd⟩ fr ob (fun s'=>s'=.s (.agg ((ts.drop o).take n))) :=
 F5 fun S G a w h=>by
  obtain ⟨b,hg,hu⟩:=J0 h hx
  obtain ⟨b',vs,tt,hg',hh,ha⟩:=h.box hk
  rw [hg] at hg';cases hg'
  have hle:o+n≤ts.length:=by simpa using ho
  have hl:=ha.length
  refine ⟨.agg ((vs.drop o).take n).toArray,?_,_,rfl,(ha.drop o).take n⟩
  simp only [execOp,hu]
  refine M6 ?_
  have hr:=Z4 (ht:=ht) (w:=w) (b:=b) (o:=o) (vs:=(vs.drop o).take n) (by simp;omega) (fun j z hz=>by
   rw [List.getElem?_take] at hz
   split at hz
   ·rw [L28] at hz
    exact O6 hh (by simpa using hz)
   ·cases hz)
  simp [Instr.loadAt,Instr.sureAddr,hr]
theorem N2 {x:Operand} {xs:List S1} {i:Nat} {s:S1} (hx:opv fr x=some (.tup xs)) (hi:xs[i]?=some s):Neu P ⟨dst,.extract x i,ty,pos,af,gd⟩ fr ob (fun s'=>s'=.s s) :=
 F5 fun S G a w h=>by
  have hr:(SV.tup xs).rep (F0 (Mut S ob G) w) G (a.eval x):=V1 h hx (by
   cases x with
   | const u=>cases u<;>simp [opv,E61] at hx
   | _=>rfl)
  obtain ⟨us,hu,ha⟩:=hr
  obtain ⟨z,hz1,hz2⟩:=ha.get i s hi
  refine ⟨z,?_,hz2⟩
  simp only [execOp,hu]
  exact M6 (by simp [Instr.extract,hz1])
end
end Go.AL
namespace Go.AL
open Go Go.RowKit
set_option linter.unusedVariables false
def upd (G:Gh) (k:Nat) (u:Value):Gh:=fun j=>cond (Nat.beq j k) u (G j)
theorem J2 (G:Gh) (k:Nat) (u:Value):upd G k u k=u:=by simp [upd]
theorem x5 (G:Gh) {k j:Nat} (u:Value) (h:j≠k):upd G k u j=G j:=by simp [upd,W6 h]
theorem Own_forget {u:Value} {o:Ob} {k b i:Nat}:Own u (o.forget k) b i↔Own u o b i:=by
 cases o<;>simp [Own,Ob.forget]
section
variable {P:Program} {S:Ctx} {fr:Fr} {ob:Obs} {G:Gh} {a:Act} {w w1:World}
theorem ObOk.forget {rd:Rd} {G':Gh} {k:Nat} {u:Value} {o:Ob} (hG:∀j,j≠k→G' j=G j) (h:ObOk S rd G w u o):ObOk S rd G' w u (o.forget k):=by
 cases o with
 | box ts=>obtain ⟨b,vs,t,h1,h2,h3⟩:=h;exact ⟨b,vs,t,h1,h2,h3.map (TC.forget k) fun _ _=>TC.rep_forget hG⟩
 | tbx e ts=>obtain ⟨b,vs,h1,h2,h3⟩:=h;exact ⟨b,vs,h1,h2,h3.map (TC.forget k) fun _ _=>TC.rep_forget hG⟩
 | tarr n ec ts=>obtain ⟨b,vs,t,h1,hl,h2,hn,h3⟩:=h;exact ⟨b,vs,t,h1,hl,h2,by simpa using hn,h3.map (TC.forget k) fun _ _=>TC.rep_forget hG⟩
 | arr α ec c xs=>exact h
 | spare n ec e=>exact h
 | grow e α ec c xs=>exact h
 | map κ kf kvs=>exact h
 | growA e α ec c xs p ts=>obtain ⟨vs,h1,h2,h3,h4,h5,h6⟩:=h;exact ⟨vs,h1,h2,h3,by simpa using h4,h5,h6.map (TC.forget k) fun _ _=>TC.rep_forget hG⟩
 | growT e n ec ts=>obtain ⟨vs,h1,h2,h3,h4⟩:=h;exact ⟨vs,h1,h2,by simpa using h3,h4.map (TC.forget k) fun _ _=>TC.rep_forget hG⟩
theorem Sim.rd_new (h:Sim P S fr ob G a w) {k:Nat} {o:Ob} {u:Value} (hx:Below w.heap.size w w1) (hu:∀b,blk u=some b→w.heap.size≤b) {b i:Nat} {z:Value}
  (hr:F0 (Mut S ob G) w b i z):F0 (Mut S ((k,o)::Obs.forget k ob) (upd G k u)) w1 b i z:=by
 refine ⟨E73 hx hr.1,fun hm=>hr.2 ?_⟩
 have hlt:b < w.heap.size:=World.block_lt_of_cell? w _ hr.1
 rcases hm with hm | ⟨k',o',hk',hb,hi⟩
 ·exact .inl hm
 ·by_cases hkk:k'=k
  ·subst hkk
   rw [J2] at hb
   have:=hu b hb
   omega
  ·rw [B4 (Ne.symm hkk),K6] at hk'
   cases hg:C1 ob k' with
   | none=>simp [hg] at hk'
   | some o0 =>
    simp [hg] at hk'
    subst hk'
    rw [x5 G u hkk] at hb
    exact .inr ⟨k',o0,hg,Own_forget.1 ⟨hb,hi⟩⟩
theorem Sim.new (h:Sim P S fr ob G a w) {k:Nat} (hp:k < 1000000) (hk:C1 ob k=none) {o:Ob} {u:Value} (hx:Below w.heap.size w w1) (hu:∀b,blk u=some b→w.heap.size≤b)
  (ho:ObOk S (F0 (Mut S ((k,o)::Obs.forget k ob) (upd G k u)) w1) (upd G k u) w1 u o):Sim P S (Fr.forget k fr) ((k,o)::Obs.forget k ob) (upd G k u) a w1:=by
 have hG:∀j,j≠k→upd G k u j=G j:=fun j hj=>x5 G u hj
 have hs:=h.ext hx
 have hget:∀k' o',k'≠k→C1 ((k,o)::Obs.forget k ob) k'=some o'→∃o0,C1 ob k'=some o0∧o'=o0.forget k:=by
  intro k' o' hkk hk'
  rw [B4 (Ne.symm hkk),K6] at hk'
  cases hg:C1 ob k' with
  | none=>simp [hg] at hk'
  | some o0=>simp [hg] at hk';exact ⟨o0,rfl,hk'.symm⟩
 refine { hs with pin:=fun j hj=>by rw [hG j (by omega)];exact h.pin j hj,old:=?_,dis:=?_,obs:=?_,facts:=?_ }
 ·intro k' o' b hk' hb
  by_cases hkk:k'=k
  ·subst hkk;rw [J2] at hb;exact .inl (Nat.le_trans h.size (hu b hb))
  ·obtain ⟨o0,h0,_⟩:=hget k' o' hkk hk';rw [hG _ hkk] at hb;exact h.old k' o0 b h0 hb
 ·intro k1 k2 o1 o2 b h1 h2 hb1 hb2
  by_cases hk1:k1=k<;>by_cases hk2:k2=k
  ·rw [hk1,hk2]
  ·subst hk1
   obtain ⟨o0,h0,_⟩:=hget k2 o2 hk2 h2
   rw [J2] at hb1;rw [hG _ hk2] at hb2
   have:=hu b hb1
   have:=(h.obs k2 o0 h0).blk_lt b hb2
   omega
  ·subst hk2
   obtain ⟨o0,h0,_⟩:=hget k1 o1 hk1 h1
   rw [J2] at hb2;rw [hG _ hk1] at hb1
   have:=hu b hb2
   have:=(h.obs k1 o0 h0).blk_lt b hb1
   omega
  ·obtain ⟨oa,ha,_⟩:=hget k1 o1 hk1 h1
   obtain ⟨ob',hb',_⟩:=hget k2 o2 hk2 h2
   rw [hG _ hk1] at hb1;rw [hG _ hk2] at hb2
   exact h.dis k1 k2 oa ob' b ha hb' hb1 hb2
 ·intro k' o' hk'
  by_cases hkk:k'=k
  ·subst hkk;rw [C4] at hk';cases hk';rw [J2];exact ho
  ·obtain ⟨o0,h0,rfl⟩:=hget k' o' hkk hk'
   rw [hG _ hkk]
   exact ((h.obs k' o0 h0).ext (fun _ _ _ hr=>h.rd_new hx hu hr) hx).forget hG
 ·intro i s hi
  rw [N7] at hi
  cases hg:E5 fr i with
  | none=>simp [hg] at hi
  | some s0 =>
   simp [hg] at hi
   subst hi
   exact SV.rep_forget hG (SV.rep_mono (fun _ _ _ hr=>h.rd_new hx hu hr) (h.facts i s0 hg))
theorem Sim.drop (h:Sim P S fr ob G a w) (k:Nat):Sim P S fr (Obs.drop k ob) G a w:=by
 have hget:∀k' o',C1 (Obs.drop k ob) k'=some o'→C1 ob k'=some o':=by
  intro k' o' hk'
  by_cases hkk:k'=k
  ·subst hkk;rw [U1] at hk';cases hk'
  ·rwa [S7 hkk] at hk'
 have hrd:∀b i z,F0 (Mut S ob G) w b i z→F0 (Mut S (Obs.drop k ob) G) w b i z:=by
  intro b i z hr
  refine ⟨hr.1,fun hm=>hr.2 ?_⟩
  rcases hm with hm | ⟨k',o',hk',hb⟩
  ·exact .inl hm
  ·exact .inr ⟨k',o',hget _ _ hk',hb⟩
 exact { h with
  old:=fun k' o' b hk'=>h.old k' o' b (hget _ _ hk')
  dis:=fun k1 k2 o1 o2 b h1 h2=>h.dis k1 k2 o1 o2 b (hget _ _ h1) (hget _ _ h2)
  obs:=fun k' o' hk'=>(h.obs k' o' (hget _ _ hk')).ext hrd (Below.refl _ _)
  facts:=fun i s hi=>SV.rep_mono hrd (h.facts i s hi) }
theorem Sim.weakenO (h:Sim P S fr ob G a w) {ob':Obs} (hf:∀k o,C1 ob' k=some o→C1 ob k=some o):Sim P S fr ob' G a w:=by
 have hrd:∀b i z,F0 (Mut S ob G) w b i z→F0 (Mut S ob' G) w b i z:=by
  intro b i z hr
  refine ⟨hr.1,fun hm=>hr.2 ?_⟩
  rcases hm with hm | ⟨k',o',hk',hb⟩
  ·exact .inl hm
  ·exact .inr ⟨k',o',hf _ _ hk',hb⟩
 exact { h with
  old:=fun k' o' b hk'=>h.old k' o' b (hf _ _ hk')
  dis:=fun k1 k2 o1 o2 b h1 h2=>h.dis k1 k2 o1 o2 b (hf _ _ h1) (hf _ _ h2)
  obs:=fun k' o' hk'=>(h.obs k' o' (hf _ _ hk')).ext hrd (Below.refl _ _)
  facts:=fun i s hi=>SV.rep_mono hrd (h.facts i s hi) }
theorem Sim.writeN (h:Sim P S fr ob G a w) {k:Nat} {o o':Ob} (hk:C1 ob k=some o) {b:Nat} (hb:blk (G k)=some b) (hwhole:∀i,Own (G k) o b i) (hwhole':∀i,Own (G k) o' b i)
  (hos:w1.os=w.os) (htape:w1.tape=w.tape) (hout:w1.output=w.output) (hsize:w.heap.size≤w1.heap.size) (hother:∀j,j < w.heap.size→j≠b→w1.heap[j]?=w.heap[j]?)
  (ho:(∀b i z,F0 (Mut S ob G) w b i z→F0 (Mut S ((k,o')::ob) G) w1 b i z)→ObOk S (F0 (Mut S ((k,o')::ob) G) w1) G w1 (G k) o'):Sim P S fr ((k,o')::ob) G a w1:=by
 have hget:∀k' o1,k'≠k→C1 ((k,o')::ob) k'=some o1→C1 ob k'=some o1:=fun k' o1 hkk hk'=>by rwa [B4 (Ne.symm hkk)] at hk'
 have hrd:∀b' i z,F0 (Mut S ob G) w b' i z→F0 (Mut S ((k,o')::ob) G) w1 b' i z:=by
  intro b' i z hr
  have hne:b'≠b:=fun e=>hr.2 (.inr ⟨k,o,hk,e ▸ hwhole i⟩)
  refine ⟨by rw [World.cell?_of_block (w:=w) (a:=⟨b',i,none⟩) (hother b' (World.block_lt_of_cell? w _ hr.1) hne)];exact hr.1,fun hm=>hr.2 ?_⟩
  rcases hm with hm | ⟨k',o1,hk',hb'⟩
  ·exact .inl hm
  ·by_cases hkk:k'=k
   ·subst hkk
    have:=hb'.1;rw [hb] at this;cases this;exact absurd rfl hne
   ·exact .inr ⟨k',o1,hget _ _ hkk hk',hb'⟩
 refine { h with os:=hos.trans h.os,tape:=htape.trans h.tape,output:=hout.trans h.output,size:=Nat.le_trans h.size hsize,keep:=?_,old:=?_,dis:=?_,obs:=?_,facts:=?_ }
 ·intro j hj hn
  have hne:j≠b:=fun e=>by
   subst e
   rcases h.old k o j hk hb with h1 | h1
   ·omega
   ·exact hn h1.1
  rw [hother j (Nat.lt_of_lt_of_le hj h.size) hne];exact h.keep j hj hn
 ·intro k' o1 b' hk' hb'
  by_cases hkk:k'=k
  ·subst hkk;exact h.old _ o b' hk hb'
  ·exact h.old k' o1 b' (hget _ _ hkk hk') hb'
 ·intro k1 k2 o1 o2 b' h1 h2 hb1 hb2
  by_cases hk1:k1=k<;>by_cases hk2:k2=k
  ·rw [hk1,hk2]
  ·subst hk1;exact h.dis _ _ o o2 b' hk (hget _ _ hk2 h2) hb1 hb2
  ·subst hk2;exact h.dis _ _ o1 o b' (hget _ _ hk1 h1) hk hb1 hb2
  ·exact h.dis _ _ o1 o2 b' (hget _ _ hk1 h1) (hget _ _ hk2 h2) hb1 hb2
 ·intro k' o1 hk'
  by_cases hkk:k'=k
  ·subst hkk;rw [C4] at hk';cases hk';exact ho hrd
  ·have h0:=hget _ _ hkk hk'
   have hne:∀b',blk (G k')=some b'→b'≠b:=fun b' hb' e=>hkk (h.dis k' k o1 o b' h0 hk hb' (e ▸ hb))
   have hob:=h.obs k' o1 h0
   have hlt:=hob.blk_lt
   cases o1 with
   | box ts =>
    obtain ⟨b',vs,t,h1,h2,h3⟩:=hob
    exact ⟨b',vs,t,h1,by rw [hother b' (hlt b' (by rw [h1];rfl)) (hne b' (by rw [h1];rfl))];exact h2,h3.mono fun _ _=>TC.rep_mono hrd⟩
   | tbx e ts =>
    obtain ⟨b',vs,h1,h2,h3⟩:=hob
    exact ⟨b',vs,h1,by rw [hother b' (hlt b' (by rw [h1];rfl)) (hne b' (by rw [h1];rfl))];exact h2,h3.mono fun _ _=>TC.rep_mono hrd⟩
   | tarr n ec ts =>
    obtain ⟨b',vs,t,h1,hl,h2,hn,h3⟩:=hob
    exact ⟨b',vs,t,h1,hl,by rw [hother b' (hlt b' (by rw [h1];rfl)) (hne b' (by rw [h1];rfl))];exact h2,hn,h3.mono fun _ _=>TC.rep_mono hrd⟩
   | arr α ec c xs =>
    obtain ⟨b',vs,t,h1,hl,h2,h3,h4⟩:=hob
    refine ⟨b',vs,t,h1,hl,by rw [hother b' (hlt b' (by rw [h1];rfl)) (hne b' (by rw [h1];rfl))];exact h2,h3,fun i hi j hj=>?_⟩
    obtain ⟨z,hz1,hz2⟩:=h4 i hi j hj
    exact ⟨z,hz1,Cell.rep_mono hrd _ _ hz2⟩
   | spare n ec e =>
    obtain ⟨vs,h1⟩:=hob
    refine ⟨vs,h1.kept (row:=some b) ⟨hos,htape,hout,hsize,fun j hlj hj=>hother j hlj (fun e=>hj (by rw [e]))⟩ ?_⟩
    right
    intro he
    cases hv:G k'<;>simp only [hv,Value.ownBlock,reduceCtorEq] at he
    rename_i ad len cap
    cases ad with
    | none=>simp at he
    | some ad =>
     simp at he
     exact hne b (by rw [hv];simp [blk,he]) rfl
   | map κ kf kvs =>
    obtain ⟨r,es,clock,h1,h2,h3⟩:=hob
    exact ⟨r,es,clock,h1,by rw [hother r (hlt r (by rw [h1];rfl)) (hne r (by rw [h1];rfl))];exact h2,h3.mono fun _ _ ⟨e1,e2⟩=>⟨e1,Cell.rep_mono hrd _ _ e2⟩⟩
   | growA e α ec c xs p ts =>
    obtain ⟨vs,h1,hl,hp,hts,h4,h5⟩:=hob
    refine ⟨vs,h1.kept (row:=some b) ⟨hos,htape,hout,hsize,fun j hlj hj=>hother j hlj (fun e=>hj (by rw [e]))⟩ ?_,hl,hp,hts,fun i hi hne j hj=>(let ⟨z,hz1,hz2⟩:=h4 i hi hne j hj;⟨z,hz1,Cell.rep_mono hrd _ _ hz2⟩),h5.mono fun _ _=>TC.rep_mono hrd⟩
    right
    intro he
    cases hv:G k'<;>simp only [hv,Value.ownBlock,reduceCtorEq] at he
    rename_i ad len cap
    cases ad with
    | none=>simp at he
    | some ad =>
     simp at he
     exact hne b (by rw [hv];simp [blk,he]) rfl
   | growT e n ec ts =>
    obtain ⟨vs,h1,hl,hts,h5⟩:=hob
    refine ⟨vs,h1.kept (row:=some b) ⟨hos,htape,hout,hsize,fun j hlj hj=>hother j hlj (fun e=>hj (by rw [e]))⟩ ?_,hl,hts,h5.mono fun _ _=>TC.rep_mono hrd⟩
    right
    intro he
    cases hv:G k'<;>simp only [hv,Value.ownBlock,reduceCtorEq] at he
    rename_i ad len cap
    cases ad with
    | none=>simp at he
    | some ad =>
     simp at he
     exact hne b (by rw [hv];simp [blk,he]) rfl
   | grow e α ec c xs =>
    obtain ⟨vs,h1,hl,h4⟩:=hob
    refine ⟨vs,h1.kept (row:=some b) ⟨hos,htape,hout,hsize,fun j hlj hj=>hother j hlj (fun e=>hj (by rw [e]))⟩ ?_,hl,fun i hi j hj=>(let ⟨z,hz1,hz2⟩:=h4 i hi j hj;⟨z,hz1,Cell.rep_mono hrd _ _ hz2⟩)⟩
    right
    intro he
    cases hv:G k'<;>simp only [hv,Value.ownBlock,reduceCtorEq] at he
    rename_i ad len cap
    cases ad with
    | none=>simp at he
    | some ad =>
     simp at he
     exact hne b (by rw [hv];simp [blk,he]) rfl
 ·intro i s hi
  exact SV.rep_mono hrd (h.facts i s hi)
theorem Sim.write (h:Sim P S fr ob G a w) {k:Nat} {o o':Ob} (hk:C1 ob k=some o) {b:Nat} (hb:blk (G k)=some b) (hwhole:∀i,Own (G k) o b i) (hwhole':∀i,Own (G k) o' b i)
  (hos:w1.os=w.os) (htape:w1.tape=w.tape) (hout:w1.output=w.output) (hsize:w.heap.size≤w1.heap.size) (hother:∀j,j < w.heap.size→j≠b→w1.heap[j]?=w.heap[j]?)
  (ho:∀rd:Rd,(∀b i z,F0 (Mut S ob G) w b i z→rd b i z)→ObOk S rd G w1 (G k) o'):Sim P S fr ((k,o')::ob) G a w1 :=
 h.writeN hk hb hwhole hwhole' hos htape hout hsize hother (fun hrd=>ho _ hrd)
end
section ops
variable {P:Program} {dst:Option Tmp} {ty:TypeId} {pos:String} {af:Array Edge} {gd:Option (Nat × Bool)} {fr:Fr} {ob:Obs}
def S1.cells:S1→List TC
 | .one t=>[t]
 | .agg ts=>ts
theorem K79 {rd:Rd} {G:Gh}:∀{s:S1} {u:Value},s.rep rd G u→All2 (TC.rep rd G) s.cells u.cells.toList
 | .one t,u,h=>by
  have h1:=TC.rep_one h
  have:u.cells=#[u]:=by cases u<;>first | rfl | simp [Value.oneCell'] at h1
  rw [this];exact ⟨h,trivial⟩
 | .agg ts,u,h=>by obtain ⟨vs,rfl,h⟩:=h;simpa [Value.cells,S1.cells] using h
theorem e_box (k:Nat) {x:Operand} {e:TypeId} {s:S1} (hx:opv fr x=some (.s s)) (hc:H8 x=true) (hk:C1 ob k=none) (hp:k < 1000000) :
  EffV P ⟨dst,.box e x,ty,pos,af,gd⟩ fr ob (.s (.one (.ref k 0))) (Fr.forget k fr) ((k,.box (s.cells.map (TC.forget k)))::Obs.forget k ob):=by
 intro S G a w h
 have hr:(SV.s s).rep (F0 (Mut S ob G) w) G (a.eval x):=V1 h hx hc
 refine J9 (w':=w.alloc (.cells (a.eval x).cells e)) (v:=.pointer (some ⟨w.heap.size,0,none⟩)) ?_ ?_
 ·simp [execOp,Instr.box,newVar,newRow]
 ·have hxw:Below w.heap.size w (w.alloc (.cells (a.eval x).cells e)):=(Below.refl _ _).alloc (Nat.le_refl _) _
  have hu:∀b,blk (.pointer (some ⟨w.heap.size,0,none⟩))=some b→w.heap.size≤b:=by intro b hb;simp [blk] at hb;omega
  refine ⟨upd G k (.pointer (some ⟨w.heap.size,0,none⟩)),h.new hp hk hxw hu ?_,⟨w.heap.size,J2 _ _ _,rfl⟩⟩
  refine ⟨w.heap.size,(a.eval x).cells.toList,e,rfl,by rw [Array.toArray_toList];exact heap_alloc_new w _,?_⟩
  refine ((K79 hr).map (TC.forget k) fun _ _ hh=>?_)
  exact TC.rep_forget (fun j hj=>x5 G _ hj) (TC.rep_mono (fun _ _ _ hh=>h.rd_new hxw hu hh) hh)
class TyZero (P:Program) (t:TypeId) (z:outParam Value):Prop where
 out:(P.info? t).bind (·.zero)=some z∧z.cells.toList.all (·.oneCell')=true
theorem T6 {t:TypeId} {z:Value} (h:(P.info? t).bind (·.zero)=some z) (w:World):(zeroValue t).run P w=.ok z w:=by
 cases hi:P.info? t with
 | none=>simp [hi] at h
 | some i=>simp [hi] at h;simp [zeroValue,typeInfo,hi,h]
theorem A78 (k:Nat) {e:TypeId} {z:Value} [hz:TyZero P e z] (hk:C1 ob k=none) (hp:k < 1000000) :
  EffV P ⟨dst,.alloc e,ty,pos,af,gd⟩ fr ob (.s (.one (.ref k 0))) (Fr.forget k fr) ((k,.box (z.cells.toList.map fun c=>.p (.v c)))::Obs.forget k ob):=by
 intro S G a w h
 refine J9 (w':=w.alloc (.cells z.cells e)) (v:=.pointer (some ⟨w.heap.size,0,none⟩)) ?_ ?_
 ·simp [execOp,Instr.alloc,newVar,newRow,T6 hz.out.1]
 ·have hxw:Below w.heap.size w (w.alloc (.cells z.cells e)):=(Below.refl _ _).alloc (Nat.le_refl _) _
  have hu:∀b,blk (.pointer (some ⟨w.heap.size,0,none⟩))=some b→w.heap.size≤b:=by intro b hb;simp [blk] at hb;omega
  refine ⟨upd G k (.pointer (some ⟨w.heap.size,0,none⟩)),h.new hp hk hxw hu ?_,⟨w.heap.size,J2 _ _ _,rfl⟩⟩
  exact ⟨w.heap.size,z.cells.toList,e,rfl,by rw [Array.toArray_toList];exact heap_alloc_new w _,o8 _ hz.out.2⟩
theorem A37 {t:TypeId} {w:World} {b o:Nat} {v:Value} {vs:List Value} {e:TypeId} (hs:(P.info? t).map (·.size)=some v.cells.size) (hh:w.heap[b]?=some (.cells vs.toArray e (0,0)))
  (h1:∀u∈v.cells.toList,u.oneCell'=true) (hfit:o+v.cells.size≤vs.length) :
  ∃w',(storeVar t ⟨b,o,none⟩ v).run P w=.ok () w'∧w'.os=w.os∧w'.tape=w.tape∧w'.output=w.output∧w'.heap.size=w.heap.size∧(∀j,j≠b→w'.heap[j]?=w.heap[j]?) ∧
   w'.heap[b]?=some (.cells (vs.take o++v.cells.toList++vs.drop (o+v.cells.size)).toArray e (0,0)):=by
 have hst:=run_storeCells_at P b o e v.cells.toList 0 vs.toArray w hh (by simpa using hfit) h1
 simp only [Nat.add_zero] at hst
 refine ⟨w.setRow b (vs.take o++v.cells.toList++vs.drop (o+v.cells.toList.length)).toArray,?_,rfl,rfl,rfl,by simp,fun j hj=>setRow_other w b j _ hj,?_⟩
 ·simp only [storeVar,Sem.run_bind,J8 hs,Result.andThen_ok,ne_eq,not_true_eq_false,if_false]
  exact hst
 ·rw [setRow_heap w b vs.toArray _ e (0,0) hh]
  simp
def setTs (ts:List TC) (o:Nat) (ns:List TC):List TC:=ts.take o++ns++ts.drop (o+ns.length)
theorem B9 {t:TypeId} {x y:Operand} {k o n:Nat} {ts:List TC} {s:S1} (hsz:(P.info? t).map (·.size)=some n) (hx:opv fr x=some (.s (.one (.ref k o)))) (hk:C1 ob k=some (.box ts)) (hy:opv fr y=some (.s s)) (hc:H8 y=true)
  (hn:s.cells.length=n) (hfit:Nat.ble (o+n) ts.length=true):Eff P ⟨none,.store t x y,ty,pos,af,gd⟩ fr ob fr ((k,.box (setTs ts o s.cells))::ob):=by
 intro S G a w h
 obtain ⟨b,hg,hu⟩:=J0 h hx
 obtain ⟨b',vs,tt,hg',hh,ha⟩:=h.box hk
 rw [hg] at hg';cases hg'
 have hr:(SV.s s).rep (F0 (Mut S ob G) w) G (a.eval y):=V1 h hy hc
 have hcells:=K79 hr
 have hlen:(a.eval y).cells.size=n:=by rw [←hn,hcells.length];simp
 have hle:o+n≤ts.length:=by simpa using hfit
 have hone:∀u∈(a.eval y).cells.toList,u.oneCell'=true:=by
  intro u hu
  have:∀(ts:List TC) (vs:List Value),All2 (TC.rep (F0 (Mut S ob G) w) G) ts vs→∀u∈vs,u.oneCell'=true:=by
   intro ts
   induction ts with
   | nil=>intro vs h u hu;cases vs with | nil=>cases hu | cons=>exact h.elim
   | cons t ts ih =>
    intro vs h u hu
    cases vs with
    | nil=>exact h.elim
    | cons v vs =>
     rcases List.mem_cons.1 hu with rfl | hu
     ·exact TC.rep_one h.1
     ·exact ih vs h.2 u hu
  exact this _ _ hcells u hu
 obtain ⟨w',hrun,hos,htape,hout,hsize,hother,hheap⟩:=A37 (P:=P) (t:=t) (w:=w) (b:=b) (o:=o) (v:=a.eval y) (by rw [hsz,hlen]) hh hone (by rw [hlen,←ha.length];exact hle)
 unfold Does
 have he:(execOp a.eval ⟨none,.store t x y,ty,pos,af,gd⟩).run P w=.ok .skip w':=by
  simp [execOp,hu,Instr.storeAt,Instr.sureAddr,hrun]
 rw [he]
 have hbk:blk (G k)=some b:=by rw [hg];rfl
 refine ⟨G,h.write hk hbk (fun i=>⟨hbk,trivial⟩) (fun i=>⟨hbk,trivial⟩) hos htape hout (Nat.le_of_eq hsize.symm) (fun j _=>hother j) ?_⟩
 intro rd hrd
 refine ⟨b,_,tt,hg,hheap,?_⟩
 have hd:vs.drop (o+(a.eval y).cells.size)=vs.drop (o+s.cells.length):=by rw [hlen,hn]
 unfold setTs
 rw [hd]
 exact (((ha.take o).append hcells).append (ha.drop _)).mono fun _ _=>TC.rep_mono hrd
theorem e_adopt (k:Nat) (α:Type) (c:α→Nat→Cell) {t e:TypeId} {ec bytes:Nat} [ht:TySl P t e ec bytes] (hk:C1 ob k=none) (hp:k < 1000000) :
  EffV P ⟨dst,.assign (.const (.slice none 0 0)),t,pos,af,gd⟩ fr ob (.s (.one (.buf k α ec c []))) (Fr.forget k fr) ((k,.spare 0 ec e)::Obs.forget k ob):=by
 intro S G a w h
 refine J9 (w':=w) (v:=.slice none 0 0) A0 ?_
 exact ⟨upd G k (.slice none 0 0),h.new hp hk (Below.refl _ _) (fun b hb=>by simp [blk] at hb) ⟨[],World.ownsRow_nil w _ _ _⟩,(J2 _ _ _).symm,I4 α ec c⟩
theorem o9 {rd:Rd} {α:Type} {ec:Nat} {c:α→Nat→Cell} {xs:List α} {u:Value} (h:(Cell.list α ec c xs).rep rd u) :
  ∃(ad:Option Addr) (cap:Nat) (vs:List Value),u=.slice ad xs.length cap∧(xs.length≤cap∧(ad=none→cap=0))∧xs.length < 4611686018427387904∧vs.length=xs.length*ec∧(∀v∈vs,v.oneCell'=true) ∧
   (∀i (hi:i < xs.length) j,j < ec→∃z,vs[i*ec+j]?=some z∧(c xs[i] j).rep rd z) ∧
   (xs.length=0∨∃b o,ad=some ⟨b,o,none⟩∧∀j z,vs[j]?=some z→rd b (o+j) z):=by
 simp only [Cell.rep] at h
 obtain ⟨ad,cap,h1,h2,h3,h4⟩:=h
 rcases Nat.eq_zero_or_pos ec with he | he
 ·subst he
  refine ⟨ad,cap,[],h1,h2,h3,by simp,by simp,fun i hi j hj=>by omega,?_⟩
  rcases h4 with h4 | ⟨b,o,hb,_⟩
  ·exact .inl h4
  ·exact .inr ⟨b,o,hb,by simp⟩
 rcases h4 with h4 | ⟨b,o,hb,h4⟩
 ·exact ⟨ad,cap,[],h1,h2,h3,by simp [h4],by simp,fun i hi=>by omega,.inl h4⟩
 ·obtain ⟨vs,hl,hv⟩:=A76 (R:=fun m z=>rd b (o+m) z∧∃h:m / ec < xs.length,(c xs[m / ec] (m % ec)).rep rd z) (xs.length*ec) (by
   intro m hm
   have h1:m / ec < xs.length:=Nat.div_lt_of_lt_mul (by rwa [Nat.mul_comm])
   obtain ⟨z,hz1,hi,hz2⟩:=h4 (m / ec) h1 (m % ec) (Nat.mod_lt _ he)
   refine ⟨z,?_,h1,hz2⟩
   have:o+m / ec*ec+m % ec=o+m:=by rw [Nat.add_assoc,Nat.mul_comm,Nat.div_add_mod]
   rwa [this] at hz1)
  refine ⟨ad,cap,vs,h1,h2,h3,hl,?_,?_,.inr ⟨b,o,hb,fun j z hz=>(hv j z hz).1⟩⟩
  ·intro v hv'
   obtain ⟨j,hj⟩:=List.mem_iff_getElem?.1 hv'
   obtain ⟨_,_,hr⟩:=hv j v hj
   exact Cell.rep_one hr
  ·intro i hi j hj
   have hlt:i*ec+j < vs.length:=by
    rw [hl]
    have:(i+1)*ec≤xs.length*ec:=L13 _ hi
    rw [L22] at this
    omega
   refine ⟨vs[i*ec+j],by simp [hlt],?_⟩
   obtain ⟨_,h5,hr⟩:=hv (i*ec+j) _ (by simp [hlt]:vs[i*ec+j]?=some vs[i*ec+j])
   have e1:(i*ec+j) / ec=i:=by rw [Nat.mul_comm,Nat.mul_add_div he,Nat.div_eq_of_lt hj,Nat.add_zero]
   have e2:(i*ec+j) % ec=j:=by rw [Nat.mul_comm,Nat.mul_add_mod,Nat.mod_eq_of_lt hj]
   simp only [e1,e2] at hr
   exact hr
end ops
end Go.AL
namespace Go.AL
open Go Go.RowKit
set_option linter.unusedVariables false
section
variable {P:Program} {S:Ctx} {fr:Fr} {ob:Obs} {G:Gh} {a:Act} {w w1:World}
theorem Sim.turn (h:Sim P S fr ob G a w) {k:Nat} (hp:k < 1000000) {o o':Ob} {u':Value} (hk:C1 ob k=some o)
  (hos:w1.os=w.os) (htape:w1.tape=w.tape) (hout:w1.output=w.output) (hsize:w.heap.size≤w1.heap.size)
  (hother:∀j,j < w.heap.size→blk (G k)≠some j→w1.heap[j]?=w.heap[j]?)
  (hread:∀b i z,F0 (Mut S ob G) w b i z→w1.cell? ⟨b,i,none⟩=some z)
  (hblk:∀b,blk u'=some b→blk (G k)=some b∨w.heap.size≤b)
  (hown:∀b i,b < w.heap.size→Own u' o' b i→Own (G k) o b i)
  (ho:∀rd:Rd,(∀b i z,F0 (Mut S ob G) w b i z→rd b i z)→∀G',(∀j,j≠k→G' j=G j)→ObOk S rd G' w1 u' o') :
  Sim P S (Fr.forget k fr) ((k,o')::Obs.forget k ob) (upd G k u') a w1:=by
 have hG:∀j,j≠k→upd G k u' j=G j:=fun j hj=>x5 G u' hj
 have hget:∀k' o1,k'≠k→C1 ((k,o')::Obs.forget k ob) k'=some o1→∃o0,C1 ob k'=some o0∧o1=o0.forget k:=by
  intro k' o1 hkk hk'
  rw [B4 (Ne.symm hkk),K6] at hk'
  cases hg:C1 ob k' with
  | none=>simp [hg] at hk'
  | some o0=>simp [hg] at hk';exact ⟨o0,rfl,hk'.symm⟩
 have hrd:∀b i z,F0 (Mut S ob G) w b i z→F0 (Mut S ((k,o')::Obs.forget k ob) (upd G k u')) w1 b i z:=by
  intro b i z hr
  refine ⟨hread b i z hr,fun hm=>hr.2 ?_⟩
  have hlt:b < w.heap.size:=World.block_lt_of_cell? w _ hr.1
  rcases hm with hm | ⟨k',o1,hk',hb⟩
  ·exact .inl hm
  ·by_cases hkk:k'=k
   ·subst hkk
    rw [C4] at hk';cases hk'
    rw [J2] at hb
    exact .inr ⟨k',o,hk,hown b i hlt hb⟩
   ·obtain ⟨o0,h0,rfl⟩:=hget k' o1 hkk hk'
    rw [hG _ hkk] at hb
    exact .inr ⟨k',o0,h0,Own_forget.1 hb⟩
 have hne:∀k' o0 b,k'≠k→C1 ob k'=some o0→blk (G k')=some b→blk (G k)≠some b:=fun k' o0 b hkk h0 hb e=>hkk (h.dis k' k o0 o b h0 hk hb e)
 refine { h with os:=hos.trans h.os,tape:=htape.trans h.tape,output:=hout.trans h.output,size:=Nat.le_trans h.size hsize,pin:=fun j hj=>by rw [hG j (by omega)];exact h.pin j hj,keep:=?_,old:=?_,dis:=?_,obs:=?_,facts:=?_ }
 ·intro j hj hn
  rw [hother j (Nat.lt_of_lt_of_le hj h.size) (fun e=>by
   rcases h.old k o j hk e with h1 | h1
   ·omega
   ·exact hn h1.1)]
  exact h.keep j hj hn
 ·intro k' o1 b hk' hb
  by_cases hkk:k'=k
  ·subst hkk
   rw [J2] at hb
   rcases hblk b hb with h1 | h1
   ·exact h.old k' o b hk h1
   ·exact .inl (Nat.le_trans h.size h1)
  ·obtain ⟨o0,h0,_⟩:=hget k' o1 hkk hk';rw [hG _ hkk] at hb;exact h.old k' o0 b h0 hb
 ·intro k1 k2 o1 o2 b h1 h2 hb1 hb2
  by_cases hk1:k1=k<;>by_cases hk2:k2=k
  ·rw [hk1,hk2]
  ·subst hk1
   obtain ⟨o0,h0,_⟩:=hget k2 o2 hk2 h2
   rw [J2] at hb1;rw [hG _ hk2] at hb2
   rcases hblk b hb1 with h3 | h3
   ·exact absurd h3 (hne k2 o0 b hk2 h0 hb2)
   ·have:=(h.obs k2 o0 h0).blk_lt b hb2;omega
  ·subst hk2
   obtain ⟨o0,h0,_⟩:=hget k1 o1 hk1 h1
   rw [J2] at hb2;rw [hG _ hk1] at hb1
   rcases hblk b hb2 with h3 | h3
   ·exact absurd h3 (hne k1 o0 b hk1 h0 hb1)
   ·have:=(h.obs k1 o0 h0).blk_lt b hb1;omega
  ·obtain ⟨oa,ha,_⟩:=hget k1 o1 hk1 h1
   obtain ⟨ob',hb',_⟩:=hget k2 o2 hk2 h2
   rw [hG _ hk1] at hb1;rw [hG _ hk2] at hb2
   exact h.dis k1 k2 oa ob' b ha hb' hb1 hb2
 ·intro k' o1 hk'
  by_cases hkk:k'=k
  ·subst hkk;rw [C4] at hk';cases hk';rw [J2];exact ho _ hrd _ hG
  ·obtain ⟨o0,h0,rfl⟩:=hget k' o1 hkk hk'
   rw [hG _ hkk]
   refine ObOk.forget hG ?_
   have hob:=h.obs k' o0 h0
   have hlt:=hob.blk_lt
   have hsame:∀b',blk (G k')=some b'→w1.heap[b']?=w.heap[b']?:=fun b' hb'=>hother b' (hlt b' hb') (hne k' o0 b' hkk h0 hb')
   cases o0 with
   | box ts =>
    obtain ⟨b',vs,t,h1,h2,h3⟩:=hob
    exact ⟨b',vs,t,h1,by rw [hsame b' (by rw [h1];rfl)];exact h2,h3.mono fun _ _=>TC.rep_mono hrd⟩
   | tbx e ts =>
    obtain ⟨b',vs,h1,h2,h3⟩:=hob
    exact ⟨b',vs,h1,by rw [hsame b' (by rw [h1];rfl)];exact h2,h3.mono fun _ _=>TC.rep_mono hrd⟩
   | tarr n ec ts =>
    obtain ⟨b',vs,t,h1,hl,h2,hn,h3⟩:=hob
    exact ⟨b',vs,t,h1,hl,by rw [hsame b' (by rw [h1];rfl)];exact h2,hn,h3.mono fun _ _=>TC.rep_mono hrd⟩
   | arr α ec c xs =>
    obtain ⟨b',vs,t,h1,hl,h2,h3,h4⟩:=hob
    refine ⟨b',vs,t,h1,hl,by rw [hsame b' (by rw [h1];rfl)];exact h2,h3,fun i hi j hj=>?_⟩
    obtain ⟨z,hz1,hz2⟩:=h4 i hi j hj
    exact ⟨z,hz1,Cell.rep_mono hrd _ _ hz2⟩
   | spare n ec e =>
    obtain ⟨vs,h1⟩:=hob
    rcases h1.2 with ⟨hn,hz⟩ | ⟨g,cap,cur,hv,h2,h3,h4⟩
    ·exact ⟨vs,h1.1,.inl ⟨hn,hz⟩⟩
    ·exact ⟨vs,h1.1,.inr ⟨g,cap,cur,hv,h2,by rw [hsame g (by rw [hv];rfl)];exact h3,h4⟩⟩
   | map κ kf kvs =>
    obtain ⟨r,es,clock,h1,h2,h3⟩:=hob
    exact ⟨r,es,clock,h1,by rw [hsame r (by rw [h1];rfl)];exact h2,h3.mono fun _ _ ⟨e1,e2⟩=>⟨e1,Cell.rep_mono hrd _ _ e2⟩⟩
   | growA e α ec c xs p ts =>
    obtain ⟨vs,h1,hl,hp,hts,h5,h7⟩:=hob
    have h6:∀i (hi:i < xs.length),i≠p→∀j,j < ec→∃z,vs[i*ec+j]?=some z∧(c xs[i] j).rep _ z:=fun i hi hne j hj=>(let ⟨z,hz1,hz2⟩:=h5 i hi hne j hj;⟨z,hz1,Cell.rep_mono hrd _ _ hz2⟩)
    rcases h1.2 with ⟨hn,hz⟩ | ⟨g,cap,cur,hv,h2,h3,h4⟩
    ·exact ⟨vs,⟨h1.1,.inl ⟨hn,hz⟩⟩,hl,hp,hts,h6,h7.mono fun _ _=>TC.rep_mono hrd⟩
    ·exact ⟨vs,⟨h1.1,.inr ⟨g,cap,cur,hv,h2,by rw [hsame g (by rw [hv];rfl)];exact h3,h4⟩⟩,hl,hp,hts,h6,h7.mono fun _ _=>TC.rep_mono hrd⟩
   | growT e n ec ts =>
    obtain ⟨vs,h1,hl,hts,h7⟩:=hob
    rcases h1.2 with ⟨hn,hz⟩ | ⟨g,cap,cur,hv,h2,h3,h4⟩
    ·exact ⟨vs,⟨h1.1,.inl ⟨hn,hz⟩⟩,hl,hts,h7.mono fun _ _=>TC.rep_mono hrd⟩
    ·exact ⟨vs,⟨h1.1,.inr ⟨g,cap,cur,hv,h2,by rw [hsame g (by rw [hv];rfl)];exact h3,h4⟩⟩,hl,hts,h7.mono fun _ _=>TC.rep_mono hrd⟩
   | grow e α ec c xs =>
    obtain ⟨vs,h1,hl,h5⟩:=hob
    have h6:∀i (hi:i < xs.length) j,j < ec→∃z,vs[i*ec+j]?=some z∧(c xs[i] j).rep _ z:=fun i hi j hj=>(let ⟨z,hz1,hz2⟩:=h5 i hi j hj;⟨z,hz1,Cell.rep_mono hrd _ _ hz2⟩)
    rcases h1.2 with ⟨hn,hz⟩ | ⟨g,cap,cur,hv,h2,h3,h4⟩
    ·exact ⟨vs,⟨h1.1,.inl ⟨hn,hz⟩⟩,hl,h6⟩
    ·exact ⟨vs,⟨h1.1,.inr ⟨g,cap,cur,hv,h2,by rw [hsame g (by rw [hv];rfl)];exact h3,h4⟩⟩,hl,h6⟩
 ·intro i s hi
  rw [N7] at hi
  cases hg:E5 fr i with
  | none=>simp [hg] at hi
  | some s0 =>
   simp [hg] at hi
   subst hi
   exact SV.rep_forget hG (SV.rep_mono hrd (h.facts i s0 hg))
theorem C65 (base:Nat) {t ty e:TypeId} {ec bytes:Nat} (ht:TySl P t e ec bytes) {v:Value} {n:Nat} {xs:List Value} (hown:w.ownsRow base e ec v n xs) (hbase:base≤w.heap.size)
  {u:Value} {ad:Option Addr} {m c:Nat} {news:List Value} (hu:u=.slice ad m c) (hc:ad=none→c=0) (hmc:m≤c) (hl:news.length=m*ec) (hnews:∀b o,ad=some ⟨b,o,none⟩→∀j z,news[j]?=some z→w.cell? ⟨b,o+j,none⟩=some z)
  (had:m=0∨∃b o,ad=some ⟨b,o,none⟩) (h1:∀z∈news,z.oneCell'=true) (hlen:n+m≤1073741824) :
  ∃v' w',(Builtin.append_ #[t,t] ty #[v,u]).run P w=.ok v' w'∧w'.ownsRow base e ec v' (n+m) (xs++news)∧w.grownBy w' v.ownBlock∧(∀b,blk v'=some b→blk v=some b∨w.heap.size≤b)∧(blk v'=blk v∨∀j,j < w.heap.size→w'.heap[j]?=w.heap[j]?):=by
 obtain ⟨hts,hinfo,hec,hby,hzero⟩:=ht.out
 cases hi:P.info? e with
 | none=>simp [hi] at hinfo
 | some i =>
 simp [hi] at hinfo
 obtain ⟨hsz,hbytes⟩:=hinfo
 cases hz:i.zero with
 | none=>simp [hi,hz] at hzero
 | some z =>
 simp [hi,hz] at hzero
 have hbig:(n+m)*bytes≤140737488355328:=by
  have:(n+m)*bytes≤1073741824*4096:=Nat.mul_le_mul hlen hby
  omega
 have hmax:n+m≤maxLen:=by unfold maxLen;omega
 subst hu
 by_cases hnone:ad=none∧m=0
 ·obtain ⟨rfl,rfl⟩:=hnone
  have hc0:=hc rfl
  subst hc0
  have hn0:news=[]:=List.eq_nil_of_length_eq_zero (by simpa using hl)
  subst hn0
  refine ⟨v,w,run_append_owned_none (P:=P) (w:=w) base t ty e i ec hts hi v n xs hown,by simpa using hown,⟨rfl,rfl,rfl,Nat.le_refl _,fun _ _ _=>rfl⟩,fun b hb=>.inl hb,.inl rfl⟩
 ·-- an address: the source's own,or any (nothing is read)
  have:∃ad',ad=some ad'∧∀j z,news[j]?=some z→w.cell? (ad'.add j)=some z:=by
   rcases had with h0 | ⟨b,o,rfl⟩
   ·cases ad with
    | none=>exact absurd ⟨rfl,h0⟩ hnone
    | some ad' =>
     have hn0:news=[]:=List.eq_nil_of_length_eq_zero (by rw [hl,h0];simp)
     exact ⟨ad',rfl,by simp [hn0]⟩
   ·exact ⟨_,rfl,fun j z hj=>by rw [Addr.add_lit];exact hnews b o rfl j z hj⟩
  obtain ⟨ad',rfl,hnews'⟩:=this
  obtain ⟨v',w',hr,ho,hg,hiff⟩:=run_append_own (P:=P) w base t ty e i z ec bytes hts hi hz hsz hbytes hzero hec v n xs hown ad' m c news hl hnews' h1 hmax hbig hbase
  refine ⟨v',w',hr,ho,hg,?_⟩
  rcases hown.2 with ⟨rfl,rfl⟩ | ⟨g,cap,cur,rfl,hbg,hgh,hnc,hcm,hcs,htake⟩
  ·rcases Nat.eq_zero_or_pos m with hm | hm
   ·have hv:=hiff.2 ⟨rfl,hm⟩
    subst hv
    exact ⟨fun b hb=>by simp [blk] at hb,.inl rfl⟩
   ·have hr2:=run_append_nil (P:=P) w t ty e i z hts hi hz ad' m c news (by rw [hsz];exact hl) hnews' hm (by omega) (by rw [hbytes];simp at hbig;omega)
    rw [hr] at hr2
    injection hr2 with hv hw
    subst hv;subst hw
    exact ⟨fun b hb=>by simp [blk] at hb;exact .inr (by omega),.inr fun j hj=>heap_alloc_old w.drew _ hj⟩
  ·by_cases hroom:n+m≤cap
   ·have hr2:=run_append_room (P:=P) w t ty e i hts hi g n cap cur hgh ad' m c news (by rw [hsz];exact hl) hnews' h1 hroom (by rw [hl,hsz,hcs,←L22];exact L13 _ hroom)
    rw [hr] at hr2
    injection hr2 with hv _
    subst hv
    exact ⟨fun b hb=>.inl hb,.inl rfl⟩
   ·have holds:∀j u,xs[j]?=some u→w.cell? ((⟨g,0,none⟩:Addr).add j)=some u:=hown.cells (g:=g) rfl
    have hr2:=run_append_grow (P:=P) w t ty e i z hts hi hz ⟨g,0,none⟩ n cap xs (by rw [hsz];exact hown.1) holds ad' m c news (by rw [hsz];exact hl) hnews' (by omega) (by omega) (growslice_fits (by omega) (by rw [hbytes];exact hbig))
    rw [hr] at hr2
    injection hr2 with hv hw
    subst hv;subst hw
    exact ⟨fun b hb=>by simp [blk] at hb;exact .inr (by omega),.inr fun j hj=>heap_alloc_old w.drew _ hj⟩
end
section
variable {P:Program} {dst:Option Tmp} {ty:TypeId} {pos:String} {af:Array Edge} {gd:Option (Nat × Bool)} {fr:Fr} {ob:Obs}
theorem B43 {v:Value} (h0:(∀a,v≠.pointer a)∧∀r,v≠.map r):v.ownBlock=blk v:=by
 obtain ⟨h,hm⟩:=h0
 cases v with
 | map r=>exact absurd rfl (hm r)
 | pointer a=>exact absurd rfl (h a)
 | slice a l c=>cases a<;>rfl
 | _=>rfl
theorem B05 {w:World} {base:Nat} {e:TypeId} {size:Nat} {v:Value} {n:Nat} {xs:List Value} (h:w.ownsRow base e size v n xs):(∀a,v≠.pointer a)∧∀r,v≠.map r:=by
 rcases h.2 with ⟨rfl,_⟩ | ⟨g,cap,cur,rfl,_⟩<;>exact ⟨fun a ha=>(by cases ha),fun a ha=>(by cases ha)⟩
theorem A38 {w:World} {base:Nat} {e:TypeId} {α:Type} {ec:Nat} {c:α→Nat→Cell} {xs:List α} {v:Value} {vs:List Value} {rd:Rd} (h:w.ownsRow base e ec v xs.length vs) (hec:0 < ec)
  (hlen:xs.length < 4611686018427387904) (hread:∀g,blk v=some g→∀j z,j < xs.length*ec→w.cell? ⟨g,j,none⟩=some z→rd g j z)
  (hv:∀i (hi:i < xs.length) j,j < ec→∃z,vs[i*ec+j]?=some z∧(c xs[i] j).rep rd z):(Cell.list α ec c xs).rep rd v:=by
 have hl:=h.1
 rcases h.2 with ⟨rfl,h0⟩ | ⟨g,cap,cur,rfl,_,hg,hnc,_,hcs,htake⟩
 ·obtain rfl:xs=[]:=List.eq_nil_of_length_eq_zero h0
  exact I4 α ec c
 ·simp only [Cell.rep]
  refine ⟨some ⟨g,0,none⟩,cap,rfl,⟨hnc,by simp⟩,hlen,.inr ⟨g,0,rfl,fun i hi j hj=>?_⟩⟩
  obtain ⟨z,hz1,hz2⟩:=hv i hi j hj
  have hlt:i*ec+j < xs.length*ec:=by
   have:(i+1)*ec≤xs.length*ec:=L13 _ hi
   rw [L22] at this
   omega
  have hcell:w.cell? ⟨g,i*ec+j,none⟩=some z:=by
   have:=h.cells (g:=g) rfl (i*ec+j) z hz1
   rwa [Addr.add_lit,Nat.zero_add] at this
  refine ⟨z,by rw [Nat.zero_add];exact hread g rfl _ _ hlt hcell,hi,hz2⟩
theorem I39 {S:Ctx} {G:Gh} {a:Act} {w w':World} (h:Sim P S fr ob G a w) {k:Nat} {α:Type} {ec:Nat} {c:α→Nat→Cell} {xs ys:List α} {e:TypeId} {ws vs:List Value} {v':Value} (hec:0 < ec) (hp:k < 1000000) (hk:C1 ob k=some (.spare xs.length ec e))
  (hrx:(Cell.list α ec c xs).rep (F0 (Mut S ob G) w) (G k)) (hown:w.ownsRow S.B e ec (G k) xs.length ws) (hown':w'.ownsRow S.B e ec v' (xs.length+ys.length) (ws++vs)) (hgrow:w.grownBy w' (G k).ownBlock)
  (hblk':∀b,blk v'=some b→blk (G k)=some b∨w.heap.size≤b) (hleave:blk v'=blk (G k)∨∀j,j < w.heap.size→w'.heap[j]?=w.heap[j]?) (hlen:xs.length+ys.length≤1073741824)
  (hvs:∀i (hi:i < ys.length) j,j < ec→∃z,vs[i*ec+j]?=some z∧(c ys[i] j).rep (F0 (Mut S ob G) w) z) :
  ∃G',Sim P S (Fr.forget k fr) ((k,.spare (xs++ys).length ec e)::Obs.forget k ob) G' a w'∧(SV.s (.one (.buf k α ec c (xs++ys)))).rep (F0 (Mut S ((k,.spare (xs++ys).length ec e)::Obs.forget k ob) G') w') G' v':=by
 obtain ⟨ad0,cap0,vs0,hu0,hcap0,hl0,hvl0,hone0,hvs0,hrd0⟩:=o9 hrx
 have hws:∀(j:Nat) (z:Value),vs0[j]?=some z→ws[j]?=some z:=by
  intro j z hz
  have hj:j < xs.length*ec:=by
   have:=(List.getElem?_eq_some_iff.1 hz).1
   omega
  have hjw:j < ws.length:=by rw [hown.1];exact hj
  rcases hown.2 with ⟨_,hn0⟩ | ⟨g,cap',cur,hgv,_⟩
  ·rw [hn0] at hj;omega
  ·rw [hgv] at hu0
   injection hu0 with ha _ _
   rcases hrd0 with h0 | ⟨b,o,hb,hr⟩
   ·rw [h0] at hj;omega
   ·rw [←ha] at hb
    injection hb with hb
    injection hb with hb1 hb2
    have hc1:=(hr j z hz).1
    rw [←hb1,←hb2,Nat.zero_add] at hc1
    have hc2:=hown.cells (g:=g) (by rw [hgv];rfl) j ws[j] (by simp [hjw])
    rw [Addr.add_lit,Nat.zero_add,hc1] at hc2
    rw [L01 hjw]
    exact hc2.symm
 have hlen':xs.length+ys.length=(xs++ys).length:=by simp
 rw [hlen'] at hown'
 have hnp:=B05 hown
 have hbv:(G k).ownBlock=blk (G k):=B43 hnp
 have hread:∀b i z,F0 (Mut S ob G) w b i z→w'.cell? ⟨b,i,none⟩=some z:=by
  intro b i z hr
  have hlt:b < w.heap.size:=World.block_lt_of_cell? w _ hr.1
  by_cases hb:blk (G k)=some b
  ·-- its own block: below the spare part
   have hi:i < xs.length*ec:=by
    rcases Nat.lt_or_ge i (xs.length*ec) with h' | h'
    ·exact h'
    ·exact absurd (Or.inr ⟨k,_,hk,hb,h'⟩) hr.2
   have hj:i < ws.length:=by rw [hown.1];exact hi
   have hwz:ws[i]?=some z:=by
    have hc2:=hown.cells (g:=b) (by rw [hbv];exact hb) i ws[i] (by simp [hj])
    rw [Addr.add_lit,Nat.zero_add,hr.1] at hc2
    rw [L01 hj];exact hc2.symm
   by_cases hv':blk v'=some b
   ·have hc3:=hown'.cells (g:=b) (by rw [B43 (B05 hown')];exact hv') i z (by rw [L19 hj];exact hwz)
    rwa [Addr.add_lit,Nat.zero_add] at hc3
   ·-- a new row: of the old one nothing was written
    rcases hleave with hl' | hl'
    ·exact absurd (hl'.trans hb) hv'
    ·rw [World.cell?_of_block (w:=w) (a:=⟨b,i,none⟩) (hl' b hlt)];exact hr.1
  ·rw [World.cell?_of_block (w:=w) (a:=⟨b,i,none⟩) (hgrow.block b hlt (by rw [hbv];exact fun e=>hb e.symm))]
   exact hr.1
 have hsim:=h.turn (o':=.spare (xs++ys).length ec e) (u':=v') hp hk hgrow.os hgrow.tape hgrow.output hgrow.size (fun j hj hb=>hgrow.block j hj (by rw [hbv];exact fun e=>hb e.symm)) hread hblk'
  (by
   intro b i hb ho
   obtain ⟨ho1,ho2⟩:=ho
   rcases hblk' b ho1 with h1 | h1
   ·refine ⟨h1,?_⟩
    have:xs.length*ec≤(xs++ys).length*ec:=L13 _ (by simp)
    exact Nat.le_trans this ho2
   ·omega)
  (fun rd hrd' G' hG'=>⟨_,hown'⟩)
 refine ⟨upd G k v',hsim,(J2 _ _ _).symm,?_⟩
 refine A38 hown' hec (by simp;omega) ?_ ?_
 ·intro g hg j z hj hcell
  refine ⟨hcell,fun hm=>?_⟩
  rcases hm with hm | ⟨k',o',hk',hb1,hb2⟩
  ·have:=h.m0 g j hm
   rcases hblk' g hg with h1 | h1
   ·rcases h.old k _ g hk h1 with h2 | h2
    ·omega
    ·-- an io block: not at a growing slice
     have:=(hown.lt g (by rw [hbv];exact h1)).1
     omega
   ·have:=h.size;omega
  ·by_cases hkk:k'=k
   ·subst hkk
    rw [C4] at hk';cases hk'
    simp only at hb2
    omega
   ·have:=hsim.dis k' k o' _ g hk' (C4 _ _ _) hb1 (by rw [J2];exact hg)
    exact hkk this
 ·-- the elements,old and new
  have hmono:∀b i z,F0 (Mut S ob G) w b i z→F0 (Mut S ((k,Ob.spare (xs++ys).length ec e)::Obs.forget k ob) (upd G k v')) w' b i z:=by
   intro b i z hr
   refine ⟨hread b i z hr,fun hm=>hr.2 ?_⟩
   have hlt:b < w.heap.size:=World.block_lt_of_cell? w _ hr.1
   rcases hm with hm | ⟨k',o1,hk',hb⟩
   ·exact .inl hm
   ·by_cases hkk:k'=k
    ·subst hkk
     rw [C4] at hk';cases hk'
     rw [J2] at hb
     obtain ⟨hb1,hb2⟩:=hb
     rcases hblk' b hb1 with h1 | h1
     ·refine .inr ⟨k',_,hk,h1,?_⟩
      have:xs.length*ec≤(xs++ys).length*ec:=L13 _ (by simp)
      exact Nat.le_trans this hb2
     ·omega
    ·rw [B4 (Ne.symm hkk),K6] at hk'
     cases hg:C1 ob k' with
     | none=>simp [hg] at hk'
     | some o0 =>
      simp [hg] at hk';subst hk'
      rw [x5 G _ hkk] at hb
      exact .inr ⟨k',o0,hg,Own_forget.1 hb⟩
  intro i hi j hj
  by_cases hlt:i < xs.length
  ·obtain ⟨z,hz1,hz2⟩:=hvs0 i hlt j hj
   have hw:=hws _ _ hz1
   refine ⟨z,?_,?_⟩
   ·rw [L19 (List.getElem?_eq_some_iff.1 hw).1];exact hw
   ·rw [L52 hlt];exact Cell.rep_mono hmono _ _ hz2
  ·have hi':i - xs.length < ys.length:=by simp at hi;omega
   obtain ⟨z,hz1,hz2⟩:=hvs (i - xs.length) hi' j hj
   refine ⟨z,?_,?_⟩
   ·have hge:xs.length*ec≤i*ec:=L13 _ (by omega)
    rw [L17 (by rw [hown.1];omega),hown.1]
    have:i*ec+j - xs.length*ec=(i - xs.length)*ec+j:=by rw [Nat.sub_mul];omega
    rw [this];exact hz1
   ·rw [L49 (by omega)];exact Cell.rep_mono hmono _ _ hz2
theorem P0 {x y:Operand} {k:Nat} {α:Type} {ec bytes:Nat} {c:α→Nat→Cell} {xs ys:List α} {t e:TypeId} {s:SV} [ht:TySl P t e ec bytes] (hx:opv fr x=some (.s (.one (.buf k α ec c xs)))) (hk:C1 ob k=some (.spare xs.length ec e))
  (hy:opv fr y=some s) (hl:IsList s α ec c ys) (hlen:xs.length+ys.length≤1073741824) (hp:Nat.blt k 1000000=true) :
  EffV P ⟨dst,.call ⟨.builtin .append,#[x,y],#[t,t]⟩,ty,pos,af,gd⟩ fr ob (.s (.one (.buf k α ec c (xs++ys)))) (Fr.forget k fr) ((k,.spare (xs++ys).length ec e)::Obs.forget k ob):=by
 intro S G a w h
 have hec:=ht.out.2.2.1
 obtain ⟨hux,hrx⟩:=J0 h hx
 rw [hux] at hrx
 have hry:=l8 h hy hl
 obtain ⟨ad,cap,vs,huy,hcap,hly,hvl,hone,hvs,hrd⟩:=o9 hry
 obtain ⟨ws,hown⟩:=h.obs k _ hk
 obtain ⟨v',w',hrun,hown',hgrow,hblk',hleave⟩:=C65 (P:=P) (ty:=ty) S.B ht hown h.size (u:=a.eval y) (ad:=ad) (m:=ys.length) (c:=cap) (news:=vs) huy hcap.2 hcap.1 hvl
  (fun b o hb j z hz=>by
   rcases hrd with h0 | ⟨b',o',hb',hr⟩
   ·have hvs0:vs=[]:=List.eq_nil_of_length_eq_zero (by rw [hvl,h0];simp)
    rw [hvs0] at hz;simp at hz
   ·rw [hb] at hb';injection hb' with hb';injection hb' with e1 e2;subst e1;subst e2
    exact (hr j z hz).1)
  (hrd.imp id fun ⟨b',o',hb',_⟩=>⟨b',o',hb'⟩) hone hlen
 exact J9 (w':=w') (v:=v') (by simp [execOp,resolve,invoke,builtin,hux,hrun]) (I39 h hec (by simpa using hp) hk hrx hown hown' hgrow hblk' hleave hlen hvs)
class TyBytes (P:Program) (t:TypeId) (e:outParam TypeId):Prop where
 out:P.underlying t=some (.slice e)∧P.underlying e=some (.int .u8)∧(P.info? e).map (fun i=>(i.zero,i.size,i.bytes))=some (some (.int .u8 0),1,1)
abbrev u8C:UInt8→Nat→Cell:=fun n _=>.v (.int .u8 n.toNat)
theorem B93 {x:Operand} {src d:TypeId} {e:TypeId} {s:SV} {xs:List UInt8} [hs:TyBytes P src e] (hd:P.underlying d=some .string) (hx:opv fr x=some s) (hl:IsList s UInt8 1 u8C xs) :
  Neu P ⟨dst,.convert src d x,ty,pos,af,gd⟩ fr ob (fun s'=>s'=Z9 xs) :=
 F5 fun S G a w h=>by
  obtain ⟨ad,cap,vs,hu,hcap,hlx,hvl,hone,hvs,hrd⟩:=o9 (l8 h hx hl)
  refine ⟨.string ⟨xs.toArray⟩,?_,rfl,rfl⟩
  have hvsx:vs=(xs.map fun n=>(n.toNat:Int)).map (Value.int .u8):=by
   refine List.ext_getElem? fun j=>?_
   rcases Nat.lt_or_ge j xs.length with hj | hj
   ·obtain ⟨z,hz1,hz2,_⟩:=hvs j hj 0 (by decide)
    simp only [Nat.mul_one,Nat.add_zero] at hz1
    rw [hz1,hz2];simp [hj]
   ·rw [L18 (by omega),L18 (by simpa using hj)]
  have hfold:∀(l:List UInt8) (r:ByteArray),(l.map fun n=>(n.toNat:Int)).foldl (fun r n=>r.push (UInt8.ofNat n.toNat)) r=⟨r.data++l.toArray⟩:=by
   intro l
   induction l with
   | nil=>intro r;cases r;simp
   | cons b l ih=>intro r;rw [L16,L32,ih];congr 1;simp [ByteArray.push]
  have hrun:(Conv.bytesToString (a.eval x)).run P w=.ok (.string ⟨xs.toArray⟩) w:=by
   rw [hu]
   cases ad with
   | none =>
    have:cap=0:=hcap.2 rfl
    have h0:xs=[]:=List.eq_nil_of_length_eq_zero (by omega)
    subst h0;rfl
   | some ad =>
    have hload:(loadCells ad xs.length).run P w=.ok ((xs.map fun n=>(n.toNat:Int)).map (Value.int .u8)).toArray w:=by
     have:=run_loadCells_list (P:=P) w ad vs (fun j v hv=>by
      rcases hrd with h0 | ⟨b,o,hb,hr⟩
      ·have:vs=[]:=List.eq_nil_of_length_eq_zero (by omega)
       subst this;simp at hv
      ·cases hb;rw [Addr.add_lit];exact (hr j v hv).1)
     rw [show vs.length=xs.length by omega,hvsx] at this
     exact this
    rw [run_bytesToString w ad xs.length cap _ hload,hfold]
    simp
  rw [hu] at hrun
  simp only [execOp,hu]
  refine M6 ?_
  obtain ⟨h1,h2,_⟩:=hs.out
  simp [convert,run_underlying h1,run_underlying hd,run_underlying h2,hrun]
end
end Go.AL
namespace Go.AL
open Go Go.RowKit
set_option linter.unusedVariables false
section
variable {P:Program} {dst:Option Tmp} {ty:TypeId} {pos:String} {af:Array Edge} {gd:Option (Nat × Bool)} {fr:Fr} {ob:Obs}
theorem D21 {rd:Rd} {α:Type} {ec:Nat} {c:α→Nat→Cell} {xs:List α} {a:Option Addr} {cap lo hi:Nat} (h:(Cell.list α ec c xs).rep rd (.slice a xs.length cap)) (h1:lo≤hi) (h2:hi≤xs.length) :
  (Cell.list α ec c ((xs.drop lo).take (hi - lo))).rep rd (sliced a lo hi cap ec):=by
 simp only [Cell.rep] at h ⊢
 obtain ⟨a',cap',he,⟨h3,h3'⟩,h4,h5⟩:=h
 cases he
 have hl:((xs.drop lo).take (hi - lo)).length=hi - lo:=by simp;omega
 unfold sliced
 by_cases hz:hi - lo=0
 ·refine ⟨_,_,by rw [hl],⟨by omega,?_⟩,by omega,.inl (by omega)⟩
  intro hn
  by_cases hc:cap=lo
  ·omega
  ·rw [if_neg hc] at hn
   cases a with
   | none=>have:=h3' rfl;omega
   | some a=>simp at hn
 ·rcases h5 with h5 | ⟨b,o,rfl,h5⟩
  ·omega
  ·have hc:cap≠lo:=by omega
   refine ⟨_,_,by rw [hl],⟨by omega,by simp [hc]⟩,by omega,.inr ⟨b,o+lo*ec,by simp [hc,Addr.add_lit],fun i hi' j hj=>?_⟩⟩
   rw [hl] at hi'
   obtain ⟨z,hz1,hlt,hz2⟩:=h5 (lo+i) (by omega) j hj
   refine ⟨z,?_,by omega,?_⟩
   ·have:o+lo*ec+i*ec+j=o+(lo+i)*ec+j:=by rw [L22];omega
    rw [this];exact hz1
   ·have:((xs.drop lo).take (hi - lo))[i]'(by omega)=xs[lo+i]:=by simp
    rw [this];exact hz2
theorem TySl.elem {t e:TypeId} {ec bytes:Nat} (ht:TySl P t e ec bytes):P.underlying t=some (.slice (P.elem t))∧P.elem t=e:=by
 have:P.elem t=e:=by simp [Program.elem,ht.out.1]
 exact ⟨by rw [this];exact ht.out.1,this⟩
theorem E75 {x yl yh:Operand} {t e:TypeId} {bytes ec:Nat} {s:SV} {α:Type} {c:α→Nat→Cell} {xs:List α} {kl kh:IntKind} {i j:Int} [ht:TySl P t e ec bytes] (hx:opv fr x=some s) (hl:IsList s α ec c xs)
  (hyl:opv fr yl=some (I7 (.int kl i))) (hyh:opv fr yh=some (I7 (.int kh j))) (h0:0≤i) (h1:i≤j) (h2:j≤xs.length) :
  Neu P ⟨dst,.slice t x (some yl) (some yh) none,ty,pos,af,gd⟩ fr ob (fun s'=>s'=D6 α ec c ((xs.drop i.toNat).take (j.toNat - i.toNat))) :=
 F5 fun S G a w h=>by
  have hr:=l8 h hx hl
  obtain ⟨ad,cap,hu,hcap,_⟩:=l7 hr
  rw [hu] at hr
  refine ⟨_,?_,D21 (lo:=i.toNat) (hi:=j.toNat) hr (by omega) (by omega)⟩
  simp only [execOp,hu,G5 h hyl,G5 h hyh,Option.map_some,Option.map_none]
  refine M6 ?_
  obtain ⟨he1,he2⟩:=ht.elem
  simp only [Instr.sliceAt,Sem.run_bind,run_underlying ht.out.1,Result.andThen_ok]
  rw [run_slice_lh w t ad xs.length cap he1 kl kh i j h0 h1 (by omega),he2,J8 ht.size]
  rfl
theorem G05 {x yh:Operand} {t e:TypeId} {bytes ec:Nat} {s:SV} {α:Type} {c:α→Nat→Cell} {xs:List α} {kh:IntKind} {j:Int} [ht:TySl P t e ec bytes] (hx:opv fr x=some s) (hl:IsList s α ec c xs)
  (hyh:opv fr yh=some (I7 (.int kh j))) (h0:0≤j) (h2:j≤xs.length) :
  Neu P ⟨dst,.slice t x none (some yh) none,ty,pos,af,gd⟩ fr ob (fun s'=>s'=D6 α ec c (xs.take j.toNat)) :=
 F5 fun S G a w h=>by
  have hr:=l8 h hx hl
  obtain ⟨ad,cap,hu,hcap,_⟩:=l7 hr
  rw [hu] at hr
  have hp:=D21 (lo:=0) (hi:=j.toNat) hr (by omega) (by omega)
  rw [List.drop_zero,Nat.sub_zero] at hp
  refine ⟨sliced ad 0 j.toNat cap ec,?_,hp⟩
  simp only [execOp,hu,G5 h hyh,Option.map_some,Option.map_none]
  refine M6 ?_
  obtain ⟨he1,he2⟩:=ht.elem
  simp only [Instr.sliceAt,Sem.run_bind,run_underlying ht.out.1,Result.andThen_ok]
  rw [run_slice_h w t ad xs.length cap he1 kh j h0 (by omega),he2,J8 ht.size]
  rfl
theorem G06 {x yl:Operand} {t e:TypeId} {bytes ec:Nat} {s:SV} {α:Type} {c:α→Nat→Cell} {xs:List α} {kl:IntKind} {i:Int} [ht:TySl P t e ec bytes] (hx:opv fr x=some s) (hl:IsList s α ec c xs)
  (hyl:opv fr yl=some (I7 (.int kl i))) (h0:0≤i) (h2:i≤xs.length) :
  Neu P ⟨dst,.slice t x (some yl) none none,ty,pos,af,gd⟩ fr ob (fun s'=>s'=D6 α ec c (xs.drop i.toNat)) :=
 F5 fun S G a w h=>by
  have hr:=l8 h hx hl
  obtain ⟨ad,cap,hu,hcap,_⟩:=l7 hr
  rw [hu] at hr
  have hd:(xs.drop i.toNat).take (xs.length - i.toNat)=xs.drop i.toNat:=L31 (by simp)
  have hp:=D21 (lo:=i.toNat) (hi:=xs.length) hr (by omega) (by omega)
  rw [hd] at hp
  refine ⟨sliced ad i.toNat xs.length cap ec,?_,hp⟩
  simp only [execOp,hu,G5 h hyl,Option.map_some,Option.map_none]
  refine M6 ?_
  obtain ⟨he1,he2⟩:=ht.elem
  simp only [Instr.sliceAt,Sem.run_bind,run_underlying ht.out.1,Result.andThen_ok]
  rw [run_slice_l w t ad xs.length cap he1 kl i h0 h2,he2,J8 ht.size]
  rfl
theorem H37 {x yl yh:Operand} {t:TypeId} {l:List UInt8} {kl kh:IntKind} {i j:Int} [ht:TyStr P t] (hx:opv fr x=some (Z9 l))
  (hyl:opv fr yl=some (I7 (.int kl i))) (hyh:opv fr yh=some (I7 (.int kh j))) (h0:0≤i) (h1:i≤j) (h2:j≤l.length) :
  Neu P ⟨dst,.slice t x (some yl) (some yh) none,ty,pos,af,gd⟩ fr ob (fun s'=>s'=Z9 ((l.drop i.toNat).take (j.toNat - i.toNat))) :=
 F5 fun S G a w h=>by
  refine ⟨_,?_,rfl,rfl⟩
  simp only [execOp,G5 h hx,G5 h hyl,G5 h hyh,Option.map_some,Option.map_none]
  refine M6 ?_
  simp only [Instr.sliceAt,Sem.run_bind,run_underlying ht.out,Result.andThen_ok]
  rw [run_slice_string w t _ kl kh i j ht.out h0 h1 (by rw [A10];exact h2),ByteArray.extract_mk]
theorem D22 {x yh:Operand} {t:TypeId} {l:List UInt8} {kh:IntKind} {j:Int} [ht:TyStr P t] (hx:opv fr x=some (Z9 l))
  (hyh:opv fr yh=some (I7 (.int kh j))) (h0:0≤j) (h2:j≤l.length) :
  Neu P ⟨dst,.slice t x none (some yh) none,ty,pos,af,gd⟩ fr ob (fun s'=>s'=Z9 (l.take j.toNat)) :=
 F5 fun S G a w h=>by
  refine ⟨.string ((ByteArray.mk l.toArray).extract 0 j.toNat),?_,?_,rfl⟩
  ·simp only [execOp,G5 h hx,G5 h hyh,Option.map_some,Option.map_none]
   refine M6 ?_
   simp only [Instr.sliceAt,Sem.run_bind,run_underlying ht.out,Result.andThen_ok]
   rw [run_slice_string_h w t _ ht.out kh j h0 (by rw [A10];exact h2)]
  ·rw [ByteArray.extract_mk];simp
theorem B44 {x yl:Operand} {t:TypeId} {l:List UInt8} {kl:IntKind} {i:Int} [ht:TyStr P t] (hx:opv fr x=some (Z9 l))
  (hyl:opv fr yl=some (I7 (.int kl i))) (h0:0≤i) (h2:i≤l.length) :
  Neu P ⟨dst,.slice t x (some yl) none none,ty,pos,af,gd⟩ fr ob (fun s'=>s'=Z9 (l.drop i.toNat)) :=
 F5 fun S G a w h=>by
  refine ⟨.string ((ByteArray.mk l.toArray).extract i.toNat (ByteArray.mk l.toArray).size),?_,?_,rfl⟩
  ·simp only [execOp,G5 h hx,G5 h hyl,Option.map_some,Option.map_none]
   refine M6 ?_
   simp only [Instr.sliceAt,Sem.run_bind,run_underlying ht.out,Result.andThen_ok]
   rw [run_slice_string_l w t _ ht.out kl i h0 (by rw [A10];exact h2)]
  ·rw [ByteArray.extract_mk,A10,L31 (by simp)]
theorem E76 (off:Nat):∀(l:List Value) (k:Nat) (cs:Array Value),off+k+l.length≤cs.size →
  (l.zipIdx k).foldl (fun cs (x:Value × Nat)=>cs.setIfInBounds (off+x.2) x.1) cs=(cs.toList.take (off+k)++l++cs.toList.drop (off+k+l.length)).toArray
 | [],k,cs,h=>by simp
 | v::l,k,cs,h=>by
  simp only [List.zipIdx_cons,L32]
  simp only [L04] at h
  rw [E76 off l (k+1) _ (by simp;omega)]
  apply congrArg
  have hlt:off+k < cs.toList.length:=by simp;omega
  simp only [Array.toList_setIfInBounds]
  have e1:(cs.toList.set (off+k) v).take (off+(k+1))=cs.toList.take (off+k)++[v]:=by
   rw [←Nat.add_assoc,L35 (by simpa using hlt),List.take_set_of_le (Nat.le_refl _)]
   simp
  rw [e1]
  have e2:(cs.toList.set (off+k) v).drop (off+(k+1)+l.length)=cs.toList.drop (off+k+(v::l).length):=by
   rw [List.drop_set_of_lt (by omega)]
   congr 1
   simp;omega
  rw [e2]
  simp
theorem All2.setTs {R:TC→Value→Prop} {ts ns:List TC} {vs ms:List Value} (o:Nat) (h:All2 R ts vs) (hn:All2 R ns ms):All2 R (setTs ts o ns) (vs.take o++ms++vs.drop (o+ms.length)):=by
 unfold AL.setTs
 rw [hn.length]
 exact ((h.take o).append hn).append (h.drop _)
theorem G60 {ts ns:List TC} {o:Nat} (h:o+ns.length≤ts.length):(setTs ts o ns).length=ts.length:=by
 simp [setTs];omega
class TyStruct (P:Program) (t:TypeId) (zs:outParam (List Value)) (offs:outParam (List (Nat × Nat))):Prop where
 out:∃fs z,P.underlying t=some (.struct fs)∧(P.info? t).bind (·.zero)=some z∧z.cells.toList=zs∧zs.all (·.oneCell')=true ∧
  fs.toList.map (fun f=>(f.offset,(P.info? f.type).map (·.size)))=offs.map fun x=>(x.1,some x.2)
theorem I40 {fs:Array Field} {offs:List (Nat × Nat)} (h:fs.toList.map (fun f=>(f.offset,(P.info? f.type).map (·.size)))=offs.map fun x=>(x.1,some x.2)) (w:World) :
  (fs.mapM fun f=>do pure (f.offset,←sizeOf f.type):Sem (Array (Nat × Nat))).run P w=.ok offs.toArray w:=by
 obtain ⟨l⟩:=fs
 rw [Array.mapM_eq_mapM_toList]
 simp only at h ⊢
 have key:∀(l:List Field) (offs:List (Nat × Nat)),l.map (fun f=>(f.offset,(P.info? f.type).map (·.size)))=offs.map (fun x=>(x.1,some x.2)) →
   (l.mapM fun f=>do pure (f.offset,←sizeOf f.type):Sem (List (Nat × Nat))).run P w=.ok offs w:=by
  intro l
  induction l with
  | nil=>intro offs h;cases offs with | nil=>simp | cons=>simp at h
  | cons f l ih =>
   intro offs h
   cases offs with
   | nil=>simp at h
   | cons x offs =>
    simp only [L16,List.cons.injEq,Prod.mk.injEq] at h
    obtain ⟨⟨h1,h2⟩,h3⟩:=h
    rw [List.mapM_cons]
    simp only [Sem.run_bind,J8 h2,Result.andThen_ok,Sem.run_pure,ih offs h3,h1]
 rw [Sem.run_map,key l offs h]
 rfl
def A79 (fr:Fr) (offs:List (Nat × Nat)):List (Nat × Operand)→List TC→Option (List TC)
 | [],ts=>some ts
 | (i,x)::r,ts=>match offs[i]?,opv fr x with
  | some (off,sz),some (.s s)=>cond (Nat.beq s.cells.length sz&&H8 x&&Nat.ble (off+sz) ts.length) (A79 fr offs r (setTs ts off s.cells)) none
  | _,_=>none
theorem E77 {S:Ctx} {G:Gh} {a:Act} {w:World} (h:Sim P S fr ob G a w) (offs:List (Nat × Nat)):∀(ps:List (Nat × Operand)) (ts ts':List TC) (cs:Array Value),
  A79 fr offs ps ts=some ts'→All2 (TC.rep (F0 (Mut S ob G) w) G) ts cs.toList →
  ∃cs',Instr.fill (offs.toArray[·]?) cs (ps.map fun x=>(x.1,a.eval x.2))=some cs'∧All2 (TC.rep (F0 (Mut S ob G) w) G) ts' cs'.toList
 | [],ts,ts',cs,hb,hc=>by simp only [A79,Option.some.injEq] at hb;subst hb;exact ⟨cs,rfl,hc⟩
 | (i,x)::r,ts,ts',cs,hb,hc=>by
  simp only [A79] at hb
  split at hb
  ·rename_i off sz s ho hx
   cases hcond:(Nat.beq s.cells.length sz&&H8 x&&Nat.ble (off+sz) ts.length) with
   | false=>simp [hcond] at hb
   | true =>
    rw [hcond] at hb
    simp only [cond] at hb
    simp only [L02] at hcond
    obtain ⟨⟨h1,h2⟩,h3⟩:=hcond
    have h1:=Nat.eq_of_beq_eq_true h1
    have h3:off+sz≤ts.length:=by simpa using h3
    have hr:=K79 (s:=s) (V1 h hx h2)
    have hlen:(a.eval x).cells.size=sz:=by rw [←h1,hr.length];simp
    have hcs:=hc.length
    have hfold:(a.eval x).cells.zipIdx.foldl (fun cs (x:Value × Nat)=>cs.setIfInBounds (off+x.2) x.1) cs=(cs.toList.take off++(a.eval x).cells.toList++cs.toList.drop (off+(a.eval x).cells.toList.length)).toArray:=by
     rw [←Array.foldl_toList,Array.toList_zipIdx]
     have:=E76 off (a.eval x).cells.toList 0 cs (by simp at hcs ⊢;omega)
     simpa using this
    obtain ⟨cs',hf,hc'⟩:=E77 h offs r (setTs ts off s.cells) ts' _ hb (hc.setTs off hr)
    refine ⟨cs',?_,hc'⟩
    simp only [L16,Instr.fill]
    have hget:offs.toArray[i]?=some (off,sz):=by simpa using ho
    rw [hget]
    simp only [hlen,ne_eq,not_true_eq_false,decide_false,Bool.false_or,decide_eq_true_eq]
    rw [if_neg (by simp at hcs;simp;omega)]
    rw [hfold]
    exact hf
  ·cases hb
theorem K0 {t:TypeId} {zs:List Value} {offs:List (Nat × Nat)} {parts:Array (Nat × Operand)} {ts:List TC} [ht:TyStruct P t zs offs] (hb:A79 fr offs parts.toList (zs.map fun c=>.p (.v c))=some ts) :
  Neu P ⟨dst,.build t parts,ty,pos,af,gd⟩ fr ob (fun s'=>s'=.s (.agg ts)) :=
 F5 fun S G a w h=>by
  obtain ⟨fs,z,h1,h2,h3,h4,h5⟩:=ht.out
  obtain ⟨cs',hf,hc⟩:=E77 h offs parts.toList _ ts z.cells hb (by rw [h3];exact o8 _ h4)
  refine ⟨.agg cs',?_,cs'.toList,by simp,hc⟩
  simp only [execOp]
  refine M6 ?_
  have hp:(parts.map fun x=>(x.1,a.eval x.2)).toList=parts.toList.map fun x=>(x.1,a.eval x.2):=by simp
  simp only [Instr.build,Sem.run_bind,T6 h2,Result.andThen_ok,run_underlying h1,I40 h5]
  rw [show (parts.map fun (x:Nat × Operand)=>match x with | (i,x)=>(i,a.eval x))=parts.map fun x=>(x.1,a.eval x.2) from rfl,hp,hf]
  rfl
class Serves (t:TC) (c:Cell):Prop where
 out:∀rd G u,t.rep rd G u→c.rep rd u
instance {c:Cell}:Serves (.p c) c:=⟨fun _ _ _ h=>h⟩
instance {k:Nat} {α:Type} {ec:Nat} {c:α→Nat→Cell} {xs:List α}:Serves (.buf k α ec c xs) (.list α ec c xs):=⟨fun _ _ _ h=>h.2⟩
def E78 (fr:Fr) {α:Type} (ec:Nat) (c:α→Nat→Cell):List (Nat × Operand)→Nat→List α→Prop
 | [],_,ys=>ys=[]
 | (i,x)::r,n,ys=>i=n∧H8 x=true∧∃s y ys',opv fr x=some (.s s)∧s.cells.length=ec∧(∀rd G (us:List Value),All2 (TC.rep rd G) s.cells us→All2 (Cell.rep rd) (cellsOf c y 0 ec) us)∧ys=y::ys'∧E78 fr ec c r (n+1) ys'
theorem C34 {S:Ctx} {G:Gh} {a:Act} {w:World} (h:Sim P S fr ob G a w) {α:Type} {ec:Nat} {c:α→Nat→Cell}:∀(ps:List (Nat × Operand)) (n:Nat) (ys:List α) (cs:Array Value),
  E78 fr ec c ps n ys→(n+ps.length)*ec=cs.size→∃vs,Instr.fill (fun i=>some (i*ec,ec)) cs (ps.map fun x=>(x.1,a.eval x.2))=some (cs.toList.take (n*ec)++vs).toArray∧vs.length=ps.length*ec∧ys.length=ps.length ∧
   ∀i (hi:i < ys.length) j,j < ec→∃z,vs[i*ec+j]?=some z∧(c ys[i] j).rep (F0 (Mut S ob G) w) z
 | [],n,ys,cs,hb,hc=>by
  simp only [E78] at hb;subst hb
  refine ⟨[],?_,by simp,by simp,fun i hi=>by simp at hi⟩
  simp only [L09,Nat.add_zero] at hc
  simp only [L54,Instr.fill,L29]
  rw [L31 (by simp;omega)]
 | (i,x)::r,n,ys,cs,hb,hc=>by
  obtain ⟨rfl,hk,s,y,ys',hx,hsl,hrep,rfl,hr⟩:=hb
  have hcells:=K79 (s:=s) (V1 h hx hk)
  have hlen:(a.eval x).cells.size=ec:=by rw [←hsl,hcells.length];simp
  simp only [L04] at hc
  have hsz:(i+1+r.length)*ec=cs.size:=by rw [←hc];congr 1;omega
  have hle:i*ec+ec≤cs.size:=by
   have h1:(i+1)*ec≤(i+1+r.length)*ec:=L13 _ (by omega)
   rw [L22,Nat.one_mul] at h1
   omega
  have hfold:(a.eval x).cells.zipIdx.foldl (fun cs (x:Value × Nat)=>cs.setIfInBounds (i*ec+x.2) x.1) cs=(cs.toList.take (i*ec)++(a.eval x).cells.toList++cs.toList.drop (i*ec+(a.eval x).cells.toList.length)).toArray:=by
   rw [←Array.foldl_toList,Array.toList_zipIdx]
   have:=E76 (i*ec) (a.eval x).cells.toList 0 cs (by simp;omega)
   simpa using this
  obtain ⟨vs,hf,hvl,hyl,hv⟩:=C34 h r (i+1) ys' (cs.toList.take (i*ec)++(a.eval x).cells.toList++cs.toList.drop (i*ec+(a.eval x).cells.toList.length)).toArray hr (by
   rw [hsz];simp;omega)
  refine ⟨(a.eval x).cells.toList++vs,?_,by simp [hvl,hlen,L22];omega,by simp [hyl],?_⟩
  ·simp only [L16,Instr.fill,hlen,ne_eq,not_true_eq_false,decide_false,Bool.false_or,decide_eq_true_eq]
   rw [if_neg (by omega)]
   rw [hfold,hf]
   congr 2
   have e1:(i+1)*ec=i*ec+ec:=by rw [L22,Nat.one_mul]
   rw [e1]
   have hl1:(cs.toList.take (i*ec)).length=i*ec:=by simp;omega
   have hl2:(a.eval x).cells.toList.length=ec:=by simpa using hlen
   have e3:List.take (i*ec+ec) (List.take (i*ec) cs.toList++(a.eval x).cells.toList++List.drop (i*ec+(a.eval x).cells.toList.length) cs.toList)=List.take (i*ec) cs.toList++(a.eval x).cells.toList:=by
    have:i*ec+ec=(List.take (i*ec) cs.toList++(a.eval x).cells.toList).length:=by rw [L06,hl1,hl2]
    rw [this]
    exact List.take_left
   rw [e3,L15]
  ·intro m hm j hj
   have hl2:(a.eval x).cells.toList.length=ec:=by simpa using hlen
   cases m with
   | zero =>
    have hce:=hrep _ _ _ hcells
    have hget:(cellsOf c y 0 ec)[j]?=some (c y j):=by
     have hlt:j < (cellsOf c y 0 ec).length:=by rw [L6];exact hj
     rw [L01 hlt]
     have:=V3 c y ec 0 j _ (L01 hlt)
     rw [this.1,Nat.zero_add]
    obtain ⟨z,hz1,hz2⟩:=hce.get j _ hget
    refine ⟨z,?_,by simpa using hz2⟩
    rw [Nat.zero_mul,Nat.zero_add,L19 (by rw [hl2];exact hj)]
    exact hz1
   | succ m =>
    obtain ⟨z,hz1,hz2⟩:=hv m (by simpa using hm) j hj
    refine ⟨z,?_,by simpa using hz2⟩
    rw [L17 (by rw [hl2,L22];omega),hl2]
    have:(m+1)*ec+j - ec=m*ec+j:=by rw [L22,Nat.one_mul];omega
    rw [this];exact hz1
theorem D7 {t e:TypeId} {ec bytes n:Nat} {parts:Array (Nat × Operand)} {α:Type} {c:α→Nat→Cell} {ys:List α} [ht:TySl P t e ec bytes] (hb:E78 fr ec c parts.toList 0 ys) (hn:parts.toList.length=n) (hbig:Nat.ble n 100000=true) (hecb:Nat.ble ec 100=true) :
  Neu P ⟨dst,.buildSlice t n parts,ty,pos,af,gd⟩ fr ob (fun s'=>s'=D6 α ec c ys):=by
 intro S G a w h
 have hec:=ht.out.2.2.1
 have hn':n≤100000:=by simpa using hbig
 have hec':ec≤100:=by simpa using hecb
 have hmul:n*ec≤100000*100:=Nat.mul_le_mul hn' hec'
 obtain ⟨_,_,_,_,hzero⟩:=ht.out
 cases hi:P.info? e with
 | none=>simp [hi] at hzero
 | some i =>
 cases hz:i.zero with
 | none=>simp [hi,hz] at hzero
 | some z =>
 have hzv:(P.info? e).bind (·.zero)=some z:=by simp [hi,hz]
 let cs0:Array Value:=(Array.range (n*ec)).map ((if n*ec=0 then #[] else z.cells)[· % (if n*ec=0 then #[] else z.cells).size]!)
 have hcs0:cs0.size=n*ec:=by simp [cs0]
 obtain ⟨vs,hf,hvl,hyl,hv⟩:=C34 h parts.toList 0 ys cs0 hb (by rw [hcs0,hn,Nat.zero_add])
 simp only [Nat.zero_mul,List.take_zero,L37] at hf
 have hp:(parts.map fun x=>(x.1,a.eval x.2)).toList=parts.toList.map fun x=>(x.1,a.eval x.2):=by simp
 refine J9 (w':=w.alloc (.cells vs.toArray e)) (v:=.slice (some ⟨w.heap.size,0,none⟩) n n) ?_ ?_
 ·simp only [execOp]
  refine M6 ?_
  simp only [Instr.buildSlice,Sem.run_bind,run_underlying ht.out.1,Result.andThen_ok,J8 ht.size]
  rw [if_neg (by omega)]
  by_cases hz0:n*ec=0
  ·simp only [hz0,if_true,Sem.run_bind,Sem.run_pure,Result.andThen_ok]
   have hcs1:cs0=(Array.range 0).map ((#[]:Array Value)[· % (#[]:Array Value).size]!):=by simp only [cs0,hz0,if_true]
   rw [show (parts.map fun (x:Nat × Operand)=>match x with | (i,x)=>(i,a.eval x))=parts.map fun x=>(x.1,a.eval x.2) from rfl,hp,←hcs1,hf]
   simp [newRow]
  ·simp only [if_neg hz0,Sem.run_bind,T6 hzv,Sem.run_pure,Result.andThen_ok]
   have hcs1:cs0=(Array.range (n*ec)).map (z.cells[· % z.cells.size]!):=by simp only [cs0,if_neg hz0]
   rw [show (parts.map fun (x:Nat × Operand)=>match x with | (i,x)=>(i,a.eval x))=parts.map fun x=>(x.1,a.eval x.2) from rfl,hp,←hcs1,hf]
   simp [newRow]
 ·have hxw:Below w.heap.size w (w.alloc (.cells vs.toArray e)):=(Below.refl _ _).alloc (Nat.le_refl _) _
  refine ⟨hxw,_,rfl,?_⟩
  show (Cell.list α ec c ys).rep _ _
  simp only [Cell.rep]
  have hyn:ys.length=n:=by rw [hyl,hn]
  refine ⟨some ⟨w.heap.size,0,none⟩,n,by rw [hyn],⟨by omega,by simp⟩,by omega,.inr ⟨w.heap.size,0,rfl,fun m hm j hj=>?_⟩⟩
  obtain ⟨zz,hz1,hz2⟩:=hv m hm j hj
  refine ⟨zz,⟨?_,fun hmut=>?_⟩,hm,Cell.rep_mono (fun _ _ _ hr=>B27 hxw hr) _ _ hz2⟩
  ·rw [Nat.zero_add]
   exact O6 (heap_alloc_new w _) (by simpa using hz1)
  ·have:=h.mut_lt hmut
   omega
end
end Go.AL
namespace Go.AL
open Go Go.RowKit
set_option linter.unusedVariables false
section
variable {P:Program} {dst:Option Tmp} {ty:TypeId} {pos:String} {af:Array Edge} {gd:Option (Nat × Bool)} {fr:Fr} {ob:Obs}
theorem C66 {z:Array Value} {n ec i j:Nat} (hz:z.size=ec) (hi:i < n) (hj:j < ec):(madeCells z (n*ec))[i*ec+j]?=z[j]?:=by
 have hlt:i*ec+j < n*ec:=by
  have:(i+1)*ec≤n*ec:=L13 _ hi
  rw [L22] at this;omega
 have hm:(i*ec+j) % z.size=j:=by rw [hz,Nat.mul_comm,Nat.mul_add_mod,Nat.mod_eq_of_lt hj]
 have hjz:j < z.size:=by omega
 simp [madeCells,hlt,hm,hjz]
theorem e_make (k:Nat) {t e:TypeId} {ec bytes:Nat} {x y:Operand} {kx ky:IntKind} {n:Int} {α:Type} {c:α→Nat→Cell} {y0:α} {zs:List Value} [ht:TySl P t e ec bytes]
  (hx:opv fr x=some (I7 (.int kx n))) (hy:opv fr y=some (I7 (.int ky n))) (h0:0≤n) (hn:n≤1073741824) (hz:((P.info? e).bind (·.zero)).map (fun z=>z.cells.toList)=some zs)
  (hy0:∀rd:Rd,All2 (Cell.rep rd) (cellsOf c y0 0 ec) zs) (hk:C1 ob k=none) (hp:k < 1000000) :
  EffV P ⟨dst,.makeSlice t x y,ty,pos,af,gd⟩ fr ob (.s (.one (.mut k))) (Fr.forget k fr) ((k,.arr α ec c (List.replicate n.toNat y0))::Obs.forget k ob):=by
 intro S G a w h
 obtain ⟨hts,hinfo,hec,hby,hzero⟩:=ht.out
 cases hi:P.info? e with
 | none=>simp [hi] at hinfo
 | some i =>
 simp [hi] at hinfo
 obtain ⟨hsz,hbytes⟩:=hinfo
 cases hzz:i.zero with
 | none=>simp [hi,hzz] at hzero
 | some z =>
 simp [hi,hzz] at hzero hz
 have hbig:(i.bytes:Int)*n≤281474976710656:=by
  have h1:(i.bytes:Int)≤4096:=by omega
  have h2:(i.bytes:Int)*n≤4096*1073741824:=by
   have:i.bytes*n.toNat≤4096*1073741824:=Nat.mul_le_mul (by omega) (by omega)
   have h3:((i.bytes*n.toNat:Nat):Int)≤((4096*1073741824:Nat):Int):=by exact_mod_cast this
   rw [Int.natCast_mul] at h3
   have h4:(n.toNat:Int)=n:=by omega
   rw [h4] at h3
   omega
  omega
 have hr:=run_make (P:=P) w t e i z hts hi hzz kx ky n n h0 (Int.le_refl _) hbig (by omega)
 rw [hsz] at hr
 refine J9 (w':=w.alloc (.cells (madeCells z.cells (n.toNat*ec)) e)) (v:=.slice (some ⟨w.heap.size,0,none⟩) n.toNat n.toNat) ?_ ?_
 ·simp only [execOp,G5 h hx,G5 h hy]
  exact M6 hr
 ·have hxw:Below w.heap.size w (w.alloc (.cells (madeCells z.cells (n.toNat*ec)) e)):=(Below.refl _ _).alloc (Nat.le_refl _) _
  have hu:∀b,blk (.slice (some ⟨w.heap.size,0,none⟩) n.toNat n.toNat)=some b→w.heap.size≤b:=by intro b hb;simp [blk] at hb;omega
  refine ⟨upd G k (.slice (some ⟨w.heap.size,0,none⟩) n.toNat n.toNat),h.new hp hk hxw hu ?_,⟨(J2 _ _ _).symm,rfl⟩⟩
  refine ⟨w.heap.size,madeCells z.cells (n.toNat*ec),e,by simp,by simp;omega,heap_alloc_new w _,by simp [size_madeCells],fun m hm j hj=>?_⟩
  have hm':m < n.toNat:=by simpa using hm
  have hzl:=hy0 (F0 (Mut S ((k,Ob.arr α ec c (List.replicate n.toNat y0))::Obs.forget k ob) (upd G k (.slice (some ⟨w.heap.size,0,none⟩) n.toNat n.toNat))) (w.alloc (.cells (madeCells z.cells (n.toNat*ec)) e)))
  have hget:(cellsOf c y0 0 ec)[j]?=some (c y0 j):=by
   have hlt:j < (cellsOf c y0 0 ec).length:=by rw [L6];exact hj
   rw [L01 hlt]
   have:=V3 c y0 ec 0 j _ (L01 hlt)
   rw [this.1,Nat.zero_add]
  obtain ⟨u,hu1,hu2⟩:=hzl.get j _ hget
  refine ⟨u,?_,by simpa using hu2⟩
  rw [C66 hzero hm' hj,←Array.getElem?_toList,hz]
  exact hu1
theorem C35 {x:Operand} {t e:TypeId} {eb bytes k:Nat} {α:Type} {ec:Nat} {c:α→Nat→Cell} {xs:List α} (hx:opv fr x=some (.s (.one (.mut k)))) (hk:C1 ob k=some (.arr α ec c xs)) [ht:TySl P t e eb bytes] :
  Neu P ⟨dst,.call ⟨.builtin .len,#[x],#[t]⟩,ty,pos,af,gd⟩ fr ob (fun s'=>s'=C7 xs.length) :=
 F5 fun S G a w h=>by
  refine ⟨.int .i64 xs.length,?_,rfl,rfl⟩
  obtain ⟨hu,_⟩:=J0 h hx
  obtain ⟨b,vs,t',hg,_⟩:=h.obs k _ hk
  rw [hg] at hu
  simp [execOp,resolve,invoke,builtin,hu,Builtin.len_,run_underlying ht.out.1,goInt]
theorem F9 {x y:Operand} {t e:TypeId} {ec bytes k:Nat} {α:Type} {c:α→Nat→Cell} {xs:List α} {ki:IntKind} {i:Int} [ht:TySl P t e ec bytes] (hx:opv fr x=some (.s (.one (.mut k)))) (hk:C1 ob k=some (.arr α ec c xs))
  (hy:opv fr y=some (I7 (.int ki i))) (h0:0≤i) (h1:i < xs.length):Neu P ⟨dst,.indexAddr t x y,ty,pos,af,gd⟩ fr ob (fun s'=>s'=.s (.one (.mref k ec i.toNat 0))) :=
 F5 fun S G a w h=>by
  obtain ⟨hu,_⟩:=J0 h hx
  obtain ⟨b,vs,t',hg,_⟩:=h.obs k _ hk
  rw [hg] at hu
  refine ⟨.pointer (some ⟨b,i.toNat*ec,none⟩),?_,b,xs.length,xs.length,hg,rfl⟩
  simp only [execOp,hu,G5 h hy]
  refine M6 ?_
  have hb:0≤i∧i < (xs.length:Int):=⟨h0,h1⟩
  simp [Instr.indexAt,run_underlying ht.out.1,asIntOf,hb,J8 ht.size,Addr.add_lit]
theorem Sim.arr_cell {S:Ctx} {G:Gh} {a:Act} {w:World} (h:Sim P S fr ob G a w) {k:Nat} {α:Type} {ec:Nat} {c:α→Nat→Cell} {xs:List α} (hk:C1 ob k=some (.arr α ec c xs)) {b n cap:Nat} (hg:G k=.slice (some ⟨b,0,none⟩) n cap)
  {i j:Nat} {v:α} (hv:xs[i]?=some v) (hj:j < ec):∃z,w.cell? ⟨b,i*ec+j,none⟩=some z∧(c v j).rep (F0 (Mut S ob G) w) z:=by
 obtain ⟨b',vs,t',hg',_,hh,_,hc⟩:=h.obs k _ hk
 rw [hg] at hg';cases hg'
 obtain ⟨hlt,hv'⟩:=List.getElem?_eq_some_iff.1 hv
 obtain ⟨z,hz1,hz2⟩:=hc i hlt j hj
 exact ⟨z,O6 hh hz1,by rw [←hv'];exact hz2⟩
theorem N8 {x:Operand} {t:TypeId} {k i o:Nat} {α:Type} {ec:Nat} {c:α→Nat→Cell} {xs:List α} {v:α} [ht:TyOne P t] (hx:opv fr x=some (.s (.one (.mref k ec i o)))) (hk:C1 ob k=some (.arr α ec c xs)) (hv:xs[i]?=some v)
  (ho:Nat.blt o ec=true):Neu P ⟨dst,.load t x,ty,pos,af,gd⟩ fr ob (fun s'=>s'=.s (.one (.p (c v o)))) :=
 F5 fun S G a w h=>by
  obtain ⟨b,n,cap,hg,hu⟩:=J0 h hx
  obtain ⟨z,hz1,hz2⟩:=h.arr_cell hk hg hv (by simpa using ho)
  refine ⟨z,?_,hz2⟩
  simp only [execOp,hu]
  exact M6 (by simp [Instr.loadAt,Instr.sureAddr,U8 hz1])
theorem C36 {rd:Rd} {G:Gh}:∀{ts:List TC} {vs:List Value},All2 (TC.rep rd G) ts vs→∀u∈vs,u.oneCell'=true
 | [],[],_,u,hu=>by cases hu
 | [],_::_,h,_,_=>h.elim
 | _::_,[],h,_,_=>h.elim
 | t::ts,v::vs,h,u,hu=>by
  rcases List.mem_cons.1 hu with rfl | hu
  ·exact TC.rep_one h.1
  ·exact C36 h.2 u hu
theorem D23 {t:TypeId} {x yo:Operand} {k i o n:Nat} {α:Type} {ec:Nat} {c:α→Nat→Cell} {xs:List α} {v y:α} {s:S1} (hsz:(P.info? t).map (·.size)=some n) (hx:opv fr x=some (.s (.one (.mref k ec i o)))) (hk:C1 ob k=some (.arr α ec c xs))
  (hv:xs[i]?=some v) (hy:opv fr yo=some (.s s)) (hcst:H8 yo=true) (hn:s.cells.length=n) (ho:Nat.ble (o+n) ec=true)
  (hnew:∀(rd:Rd) G (us:List Value),All2 (TC.rep rd G) s.cells us→All2 (Cell.rep rd) (cellsOf c y o n) us) (hold:∀j,j < ec→(j < o∨o+n≤j)→c y j=c v j) :
  Eff P ⟨none,.store t x yo,ty,pos,af,gd⟩ fr ob fr ((k,.arr α ec c (xs.set i y))::ob):=by
 intro S G a w h
 obtain ⟨b,m,cap,hg,hu⟩:=J0 h hx
 obtain ⟨b',vs,tt,hg',hlen,hh,hvs,hc⟩:=h.obs k _ hk
 rw [hg] at hg';cases hg'
 obtain ⟨hlt,hv'⟩:=List.getElem?_eq_some_iff.1 hv
 have hr:(SV.s s).rep (F0 (Mut S ob G) w) G (a.eval yo):=V1 h hy hcst
 have hcells:=K79 hr
 have hcl:(a.eval yo).cells.size=n:=by rw [←hn,hcells.length];simp
 have hle:o+n≤ec:=by simpa using ho
 have hiec:i*ec+ec≤vs.size:=by
  rw [hvs]
  have:(i+1)*ec≤xs.length*ec:=L13 _ hlt
  rw [L22,Nat.one_mul] at this;omega
 have hh':w.heap[b]?=some (.cells vs.toList.toArray tt (0,0)):=by rw [Array.toArray_toList];exact hh
 obtain ⟨w',hrun,hos,htape,hout,hsize,hother,hheap⟩:=A37 (P:=P) (t:=t) (w:=w) (b:=b) (o:=i*ec+o) (v:=a.eval yo) (by rw [hsz,hcl]) hh' (C36 hcells) (by rw [hcl];simp;omega)
 unfold Does
 have he:(execOp a.eval ⟨none,.store t x yo,ty,pos,af,gd⟩).run P w=.ok .skip w':=by
  simp [execOp,hu,Instr.storeAt,Instr.sureAddr,hrun]
 rw [he]
 have hbk:blk (G k)=some b:=by rw [hg];rfl
 refine ⟨G,h.write hk hbk (fun i=>⟨hbk,trivial⟩) (fun i=>⟨hbk,trivial⟩) hos htape hout (Nat.le_of_eq hsize.symm) (fun j _=>hother j) ?_⟩
 intro rd hrd
 have hul:(a.eval yo).cells.toList.length=n:=by simpa using hcl
 refine ⟨b,_,tt,by rw [hg];simp,by simpa using hlen,hheap,?_,?_⟩
 ·simp [hcl];omega
 ·intro p hp j hj
  have hp':p < xs.length:=by simpa using hp
  have hl1:(vs.toList.take (i*ec+o)).length=i*ec+o:=by simp;omega
  have hl2:(vs.toList.take (i*ec+o)++(a.eval yo).cells.toList).length=i*ec+o+n:=by rw [L06,hl1,hul]
  rw [List.getElem?_toArray]
  have hpe:p*ec+j < vs.size:=by
   rw [hvs]
   have:(p+1)*ec≤xs.length*ec:=L13 _ hp'
   rw [L22,Nat.one_mul] at this;omega
  have hout':(p*ec+j < i*ec+o∨i*ec+o+n≤p*ec+j)→(vs.toList.take (i*ec+o)++(a.eval yo).cells.toList++vs.toList.drop (i*ec+o+(a.eval yo).cells.size))[p*ec+j]?=vs[p*ec+j]?:=by
   intro hcase
   rcases hcase with h1 | h1
   ·rw [L15,L19 (by rw [hl1];exact h1),L27 h1];simp
   ·rw [L17 (by rw [hl2];exact h1),hl2,L28,hcl]
    have:i*ec+o+n+(p*ec+j - (i*ec+o+n))=p*ec+j:=by omega
    rw [this];simp
  by_cases hpi:p=i
  ·subst hpi
   have hset:(xs.set p y)[p]'hp=y:=by simp
   rw [hset]
   by_cases hin:j < o∨o+n≤j
   ·rw [hout' (by omega),hold j hj hin]
    obtain ⟨z,hz1,hz2⟩:=hc p hp' j hj
    rw [hv'] at hz2
    exact ⟨z,hz1,Cell.rep_mono hrd _ _ hz2⟩
   ·have hnc:=hnew _ _ _ hcells
    have hget:(cellsOf c y o n)[j - o]?=some (c y j):=by
     have hlt':j - o < (cellsOf c y o n).length:=by rw [L6];omega
     rw [L01 hlt']
     have:=V3 c y n o (j - o) _ (L01 hlt')
     rw [this.1];congr 2;omega
    obtain ⟨z,hz1,hz2⟩:=hnc.get _ _ hget
    refine ⟨z,?_,Cell.rep_mono hrd _ _ hz2⟩
    rw [L19 (by rw [hl2];omega),L17 (by rw [hl1];omega),hl1]
    have:p*ec+j - (p*ec+o)=j - o:=by omega
    rw [this];exact hz1
  ·have hset:(xs.set i y)[p]'hp=xs[p]:=by rw [List.getElem_set_ne (Ne.symm hpi)]
   rw [hset,hout' (by
    rcases Nat.lt_or_gt_of_ne hpi with h1 | h1
    ·left
     have:(p+1)*ec≤i*ec:=L13 _ h1
     rw [L22,Nat.one_mul] at this;omega
    ·right
     have:(i+1)*ec≤p*ec:=L13 _ h1
     rw [L22,Nat.one_mul] at this;omega)]
   obtain ⟨z,hz1,hz2⟩:=hc p hp' j hj
   exact ⟨z,hz1,Cell.rep_mono hrd _ _ hz2⟩
def TC.freeze (k:Nat) (α:Type) (ec:Nat) (c:α→Nat→Cell) (xs:List α):TC→TC
 | .mut k'=>cond (Nat.beq k' k) (.p (.list α ec c xs)) (.mut k')
 | t=>t
def S1.freeze (k:Nat) (α:Type) (ec:Nat) (c:α→Nat→Cell) (xs:List α):S1→S1
 | .one t=>.one (t.freeze k α ec c xs)
 | .agg ts=>.agg (ts.map (TC.freeze k α ec c xs))
def SV.freeze (k:Nat) (α:Type) (ec:Nat) (c:α→Nat→Cell) (xs:List α):SV→SV
 | .s x=>.s (x.freeze k α ec c xs)
 | .tup l=>.tup (l.map (S1.freeze k α ec c xs))
 | .any=>.any
 | .un=>.un
def Ob.freeze (k:Nat) (α:Type) (ec:Nat) (c:α→Nat→Cell) (xs:List α):Ob→Ob
 | .box ts=>.box (ts.map (TC.freeze k α ec c xs))
 | .tbx e ts=>.tbx e (ts.map (TC.freeze k α ec c xs))
 | .tarr n ec' ts=>.tarr n ec' (ts.map (TC.freeze k α ec c xs))
 | .growA e' α' ec' c' xs' p ts=>.growA e' α' ec' c' xs' p (ts.map (TC.freeze k α ec c xs))
 | .growT e' n' ec' ts=>.growT e' n' ec' (ts.map (TC.freeze k α ec c xs))
 | o=>o
theorem TC.rep_freeze {rd:Rd} {G:Gh} {k:Nat} {α:Type} {ec:Nat} {c:α→Nat→Cell} {xs:List α} (hl:(Cell.list α ec c xs).rep rd (G k)):∀{t:TC} {u:Value},t.rep rd G u→(t.freeze k α ec c xs).rep rd G u
 | .mut k',u,h=>by
  simp only [TC.freeze]
  cases hb:Nat.beq k' k
  ·exact h
  ·have:=Nat.eq_of_beq_eq_true hb
   subst this
   simp only [cond];rw [h.1];exact hl
 | .p _,u,h=>h
 | .buf _ _ _ _ _,u,h=>h
 | .ref _ _,u,h=>h
 | .eref _ _ _ _ _,u,h=>h
 | .mref _ _ _ _,u,h=>h
 | .any,u,h=>h
 | .clo _ _ _,_,h=>h
 | .msl _ _ _ _,_,h=>h
 | .full _ _ _ _,_,h=>h
 | .ifc _ _ _,_,h=>h
 | .fnc _ _,_,h=>h
 | .fncE _ _ _ _ _,_,h=>h
theorem S1.rep_freeze {rd:Rd} {G:Gh} {k:Nat} {α:Type} {ec:Nat} {c:α→Nat→Cell} {xs:List α} (hl:(Cell.list α ec c xs).rep rd (G k)):∀{t:S1} {u:Value},t.rep rd G u→(t.freeze k α ec c xs).rep rd G u
 | .one t,u,h=>TC.rep_freeze (t:=t) hl h
 | .agg ts,u,⟨vs,h1,h2⟩=>⟨vs,h1,h2.map (TC.freeze k α ec c xs) fun _ _=>TC.rep_freeze hl⟩
theorem SV.rep_freeze {rd:Rd} {G:Gh} {k:Nat} {α:Type} {ec:Nat} {c:α→Nat→Cell} {xs:List α} (hl:(Cell.list α ec c xs).rep rd (G k)):∀{t:SV} {u:Value},t.rep rd G u→(t.freeze k α ec c xs).rep rd G u
 | .s t,u,h=>S1.rep_freeze (t:=t) hl h
 | .tup ts,u,⟨vs,h1,h2⟩=>⟨vs,h1,h2.map (S1.freeze k α ec c xs) fun _ _=>S1.rep_freeze hl⟩
 | .any,_,_=>trivial
 | .un,_,h=>h
def K84 (f:SV→SV) (fr:Fr):Fr:=fr.map fun x=>(x.1,f x.2)
def K78 (f:Ob→Ob) (ob:Obs):Obs:=ob.map fun x=>(x.1,f x.2)
theorem C37 (f:SV→SV):∀(fr:Fr) (i:Nat),E5 (K84 f fr) i=(E5 fr i).map f
 | [],i=>rfl
 | (j,s)::r,i=>by
  by_cases h:j=i
  ·subst h;simp [K84,E5]
  ·have ih:=C37 f r i
   simp only [K84,L16] at ih ⊢
   rw [C8 h,C8 h,ih]
theorem getO_mapO (f:Ob→Ob):∀(ob:Obs) (i:Nat),C1 (K78 f ob) i=(C1 ob i).map f
 | [],i=>rfl
 | (j,s)::r,i=>by
  by_cases h:j=i
  ·subst h;simp [K78,C1]
  ·have ih:=getO_mapO f r i
   simp only [K78,L16] at ih ⊢
   rw [B4 h,B4 h,ih]
theorem Sim.freeze {S:Ctx} {G:Gh} {a:Act} {w:World} (h:Sim P S fr ob G a w) {k:Nat} {α:Type} {ec:Nat} {c:α→Nat→Cell} {xs:List α} (hk:C1 ob k=some (.arr α ec c xs)) :
  Sim P S (K84 (SV.freeze k α ec c xs) fr) (K78 (Ob.freeze k α ec c xs) (Obs.drop k ob)) G a w:=by
 have hd:=h.drop k
 obtain ⟨b,vs,t,hg,hlen,hh,hvs,hc⟩:=h.obs k _ hk
 have hget:∀k' o,C1 (K78 (Ob.freeze k α ec c xs) (Obs.drop k ob)) k'=some o→∃o0,C1 (Obs.drop k ob) k'=some o0∧o=o0.freeze k α ec c xs:=by
  intro k' o hk'
  rw [getO_mapO] at hk'
  cases hg':C1 (Obs.drop k ob) k' with
  | none=>simp [hg'] at hk'
  | some o0=>simp [hg'] at hk';exact ⟨o0,rfl,hk'.symm⟩
 have hownf:∀(u:Value) (o:Ob) (b i:Nat),Own u (o.freeze k α ec c xs) b i↔Own u o b i:=by intro u o b i;cases o<;>simp [Own,Ob.freeze]
 have hmut:∀b i,Mut S (K78 (Ob.freeze k α ec c xs) (Obs.drop k ob)) G b i→Mut S (Obs.drop k ob) G b i:=by
  intro b i hm
  rcases hm with hm | ⟨k',o,hk',hb⟩
  ·exact .inl hm
  ·obtain ⟨o0,h0,rfl⟩:=hget k' o hk'
   exact .inr ⟨k',o0,h0,(hownf _ _ _ _).1 hb⟩
 have hrd:∀b i z,F0 (Mut S (Obs.drop k ob) G) w b i z→F0 (Mut S (K78 (Ob.freeze k α ec c xs) (Obs.drop k ob)) G) w b i z:=fun b i z hr=>⟨hr.1,fun hm=>hr.2 (hmut b i hm)⟩
 have hrd0:∀b i z,F0 (Mut S ob G) w b i z→F0 (Mut S (Obs.drop k ob) G) w b i z:=by
  intro b i z hr
  refine ⟨hr.1,fun hm=>hr.2 ?_⟩
  rcases hm with hm | ⟨k',o',hk',hb⟩
  ·exact .inl hm
  ·refine .inr ⟨k',o',?_,hb⟩
   by_cases hkk:k'=k
   ·subst hkk;rw [U1] at hk';cases hk'
   ·rwa [S7 hkk] at hk'
 have hlist:(Cell.list α ec c xs).rep (F0 (Mut S (K78 (Ob.freeze k α ec c xs) (Obs.drop k ob)) G) w) (G k):=by
  simp only [Cell.rep]
  refine ⟨_,_,hg,⟨Nat.le_refl _,by simp⟩,hlen,.inr ⟨b,0,rfl,fun i hi j hj=>?_⟩⟩
  obtain ⟨z,hz1,hz2⟩:=hc i hi j hj
  refine ⟨z,⟨by rw [Nat.zero_add];exact O6 hh hz1,fun hm=>?_⟩,hi,Cell.rep_mono (fun _ _ _ hr=>hrd _ _ _ (hrd0 _ _ _ hr)) _ _ hz2⟩
  rcases hmut _ _ hm with hm | ⟨k',o',hk',hb,_⟩
  ·have:=h.m0 _ _ hm
   rcases h.old k _ b hk (by rw [hg];rfl) with h1 | h1
   ·omega
   ·exact h.m0io _ _ hm h1.1
  ·by_cases hkk:k'=k
   ·subst hkk;rw [U1] at hk';cases hk'
   ·rw [S7 hkk] at hk'
    exact hkk (h.dis k' k o' _ b hk' hk hb (by rw [hg];rfl))
 exact { hd with
  old:=fun k' o b hk'=>let ⟨o0,h0,_⟩:=hget k' o hk';hd.old k' o0 b h0
  dis:=fun k1 k2 o1 o2 b h1 h2=>let ⟨oa,ha,_⟩:=hget k1 o1 h1;let ⟨ob',hb',_⟩:=hget k2 o2 h2;hd.dis k1 k2 oa ob' b ha hb'
  obs:=fun k' o hk'=>by
   obtain ⟨o0,h0,rfl⟩:=hget k' o hk'
   have hob:=(hd.obs k' o0 h0).ext hrd (Below.refl _ _)
   cases o0 with
   | box ts=>obtain ⟨b',vs',t',h1,h2,h3⟩:=hob;exact ⟨b',vs',t',h1,h2,h3.map (TC.freeze k α ec c xs) fun _ _=>TC.rep_freeze hlist⟩
   | tbx e ts=>obtain ⟨b',vs',h1,h2,h3⟩:=hob;exact ⟨b',vs',h1,h2,h3.map (TC.freeze k α ec c xs) fun _ _=>TC.rep_freeze hlist⟩
   | tarr n ec' ts=>obtain ⟨b',vs',t',h1,hl,h2,hn,h3⟩:=hob;exact ⟨b',vs',t',h1,hl,h2,by simpa using hn,h3.map (TC.freeze k α ec c xs) fun _ _=>TC.rep_freeze hlist⟩
   | arr=>exact hob
   | spare=>exact hob
   | grow=>exact hob
   | map=>exact hob
   | growA e' α' ec' c' xs' p ts=>obtain ⟨vs,h1,h2,h3,h4,h5,h6⟩:=hob;exact ⟨vs,h1,h2,h3,by simpa using h4,h5,h6.map (TC.freeze k α ec c xs) fun _ _=>TC.rep_freeze hlist⟩
   | growT e' n' ec' ts=>obtain ⟨vs,h1,h2,h3,h4⟩:=hob;exact ⟨vs,h1,h2,by simpa using h3,h4.map (TC.freeze k α ec c xs) fun _ _=>TC.rep_freeze hlist⟩
  facts:=fun i s hi=>by
   rw [C37] at hi
   cases hg':E5 fr i with
   | none=>simp [hg'] at hi
   | some s0 =>
    simp [hg'] at hi;subst hi
    exact SV.rep_freeze hlist (SV.rep_mono hrd (hd.facts i s0 hg')) }
end
end Go.AL
namespace Go.AL
open Go Go.RowKit
set_option linter.unusedVariables false
def A47:List TC→Option (List Cell)
 | []=>some []
 | t::r=>match t.pure?,A47 r with
  | some c,some cs=>some (c::cs)
  | _,_=>none
def S1.pv?:S1→Option PV
 | .one t=>match t.pure? with
  | some c=>some (.one c)
  | none=>none
 | .agg ts=>match A47 ts with
  | some cs=>some (.agg cs)
  | none=>none
theorem p5 {rd:Rd} {G:Gh}:∀{ts:List TC} {cs:List Cell} {vs:List Value},A47 ts=some cs→All2 (TC.rep rd G) ts vs→All2 (Cell.rep rd) cs vs
 | [],cs,[],h,_=>by simp [A47] at h;subst h;trivial
 | [],_,_::_,_,h=>h.elim
 | _::_,_,[],_,h=>h.elim
 | t::ts,cs,v::vs,h,ha=>by
  simp only [A47] at h
  split at h
  ·rename_i c cs' h1 h2
   cases h
   exact ⟨K89 h1 ha.1,p5 h2 ha.2⟩
  ·cases h
theorem K93 {rd:Rd} {G:Gh}:∀{s:S1} {p:PV} {u:Value},s.pv?=some p→s.rep rd G u→p.rep rd u
 | .one t,p,u,h,hr=>by
  simp only [S1.pv?] at h
  split at h
  ·rename_i c hc;cases h;exact K89 hc hr
  ·cases h
 | .agg ts,p,u,h,hr=>by
  simp only [S1.pv?] at h
  split at h
  ·rename_i cs hc;cases h
   obtain ⟨vs,rfl,ha⟩:=hr
   exact ⟨vs,rfl,p5 hc ha⟩
  ·cases h
def PV.s1:PV→S1
 | .one c=>.one (.p c)
 | .agg cs=>.agg (cs.map .p)
theorem I41 {rd:Rd} {G:Gh}:∀{cs:List Cell} {vs:List Value},All2 (Cell.rep rd) cs vs→All2 (TC.rep rd G) (cs.map .p) vs
 | [],[],_=>trivial
 | [],_::_,h=>h.elim
 | _::_,[],h=>h.elim
 | _::_,_::_,h=>⟨h.1,I41 h.2⟩
theorem PV.rep_s1 {rd:Rd} {G:Gh}:∀{p:PV} {u:Value},p.rep rd u→p.s1.rep rd G u
 | .one c,u,h=>h
 | .agg cs,u,⟨vs,h1,h2⟩=>⟨vs,h1,I41 h2⟩
def D24:List PV→SV
 | [p]=>.s p.s1
 | ps=>.tup (ps.map PV.s1)
def ResRep (rd:Rd) (rs:List PV) (v:Value):Prop :=
 match rs with
 | [p]=>p.rep rd v
 | ps=>∃us,v=.tuple (List.toArray us)∧All2 (PV.rep rd) ps us
theorem ResRep.sv {rd:Rd} {G:Gh} {rs:List PV} {v:Value} (h:ResRep rd rs v):(D24 rs).rep rd G v:=by
 match rs,h with
 | [p],h=>exact PV.rep_s1 h
 | [],⟨us,h1,h2⟩=>exact ⟨us,h1,h2.map PV.s1 fun _ _=>PV.rep_s1⟩
 | _::_::_,⟨us,h1,h2⟩=>exact ⟨us,h1,h2.map PV.s1 fun _ _=>PV.rep_s1⟩
theorem ResRep.mono {rd rd':Rd} (hr:∀b i z,rd b i z→rd' b i z) {rs:List PV} {v:Value} (h:ResRep rd rs v):ResRep rd' rs v:=by
 match rs,h with
 | [p],h=>exact PV.rep_mono hr h
 | [],⟨us,h1,h2⟩=>exact ⟨us,h1,h2.mono fun _ _=>PV.rep_mono hr⟩
 | _::_::_,⟨us,h1,h2⟩=>exact ⟨us,h1,h2.mono fun _ _=>PV.rep_mono hr⟩
def Callable (P:Program) (f:FuncId):Prop:=∃fn,P.funcs[f]?=some fn∧(fn.name == "runtime.NumGoroutine")=false∧fn.body.isSome=true
def FnOk (P:Program) (f:FuncId) (args:List PV) (post:List PV→Prop):Prop :=
 Callable P f∧∀(w:World) (M:Nat→Nat→Prop) (vals:List Value),Grd P (fun _=>False) w→(∀b i,M b i→b < w.heap.size)→All2 (PV.rep (F0 M w)) args vals →
  Calls P f vals.toArray w (fun e w'=>∃v rs,e=.returned v∧post rs∧ResRep (F0 M w') rs v∧Below w.heap.size w w')
theorem FnOk.mono {P:Program} {f:FuncId} {args:List PV} {post post':List PV→Prop} (h:FnOk P f args post) (hp:∀rs,post rs→post' rs):FnOk P f args post' :=
 ⟨h.1,fun w M vals hg hM ha=>(h.2 w M vals hg hM ha).mono fun e w' ⟨v,rs,h1,h2,h3,h4⟩=>⟨v,rs,h1,hp _ h2,h3,h4⟩⟩
def A48 (fr:Fr):List Operand→Option (List PV)
 | []=>some []
 | x::r=>match opv fr x with
  | some (.s s)=>match s.pv?,A48 fr r with
   | some p,some ps=>some (p::ps)
   | _,_=>none
  | _=>none
section
variable {P:Program} {dst:Option Tmp} {ty:TypeId} {pos:String} {af:Array Edge} {gd:Option (Nat × Bool)} {fr:Fr} {ob:Obs}
theorem x6 {S:Ctx} {G:Gh} {a:Act} {w:World} (h:Sim P S fr ob G a w):∀(xs:List Operand) (ps:List PV),A48 fr xs=some ps→xs.all H8=true→All2 (PV.rep (F0 (Mut S ob G) w)) ps (xs.map a.eval)
 | [],ps,h1,_=>by simp [A48] at h1;subst h1;trivial
 | x::r,ps,h1,h2=>by
  simp only [List.all_cons,L02] at h2
  simp only [A48] at h1
  split at h1
  ·rename_i s hs
   split at h1
   ·rename_i p ps' hp hps
    cases h1
    exact ⟨K93 hp (V1 h hs h2.1),x6 h r ps' hps h2.2⟩
   ·cases h1
  ·cases h1
theorem Sim.grdW {S:Ctx} {G:Gh} {a:Act} {w:World} (h:Sim P S fr ob G a w):Grd P (fun _=>False) w:=by
 obtain ⟨wg,h1,h2,h3⟩:=h.grd
 exact ⟨wg,h1,Nat.le_trans h2 h.size,fun k hk=>⟨(h.keep k (Nat.lt_of_lt_of_le hk h2) (h3 k hk).2).trans (h3 k hk).1,id⟩⟩
theorem M4 {f:FuncId} {args:Array Value} {w:World} (hc:Callable P f):(callFunc f args).run P w=.ok (.enter f args) w:=by
 obtain ⟨fn,h1,h2,h3⟩:=hc
 have hn:fn.body.isNone=false:=by cases hb:fn.body<;>simp [hb] at h3 ⊢
 simp only [callFunc,Sem.run_bind,run_program,Result.andThen_ok,h1]
 rw [if_neg (by simpa using h2),if_neg (by simp [hn])]
 rfl
theorem n_call {f:FuncId} {args:Array Operand} {ats:Array TypeId} {ps:List PV} {post:List PV→Prop} (hf:FnOk P f ps post) (ha:A48 fr args.toList=some ps) (hc:args.toList.all H8=true) :
  Neu P ⟨dst,.call ⟨.value (.func f),args,ats⟩,ty,pos,af,gd⟩ fr ob (fun s=>∃rs,post rs∧s=D24 rs):=by
 intro S G a w h
 have hrep:=x6 h args.toList ps ha hc
 have hcall:=hf.2 w (Mut S ob G) (args.toList.map a.eval) h.grdW (fun b i hm=>h.mut_lt hm) hrep
 have hargs:(args.toList.map a.eval).toArray=args.map a.eval:=by rw [←Array.toList_map,Array.toArray_toList]
 unfold Does
 have he:(execOp a.eval ⟨dst,.call ⟨.value (.func f),args,ats⟩,ty,pos,af,gd⟩).run P w=.ok (.enter f (args.map a.eval)) w:=by
  simp only [execOp,resolve,Act.eval,Deferred.ofValue,Sem.run_bind,Sem.run_pure,Result.andThen_ok,invoke]
  rw [show (#[]:Array Value)++Array.map a.eval args++#[]=args.map a.eval by simp]
  exact M4 hf.1
 rw [he]
 rw [hargs] at hcall
 refine hcall.mono ?_
 rintro e w' ⟨v,rs,rfl,hp,hr,hb⟩
 exact ⟨v,rfl,hb,_,⟨rs,hp,rfl⟩,hr.sv⟩
end
section
variable {P:Program} {nt:Nat} {ops:Array Oper} {rest:List Oper} {fr:Fr} {ob:Obs} {Q:Post} {d:Nat}
theorem C9 {f:FuncId} {args:Array Operand} {ats:Array TypeId} {ty:TypeId} {pos:String} {af:Array Edge} {ps:List PV} {post:List PV→Prop} (hf:FnOk P f ps post) (ha:A48 fr args.toList=some ps) (hc:args.toList.all H8=true) (hd:Nat.blt d nt=true)
  (k:∀rs,post rs→WpL P nt ops rest ((d,D24 rs)::fr) ob Q):WpL P nt ops (⟨some d,.call ⟨.value (.func f),args,ats⟩,ty,pos,af,none⟩::rest) fr ob Q :=
 l_neuP (n_call hf ha hc) hd fun _ ⟨rs,hp,he⟩=>he ▸ k rs hp
def B94:Nat→List PV→Fr
 | _,[]=>[]
 | i,p::ps=>(i,.s p.s1)::B94 (i+1) ps
theorem C38:∀(i:Nat) (ps:List PV) (k:Nat) (s:SV),E5 (B94 i ps) k=some s→i≤k∧∃p,ps[k - i]?=some p∧s=.s p.s1
 | i,[],k,s,h=>by simp [B94,E5] at h
 | i,p::ps,k,s,h=>by
  by_cases he:i=k
  ·subst he
   simp only [B94,E0] at h
   cases h
   exact ⟨Nat.le_refl _,p,by simp,rfl⟩
  ·simp only [B94] at h
   rw [C8 he] at h
   obtain ⟨h1,q,h2,h3⟩:=C38 (i+1) ps k s h
   refine ⟨by omega,q,?_,h3⟩
   have:k - i=(k - (i+1))+1:=by omega
   rw [this];simpa using h2
def RetOk (P:Program) (fn:Func) (fr:Fr) (ob:Obs) (rs:List PV):Prop :=
 ∀S G a w,Sim P S fr ob G a w→∃v,(results fn a.tmps).run P w=.ok v w∧ResRep (F0 (Mut S ob G) w) rs v
def retP (P:Program) (fn:Func) (post:List PV→Prop):Post
 | .normal,fr,ob | .ret,fr,ob=>∃rs,RetOk P fn fr ob rs∧post rs
 | _,_,_=>False
theorem r7 {f:FuncId} {fn:Func} {c:Code} {args:Array Value} {w:World} {R:Ending→World→Prop} (hf:P.funcs[f]?=some fn) (hb:fn.body=some c)
  (h:c.wp P (bodyPostM Fence.wide 0 P fn R) { tmps:=args++Array.replicate (fn.ntmps - args.size) undef,defers:=[] } w):Calls P f args w R :=
 callsIn_wide.1 (callsIn_of_wp_marks hf hb trivial (wpIn_wide.2 h))
theorem SimX.leave {S:Ctx} {e:Exit} {fr:Fr} {ob:Obs} {G:Gh} {a:Act} {w:World} (h:SimX P S e fr ob G a w) (hd:S.df=[]) {fn:Func} {R:Ending→World→Prop}
  (fin:∀ds w',Sim P { S with df:=ds } fr ob G a w'→∃v,(results fn a.tmps).run P w'=.ok v w'∧R (.returned v) w'):LeavesInM Fence.wide 0 P fn a.tmps R a.defers .returning w:=by
 rcases h with h | ⟨_,ds,w',h,hi⟩
 ·rw [h.defers,hd];exact fin S.df w h
 ·rw [h.defers];exact hi _ _ _ (by rw [hd];exact fin ds w' h)
theorem FnOk.intro {f:FuncId} {fn:Func} {c:Code} {args:List PV} {post:List PV→Prop} (hf:P.funcs[f]?=some fn) (hname:(fn.name == "runtime.NumGoroutine")=false) (hb:fn.body=some c) (hnt:fn.ntmps=nt) (hlen:Nat.ble args.length nt=true) (hnb:Nat.ble nt 1000000=true)
  (h:WpC P nt c (B94 0 args) [] (retP P fn post)):FnOk P f args post:=by
 refine ⟨⟨fn,hf,hname,by simp [hb]⟩,fun w M vals hg hM ha=>?_⟩
 have hle:args.length≤nt:=by simpa using hlen
 have hvl:vals.length=args.length:=ha.length.symm
 refine r7 hf hb ?_
 let S:Ctx:={ w0:=w,M0:=M,io:=fun _=>False,nt:=nt,pin:=fun _=>undef,gv:=fun _=>undef }
 have hM':∀b i,Mut S [] (fun _=>undef) b i↔M b i:=fun b i=>⟨fun h=>h.elim id fun ⟨k,o,hk,_⟩=>by simp [C1] at hk,.inl⟩
 have hrd:∀b i z,F0 M w b i z→F0 (Mut S [] (fun _=>undef)) w b i z:=fun b i z hr=>⟨hr.1,fun hm=>hr.2 ((hM' b i).1 hm)⟩
 have hs:Sim P S (B94 0 args) [] (fun _=>undef) { tmps:=vals.toArray++Array.replicate (fn.ntmps - vals.toArray.size) undef,defers:=[] } w:=by
  refine { nt:=by simp [hnt,S];omega,ntb:=by simpa using hnb,defers:=rfl,os:=rfl,tape:=rfl,output:=rfl,size:=Nat.le_refl _,keep:=fun _ _ _=>rfl,m0:=hM,m0io:=fun _ _ _=>id,grd:=hg,pin:=fun _ _=>rfl,old:=fun k o b hk=>by simp [C1] at hk,dis:=fun k k' o o' b hk=>by simp [C1] at hk,obs:=fun k o hk=>by simp [C1] at hk,facts:=?_ }
  intro i s hi
  obtain ⟨_,p,hp,rfl⟩:=C38 0 args i s hi
  obtain ⟨u,hu,hr⟩:=ha.get (i - 0) p hp
  have hlt:i < vals.length:=(List.getElem?_eq_some_iff.1 hu).1
  have hget:(vals.toArray++Array.replicate (fn.ntmps - vals.toArray.size) undef).getD i undef=u:=by
   rw [Array.getD_eq_getD_getElem?,Array.getElem?_append_left (by simpa using hlt)]
   simpa using congrArg (fun x=>x.getD undef) hu
  have hn6:nt≤1000000:=by simpa using hnb
  rw [Ctx.sl_lt (by omega),hget]
  exact PV.rep_s1 (PV.rep_mono hrd hr)
 refine wp_mono (h S _ _ w A0 hs) ?_
 rintro e a' w' ⟨fr',ob',G',hq,hs'⟩
 have fin:(∃rs,RetOk P fn fr' ob' rs∧post rs)→∀ds w',Sim P { S with df:=ds } fr' ob' G' a' w'→∃v,(results fn a'.tmps).run P w'=.ok v w'∧(∃v_1 rs,Ending.returned v=.returned v_1∧post rs∧ResRep (F0 M w') rs v_1∧Below w.heap.size w w'):=by
  rintro ⟨rs,hr,hp⟩ ds w' hs'
  obtain ⟨v,hv,hres⟩:=hr _ G' a' w' hs'
  refine ⟨v,hv,v,rs,rfl,hp,hres.mono (fun b i z hz=>⟨hz.1,fun hm=>hz.2 (.inl hm)⟩),⟨hs'.os,hs'.tape,hs'.output,hs'.size,fun k hk=>hs'.keep k hk id⟩⟩
 cases e with
 | normal=>exact hs'.leave rfl (fin hq)
 | ret=>exact hs'.leave rfl (fin hq)
 | _=>exact hq.elim
section rets
variable {fn:Func}
theorem B45 {S:Ctx} {G:Gh} {a:Act} {w:World} (h:Sim P S fr ob G a w) {t:Tmp} {s:S1} {p:PV} (ht:c9 fr t=some (.s s)) (hp:s.pv?=some p):p.rep (F0 (Mut S ob G) w) (a.tmps.getD t undef) :=
 K93 hp (h.slot ht)
theorem I1 {t:Tmp} {s:S1} {p:PV} (hr:fn.results=#[.tmp t]) (ht:c9 fr t=some (.s s)) (hp:s.pv?=some p):RetOk P fn fr ob [p] :=
 fun S G a w h=>⟨a.tmps.getD t undef,by simp [results,hr],B45 h ht hp⟩
theorem a6 {t t':Tmp} {s s':S1} {p p':PV} (hr:fn.results=#[.tmp t,.tmp t']) (ht:c9 fr t=some (.s s)) (hp:s.pv?=some p) (ht':c9 fr t'=some (.s s')) (hp':s'.pv?=some p'):RetOk P fn fr ob [p,p'] :=
 fun S G a w h=>⟨.tuple #[a.tmps.getD t undef,a.tmps.getD t' undef],by simp [results,hr],[_,_],rfl,B45 h ht hp,B45 h ht' hp',trivial⟩
theorem ret3 {t t' t'':Tmp} {s s' s'':S1} {p p' p'':PV} (hr:fn.results=#[.tmp t,.tmp t',.tmp t'']) (ht:c9 fr t=some (.s s)) (hp:s.pv?=some p) (ht':c9 fr t'=some (.s s')) (hp':s'.pv?=some p')
  (ht'':c9 fr t''=some (.s s'')) (hp'':s''.pv?=some p''):RetOk P fn fr ob [p,p',p''] :=
 fun S G a w h=>⟨.tuple #[a.tmps.getD t undef,a.tmps.getD t' undef,a.tmps.getD t'' undef],by simp [results,hr],[_,_,_],rfl,B45 h ht hp,B45 h ht' hp',B45 h ht'' hp'',trivial⟩
theorem box_pv {S:Ctx} {G:Gh} {a:Act} {w:World} (h:Sim P S fr ob G a w) {t:Tmp} {k n:Nat} {tt:TypeId} {ts:List TC} {cs:List Cell} [hty:TyAgg P tt n] (ht:c9 fr t=some (.s (.one (.ref k 0)))) (hk:C1 ob k=some (.box ts)) (hn:ts.length=n) (hp:A47 ts=some cs) :
  ∃b vs,a.tmps.getD t undef=.pointer (some ⟨b,0,none⟩)∧(loadVar tt ⟨b,0,none⟩).run P w=.ok (.agg (List.toArray vs)) w∧(PV.agg cs).rep (F0 (Mut S ob G) w) (.agg vs.toArray):=by
 obtain ⟨b,hg,hu⟩:=h.slot ht
 obtain ⟨b',vs,tt',hg',hh,ha⟩:=h.box hk
 rw [hg] at hg';cases hg'
 refine ⟨b,vs,hu,Z4 (ht:=hty) (by rw [←ha.length,hn]) (fun j z hz=>by rw [Nat.zero_add];exact O6 hh (by simpa using hz)),vs,rfl,p5 hp ha⟩
theorem retc {t:Tmp} {k n:Nat} {tt:TypeId} {ts:List TC} {cs:List Cell} [TyAgg P tt n] (hr:fn.results=#[.cell t tt]) (ht:c9 fr t=some (.s (.one (.ref k 0)))) (hk:C1 ob k=some (.box ts)) (hn:ts.length=n) (hp:A47 ts=some cs):RetOk P fn fr ob [.agg cs] :=
 fun S G a w h=>by
  obtain ⟨b,vs,h1,h2,h3⟩:=box_pv h (tt:=tt) ht hk hn hp
  rw [Array.getD_eq_getD_getElem?] at h1
  exact ⟨_,by simp [results,hr,h1,asAddr,h2],h3⟩
theorem E79 {t t':Tmp} {k n:Nat} {tt:TypeId} {ts:List TC} {cs:List Cell} {s':S1} {p':PV} [TyAgg P tt n] (hr:fn.results=#[.cell t tt,.tmp t']) (ht:c9 fr t=some (.s (.one (.ref k 0)))) (hk:C1 ob k=some (.box ts)) (hn:ts.length=n) (hp:A47 ts=some cs)
  (ht':c9 fr t'=some (.s s')) (hp':s'.pv?=some p'):RetOk P fn fr ob [.agg cs,p'] :=
 fun S G a w h=>by
  obtain ⟨b,vs,h1,h2,h3⟩:=box_pv h (tt:=tt) ht hk hn hp
  rw [Array.getD_eq_getD_getElem?] at h1
  exact ⟨_,by simp [results,hr,h1,asAddr,h2],[_,_],rfl,h3,B45 h ht' hp',trivial⟩
end rets
def Sees (P:Program) (nt:Nat) (fr:Fr) (ob:Obs) (fr':Fr) (ob':Obs):Prop:=∀S G a w,S.nt=nt→Sim P S fr ob G a w→∃G',Sim P S fr' ob' G' a w
theorem D3 {c:Code} {fr':Fr} {ob':Obs} (hs:Sees P nt fr ob fr' ob') (k:WpC P nt c fr' ob' Q):WpC P nt c fr ob Q :=
 fun S G a w hn h=>let ⟨G',h'⟩:=hs S G a w hn h;k S G' a w hn h'
theorem E80 {fr':Fr} {ob':Obs} (hs:Sees P nt fr ob fr' ob') (k:WpL P nt ops rest fr' ob' Q):WpL P nt ops rest fr ob Q :=
 fun S G a w hn h=>let ⟨G',h'⟩:=hs S G a w hn h;k S G' a w hn h'
theorem Sees.trans {fr' fr'':Fr} {ob' ob'':Obs} (h1:Sees P nt fr ob fr' ob') (h2:Sees P nt fr' ob' fr'' ob''):Sees P nt fr ob fr'' ob'' :=
 fun S G a w hn h=>let ⟨G',h'⟩:=h1 S G a w hn h;h2 S G' a w hn h'
inductive SvLe:SV→SV→Prop
 | same (s:SV):SvLe s s
 | any (s:SV):SvLe s .any
 | list (k:Nat) (α:Type) (ec:Nat) (c:α→Nat→Cell) (xs:List α):SvLe (.s (.one (.buf k α ec c xs))) (.s (.one (.p (.list α ec c xs))))
 | nil (α:Type) (ec:Nat) (c:α→Nat→Cell):SvLe (.s (.one (.p (.v (.slice none 0 0))))) (.s (.one (.p (.list α ec c []))))
 | eq {s s':SV} (h:s=s'):SvLe s s'
theorem SvLe.rep {s s':SV} (h:SvLe s s') {rd:Rd} {G:Gh} {u:Value} (hr:s.rep rd G u):s'.rep rd G u:=by
 cases h with
 | same=>exact hr
 | any=>trivial
 | list=>exact hr.2
 | nil=>obtain ⟨rfl,_⟩:=hr;exact I4 _ _ _
 | eq he=>exact he ▸ hr
def FrLe (fr:Fr):Fr→Prop
 | []=>True
 | (i,s)::r=>(∃s0,E5 fr i=some s0∧SvLe s0 s)∧FrLe fr r
theorem FrLe.spec {fr:Fr}:∀{fr':Fr},FrLe fr fr'→∀i s,E5 fr' i=some s→∃s0,E5 fr i=some s0∧SvLe s0 s
 | [],_,i,s,h=>by simp [E5] at h
 | (j,t)::r,hf,i,s,h=>by
  by_cases he:j=i
  ·subst he;rw [E0] at h;cases h;exact hf.1
  ·rw [C8 he] at h;exact FrLe.spec hf.2 i s h
def ObIn (ob:Obs):Obs→Prop
 | []=>True
 | (i,o)::r=>C1 ob i=some o∧ObIn ob r
theorem ObIn.spec {ob:Obs}:∀{ob':Obs},ObIn ob ob'→∀i s,C1 ob' i=some s→C1 ob i=some s
 | [],_,i,s,h=>by simp [C1] at h
 | (j,t)::r,hf,i,s,h=>by
  by_cases he:j=i
  ·subst he;rw [C4] at h;cases h;exact hf.1
  ·rw [B4 he] at h;exact ObIn.spec hf.2 i s h
theorem Sees.of {fr':Fr} {ob':Obs} (hf:FrLe fr fr') (ho:ObIn ob ob'):Sees P nt fr ob fr' ob':=fun S G a w hn h=>by
 have h1:=h.weakenO (ob':=ob') ho.spec
 exact ⟨G,{ h1 with facts:=fun i s hi=>let ⟨s0,h2,h3⟩:=hf.spec i s hi;h3.rep (h1.facts i s0 h2) }⟩
theorem Sees.freeze {k:Nat} {α:Type} {ec:Nat} {c:α→Nat→Cell} {xs:List α} (hk:C1 ob k=some (.arr α ec c xs)) :
  Sees P nt fr ob (K84 (SV.freeze k α ec c xs) fr) (K78 (Ob.freeze k α ec c xs) (Obs.drop k ob)):=fun S G a w hn h=>⟨G,h.freeze hk⟩
end
end Go.AL
namespace Go.AL
open Go Go.RowKit
set_option linter.unusedVariables false
section
variable {P:Program} {nt:Nat} {fr:Fr} {ob:Obs} {Q:Post} {next:Fr→Obs→Prop} {id id':Nat}
theorem V4 (h:next fr ob):B79 next Q .normal fr ob:=h
theorem K29 (hb:Nat.beq id' id=true) (h:Q .normal fr ob):d5 id Q (.exit id') fr ob:=by simp only [d5,hb,cond];exact h
theorem J69 (hb:Nat.beq id' id=false) (h:Q (.exit id') fr ob):d5 id Q (.exit id') fr ob:=by simp only [d5,hb,cond];exact h
theorem B8 {fn:Func} {post:List PV→Prop} {rs:List PV} (h:RetOk P fn fr ob rs) (hp:post rs):retP P fn post .ret fr ob:=⟨rs,h,hp⟩
end
abbrev F2:Int→Nat→Cell:=fun n _=>.v (.int .i64 n)
abbrev X2:List UInt8→Nat→Cell:=fun l _=>.v (.string ⟨l.toArray⟩)
abbrev E2 (n:Int):PV:=.one (.v (.int .i64 n))
abbrev H1 (b:Bool):PV:=.one (.v (.bool b))
abbrev H7 (l:List UInt8):PV:=.one (.v (.string ⟨l.toArray⟩))
abbrev K9 (l:List Int):PV:=.one (.list Int 1 F2 l)
abbrev E12 (l:List (List UInt8)):PV:=.one (.list (List UInt8) 1 X2 l)
abbrev intsC:List Int→Nat→Cell:=fun l _=>.list Int 1 F2 l
abbrev strsC:List (List UInt8)→Nat→Cell:=fun l _=>.list (List UInt8) 1 X2 l
theorem B95 {n:Int} (h:-9223372036854775808≤n∧n≤9223372036854775807):IntKind.i64.wrap n=n:=IntWalk.i64_in n h
end Go.AL
namespace Go.AL
open Go Go.RowKit
set_option linter.unusedVariables false
theorem D25 (acc:Array Nat) (i:Nat):∀(es:List Edge) (s:Nat),(es.foldl (fun s e=>if Region.binds .any e then s ||| 2 ^ e.on ||| acc.getD e.on 0 else s) s).testBit i=true →
  s.testBit i=true∨∃e∈es,Region.binds .any e=true∧(e.on=i∨(acc.getD e.on 0).testBit i=true)
 | [],s,h=>.inl h
 | e :: es,s,h=>by
  simp only [L32] at h
  rcases D25 acc i es _ h with h1 | ⟨e',he,h2⟩
  ·by_cases hb:Region.binds .any e=true
   ·rw [if_pos hb,Nat.testBit_or,Nat.testBit_or] at h1
    simp only [L20] at h1
    rcases h1 with (h1 | h1) | h1
    ·exact .inl h1
    ·refine .inr ⟨e,by simp,hb,.inl ?_⟩
     rw [Nat.testBit_two_pow] at h1
     simpa using h1
    ·exact .inr ⟨e,by simp,hb,.inr h1⟩
   ·rw [if_neg hb] at h1;exact .inl h1
  ·exact .inr ⟨e',by simp [he],h2⟩
def A32 (acc:Array Nat) (o:Oper):Array Nat:=acc.push (o.after.foldl (fun s e=>if Region.binds .any e then s ||| 2 ^ e.on ||| acc.getD e.on 0 else s) 0)
theorem G07 (ops:Array Oper):Region.before ops=ops.toList.foldl A32 #[]:=by
 unfold Region.before
 rw [←Array.foldl_toList]
 rfl
theorem E81:∀(l:List Oper) (acc:Array Nat),(l.foldl A32 acc).size=acc.size+l.length
 | [],acc=>rfl
 | o::l,acc=>by simp only [L32,E81 l,A32,Array.size_push,L04];omega
theorem C90:∀(l:List Oper) (acc:Array Nat) (j:Nat),j < acc.size→(l.foldl A32 acc).getD j 0=acc.getD j 0
 | [],acc,j,h=>rfl
 | o::l,acc,j,h=>by
  simp only [L32]
  rw [C90 l _ j (by simp [A32];omega)]
  simp only [A32,Array.getD_eq_getD_getElem?]
  rw [Array.getElem?_push_lt h,Array.getElem?_eq_getElem h]
theorem H38:∀(l:List Oper) (acc:Array Nat) (j:Nat) (o:Oper),l[j]?=some o→∃acc':Array Nat,acc'.size=acc.size+j∧(∀m,m < acc'.size→acc'.getD m 0=(l.foldl A32 acc).getD m 0) ∧
  (l.foldl A32 acc).getD (acc.size+j) 0=o.after.foldl (fun s e=>if Region.binds .any e then s ||| 2 ^ e.on ||| acc'.getD e.on 0 else s) 0
 | [],acc,j,o,h=>by simp at h
 | o'::l,acc,0,o,h=>by
  simp at h;subst h
  refine ⟨acc,rfl,fun m hm=>?_,?_⟩
  ·simp only [L32]
   rw [C90 l _ m (by simp [A32];omega)]
   simp only [A32,Array.getD_eq_getD_getElem?]
   rw [Array.getElem?_push_lt hm,Array.getElem?_eq_getElem hm]
  ·simp only [L32,Nat.add_zero]
   rw [C90 l _ acc.size (by simp [A32])]
   simp [A32,Array.getD_eq_getD_getElem?]
 | o'::l,acc,j+1,o,h=>by
  simp at h
  obtain ⟨acc',h1,h2,h3⟩:=H38 l (A32 acc o') j o h
  have hs:(A32 acc o').size=acc.size+1:=by simp [A32]
  refine ⟨acc',by rw [h1,hs];omega,by simpa only [L32] using h2,?_⟩
  simp only [L32]
  have:acc.size+(j+1)=(A32 acc o').size+j:=by rw [hs];omega
  rw [this];exact h3
def Bef (ops:Array Oper) (j i:Nat):Bool:=((Region.before ops).getD j 0).testBit i
theorem K30 {ops:Array Oper} {j i:Nat} (h:Bef ops j i=true):∃o,ops[j]?=some o∧∃e∈o.after.toList,Region.binds .any e=true∧(e.on=i∨(e.on < j∧Bef ops e.on i=true)):=by
 unfold Bef at h
 rw [G07] at h
 have hlt:j < ops.toList.length:=by
  rcases Nat.lt_or_ge j ops.toList.length with h' | h'
  ·exact h'
  ·rw [Array.getD_eq_getD_getElem?,Array.getElem?_eq_none (by rw [E81];simpa using h')] at h
   simp at h
 obtain ⟨acc',h1,h2,h3⟩:=H38 ops.toList #[] j _ (L01 hlt)
 simp only [List.size_toArray,L09,Nat.zero_add] at h1 h3
 rw [h3,←Array.foldl_toList] at h
 rcases D25 acc' i _ 0 h with h4 | ⟨e,he,hb,h4⟩
 ·simp at h4
 ·refine ⟨ops.toList[j],by rw [←Array.getElem?_toList,L01 hlt],e,he,hb,?_⟩
  rcases h4 with h4 | h4
  ·exact .inl h4
  ·have hlt':e.on < acc'.size:=by
    rcases Nat.lt_or_ge e.on acc'.size with h' | h'
    ·exact h'
    ·rw [Array.getD_eq_getD_getElem?,Array.getElem?_eq_none h'] at h4;simp at h4
   refine .inr ⟨by omega,?_⟩
   unfold Bef
   rw [G07,←h2 _ hlt'];exact h4
def Closed (ops:Array Oper) (listed:Array Bool):Prop:=∀j o,ops[j]?=some o→listed.getD j false=true→∀e∈o.after.toList,Region.binds .any e=true→listed.getD e.on false=true
theorem A49 {ops:Array Oper} {listed:Array Bool} (hc:Closed ops listed) {i:Nat}:∀(j:Nat),Bef ops j i=true→(∀o,ops[j]?=some o→∀e∈o.after.toList,Region.binds .any e=true→listed.getD e.on false=true)→listed.getD i false=true:=by
 intro j
 induction j using Nat.strongRecOn with
 | _ j ih =>
  intro hb hp
  obtain ⟨o,ho,e,he,hbd,h⟩:=K30 hb
  have hl:=hp o ho e he hbd
  rcases h with rfl | ⟨hlt,hb'⟩
  ·exact hl
  ·exact ih e.on hlt hb' fun o' ho' e' he' hbd'=>hc e.on o' ho' hl e' he' hbd'
abbrev Fa:=Nat→Option SV
def r8 (φ:Fa) (d:Nat) (s:SV):Fa:=fun i=>if i=d then some s else φ i
def SimF (P:Program) (S:Ctx) (φ:Fa) (ob:Obs) (G:Gh) (a:Act) (w:World):Prop :=
 Sim P S [] ob G a w∧∀i s,φ i=some s→s.rep (F0 (Mut S ob G) w) G (S.sl a i)
theorem simF_iff {P:Program} {S:Ctx} {fr:Fr} {ob:Obs} {G:Gh} {a:Act} {w:World}:SimF P S (E5 fr) ob G a w↔Sim P S fr ob G a w :=
 ⟨fun h=>{ h.1 with facts:=h.2 },fun h=>⟨{ h with facts:=fun i s hi=>by simp [E5] at hi },h.facts⟩⟩
theorem SimF.sub {P:Program} {S:Ctx} {φ:Fa} {fr:Fr} {ob:Obs} {G:Gh} {a:Act} {w:World} (h:SimF P S φ ob G a w) (hs:∀i s,E5 fr i=some s→φ i=some s):Sim P S fr ob G a w :=
 { h.1 with facts:=fun i s hi=>h.2 i s (hs i s hi) }
theorem SimF.ext {P:Program} {S:Ctx} {φ:Fa} {ob:Obs} {G:Gh} {a:Act} {w w':World} (h:SimF P S φ ob G a w) (hx:Below w.heap.size w w'):SimF P S φ ob G a w' :=
 ⟨h.1.ext hx,fun i s hi=>SV.rep_mono (fun _ _ _=>B27 hx) (h.2 i s hi)⟩
theorem SimF.put {P:Program} {S:Ctx} {φ:Fa} {ob:Obs} {G:Gh} {a:Act} {w:World} (h:SimF P S φ ob G a w) {d:Nat} (hd:d < S.nt) {s:SV} {v:Value} (hs:s.rep (F0 (Mut S ob G) w) G v):SimF P S (r8 φ d s) ob G (a.put (some d) v) w:=by
 have h1:=h.1.put (s:=.any) (v:=v) hd trivial
 refine ⟨h1.weaken (fun i s hi=>by simp [E5] at hi),fun i s' hi=>?_⟩
 unfold r8 at hi
 by_cases he:i=d
 ·subst he
  simp at hi;subst hi
  rw [Ctx.sl_put_same h.1 hd]
  exact hs
 ·rw [if_neg he] at hi
  rw [Ctx.sl_put_other (Ne.symm he)]
  exact h.2 i s' hi
def tmO:Operand→List Nat
 | .tmp t=>[t]
 | _=>[]
def tmL:List Operand→List Nat
 | []=>[]
 | x::r=>tmO x++tmL r
def tmP:List (Nat × Operand)→List Nat
 | []=>[]
 | x::r=>tmO x.2++tmP r
def tmQ:Option Operand→List Nat
 | some x=>tmO x
 | none=>[]
def tmC:Callee→List Nat
 | .value g=>tmO g
 | .invoke x _=>tmO x
 | _=>[]
def D77:Op→List Nat
 | .move x | .assign x | .load _ x | .nilCheck x | .unOp _ _ x | .convert _ _ x | .fieldAddr _ x _ | .field _ x _ | .extract x _ | .makeInterface _ x=>tmO x
 | .pick c x y=>tmO c++(tmO x++tmO y)
 | .binOp _ _ x y _ | .indexAddr _ x y | .index _ x y=>tmO x++tmO y
 | .slice _ x l h m=>tmO x++(tmQ l++(tmQ h++tmQ m))
 | .build _ ps | .buildSlice _ _ ps=>tmP ps.toList
 | .call c=>tmC c.callee++tmL c.args.toList
 | .typeAssert x _ _ _=>tmO x
 | _=>[]
def E82 (ops:Array Oper):Option (Nat × Bool)→List Nat
 | none=>[]
 | some (j,_)=>match (ops[j]?).bind (·.dst) with
  | some t=>[t]
  | none=>[]
def uses (ops:Array Oper) (o:Oper):List Nat:=E82 ops o.guard++D77 o.op
def turns:Op→Bool
 | .alloc _ | .box _ _ | .store .. | .makeSlice .. | .makeMap .. | .mapUpdate .. | .lookup .. | .range .. | .next .. | .insert .. | .makeFunc .. | .panic _ | .defer _=>true
 | .call ⟨.builtin .len,_,_⟩=>false
 | .call ⟨.builtin .min,_,_⟩=>false
 | .call ⟨.builtin .max,_,_⟩=>false
 | .call ⟨.value (.func _),_,_⟩=>false
 | .call ⟨.value (.tmp _),_,_⟩=>false
 | .call _=>true
 | _=>false
def Wanted (ops:Array Oper) (φ:Fa) (o:Oper) (b:Bool):Prop :=
 match o.guard with
 | none=>b=true
 | some (j,want)=>∃t s,(ops[j]?).bind (·.dst)=some t∧φ t=some s∧Wants want s b
def YieldsN (P:Program) (nt:Nat) (ops:Array Oper) (o:Oper) (φ:Fa) (ob:Obs) (s:SV):Prop :=
 ∃d,o.dst=some d∧d < nt ∧
  ((Wanted ops φ o true∧∃fr0,(∀i s,E5 fr0 i=some s→φ i=some s∧i∈uses ops o)∧Neu P o fr0 ob (fun s'=>s'=s))∨(Wanted ops φ o false∧s=.un))
def E83 (P:Program) (nt:Nat) (ops:Array Oper) (o:Oper) (φ:Fa) (ob:Obs) (K:Fa→Obs→Prop):Prop :=
 o.guard=none∧∀S G a w,S.nt=nt→SimF P S φ ob G a w→Does P o a w (fun v w'=>∃φ' ob' G',K φ' ob'∧SimF P S φ' ob' G' (a.put o.dst v) w')
def StepX (P:Program) (nt:Nat) (ops:Array Oper) (i:Nat) (φ:Fa) (ob:Obs) (K:Fa→Obs→Prop):Prop :=
 ∃o,ops[i]?=some o∧cond (turns o.op) (E83 P nt ops o φ ob K) (∃s d,o.dst=some d∧YieldsN P nt ops o φ ob s∧K (r8 φ d s) ob)
def E56 (P:Program) (nt:Nat) (ops:Array Oper) (K:Fa→Obs→Prop):Nat→Array Bool→Fa→Obs→Prop
 | 0,listed,φ,ob=>Region.ready .any ops listed=[]∧K φ ob
 | fuel+1,listed,φ,ob=>(Region.ready .any ops listed=[]→K φ ob)∧∀i∈Region.ready .any ops listed,StepX P nt ops i φ ob (E56 P nt ops K fuel (listed.setIfInBounds i true))
section
variable {P:Program} {nt:Nat} {ops:Array Oper}
theorem x7 {S:Ctx} {φ:Fa} {ob:Obs} {G:Gh} {a:Act} {w:World} (hn:S.nt=nt) (h:SimF P S φ ob G a w) {o:Oper} {b:Bool} (hw:Wanted ops φ o b) (hdst:∀(j t:Nat),(ops[j]?).bind (fun o=>o.dst)=some t→t < nt):Region.wanted o (yielded ops a.tmps)=b:=by
 unfold Wanted at hw
 unfold Region.wanted
 cases hg:o.guard with
 | none=>simp only [hg] at hw ⊢;exact hw.symm
 | some g =>
  obtain ⟨j,want⟩:=g
  simp only [hg] at hw ⊢
  obtain ⟨t,x,ht,hx,hW⟩:=hw
  have hts:t < a.tmps.size:=by rw [h.1.nt,hn];exact hdst j t ht
  have hv:=h.2 t _ hx
  have hn6:a.tmps.size≤1000000:=by rw [h.1.nt];exact h.1.ntb
  rw [Ctx.sl_lt (Nat.lt_of_lt_of_le hts hn6)] at hv
  have hy:=hW.yields hv ht hts rfl
  rw [←hy]
theorem B46 {K:Fa→Obs→Prop} {S:Ctx} {Q:Exit→Act→World→Prop} (hn:S.nt=nt) (hdst:∀(j t:Nat),(ops[j]?).bind (fun o=>o.dst)=some t→t < nt) (hK:∀φ ob G a w,K φ ob→SimF P S φ ob G a w→Q .normal a w) :
  ∀(fuel:Nat) (listed:Array Bool) (φ:Fa) (ob:Obs) (G:Gh) (a:Act) (w:World),E56 P nt ops K fuel listed φ ob→SimF P S φ ob G a w→wpAny P .any ops Q fuel listed a w
 | 0,_,φ,ob,G,a,w,h,hs=>⟨h.1,hK φ ob G a w h.2 hs⟩
 | fuel+1,listed,φ,ob,G,a,w,h,hs=>by
  refine ⟨fun h0=>hK φ ob G a w (h.1 h0) hs,fun i hi=>?_⟩
  obtain ⟨o,ho,hstep⟩:=h.2 i hi
  unfold wpOp
  simp only [ho]
  cases ht:turns o.op with
  | true =>
   rw [ht] at hstep
   obtain ⟨hg,hstep⟩:=hstep
   rw [if_pos (by simp [Region.wanted,hg])]
   refine .inl (M9 (hstep S G a w hn hs) ?_)
   rintro v w' ⟨φ',ob',G',hK',hs'⟩
   exact B46 hn hdst hK fuel _ φ' ob' G' _ w' hK' hs'
  | false =>
   rw [ht] at hstep
   obtain ⟨s,d,hd,⟨d',hd',hlt,hy⟩,hK'⟩:=hstep
   rw [hd] at hd';cases hd'
   rcases hy with ⟨hw,fr0,hfr,hneu⟩ | ⟨hw,rfl⟩
   ·rw [x7 hn hs hw hdst,if_pos rfl]
    refine .inl (M9 (hneu S G a w (hs.sub fun i s hi=>(hfr i s hi).1)) ?_)
    rintro v w' ⟨hx,s',rfl,hv⟩
    rw [hd]
    exact B46 hn hdst hK fuel _ _ ob G _ w' hK' ((hs.ext hx).put (by rw [hn];exact hlt) hv)
   ·rw [x7 hn hs hw hdst,if_neg (by simp),hd]
    exact B46 hn hdst hK fuel _ _ ob G _ w hK' (hs.put (by rw [hn];exact hlt) rfl)
def r9 (ops:Array Oper) (x y:Oper):Bool :=
 match x.dst,y.dst with
 | some d,some e=>!(uses ops y).contains d&&!(uses ops x).contains e&&!(Nat.beq d e)
 | _,_=>false
theorem D78 {φ:Fa} {d e:Nat} (h:d≠e) (s t:SV):r8 (r8 φ d s) e t=r8 (r8 φ e t) d s:=by
 funext i
 unfold r8
 by_cases h1:i=e
 ·subst h1
  rw [if_pos rfl,if_neg (fun e=>h e.symm),if_pos rfl]
 ·rw [if_neg h1]
  by_cases h2:i=d
  ·rw [if_pos h2,if_pos h2]
  ·rw [if_neg h2,if_neg h2,if_neg h1]
theorem B47 {φ:Fa} {o:Oper} {b:Bool} {d:Nat} {s:SV} (hd:d∉uses ops o):Wanted ops (r8 φ d s) o b↔Wanted ops φ o b:=by
 unfold Wanted
 cases hg:o.guard with
 | none=>simp
 | some g =>
  obtain ⟨j,want⟩:=g
  simp only
  constructor
  ·rintro ⟨t,x,ht,hx,hb⟩
   have hne:t≠d:=fun e=>hd (by subst e;simp [uses,hg,E82,ht])
   exact ⟨t,x,ht,by simpa [r8,hne] using hx,hb⟩
  ·rintro ⟨t,x,ht,hx,hb⟩
   have hne:t≠d:=fun e=>hd (by subst e;simp [uses,hg,E82,ht])
   exact ⟨t,x,ht,by simpa [r8,hne] using hx,hb⟩
theorem YieldsN.put {φ:Fa} {ob:Obs} {o:Oper} {s:SV} {d:Nat} {t:SV} (hd:d∉uses ops o) (h:YieldsN P nt ops o φ ob s):YieldsN P nt ops o (r8 φ d t) ob s:=by
 obtain ⟨e,he,hlt,h⟩:=h
 refine ⟨e,he,hlt,?_⟩
 rcases h with ⟨hw,fr0,hfr,hn⟩ | ⟨hw,rfl⟩
 ·refine .inl ⟨(B47 hd).2 hw,fr0,fun i s hi=>?_,hn⟩
  obtain ⟨h1,h2⟩:=hfr i s hi
  have hne:i≠d:=fun e=>hd (e ▸ h2)
  exact ⟨by simpa [r8,hne] using h1,h2⟩
 ·exact .inr ⟨(B47 hd).2 hw,rfl⟩
theorem YieldsN.unput {φ:Fa} {ob:Obs} {o:Oper} {s:SV} {d:Nat} {t:SV} (hd:d∉uses ops o) (h:YieldsN P nt ops o (r8 φ d t) ob s):YieldsN P nt ops o φ ob s:=by
 obtain ⟨e,he,hlt,h⟩:=h
 refine ⟨e,he,hlt,?_⟩
 rcases h with ⟨hw,fr0,hfr,hn⟩ | ⟨hw,rfl⟩
 ·refine .inl ⟨(B47 hd).1 hw,fr0,fun i s hi=>?_,hn⟩
  obtain ⟨h1,h2⟩:=hfr i s hi
  have hne:i≠d:=fun e=>hd (e ▸ h2)
  exact ⟨by simpa [r8,hne] using h1,h2⟩
 ·exact .inr ⟨(B47 hd).1 hw,rfl⟩
theorem W7 {listed:Array Bool} (hc:Closed ops listed) {j:Nat} (hj:j∈Region.ready .any ops listed):Closed ops (listed.setIfInBounds j true):=by
 intro k o ho hl e he hb
 obtain ⟨_,oj,hoj,hall⟩:=mem_ready.1 hj
 have hmono:∀m,listed.getD m false=true→(listed.setIfInBounds j true).getD m false=true:=by
  intro m hm
  simp only [Array.getD_eq_getD_getElem?] at hm ⊢
  by_cases hjm:j=m
  ·subst hjm
   have hlt:j < listed.size:=by
    rcases Nat.lt_or_ge j listed.size with h' | h'
    ·exact h'
    ·rw [Array.getElem?_eq_none h'] at hm;simp at hm
   simp [hlt]
  ·rw [Array.getElem?_setIfInBounds_ne hjm];exact hm
 by_cases hjk:j=k
 ·subst hjk
  rw [hoj] at ho;cases ho
  exact hmono _ (hall e (Array.mem_toList_iff.1 he) hb)
 ·have hl':listed.getD k false=true:=by
   simp only [Array.getD_eq_getD_getElem?] at hl ⊢
   rwa [Array.getElem?_setIfInBounds_ne hjk] at hl
  exact hmono _ (hc k o ho hl' e he hb)
theorem I42 {K:Fa→Obs→Prop} {i d:Nat} {oi:Oper} {s:SV} (hi:ops[i]?=some oi) (hti:turns oi.op=false) (hdi:oi.dst=some d) :
  ∀(fuel:Nat) (listed:Array Bool) (φ:Fa) (ob:Obs),Closed ops listed →
   (∀j oj,ops[j]?=some oj→j≠i→listed.getD j true=false→turns oj.op=true→Bef ops j i=true) →
   (∀j oj,ops[j]?=some oj→j≠i→listed.getD j true=false→turns oj.op=false→(∃e∈oj.after.toList,Region.binds .any e=true∧e.on=i)∨r9 ops oi oj=true) →
   i∈Region.ready .any ops listed→YieldsN P nt ops oi φ ob s →
   E56 P nt ops K fuel (listed.setIfInBounds i true) (r8 φ d s) ob→E56 P nt ops K (fuel+1) listed φ ob:=by
 have hself:∀(fuel:Nat) (listed:Array Bool) (φ:Fa) (ob:Obs),YieldsN P nt ops oi φ ob s→E56 P nt ops K fuel (listed.setIfInBounds i true) (r8 φ d s) ob→StepX P nt ops i φ ob (E56 P nt ops K fuel (listed.setIfInBounds i true)):=by
  intro fuel listed φ ob hy H
  exact ⟨oi,hi,by rw [hti];exact ⟨s,d,hdi,hy,H⟩⟩
 have hunl:∀(listed:Array Bool),i∈Region.ready .any ops listed→listed.getD i false=false:=by
  intro listed hr
  have h0:=(mem_ready.1 hr).1
  simp only [Array.getD_eq_getD_getElem?] at h0 ⊢
  rcases Nat.lt_or_ge i listed.size with h' | h'
  ·rw [Array.getElem?_eq_getElem h'] at h0 ⊢;simpa using h0
  ·rw [Array.getElem?_eq_none h'] at h0;simp at h0
 intro fuel
 induction fuel with
 | zero =>
  intro listed φ ob hc hE hN hr hy H
  refine ⟨fun h=>(by rw [h] at hr;cases hr),fun j hj=>?_⟩
  by_cases hji:j=i
  ·subst hji;exact hself 0 listed φ ob hy H
  ·have:=ready_mono hj hji
   rw [H.1] at this
   cases this
 | succ fuel ih =>
  intro listed φ ob hc hE hN hr hy H
  refine ⟨fun h=>(by rw [h] at hr;cases hr),fun j hj=>?_⟩
  by_cases hji:j=i
  ·subst hji;exact hself (fuel+1) listed φ ob hy H
  ·obtain ⟨hjun,oj,hoj,hall⟩:=mem_ready.1 hj
   have hiun:=hunl listed hr
   cases htj:turns oj.op with
   | true =>
    have hb:=hE j oj hoj hji hjun htj
    have:=A49 hc j hb (fun o ho e he hbd=>by rw [hoj] at ho;cases ho;exact hall e (Array.mem_toList_iff.1 he) hbd)
    rw [hiun] at this;cases this
   | false =>
    have hap:r9 ops oi oj=true:=by
     rcases hN j oj hoj hji hjun htj with ⟨e,he,hbd,hon⟩ | h
     ·have:=hall e (Array.mem_toList_iff.1 he) hbd
      rw [hon] at this
      have h2:listed.getD i false=true:=this
      rw [hiun] at h2;cases h2
     ·exact h
    obtain ⟨o',ho',hstep⟩:=H.2 j (ready_mono hj hji)
    rw [hoj] at ho';cases ho'
    rw [htj] at hstep
    obtain ⟨sj,dj,hdj,hyj,HK⟩:=hstep
    simp only [r9,hdi,hdj,L02,Bool.not_eq_true',List.contains_eq_mem,decide_eq_false_iff_not] at hap
    obtain ⟨⟨h1,h2⟩,h3⟩:=hap
    have h3:d≠dj:=fun e=>by subst e;simp at h3
    refine ⟨oj,hoj,by
     rw [htj]
     refine ⟨sj,dj,hdj,hyj.unput h1,?_⟩
     refine ih (listed.setIfInBounds j true) _ ob (W7 hc hj) ?_ ?_ (ready_mono hr (Ne.symm hji)) (hy.put h2) ?_
     ·intro k ok hk hki hun htk
      refine hE k ok hk hki ?_ htk
      by_cases hjk:j=k
      ·subst hjk;exact hjun
      ·rwa [getD_set_ne true hjk] at hun
     ·intro k ok hk hki hun htk
      refine hN k ok hk hki ?_ htk
      by_cases hjk:j=k
      ·subst hjk;exact hjun
      ·rwa [getD_set_ne true hjk] at hun
     ·rw [Array.setIfInBounds_comm _ _ hji,←D78 h3]
      exact HK⟩
def LexD (P:Program) (nt:Nat) (ops:Array Oper) (K:Fr→Obs→Prop):List Oper→Fr→Obs→Prop
 | [],fr,ob=>K fr ob
 | o::rest,fr,ob=>cond (turns o.op) (E83 P nt ops o (E5 fr) ob (fun φ' ob'=>∃fr',φ'=E5 fr'∧LexD P nt ops K rest fr' ob'))
   (∃s d,o.dst=some d∧YieldsN P nt ops o (E5 fr) ob s∧LexD P nt ops K rest ((d,s)::fr) ob)
def G08 (ops:Array Oper):Nat→Nat→Array Bool→Bool
 | 0,_,listed=>(Region.ready .any ops listed).isEmpty
 | fuel+1,k,listed =>
  (match ops[k]? with
   | some o=>(Region.ready .any ops listed).contains k&&cond (turns o.op) ((Region.ready .any ops listed).all fun j=>Nat.beq j k)
    ((List.range ops.size).all fun j=>Nat.beq j k||listed.getD j true||match ops[j]? with
     | some oj=>cond (turns oj.op) (Bef ops j k) (oj.after.toList.any (fun e=>Region.binds .any e&&Nat.beq e.on k)||r9 ops o oj)
     | none=>true)
   | none=>false)&&G08 ops fuel (k+1) (listed.setIfInBounds k true)
theorem A50 (d:Nat) (s:SV) (fr:Fr):E5 ((d,s)::fr)=r8 (E5 fr) d s:=by
 funext i
 unfold r8
 by_cases h:i=d
 ·subst h;rw [E0];simp
 ·rw [C8 (Ne.symm h),if_neg h]
theorem B96 {K:Fr→Obs→Prop}:∀(l:List Oper) (k:Nat) (listed:Array Bool) (fr:Fr) (ob:Obs),(∀j,l[j]?=ops[k+j]?)→Closed ops listed→G08 ops l.length k listed=true→LexD P nt ops K l fr ob →
  E56 P nt ops (fun φ ob=>∃fr',φ=E5 fr'∧K fr' ob) l.length listed (E5 fr) ob
 | [],k,listed,fr,ob,hl,hc,hB,h=>⟨by simpa [G08] using hB,fr,rfl,h⟩
 | o :: l,k,listed,fr,ob,hl,hc,hB,h=>by
  have h0:ops[k]?=some o:=by simpa using (hl 0).symm
  simp only [L04,G08,h0,L02] at hB
  obtain ⟨⟨hr,hf⟩,hB'⟩:=hB
  have hr':k∈Region.ready .any ops listed:=by simpa using hr
  have hl':∀j,l[j]?=ops[k+1+j]?:=fun j=>by have:=hl (j+1);simpa [Nat.add_assoc,Nat.add_comm 1 j] using this
  simp only [LexD] at h
  cases ht:turns o.op with
  | true =>
   rw [ht] at h hf
   simp only [cond] at hf h
   have honly:∀j∈Region.ready .any ops listed,j=k:=fun j hj=>by
    have:=List.all_eq_true.1 hf j hj
    exact Nat.eq_of_beq_eq_true this
   refine ⟨fun he=>(by rw [he] at hr';cases hr'),fun j hj=>?_⟩
   have:=honly j hj
   subst this
   refine ⟨o,h0,?_⟩
   rw [ht]
   refine ⟨h.1,fun S G a w hn hs=>?_⟩
   have hd:=h.2 S G a w hn hs
   unfold Does at hd ⊢
   have imp:∀v w',(∃φ' ob' G',(∃fr',φ'=E5 fr'∧LexD P nt ops K l fr' ob')∧SimF P S φ' ob' G' (a.put o.dst v) w') →
     (∃φ' ob' G',E56 P nt ops (fun φ ob=>∃fr',φ=E5 fr'∧K fr' ob) l.length (listed.setIfInBounds j true) φ' ob'∧SimF P S φ' ob' G' (a.put o.dst v) w'):=by
    rintro v w' ⟨φ',ob',G',⟨fr',rfl,hL⟩,hs'⟩
    exact ⟨_,ob',G',B96 l (j+1) _ fr' ob' hl' (W7 hc hj) hB' hL,hs'⟩
   generalize (execOp a.eval o).run P w=r at *
   cases r with
   | ok n w' =>
    cases n<;>simp only at hd ⊢<;>try exact hd.elim
    case value v=>exact imp _ _ hd
    case skip=>exact imp _ _ hd
    case enter f args=>exact hd.mono fun e w'' ⟨v,he,hv⟩=>⟨v,he,imp _ _ hv⟩
   | halt x w'=>exact hd
  | false =>
   rw [ht] at h hf
   simp only [cond] at hf h
   obtain ⟨s,d,hd,hy,hL⟩:=h
   have hall:∀j oj,ops[j]?=some oj→j≠k→listed.getD j true=false→cond (turns oj.op) (Bef ops j k) (oj.after.toList.any (fun e=>Region.binds .any e&&Nat.beq e.on k)||r9 ops o oj)=true:=by
    intro j oj hoj hjk hun
    have hlt:j < ops.size:=(Array.getElem?_eq_some_iff.1 hoj).1
    have:=List.all_eq_true.1 hf j (List.mem_range.2 hlt)
    rw [W6 hjk,hun,hoj] at this
    simp only [Bool.false_or] at this
    exact this
   refine I42 h0 ht hd l.length listed _ ob hc ?_ ?_ hr' hy ?_
   ·intro j oj hoj hjk hun htj
    have:=hall j oj hoj hjk hun
    rw [htj] at this;exact this
   ·intro j oj hoj hjk hun htj
    have:=hall j oj hoj hjk hun
    rw [htj] at this
    simp only [cond,L20,List.any_eq_true,L02] at this
    rcases this with ⟨e,he,hb,hon⟩ | h
    ·exact .inl ⟨e,he,hb,Nat.eq_of_beq_eq_true hon⟩
    ·exact .inr h
   ·rw [←A50]
    exact B96 l (k+1) _ _ ob hl' (W7 hc hr') hB' hL
def dstsIn (nt:Nat) (ops:Array Oper):Bool:=ops.toList.all fun o=>match o.dst with
 | some d=>Nat.blt d nt
 | none=>true
theorem E7 {id:Nat} {l:List Oper} {fr:Fr} {ob:Obs} {Q:Post} (hm:P.follows .mixedOrders=true) (hB:(G08 l.toArray l.length 0 (Array.replicate l.length false)&&dstsIn nt l.toArray)=true)
  (h:LexD P nt l.toArray (fun fr ob=>Q .normal fr ob) l fr ob):WpC P nt (.region id l.toArray true) fr ob Q:=by
 intro S G a w hn hs
 simp only [L02] at hB
 have hdst:∀(j t:Nat),(l.toArray[j]?).bind (fun o=>o.dst)=some t→t < nt:=by
  intro j t ht
  cases ho:l.toArray[j]? with
  | none=>simp [ho] at ht
  | some o =>
   simp [ho] at ht
   have hmem:o∈l:=by
    rw [List.getElem?_toArray] at ho
    exact L14 ho
   have:=List.all_eq_true.1 hB.2 o (by simpa using hmem)
   rw [ht] at this
   simpa using this
 refine wp_region_any hm ?_
 have hc:Closed l.toArray (Array.replicate l.length false):=by
  intro j o ho hl
  simp only [Array.getD_eq_getD_getElem?] at hl
  rcases Nat.lt_or_ge j l.length with h' | h'
  ·simp [h'] at hl
  ·simp [h'] at hl
 have key:=B96 (P:=P) (nt:=nt) (ops:=l.toArray) (K:=fun fr ob=>Q .normal fr ob) l 0 (Array.replicate l.length false) fr ob (by simp) hc hB.1 h
 have hx:Below w.heap.size w { w with drawn:=w.drawn+1 }:=⟨rfl,rfl,rfl,Nat.le_refl _,fun _ _=>rfl⟩
 have hs':SimF P S (E5 fr) ob G a { w with drawn:=w.drawn+1 }:=(simF_iff.2 hs).ext hx
 have:=B46 (Q:=PostOf P S Q) hn hdst (fun φ ob' G' a' w' ⟨fr',he,hq⟩ hsf=>⟨fr',ob',G',hq,.inl (simF_iff.1 (he ▸ hsf))⟩) l.length _ _ ob G a _ key hs'
 simpa using this
section
variable {rest:List Oper} {fr:Fr} {ob:Obs} {K:Fr→Obs→Prop} {d:Nat}
theorem Q6 (h:K fr ob):LexD P nt ops K [] fr ob:=h
theorem B28 {fr:Fr}:∀{l:List Nat} {i:Nat} {s:SV},E5 (b8 fr l) i=some s→i∈l
 | [],i,s,h=>by simp [b8,E5] at h
 | j::l,i,s,h=>by
  unfold b8 at h
  split at h
  ·by_cases he:j=i
   ·subst he;simp
   ·rw [C8 he] at h;exact List.mem_cons_of_mem _ (B28 h)
  ·exact List.mem_cons_of_mem _ (B28 h)
theorem B7 {op:Op} {ty:TypeId} {pos:String} {af:Array Edge} {s:SV} (h:Neu P ⟨some d,op,ty,pos,af,none⟩ (b8 fr (D77 op)) ob (fun s'=>s'=s)) (ht:turns op=false) (hd:Nat.blt d nt=true) (k:LexD P nt ops K rest ((d,s)::fr) ob) :
  LexD P nt ops K (⟨some d,op,ty,pos,af,none⟩::rest) fr ob:=by
 simp only [LexD,ht,cond]
 refine ⟨s,d,rfl,⟨d,rfl,by simpa using hd,.inl ⟨rfl,_,fun i s hi=>⟨A46 hi,?_⟩,h⟩⟩,k⟩
 simpa [uses,E82] using B28 hi
theorem d_run {op:Op} {ty:TypeId} {pos:String} {af:Array Edge} {s:SV} {j t:Nat} {b x:Bool} (hj:(ops[j]?).bind (·.dst)=some t) (hx:E5 fr t=some (.s (.one (.p (.v (.bool x)))))) (hb:x=b)
  (h:Neu P ⟨some d,op,ty,pos,af,none⟩ (b8 fr (D77 op)) ob (fun s'=>s'=s)) (ht:turns op=false) (hd:Nat.blt d nt=true) (k:LexD P nt ops K rest ((d,s)::fr) ob) :
  LexD P nt ops K (⟨some d,op,ty,pos,af,some (j,b)⟩::rest) fr ob:=by
 simp only [LexD,ht,cond]
 refine ⟨s,d,rfl,⟨d,rfl,by simpa using hd,.inl ⟨⟨t,_,hj,hx,by have:=Wants.val (b:=b) x;rwa [show (x == b)=true by simp [hb]] at this⟩,_,fun i s hi=>⟨A46 hi,?_⟩,h⟩⟩,k⟩
 simp only [uses]
 exact List.mem_append_right _ (B28 hi)
theorem E84 {op:Op} {ty:TypeId} {pos:String} {af:Array Edge} {j t:Nat} {b x:Bool} (hj:(ops[j]?).bind (·.dst)=some t) (hx:E5 fr t=some (.s (.one (.p (.v (.bool x)))))) (hb:x≠b) (ht:turns op=false) (hd:Nat.blt d nt=true)
  (k:LexD P nt ops K rest ((d,.un)::fr) ob):LexD P nt ops K (⟨some d,op,ty,pos,af,some (j,b)⟩::rest) fr ob:=by
 simp only [LexD,ht,cond]
 refine ⟨.un,d,rfl,⟨d,rfl,by simpa using hd,.inr ⟨⟨t,_,hj,hx,?_⟩,rfl⟩⟩,k⟩
 have:=Wants.val (b:=b) x
 rwa [show (x == b)=false by simpa using hb] at this
theorem d_eff {op:Op} {ty:TypeId} {pos:String} {af:Array Edge} {fr':Fr} {ob':Obs} (h:Eff P ⟨none,op,ty,pos,af,none⟩ fr ob fr' ob') (ht:turns op=true) (k:LexD P nt ops K rest fr' ob') :
  LexD P nt ops K (⟨none,op,ty,pos,af,none⟩::rest) fr ob:=by
 simp only [LexD,ht,cond]
 refine ⟨rfl,fun S G a w hn hs=>?_⟩
 have hd:=h S G a w (simF_iff.1 hs)
 unfold Does at hd ⊢
 generalize (execOp a.eval _).run P w=r at *
 cases r with
 | ok n w' =>
  cases n<;>simp only at hd ⊢<;>try exact hd.elim
  case value v=>obtain ⟨G',h'⟩:=hd;exact ⟨_,ob',G',⟨fr',rfl,k⟩,simF_iff.2 h'⟩
  case skip=>obtain ⟨G',h'⟩:=hd;exact ⟨_,ob',G',⟨fr',rfl,k⟩,simF_iff.2 h'⟩
  case enter f args=>exact hd.mono fun e w'' ⟨v,he,G',h'⟩=>⟨v,he,_,ob',G',⟨fr',rfl,k⟩,simF_iff.2 h'⟩
 | halt x w'=>exact hd.elim
theorem d_effv {op:Op} {ty:TypeId} {pos:String} {af:Array Edge} {fr':Fr} {ob':Obs} {s:SV} (h:EffV P ⟨some d,op,ty,pos,af,none⟩ fr ob s fr' ob') (ht:turns op=true) (hd:Nat.blt d nt=true) (k:LexD P nt ops K rest ((d,s)::fr') ob') :
  LexD P nt ops K (⟨some d,op,ty,pos,af,none⟩::rest) fr ob:=by
 simp only [LexD,ht,cond]
 refine ⟨rfl,fun S G a w hn hs=>?_⟩
 have hh:=h S G a w (simF_iff.1 hs)
 have hlt:d < S.nt:=by rw [hn];simpa using hd
 unfold Does at hh ⊢
 generalize (execOp a.eval _).run P w=r at *
 cases r with
 | ok n w' =>
  cases n<;>simp only at hh ⊢<;>try exact hh.elim
  case value v=>obtain ⟨G',h1,h2⟩:=hh;exact ⟨_,ob',G',⟨_,rfl,k⟩,simF_iff.2 (h1.put hlt h2)⟩
  case skip=>obtain ⟨G',h1,h2⟩:=hh;exact ⟨_,ob',G',⟨_,rfl,k⟩,simF_iff.2 (h1.put hlt h2)⟩
  case enter f args=>exact hh.mono fun e w'' ⟨v,he,G',h1,h2⟩=>⟨v,he,_,ob',G',⟨_,rfl,k⟩,simF_iff.2 (h1.put hlt h2)⟩
 | halt x w'=>exact hh.elim
theorem O7 {dst:Option Tmp} {ty:TypeId} {pos:String} {af:Array Edge} {gd:Option (Nat × Bool)} {f:FuncId} {args:Array Operand} {ats:Array TypeId} {ps rs:List PV} (hf:FnOk P f ps (fun r=>r=rs)) (ha:A48 fr args.toList=some ps) (hc:args.toList.all H8=true) :
  Neu P ⟨dst,.call ⟨.value (.func f),args,ats⟩,ty,pos,af,gd⟩ fr ob (fun s=>s=D24 rs):=by
 intro S G a w h
 have:=n_call (P:=P) (dst:=dst) (ty:=ty) (pos:=pos) (af:=af) (gd:=gd) (ats:=ats) (ob:=ob) hf ha hc S G a w h
 unfold Does at this ⊢
 generalize (execOp a.eval _).run P w=r at *
 cases r with
 | ok n w' =>
  cases n<;>simp only at this ⊢<;>try exact this
  case value v=>obtain ⟨h1,s,⟨r',h2,h3⟩,h4⟩:=this;subst h2;exact ⟨h1,s,h3,h4⟩
  case skip=>obtain ⟨h1,s,⟨r',h2,h3⟩,h4⟩:=this;subst h2;exact ⟨h1,s,h3,h4⟩
  case enter f args=>exact this.mono fun e w'' ⟨v,he,h1,s,⟨r',h2,h3⟩,h4⟩=>by subst h2;exact ⟨v,he,h1,s,h3,h4⟩
 | halt x w'=>exact this
end
end
end Go.AL
namespace Go.AL
open Go Go.RowKit
set_option linter.unusedVariables false
section
variable {P:Program} {dst:Option Tmp} {ty:TypeId} {pos:String} {af:Array Edge} {gd:Option (Nat × Bool)} {fr:Fr} {ob:Obs}
class TySz (P:Program) (t:TypeId) (n:outParam Nat):Prop where
 out:(P.info? t).map (·.size)=some n
theorem j3 {x:Operand} {src d:TypeId} {k k' ks:IntKind} {n:Int} [hs:TyInt P src ks] [hd:TyInt P d k'] (hx:opv fr x=some (I7 (.int k n))) :
  Neu P ⟨dst,.convert src d x,ty,pos,af,gd⟩ fr ob (fun s'=>s'=I7 (.int k' (k'.wrap n))) :=
 F5 fun S G a w h=>by
  refine ⟨_,?_,rfl,rfl⟩
  simp only [execOp,G5 h hx]
  refine M6 ?_
  simp [convert,run_underlying hs.out,run_underlying hd.out,Conv.intToInt]
theorem B48 {x:Operand} {src d:TypeId} {k k' ks:IntKind} {n:Int} [hs:TyInt P src ks] [hd:TyInt P d k'] (hx:opv fr x=some (I7 (.int k n))) (h:k'.wrap n=n) :
  Neu P ⟨dst,.convert src d x,ty,pos,af,gd⟩ fr ob (fun s'=>s'=I7 (.int k' n)):=by
 have:=j3 (P:=P) (dst:=dst) (ty:=ty) (pos:=pos) (af:=af) (gd:=gd) (src:=src) (d:=d) (ob:=ob) hx
 rwa [h] at this
theorem E85 {x y:Operand} {ats:Array TypeId} {k:IntKind} {a b:Int} (hx:opv fr x=some (I7 (.int k a))) (hy:opv fr y=some (I7 (.int k b))) :
  Neu P ⟨dst,.call ⟨.builtin .min,#[x,y],ats⟩,ty,pos,af,gd⟩ fr ob (fun s'=>s'=I7 (.int k (if b < a then b else a))) :=
 F5 fun S G ac w h=>by
  refine ⟨_,?_,rfl,rfl⟩
  simp [execOp,resolve,invoke,builtin,G5 h hx,G5 h hy,run_min_int2]
class TyFld1 (P:Program) (t:TypeId) (f:Nat) (off:outParam Nat):Prop where
 out:∃fs fd d,P.underlying t=some (.struct fs)∧fs[f]?=some fd∧fd.offset=off∧P.underlying fd.type=some d∧(match d with | .struct _ | .array _ _=>False | _=>True)
def TC.free (k:Nat):TC→Bool
 | .buf k' _ _ _ _=>!(Nat.beq k' k)
 | .ref k' _=>!(Nat.beq k' k)
 | .mut k'=>!(Nat.beq k' k)
 | .mref k' _ _ _=>!(Nat.beq k' k)
 | .clo _ nf nc=>!(A74 k nf||A74 k nc)
 | .msl k' _ _ _=>!(Nat.beq k' k)
 | .ifc _ k' _=>!(Nat.beq k' k)
 | _=>true
def S1.free (k:Nat):S1→Bool
 | .one t=>t.free k
 | .agg ts=>ts.all (TC.free k)
def SV.free (k:Nat):SV→Bool
 | .s x=>x.free k
 | .tup l=>l.all (S1.free k)
 | .any=>true
 | .un=>true
def Ob.free (k:Nat):Ob→Bool
 | .box ts=>ts.all (TC.free k)
 | .tbx _ ts=>ts.all (TC.free k)
 | .tarr _ _ ts=>ts.all (TC.free k)
 | .growA _ _ _ _ _ _ ts=>ts.all (TC.free k)
 | .growT _ _ _ ts=>ts.all (TC.free k)
 | _=>true
def K4 (k:Nat):Fr→Bool
 | []=>true
 | (_,s)::r=>SV.free k s&&K4 k r
def L0 (k:Nat):Obs→Bool
 | []=>Nat.blt k 1000000
 | (i,o)::r=>!(Nat.beq i k)&&(Ob.free k o&&L0 k r)
theorem TC.forget_free {k:Nat}:∀{t:TC},t.free k=true→t.forget k=t
 | .p _,_=>rfl
 | .buf k' _ _ _ _,h=>by simp only [TC.free,Bool.not_eq_true'] at h;simp [TC.forget,h]
 | .ref k' _,h=>by simp only [TC.free,Bool.not_eq_true'] at h;simp [TC.forget,h]
 | .eref _ _ _ _ _,_=>rfl
 | .mut k',h=>by simp only [TC.free,Bool.not_eq_true'] at h;simp [TC.forget,h]
 | .mref k' _ _ _,h=>by simp only [TC.free,Bool.not_eq_true'] at h;simp [TC.forget,h]
 | .any,_=>rfl
 | .clo _ _ _,h=>by simp only [TC.free,Bool.not_eq_true'] at h;simp only [TC.forget,h];rfl
 | .msl k' _ _ _,h=>by simp only [TC.free,Bool.not_eq_true'] at h;simp [TC.forget,h]
 | .full _ _ _ _,_=>rfl
 | .ifc _ k' _,h=>by simp only [TC.free,Bool.not_eq_true'] at h;simp [TC.forget,h]
 | .fnc _ _,_=>rfl
 | .fncE _ _ _ _ _,_=>rfl
theorem X4 {α:Type 1} {f:α→α}:∀{l:List α},(∀x∈l,f x=x)→l.map f=l
 | [],_=>rfl
 | a::l,h=>by
  have ih:l.map f=l:=X4 fun x hx=>h x (List.mem_cons_of_mem _ hx)
  rw [L16,h a (List.mem_cons_self ..),ih]
theorem A51 {k:Nat} {ts:List TC} (h:ts.all (TC.free k)=true):ts.map (TC.forget k)=ts:=X4 fun t ht=>TC.forget_free (List.all_eq_true.1 h t ht)
theorem S1.forget_free {k:Nat}:∀{s:S1},s.free k=true→s.forget k=s
 | .one t,h=>by simp only [S1.forget];rw [TC.forget_free h]
 | .agg ts,h=>by simp only [S1.forget];rw [A51 h]
theorem SV.forget_free {k:Nat}:∀{s:SV},s.free k=true→s.forget k=s
 | .s x,h=>by simp only [SV.forget];rw [S1.forget_free h]
 | .tup l,h=>by simp only [SV.forget];rw [X4 fun t ht=>S1.forget_free (List.all_eq_true.1 h t ht)]
 | .any,_=>rfl
 | .un,_=>rfl
theorem Ob.forget_free {k:Nat}:∀{o:Ob},o.free k=true→o.forget k=o
 | .box ts,h=>by simp only [Ob.forget];rw [A51 h]
 | .tbx _ ts,h=>by simp only [Ob.forget];rw [A51 h]
 | .tarr _ _ ts,h=>by simp only [Ob.forget];rw [A51 h]
 | .arr _ _ _ _,_=>rfl
 | .spare _ _ _,_=>rfl
 | .grow _ _ _ _ _,_=>rfl
 | .map _ _ _,_=>rfl
 | .growA _ _ _ _ _ _ ts,h=>by simp only [Ob.forget];rw [A51 h]
 | .growT _ _ _ ts,h=>by simp only [Ob.forget];rw [A51 h]
theorem b9 {k:Nat}:∀{fr:Fr},K4 k fr=true→Fr.forget k fr=fr
 | [],_=>rfl
 | (i,s)::r,h=>by
  simp only [K4,L02] at h
  have:=b9 h.2
  simp only [Fr.forget,L16] at this ⊢
  rw [this,SV.forget_free h.1]
theorem H9 {k:Nat}:∀{ob:Obs},L0 k ob=true→Obs.forget k ob=ob∧C1 ob k=none∧k < 1000000
 | [],h=>⟨rfl,rfl,by simpa [L0] using h⟩
 | (i,o)::r,h=>by
  simp only [L0,L02,Bool.not_eq_true'] at h
  obtain ⟨h1,h2,h3⟩:=H9 h.2.2
  simp only [Obs.forget,L16] at h1 ⊢
  refine ⟨by rw [h1,Ob.forget_free h.2.1],?_⟩
  exact ⟨by simp [C1,h.1,h2],h3⟩
theorem s6 (k:Nat) {x:Operand} {e:TypeId} {s:S1} (hx:opv fr x=some (.s s)) (hc:H8 x=true) (hf:(K4 k fr&&L0 k ob&&s.free k)=true) :
  EffV P ⟨dst,.box e x,ty,pos,af,gd⟩ fr ob (.s (.one (.ref k 0))) fr ((k,.box s.cells)::ob):=by
 simp only [L02] at hf
 obtain ⟨⟨h1,h2⟩,h3⟩:=hf
 obtain ⟨h4,h5,hp⟩:=H9 h2
 have:=e_box (P:=P) (dst:=dst) (ty:=ty) (pos:=pos) (af:=af) (gd:=gd) (e:=e) k hx hc h5 hp
 rw [b9 h1,h4] at this
 have hs:s.cells.map (TC.forget k)=s.cells:=by
  cases s with
  | one t=>simp only [S1.cells,L16,L54];rw [TC.forget_free h3]
  | agg ts=>exact A51 h3
 rwa [hs] at this
theorem J1 (k:Nat) {e:TypeId} {z:Value} [hz:TyZero P e z] (hf:(K4 k fr&&L0 k ob)=true) :
  EffV P ⟨dst,.alloc e,ty,pos,af,gd⟩ fr ob (.s (.one (.ref k 0))) fr ((k,.box (z.cells.toList.map fun c=>.p (.v c)))::ob):=by
 simp only [L02] at hf
 obtain ⟨h1,h2⟩:=hf
 obtain ⟨h4,h5,hp⟩:=H9 h2
 have:=A78 (P:=P) (dst:=dst) (ty:=ty) (pos:=pos) (af:=af) (gd:=gd) (e:=e) (fr:=fr) k h5 hp
 rwa [b9 h1,h4] at this
theorem j4 (k:Nat) (α:Type) (c:α→Nat→Cell) {t e:TypeId} {ec bytes:Nat} [ht:TySl P t e ec bytes] (hf:(K4 k fr&&L0 k ob)=true) :
  EffV P ⟨dst,.assign (.const (.slice none 0 0)),t,pos,af,gd⟩ fr ob (.s (.one (.buf k α ec c []))) fr ((k,.spare 0 ec e)::ob):=by
 simp only [L02] at hf
 obtain ⟨h1,h2⟩:=hf
 obtain ⟨h4,h5,hp⟩:=H9 h2
 have:=e_adopt (P:=P) (dst:=dst) (pos:=pos) (af:=af) (gd:=gd) (fr:=fr) (ht:=ht) k α c h5 hp
 rwa [b9 h1,h4] at this
theorem f_make (k:Nat) {t e:TypeId} {ec bytes:Nat} {x y:Operand} {kx ky:IntKind} {n:Int} (α:Type) (c:α→Nat→Cell) (y0:α) {zs:List Value} [ht:TySl P t e ec bytes]
  (hx:opv fr x=some (I7 (.int kx n))) (hy:opv fr y=some (I7 (.int ky n))) (h0:0≤n) (hn:n≤1073741824) (hz:((P.info? e).bind (·.zero)).map (fun z=>z.cells.toList)=some zs)
  (hy0:∀rd:Rd,All2 (Cell.rep rd) (cellsOf c y0 0 ec) zs) (hf:(K4 k fr&&L0 k ob)=true) :
  EffV P ⟨dst,.makeSlice t x y,ty,pos,af,gd⟩ fr ob (.s (.one (.mut k))) fr ((k,.arr α ec c (List.replicate n.toNat y0))::ob):=by
 simp only [L02] at hf
 obtain ⟨h1,h2⟩:=hf
 obtain ⟨h4,h5,hp⟩:=H9 h2
 have:=e_make (P:=P) (dst:=dst) (ty:=ty) (pos:=pos) (af:=af) (gd:=gd) (fr:=fr) (ht:=ht) k hx hy h0 hn hz hy0 h5 hp
 rwa [b9 h1,h4] at this
end
section
variable {P:Program} {nt:Nat} {ops:Array Oper} {rest:List Oper} {fr:Fr} {ob:Obs} {Q:Post}
end
end Go.AL
namespace Go.AL
attribute [irreducible] Neu Eff EffV WpL WpC FnOk LexD Sees RetOk
end Go.AL
