/- An abstract logic for calls that make data and change none that was there. No project text. -/
import Derived.WalkKit
import Derived.Still
import Derived.Lib.AppendStr
import Derived.Lib.Builder
import Derived.Lib.UnsafeStr
import Derived.Lib.LaidTab
import Derived.Lib.ItoaNum
import Derived.RangeFuncLeaves
set_option linter.all false
namespace Go.AL
section
theorem Z{α:Sort _}{a:α}:a=a:=rfl
theorem A0{p:Prop}[Decidable p]:decide p=true->p:=of_decide_eq_true
theorem A1{p:Prop}[Decidable p]:decide p=false->¬p:=of_decide_eq_false
theorem A3{p:Prop}[Decidable p]:p->decide p=true:=decide_eq_true
theorem A4{p:Prop}[Decidable p]:¬p->decide p=false:=decide_eq_false
theorem A5{c:Prop}{h:Decidable c}(a:c){α:Sort _}{t e:α}:(ite c t e)=t:=if_pos a
theorem A6{c:Prop}{h:Decidable c}(a:¬c){α:Sort _}{t e:α}:(ite c t e)=e:=if_neg a
abbrev C29:=@List.getElem?_eq_getElem
abbrev C30:=@Bool.and_eq_true
abbrev C31:=@Int.toNat_natCast
abbrev C32:=@List.length_append
abbrev C33:=@List.getD_eq_getElem?_getD
abbrev C34:=@List.length_cons
abbrev C35:=@List.getElem_mem
abbrev C36:=@List.mem_cons
abbrev C37:=@List.mem_append
abbrev C38:=@List.drop_eq_getElem_cons
abbrev C39:=@List.map_cons
abbrev C40:=@List.mem_range
abbrev C41:=@List.length_take
abbrev C42:=@List.append_assoc
abbrev C43:=@List.length_nil
abbrev C44:=@List.take_length
abbrev C45:=@List.length_drop
abbrev C46:=@List.getElem?_append_left
abbrev C47:=@Nat.mul_le_mul_right
abbrev C48:=@List.take_succ_eq_append_getElem
abbrev C49:=@List.getElem?_eq_none
abbrev C50:=@List.map_append
abbrev C51:=@List.drop_eq_nil_of_le
abbrev C52:=@List.getElem?_append_right
abbrev C53:=@List.mem_of_getElem?
abbrev C54:=@List.mem_map
abbrev C55:=@List.length_map
abbrev C56:=@List.flatten_cons
abbrev C57:=@List.cons_append
abbrev C58:=@List.nil_append
abbrev C59:=@List.getElem?_take_of_lt
abbrev C60:=@List.append_nil
abbrev C61:=@List.getElem?_drop
abbrev C62:=@Nat.add_mul
abbrev C63:=@List.getElem?_map
abbrev C64:=@Bool.or_eq_true
abbrev C65:=@List.take_of_length_le
abbrev C66:=@List.not_mem_nil
abbrev C67:=@List.sum_cons
abbrev C68:=@List.foldl_cons
abbrev C69:=@List.flatten_append
abbrev C70:=@List.take_append_drop
abbrev C71:=@List.map_map
abbrev C72:=@List.length_range
abbrev C73:=@List.length_set
abbrev C74:=@List.length_replicate
abbrev C75:=@List.range_succ
abbrev C76:=@List.sum_append
abbrev C77:=@List.map_nil
abbrev C78:=@List.foldl_append
abbrev C79:=@List.getElem?_range
abbrev C80:=@List.filter_cons
abbrev C81:=@List.getElem_append_right
abbrev C82:=@List.getElem_append_left
abbrev C83:=@List.filter_append
abbrev C84:=@List.getElem?_set
abbrev C85:=@List.all_append
abbrev C86:=@Nat.sub_self
abbrev C87:=@Bool.or_eq_false_iff
abbrev C88:=@List.count_append
abbrev C89:=@List.flatten_nil
abbrev C90:=@List.getElem?_set_self
abbrev C91:=@List.sum_nil
abbrev C92:=@List.count_cons
abbrev C93:=@List.any_append
open Go Go.RowKit
set_option linter.unusedVariables false
universe u v
theorem I9{i k:Nat}(h:i≠k):Nat.beq i k=false:=by
 cases hb:Nat.beq i k
 ·rfl
 ·exact absurd (Nat.eq_of_beq_eq_true hb) h
def All2{α:Type u}{β:Type v}(R:α->β->Prop):List α->List β->Prop
 | [],[]=>True
 | a::as,b::bs=>R a b/\All2 R as bs
 | _,_=>False
theorem All2.length{α:Type u}{β:Type v}{R:α->β->Prop}:∀{as:List α} {bs:List β},All2 R as bs->as.length=bs.length
 | [],[],_=>rfl
 | [],_::_,h=>h.elim
 | _::_,[],h=>h.elim
 | _::as,_::bs,h=>by simp[All2.length h.2]
theorem All2.mono{α:Type u}{β:Type v}{R R':α->β->Prop}(c:∀a b,R a b->R' a b):∀{as:List α} {bs:List β},All2 R as bs->All2 R' as bs
 | [],[],_=>trivial
 | [],_::_,h=>h.elim
 | _::_,[],h=>h.elim
 | _::_,_::_,h=>⟨c _ _ h.1,All2.mono c h.2⟩
theorem All2.map{α:Type u}{γ:Type u}{β:Type v}{R:α->β->Prop}{R':γ->β->Prop}(f:α->γ)(d:∀a b,R a b->R' (f a) b):∀{as:List α} {c:List β},All2 R as c->All2 R' (as.map f) c
 | [],[],_=>trivial
 | [],_::_,h=>h.elim
 | _::_,[],h=>h.elim
 | _::_,_::_,h=>⟨d _ _ h.1,All2.map f d h.2⟩
theorem All2.get{α:Type u}{β:Type v}{R:α->β->Prop}:∀{as:List α} {c:List β},All2 R as c->∀(i:Nat) (a:α),as[i]?=some a->∃b,c[i]?=some b/\R a b
 | [],[],_,i,a,h=>by simp at h
 | [],_::_,h,_,_,_=>h.elim
 | _::_,[],h,_,_,_=>h.elim
 | x::as,y::c,h,i,a,hi=>by
  cases i with
  | zero=>simp at hi;subst hi;exact⟨y,rfl,h.1⟩
  | succ i=>simpa using All2.get h.2 i a (by simpa using hi)
theorem All2.set{α:Type u}{β:Type v}{R:α->β->Prop}{x:α}{y:β}(a:R x y):∀{as:List α} {b:List β} (i:Nat),All2 R as b->All2 R (as.set i x) (b.set i y)
 | [],[],_,_=>trivial
 | [],_::_,_,h=>h.elim
 | _::_,[],_,h=>h.elim
 | _::as,_::b,0,h=>⟨a,h.2⟩
 | _::as,_::b,i+1,h=>⟨h.1,All2.set a i h.2⟩
theorem All2.append{α:Type u}{β:Type v}{R:α->β->Prop}:∀{as:List α} {a:List β} {b:List α} {c:List β},All2 R as a->All2 R b c->All2 R (as++b) (a++c)
 | [],[],_,_,_,h=>h
 | [],_::_,_,_,h,_=>h.elim
 | _::_,[],_,_,h,_=>h.elim
 | _::_,_::_,_,_,h,h'=>⟨h.1,All2.append h.2 h'⟩
abbrev Rd:=Nat->Nat->Value->Prop
inductive Cell:Type 1 where
 | v (x:Value)
 | list (α:Type) (ec:Nat) (c:α->Nat->Cell) (xs:List α)
def SliceAt(h:Rd)(f n:Nat)(g:Nat->Nat->Value->Prop)(u:Value):Prop :=
 ∃a d,u=.slice a n d/\(n<=d/\(a=none->d=0))/\n<4611686018427387904 /\
  (n=0\/∃b o,a=some ⟨b,o,none⟩/\∀i,i<n->∀j,j<f->∃z,h b (o+i*f+j) z/\g i j z)
def Cell.rep(a:Rd):Cell->Value->Prop
 | .v x,u=>u=x/\x.oneCell'=true
 | .list _ ec c xs,u=>SliceAt a ec xs.length (fun i j z=>∃h:i<xs.length,(c xs[i] j).rep a z) u
theorem SliceAt.mono{s d:Rd}{ec n:Nat}{m c:Nat->Nat->Value->Prop}{u:Value}(y:∀b i z,s b i z->d b i z)(x:∀i j z,i<n->j<ec->m i j z->c i j z)
  (h:SliceAt s ec n m u):SliceAt d ec n c u:=by
 obtain⟨a,e,t,v,w,f⟩:=h;refine⟨a,e,t,v,w,?_⟩;rcases f with f | ⟨b,o,ha,hc⟩
 ·exact .inl f
 ·refine .inr ⟨b,o,ha,fun i p j q=>?_⟩;obtain⟨z,g,k⟩:=hc i p j q;exact⟨z,y _ _ _ g,x _ _ _ p q k⟩
theorem Cell.rep_mono{d a:Rd}(f:∀b i z,d b i z->a b i z):∀(c:Cell) (u:Value),c.rep d u->c.rep a u:=by
 intro c;induction c with
 | v x=>intro u h;exact h
 | list α ec c xs k =>
  intro u h;simp only[Cell.rep]at h ⊢;exact h.mono f fun i j z _ _ ⟨e,g⟩=>⟨e,k _ _ _ g⟩
theorem Cell.rep_one{d:Rd}:∀{c:Cell} {u:Value},c.rep d u->u.oneCell'=true
 | .v x,u,h=>by obtain⟨rfl,h⟩:=h;exact h
 | .list _ _ _ _,u,h=>by simp only[Cell.rep]at h;obtain⟨a,b,rfl,_⟩:=h;rfl
inductive PV:Type 1 where
 | one (c:Cell)
 | agg (cs:List Cell)
def PV.rep(b:Rd):PV->Value->Prop
 | .one c,u=>c.rep b u
 | .agg cs,u=>∃d,u=.agg (List.toArray d)/\All2 (Cell.rep b) cs d
theorem PV.rep_mono{j d:Rd}(f:∀b i z,j b i z->d b i z):∀{c:PV} {u:Value},c.rep j u->c.rep d u
 | .one c,u,h=>Cell.rep_mono f c u h
 | .agg cs,u,⟨vs,h1,h2⟩=>⟨vs,h1,h2.mono fun _ _=>Cell.rep_mono f _ _⟩
inductive TC:Type 1 where
 | p (c:Cell)
 | buf (k:Nat) (α:Type) (ec:Nat) (c:α->Nat->Cell) (xs:List α)
 | ref (k off:Nat)
 | eref (α:Type) (ec:Nat) (c:α->Nat->Cell) (x:α) (off:Nat)
 | mut (k:Nat)
 | mref (k ec i off:Nat)
 | any
 | clo (f:Nat) (nf nc:List (Nat×Nat))
 | msl (k ec off n:Nat)
 | full (α:Type) (ec:Nat) (c:α->Nat->Cell) (xs:List α)
 | ifc (t k off:Nat)
 | fnc (f:Nat) (cs:List Cell)
 | fncE (f:Nat) (α:Type) (ec:Nat) (c:α->Nat->Cell) (x:α)
abbrev Gh:=Nat->Value
def wR(G:Gh)(p:Nat×Nat)(u:Value):Prop:=∃b,G p.1=.pointer (some ⟨b,0,none⟩)/\u=.pointer (some ⟨b,p.2,none⟩)
def jA(k:Nat)(l:List (Nat×Nat)):Bool:=l.any fun p=>Nat.beq p.1 k
theorem lH{G G':Gh}{k:Nat}(d:∀j,j≠k->G' j=G j):∀{l:List (Nat×Nat)} {c:List Value},jA k l=false->All2 (wR G) l c->All2 (wR G') l c
 | [],[],_,_=>trivial
 | [],_::_,_,h=>h.elim
 | _::_,[],_,h=>h.elim
 | p::l,u::c,hk,h=>by
  unfold jA at hk;simp only[List.any_cons,C87]at hk;obtain⟨⟨b,f,g⟩,i⟩:=h;have a:p.1≠k:=fun e=>by rw[e,Nat.beq_refl]at hk;cases hk.1
  exact⟨⟨b,by rw[d _ a];exact f,g⟩,lH d hk.2 i⟩
def TC.rep(g:Rd)(G:Gh):TC->Value->Prop
 | .p c,u=>c.rep g u
 | .buf k α ec c xs,u=>u=G k/\(Cell.list α ec c xs).rep g u
 | .ref k off,u=>∃b,G k=.pointer (some ⟨b,0,none⟩)/\u=.pointer (some ⟨b,off,none⟩)
 | .eref _ ec c x off,u=>∃b o,u=.pointer (some ⟨b,o+off,none⟩)/\∀j,j<ec->∃z,g b (o+j) z/\(c x j).rep g z
 | .mut k,u=>u=G k/\u.oneCell'=true
 | .mref k ec i off,u=>∃b n h,G k=.slice (some ⟨b,0,none⟩) n h/\u=.pointer (some ⟨b,i*ec+off,none⟩)
 | .any,u=>u.oneCell'=true
 | .clo f nf nc,u=>∃q v,u=.func (.func f) (List.toArray q) (List.toArray v)/\All2 (wR G) nf q/\All2 (wR G) nc v
 | .msl k ec off n,u=>∃b m h d o',G k=.slice (some ⟨b,0,none⟩) m h/\off+n<=m/\u=.slice (some ⟨b,o',none⟩) n d/\n<=d/\m<4611686018427387904/\(n=0\/o'=off*ec)
 | .full α ec c xs,u=>(Cell.list α ec c xs).rep g u/\∃a,u=.slice a xs.length xs.length
 | .ifc t k off,u=>∃b,G k=.pointer (some ⟨b,0,none⟩)/\u=.iface t (.pointer (some ⟨b,off,none⟩))
 | .fnc f cs,u=>∃q,u=.func (.func f) (List.toArray q) #[]/\All2 (Cell.rep g) cs q
 | .fncE f _ ec c x,u=>∃b o,u=.func (.func f) #[] #[.pointer (some ⟨b,o,none⟩)]/\∀j,j<ec->∃z,g b (o+j) z/\(c x j).rep g z
theorem TC.rep_mono{w g:Rd}{G:Gh}(d:∀b i z,w b i z->g b i z):∀{c:TC} {u:Value},c.rep w G u->c.rep g G u
 | .p c,u,h=>Cell.rep_mono d c u h
 | .buf _ _ _ _ _,u,⟨h1,h2⟩=>⟨h1,Cell.rep_mono d _ u h2⟩
 | .ref _ _,u,h=>h
 | .eref _ _ _ _ _,u,⟨b,o,h1,h2⟩=>⟨b,o,h1,fun j v=>let ⟨z,k,q⟩:=h2 j v;⟨z,d _ _ _ k,Cell.rep_mono d _ _ q⟩⟩
 | .mut _,u,h=>h
 | .mref _ _ _ _,u,h=>h
 | .any,u,h=>h
 | .clo _ _ _,_,h=>h
 | .msl _ _ _ _,_,h=>h
 | .full _ _ _ _,u,⟨h1,h2⟩=>⟨Cell.rep_mono d _ u h1,h2⟩
 | .ifc _ _ _,_,h=>h
 | .fnc _ _,_,⟨vs,h1,h2⟩=>⟨vs,h1,h2.mono fun _ _=>Cell.rep_mono d _ _⟩
 | .fncE _ _ _ _ _,_,⟨b,o,h1,h2⟩=>⟨b,o,h1,fun j v=>let ⟨z,k,q⟩:=h2 j v;⟨z,d _ _ _ k,Cell.rep_mono d _ _ q⟩⟩
theorem TC.rep_one{j:Rd}{G:Gh}:∀{c:TC} {u:Value},c.rep j G u->u.oneCell'=true
 | .p c,u,h=>Cell.rep_one h
 | .buf _ _ _ _ _,u,⟨_,h2⟩=>Cell.rep_one h2
 | .ref _ _,u,h=>by obtain⟨b,_,rfl⟩:=h;rfl
 | .eref _ _ _ _ _,u,h=>by obtain⟨b,o,rfl,_⟩:=h;rfl
 | .mut _,u,h=>h.2
 | .mref _ _ _ _,u,h=>by obtain⟨b,n,d,_,rfl⟩:=h;rfl
 | .any,u,h=>h
 | .clo _ _ _,_,h=>by obtain⟨k,v,rfl,_⟩:=h;rfl
 | .msl _ _ _ _,_,h=>by obtain⟨b,m,d,g,q,_,_,rfl,_⟩:=h;rfl
 | .full _ _ _ _,u,⟨h1,_⟩=>Cell.rep_one h1
 | .ifc _ _ _,_,h=>by obtain⟨b,_,rfl⟩:=h;rfl
 | .fnc _ _,_,h=>by obtain⟨k,rfl,_⟩:=h;rfl
 | .fncE _ _ _ _ _,_,h=>by obtain⟨b,o,rfl,_⟩:=h;rfl
def TC.forget(k:Nat):TC->TC
 | .buf d α g c xs=>cond (Nat.beq d k) (.p (.list α g c xs)) (.buf d α g c xs)
 | .ref d off=>cond (Nat.beq d k) .any (.ref d off)
 | .mut d=>cond (Nat.beq d k) .any (.mut d)
 | .mref d g i off=>cond (Nat.beq d k) .any (.mref d g i off)
 | .clo f j h=>cond (jA k j||jA k h) .any (.clo f j h)
 | .msl d g off n=>cond (Nat.beq d k) .any (.msl d g off n)
 | .ifc t d off=>cond (Nat.beq d k) .any (.ifc t d off)
 | t=>t
def TC.pure?:TC->Option Cell
 | .p c=>some c
 | .buf _ α a c d=>some (.list α a c d)
 | .full α a c d=>some (.list α a c d)
 | _=>none
theorem C05{b:Rd}{G:Gh}{t:TC}{c:Cell}{u:Value}(h:t.pure?=some c)(a:t.rep b G u):c.rep b u:=by
 cases t<;>simp only[TC.pure?,Option.some.injEq,reduceCtorEq]at h
 ·subst h;exact a
 ·subst h;exact a.2
 ·subst h;exact a.1
theorem TC.rep_forget{q:Rd}{G G':Gh}{k:Nat}(g:∀j,j≠k->G' j=G j):∀{t:TC} {u:Value},t.rep q G u->(t.forget k).rep q G' u
 | .p c,u,h=>h
 | .buf k' α ec c xs,u,h=>by
  simp only[TC.forget];cases hb:Nat.beq k' k
  ·have d:k'≠k:=fun e=>by simp[e]at hb
   simp only[cond];exact⟨by rw[g _ d];exact h.1,h.2⟩
  ·simp only[cond];exact h.2
 | .ref k' off,u,h=>by
  simp only[TC.forget];cases hb:Nat.beq k' k
  ·have d:k'≠k:=fun e=>by simp[e]at hb
   simp only[cond,TC.rep];rw[g _ d];exact h
  ·simp only[cond];exact TC.rep_one (c:=.ref k' off) h
 | .eref _ _ _ _ _,u,h=>h
 | .mut k',u,h=>by
  simp only[TC.forget];cases hb:Nat.beq k' k
  ·have d:k'≠k:=fun e=>by simp[e]at hb
   simp only[cond,TC.rep];rw[g _ d];exact h
  ·simp only[cond];exact h.2
 | .mref k' ec i off,u,h=>by
  simp only[TC.forget];cases hb:Nat.beq k' k
  ·have d:k'≠k:=fun e=>by simp[e]at hb
   simp only[cond,TC.rep];rw[g _ d];exact h
  ·simp only[cond];exact TC.rep_one (c:=.mref k' ec i off) h
 | .any,u,h=>h
 | .clo f nf nc,u,h=>by
  simp only[TC.forget];cases hb:jA k nf||jA k nc
  ·simp only[cond];rw[C87]at hb;obtain⟨z,A,v,w,x⟩:=h;exact⟨z,A,v,lH g hb.1 w,lH g hb.2 x⟩
  ·simp only[cond];exact TC.rep_one (c:=.clo f nf nc) h
 | .msl k' ec off n,u,h=>by
  simp only[TC.forget];cases hb:Nat.beq k' k
  ·have d:k'≠k:=fun e=>by simp[e]at hb
   simp only[cond,TC.rep];rw[g _ d];exact h
  ·simp only[cond];exact TC.rep_one (c:=.msl k' ec off n) h
 | .full _ _ _ _,_,h=>h
 | .ifc t k' off,u,h=>by
  simp only[TC.forget];cases hb:Nat.beq k' k
  ·have d:k'≠k:=fun e=>by simp[e]at hb
   simp only[cond,TC.rep];rw[g _ d];exact h
  ·simp only[cond];exact TC.rep_one (c:=.ifc t k' off) h
 | .fnc _ _,_,h=>h
 | .fncE _ _ _ _ _,_,h=>h
inductive S1:Type 1 where
 | one (t:TC)
 | agg (ts:List TC)
inductive SV:Type 1 where
 | s (x:S1)
 | tup (xs:List S1)
 | any
 | un
def S1.rep(b:Rd)(G:Gh):S1->Value->Prop
 | .one t,u=>t.rep b G u
 | .agg ts,u=>∃c,u=.agg (List.toArray c)/\All2 (TC.rep b G) ts c
def SV.rep(b:Rd)(G:Gh):SV->Value->Prop
 | .s x,u=>x.rep b G u
 | .tup xs,u=>∃c,u=.tuple (List.toArray c)/\All2 (S1.rep b G) xs c
 | .any,_=>True
 | .un,u=>u=undef
theorem S1.rep_mono{j d:Rd}{G:Gh}(f:∀b i z,j b i z->d b i z):∀{c:S1} {u:Value},c.rep j G u->c.rep d G u
 | .one t,u,h=>TC.rep_mono (c:=t) f h
 | .agg ts,u,⟨vs,h1,h2⟩=>⟨vs,h1,h2.mono fun _ _=>TC.rep_mono f⟩
theorem SV.rep_mono{f d:Rd}{G:Gh}(e:∀b i z,f b i z->d b i z):∀{c:SV} {u:Value},c.rep f G u->c.rep d G u
 | .s t,u,h=>S1.rep_mono (c:=t) e h
 | .tup ts,u,⟨vs,h1,h2⟩=>⟨vs,h1,h2.mono fun _ _=>S1.rep_mono e⟩
 | .any,_,_=>trivial
 | .un,_,h=>h
def S1.forget(k:Nat):S1->S1
 | .one t=>.one (t.forget k)
 | .agg b=>.agg (b.map (TC.forget k))
def SV.forget(k:Nat):SV->SV
 | .s x=>.s (x.forget k)
 | .tup xs=>.tup (xs.map (S1.forget k))
 | .any=>.any
 | .un=>.un
theorem S1.rep_forget{c:Rd}{G G':Gh}{k:Nat}(b:∀j,j≠k->G' j=G j):∀{t:S1} {u:Value},t.rep c G u->(t.forget k).rep c G' u
 | .one t,u,h=>TC.rep_forget (t:=t) b h
 | .agg ts,u,⟨vs,h1,h2⟩=>⟨vs,h1,h2.map (TC.forget k) fun _ _=>TC.rep_forget b⟩
theorem SV.rep_forget{c:Rd}{G G':Gh}{k:Nat}(b:∀j,j≠k->G' j=G j):∀{t:SV} {u:Value},t.rep c G u->(t.forget k).rep c G' u
 | .s t,u,h=>S1.rep_forget (t:=t) b h
 | .tup ts,u,⟨vs,h1,h2⟩=>⟨vs,h1,h2.map (S1.forget k) fun _ _=>S1.rep_forget b⟩
 | .any,_,_=>trivial
 | .un,_,h=>h
def S1.pure?:S1->Option PV
 | .one t=>t.pure?.map .one
 | .agg b=>(b.mapM TC.pure?).map .agg
inductive Ob:Type 1 where
 | box (ts:List TC)
 | tbx (e:TypeId) (ts:List TC)
 | arr (α:Type) (ec:Nat) (c:α->Nat->Cell) (xs:List α)
 | spare (n ec:Nat) (e:TypeId)
 | tarr (n ec:Nat) (ts:List TC)
 | grow (e:TypeId) (α:Type) (ec:Nat) (c:α->Nat->Cell) (xs:List α)
 | map (κ:Type) (kf:κ->Value) (kvs:List (κ×Cell))
 | growA (e:TypeId) (α:Type) (ec:Nat) (c:α->Nat->Cell) (xs:List α) (p:Nat) (ts:List TC)
 | growT (e:TypeId) (n ec:Nat) (ts:List TC)
def Ob.forget(k:Nat):Ob->Ob
 | .box d=>.box (d.map (TC.forget k))
 | .tbx e d=>.tbx e (d.map (TC.forget k))
 | .tarr n f d=>.tarr n f (d.map (TC.forget k))
 | .growA e α f c xs p d=>.growA e α f c xs p (d.map (TC.forget k))
 | .growT e n f d=>.growT e n f (d.map (TC.forget k))
 | o=>o
abbrev Fr:=List (Nat×SV)
abbrev Obs:=List (Nat×Ob)
def D4:Fr->Nat->Option SV
 | [],_=>none
 | (i,s)::r,k=>cond (Nat.beq i k) (some s) (D4 r k)
def B4:Obs->Nat->Option Ob
 | [],_=>none
 | (i,s)::r,k=>cond (Nat.beq i k) (some s) (B4 r k)
def Fr.forget(k:Nat)(fr:Fr):Fr:=fr.map fun x=>(x.1,x.2.forget k)
def Obs.forget(k:Nat)(ob:Obs):Obs:=ob.map fun x=>(x.1,x.2.forget k)
def Obs.drop(k:Nat):Obs->Obs
 | []=>[]
 | (i,s)::r=>cond (Nat.beq i k) (Obs.drop k r) ((i,s)::Obs.drop k r)
theorem C7(i:Nat)(s:SV)(r:Fr):D4 ((i,s)::r) i=some s:=by simp[D4]
theorem B9{i k:Nat}(h:i≠k)(s:SV)(r:Fr):D4 ((i,s)::r) k=D4 r k:=by
 have:Nat.beq i k=false:=I9 h;simp[D4,this]
theorem C4(i:Nat)(s:Ob)(r:Obs):B4 ((i,s)::r) i=some s:=by simp[B4]
theorem B0{i k:Nat}(h:i≠k)(s:Ob)(r:Obs):B4 ((i,s)::r) k=B4 r k:=by
 have:Nat.beq i k=false:=I9 h;simp[B4,this]
theorem P1(k:Nat):∀(fr:Fr) (i:Nat),D4 (Fr.forget k fr) i=(D4 fr i).map (SV.forget k)
 | [],i=>rfl
 | (j,s)::r,i=>by
  by_cases h:j=i
  ·subst h;simp[Fr.forget,D4]
  ·have b:=P1 k r i;simp only[Fr.forget,C39]at b ⊢;rw[B9 h,B9 h,b]
theorem M1(k:Nat):∀(ob:Obs) (i:Nat),B4 (Obs.forget k ob) i=(B4 ob i).map (Ob.forget k)
 | [],i=>rfl
 | (j,s)::r,i=>by
  by_cases h:j=i
  ·subst h;simp[Obs.forget,B4]
  ·have b:=M1 k r i;simp only[Obs.forget,C39]at b ⊢;rw[B0 h,B0 h,b]
theorem O4(k:Nat):∀(ob:Obs),B4 (Obs.drop k ob) k=none
 | []=>rfl
 | (j,s)::r=>by
  by_cases h:j=k
  ·subst h;simp[Obs.drop,O4 j r]
  ·have:Nat.beq j k=false:=I9 h;simp only[Obs.drop,this,cond];rw[B0 h,O4 k r]
theorem M4{k i:Nat}(b:i≠k):∀(ob:Obs),B4 (Obs.drop k ob) i=B4 ob i
 | []=>rfl
 | (j,s)::r=>by
  by_cases h:j=k
  ·subst h;simp only[Obs.drop,Nat.beq_refl,cond];rw[B0 (Ne.symm b),M4 b r]
  ·have:Nat.beq j k=false:=I9 h;simp only[Obs.drop,this,cond];by_cases a:j=i
   ·subst a;simp[B4]
   ·rw[B0 a,B0 a,M4 b r]
end
open Go Go.RowKit
section
def blk:Value->Option Nat
 | .pointer (some a)=>some a.block
 | .slice (some a) _ _=>some a.block
 | .map (some r)=>some r
 | _=>none
def Own(u:Value)(o:Ob)(b i:Nat):Prop :=
 blk u=some b/\match o with
  | .spare n c _=>n*c<=i
  | _=>True
structure Ctx where
 w0:World
 M0:Nat->Nat->Prop
 io:Nat->Prop
 nt:Nat
 pin:Nat->Value
 gv:Nat->Value
 df:List Deferred:=[]
def Ctx.sl(S:Ctx)(a:Act)(i:Nat):Value:=cond (Nat.blt i 1000000) (a.tmps.getD i undef) (S.gv i)
theorem Ctx.sl_lt{S:Ctx}{a:Act}{i:Nat}(h:i<1000000):S.sl a i=a.tmps.getD i undef:=by
 have:Nat.blt i 1000000=true:=by simpa using h
 simp[Ctx.sl,this]
theorem Ctx.sl_ge{S:Ctx}{a:Act}{i:Nat}(h:1000000<=i):S.sl a i=S.gv i:=by
 have:Nat.blt i 1000000=false:=by
  cases hb:Nat.blt i 1000000
  ·rfl
  ·rw[Nat.blt_eq]at hb;omega
 simp[Ctx.sl,this]
abbrev Ctx.B(S:Ctx):Nat:=S.w0.heap.size
def Mut(S:Ctx)(ob:Obs)(G:Gh)(b i:Nat):Prop:=S.M0 b i\/∃k o,B4 ob k=some o/\Own (G k) o b i
def D9(M:Nat->Nat->Prop)(w:World):Rd:=fun b i z=>w.cell? ⟨b,i,none⟩=some z/\¬M b i
def YA(P:Program)(w:World):Prop:=∀g,P.globalNamed "internal/strconv.uint64pow10"=some g->Lib.TabIs P w "internal/strconv.uint64pow10" .u64 Lib.pow10Tab
def Grd(P:Program)(b:Nat->Prop)(w:World):Prop :=
 ∃a:World,(a.ShapedOpen P/\YA P a)/\a.heap.size<=w.heap.size/\∀k,k<a.heap.size->w.heap[k]?=a.heap[k]?/\¬b k
def ObOk(S:Ctx)(y:Rd)(G:Gh)(w:World)(u:Value):Ob->Prop
 | .box v=>∃b d t,u=.pointer (some ⟨b,0,none⟩)/\w.heap[b]?=some (.cells (List.toArray d) t (0,0))/\All2 (TC.rep y G) v d
 | .tbx e v=>∃b d,u=.pointer (some ⟨b,0,none⟩)/\w.heap[b]?=some (.cells (List.toArray d) e (0,0))/\All2 (TC.rep y G) v d
 | .arr α f c q=>∃b d t,u=.slice (some ⟨b,0,none⟩) q.length q.length/\q.length<4611686018427387904/\w.heap[b]?=some (.cells d t (0,0))/\d.size=q.length*f /\
   ∀i (h:i<q.length) j,j<f->∃z,d[i*f+j]?=some z/\(c q[i] j).rep y z
 | .spare n f e=>∃d,w.ownsRow S.B e f u n d
 | .tarr n f v=>∃b d t,u=.slice (some ⟨b,0,none⟩) n n/\n<4611686018427387904/\w.heap[b]?=some (.cells (List.toArray d) t (0,0))/\v.length=n*f/\All2 (TC.rep y G) v d
 | .grow e α f c q=>∃d,w.ownsRow S.B e f u q.length d/\q.length<4611686018427387904/\∀i (h:i<q.length) j,j<f->∃z,d[i*f+j]?=some z/\(c q[i] j).rep y z
 | .map κ H D=>∃r E C,u=.map (some r)/\w.heap[r]?=some (.map E C)/\All2 (fun (F:κ×Cell) (e:MapEntry)=>e.key=H F.1/\F.2.rep y e.val) D E.toList
 | .growA e α f c q p v=>∃d,w.ownsRow S.B e f u q.length d/\q.length<4611686018427387904/\p<q.length/\v.length=f/\(∀i (h:i<q.length),i≠p->∀j,j<f->∃z,d[i*f+j]?=some z/\(c q[i] j).rep y z) /\
   All2 (TC.rep y G) v ((d.drop (p*f)).take f)
 | .growT e n f v=>∃d,w.ownsRow S.B e f u n d/\n<4611686018427387904/\v.length=n*f/\All2 (TC.rep y G) v d
structure Sim (P:Program) (S:Ctx) (fr:Fr) (ob:Obs) (G:Gh) (a:Act) (w:World):Prop where
 nt:a.tmps.size=S.nt
 ntb:S.nt<=1000000
 defers:a.defers=S.df
 os:w.os=S.w0.os
 tape:w.tape=S.w0.tape
 output:w.output=S.w0.output
 size:S.B<=w.heap.size
 keep:∀k,k<S.B->¬S.io k->w.heap[k]?=S.w0.heap[k]?
 m0:∀b i,S.M0 b i->b<S.B
 m0io:∀b i,S.M0 b i->¬S.io b
 grd:Grd P S.io S.w0
 pin:∀k,1000000<=k->G k=S.pin k
 old:∀k o b,B4 ob k=some o->blk (G k)=some b->S.B<=b\/(S.io b/\1000000<=k)
 dis:∀k k' o o' b,B4 ob k=some o->B4 ob k'=some o'->blk (G k)=some b->blk (G k')=some b->k=k'
 obs:∀k o,B4 ob k=some o->ObOk S (D9 (Mut S ob G) w) G w (G k) o
 facts:∀i s,D4 fr i=some s->s.rep (D9 (Mut S ob G) w) G (S.sl a i)
def cW(fr:Fr)(t:Nat):Option SV:=cond (Nat.blt t 1000000) (D4 fr t) none
theorem GI{fr:Fr}{t:Nat}{s:SV}(h:cW fr t=some s):t<1000000/\D4 fr t=some s:=by
 unfold cW at h;cases hb:Nat.blt t 1000000
 ·rw[hb]at h;cases h
 ·rw[hb]at h;exact⟨by simpa using hb,h⟩
theorem Sim.slot{P:Program}{S:Ctx}{fr:Fr}{ob:Obs}{G:Gh}{a:Act}{w:World}(h:Sim P S fr ob G a w){t:Nat}{s:SV}(ht:cW fr t=some s):s.rep (D9 (Mut S ob G) w) G (a.tmps.getD t undef):=by
 obtain⟨b,c⟩:=GI ht;have:=h.facts t s c
 rwa[Ctx.sl_lt b]at this
theorem Sim.fact{P:Program}{S:Ctx}{fr:Fr}{ob:Obs}{G:Gh}{a:Act}{w:World}(h:Sim P S fr ob G a w){t:Nat}{s:SV}(b:t<S.nt)(c:D4 fr t=some s):s.rep (D9 (Mut S ob G) w) G (a.tmps.getD t undef):=by
 have:=h.facts t s c
 rwa[Ctx.sl_lt (by have:=h.ntb;omega)]at this
abbrev Post:=Exit->Fr->Obs->Prop
def Idle(P:Program)(c b:List Deferred)(w w':World):Prop :=
 ∀(fn:Func) (a:Array Value) (R:Ending->World->Prop),LeavesInM Fence.wide 0 P fn a R b .returning w'->LeavesInM Fence.wide 0 P fn a R c .returning w
def SimX(P:Program)(S:Ctx)(e:Exit)(fr:Fr)(ob:Obs)(G:Gh)(a:Act)(w:World):Prop:=Sim P S fr ob G a w\/(e=.ret/\∃b w',Sim P { S with df:=b } fr ob G a w'/\Idle P b S.df w w')
def PostOf(P:Program)(S:Ctx)(Q:Post)(e:Exit)(a:Act)(w:World):Prop:=∃fr ob G,Q e fr ob/\SimX P S e fr ob G a w
def WpC(P:Program)(nt:Nat)(c:Code)(fr:Fr)(ob:Obs)(Q:Post):Prop :=
 ∀S G a w,S.nt=nt->Sim P S fr ob G a w->c.wp P (PostOf P S Q) a w
def WpL(P:Program)(nt:Nat)(ops:Array Oper)(rest:List Oper)(fr:Fr)(ob:Obs)(Q:Post):Prop :=
 ∀S G a w,S.nt=nt->Sim P S fr ob G a w->wpList P ops (PostOf P S Q) rest a w
section control
variable {P:Program}{nt:Nat}{fr:Fr}{ob:Obs}{Q:Post}
theorem PostOf.mono{S:Ctx}{Q Q':Post}(h:∀e fr ob,Q e fr ob->Q' e fr ob){e:Exit}{a:Act}{w:World}(d:PostOf P S Q e a w):PostOf P S Q' e a w :=
 let ⟨fr,ob,G,b,c⟩:=d;⟨fr,ob,G,h _ _ _ b,c⟩
theorem WpC.mono{c:Code}{Q':Post}(h:WpC P nt c fr ob Q)(f:∀e fr ob,Q e fr ob->Q' e fr ob):WpC P nt c fr ob Q' :=
 fun S G a w b hs=>wp_mono (h S G a w b hs) fun _ _ _ d=>d.mono f
def iC(next:Fr->Obs->Prop)(Q:Post):Post
 | .normal,fr,ob=>next fr ob
 | e,fr,ob=>Q e fr ob
def l6(id:Nat)(Q:Post):Post
 | .exit id',fr,ob=>cond (Nat.beq id' id) (Q .normal fr ob) (Q (.exit id') fr ob)
 | e,fr,ob=>Q e fr ob
theorem TR(h:Q .normal fr ob):WpC P nt .skip fr ob Q:=fun _ G _ _ _ hs=>wp_skip ⟨fr,ob,G,h,.inl hs⟩
theorem c_exit{id:Nat}(h:Q (.exit id) fr ob):WpC P nt (.exit id) fr ob Q:=fun _ G _ _ _ hs=>wp_exit ⟨fr,ob,G,h,.inl hs⟩
theorem c_ret(h:Q .ret fr ob):WpC P nt .ret fr ob Q:=fun _ G _ _ _ hs=>wp_ret ⟨fr,ob,G,h,.inl hs⟩
theorem c_seq{x y:Code}(h:WpC P nt x fr ob (iC (fun fr ob=>WpC P nt y fr ob Q) Q)):WpC P nt (.seq x y) fr ob Q:=by
 intro S G a w c hs;refine wp_seq (wp_mono (h S G a w c hs) ?_);rintro e f w' ⟨fr',ob',G',d,b⟩;cases e with
 | normal=>exact d S G' f w' c (b.resolve_right fun h=>nomatch h.1)
 | _=>exact⟨fr',ob',G',d,b⟩
theorem YB{id:Nat}{c:Code}(h:WpC P nt c fr ob (l6 id Q)):WpC P nt (.block id c) fr ob Q:=by
 intro S G a w j hs;refine wp_block (wp_mono (h S G a w j hs) ?_);rintro e m w' ⟨fr',ob',G',g,f⟩;cases e with
 | exit id' =>
  simp only[Exit.inBlock];simp only[l6]at g;by_cases d:id'=id
  ·subst d;simp only[Nat.beq_refl,cond]at g;rw[A5 rfl];exact⟨fr',ob',G',g,.inl (f.resolve_right fun h=>nomatch h.1)⟩
  ·have hb:Nat.beq id' id=false:=I9 d;rw[hb]at g;rw[A6 d];exact⟨fr',ob',G',g,f⟩
 | _=>exact⟨fr',ob',G',g,f⟩
theorem c_cond{t:Tmp}{x y:Code}{b:Bool}(j:cW fr t=some (.s (.one (.p (.v (.bool b))))))(h:b=true->WpC P nt x fr ob Q)(i:b=false->WpC P nt y fr ob Q) :
  WpC P nt (.cond (.tmp t) x y) fr ob Q:=by
 intro S G a w g hs;have f:=hs.slot j;obtain⟨f,_⟩:=f;refine wp_cond_split (c:=.tmp t) (t:=b) f (fun hb=>h hb S G a w g hs) (fun hb=>i hb S G a w g hs)
theorem B7{id:Nat}{l:List Oper}(h:WpL P nt l.toArray l fr ob Q):WpC P nt (.region id l.toArray false) fr ob Q :=
 fun S G a w b hs=>wp_region_lit (h S G a w b hs)
theorem E4{ops:Array Oper}(h:Q .normal fr ob):WpL P nt ops [] fr ob Q:=fun _ G _ _ _ hs=>wpList_nil ⟨fr,ob,G,h,.inl hs⟩
theorem c_loop{c:Code}{X:Type 1}(E:X->Fr×Obs)(I:X->Prop)(m:X->Nat)(C:X)(U:I C)
  (start:∀S G a w,S.nt=nt->Sim P S fr ob G a w->∃G',Sim P S (E C).1 (E C).2 G' a w)
  (round:∀x,I x->WpC P nt c (E x).1 (E x).2 (iC (fun fr' ob'=>∃y,I y/\m y<m x/\∀S G a w,S.nt=nt->Sim P S fr' ob' G a w->∃G',Sim P S (E y).1 (E y).2 G' a w) Q)) :
  WpC P nt (.loop c) fr ob Q:=by
 intro S G a w J hs;obtain⟨G0,M⟩:=start S G a w J hs;intro b k D
 have O:∀n x a w G,m x=n->I x->Sim P S (E x).1 (E x).2 G a w ->
   ∃e B w',PostOf P S Q e B w'/\Arrives P (lone (b.at a (.code c::.inLoop c::k)) D w) b k D e B w':=by
  intro n;induction n using Nat.strongRecOn with
  | _ n Y =>
   intro x a w G W V N;obtain⟨e,r,v,q,g⟩:=round x V S G a w J N b (.inLoop c::k) D;obtain⟨fr',ob',G',q,j⟩:=q;cases e with
   | normal =>
    obtain⟨y,F,H,A⟩:=q;obtain⟨G'',z⟩:=A S G' r v J (j.resolve_right fun h=>nomatch h.1);obtain⟨T,R,Z,K,u⟩:=Y (m y) (W ▸ H) y r v G'' rfl F z;exact⟨T,R,Z,K,.of_steps (Steps.trans g (.one step_inLoop)) u⟩
   | exit id=>exact⟨_,r,v,⟨fr',ob',G',q,j⟩,.pass (x:=.inLoop c) rfl (fun _ _=>.inl (by simp)) g⟩
   | goto l=>exact⟨_,r,v,⟨fr',ob',G',q,j⟩,.pass (x:=.inLoop c) rfl (fun _ _=>.inl (by simp)) g⟩
   | ret=>exact⟨_,r,v,⟨fr',ob',G',q,j⟩,.pass (x:=.inLoop c) rfl (fun _ _=>.inl (by simp)) g⟩
   | panic ch=>exact⟨_,r,v,⟨fr',ob',G',q,j⟩,.pass (x:=.inLoop c) rfl (fun _ _=>.inl (by simp)) g⟩
   | outgrown=>exact⟨_,r,v,⟨fr',ob',G',q,j⟩,.pass (x:=.inLoop c) rfl (fun _ _=>.inl (by simp)) g⟩
 obtain⟨e,B,w',q,g⟩:=O _ C a w G0 rfl U M;exact⟨e,B,w',q,.of_steps (.one step_loop) g⟩
end control
end
section
section sim
variable {P:Program}{S:Ctx}{fr:Fr}{ob:Obs}{G:Gh}{a:Act}{w w':World}
theorem ObOk.blk_lt{m:Rd}{u:Value}{o:Ob}(h:ObOk S m G w u o):∀b,blk u=some b->b<w.heap.size:=by
 intro b hb;cases o with
 | box i=>obtain⟨j,d,t,rfl,a,_⟩:=h;simp[blk]at hb;subst hb;exact (Array.getElem?_eq_some_iff.1 a).1
 | tbx e i=>obtain⟨j,d,rfl,a,_⟩:=h;simp[blk]at hb;subst hb;exact (Array.getElem?_eq_some_iff.1 a).1
 | arr α f c xs=>obtain⟨j,d,t,rfl,_,a,_⟩:=h;simp[blk]at hb;subst hb;exact (Array.getElem?_eq_some_iff.1 a).1
 | tarr n f i=>obtain⟨j,d,t,rfl,_,a,_⟩:=h;simp[blk]at hb;subst hb;exact (Array.getElem?_eq_some_iff.1 a).1
 | grow e α f c xs =>
  obtain⟨d,h,_⟩:=h;rcases h.2 with ⟨rfl,_⟩ | ⟨g,cap,cur,rfl,_,hg,_⟩
  ·simp[blk]at hb
  ·simp[blk]at hb;subst hb;exact (Array.getElem?_eq_some_iff.1 hg).1
 | map κ s l=>obtain⟨r,q,k,rfl,a,_⟩:=h;simp[blk]at hb;subst hb;exact (Array.getElem?_eq_some_iff.1 a).1
 | growA e α f c xs p i =>
  obtain⟨d,h,_⟩:=h;rcases h.2 with ⟨rfl,_⟩ | ⟨g,cap,cur,rfl,_,hg,_⟩
  ·simp[blk]at hb
  ·simp[blk]at hb;subst hb;exact (Array.getElem?_eq_some_iff.1 hg).1
 | growT e n f i =>
  obtain⟨d,h,_⟩:=h;rcases h.2 with ⟨rfl,_⟩ | ⟨g,cap,cur,rfl,_,hg,_⟩
  ·simp[blk]at hb
  ·simp[blk]at hb;subst hb;exact (Array.getElem?_eq_some_iff.1 hg).1
 | spare n f e =>
  obtain⟨d,h⟩:=h;rcases h.2 with ⟨rfl,_⟩ | ⟨g,cap,cur,rfl,_,hg,_⟩
  ·simp[blk]at hb
  ·simp[blk]at hb;subst hb;exact (Array.getElem?_eq_some_iff.1 hg).1
theorem Sim.mut_lt(h:Sim P S fr ob G a w){b i:Nat}(c:Mut S ob G b i):b<w.heap.size:=by
 rcases c with c | ⟨k,o,hk,hb,_⟩
 ·exact Nat.lt_of_lt_of_le (h.m0 _ _ c) h.size
 ·exact (h.obs k o hk).blk_lt b hb
theorem zW{w w':World}(h:Below w.heap.size w w'){b i:Nat}{z:Value}(c:w.cell? ⟨b,i,none⟩=some z):w'.cell? ⟨b,i,none⟩=some z:=by
 have a:b<w.heap.size:=World.block_lt_of_cell? w _ c;rw[h.cell (p:=⟨b,i,none⟩) a];exact c
theorem u6{M:Nat->Nat->Prop}(a:Below w.heap.size w w'){b i:Nat}{z:Value}(h:D9 M w b i z):D9 M w' b i z:=⟨zW a h.1,h.2⟩
theorem ObOk.ext{K D:Rd}{u:Value}{o:Ob}(q:∀b i z,K b i z->D b i z)(a:Below w.heap.size w w')(h:ObOk S K G w u o):ObOk S D G w' u o:=by
 cases o with
 | box E =>
  obtain⟨g,d,t,rfl,f,ha⟩:=h;exact⟨g,d,t,rfl,by rw[a.block g (Array.getElem?_eq_some_iff.1 f).1];exact f,ha.mono fun _ _=>TC.rep_mono q⟩
 | tbx e E =>
  obtain⟨g,d,rfl,f,ha⟩:=h;exact⟨g,d,rfl,by rw[a.block g (Array.getElem?_eq_some_iff.1 f).1];exact f,ha.mono fun _ _=>TC.rep_mono q⟩
 | tarr n y E =>
  obtain⟨g,d,t,rfl,F,f,H,ha⟩:=h;exact⟨g,d,t,rfl,F,by rw[a.block g (Array.getElem?_eq_some_iff.1 f).1];exact f,H,ha.mono fun _ _=>TC.rep_mono q⟩
 | arr α y c L =>
  obtain⟨g,d,t,rfl,F,f,H,ha⟩:=h;refine⟨g,d,t,rfl,F,by rw[a.block g (Array.getElem?_eq_some_iff.1 f).1];exact f,H,fun i A j B=>?_⟩;obtain⟨z,l,m⟩:=ha i A j B;exact⟨z,l,Cell.rep_mono q _ _ m⟩
 | grow e α y c L =>
  obtain⟨d,h,C,ha⟩:=h;refine⟨d,h.kept (row:=none) ⟨a.os,a.tape,a.output,a.size,fun k v _=>a.block k v⟩ (by cases hb:u.ownBlock<;>simp),C,fun i A j B=>?_⟩;obtain⟨z,l,m⟩:=ha i A j B;exact⟨z,l,Cell.rep_mono q _ _ m⟩
 | map κ R Q =>
  obtain⟨r,O,s,rfl,f,ha⟩:=h;exact⟨r,O,s,rfl,by rw[a.block r (Array.getElem?_eq_some_iff.1 f).1];exact f,ha.mono fun _ _ ⟨M,N⟩=>⟨M,Cell.rep_mono q _ _ N⟩⟩
 | growA e α y c L p E =>
  obtain⟨d,h,C,P,J,ha,x⟩:=h;refine⟨d,h.kept (row:=none) ⟨a.os,a.tape,a.output,a.size,fun k v _=>a.block k v⟩ (by cases hb:u.ownBlock<;>simp),C,P,J,fun i A I j B=>?_,x.mono fun _ _=>TC.rep_mono q⟩;obtain⟨z,l,m⟩:=ha i A I j B;exact⟨z,l,Cell.rep_mono q _ _ m⟩
 | growT e n y E =>
  obtain⟨d,h,C,J,x⟩:=h;exact⟨d,h.kept (row:=none) ⟨a.os,a.tape,a.output,a.size,fun k v _=>a.block k v⟩ (by cases hb:u.ownBlock<;>simp),C,J,x.mono fun _ _=>TC.rep_mono q⟩
 | spare n y e =>
  obtain⟨d,h⟩:=h;exact⟨d,h.kept (row:=none) ⟨a.os,a.tape,a.output,a.size,fun k v _=>a.block k v⟩ (by cases hb:u.ownBlock<;>simp)⟩
theorem Grd.ext{f:Nat->Prop}(e:Below w.heap.size w w')(h:Grd P f w):Grd P f w':=by
 obtain⟨i,g,c,d⟩:=h;exact⟨i,g,Nat.le_trans c e.size,fun k b=>⟨(e.block k (Nat.lt_of_lt_of_le b c)).trans (d k b).1,(d k b).2⟩⟩
theorem Sim.ext(h:Sim P S fr ob G a w)(b:Below w.heap.size w w'):Sim P S fr ob G a w' where
 nt:=h.nt
 ntb:=h.ntb
 defers:=h.defers
 os:=b.os.trans h.os
 tape:=b.tape.trans h.tape
 output:=b.output.trans h.output
 size:=Nat.le_trans h.size b.size
 keep:=fun k c f=>(b.block k (Nat.lt_of_lt_of_le c h.size)).trans (h.keep k c f)
 m0:=h.m0
 m0io:=h.m0io
 grd:=h.grd
 pin:=h.pin
 old:=h.old
 dis:=h.dis
 obs:=fun k o c=>(h.obs k o c).ext (fun _ _ _=>u6 b) b
 facts:=fun i s d=>SV.rep_mono (fun _ _ _=>u6 b) (h.facts i s d)
theorem FA(t:Array Value)(d:Nat)(v:Value)(a:d<t.size):(t.setIfInBounds d v).getD d undef=v:=by
 simp[Array.getD,a]
theorem zX(t:Array Value){d i:Nat}(v:Value)(a:d≠i):(t.setIfInBounds d v).getD i undef=t.getD i undef:=by
 simp only[Array.getD_eq_getD_getElem?,Array.getElem?_setIfInBounds_ne a]
theorem Ctx.sl_put_same(h:Sim P S fr ob G a w){d:Nat}{v:Value}(b:d<S.nt):S.sl (a.put (some d) v) d=v:=by
 rw[Ctx.sl_lt (by have:=h.ntb;omega)];simp only[Act.put];exact FA _ _ _ (by rw[h.nt];exact b)
theorem Ctx.sl_put_other{d i:Nat}{v:Value}(c:d≠i):S.sl (a.put (some d) v) i=S.sl a i:=by
 by_cases b:i<1000000
 ·rw[Ctx.sl_lt b,Ctx.sl_lt b];simp only[Act.put];exact zX _ _ c
 ·rw[Ctx.sl_ge (by omega),Ctx.sl_ge (by omega)]
theorem Sim.put(h:Sim P S fr ob G a w){d:Nat}(e:d<S.nt){s:SV}{v:Value}(hs:s.rep (D9 (Mut S ob G) w) G v):Sim P S ((d,s)::fr) ob G (a.put (some d) v) w where
 nt:=by simpa[Act.put] using h.nt
 ntb:=h.ntb
 defers:=h.defers
 os:=h.os
 tape:=h.tape
 output:=h.output
 size:=h.size
 keep:=h.keep
 m0:=h.m0
 m0io:=h.m0io
 grd:=h.grd
 pin:=h.pin
 old:=h.old
 dis:=h.dis
 obs:=h.obs
 facts:=fun i f b=>by
  by_cases c:d=i
  ·subst c;rw[C7]at b;cases b;rw[Ctx.sl_put_same h e];exact hs
  ·rw[B9 c]at b;rw[Ctx.sl_put_other c];exact h.facts i f b
theorem Sim.weaken(h:Sim P S fr ob G a w){fr':Fr}(b:∀i s,D4 fr' i=some s->D4 fr i=some s):Sim P S fr' ob G a w :=
 { h with facts:=fun i s c=>h.facts i s (b i s c) }
end sim
def Does(P:Program)(o:Oper)(a:Act)(w:World)(K:Value->World->Prop):Prop :=
 match (execOp a.eval o).run P w with
 | .ok (.value v) w'=>K v w'
 | .ok .skip w'=>K undef w'
 | .ok (.enter f args) w'=>Calls P f args w' (fun e b=>∃v,e=.returned v/\K v b)
 | _=>False
theorem L4{P:Program}{o:Oper}{a:Act}{w:World}{K:Value->World->Prop}(h:Does P o a w K){next:Act->World->Prop}{Q:Exit->Act->World->Prop}
  (b:∀v w',K v w'->next (a.put o.dst v) w'):o.wp P a w next Q:=by
 unfold Does at h;unfold Oper.wp;generalize (execOp a.eval o).run P w=r at *;cases r with
 | ok n w' =>
  cases n<;>simp only at h<;>simp only[Oper.upon]<;>try exact h.elim
  case value v=>exact b _ _ h
  case skip=>exact b _ _ h
  case enter f args =>
   refine h.mono ?_;rintro e d ⟨v,rfl,c⟩;exact b _ _ c
 | halt x w'=>exact h.elim
theorem F3{P:Program}{o:Oper}{a:Act}{w w':World}{v:Value}{K:Value->World->Prop}(h:(execOp a.eval o).run P w=.ok (.value v) w')(b:K v w'):Does P o a w K:=by
 unfold Does;rw[h];exact b
def Neu(P:Program)(o:Oper)(fr:Fr)(ob:Obs)(b:SV->Prop):Prop :=
 ∀S G a w,Sim P S fr ob G a w->Does P o a w (fun v w'=>Below w.heap.size w w'/\∃s,b s/\s.rep (D9 (Mut S ob G) w') G v)
def Eff(P:Program)(o:Oper)(fr:Fr)(ob:Obs)(fr':Fr)(ob':Obs):Prop :=
 ∀S G a w,Sim P S fr ob G a w->Does P o a w (fun _ w'=>∃G',Sim P S fr' ob' G' a w')
def EffV(P:Program)(o:Oper)(fr:Fr)(ob:Obs)(s:SV)(fr':Fr)(ob':Obs):Prop :=
 ∀S G a w,Sim P S fr ob G a w->Does P o a w (fun v w'=>∃G',Sim P S fr' ob' G' a w'/\s.rep (D9 (Mut S ob' G') w') G' v)
section steps
variable {P:Program}{nt:Nat}{ops:Array Oper}{rest:List Oper}{o:Oper}{fr:Fr}{ob:Obs}{Q:Post}{d:Nat}
theorem JX{f:Op}{ty:TypeId}{pos:String}{af:Array Edge}{b:SV->Prop}(h:Neu P ⟨some d,f,ty,pos,af,none⟩ fr ob b)(i:Nat.blt d nt=true)(k:∀s,b s->WpL P nt ops rest ((d,s)::fr) ob Q) :
  WpL P nt ops (⟨some d,f,ty,pos,af,none⟩::rest) fr ob Q:=by
 intro S G a w e hs;refine wpList_plain Z fun K g=>L4 (h S G a w hs) ?_;rintro v w' ⟨m,s,j,l⟩;have c:d<S.nt:=by rw[e];simpa using i
 exact g _ _ (k s j S G _ w' e ((hs.ext m).put c l))
theorem A7{a:Op}{ty:TypeId}{pos:String}{af:Array Edge}{s:SV}(h:Neu P ⟨some d,a,ty,pos,af,none⟩ fr ob (fun e=>e=s))(b:Nat.blt d nt=true)(k:WpL P nt ops rest ((d,s)::fr) ob Q) :
  WpL P nt ops (⟨some d,a,ty,pos,af,none⟩::rest) fr ob Q :=
 JX h b fun _ c=>c ▸ k
theorem O2{c:Op}{ty:TypeId}{pos:String}{af:Array Edge}{fr':Fr}{ob':Obs}(h:Eff P ⟨none,c,ty,pos,af,none⟩ fr ob fr' ob')(k:WpL P nt ops rest fr' ob' Q) :
  WpL P nt ops (⟨none,c,ty,pos,af,none⟩::rest) fr ob Q:=by
 intro S G a w e hs;refine wpList_plain Z fun K d=>L4 (h S G a w hs) ?_;rintro v w' ⟨G',b⟩;exact d _ _ (k S G' _ w' e b)
theorem B8{f:Op}{ty:TypeId}{pos:String}{af:Array Edge}{fr':Fr}{ob':Obs}{s:SV}(h:EffV P ⟨some d,f,ty,pos,af,none⟩ fr ob s fr' ob')(i:Nat.blt d nt=true)(k:WpL P nt ops rest ((d,s)::fr') ob' Q) :
  WpL P nt ops (⟨some d,f,ty,pos,af,none⟩::rest) fr ob Q:=by
 intro S G a w e hs;refine wpList_plain Z fun K g=>L4 (h S G a w hs) ?_;rintro v w' ⟨G',c,j⟩;have b:d<S.nt:=by rw[e];simpa using i
 exact g _ _ (k S G' _ w' e (c.put b j))
theorem j4{q:Op}{ty:TypeId}{pos:String}{af:Array Edge}{dst:Option Tmp}{j t:Nat}{b x:Bool}(u:(ops[j]?).bind (·.dst)=some t)(h:Nat.blt t nt=true)(z:D4 fr t=some (.s (.one (.p (.v (.bool x))))))(hb:x=b)
  (k:WpL P nt ops (⟨dst,q,ty,pos,af,none⟩::rest) fr ob Q):WpL P nt ops (⟨dst,q,ty,pos,af,some (j,b)⟩::rest) fr ob Q:=by
 intro S G a w m hs;have c:=k S G a w m hs;have g:t<a.tmps.size:=by rw[hs.nt,m];simpa using h
 have y:=(hs.fact (by rw[<-hs.nt];exact g) z).1;have f:a.tmps[t]?=some (.bool x):=by rw[<-y];simp[Array.getD,g]
 have A:yielded ops a.tmps j=some b:=by
  unfold yielded;rw[u];simp only[Option.bind_some,f,hb]
 unfold wpList at c ⊢;rw[A5 (by simp[Region.wanted])]at c;rw[A5 (by simp[Region.wanted,A])];rcases c with c | c
 ·refine .inl ?_;unfold Oper.wp Oper.upon at c ⊢;exact c
 ·refine .inr ⟨?_,c.2⟩;exact c.1
inductive Wants (b:Bool):SV->Bool->Prop
 | val (x:Bool):Wants b (.s (.one (.p (.v (.bool x))))) (x == b)
 | un:Wants b .un false
theorem Wants.yields{b:Bool}{s:SV}{W:Bool}(g:Wants b s W){l:Rd}{G:Gh}{v:Value}(f:s.rep l G v){ops:Array Oper}{a:Array Value}{j t:Nat}(k:(ops[j]?).bind (·.dst)=some t)(e:t<a.size)(h:a.getD t undef=v) :
  (yielded ops a j == some b)=W:=by
 have c:a[t]?=some v:=by rw[<-h];simp[Array.getD,e]
 unfold yielded;rw[k];simp only[Option.bind_some,c];cases g with
 | val x=>obtain⟨rfl,_⟩:=f;cases x<;>cases b<;>rfl
 | un=>rw[show v=undef from f];rfl
theorem c9{C:Op}{ty:TypeId}{pos:String}{af:Array Edge}{j t:Nat}{b x:Bool}(y:(ops[j]?).bind (·.dst)=some t)(m:Nat.blt t nt=true)(A:D4 fr t=some (.s (.one (.p (.v (.bool x))))))(hb:x≠b)(q:Nat.blt d nt=true)
  (k:WpL P nt ops rest ((d,.un)::fr) ob Q):WpL P nt ops (⟨some d,C,ty,pos,af,some (j,b)⟩::rest) fr ob Q:=by
 intro S G a w h hs;have g:d<S.nt:=by rw[h];simpa using q
 have r:=k S G _ w h (hs.put (s:=.un) (v:=undef) g rfl);have f:t<a.tmps.size:=by rw[hs.nt,h];simpa using m
 have z:=(hs.fact (by rw[<-hs.nt];exact f) A).1;have c:a.tmps[t]?=some (.bool x):=by rw[<-z];simp[Array.getD,f]
 have B:yielded ops a.tmps j=some x:=by
  unfold yielded;rw[y];simp only[Option.bind_some,c]
 unfold wpList;rw[A6 (by simp[Region.wanted,B,hb])];exact r
theorem P7{y:Op}{ty:TypeId}{pos:String}{af:Array Edge}{j t:Nat}{b W:Bool}{s sv:SV}(B:(ops[j]?).bind (·.dst)=some t)(q:Nat.blt t nt=true)(C:D4 fr t=some sv)(z:Wants b sv W)(x:Nat.blt d nt=true)
  (h:W=true->Neu P ⟨some d,y,ty,pos,af,none⟩ fr ob (fun E=>E=s)) (k:WpL P nt ops rest ((d,cond (W == true) s .un)::fr) ob Q):WpL P nt ops (⟨some d,y,ty,pos,af,some (j,b)⟩::rest) fr ob Q:=by
 intro S G a w g hs;have f:t<a.tmps.size:=by rw[hs.nt,g];simpa using q
 have D:=z.yields (hs.fact (by rw[<-hs.nt];exact f) C) B f rfl;have m:∀(o:Oper),o.guard=some (j,b)->Region.wanted o (yielded ops a.tmps)=W:=fun o A=>by
  unfold Region.wanted;rw[A];simp only;rw[<-D]
 cases e:W with
 | false =>
  rw[e]at k m;have p:d<S.nt:=by rw[g];simpa using x
  have c:=k S G _ w g (hs.put (s:=.un) (v:=undef) p rfl);unfold wpList;rw[A6 (by rw[m _ rfl];simp)];exact c
 | true =>
  rw[e]at k m h;have c:=A7 (ops:=ops) (h rfl) x k S G a w g hs;unfold wpList at c ⊢;rw[A5 (by simp[Region.wanted])]at c;rw[A5 (by rw[m _ rfl])];rcases c with c | c
  ·refine .inl ?_;unfold Oper.wp Oper.upon at c ⊢;exact c
  ·exact .inr ⟨c.1,c.2⟩
def U4(fr:Fr):List Nat->Fr
 | []=>[]
 | i::r=>match D4 fr i with
  | some s=>(i,s)::U4 fr r
  | none=>U4 fr r
theorem l7{fr:Fr}:∀{l:List Nat} {i:Nat} {s:SV},D4 (U4 fr l) i=some s->D4 fr i=some s
 | [],i,s,h=>by simp[U4,D4]at h
 | j::l,i,s,h=>by
  unfold U4 at h;split at h
  ·rename_i c a;by_cases b:j=i
   ·subst b;rw[C7]at h;rw[<-h];exact a
   ·rw[B9 b]at h;exact l7 h
  ·exact l7 h
def FrIn(fr:Fr):Fr->Prop
 | []=>True
 | (i,s)::r=>D4 fr i=some s/\FrIn fr r
theorem FrIn.spec{fr:Fr}:∀{fr':Fr},FrIn fr fr'->∀i s,D4 fr' i=some s->D4 fr i=some s
 | [],_,i,s,h=>by simp[D4]at h
 | (j,t)::r,hf,i,s,h=>by
  by_cases a:j=i
  ·subst a;rw[C7]at h;cases h;exact hf.1
  ·rw[B9 a]at h;exact FrIn.spec hf.2 i s h
end steps
def zE:Value->SV
 | .agg b=>.s (.agg (b.toList.map fun c=>.p (.v c)))
 | .tuple _=>.any
 | v=>.s (.one (.p (.v v)))
def opv(fr:Fr):Operand->Option SV
 | .tmp t=>cW fr t
 | .const v=>some (zE v)
 | .func f=>some (.s (.one (.p (.v (.func (.func f) #[] #[])))))
 | .global g=>some (.s (.one (.p (.v (.pointer (some ⟨g,0,none⟩))))))
def H3:Operand->Bool
 | .const (.agg cs)=>cs.toList.all (·.oneCell')
 | _=>true
theorem y7{b:Rd}{G:Gh}:∀(a:List Value),a.all (·.oneCell')=true->All2 (TC.rep b G) (a.map fun c=>.p (.v c)) a
 | [],_=>trivial
 | c::a,h=>by
  simp only[List.all_cons,C30]at h;exact⟨⟨rfl,h.1⟩,y7 a h.2⟩
theorem N8{P:Program}{S:Ctx}{fr:Fr}{ob:Obs}{G:Gh}{a:Act}{w:World}(h:Sim P S fr ob G a w){x:Operand}{s:SV}(b:opv fr x=some s)(d:H3 x=true) :
  s.rep (D9 (Mut S ob G) w) G (a.eval x):=by
 cases x with
 | tmp t=>exact h.slot b
 | const v =>
  simp only[opv,Option.some.injEq]at b;subst b;cases v<;>first | exact⟨rfl,rfl⟩ | trivial | skip
  rename_i c;exact⟨c.toList,rfl,y7 _ (by simpa[H3] using d)⟩
 | global g=>simp only[opv,Option.some.injEq]at b;subst b;exact⟨rfl,rfl⟩
 | func f=>simp only[opv,Option.some.injEq]at b;subst b;exact⟨rfl,rfl⟩
theorem E9{P:Program}{S:Ctx}{fr:Fr}{ob:Obs}{G:Gh}{a:Act}{w:World}(h:Sim P S fr ob G a w){x:Operand}{v:Value}(b:opv fr x=some (.s (.one (.p (.v v))))):a.eval x=v:=by
 cases x with
 | tmp t=>exact (h.slot b).1
 | const u =>
  simp only[opv,Option.some.injEq]at b;cases u<;>simp[zE]at b<;>(subst b;rfl)
 | global g=>simp only[opv,Option.some.injEq,SV.s.injEq,S1.one.injEq,TC.p.injEq,Cell.v.injEq]at b;subst b;rfl
 | func f=>simp only[opv,Option.some.injEq,SV.s.injEq,S1.one.injEq,TC.p.injEq,Cell.v.injEq]at b;subst b;rfl
theorem F4{P:Program}{S:Ctx}{fr:Fr}{ob:Obs}{G:Gh}{a:Act}{w:World}(h:Sim P S fr ob G a w){x:Operand}{t:TC}(b:opv fr x=some (.s (.one t))):t.rep (D9 (Mut S ob G) w) G (a.eval x):=by
 refine N8 h b ?_;cases x with
 | const u =>
  cases u<;>first | rfl | skip
  simp[opv,zE]at b
 | _=>rfl
abbrev I6(v:Value):SV:=.s (.one (.p (.v v)))
abbrev B2(n:Int):SV:=.s (.one (.p (.v (.int .i64 n))))
abbrev Q4(b:Bool):SV:=.s (.one (.p (.v (.bool b))))
abbrev C0(α:Type)(a:Nat)(c:α->Nat->Cell)(xs:List α):SV:=.s (.one (.p (.list α a c xs)))
end
abbrev str(l:List UInt8):Value:=.string ⟨l.toArray⟩
abbrev H6(l:List UInt8):SV:=.s (.one (.p (.v (.string ⟨l.toArray⟩))))
theorem aF(l:List UInt8):(ByteArray.mk l.toArray).size=l.length:=by simp[ByteArray.size]
section
variable {P:Program}{dst:Option Tmp}{ty:TypeId}{pos:String}{af:Array Edge}{gd:Option (Nat×Bool)}{fr:Fr}{ob:Obs}
theorem E1{b:Op}{s:SV}(h:∀S G a w,Sim P S fr ob G a w->∃v,(execOp a.eval ⟨dst,b,ty,pos,af,gd⟩).run P w=.ok (.value v) w/\s.rep (D9 (Mut S ob G) w) G v) :
  Neu P ⟨dst,b,ty,pos,af,gd⟩ fr ob (fun f=>f=s):=by
 intro S G a w hs;obtain⟨v,c,d⟩:=h S G a w hs;exact F3 c ⟨Below.refl _ _,s,rfl,d⟩
theorem J8{x:Sem Value}{w w':World}{v:Value}(h:x.run P w=.ok v w'):(do pure (Next.value (<-x)):Sem Next).run P w=.ok (.value v) w':=by
 simp[h]
theorem B3{x:Operand}{s:SV}(c:opv fr x=some s)(b:H3 x=true):Neu P ⟨dst,.move x,ty,pos,af,gd⟩ fr ob (fun d=>d=s) :=
 E1 fun S G a w hs=>⟨a.eval x,rfl,N8 hs c b⟩
theorem C1{x:Operand}{s:SV}(c:opv fr x=some s)(b:H3 x=true):Neu P ⟨dst,.assign x,ty,pos,af,gd⟩ fr ob (fun d=>d=s) :=
 E1 fun S G a w hs=>⟨a.eval x,rfl,N8 hs c b⟩
theorem F0{b:Rd}(α:Type)(a:Nat)(c:α->Nat->Cell):(Cell.list α a c []).rep b (.slice none 0 0):=by
 simp only[Cell.rep];exact⟨none,0,rfl,⟨Nat.le_refl _,fun _=>rfl⟩,by simp,.inl rfl⟩
theorem K7(α:Type)(ec:Nat)(c:α->Nat->Cell):Neu P ⟨dst,.assign (.const (.slice none 0 0)),ty,pos,af,gd⟩ fr ob (fun b=>b=C0 α ec c []) :=
 E1 fun S G a w hs=>⟨_,rfl,F0 α ec c⟩
theorem H9{c x y:Operand}{b p q:Bool}(d:opv fr c=some (Q4 b))(e:b=true->opv fr x=some (Q4 p))(f:b=false->opv fr y=some (Q4 q)) :
  Neu P ⟨dst,.pick c x y,ty,pos,af,gd⟩ fr ob (fun g=>g=Q4 (if b then p else q)) :=
 E1 fun S G a w h=>by
  have:=E9 h d;cases b
  ·exact⟨.bool q,by simp[execOp,this,asBool,E9 h (f rfl)],rfl,rfl⟩
  ·exact⟨.bool p,by simp[execOp,this,asBool,E9 h (e rfl)],rfl,rfl⟩
theorem aG{c:BinOp}{t yt:TypeId}{x y:Operand}{u v r:Value}(g:opv fr x=some (I6 u))(j:opv fr y=some (I6 v))
  (e:∀w:World,(eqGuard c t x y u v).run P w=.ok () w) (f:∀w:World,(binOp c t u v).run P w=.ok r w) (d:r.oneCell'=true):Neu P ⟨dst,.binOp c t x y yt,ty,pos,af,gd⟩ fr ob (fun l=>l=I6 r) :=
 E1 fun S G a w h=>by
  refine⟨r,?_,rfl,d⟩;simp only[execOp,E9 h g,E9 h j];exact J8 (by simp[e,f])
section
variable {t yt:TypeId}{x y:Operand}{k:IntKind}{a b:Int}
theorem rU(c:opv fr x=some (I6 (.int k a)))(e:opv fr y=some (I6 (.int k b))):Neu P ⟨dst,.binOp .add t x y yt,ty,pos,af,gd⟩ fr ob (fun f=>f=I6 (.int k (k.wrap (a+b)))) :=
 aG c e (fun _=>rfl) (fun w=>by simp[binOp,Op.intArith]) rfl
theorem JY(c:opv fr x=some (I6 (.int k a)))(d:opv fr y=some (I6 (.int k b))):Neu P ⟨dst,.binOp .sub t x y yt,ty,pos,af,gd⟩ fr ob (fun e=>e=I6 (.int k (k.wrap (a-b)))) :=
 aG c d (fun _=>rfl) (fun w=>by simp[binOp,Op.intArith]) rfl
theorem JZ(c:opv fr x=some (I6 (.int k a)))(d:opv fr y=some (I6 (.int k b))):Neu P ⟨dst,.binOp .mul t x y yt,ty,pos,af,gd⟩ fr ob (fun e=>e=I6 (.int k (k.wrap (a*b)))) :=
 aG c d (fun _=>rfl) (fun w=>by simp[binOp,Op.intArith]) rfl
theorem y8(c:opv fr x=some (B2 a))(e:opv fr y=some (B2 b))(h:-9223372036854775808<=a+b/\a+b<=9223372036854775807):Neu P ⟨dst,.binOp .add t x y yt,ty,pos,af,gd⟩ fr ob (fun f=>f=B2 (a+b)):=by
 have:=rU (P:=P) (dst:=dst) (ty:=ty) (pos:=pos) (af:=af) (gd:=gd) (t:=t) (yt:=yt) (ob:=ob) c e
 rwa[IntWalk.i64_in _ h]at this
theorem lI(c:opv fr x=some (B2 a))(d:opv fr y=some (B2 b))(h:-9223372036854775808<=a-b/\a-b<=9223372036854775807):Neu P ⟨dst,.binOp .sub t x y yt,ty,pos,af,gd⟩ fr ob (fun e=>e=B2 (a-b)):=by
 have:=JY (P:=P) (dst:=dst) (ty:=ty) (pos:=pos) (af:=af) (gd:=gd) (t:=t) (yt:=yt) (ob:=ob) c d
 rwa[IntWalk.i64_in _ h]at this
theorem rV(c:opv fr x=some (B2 a))(d:opv fr y=some (B2 b))(h:-9223372036854775808<=a*b/\a*b<=9223372036854775807):Neu P ⟨dst,.binOp .mul t x y yt,ty,pos,af,gd⟩ fr ob (fun e=>e=B2 (a*b)):=by
 have:=JZ (P:=P) (dst:=dst) (ty:=ty) (pos:=pos) (af:=af) (gd:=gd) (t:=t) (yt:=yt) (ob:=ob) c d
 rwa[IntWalk.i64_in _ h]at this
theorem YC(c:opv fr x=some (I6 (.int k a)))(d:opv fr y=some (I6 (.int k b)))(h:b≠0):Neu P ⟨dst,.binOp .rem t x y yt,ty,pos,af,gd⟩ fr ob (fun f=>f=I6 (.int k (a.tmod b))) :=
 aG c d (fun _=>rfl) (fun w=>by simp[binOp,Op.intDiv,h]) rfl
theorem KA{c:BinOp}{r:Int}(g:opv fr x=some (I6 (.int k a)))(h:opv fr y=some (I6 (.int k b)))(e:(match c with | .and | .or | .xor | .andNot=>true | _=>false)=true)
  (f:∀w:World,(Op.intBits c k a b).run P w=.ok (.int k r) w):Neu P ⟨dst,.binOp c t x y yt,ty,pos,af,gd⟩ fr ob (fun j=>j=I6 (.int k r)) :=
 aG g h (fun _=>by cases c<;>first | rfl | simp at e) (fun w=>by cases c<;>first | (simp[binOp];exact f w) | simp at e) rfl
theorem YD{f:IntKind}(c:opv fr x=some (I6 (.int k a)))(d:opv fr y=some (I6 (.int f b)))(h:0<=b):Neu P ⟨dst,.binOp .shl t x y yt,ty,pos,af,gd⟩ fr ob (fun e=>e=I6 (.int k (k.wrap (a*2 ^ (min b.toNat k.bits))))) :=
 aG c d (fun _=>rfl) (fun w=>by simp[binOp,Op.shift,Int.not_lt.2 h]) rfl
theorem n_shr{f:IntKind}(c:opv fr x=some (I6 (.int k a)))(d:opv fr y=some (I6 (.int f b)))(h:0<=b):Neu P ⟨dst,.binOp .shr t x y yt,ty,pos,af,gd⟩ fr ob (fun e=>e=I6 (.int k (a.fdiv (2 ^ (min b.toNat k.bits))))) :=
 aG c d (fun _=>rfl) (fun w=>by simp[binOp,Op.shift,Int.not_lt.2 h]) rfl
theorem iD(c:opv fr x=some (I6 (.int k a)))(d:opv fr y=some (I6 (.int k b))):Neu P ⟨dst,.binOp .lss t x y yt,ty,pos,af,gd⟩ fr ob (fun e=>e=Q4 (decide (a<b))) :=
 aG c d (fun _=>rfl) (fun w=>by simp[binOp,Op.intCmp]) rfl
theorem n_leq(c:opv fr x=some (I6 (.int k a)))(d:opv fr y=some (I6 (.int k b))):Neu P ⟨dst,.binOp .leq t x y yt,ty,pos,af,gd⟩ fr ob (fun f=>f=Q4 (decide (a<=b))) :=
 aG c d (fun _=>rfl) (fun w=>by simp[binOp,Op.intCmp]) rfl
theorem wS(c:opv fr x=some (I6 (.int k a)))(d:opv fr y=some (I6 (.int k b))):Neu P ⟨dst,.binOp .gtr t x y yt,ty,pos,af,gd⟩ fr ob (fun e=>e=Q4 (decide (b<a))) :=
 aG c d (fun _=>rfl) (fun w=>by simp[binOp,Op.intCmp]) rfl
theorem YE(c:opv fr x=some (I6 (.int k a)))(d:opv fr y=some (I6 (.int k b))):Neu P ⟨dst,.binOp .geq t x y yt,ty,pos,af,gd⟩ fr ob (fun f=>f=Q4 (decide (b<=a))) :=
 aG c d (fun _=>rfl) (fun w=>by simp[binOp,Op.intCmp]) rfl
theorem rW(c:opv fr x=some (I6 (.int k a)))(d:opv fr y=some (I6 (.int k b))):Neu P ⟨dst,.binOp .eql t x y yt,ty,pos,af,gd⟩ fr ob (fun f=>f=Q4 (decide (a=b))) :=
 aG c d (fun _=>rfl) (fun w=>by simp[binOp,Op.intCmp];rfl) rfl
theorem iE(c:opv fr x=some (I6 (.int k a)))(d:opv fr y=some (I6 (.int k b))):Neu P ⟨dst,.binOp .neq t x y yt,ty,pos,af,gd⟩ fr ob (fun f=>f=Q4 (decide (a≠b))) :=
 aG c d (fun _=>rfl) (fun w=>by simp only[binOp,Op.intCmp];simp;rfl) rfl
theorem n_eql_b{a b:Bool}(d:opv fr x=some (Q4 a))(f:opv fr y=some (Q4 b))(c:P.underlying t=some .bool):Neu P ⟨dst,.binOp .eql t x y yt,ty,pos,af,gd⟩ fr ob (fun g=>g=Q4 (a == b)) :=
 aG d f (fun _=>rfl) (fun w=>run_eql_bool w t a b c) rfl
theorem n_neq_b{a b:Bool}(d:opv fr x=some (Q4 a))(f:opv fr y=some (Q4 b))(c:P.underlying t=some .bool):Neu P ⟨dst,.binOp .neq t x y yt,ty,pos,af,gd⟩ fr ob (fun g=>g=Q4 (!(a == b))) :=
 aG d f (fun _=>rfl) (fun w=>run_neq_bool w t a b c) rfl
variable {l m:List UInt8}
theorem NS(l m:List UInt8):(l == m)=decide (l=m):=by rw[Bool.eq_iff_iff];simp
theorem zF(a:opv fr x=some (H6 l))(c:opv fr y=some (H6 m)):Neu P ⟨dst,.binOp .eql t x y yt,ty,pos,af,gd⟩ fr ob (fun d=>d=Q4 (decide (l=m))) :=
 aG a c (fun _=>rfl) (fun w=>by rw[binOp_string_eql,ByteArray.toList_mk,ByteArray.toList_mk,NS];rfl) rfl
theorem jB(a:opv fr x=some (H6 l))(c:opv fr y=some (H6 m)):Neu P ⟨dst,.binOp .neq t x y yt,ty,pos,af,gd⟩ fr ob (fun d=>d=Q4 (decide (l≠m))) :=
 aG a c (fun _=>rfl) (fun w=>by rw[binOp_string_neq,ByteArray.toList_mk,ByteArray.toList_mk,NS];simp) rfl
theorem V1(c:opv fr x=some (H6 l))(e:opv fr y=some (H6 m))(h:l.length+m.length<=9223372036854775807):Neu P ⟨dst,.binOp .add t x y yt,ty,pos,af,gd⟩ fr ob (fun f=>f=H6 (l++m)) :=
 aG c e (fun _=>rfl) (fun w=>by rw[binOp_string_add,run_string_add_sum _ _ _ (by rw[aF,aF];exact h),ByteArray.mk_append_mk]) rfl
end
theorem S7{x:Operand}{t:TypeId}{b:Bool}(c:opv fr x=some (Q4 b)):Neu P ⟨dst,.unOp .not t x,ty,pos,af,gd⟩ fr ob (fun d=>d=Q4 (!b)) :=
 E1 fun S G a w h=>⟨.bool (!b),by simp only[execOp,E9 h c];exact J8 (by simp[Op.unary]),rfl,rfl⟩
class TyOne (P:Program) (t:TypeId):Prop where
 out:∃d,P.underlying t=some d/\(match d with | .struct _ | .array _ _=>False | _=>True)
class TyAgg (P:Program) (t:TypeId) (n:outParam Nat):Prop where
 out:(∃d,P.underlying t=some d/\(match d with | .struct _ | .array _ _=>True | _=>False))/\(P.info? t).map (·.size)=some n
class TySl (P:Program) (t:TypeId) (e:outParam TypeId) (ec bytes:outParam Nat):Prop where
 out:P.underlying t=some (.slice e)/\(P.info? e).map (fun i=>(i.size,i.bytes))=some (ec,bytes)/\0<ec/\bytes<=4096/\((P.info? e).bind (·.zero)).map (fun z=>z.cells.size)=some ec
class TyFld (P:Program) (t:TypeId) (f:Nat) (off n:outParam Nat):Prop where
 out:∃fs fd,P.underlying t=some (.struct fs)/\fs[f]?=some fd/\fd.offset=off/\(P.info? fd.type).map (·.size)=some n/\0<n
class TyStr (P:Program) (t:TypeId):Prop where
 out:P.underlying t=some .string
class TyInt (P:Program) (t:TypeId) (k:outParam IntKind):Prop where
 out:P.underlying t=some (.int k)
class TyBool (P:Program) (t:TypeId):Prop where
 out:P.underlying t=some .bool
theorem FB{t:TypeId}[h:TyOne P t](w:World):(isAgg t).run P w=.ok false w:=by
 obtain⟨d,a,b⟩:=h.out;cases d<;>simp[isAgg,run_underlying a]at b ⊢
theorem FC{t:TypeId}{n:Nat}[h:TyAgg P t n](w:World):(isAgg t).run P w=.ok true w:=by
 obtain⟨⟨d,a,b⟩,_⟩:=h.out;cases d<;>simp[isAgg,run_underlying a]at b ⊢
theorem H4{t:TypeId}{n:Nat}(h:(P.info? t).map (·.size)=some n)(w:World):(sizeOf t).run P w=.ok n w:=by
 cases hi:P.info? t with
 | none=>simp[hi]at h
 | some i=>simp[hi]at h;simp[sizeOf,typeInfo,hi,h]
theorem TySl.size{t e:TypeId}{ec b:Nat}(h:TySl P t e ec b):(P.info? e).map (·.size)=some ec:=by
 have:=h.out.2.1;cases hi:P.info? e with
 | none=>simp[hi]at this
 | some i=>simp[hi]at this ⊢;exact this.1
theorem cM{x:Operand}{t:TypeId}{l:List UInt8}(d:opv fr x=some (H6 l))[ht:TyStr P t]:Neu P ⟨dst,.call ⟨.builtin .len,#[x],#[t]⟩,ty,pos,af,gd⟩ fr ob (fun f=>f=B2 l.length) :=
 E1 fun S G a w h=>by
  refine⟨.int .i64 l.length,?_,rfl,rfl⟩;have hb:=ht.out;simp[execOp,resolve,invoke,builtin,E9 h d,run_len_string w t ty _ hb,goInt,aF]
theorem W7{m:Rd}{α:Type}{f:Nat}{c:α->Nat->Cell}{d:List α}{u:Value}(h:(Cell.list α f c d).rep m u):∃a b,u=.slice a d.length b/\d.length<=b/\d.length<4611686018427387904:=by
 simp only[Cell.rep]at h;obtain⟨a,b,g,j,k,_⟩:=h;exact⟨a,b,g,j.1,k⟩
inductive IsList:SV->(α:Type)->(ec:Nat)->(α->Nat->Cell)->List α->Prop
 | pure (α:Type) (ec:Nat) (c:α->Nat->Cell) (xs:List α):IsList (.s (.one (.p (.list α ec c xs)))) α ec c xs
 | buf (k:Nat) (α:Type) (ec:Nat) (c:α->Nat->Cell) (xs:List α):IsList (.s (.one (.buf k α ec c xs))) α ec c xs
 | full (α:Type) (ec:Nat) (c:α->Nat->Cell) (xs:List α):IsList (.s (.one (.full α ec c xs))) α ec c xs
theorem IsList.rep{s:SV}{α:Type}{ec:Nat}{c:α->Nat->Cell}{xs:List α}(h:IsList s α ec c xs){b:Rd}{G:Gh}{u:Value}(a:s.rep b G u):(Cell.list α ec c xs).rep b u:=by
 cases h
 ·exact a
 ·exact a.2
 ·exact a.1
theorem IsList.one{s:SV}{α:Type}{ec:Nat}{c:α->Nat->Cell}{xs:List α}(h:IsList s α ec c xs):∃t,s=.s (.one t):=by
 cases h<;>exact⟨_,rfl⟩
theorem Z6{S:Ctx}{G:Gh}{a:Act}{w:World}(h:Sim P S fr ob G a w){x:Operand}{s:SV}{α:Type}{b:Nat}{c:α->Nat->Cell}{xs:List α}(f:opv fr x=some s)(d:IsList s α b c xs) :
  (Cell.list α b c xs).rep (D9 (Mut S ob G) w) (a.eval x):=by
 obtain⟨t,rfl⟩:=d.one;exact d.rep (F4 h f)
theorem y9{x:Operand}{t e:TypeId}{j d:Nat}{s:SV}{α:Type}{k:Nat}{c:α->Nat->Cell}{f:List α}(p:opv fr x=some s)(m:IsList s α k c f)[ht:TySl P t e j d] :
  Neu P ⟨dst,.call ⟨.builtin .len,#[x],#[t]⟩,ty,pos,af,gd⟩ fr ob (fun q=>q=B2 f.length) :=
 E1 fun S G a w h=>by
  refine⟨.int .i64 f.length,?_,rfl,rfl⟩;obtain⟨r,g,o,_⟩:=W7 (Z6 h p m);simp[execOp,resolve,invoke,builtin,o,Builtin.len_,run_underlying ht.out.1,goInt]
theorem J9{x y:Operand}{t:TypeId}{l:List UInt8}{k:IntKind}{i:Int}{c:UInt8}(j:opv fr x=some (H6 l))(m:opv fr y=some (I6 (.int k i)))[ht:TyStr P t](p:0<=i)(f:l[i.toNat]?=some c) :
  Neu P ⟨dst,.index t x y,ty,pos,af,gd⟩ fr ob (fun o=>o=I6 (.int .u8 (c.toNat:Int))) :=
 E1 fun S G a w h=>by
  refine⟨.int .u8 c.toNat,?_,rfl,rfl⟩;obtain⟨g,b⟩:=List.getElem?_eq_some_iff.1 f;have hb:0<=i/\i<((ByteArray.mk l.toArray).size:Int):=by rw[aF];omega
  simp only[execOp,E9 h j,E9 h m];refine J8 ?_;rw[run_index_string w t _ k i ht.out,dif_pos hb]
  congr 3
  rw[<-b];rfl
theorem A9{x y:Operand}{t e:TypeId}{l g:Nat}{s:SV}{α:Type}{c:α->Nat->Cell}{xs:List α}{k:IntKind}{i:Int}{v:α}[ht:TySl P t e l g](K:opv fr x=some s)(H:IsList s α l c xs)
  (L:opv fr y=some (I6 (.int k i))) (O:0<=i) (J:xs[i.toNat]?=some v):Neu P ⟨dst,.indexAddr t x y,ty,pos,af,gd⟩ fr ob (fun M=>M=.s (.one (.eref α l c v 0))) :=
 E1 fun S G a w h=>by
  have D:=Z6 h K H;simp only[Cell.rep]at D;obtain⟨N,E,I,Q,R,m⟩:=D;obtain⟨q,u⟩:=List.getElem?_eq_some_iff.1 J;rcases m with m | ⟨b,o,rfl,m⟩
  ·omega
  ·refine⟨.pointer (some ⟨b,o+i.toNat*l,none⟩),?_,⟨b,o+i.toNat*l,rfl,fun j F=>?_⟩⟩
   ·simp only[execOp,I,E9 h L];refine J8 ?_;have hb:0<=i/\i<(xs.length:Int):=by omega
    simp[Instr.indexAt,run_underlying ht.out.1,asIntOf,hb,H4 ht.size,Addr.add_lit]
   ·obtain⟨z,B,T,C⟩:=m i.toNat q j F;exact⟨z,B,by rw[<-u];exact C⟩
theorem lJ{t:TypeId}{f off n:Nat}[ht:TyFld P t f off n](w:World)(b o:Nat):(Instr.fieldAt t (.pointer (some ⟨b,o,none⟩)) f).run P w=.ok (.pointer (some ⟨b,o+off,none⟩)) w:=by
 obtain⟨h,g,a,c,rfl,d,j⟩:=ht.out;have:n≠0:=by omega
 simp[Instr.fieldAt,run_underlying a,c,Instr.sureAddr,fieldPlace,H4 d,this,Addr.add_lit]
theorem dZ{x:Operand}{t:TypeId}{f off n:Nat}{α:Type}{g:Nat}{c:α->Nat->Cell}{v:α}{o:Nat}(q:opv fr x=some (.s (.one (.eref α g c v o))))[ht:TyFld P t f off n] :
  Neu P ⟨dst,.fieldAddr t x f,ty,pos,af,gd⟩ fr ob (fun u=>u=.s (.one (.eref α g c v (o+off)))) :=
 E1 fun S G a w h=>by
  obtain⟨b,j,m,k⟩:=F4 h q;refine⟨.pointer (some ⟨b,j+(o+off),none⟩),?_,b,j,rfl,k⟩;simp only[execOp,m];refine J8 ?_;rw[lJ (ht:=ht)];simp[Nat.add_assoc]
theorem B5{x:Operand}{t:TypeId}{f off n:Nat}{k o:Nat}(j:opv fr x=some (.s (.one (.ref k o))))[ht:TyFld P t f off n] :
  Neu P ⟨dst,.fieldAddr t x f,ty,pos,af,gd⟩ fr ob (fun m=>m=.s (.one (.ref k (o+off)))) :=
 E1 fun S G a w h=>by
  obtain⟨b,c,g⟩:=F4 h j;refine⟨.pointer (some ⟨b,o+off,none⟩),?_,b,c,rfl⟩;simp only[execOp,g];exact J8 (lJ (ht:=ht) _ _ _)
theorem Y7{x:Operand}{t:TypeId}{f off n:Nat}{k g i o:Nat}(u:opv fr x=some (.s (.one (.mref k g i o))))[ht:TyFld P t f off n] :
  Neu P ⟨dst,.fieldAddr t x f,ty,pos,af,gd⟩ fr ob (fun v=>v=.s (.one (.mref k g i (o+off)))) :=
 E1 fun S G a w h=>by
  obtain⟨b,m,c,j,q⟩:=F4 h u;refine⟨.pointer (some ⟨b,i*g+(o+off),none⟩),?_,b,m,c,j,rfl⟩;simp only[execOp,q];refine J8 ?_;rw[lJ (ht:=ht)];simp[Nat.add_assoc]
theorem P2{t:TypeId}[ht:TyOne P t]{w:World}{b o:Nat}{z:Value}(a:w.cell? ⟨b,o,none⟩=some z):(loadVar t ⟨b,o,none⟩).run P w=.ok z w:=by
 simp[loadVar,FB,a]
theorem dN{t:TypeId}{n:Nat}[ht:TyAgg P t n]{w:World}{b o:Nat}{vs:List Value}(c:vs.length=n)(e:∀j z,vs[j]?=some z->w.cell? ⟨b,o+j,none⟩=some z):(loadVar t ⟨b,o,none⟩).run P w=.ok (.agg vs.toArray) w:=by
 have:=run_loadCells_list (P:=P) w ⟨b,o,none⟩ vs (fun j v d=>by rw[Addr.add_lit];exact e j v d);rw[c]at this;simp[loadVar,FC (P:=P) (t:=t) (n:=n),H4 ht.out.2,this]
theorem L3{x:Operand}{t:TypeId}{α:Type}{j:Nat}{c:α->Nat->Cell}{v:α}{o:Nat}[ht:TyOne P t](u:opv fr x=some (.s (.one (.eref α j c v o))))(k:Nat.blt o j=true) :
  Neu P ⟨dst,.load t x,ty,pos,af,gd⟩ fr ob (fun y=>y=.s (.one (.p (c v o)))) :=
 E1 fun S G a w h=>by
  obtain⟨b,A,q,m⟩:=F4 h u;obtain⟨z,g,i⟩:=m o (by simpa using k);refine⟨z,?_,i⟩;simp only[execOp,q];exact J8 (by simp[Instr.loadAt,Instr.sureAddr,P2 g.1])
theorem lK{R:Nat->Value->Prop}:∀(n:Nat),(∀j,j<n->∃z,R j z)->∃b:List Value,b.length=n/\∀j z,b[j]?=some z->R j z
 | 0,_=>⟨[],rfl,fun j z h=>by simp at h⟩
 | n+1,h=>by
  obtain⟨b,e,f⟩:=lK n (fun j a=>h j (by omega));obtain⟨z,g⟩:=h n (by omega);refine⟨b++[z],by simp[e],fun j y a=>?_⟩;by_cases c:j<b.length
  ·rw[C46 c]at a;exact f j y a
  ·rw[C52 (by omega)]at a;have:j=n:=by
    rcases Nat.lt_or_ge (j-b.length) 1 with d | d
    ·omega
    ·rw[C49 (by simpa using d)]at a;cases a
   subst this;simp[e]at a;rw[<-a];exact g
theorem cX{α:Type 1}{R:α->Value->Prop}:∀{a:List α} {b:List Value},b.length=a.length->(∀(j:Nat) (t:α) (z:Value),a[j]?=some t->b[j]?=some z->R t z)->All2 R a b
 | [],[],_,_=>trivial
 | [],_::_,h,_=>by simp at h
 | _::_,[],h,_=>by simp at h
 | t::a,v::b,h,hr=>⟨hr 0 t v rfl rfl,cX (by simpa using h) fun j t z c d=>hr (j+1) t z (by simpa using c) (by simpa using d)⟩
def cellsOf{α:Type}(c:α->Nat->Cell)(v:α):Nat->Nat->List Cell
 | _,0=>[]
 | o,n+1=>c v o::cellsOf c v (o+1) n
theorem U0{α:Type}(c:α->Nat->Cell)(v:α):∀(n o j:Nat) (t:Cell),(cellsOf c v o n)[j]?=some t->t=c v (o+j)/\j<n
 | 0,o,j,t,h=>by simp[cellsOf]at h
 | n+1,o,0,t,h=>by simp[cellsOf]at h;exact⟨h.symm,by omega⟩
 | n+1,o,j+1,t,h=>by
  simp[cellsOf]at h;obtain⟨a,b⟩:=U0 c v n (o+1) j t h;exact⟨by rw[a];congr 1;omega,by omega⟩
theorem I7{α:Type}(c:α->Nat->Cell)(v:α):∀(n o:Nat),(cellsOf c v o n).length=n
 | 0,_=>rfl
 | n+1,o=>by simp[cellsOf,I7 c v n]
theorem aH{x:Operand}{t:TypeId}{n:Nat}{α:Type}{q:Nat}{c:α->Nat->Cell}{v:α}{o:Nat}[ht:TyAgg P t n](I:opv fr x=some (.s (.one (.eref α q c v o))))(E:Nat.ble (o+n) q=true) :
  Neu P ⟨dst,.load t x,ty,pos,af,gd⟩ fr ob (fun L=>L=.s (.agg ((cellsOf c v o n).map .p))) :=
 E1 fun S G a w h=>by
  obtain⟨b,K,H,F⟩:=F4 h I;have D:o+n<=q:=by simpa using E
  obtain⟨A,y,i⟩:=lK n (fun j M=>F (o+j) (by omega));refine⟨.agg A.toArray,?_,A,rfl,?_⟩
  ·simp only[execOp,H];refine J8 ?_;simp[Instr.loadAt,Instr.sureAddr,dN (ht:=ht) (o:=K+o) y (fun j z J=>by rw[Nat.add_assoc];exact (i j z J).1.1)]
  ·refine cX (by simp[y,I7]) fun j t z k C=>?_;rw[C63]at k;cases u:(cellsOf c v o n)[j]? with
   | none=>simp[u]at k
   | some B =>
    simp[u]at k;obtain⟨rfl,_⟩:=U0 c v n o j B u;subst k;exact (i j z C).2
theorem Sim.box{S:Ctx}{G:Gh}{a:Act}{w:World}(h:Sim P S fr ob G a w){k:Nat}{d:List TC}(f:B4 ob k=some (.box d)) :
  ∃b vs t,G k=.pointer (some ⟨b,0,none⟩)/\w.heap[b]?=some (.cells (List.toArray vs) t (0,0))/\All2 (TC.rep (D9 (Mut S ob G) w) G) d vs:=h.obs k _ f
theorem cell_of_heap{w:World}{b o:Nat}{vs:Array Value}{t:TypeId}{f:Nat×Nat}{z:Value}(h:w.heap[b]?=some (.cells vs t f))(a:vs[o]?=some z):w.cell? ⟨b,o,none⟩=some z:=by
 simp[World.cell?,h,a]
theorem C2{x:Operand}{t:TypeId}{k o:Nat}{j:List TC}{s:TC}[ht:TyOne P t](y:opv fr x=some (.s (.one (.ref k o))))(q:B4 ob k=some (.box j))(u:j[o]?=some s) :
  Neu P ⟨dst,.load t x,ty,pos,af,gd⟩ fr ob (fun A=>A=.s (.one s)) :=
 E1 fun S G a w h=>by
  obtain⟨b,m,v⟩:=F4 h y;obtain⟨B,C,tt,c,p,ha⟩:=h.box q;rw[m]at c;cases c;obtain⟨z,g,i⟩:=ha.get o s u;refine⟨z,?_,i⟩;simp only[execOp,v];refine J8 ?_;simp[Instr.loadAt,Instr.sureAddr,P2 (ht:=ht) (cell_of_heap p (by simpa using g))]
theorem All2.drop{α:Type 1}{β:Type}{R:α->β->Prop}:∀{as:List α} {a:List β} (n:Nat),All2 R as a->All2 R (as.drop n) (a.drop n)
 | [],[],n,_=>by simp[All2]
 | [],_::_,_,h=>h.elim
 | _::_,[],_,h=>h.elim
 | _::_,_::_,0,h=>h
 | _::_,_::_,n+1,h=>by simpa using All2.drop n h.2
theorem All2.take{α:Type 1}{β:Type}{R:α->β->Prop}:∀{as:List α} {a:List β} (n:Nat),All2 R as a->All2 R (as.take n) (a.take n)
 | [],[],n,_=>by simp[All2]
 | [],_::_,_,h=>h.elim
 | _::_,[],_,h=>h.elim
 | _::_,_::_,0,h=>by simp[All2]
 | _::_,_::_,n+1,h=>⟨h.1,All2.take n h.2⟩
theorem I0{x:Operand}{t:TypeId}{n k o:Nat}{m:List TC}[ht:TyAgg P t n](E:opv fr x=some (.s (.one (.ref k o))))(u:B4 ob k=some (.box m))(B:Nat.ble (o+n) m.length=true) :
  Neu P ⟨dst,.load t x,ty,pos,af,gd⟩ fr ob (fun F=>F=.s (.agg ((m.drop o).take n))) :=
 E1 fun S G a w h=>by
  obtain⟨b,p,D⟩:=F4 h E;obtain⟨H,vs,tt,c,q,ha⟩:=h.box u;rw[p]at c;cases c;have v:o+n<=m.length:=by simpa using B
  have I:=ha.length;refine⟨.agg ((vs.drop o).take n).toArray,?_,_,rfl,(ha.drop o).take n⟩;simp only[execOp,D];refine J8 ?_
  have C:=dN (ht:=ht) (w:=w) (b:=b) (o:=o) (vs:=(vs.drop o).take n) (by simp;omega) (fun j z i=>by
   rw[List.getElem?_take]at i;split at i
   ·rw[C61]at i;exact cell_of_heap q (by simpa using i)
   ·cases i)
  simp[Instr.loadAt,Instr.sureAddr,C]
theorem C9{x:Operand}{f:List S1}{i:Nat}{s:S1}(g:opv fr x=some (.tup f))(j:f[i]?=some s):Neu P ⟨dst,.extract x i,ty,pos,af,gd⟩ fr ob (fun m=>m=.s s) :=
 E1 fun S G a w h=>by
  have k:(SV.tup f).rep (D9 (Mut S ob G) w) G (a.eval x):=N8 h g (by
   cases x with
   | const u=>cases u<;>simp[opv,zE]at g
   | _=>rfl)
  obtain⟨n,l,ha⟩:=k;obtain⟨z,b,d⟩:=ha.get i s j;refine⟨z,?_,d⟩;simp only[execOp,l];exact J8 (by simp[Instr.extract,b])
end
section
def upd(G:Gh)(k:Nat)(u:Value):Gh:=fun j=>cond (Nat.beq j k) u (G j)
theorem G7(G:Gh)(k:Nat)(u:Value):upd G k u k=u:=by simp[upd]
theorem b9(G:Gh){k j:Nat}(u:Value)(h:j≠k):upd G k u j=G j:=by simp[upd,I9 h]
theorem Own_forget{u:Value}{o:Ob}{k b i:Nat}:Own u (o.forget k) b i↔Own u o b i:=by
 cases o<;>simp[Own,Ob.forget]
section
variable {P:Program}{S:Ctx}{fr:Fr}{ob:Obs}{G:Gh}{a:Act}{w w1:World}
theorem ObOk.forget{r:Rd}{G':Gh}{k:Nat}{u:Value}{o:Ob}(l:∀j,j≠k->G' j=G j)(h:ObOk S r G w u o):ObOk S r G' w u (o.forget k):=by
 cases o with
 | box m=>obtain⟨b,g,t,a,d,f⟩:=h;exact⟨b,g,t,a,d,f.map (TC.forget k) fun _ _=>TC.rep_forget l⟩
 | tbx e m=>obtain⟨b,g,a,d,f⟩:=h;exact⟨b,g,a,d,f.map (TC.forget k) fun _ _=>TC.rep_forget l⟩
 | tarr n i m=>obtain⟨b,g,t,a,x,d,y,f⟩:=h;exact⟨b,g,t,a,x,d,by simpa using y,f.map (TC.forget k) fun _ _=>TC.rep_forget l⟩
 | arr α i c xs=>exact h
 | spare n i e=>exact h
 | grow e α i c xs=>exact h
 | map κ A z=>exact h
 | growA e α i c xs p m=>obtain⟨g,a,d,f,q,s,v⟩:=h;exact⟨g,a,d,f,by simpa using q,s,v.map (TC.forget k) fun _ _=>TC.rep_forget l⟩
 | growT e n i m=>obtain⟨g,a,d,f,q⟩:=h;exact⟨g,a,d,by simpa using f,q.map (TC.forget k) fun _ _=>TC.rep_forget l⟩
theorem Sim.rd_new(h:Sim P S fr ob G a w){k:Nat}{o:Ob}{u:Value}(m:Below w.heap.size w w1)(j:∀b,blk u=some b->w.heap.size<=b){b i:Nat}{z:Value}
  (f:D9 (Mut S ob G) w b i z):D9 (Mut S ((k,o)::Obs.forget k ob) (upd G k u)) w1 b i z:=by
 refine⟨zW m f.1,fun e=>f.2 ?_⟩;have g:b<w.heap.size:=World.block_lt_of_cell? w _ f.1;rcases e with e | ⟨k',o',hk',hb,hi⟩
 ·exact .inl e
 ·by_cases c:k'=k
  ·subst c;rw[G7]at hb;have:=j b hb;omega
  ·rw[B0 (Ne.symm c),M1]at hk';cases d:B4 ob k' with
   | none=>simp[d]at hk'
   | some p =>
    simp[d]at hk';subst hk';rw[b9 G u c]at hb;exact .inr ⟨k',p,d,Own_forget.1 ⟨hb,hi⟩⟩
theorem Sim.new(h:Sim P S fr ob G a w){k:Nat}(V:k<1000000)(U:B4 ob k=none){o:Ob}{u:Value}(H:Below w.heap.size w w1)(E:∀b,blk u=some b->w.heap.size<=b)
  (Q:ObOk S (D9 (Mut S ((k,o)::Obs.forget k ob) (upd G k u)) w1) (upd G k u) w1 u o):Sim P S (Fr.forget k fr) ((k,o)::Obs.forget k ob) (upd G k u) a w1:=by
 have B:∀j,j≠k->upd G k u j=G j:=fun j J=>b9 G u J;have hs:=h.ext H;have d:∀z o',z≠k->B4 ((k,o)::Obs.forget k ob) z=some o'->∃A,B4 ob z=some A/\o'=A.forget k:=by
  intro z o' m c;rw[B0 (Ne.symm m),M1]at c;cases D:B4 ob z with
  | none=>simp[D]at c
  | some A=>simp[D]at c;exact⟨A,rfl,c.symm⟩
 refine { hs with pin:=fun j J=>by rw[B j (by omega)];exact h.pin j J,old:=?_,dis:=?_,obs:=?_,facts:=?_ }
 ·intro z o' b c hb;by_cases m:z=k
  ·subst m;rw[G7]at hb;exact .inl (Nat.le_trans h.size (E b hb))
  ·obtain⟨A,C,_⟩:=d z o' m c;rw[B _ m]at hb;exact h.old z A b C hb
 ·intro k1 k2 N O b L M p q;by_cases v:k1=k<;>by_cases y:k2=k
  ·rw[v,y]
  ·subst v;obtain⟨A,C,_⟩:=d k2 O y M;rw[G7]at p;rw[B _ y]at q;have:=E b p;have:=(h.obs k2 A C).blk_lt b q;omega
  ·subst y;obtain⟨A,C,_⟩:=d k1 N v L;rw[G7]at q;rw[B _ v]at p;have:=E b q;have:=(h.obs k1 A C).blk_lt b p;omega
  ·obtain⟨R,ha,_⟩:=d k1 N v L;obtain⟨ob',I,_⟩:=d k2 O y M;rw[B _ v]at p;rw[B _ y]at q;exact h.dis k1 k2 R ob' b ha I p q
 ·intro z o' c;by_cases m:z=k
  ·subst m;rw[C4]at c;cases c;rw[G7];exact Q
  ·obtain⟨A,C,rfl⟩:=d z o' m c;rw[B _ m];exact ((h.obs z A C).ext (fun _ _ _ K=>h.rd_new H E K) H).forget B
 ·intro i s F;rw[P1]at F;cases D:D4 fr i with
  | none=>simp[D]at F
  | some T =>
   simp[D]at F;subst F;exact SV.rep_forget B (SV.rep_mono (fun _ _ _ K=>h.rd_new H E K) (h.facts i T D))
theorem Sim.drop(h:Sim P S fr ob G a w)(k:Nat):Sim P S fr (Obs.drop k ob) G a w:=by
 have d:∀f g,B4 (Obs.drop k ob) f=some g->B4 ob f=some g:=by
  intro f g c;by_cases j:f=k
  ·subst j;rw[O4]at c;cases c
  ·rwa[M4 j]at c
 have m:∀b i z,D9 (Mut S ob G) w b i z->D9 (Mut S (Obs.drop k ob) G) w b i z:=by
  intro b i z p;refine⟨p.1,fun o=>p.2 ?_⟩;rcases o with o | ⟨f,g,c,hb⟩
  ·exact .inl o
  ·exact .inr ⟨f,g,d _ _ c,hb⟩
 exact { h with
  old:=fun f g b c=>h.old f g b (d _ _ c)
  dis:=fun k1 k2 v y b q u=>h.dis k1 k2 v y b (d _ _ q) (d _ _ u)
  obs:=fun f g c=>(h.obs f g (d _ _ c)).ext m (Below.refl _ _)
  facts:=fun i s hi=>SV.rep_mono m (h.facts i s hi) }
theorem Sim.weakenO(h:Sim P S fr ob G a w){ob':Obs}(d:∀k o,B4 ob' k=some o->B4 ob k=some o):Sim P S fr ob' G a w:=by
 have f:∀b i z,D9 (Mut S ob G) w b i z->D9 (Mut S ob' G) w b i z:=by
  intro b i z p;refine⟨p.1,fun m=>p.2 ?_⟩;rcases m with m | ⟨g,j,c,hb⟩
  ·exact .inl m
  ·exact .inr ⟨g,j,d _ _ c,hb⟩
 exact { h with
  old:=fun g j b c=>h.old g j b (d _ _ c)
  dis:=fun k1 k2 y A b q u=>h.dis k1 k2 y A b (d _ _ q) (d _ _ u)
  obs:=fun g j c=>(h.obs g j (d _ _ c)).ext f (Below.refl _ _)
  facts:=fun i s v=>SV.rep_mono f (h.facts i s v) }
theorem Sim.writeN(h:Sim P S fr ob G a w){k:Nat}{o o':Ob}(hk:B4 ob k=some o){b:Nat}(hb:blk (G k)=some b)(Y:∀i,Own (G k) o b i)(ag:∀i,Own (G k) o' b i)
  (O:w1.os=w.os) (y:w1.tape=w.tape) (E:w1.output=w.output) (x:w.heap.size<=w1.heap.size) (d:∀j,j<w.heap.size->j≠b->w1.heap[j]?=w.heap[j]?)
  (ho:(∀b i z,D9 (Mut S ob G) w b i z->D9 (Mut S ((k,o')::ob) G) w1 b i z)->ObOk S (D9 (Mut S ((k,o')::ob) G) w1) G w1 (G k) o'):Sim P S fr ((k,o')::ob) G a w1:=by
 have q:∀D K,D≠k->B4 ((k,o')::ob) D=some K->B4 ob D=some K:=fun D K u C=>by rwa[B0 (Ne.symm u)]at C
 have v:∀f i z,D9 (Mut S ob G) w f i z->D9 (Mut S ((k,o')::ob) G) w1 f i z:=by
  intro f i z hr;have m:f≠b:=fun e=>hr.2 (.inr ⟨k,o,hk,e ▸ Y i⟩);refine⟨by rw[World.cell?_of_block (w:=w) (a:=⟨f,i,none⟩) (d f (World.block_lt_of_cell? w _ hr.1) m)];exact hr.1,fun hm=>hr.2 ?_⟩;rcases hm with hm | ⟨D,K,C,H⟩
  ·exact .inl hm
  ·by_cases u:D=k
   ·subst u;have:=H.1;rw[hb]at this;cases this;exact absurd rfl m
   ·exact .inr ⟨D,K,q _ _ u C,H⟩
 refine { h with os:=O.trans h.os,tape:=y.trans h.tape,output:=E.trans h.output,size:=Nat.le_trans h.size x,keep:=?_,old:=?_,dis:=?_,obs:=?_,facts:=?_ }
 ·intro j F hn;have m:j≠b:=fun e=>by
   subst e;rcases h.old k o j hk hb with g | g
   ·omega
   ·exact hn g.1
  rw[d j (Nat.lt_of_lt_of_le F h.size) m];exact h.keep j F hn
 ·intro D K f C H;by_cases u:D=k
  ·subst u;exact h.old _ o f hk H
  ·exact h.old D K f (q _ _ u C) H
 ·intro k1 k2 K o2 f g L ac ae;by_cases V:k1=k<;>by_cases W:k2=k
  ·rw[V,W]
  ·subst V;exact h.dis _ _ o o2 f hk (q _ _ W L) ac ae
  ·subst W;exact h.dis _ _ K o f (q _ _ V g) hk ac ae
  ·exact h.dis _ _ K o2 f (q _ _ V g) (q _ _ W L) ac ae
 ·intro D K C;by_cases u:D=k
  ·subst u;rw[C4]at C;cases C;exact ho v
  ·have h0:=q _ _ u C;have m:∀f,blk (G D)=some f->f≠b:=fun f H e=>u (h.dis D k K o f h0 hk H (e ▸ hb));have A:=h.obs D K h0;have N:=A.blk_lt;cases K with
   | box ts =>
    obtain⟨f,J,t,g,L,U⟩:=A;exact⟨f,J,t,g,by rw[d f (N f (by rw[g];rfl)) (m f (by rw[g];rfl))];exact L,U.mono fun _ _=>TC.rep_mono v⟩
   | tbx e ts =>
    obtain⟨f,J,g,L,U⟩:=A;exact⟨f,J,g,by rw[d f (N f (by rw[g];rfl)) (m f (by rw[g];rfl))];exact L,U.mono fun _ _=>TC.rep_mono v⟩
   | tarr n ec ts =>
    obtain⟨f,J,t,g,X,L,hn,U⟩:=A;exact⟨f,J,t,g,X,by rw[d f (N f (by rw[g];rfl)) (m f (by rw[g];rfl))];exact L,hn,U.mono fun _ _=>TC.rep_mono v⟩
   | arr α ec c xs =>
    obtain⟨f,J,t,g,X,L,U,h4⟩:=A;refine⟨f,J,t,g,X,by rw[d f (N f (by rw[g];rfl)) (m f (by rw[g];rfl))];exact L,U,fun i hi j F=>?_⟩;obtain⟨z,R,T⟩:=h4 i hi j F;exact⟨z,R,Cell.rep_mono v _ _ T⟩
   | spare n ec e =>
    obtain⟨J,g⟩:=A;refine⟨J,g.kept (row:=some b) ⟨O,y,E,x,fun j I F=>d j I (fun e=>F (by rw[e]))⟩ ?_⟩;right;intro B;cases Q:G D<;>simp only[Q,Value.ownBlock,reduceCtorEq]at B;rename_i M len Z;cases M with
    | none=>simp at B
    | some M =>
     simp at B;exact m b (by rw[Q];simp[blk,B]) rfl
   | map κ kf ah =>
    obtain⟨r,es,ab,g,L,U⟩:=A;exact⟨r,es,ab,g,by rw[d r (N r (by rw[g];rfl)) (m r (by rw[g];rfl))];exact L,U.mono fun _ _ ⟨e1,e2⟩=>⟨e1,Cell.rep_mono v _ _ e2⟩⟩
   | growA e α ec c xs p ts =>
    obtain⟨J,g,X,hp,af,h4,h5⟩:=A;refine⟨J,g.kept (row:=some b) ⟨O,y,E,x,fun j I F=>d j I (fun e=>F (by rw[e]))⟩ ?_,X,hp,af,fun i hi m j F=>(let ⟨z,R,T⟩:=h4 i hi m j F;⟨z,R,Cell.rep_mono v _ _ T⟩),h5.mono fun _ _=>TC.rep_mono v⟩;right;intro B;cases Q:G D<;>simp only[Q,Value.ownBlock,reduceCtorEq]at B;rename_i M len Z;cases M with
    | none=>simp at B
    | some M =>
     simp at B;exact m b (by rw[Q];simp[blk,B]) rfl
   | growT e n ec ts =>
    obtain⟨J,g,X,af,h5⟩:=A;refine⟨J,g.kept (row:=some b) ⟨O,y,E,x,fun j I F=>d j I (fun e=>F (by rw[e]))⟩ ?_,X,af,h5.mono fun _ _=>TC.rep_mono v⟩;right;intro B;cases Q:G D<;>simp only[Q,Value.ownBlock,reduceCtorEq]at B;rename_i M len Z;cases M with
    | none=>simp at B
    | some M =>
     simp at B;exact m b (by rw[Q];simp[blk,B]) rfl
   | grow e α ec c xs =>
    obtain⟨J,g,X,h4⟩:=A;refine⟨J,g.kept (row:=some b) ⟨O,y,E,x,fun j I F=>d j I (fun e=>F (by rw[e]))⟩ ?_,X,fun i hi j F=>(let ⟨z,R,T⟩:=h4 i hi j F;⟨z,R,Cell.rep_mono v _ _ T⟩)⟩;right;intro B;cases Q:G D<;>simp only[Q,Value.ownBlock,reduceCtorEq]at B;rename_i M len Z;cases M with
    | none=>simp at B
    | some M =>
     simp at B;exact m b (by rw[Q];simp[blk,B]) rfl
 ·intro i s hi;exact SV.rep_mono v (h.facts i s hi)
theorem Sim.write(h:Sim P S fr ob G a w){k:Nat}{o o':Ob}(q:B4 ob k=some o){b:Nat}(hb:blk (G k)=some b)(e:∀i,Own (G k) o b i)(c:∀i,Own (G k) o' b i)
  (m:w1.os=w.os) (g:w1.tape=w.tape) (l:w1.output=w.output) (f:w.heap.size<=w1.heap.size) (d:∀j,j<w.heap.size->j≠b->w1.heap[j]?=w.heap[j]?)
  (r:∀p:Rd,(∀b i z,D9 (Mut S ob G) w b i z->p b i z)->ObOk S p G w1 (G k) o'):Sim P S fr ((k,o')::ob) G a w1 :=
 h.writeN q hb e c m g l f d (fun n=>r _ n)
end
section ops
variable {P:Program}{dst:Option Tmp}{ty:TypeId}{pos:String}{af:Array Edge}{gd:Option (Nat×Bool)}{fr:Fr}{ob:Obs}
def S1.cells:S1->List TC
 | .one t=>[t]
 | .agg b=>b
theorem B93{b:Rd}{G:Gh}:∀{s:S1} {u:Value},s.rep b G u->All2 (TC.rep b G) s.cells u.cells.toList
 | .one t,u,h=>by
  have c:=TC.rep_one h;have:u.cells=#[u]:=by cases u<;>first | rfl | simp[Value.oneCell']at c
  rw[this];exact⟨h,trivial⟩
 | .agg ts,u,h=>by obtain⟨d,rfl,h⟩:=h;simpa[Value.cells,S1.cells] using h
theorem e_box(k:Nat){x:Operand}{e:TypeId}{s:S1}(C:opv fr x=some (.s s))(u:H3 x=true)(z:B4 ob k=none)(A:k<1000000) :
  EffV P ⟨dst,.box e x,ty,pos,af,gd⟩ fr ob (.s (.one (.ref k 0))) (Fr.forget k fr) ((k,.box (s.cells.map (TC.forget k)))::Obs.forget k ob):=by
 intro S G a w h;have B:(SV.s s).rep (D9 (Mut S ob G) w) G (a.eval x):=N8 h C u;refine F3 (w':=w.alloc (.cells (a.eval x).cells e)) (v:=.pointer (some ⟨w.heap.size,0,none⟩)) ?_ ?_
 ·simp[execOp,Instr.box,newVar,newRow]
 ·have d:Below w.heap.size w (w.alloc (.cells (a.eval x).cells e)):=(Below.refl _ _).alloc (Nat.le_refl _) _;have q:∀b,blk (.pointer (some ⟨w.heap.size,0,none⟩))=some b->w.heap.size<=b:=by intro b hb;simp[blk]at hb;omega
  refine⟨upd G k (.pointer (some ⟨w.heap.size,0,none⟩)),h.new A z d q ?_,⟨w.heap.size,G7 _ _ _,rfl⟩⟩;refine⟨w.heap.size,(a.eval x).cells.toList,e,rfl,by rw[Array.toArray_toList];exact heap_alloc_new w _,?_⟩;refine ((B93 B).map (TC.forget k) fun _ _ g=>?_);exact TC.rep_forget (fun j y=>b9 G _ y) (TC.rep_mono (fun _ _ _ g=>h.rd_new d q g) g)
class TyZero (P:Program) (t:TypeId) (z:outParam Value):Prop where
 out:(P.info? t).bind (·.zero)=some z/\z.cells.toList.all (·.oneCell')=true
theorem M5{t:TypeId}{z:Value}(h:(P.info? t).bind (·.zero)=some z)(w:World):(zeroValue t).run P w=.ok z w:=by
 cases a:P.info? t with
 | none=>simp[a]at h
 | some i=>simp[a]at h;simp[zeroValue,typeInfo,a,h]
theorem KB(k:Nat){e:TypeId}{z:Value}[hz:TyZero P e z](g:B4 ob k=none)(j:k<1000000) :
  EffV P ⟨dst,.alloc e,ty,pos,af,gd⟩ fr ob (.s (.one (.ref k 0))) (Fr.forget k fr) ((k,.box (z.cells.toList.map fun c=>.p (.v c)))::Obs.forget k ob):=by
 intro S G a w h;refine F3 (w':=w.alloc (.cells z.cells e)) (v:=.pointer (some ⟨w.heap.size,0,none⟩)) ?_ ?_
 ·simp[execOp,Instr.alloc,newVar,newRow,M5 hz.out.1]
 ·have d:Below w.heap.size w (w.alloc (.cells z.cells e)):=(Below.refl _ _).alloc (Nat.le_refl _) _;have m:∀b,blk (.pointer (some ⟨w.heap.size,0,none⟩))=some b->w.heap.size<=b:=by intro b hb;simp[blk]at hb;omega
  refine⟨upd G k (.pointer (some ⟨w.heap.size,0,none⟩)),h.new j g d m ?_,⟨w.heap.size,G7 _ _ _,rfl⟩⟩;exact⟨w.heap.size,z.cells.toList,e,rfl,by rw[Array.toArray_toList];exact heap_alloc_new w _,y7 _ hz.out.2⟩
theorem Y8{t:TypeId}{w:World}{b o:Nat}{v:Value}{d:List Value}{e:TypeId}(hs:(P.info? t).map (·.size)=some v.cells.size)(h:w.heap[b]?=some (.cells d.toArray e (0,0)))
  (q:∀u∈v.cells.toList,u.oneCell'=true) (f:o+v.cells.size<=d.length) :
  ∃w',(storeVar t ⟨b,o,none⟩ v).run P w=.ok () w'/\w'.os=w.os/\w'.tape=w.tape/\w'.output=w.output/\w'.heap.size=w.heap.size/\(∀j,j≠b->w'.heap[j]?=w.heap[j]?) /\
   w'.heap[b]?=some (.cells (d.take o++v.cells.toList++d.drop (o+v.cells.size)).toArray e (0,0)):=by
 have g:=run_storeCells_at P b o e v.cells.toList 0 d.toArray w h (by simpa using f) q;simp only[Nat.add_zero]at g;refine⟨w.setRow b (d.take o++v.cells.toList++d.drop (o+v.cells.toList.length)).toArray,?_,rfl,rfl,rfl,by simp,fun j x=>setRow_other w b j _ x,?_⟩
 ·simp only[storeVar,Sem.run_bind,H4 hs,Result.andThen_ok,ne_eq,not_true_eq_false,if_false];exact g
 ·rw[setRow_heap w b d.toArray _ e (0,0) h];simp
def setTs(a:List TC)(o:Nat)(ns:List TC):List TC:=a.take o++ns++a.drop (o+ns.length)
theorem H0{t:TypeId}{x y:Operand}{k o n:Nat}{D:List TC}{s:S1}(V:(P.info? t).map (·.size)=some n)(hx:opv fr x=some (.s (.one (.ref k o))))(W:B4 ob k=some (.box D))(hy:opv fr y=some (.s s))(Y:H3 y=true)
  (X:s.cells.length=n) (J:Nat.ble (o+n) D.length=true):Eff P ⟨none,.store t x y,ty,pos,af,gd⟩ fr ob fr ((k,.box (setTs D o s.cells))::ob):=by
 intro S G a w h;obtain⟨b,Q,C⟩:=F4 h hx;obtain⟨b',A,tt,K,hh,ha⟩:=h.box W;rw[Q]at K;cases K;have hr:(SV.s s).rep (D9 (Mut S ob G) w) G (a.eval y):=N8 h hy Y;have g:=B93 hr;have q:(a.eval y).cells.size=n:=by rw[<-X,g.length];simp
 have R:o+n<=D.length:=by simpa using J
 have M:∀u∈(a.eval y).cells.toList,u.oneCell'=true:=by
  intro u C;have:∀(D:List TC) (A:List Value),All2 (TC.rep (D9 (Mut S ob G) w) G) D A->∀u∈A,u.oneCell'=true:=by
   intro D;induction D with
   | nil=>intro A h u C;cases A with | nil=>cases C | cons=>exact h.elim
   | cons t D ih =>
    intro A h u C;cases A with
    | nil=>exact h.elim
    | cons v A =>
     rcases C36.1 C with rfl | C
     ·exact TC.rep_one h.1
     ·exact ih A h.2 u C
  exact this _ _ g u C
 obtain⟨w',O,T,I,N,H,B,F⟩:=Y8 (P:=P) (t:=t) (w:=w) (b:=b) (o:=o) (v:=a.eval y) (by rw[V,q]) hh M (by rw[q,<-ha.length];exact R);unfold Does;have he:(execOp a.eval ⟨none,.store t x y,ty,pos,af,gd⟩).run P w=.ok .skip w':=by
  simp[execOp,C,Instr.storeAt,Instr.sureAddr,O]
 rw[he];have E:blk (G k)=some b:=by rw[Q];rfl
 refine⟨G,h.write W E (fun i=>⟨E,trivial⟩) (fun i=>⟨E,trivial⟩) T I N (Nat.le_of_eq H.symm) (fun j _=>B j) ?_⟩;intro rd U;refine⟨b,_,tt,Q,F,?_⟩;have Z:A.drop (o+(a.eval y).cells.size)=A.drop (o+s.cells.length):=by rw[q,X]
 unfold setTs;rw[Z];exact (((ha.take o).append g).append (ha.drop _)).mono fun _ _=>TC.rep_mono U
theorem e_adopt(k:Nat)(α:Type)(c:α->Nat->Cell){t e:TypeId}{j d:Nat}[ht:TySl P t e j d](q:B4 ob k=none)(x:k<1000000) :
  EffV P ⟨dst,.assign (.const (.slice none 0 0)),t,pos,af,gd⟩ fr ob (.s (.one (.buf k α j c []))) (Fr.forget k fr) ((k,.spare 0 j e)::Obs.forget k ob):=by
 intro S G a w h;refine F3 (w':=w) (v:=.slice none 0 0) Z ?_;exact⟨upd G k (.slice none 0 0),h.new x q (Below.refl _ _) (fun b hb=>by simp[blk]at hb) ⟨[],World.ownsRow_nil w _ _ _⟩,(G7 _ _ _).symm,F0 α j c⟩
theorem U1{x:Rd}{α:Type}{a:Nat}{c:α->Nat->Cell}{xs:List α}{u:Value}(h:(Cell.list α a c xs).rep x u) :
  ∃(ad:Option Addr) (d:Nat) (f:List Value),u=.slice ad xs.length d/\(xs.length<=d/\(ad=none->d=0))/\xs.length<4611686018427387904/\f.length=xs.length*a/\(∀v∈f,v.oneCell'=true) /\
   (∀i (q:i<xs.length) j,j<a->∃z,f[i*a+j]?=some z/\(c xs[i] j).rep x z) /\
   (xs.length=0\/∃b o,ad=some ⟨b,o,none⟩/\∀j z,f[j]?=some z->x b (o+j) z):=by
 simp only[Cell.rep]at h;obtain⟨ad,d,k,B,C,g⟩:=h;rcases Nat.eq_zero_or_pos a with y | y
 ·subst y;refine⟨ad,d,[],k,B,C,by simp,by simp,fun i q j t=>by omega,?_⟩;rcases g with g | ⟨b,o,hb,_⟩
  ·exact .inl g
  ·exact .inr ⟨b,o,hb,by simp⟩
 rcases g with g | ⟨b,o,hb,g⟩
 ·exact⟨ad,d,[],k,B,C,by simp[g],by simp,fun i q=>by omega,.inl g⟩
 ·obtain⟨f,H,D⟩:=lK (R:=fun m z=>x b (o+m) z/\∃h:m / a<xs.length,(c xs[m / a] (m % a)).rep x z) (xs.length*a) (by
   intro m M;have k:m / a<xs.length:=Nat.div_lt_of_lt_mul (by rwa[Nat.mul_comm]);obtain⟨z,F,q,G⟩:=g (m / a) k (m % a) (Nat.mod_lt _ y);refine⟨z,?_,k,G⟩;have:o+m / a*a+m % a=o+m:=by rw[Nat.add_assoc,Nat.mul_comm,Nat.div_add_mod]
   rwa[this]at F)
  refine⟨ad,d,f,k,B,C,H,?_,?_,.inr ⟨b,o,hb,fun j z K=>(D j z K).1⟩⟩
  ·intro v E;obtain⟨j,t⟩:=List.mem_iff_getElem?.1 E;obtain⟨_,_,A⟩:=D j v t;exact Cell.rep_one A
  ·intro i q j t;have w:i*a+j<f.length:=by
    rw[H];have:(i+1)*a<=xs.length*a:=C47 _ q;rw[C62]at this;omega
   refine⟨f[i*a+j],by simp[w],?_⟩;obtain⟨_,L,A⟩:=D (i*a+j) _ (by simp[w]:f[i*a+j]?=some f[i*a+j]);have I:(i*a+j) / a=i:=by rw[Nat.mul_comm,Nat.mul_add_div y,Nat.div_eq_of_lt t,Nat.add_zero]
   have J:(i*a+j) % a=j:=by rw[Nat.mul_comm,Nat.mul_add_mod,Nat.mod_eq_of_lt t]
   simp only[I,J]at A;exact A
end ops
end
variable {P:Program}{S:Ctx}{fr:Fr}{ob:Obs}{G:Gh}{a:Act}{w w1:World}
theorem Sim.turn(h:Sim P S fr ob G a w){k:Nat}(hp:k<1000000){o o':Ob}{u':Value}(hk:B4 ob k=some o)
  (aj:w1.os=w.os) (ag:w1.tape=w.tape) (ah:w1.output=w.output) (af:w.heap.size<=w1.heap.size)
  (L:∀j,j<w.heap.size->blk (G k)≠some j->w1.heap[j]?=w.heap[j]?)
  (ae:∀b i z,D9 (Mut S ob G) w b i z->w1.cell? ⟨b,i,none⟩=some z)
  (U:∀b,blk u'=some b->blk (G k)=some b\/w.heap.size<=b)
  (ai:∀b i,b<w.heap.size->Own u' o' b i->Own (G k) o b i)
  (ho:∀rd:Rd,(∀b i z,D9 (Mut S ob G) w b i z->rd b i z)->∀G',(∀j,j≠k->G' j=G j)->ObOk S rd G' w1 u' o') :
  Sim P S (Fr.forget k fr) ((k,o')::Obs.forget k ob) (upd G k u') a w1:=by
 have T:∀j,j≠k->upd G k u' j=G j:=fun j N=>b9 G u' N;have y:∀v R,v≠k->B4 ((k,o')::Obs.forget k ob) v=some R->∃A,B4 ob v=some A/\R=A.forget k:=by
  intro v R m q;rw[B0 (Ne.symm m),M1]at q;cases hg:B4 ob v with
  | none=>simp[hg]at q
  | some A=>simp[hg]at q;exact⟨A,rfl,q.symm⟩
 have u:∀b i z,D9 (Mut S ob G) w b i z->D9 (Mut S ((k,o')::Obs.forget k ob) (upd G k u')) w1 b i z:=by
  intro b i z hr;refine⟨ae b i z hr,fun hm=>hr.2 ?_⟩;have ad:b<w.heap.size:=World.block_lt_of_cell? w _ hr.1;rcases hm with hm | ⟨v,R,q,hb⟩
  ·exact .inl hm
  ·by_cases m:v=k
   ·subst m;rw[C4]at q;cases q;rw[G7]at hb;exact .inr ⟨v,o,hk,ai b i ad hb⟩
   ·obtain⟨A,K,rfl⟩:=y v R m q;rw[T _ m]at hb;exact .inr ⟨v,A,K,Own_forget.1 hb⟩
 have V:∀v A b,v≠k->B4 ob v=some A->blk (G v)=some b->blk (G k)≠some b:=fun v A b m K hb e=>m (h.dis v k A o b K hk hb e);refine { h with os:=aj.trans h.os,tape:=ag.trans h.tape,output:=ah.trans h.output,size:=Nat.le_trans h.size af,pin:=fun j N=>by rw[T j (by omega)];exact h.pin j N,keep:=?_,old:=?_,dis:=?_,obs:=?_,facts:=?_ }
 ·intro j N Q
  rw[L j (Nat.lt_of_lt_of_le N h.size) (fun e=>by
   rcases h.old k o j hk e with d | d
   ·omega
   ·exact Q d.1)]
  exact h.keep j N Q
 ·intro v R b q hb;by_cases m:v=k
  ·subst m;rw[G7]at hb;rcases U b hb with d | d
   ·exact h.old v o b hk d
   ·exact .inl (Nat.le_trans h.size d)
  ·obtain⟨A,K,_⟩:=y v R m q;rw[T _ m]at hb;exact h.old v A b K hb
 ·intro k1 k2 R o2 b d D F H;by_cases I:k1=k<;>by_cases J:k2=k
  ·rw[I,J]
  ·subst I;obtain⟨A,K,_⟩:=y k2 o2 J D;rw[G7]at F;rw[T _ J]at H;rcases U b F with x | x
   ·exact absurd x (V k2 A b J K H)
   ·have:=(h.obs k2 A K).blk_lt b H;omega
  ·subst J;obtain⟨A,K,_⟩:=y k1 R I d;rw[G7]at H;rw[T _ I]at F;rcases U b H with x | x
   ·exact absurd x (V k1 A b I K F)
   ·have:=(h.obs k1 A K).blk_lt b F;omega
  ·obtain⟨oa,ha,_⟩:=y k1 R I d;obtain⟨ob',ab,_⟩:=y k2 o2 J D;rw[T _ I]at F;rw[T _ J]at H;exact h.dis k1 k2 oa ob' b ha ab F H
 ·intro v R q;by_cases m:v=k
  ·subst m;rw[C4]at q;cases q;rw[G7];exact ho _ u _ T
  ·obtain⟨A,K,rfl⟩:=y v R m q;rw[T _ m];refine ObOk.forget T ?_;have B:=h.obs v A K;have ad:=B.blk_lt;have f:∀E,blk (G v)=some E->w1.heap[E]?=w.heap[E]?:=fun E ab=>L E (ad E ab) (V v A E m K ab);cases A with
   | box ts =>
    obtain⟨E,C,t,d,D,x⟩:=B;exact⟨E,C,t,d,by rw[f E (by rw[d];rfl)];exact D,x.mono fun _ _=>TC.rep_mono u⟩
   | tbx e ts =>
    obtain⟨E,C,d,D,x⟩:=B;exact⟨E,C,d,by rw[f E (by rw[d];rfl)];exact D,x.mono fun _ _=>TC.rep_mono u⟩
   | tarr n Z ts =>
    obtain⟨E,C,t,d,O,D,Q,x⟩:=B;exact⟨E,C,t,d,O,by rw[f E (by rw[d];rfl)];exact D,Q,x.mono fun _ _=>TC.rep_mono u⟩
   | arr α Z c xs =>
    obtain⟨E,C,t,d,O,D,x,h4⟩:=B;refine⟨E,C,t,d,O,by rw[f E (by rw[d];rfl)];exact D,x,fun i M j N=>?_⟩;obtain⟨z,X,Y⟩:=h4 i M j N;exact⟨z,X,Cell.rep_mono u _ _ Y⟩
   | spare n Z e =>
    obtain⟨C,d⟩:=B;rcases d.2 with ⟨Q,hz⟩ | ⟨g,cap,cur,hv,D,x,h4⟩
    ·exact⟨C,d.1,.inl ⟨Q,hz⟩⟩
    ·exact⟨C,d.1,.inr ⟨g,cap,cur,hv,D,by rw[f g (by rw[hv];rfl)];exact x,h4⟩⟩
   | map κ kf ak =>
    obtain⟨r,es,ac,d,D,x⟩:=B;exact⟨r,es,ac,d,by rw[f r (by rw[d];rfl)];exact D,x.mono fun _ _ ⟨e1,e2⟩=>⟨e1,Cell.rep_mono u _ _ e2⟩⟩
   | growA e α Z c xs p ts =>
    obtain⟨C,d,O,hp,W,h5,h7⟩:=B;have h6:∀i (M:i<xs.length),i≠p->∀j,j<Z->∃z,C[i*Z+j]?=some z/\(c xs[i] j).rep _ z:=fun i M V j N=>(let ⟨z,X,Y⟩:=h5 i M V j N;⟨z,X,Cell.rep_mono u _ _ Y⟩)
    rcases d.2 with ⟨Q,hz⟩ | ⟨g,cap,cur,hv,D,x,h4⟩
    ·exact⟨C,⟨d.1,.inl ⟨Q,hz⟩⟩,O,hp,W,h6,h7.mono fun _ _=>TC.rep_mono u⟩
    ·exact⟨C,⟨d.1,.inr ⟨g,cap,cur,hv,D,by rw[f g (by rw[hv];rfl)];exact x,h4⟩⟩,O,hp,W,h6,h7.mono fun _ _=>TC.rep_mono u⟩
   | growT e n Z ts =>
    obtain⟨C,d,O,W,h7⟩:=B;rcases d.2 with ⟨Q,hz⟩ | ⟨g,cap,cur,hv,D,x,h4⟩
    ·exact⟨C,⟨d.1,.inl ⟨Q,hz⟩⟩,O,W,h7.mono fun _ _=>TC.rep_mono u⟩
    ·exact⟨C,⟨d.1,.inr ⟨g,cap,cur,hv,D,by rw[f g (by rw[hv];rfl)];exact x,h4⟩⟩,O,W,h7.mono fun _ _=>TC.rep_mono u⟩
   | grow e α Z c xs =>
    obtain⟨C,d,O,h5⟩:=B;have h6:∀i (M:i<xs.length) j,j<Z->∃z,C[i*Z+j]?=some z/\(c xs[i] j).rep _ z:=fun i M j N=>(let ⟨z,X,Y⟩:=h5 i M j N;⟨z,X,Cell.rep_mono u _ _ Y⟩)
    rcases d.2 with ⟨Q,hz⟩ | ⟨g,cap,cur,hv,D,x,h4⟩
    ·exact⟨C,⟨d.1,.inl ⟨Q,hz⟩⟩,O,h6⟩
    ·exact⟨C,⟨d.1,.inr ⟨g,cap,cur,hv,D,by rw[f g (by rw[hv];rfl)];exact x,h4⟩⟩,O,h6⟩
 ·intro i s M;rw[P1]at M;cases hg:D4 fr i with
  | none=>simp[hg]at M
  | some s0 =>
   simp[hg]at M;subst M;exact SV.rep_forget T (SV.rep_mono u (h.facts i s0 hg))
theorem gQ(y:Nat){t ty e:TypeId}{Q q:Nat}(ht:TySl P t e Q q){v:Value}{n:Nat}{S:List Value}(h:w.ownsRow y e Q v n S)(J:y<=w.heap.size)
  {u:Value} {ad:Option Addr} {m c:Nat} {news:List Value} (hu:u=.slice ad m c) (hc:ad=none->c=0) (af:m<=c) (K:news.length=m*Q) (M:∀b o,ad=some ⟨b,o,none⟩->∀j z,news[j]?=some z->w.cell? ⟨b,o+j,none⟩=some z)
  (Z:m=0\/∃b o,ad=some ⟨b,o,none⟩) (h1:∀z∈news,z.oneCell'=true) (V:n+m<=1073741824) :
  ∃R w',(Builtin.append_ #[t,t] ty #[v,u]).run P w=.ok R w'/\w'.ownsRow y e Q R (n+m) (S++news)/\w.grownBy w' v.ownBlock/\(∀b,blk R=some b->blk v=some b\/w.heap.size<=b)/\(blk R=blk v\/∀j,j<w.heap.size->w'.heap[j]?=w.heap[j]?):=by
 obtain⟨H,B,ae,ab,C⟩:=ht.out;cases I:P.info? e with
 | none=>simp[I]at B
 | some i =>
 simp[I]at B;obtain⟨D,x⟩:=B;cases X:i.zero with
 | none=>simp[I,X]at C
 | some z =>
 simp[I,X]at C;have E:(n+m)*q<=140737488355328:=by
  have:(n+m)*q<=1073741824*4096:=Nat.mul_le_mul V ab;omega
 have W:n+m<=maxLen:=by unfold maxLen;omega
 subst hu;by_cases F:ad=none/\m=0
 ·obtain⟨rfl,rfl⟩:=F;have ac:=hc rfl;subst ac;have L:news=[]:=List.eq_nil_of_length_eq_zero (by simpa using K);subst L;refine⟨v,w,run_append_owned_none (P:=P) (w:=w) y t ty e i Q H I v n S h,by simpa using h,⟨rfl,rfl,rfl,Nat.le_refl _,fun _ _ _=>rfl⟩,fun b hb=>.inl hb,.inl rfl⟩
 ·-- an address: the source's own,or any (nothing is read)
  have:∃p,ad=some p/\∀j z,news[j]?=some z->w.cell? (p.add j)=some z:=by
   rcases Z with h0 | ⟨b,o,rfl⟩
   ·cases ad with
    | none=>exact absurd ⟨rfl,h0⟩ F
    | some p =>
     have L:news=[]:=List.eq_nil_of_length_eq_zero (by rw[K,h0];simp);exact⟨p,rfl,by simp[L]⟩
   ·exact⟨_,rfl,fun j z U=>by rw[Addr.add_lit];exact M b o rfl j z U⟩
  obtain⟨p,rfl,f⟩:=this;obtain⟨R,w',Y,ho,hg,T⟩:=run_append_own (P:=P) w y t ty e i z Q q H I X D x C ae v n S h p m c news K f h1 W E J;refine⟨R,w',Y,ho,hg,?_⟩;rcases h.2 with ⟨rfl,rfl⟩ | ⟨g,cap,cur,rfl,hbg,hgh,hnc,hcm,hcs,htake⟩
  ·rcases Nat.eq_zero_or_pos m with hm | hm
   ·have O:=T.2 ⟨rfl,hm⟩;subst O;exact⟨fun b hb=>by simp[blk]at hb,.inl rfl⟩
   ·have A:=run_append_nil (P:=P) w t ty e i z H I X p m c news (by rw[D];exact K) f hm (by omega) (by rw[x];simp at E;omega);rw[Y]at A;injection A with O hw
    subst O;subst hw;exact⟨fun b hb=>by simp[blk]at hb;exact .inr (by omega),.inr fun j U=>heap_alloc_old w.drew _ U⟩
  ·by_cases G:n+m<=cap
   ·have A:=run_append_room (P:=P) w t ty e i H I g n cap cur hgh p m c news (by rw[D];exact K) f h1 G (by rw[K,D,hcs,<-C62];exact C47 _ G);rw[Y]at A;injection A with O _
    subst O;exact⟨fun b hb=>.inl hb,.inl rfl⟩
   ·have N:∀j u,S[j]?=some u->w.cell? ((⟨g,0,none⟩:Addr).add j)=some u:=h.cells (g:=g) rfl;have A:=run_append_grow (P:=P) w t ty e i z H I X ⟨g,0,none⟩ n cap S (by rw[D];exact h.1) N p m c news (by rw[D];exact K) f (by omega) (by omega) (growslice_fits (by omega) (by rw[x];exact E));rw[Y]at A;injection A with O hw
    subst O;subst hw;exact⟨fun b hb=>by simp[blk]at hb;exact .inr (by omega),.inr fun j U=>heap_alloc_old w.drew _ U⟩
variable {dst:Option Tmp}{ty:TypeId}{pos:String}{af:Array Edge}{gd:Option (Nat×Bool)}
theorem r7{v:Value}(b:(∀a,v≠.pointer a)/\∀r,v≠.map r):v.ownBlock=blk v:=by
 obtain⟨h,d⟩:=b;cases v with
 | map r=>exact absurd rfl (d r)
 | pointer a=>exact absurd rfl (h a)
 | slice a l c=>cases a<;>rfl
 | _=>rfl
theorem c5{w:World}{b:Nat}{e:TypeId}{size:Nat}{v:Value}{n:Nat}{c:List Value}(h:w.ownsRow b e size v n c):(∀a,v≠.pointer a)/\∀r,v≠.map r:=by
 rcases h.2 with ⟨rfl,_⟩ | ⟨g,cap,cur,rfl,_⟩<;>exact⟨fun a ha=>(by cases ha),fun a ha=>(by cases ha)⟩
theorem aI{w:World}{f:Nat}{e:TypeId}{α:Type}{a:Nat}{c:α->Nat->Cell}{xs:List α}{v:Value}{t:List Value}{s:Rd}(h:w.ownsRow f e a v xs.length t)(x:0<a)
  (k:xs.length<4611686018427387904) (d:∀g,blk v=some g->∀j z,j<xs.length*a->w.cell? ⟨g,j,none⟩=some z->s g j z)
  (A:∀i (l:i<xs.length) j,j<a->∃z,t[i*a+j]?=some z/\(c xs[i] j).rep s z):(Cell.list α a c xs).rep s v:=by
 have B:=h.1;rcases h.2 with ⟨rfl,u⟩ | ⟨g,cap,cur,rfl,_,hg,hnc,_,hcs,htake⟩
 ·obtain rfl:xs=[]:=List.eq_nil_of_length_eq_zero u;exact F0 α a c
 ·simp only[Cell.rep];refine⟨some ⟨g,0,none⟩,cap,rfl,⟨hnc,by simp⟩,k,.inr ⟨g,0,rfl,fun i l j y=>?_⟩⟩;obtain⟨z,o,q⟩:=A i l j y;have m:i*a+j<xs.length*a:=by
   have:(i+1)*a<=xs.length*a:=C47 _ l;rw[C62]at this;omega
  have b:w.cell? ⟨g,i*a+j,none⟩=some z:=by
   have:=h.cells (g:=g) rfl (i*a+j) z o
   rwa[Addr.add_lit,Nat.zero_add]at this
  refine⟨z,by rw[Nat.zero_add];exact d g rfl _ _ m b,l,q⟩
theorem zY{S:Ctx}{G:Gh}{a:Act}{w w':World}(h:Sim P S fr ob G a w){k:Nat}{α:Type}{x:Nat}{c:α->Nat->Cell}{v D:List α}{e:TypeId}{V vs:List Value}{U:Value}(al:0<x)(hp:k<1000000)(hk:B4 ob k=some (.spare v.length x e))
  (au:(Cell.list α x c v).rep (D9 (Mut S ob G) w) (G k)) (d:w.ownsRow S.B e x (G k) v.length V) (A:w'.ownsRow S.B e x U (v.length+D.length) (V++vs)) (q:w.grownBy w' (G k).ownBlock)
  (C:∀b,blk U=some b->blk (G k)=some b\/w.heap.size<=b) (R:blk U=blk (G k)\/∀j,j<w.heap.size->w'.heap[j]?=w.heap[j]?) (ba:v.length+D.length<=1073741824)
  (av:∀i (hi:i<D.length) j,j<x->∃z,vs[i*x+j]?=some z/\(c D[i] j).rep (D9 (Mut S ob G) w) z) :
  ∃G',Sim P S (Fr.forget k fr) ((k,.spare (v++D).length x e)::Obs.forget k ob) G' a w'/\(SV.s (.one (.buf k α x c (v++D)))).rep (D9 (Mut S ((k,.spare (v++D).length x e)::Obs.forget k ob) G') w') G' U:=by
 obtain⟨be,az,ay,ag,ak,bh,bd,ar,ai,af⟩:=U1 au;have aw:∀(j:Nat) (z:Value),ay[j]?=some z->V[j]?=some z:=by
  intro j z hz;have E:j<v.length*x:=by
   have:=(List.getElem?_eq_some_iff.1 hz).1;omega
  have ae:j<V.length:=by rw[d.1];exact E
  rcases d.2 with ⟨_,an⟩ | ⟨g,cap',cur,hgv,_⟩
  ·rw[an]at E;omega
  ·rw[hgv]at ag;injection ag with ha _ _
   rcases af with h0 | ⟨b,o,hb,M⟩
   ·rw[h0]at E;omega
   ·rw[<-ha]at hb;injection hb with hb
    injection hb with I J
    have ad:=(M j z hz).1;rw[<-I,<-J,Nat.zero_add]at ad;have K:=d.cells (g:=g) (by rw[hgv];rfl) j V[j] (by simp[ae]);rw[Addr.add_lit,Nat.zero_add,ad]at K;rw[C29 ae];exact K.symm
 have Y:v.length+D.length=(v++D).length:=by simp
 rw[Y]at A;have ao:=c5 d;have Q:(G k).ownBlock=blk (G k):=r7 ao;have N:∀b i z,D9 (Mut S ob G) w b i z->w'.cell? ⟨b,i,none⟩=some z:=by
  intro b i z M;have H:b<w.heap.size:=World.block_lt_of_cell? w _ M.1;by_cases hb:blk (G k)=some b
  ·-- its own block: below the spare part
   have hi:i<v.length*x:=by
    rcases Nat.lt_or_ge i (v.length*x) with h' | h'
    ·exact h'
    ·exact absurd (Or.inr ⟨k,_,hk,hb,h'⟩) M.2
   have E:i<V.length:=by rw[d.1];exact hi
   have ax:V[i]?=some z:=by
    have K:=d.cells (g:=b) (by rw[Q];exact hb) i V[i] (by simp[E]);rw[Addr.add_lit,Nat.zero_add,M.1]at K;rw[C29 E];exact K.symm
   by_cases ah:blk U=some b
   ·have aj:=A.cells (g:=b) (by rw[r7 (c5 A)];exact ah) i z (by rw[C46 E];exact ax)
    rwa[Addr.add_lit,Nat.zero_add]at aj
   ·-- a new row: of the old one nothing was written
    rcases R with X | X
    ·exact absurd (X.trans hb) ah
    ·rw[World.cell?_of_block (w:=w) (a:=⟨b,i,none⟩) (X b H)];exact M.1
  ·rw[World.cell?_of_block (w:=w) (a:=⟨b,i,none⟩) (q.block b H (by rw[Q];exact fun e=>hb e.symm))];exact M.1
 have T:=h.turn (o':=.spare (v++D).length x e) (u':=U) hp hk q.os q.tape q.output q.size (fun j E hb=>q.block j E (by rw[Q];exact fun e=>hb e.symm)) N C
  (by
   intro b i hb ho;obtain⟨ap,aq⟩:=ho;rcases C b ap with O | O
   ·refine⟨O,?_⟩;have:v.length*x<=(v++D).length*x:=C47 _ (by simp);exact Nat.le_trans this aq
   ·omega)
  (fun rd bc G' bf=>⟨_,A⟩)
 refine⟨upd G k U,T,(G7 _ _ _).symm,?_⟩;refine aI A al (by simp;omega) ?_ ?_
 ·intro g hg j z E W;refine⟨W,fun Z=>?_⟩;rcases Z with Z | ⟨k',o',hk',I,J⟩
  ·have:=h.m0 g j Z;rcases C g hg with O | O
   ·rcases h.old k _ g hk O with h2 | h2
    ·omega
    ·-- an io block: not at a growing slice
     have:=(d.lt g (by rw[Q];exact O)).1;omega
   ·have:=h.size;omega
  ·by_cases F:k'=k
   ·subst F;rw[C4]at hk';cases hk';simp only at J;omega
   ·have:=T.dis k' k o' _ g hk' (C4 _ _ _) I (by rw[G7];exact hg);exact F this
 ·-- the elements,old and new
  have L:∀b i z,D9 (Mut S ob G) w b i z->D9 (Mut S ((k,Ob.spare (v++D).length x e)::Obs.forget k ob) (upd G k U)) w' b i z:=by
   intro b i z M;refine⟨N b i z M,fun Z=>M.2 ?_⟩;have H:b<w.heap.size:=World.block_lt_of_cell? w _ M.1;rcases Z with Z | ⟨k',o1,hk',hb⟩
   ·exact .inl Z
   ·by_cases F:k'=k
    ·subst F;rw[C4]at hk';cases hk';rw[G7]at hb;obtain⟨I,J⟩:=hb;rcases C b I with O | O
     ·refine .inr ⟨k',_,hk,O,?_⟩;have:v.length*x<=(v++D).length*x:=C47 _ (by simp);exact Nat.le_trans this J
     ·omega
    ·rw[B0 (Ne.symm F),M1]at hk';cases hg:B4 ob k' with
     | none=>simp[hg]at hk'
     | some o0 =>
      simp[hg]at hk';subst hk';rw[b9 G _ F]at hb;exact .inr ⟨k',o0,hg,Own_forget.1 hb⟩
  intro i hi j E;by_cases H:i<v.length
  ·obtain⟨z,ab,ac⟩:=ai i H j E;have hw:=aw _ _ ab;refine⟨z,?_,?_⟩
   ·rw[C46 (List.getElem?_eq_some_iff.1 hw).1];exact hw
   ·rw[C82 H];exact Cell.rep_mono L _ _ ac
  ·have am:i-v.length<D.length:=by simp at hi;omega
   obtain⟨z,ab,ac⟩:=av (i-v.length) am j E;refine⟨z,?_,?_⟩
   ·have bg:v.length*x<=i*x:=C47 _ (by omega);rw[C52 (by rw[d.1];omega),d.1];have:i*x+j-v.length*x=(i-v.length)*x+j:=by rw[Nat.sub_mul];omega
    rw[this];exact ab
   ·rw[C81 (by omega)];exact Cell.rep_mono L _ _ ac
theorem R1{x y:Operand}{k:Nat}{α:Type}{K F:Nat}{c:α->Nat->Cell}{U ys:List α}{t e:TypeId}{s:SV}[ht:TySl P t e K F](hx:opv fr x=some (.s (.one (.buf k α K c U))))(hk:B4 ob k=some (.spare U.length K e))
  (hy:opv fr y=some s) (hl:IsList s α K c ys) (D:U.length+ys.length<=1073741824) (hp:Nat.blt k 1000000=true) :
  EffV P ⟨dst,.call ⟨.builtin .append,#[x,y],#[t,t]⟩,ty,pos,af,gd⟩ fr ob (.s (.one (.buf k α K c (U++ys)))) (Fr.forget k fr) ((k,.spare (U++ys).length K e)::Obs.forget k ob):=by
 intro S G a w h;have W:=ht.out.2.2.1;obtain⟨Q,O⟩:=F4 h hx;rw[Q]at O;have X:=Z6 h hy hl;obtain⟨ad,V,vs,Y,C,ab,R,L,Z,M⟩:=U1 X;obtain⟨ws,E⟩:=h.obs k _ hk;obtain⟨v',w',N,J,I,H,A⟩:=gQ (P:=P) (ty:=ty) S.B ht E h.size (u:=a.eval y) (ad:=ad) (m:=ys.length) (c:=V) (news:=vs) Y C.2 C.1 R
  (fun b o hb j z hz=>by
   rcases M with h0 | ⟨b',o',q,hr⟩
   ·have T:vs=[]:=List.eq_nil_of_length_eq_zero (by rw[R,h0];simp);rw[T]at hz;simp at hz
   ·rw[hb]at q;injection q with q;injection q with e1 e2;subst e1;subst e2
    exact (hr j z hz).1)
  (M.imp id fun ⟨b',o',q,_⟩=>⟨b',o',q⟩) L D
 exact F3 (w':=w') (v:=v') (by simp[execOp,resolve,invoke,builtin,Q,N]) (zY h W (by simpa using hp) hk O E J I H A D Z)
class TyBytes (P:Program) (t:TypeId) (e:outParam TypeId):Prop where
 out:P.underlying t=some (.slice e)/\P.underlying e=some (.int .u8)/\(P.info? e).map (fun i=>(i.zero,i.size,i.bytes))=some (some (.int .u8 0),1,1)
abbrev rX:UInt8->Nat->Cell:=fun n _=>.v (.int .u8 n.toNat)
theorem KC(l:List UInt8)(i:Nat)(b:i<l.length):(Lib.strCells ⟨l.toArray⟩)[i]?=some (.int .u8 (l[i].toNat:Int)):=by
 simp[Lib.strCells,b]
theorem qF{x y:Operand}{k:Nat}{J ys:List UInt8}{t u e:TypeId}[ht:TyBytes P t e](Y:P.underlying u=some .string)(hx:opv fr x=some (.s (.one (.buf k UInt8 1 rX J))))(hk:B4 ob k=some (.spare J.length 1 e))
  (hy:opv fr y=some (H6 ys)) (U:J.length+ys.length<=1073741824) (hp:Nat.blt k 1000000=true) :
  EffV P ⟨dst,.call ⟨.builtin .append,#[x,y],#[t,u]⟩,ty,pos,af,gd⟩ fr ob (.s (.one (.buf k UInt8 1 rX (J++ys)))) (Fr.forget k fr) ((k,.spare (J++ys).length 1 e)::Obs.forget k ob):=by
 intro S G a w h;obtain⟨I,ac,D⟩:=ht.out;cases K:P.info? e with
 | none=>simp[K]at D
 | some i =>
 simp[K]at D;obtain⟨hz,O,L⟩:=D;obtain⟨W,V⟩:=F4 h hx;rw[W]at V;have ab:=E9 h hy;obtain⟨ws,A⟩:=h.obs k _ hk;have m:(ByteArray.mk ys.toArray).size=ys.length:=aF ys;obtain⟨v',w',q,F,M,T⟩:=Lib.run_append_own_string (P:=P) w S.B t u ty e i I Y K hz O L (G k) J.length ws A ⟨ys.toArray⟩ (by rw[m];unfold maxLen;omega) (by rw[m];omega) h.size;rw[m]at F;have hb:(∀b,blk v'=some b->blk (G k)=some b\/w.heap.size<=b)/\(blk v'=blk (G k)\/∀j,j<w.heap.size->w'.heap[j]?=w.heap[j]?):=by
  rcases A.2 with ⟨E,ad⟩ | ⟨g,cap,cur,E,hbg,hgh,hnc,hcm,hcs,htake⟩
  ·rw[E]at q ⊢;rcases Nat.eq_zero_or_pos ys.length with Z | Z
   ·have Q:=T.2 ⟨E,by rw[m];exact Z⟩;subst Q;exact⟨fun b hb=>by simp[blk]at hb,.inl rfl⟩
   ·have C:=run_append_nil_string (P:=P) w t u ty e i _ I Y K hz ⟨ys.toArray⟩ (by rw[m];exact Z) (by rw[m];omega) (by rw[m,L];omega);rw[q]at C;injection C with Q hw
    subst Q;subst hw;exact⟨fun b hb=>by simp[blk]at hb;exact .inr (by omega),.inr fun j X=>heap_alloc_old w.drew _ X⟩
  ·rw[E]at q ⊢;have R:cur.size=cap:=by simpa using hcs
   by_cases H:J.length+ys.length<=cap
   ·have C:=Lib.run_append_room_string (P:=P) w t u ty e i I Y K O g J.length cap cur hgh ⟨ys.toArray⟩ (by rw[m];exact H) (by rw[m,R];exact H);rw[q]at C;injection C with Q _
    subst Q;exact⟨fun b hb=>.inl hb,.inl rfl⟩
   ·have N:∀j u,ws[j]?=some u->w.cell? ((⟨g,0,none⟩:Addr).add j)=some u:=A.cells (g:=g) (by rw[E];rfl);have C:=Lib.run_append_grow_string (P:=P) w t u ty e i _ I Y K hz ⟨g,0,none⟩ J.length cap ws (by rw[O];exact A.1) N ⟨ys.toArray⟩ (by rw[m];omega) (by rw[m];omega) (growslice_fits (by rw[m];omega) (by rw[m,L];omega));rw[q]at C;injection C with Q hw
    subst Q;subst hw;exact⟨fun b hb=>by simp[blk]at hb;exact .inr (by omega),.inr fun j X=>heap_alloc_old w.drew _ X⟩
 refine F3 (w':=w') (v:=v') (by simp[execOp,resolve,invoke,builtin,W,ab,q]) (zY h (by decide) (by simpa using hp) hk V A F M hb.1 hb.2 U fun i K j X=>?_);have:j=0:=by omega
 subst this;exact⟨_,by simpa using KC ys i K,rfl,rfl⟩
theorem aJ{x:Operand}{K d:TypeId}{e:TypeId}{s:SV}{q:List UInt8}[hs:TyBytes P K e](Y:P.underlying d=some .string)(hx:opv fr x=some s)(Z:IsList s UInt8 1 rX q) :
  Neu P ⟨dst,.convert K d x,ty,pos,af,gd⟩ fr ob (fun s'=>s'=H6 q) :=
 E1 fun S G a w h=>by
  obtain⟨E,F,M,O,H,ab,ac,U,Q,N⟩:=U1 (Z6 h hx Z);refine⟨.string ⟨q.toArray⟩,?_,rfl,rfl⟩;have I:M=(q.map fun n=>(n.toNat:Int)).map (Value.int .u8):=by
   refine List.ext_getElem? fun j=>?_;rcases Nat.lt_or_ge j q.length with L | L
   ·obtain⟨z,J,R,_⟩:=Q j L 0 (by decide);simp only[Nat.mul_one,Nat.add_zero]at J;rw[J,R];simp[L]
   ·rw[C49 (by omega),C49 (by simpa using L)]
  have C:∀(l:List UInt8) (r:ByteArray),(l.map fun n=>(n.toNat:Int)).foldl (fun r n=>r.push (UInt8.ofNat n.toNat)) r=⟨r.data++l.toArray⟩:=by
   intro l;induction l with
   | nil=>intro r;cases r;simp
   | cons b l ih=>intro r;rw[C39,C68,ih];congr 1;simp[ByteArray.push]
  have B:(Conv.bytesToString (a.eval x)).run P w=.ok (.string ⟨q.toArray⟩) w:=by
   rw[O];cases E with
   | none =>
    have:F=0:=H.2 rfl;have T:q=[]:=List.eq_nil_of_length_eq_zero (by omega);subst T;rfl
   | some E =>
    have D:(loadCells E q.length).run P w=.ok ((q.map fun n=>(n.toNat:Int)).map (Value.int .u8)).toArray w:=by
     have:=run_loadCells_list (P:=P) w E M (fun j v V=>by
      rcases N with T | ⟨b,o,hb,hr⟩
      ·have:M=[]:=List.eq_nil_of_length_eq_zero (by omega);subst this;simp at V
      ·cases hb;rw[Addr.add_lit];exact (hr j v V).1)
     rw[show M.length=q.length by omega,I]at this;exact this
    rw[run_bytesToString w E q.length F _ D,C];simp
  rw[O]at B;simp only[execOp,O];refine J8 ?_;obtain⟨W,X,_⟩:=hs.out;simp[convert,run_underlying W,run_underlying Y,run_underlying X,B]
theorem rY{D:Rd}{α:Type}{f:Nat}{c:α->Nat->Cell}{m:List α}{a:Option Addr}{d lo hi:Nat}(h:(Cell.list α f c m).rep D (.slice a m.length d))(I:lo<=hi)(J:hi<=m.length) :
  (Cell.list α f c ((m.drop lo).take (hi-lo))).rep D (sliced a lo hi d f):=by
 simp only[Cell.rep]at h ⊢;obtain⟨H,B,E,⟨K,v⟩,L,q⟩:=h;cases E;have x:((m.drop lo).take (hi-lo)).length=hi-lo:=by simp;omega
 unfold sliced;by_cases M:hi-lo=0
 ·refine⟨_,_,by rw[x],⟨by omega,?_⟩,by omega,.inl (by omega)⟩;intro C;by_cases u:d=lo
  ·omega
  ·rw[A6 u]at C;cases a with
   | none=>have:=v rfl;omega
   | some a=>simp at C
 ·rcases q with q | ⟨b,o,rfl,q⟩
  ·omega
  ·have u:d≠lo:=by omega
   refine⟨_,_,by rw[x],⟨by omega,by simp[u]⟩,by omega,.inr ⟨b,o+lo*f,by simp[u,Addr.add_lit],fun i w j F=>?_⟩⟩;rw[x]at w;obtain⟨z,y,G,A⟩:=q (lo+i) (by omega) j F;refine⟨z,?_,by omega,?_⟩
   ·have:o+lo*f+i*f+j=o+(lo+i)*f+j:=by rw[C62];omega
    rw[this];exact y
   ·have:((m.drop lo).take (hi-lo))[i]'(by omega)=m[lo+i]:=by simp
    rw[this];exact A
theorem TySl.elem{t e:TypeId}{d a:Nat}(b:TySl P t e d a):P.underlying t=some (.slice (P.elem t))/\P.elem t=e:=by
 have:P.elem t=e:=by simp[Program.elem,b.out.1]
 exact⟨by rw[this];exact b.out.1,this⟩
theorem x6{x B A:Operand}{t e:TypeId}{b g:Nat}{s:SV}{α:Type}{c:α->Nat->Cell}{d:List α}{z y:IntKind}{i j:Int}[ht:TySl P t e g b](H:opv fr x=some s)(F:IsList s α g c d)
  (r:opv fr B=some (I6 (.int z i))) (q:opv fr A=some (I6 (.int y j))) (D:0<=i) (E:i<=j) (J:j<=d.length) :
  Neu P ⟨dst,.slice t x (some B) (some A) none,ty,pos,af,gd⟩ fr ob (fun I=>I=C0 α g c ((d.drop i.toNat).take (j.toNat-i.toNat))) :=
 E1 fun S G a w h=>by
  have p:=Z6 h H F;obtain⟨C,f,v,u,_⟩:=W7 p;rw[v]at p;refine⟨_,?_,rY (lo:=i.toNat) (hi:=j.toNat) p (by omega) (by omega)⟩;simp only[execOp,v,E9 h r,E9 h q,Option.map_some,Option.map_none];refine J8 ?_;obtain⟨m,o⟩:=ht.elem;simp only[Instr.sliceAt,Sem.run_bind,run_underlying ht.out.1,Result.andThen_ok];rw[run_slice_lh w t C d.length f m z y i j D E (by omega),o,H4 ht.size];rfl
theorem nN{x z:Operand}{t e:TypeId}{b f:Nat}{s:SV}{α:Type}{c:α->Nat->Cell}{g:List α}{y:IntKind}{j:Int}[ht:TySl P t e f b](C:opv fr x=some s)(B:IsList s α f c g)
  (p:opv fr z=some (I6 (.int y j))) (A:0<=j) (E:j<=g.length) :
  Neu P ⟨dst,.slice t x none (some z) none,ty,pos,af,gd⟩ fr ob (fun D=>D=C0 α f c (g.take j.toNat)) :=
 E1 fun S G a w h=>by
  have o:=Z6 h C B;obtain⟨q,d,v,r,_⟩:=W7 o;rw[v]at o;have u:=rY (lo:=0) (hi:=j.toNat) o (by omega) (by omega);rw[List.drop_zero,Nat.sub_zero]at u;refine⟨sliced q 0 j.toNat d f,?_,u⟩;simp only[execOp,v,E9 h p,Option.map_some,Option.map_none];refine J8 ?_;obtain⟨k,m⟩:=ht.elem;simp only[Instr.sliceAt,Sem.run_bind,run_underlying ht.out.1,Result.andThen_ok];rw[run_slice_h w t q g.length d k y j A (by omega),m,H4 ht.size];rfl
theorem bT{x z:Operand}{t e:TypeId}{d g:Nat}{s:SV}{α:Type}{c:α->Nat->Cell}{b:List α}{y:IntKind}{i:Int}[ht:TySl P t e g d](E:opv fr x=some s)(D:IsList s α g c b)
  (p:opv fr z=some (I6 (.int y i))) (A:0<=i) (B:i<=b.length) :
  Neu P ⟨dst,.slice t x (some z) none none,ty,pos,af,gd⟩ fr ob (fun F=>F=C0 α g c (b.drop i.toNat)) :=
 E1 fun S G a w h=>by
  have o:=Z6 h E D;obtain⟨q,f,v,r,_⟩:=W7 o;rw[v]at o;have C:(b.drop i.toNat).take (b.length-i.toNat)=b.drop i.toNat:=C65 (by simp);have u:=rY (lo:=i.toNat) (hi:=b.length) o (by omega) (by omega);rw[C]at u;refine⟨sliced q i.toNat b.length f g,?_,u⟩;simp only[execOp,v,E9 h p,Option.map_some,Option.map_none];refine J8 ?_;obtain⟨j,m⟩:=ht.elem;simp only[Instr.sliceAt,Sem.run_bind,run_underlying ht.out.1,Result.andThen_ok];rw[run_slice_l w t q b.length f j y i A B,m,H4 ht.size];rfl
theorem NT{x o m:Operand}{t:TypeId}{l:List UInt8}{g f:IntKind}{i j:Int}[ht:TyStr P t](u:opv fr x=some (H6 l))
  (d:opv fr o=some (I6 (.int g i))) (b:opv fr m=some (I6 (.int f j))) (p:0<=i) (q:i<=j) (r:j<=l.length) :
  Neu P ⟨dst,.slice t x (some o) (some m) none,ty,pos,af,gd⟩ fr ob (fun v=>v=H6 ((l.drop i.toNat).take (j.toNat-i.toNat))) :=
 E1 fun S G a w h=>by
  refine⟨_,?_,rfl,rfl⟩;simp only[execOp,E9 h u,E9 h d,E9 h b,Option.map_some,Option.map_none];refine J8 ?_;simp only[Instr.sliceAt,Sem.run_bind,run_underlying ht.out,Result.andThen_ok];rw[run_slice_string w t _ g f i j ht.out p q (by rw[aF];exact r),ByteArray.extract_mk]
theorem YF{x f:Operand}{t:TypeId}{l:List UInt8}{d:IntKind}{j:Int}[ht:TyStr P t](o:opv fr x=some (H6 l))
  (b:opv fr f=some (I6 (.int d j))) (k:0<=j) (m:j<=l.length) :
  Neu P ⟨dst,.slice t x none (some f) none,ty,pos,af,gd⟩ fr ob (fun p=>p=H6 (l.take j.toNat)) :=
 E1 fun S G a w h=>by
  refine⟨.string ((ByteArray.mk l.toArray).extract 0 j.toNat),?_,?_,rfl⟩
  ·simp only[execOp,E9 h o,E9 h b,Option.map_some,Option.map_none];refine J8 ?_;simp only[Instr.sliceAt,Sem.run_bind,run_underlying ht.out,Result.andThen_ok];rw[run_slice_string_h w t _ ht.out d j k (by rw[aF];exact m)]
  ·rw[ByteArray.extract_mk];simp
theorem KD{x f:Operand}{t:TypeId}{l:List UInt8}{d:IntKind}{i:Int}[ht:TyStr P t](m:opv fr x=some (H6 l))
  (b:opv fr f=some (I6 (.int d i))) (j:0<=i) (k:i<=l.length) :
  Neu P ⟨dst,.slice t x (some f) none none,ty,pos,af,gd⟩ fr ob (fun o=>o=H6 (l.drop i.toNat)) :=
 E1 fun S G a w h=>by
  refine⟨.string ((ByteArray.mk l.toArray).extract i.toNat (ByteArray.mk l.toArray).size),?_,?_,rfl⟩
  ·simp only[execOp,E9 h m,E9 h b,Option.map_some,Option.map_none];refine J8 ?_;simp only[Instr.sliceAt,Sem.run_bind,run_underlying ht.out,Result.andThen_ok];rw[run_slice_string_l w t _ ht.out d i j (by rw[aF];exact k)]
  ·rw[ByteArray.extract_mk,aF,C65 (by simp)]
theorem iF(off:Nat):∀(l:List Value) (k:Nat) (b:Array Value),off+k+l.length<=b.size ->
  (l.zipIdx k).foldl (fun b (x:Value×Nat)=>b.setIfInBounds (off+x.2) x.1) b=(b.toList.take (off+k)++l++b.toList.drop (off+k+l.length)).toArray
 | [],k,b,h=>by simp
 | v::l,k,b,h=>by
  simp only[List.zipIdx_cons,C68];simp only[C34]at h;rw[iF off l (k+1) _ (by simp;omega)];apply congrArg;have c:off+k<b.toList.length:=by simp;omega
  simp only[Array.toList_setIfInBounds];have i:(b.toList.set (off+k) v).take (off+(k+1))=b.toList.take (off+k)++[v]:=by
   rw[<-Nat.add_assoc,C48 (by simpa using c),List.take_set_of_le (Nat.le_refl _)];simp
  rw[i];have j:(b.toList.set (off+k) v).drop (off+(k+1)+l.length)=b.toList.drop (off+k+(v::l).length):=by
   rw[List.drop_set_of_lt (by omega)]
   congr 1
   simp;omega
  rw[j];simp
theorem All2.setTs{R:TC->Value->Prop}{g ns:List TC}{c b:List Value}(o:Nat)(h:All2 R g c)(f:All2 R ns b):All2 R (setTs g o ns) (c.take o++b++c.drop (o+b.length)):=by
 unfold AL.setTs;rw[f.length];exact ((h.take o).append f).append (h.drop _)
theorem rZ{a ns:List TC}{o:Nat}(h:o+ns.length<=a.length):(setTs a o ns).length=a.length:=by
 simp[setTs];omega
class TyStruct (P:Program) (t:TypeId) (zs:outParam (List Value)) (offs:outParam (List (Nat×Nat))):Prop where
 out:∃fs z,P.underlying t=some (.struct fs)/\(P.info? t).bind (·.zero)=some z/\z.cells.toList=zs/\zs.all (·.oneCell')=true /\
  fs.toList.map (fun f=>(f.offset,(P.info? f.type).map (·.size)))=offs.map fun x=>(x.1,some x.2)
theorem TS{c:Array Field}{b:List (Nat×Nat)}(h:c.toList.map (fun f=>(f.offset,(P.info? f.type).map (·.size)))=b.map fun x=>(x.1,some x.2))(w:World) :
  (c.mapM fun f=>do pure (f.offset,<-sizeOf f.type):Sem (Array (Nat×Nat))).run P w=.ok b.toArray w:=by
 obtain⟨l⟩:=c;rw[Array.mapM_eq_mapM_toList];simp only at h ⊢
 have d:∀(l:List Field) (b:List (Nat×Nat)),l.map (fun f=>(f.offset,(P.info? f.type).map (·.size)))=b.map (fun x=>(x.1,some x.2)) ->
   (l.mapM fun f=>do pure (f.offset,<-sizeOf f.type):Sem (List (Nat×Nat))).run P w=.ok b w:=by
  intro l;induction l with
  | nil=>intro b h;cases b with | nil=>simp | cons=>simp at h
  | cons f l t =>
   intro b h;cases b with
   | nil=>simp at h
   | cons x b =>
    simp only[C39,List.cons.injEq,Prod.mk.injEq]at h;obtain⟨⟨g,j⟩,q⟩:=h;rw[List.mapM_cons];simp only[Sem.run_bind,H4 j,Result.andThen_ok,Sem.run_pure,t b q,g]
 rw[Sem.run_map,d l b h];rfl
def sA(fr:Fr)(a:List (Nat×Nat)):List (Nat×Operand)->List TC->Option (List TC)
 | [],ts=>some ts
 | (i,x)::r,ts=>match a[i]?,opv fr x with
  | some (off,sz),some (.s s)=>cond (Nat.beq s.cells.length sz&&H3 x&&Nat.ble (off+sz) ts.length) (sA fr a r (setTs ts off s.cells)) none
  | _,_=>none
theorem NU{S:Ctx}{G:Gh}{a:Act}{w:World}(h:Sim P S fr ob G a w)(j:List (Nat×Nat)):∀(ps:List (Nat×Operand)) (v m:List TC) (k:Array Value),
  sA fr j ps v=some m->All2 (TC.rep (D9 (Mut S ob G) w) G) v k.toList ->
  ∃q,Instr.fill (j.toArray[·]?) k (ps.map fun x=>(x.1,a.eval x.2))=some q/\All2 (TC.rep (D9 (Mut S ob G) w) G) m q.toList
 | [],v,m,k,hb,hc=>by simp only[sA,Option.some.injEq]at hb;subst hb;exact⟨k,rfl,hc⟩
 | (i,x)::r,v,m,k,hb,hc=>by
  simp only[sA]at hb;split at hb
  ·rename_i off E s O Q;cases b:(Nat.beq s.cells.length E&&H3 x&&Nat.ble (off+E) v.length) with
   | false=>simp[b]at hb
   | true =>
    rw[b]at hb;simp only[cond]at hb;simp only[C30]at b;obtain⟨⟨F,M⟩,J⟩:=b;have F:=Nat.eq_of_beq_eq_true F;have J:off+E<=v.length:=by simpa using J
    have K:=B93 (s:=s) (N8 h Q M);have D:(a.eval x).cells.size=E:=by rw[<-F,K.length];simp
    have B:=hc.length;have u:(a.eval x).cells.zipIdx.foldl (fun k (x:Value×Nat)=>k.setIfInBounds (off+x.2) x.1) k=(k.toList.take off++(a.eval x).cells.toList++k.toList.drop (off+(a.eval x).cells.toList.length)).toArray:=by
     rw[<-Array.foldl_toList,Array.toList_zipIdx];have:=iF off (a.eval x).cells.toList 0 k (by simp at B ⊢;omega);simpa using this
    obtain⟨q,N,H⟩:=NU h j r (setTs v off s.cells) m _ hb (hc.setTs off K);refine⟨q,?_,H⟩;simp only[C39,Instr.fill];have C:j.toArray[i]?=some (off,E):=by simpa using O
    rw[C];simp only[D,ne_eq,not_true_eq_false,decide_false,Bool.false_or,decide_eq_true_eq];rw[A6 (by simp at B;simp;omega)];rw[u];exact N
  ·cases hb
theorem Y9{t:TypeId}{m:List Value}{f:List (Nat×Nat)}{e:Array (Nat×Operand)}{k:List TC}[ht:TyStruct P t m f](hb:sA fr f e.toList (m.map fun c=>.p (.v c))=some k) :
  Neu P ⟨dst,.build t e,ty,pos,af,gd⟩ fr ob (fun E=>E=.s (.agg k)) :=
 E1 fun S G a w h=>by
  obtain⟨F,z,n,q,r,y,A⟩:=ht.out;obtain⟨j,C,B⟩:=NU h f e.toList _ k z.cells hb (by rw[r];exact y7 _ y);refine⟨.agg j,?_,j.toList,by simp,B⟩;simp only[execOp];refine J8 ?_;have D:(e.map fun x=>(x.1,a.eval x.2)).toList=e.toList.map fun x=>(x.1,a.eval x.2):=by simp
  simp only[Instr.build,Sem.run_bind,M5 q,Result.andThen_ok,run_underlying n,TS A];rw[show (e.map fun (x:Nat×Operand)=>match x with | (i,x)=>(i,a.eval x))=e.map fun x=>(x.1,a.eval x.2) from rfl,D,C];rfl
class Serves (t:TC) (c:Cell):Prop where
 out:∀rd G u,t.rep rd G u->c.rep rd u
instance {c:Cell}:Serves (.p c) c:=⟨fun _ _ _ h=>h⟩
instance {k:Nat} {α:Type} {ec:Nat} {c:α->Nat->Cell} {xs:List α}:Serves (.buf k α ec c xs) (.list α ec c xs):=⟨fun _ _ _ h=>h.2⟩
def zZ(fr:Fr){α:Type}(b:Nat)(c:α->Nat->Cell):List (Nat×Operand)->Nat->List α->Prop
 | [],_,ys=>ys=[]
 | (i,x)::r,n,ys=>i=n/\H3 x=true/\∃s y a,opv fr x=some (.s s)/\s.cells.length=b/\(∀rd G (d:List Value),All2 (TC.rep rd G) s.cells d->All2 (Cell.rep rd) (cellsOf c y 0 b) d)/\ys=y::a/\zZ fr b c r (n+1) a
theorem iG{S:Ctx}{G:Gh}{a:Act}{w:World}(h:Sim P S fr ob G a w){α:Type}{b:Nat}{c:α->Nat->Cell}:∀(ps:List (Nat×Operand)) (n:Nat) (E:List α) (k:Array Value),
  zZ fr b c ps n E->(n+ps.length)*b=k.size->∃K,Instr.fill (fun i=>some (i*b,b)) k (ps.map fun x=>(x.1,a.eval x.2))=some (k.toList.take (n*b)++K).toArray/\K.length=ps.length*b/\E.length=ps.length /\
   ∀i (W:i<E.length) j,j<b->∃z,K[i*b+j]?=some z/\(c E[i] j).rep (D9 (Mut S ob G) w) z
 | [],n,E,k,hb,hc=>by
  simp only[zZ]at hb;subst hb;refine⟨[],?_,by simp,by simp,fun i W=>by simp at W⟩;simp only[C43,Nat.add_zero]at hc;simp only[C77,Instr.fill,C60];rw[C65 (by simp;omega)]
 | (i,x)::r,n,E,k,hb,hc=>by
  obtain⟨rfl,hk,s,y,V,hx,Q,J,rfl,hr⟩:=hb;have q:=B93 (s:=s) (N8 h hx hk);have u:(a.eval x).cells.size=b:=by rw[<-Q,q.length];simp
  simp only[C34]at hc;have R:(i+1+r.length)*b=k.size:=by rw[<-hc];congr 1;omega
  have ab:i*b+b<=k.size:=by
   have Z:(i+1)*b<=(i+1+r.length)*b:=C47 _ (by omega);rw[C62,Nat.one_mul]at Z;omega
  have B:(a.eval x).cells.zipIdx.foldl (fun k (x:Value×Nat)=>k.setIfInBounds (i*b+x.2) x.1) k=(k.toList.take (i*b)++(a.eval x).cells.toList++k.toList.drop (i*b+(a.eval x).cells.toList.length)).toArray:=by
   rw[<-Array.foldl_toList,Array.toList_zipIdx];have:=iF (i*b) (a.eval x).cells.toList 0 k (by simp;omega);simpa using this
  obtain⟨K,hf,T,U,hv⟩:=iG h r (i+1) V (k.toList.take (i*b)++(a.eval x).cells.toList++k.toList.drop (i*b+(a.eval x).cells.toList.length)).toArray hr (by
   rw[R];simp;omega)
  refine⟨(a.eval x).cells.toList++K,?_,by simp[T,u,C62];omega,by simp[U],?_⟩
  ·simp only[C39,Instr.fill,u,ne_eq,not_true_eq_false,decide_false,Bool.false_or,decide_eq_true_eq];rw[A6 (by omega)];rw[B,hf]
   congr 2
   have X:(i+1)*b=i*b+b:=by rw[C62,Nat.one_mul]
   rw[X];have O:(k.toList.take (i*b)).length=i*b:=by simp;omega
   have v:(a.eval x).cells.toList.length=b:=by simpa using u
   have Y:List.take (i*b+b) (List.take (i*b) k.toList++(a.eval x).cells.toList++List.drop (i*b+(a.eval x).cells.toList.length) k.toList)=List.take (i*b) k.toList++(a.eval x).cells.toList:=by
    have:i*b+b=(List.take (i*b) k.toList++(a.eval x).cells.toList).length:=by rw[C32,O,v]
    rw[this];exact List.take_left
   rw[Y,C42]
  ·intro m hm j N;have v:(a.eval x).cells.toList.length=b:=by simpa using u
   cases m with
   | zero =>
    have M:=J _ _ _ q;have F:(cellsOf c y 0 b)[j]?=some (c y j):=by
     have H:j<(cellsOf c y 0 b).length:=by rw[I7];exact N
     rw[C29 H];have:=U0 c y b 0 j _ (C29 H);rw[this.1,Nat.zero_add]
    obtain⟨z,C,D⟩:=M.get j _ F;refine⟨z,?_,by simpa using D⟩;rw[Nat.zero_mul,Nat.zero_add,C46 (by rw[v];exact N)];exact C
   | succ m =>
    obtain⟨z,C,D⟩:=hv m (by simpa using hm) j N;refine⟨z,?_,by simpa using D⟩;rw[C52 (by rw[v,C62];omega),v];have:(m+1)*b+j-b=m*b+j:=by rw[C62,Nat.one_mul];omega
    rw[this];exact C
theorem C6{t e:TypeId}{k B n:Nat}{f:Array (Nat×Operand)}{α:Type}{c:α->Nat->Cell}{ys:List α}[ht:TySl P t e k B](hb:zZ fr k c f.toList 0 ys)(W:f.toList.length=n)(C:Nat.ble n 100000=true)(F:Nat.ble k 100=true) :
  Neu P ⟨dst,.buildSlice t n f,ty,pos,af,gd⟩ fr ob (fun s'=>s'=C0 α k c ys):=by
 intro S G a w h;have ab:=ht.out.2.2.1;have M:n<=100000:=by simpa using C
 have E:k<=100:=by simpa using F
 have V:n*k<=100000*100:=Nat.mul_le_mul M E;obtain⟨_,_,_,_,y⟩:=ht.out;cases K:P.info? e with
 | none=>simp[K]at y
 | some i =>
 cases Y:i.zero with
 | none=>simp[K,Y]at y
 | some z =>
 have T:(P.info? e).bind (·.zero)=some z:=by simp[K,Y]
 let g:Array Value:=(Array.range (n*k)).map ((if n*k=0 then #[] else z.cells)[· % (if n*k=0 then #[] else z.cells).size]!);have D:g.size=n*k:=by simp[g]
 obtain⟨Z,J,ac,N,hv⟩:=iG h f.toList 0 ys g hb (by rw[D,W,Nat.zero_add]);simp only[Nat.zero_mul,List.take_zero,C58]at J;have X:(f.map fun x=>(x.1,a.eval x.2)).toList=f.toList.map fun x=>(x.1,a.eval x.2):=by simp
 refine F3 (w':=w.alloc (.cells Z.toArray e)) (v:=.slice (some ⟨w.heap.size,0,none⟩) n n) ?_ ?_
 ·simp only[execOp];refine J8 ?_;simp only[Instr.buildSlice,Sem.run_bind,run_underlying ht.out.1,Result.andThen_ok,H4 ht.size];rw[A6 (by omega)];by_cases A:n*k=0
  ·simp only[A,if_true,Sem.run_bind,Sem.run_pure,Result.andThen_ok];have q:g=(Array.range 0).map ((#[]:Array Value)[· % (#[]:Array Value).size]!):=by simp only[g,A,if_true]
   rw[show (f.map fun (x:Nat×Operand)=>match x with | (i,x)=>(i,a.eval x))=f.map fun x=>(x.1,a.eval x.2) from rfl,X,<-q,J];simp[newRow]
  ·simp only[A6 A,Sem.run_bind,M5 T,Sem.run_pure,Result.andThen_ok];have q:g=(Array.range (n*k)).map (z.cells[· % z.cells.size]!):=by simp only[g,A6 A]
   rw[show (f.map fun (x:Nat×Operand)=>match x with | (i,x)=>(i,a.eval x))=f.map fun x=>(x.1,a.eval x.2) from rfl,X,<-q,J];simp[newRow]
 ·have I:Below w.heap.size w (w.alloc (.cells Z.toArray e)):=(Below.refl _ _).alloc (Nat.le_refl _) _;refine⟨I,_,rfl,?_⟩;show (Cell.list α k c ys).rep _ _;simp only[Cell.rep];have O:ys.length=n:=by rw[N,W]
  refine⟨some ⟨w.heap.size,0,none⟩,n,by rw[O],⟨by omega,by simp⟩,by omega,.inr ⟨w.heap.size,0,rfl,fun m U j hj=>?_⟩⟩;obtain⟨zz,Q,R⟩:=hv m U j hj;refine⟨zz,⟨?_,fun H=>?_⟩,U,Cell.rep_mono (fun _ _ _ hr=>u6 I hr) _ _ R⟩
  ·rw[Nat.zero_add];exact cell_of_heap (heap_alloc_new w _) (by simpa using Q)
  ·have:=h.mut_lt H;omega
theorem oU{z:Array Value}{n a i j:Nat}(g:z.size=a)(d:i<n)(e:j<a):(madeCells z (n*a))[i*a+j]?=z[j]?:=by
 have c:i*a+j<n*a:=by
  have:(i+1)*a<=n*a:=C47 _ d;rw[C62]at this;omega
 have f:(i*a+j) % z.size=j:=by rw[g,Nat.mul_comm,Nat.mul_add_mod,Nat.mod_eq_of_lt e]
 have b:j<z.size:=by omega
 simp[madeCells,c,f,b]
theorem e_make(k:Nat){t e:TypeId}{A B:Nat}{x y:Operand}{Y Z:IntKind}{n:Int}{α:Type}{c:α->Nat->Cell}{D:α}{zs:List Value}[ht:TySl P t e A B]
  (hx:opv fr x=some (I6 (.int Y n))) (hy:opv fr y=some (I6 (.int Z n))) (h0:0<=n) (hn:n<=1073741824) (X:((P.info? e).bind (·.zero)).map (fun z=>z.cells.toList)=some zs)
  (R:∀rd:Rd,All2 (Cell.rep rd) (cellsOf c D 0 A) zs) (hk:B4 ob k=none) (hp:k<1000000) :
  EffV P ⟨dst,.makeSlice t x y,ty,pos,af,gd⟩ fr ob (.s (.one (.mut k))) (Fr.forget k fr) ((k,.arr α A c (List.replicate n.toNat D))::Obs.forget k ob):=by
 intro S G a w h;obtain⟨M,f,ac,ab,q⟩:=ht.out;cases H:P.info? e with
 | none=>simp[H]at f
 | some i =>
 simp[H]at f;obtain⟨L,J⟩:=f;cases C:i.zero with
 | none=>simp[H,C]at q
 | some z =>
 simp[H,C]at q X;have E:(i.bytes:Int)*n<=281474976710656:=by
  have h1:(i.bytes:Int)<=4096:=by omega
  have h2:(i.bytes:Int)*n<=4096*1073741824:=by
   have:i.bytes*n.toNat<=4096*1073741824:=Nat.mul_le_mul (by omega) (by omega);have U:((i.bytes*n.toNat:Nat):Int)<=((4096*1073741824:Nat):Int):=by exact_mod_cast this
   rw[Int.natCast_mul]at U;have h4:(n.toNat:Int)=n:=by omega
   rw[h4]at U;omega
  omega
 have W:=run_make (P:=P) w t e i z M H C Y Z n n h0 (Int.le_refl _) E (by omega);rw[L]at W;refine F3 (w':=w.alloc (.cells (madeCells z.cells (n.toNat*A)) e)) (v:=.slice (some ⟨w.heap.size,0,none⟩) n.toNat n.toNat) ?_ ?_
 ·simp only[execOp,E9 h hx,E9 h hy];exact J8 W
 ·have Q:Below w.heap.size w (w.alloc (.cells (madeCells z.cells (n.toNat*A)) e)):=(Below.refl _ _).alloc (Nat.le_refl _) _;have hu:∀b,blk (.slice (some ⟨w.heap.size,0,none⟩) n.toNat n.toNat)=some b->w.heap.size<=b:=by intro b hb;simp[blk]at hb;omega
  refine⟨upd G k (.slice (some ⟨w.heap.size,0,none⟩) n.toNat n.toNat),h.new hp hk Q hu ?_,⟨(G7 _ _ _).symm,rfl⟩⟩;refine⟨w.heap.size,madeCells z.cells (n.toNat*A),e,by simp,by simp;omega,heap_alloc_new w _,by simp[size_madeCells],fun m hm j V=>?_⟩;have K:m<n.toNat:=by simpa using hm
  have T:=R (D9 (Mut S ((k,Ob.arr α A c (List.replicate n.toNat D))::Obs.forget k ob) (upd G k (.slice (some ⟨w.heap.size,0,none⟩) n.toNat n.toNat))) (w.alloc (.cells (madeCells z.cells (n.toNat*A)) e)));have F:(cellsOf c D 0 A)[j]?=some (c D j):=by
   have I:j<(cellsOf c D 0 A).length:=by rw[I7];exact V
   rw[C29 I];have:=U0 c D A 0 j _ (C29 I);rw[this.1,Nat.zero_add]
  obtain⟨u,N,O⟩:=T.get j _ F;refine⟨u,?_,by simpa using O⟩;rw[oU q K V,<-Array.getElem?_toList,X];exact N
theorem GJ{x:Operand}{t e:TypeId}{j d k:Nat}{α:Type}{p:Nat}{c:α->Nat->Cell}{f:List α}(y:opv fr x=some (.s (.one (.mut k))))(v:B4 ob k=some (.arr α p c f))[ht:TySl P t e j d] :
  Neu P ⟨dst,.call ⟨.builtin .len,#[x],#[t]⟩,ty,pos,af,gd⟩ fr ob (fun z=>z=B2 f.length) :=
 E1 fun S G a w h=>by
  refine⟨.int .i64 f.length,?_,rfl,rfl⟩;obtain⟨g,_⟩:=F4 h y;obtain⟨b,B,A,q,_⟩:=h.obs k _ v;rw[q]at g;simp[execOp,resolve,invoke,builtin,g,Builtin.len_,run_underlying ht.out.1,goInt]
theorem E0{x y:Operand}{t e:TypeId}{l g k:Nat}{α:Type}{c:α->Nat->Cell}{j:List α}{F:IntKind}{i:Int}[ht:TySl P t e l g](D:opv fr x=some (.s (.one (.mut k))))(C:B4 ob k=some (.arr α l c j))
  (E:opv fr y=some (I6 (.int F i))) (z:0<=i) (B:i<j.length):Neu P ⟨dst,.indexAddr t x y,ty,pos,af,gd⟩ fr ob (fun H=>H=.s (.one (.mref k l i.toNat 0))) :=
 E1 fun S G a w h=>by
  obtain⟨v,_⟩:=F4 h D;obtain⟨b,J,I,q,_⟩:=h.obs k _ C;rw[q]at v;refine⟨.pointer (some ⟨b,i.toNat*l,none⟩),?_,b,j.length,j.length,q,rfl⟩;simp only[execOp,v,E9 h E];refine J8 ?_;have hb:0<=i/\i<(j.length:Int):=⟨z,B⟩
  simp[Instr.indexAt,run_underlying ht.out.1,asIntOf,hb,H4 ht.size,Addr.add_lit]
theorem Sim.arr_cell{S:Ctx}{G:Gh}{a:Act}{w:World}(h:Sim P S fr ob G a w){k:Nat}{α:Type}{g:Nat}{c:α->Nat->Cell}{u:List α}(C:B4 ob k=some (.arr α g c u)){b n f:Nat}(y:G k=.slice (some ⟨b,0,none⟩) n f)
  {i j:Nat} {v:α} (D:u[i]?=some v) (B:j<g):∃z,w.cell? ⟨b,i*g+j,none⟩=some z/\(c v j).rep (D9 (Mut S ob G) w) z:=by
 obtain⟨E,H,F,d,_,A,_,x⟩:=h.obs k _ C;rw[y]at d;cases d;obtain⟨m,o⟩:=List.getElem?_eq_some_iff.1 D;obtain⟨z,q,t⟩:=x i m j B;exact⟨z,cell_of_heap A q,by rw[<-o];exact t⟩
theorem M9{x:Operand}{t:TypeId}{k i o:Nat}{α:Type}{g:Nat}{c:α->Nat->Cell}{u:List α}{v:α}[ht:TyOne P t](F:opv fr x=some (.s (.one (.mref k g i o))))(B:B4 ob k=some (.arr α g c u))(E:u[i]?=some v)
  (C:Nat.blt o g=true):Neu P ⟨dst,.load t x,ty,pos,af,gd⟩ fr ob (fun H=>H=.s (.one (.p (c v o)))) :=
 E1 fun S G a w h=>by
  obtain⟨b,n,y,A,D⟩:=F4 h F;obtain⟨z,j,q⟩:=h.arr_cell B A E (by simpa using C);refine⟨z,?_,q⟩;simp only[execOp,D];exact J8 (by simp[Instr.loadAt,Instr.sureAddr,P2 j])
theorem iH{c:Rd}{G:Gh}:∀{b:List TC} {a:List Value},All2 (TC.rep c G) b a->∀u∈a,u.oneCell'=true
 | [],[],_,u,hu=>by cases hu
 | [],_::_,h,_,_=>h.elim
 | _::_,[],h,_,_=>h.elim
 | t::b,v::a,h,u,hu=>by
  rcases C36.1 hu with rfl | hu
  ·exact TC.rep_one h.1
  ·exact iH h.2 u hu
theorem sB{t:TypeId}{x F:Operand}{k i o n:Nat}{α:Type}{d:Nat}{c:α->Nat->Cell}{J:List α}{v y:α}{s:S1}(ap:(P.info? t).map (·.size)=some n)(hx:opv fr x=some (.s (.one (.mref k d i o))))(hk:B4 ob k=some (.arr α d c J))
  (hv:J[i]?=some v) (hy:opv fr F=some (.s s)) (Z:H3 F=true) (hn:s.cells.length=n) (ho:Nat.ble (o+n) d=true)
  (ae:∀(rd:Rd) G (us:List Value),All2 (TC.rep rd G) s.cells us->All2 (Cell.rep rd) (cellsOf c y o n) us) (ag:∀j,j<d->(j<o\/o+n<=j)->c y j=c v j) :
  Eff P ⟨none,.store t x F,ty,pos,af,gd⟩ fr ob fr ((k,.arr α d c (J.set i y))::ob):=by
 intro S G a w h;obtain⟨b,m,av,hg,hu⟩:=F4 h hx;obtain⟨b',N,tt,ab,ad,hh,aj,hc⟩:=h.obs k _ hk;rw[hg]at ab;cases ab;obtain⟨am,ar⟩:=List.getElem?_eq_some_iff.1 hv;have hr:(SV.s s).rep (D9 (Mut S ob G) w) G (a.eval F):=N8 h hy Z;have q:=B93 hr;have B:(a.eval F).cells.size=n:=by rw[<-hn,q.length];simp
 have aw:o+n<=d:=by simpa using ho
 have au:i*d+d<=N.size:=by
  rw[aj];have:(i+1)*d<=J.length*d:=C47 _ am;rw[C62,Nat.one_mul]at this;omega
 have ak:w.heap[b]?=some (.cells N.toList.toArray tt (0,0)):=by rw[Array.toArray_toList];exact hh
 obtain⟨w',ai,ao,Y,ah,X,I,R⟩:=Y8 (P:=P) (t:=t) (w:=w) (b:=b) (o:=i*d+o) (v:=a.eval F) (by rw[ap,B]) ak (iH q) (by rw[B];simp;omega);unfold Does;have he:(execOp a.eval ⟨none,.store t x F,ty,pos,af,gd⟩).run P w=.ok .skip w':=by
  simp[execOp,hu,Instr.storeAt,Instr.sureAddr,ai]
 rw[he];have O:blk (G k)=some b:=by rw[hg];rfl
 refine⟨G,h.write hk O (fun i=>⟨O,trivial⟩) (fun i=>⟨O,trivial⟩) ao Y ah (Nat.le_of_eq X.symm) (fun j _=>I j) ?_⟩;intro rd W;have aq:(a.eval F).cells.toList.length=n:=by simpa using B
 refine⟨b,_,tt,by rw[hg];simp,by simpa using ad,R,?_,?_⟩
 ·simp[B];omega
 ·intro p hp j hj;have U:p<J.length:=by simpa using hp
  have H:(N.toList.take (i*d+o)).length=i*d+o:=by simp;omega
  have T:(N.toList.take (i*d+o)++(a.eval F).cells.toList).length=i*d+o+n:=by rw[C32,H,aq]
  rw[List.getElem?_toArray];have ax:p*d+j<N.size:=by
   rw[aj];have:(p+1)*d<=J.length*d:=C47 _ U;rw[C62,Nat.one_mul]at this;omega
  have C:(p*d+j<i*d+o\/i*d+o+n<=p*d+j)->(N.toList.take (i*d+o)++(a.eval F).cells.toList++N.toList.drop (i*d+o+(a.eval F).cells.size))[p*d+j]?=N[p*d+j]?:=by
   intro Q;rcases Q with K | K
   ·rw[C42,C46 (by rw[H];exact K),C59 K];simp
   ·rw[C52 (by rw[T];exact K),T,C61,B];have:i*d+o+n+(p*d+j-(i*d+o+n))=p*d+j:=by omega
    rw[this];simp
  by_cases V:p=i
  ·subst V;have D:(J.set p y)[p]'hp=y:=by simp
   rw[D];by_cases al:j<o\/o+n<=j
   ·rw[C (by omega),ag j hj al];obtain⟨z,E,A⟩:=hc p U j hj;rw[ar]at A;exact⟨z,E,Cell.rep_mono W _ _ A⟩
   ·have an:=ae _ _ _ q;have ac:(cellsOf c y o n)[j-o]?=some (c y j):=by
     have M:j-o<(cellsOf c y o n).length:=by rw[I7];omega
     rw[C29 M];have:=U0 c y n o (j-o) _ (C29 M);rw[this.1];congr 2;omega
    obtain⟨z,E,A⟩:=an.get _ _ ac;refine⟨z,?_,Cell.rep_mono W _ _ A⟩;rw[C46 (by rw[T];omega),C52 (by rw[H];omega),H];have:p*d+j-(p*d+o)=j-o:=by omega
    rw[this];exact E
  ·have D:(J.set i y)[p]'hp=J[p]:=by rw[List.getElem_set_ne (Ne.symm V)]
   rw[D,C (by
    rcases Nat.lt_or_gt_of_ne V with K | K
    ·left;have:(p+1)*d<=i*d:=C47 _ K;rw[C62,Nat.one_mul]at this;omega
    ·right;have:(i+1)*d<=p*d:=C47 _ K
     rw[C62,Nat.one_mul]at this;omega)]
   obtain⟨z,E,A⟩:=hc p U j hj;exact⟨z,E,Cell.rep_mono W _ _ A⟩
def TC.freeze(k:Nat)(α:Type)(a:Nat)(c:α->Nat->Cell)(xs:List α):TC->TC
 | .mut k'=>cond (Nat.beq k' k) (.p (.list α a c xs)) (.mut k')
 | t=>t
def S1.freeze(k:Nat)(α:Type)(b:Nat)(c:α->Nat->Cell)(xs:List α):S1->S1
 | .one t=>.one (t.freeze k α b c xs)
 | .agg d=>.agg (d.map (TC.freeze k α b c xs))
def SV.freeze(k:Nat)(α:Type)(b:Nat)(c:α->Nat->Cell)(xs:List α):SV->SV
 | .s x=>.s (x.freeze k α b c xs)
 | .tup l=>.tup (l.map (S1.freeze k α b c xs))
 | .any=>.any
 | .un=>.un
def Ob.freeze(k:Nat)(α:Type)(h:Nat)(c:α->Nat->Cell)(xs:List α):Ob->Ob
 | .box f=>.box (f.map (TC.freeze k α h c xs))
 | .tbx e f=>.tbx e (f.map (TC.freeze k α h c xs))
 | .tarr n d f=>.tarr n d (f.map (TC.freeze k α h c xs))
 | .growA i q d l j p f=>.growA i q d l j p (f.map (TC.freeze k α h c xs))
 | .growT i m d f=>.growT i m d (f.map (TC.freeze k α h c xs))
 | o=>o
theorem TC.rep_freeze{d:Rd}{G:Gh}{k:Nat}{α:Type}{g:Nat}{c:α->Nat->Cell}{j:List α}(q:(Cell.list α g c j).rep d (G k)):∀{t:TC} {u:Value},t.rep d G u->(t.freeze k α g c j).rep d G u
 | .mut k',u,h=>by
  simp only[TC.freeze];cases hb:Nat.beq k' k
  ·exact h
  ·have:=Nat.eq_of_beq_eq_true hb;subst this;simp only[cond];rw[h.1];exact q
 | .p _,u,h=>h
 | .buf _ _ _ _ _,u,h=>h
 | .ref _ _,u,h=>h
 | .eref _ _ _ _ _,u,h=>h
 | .mref _ _ _ _,u,h=>h
 | .any,u,h=>h
 | .clo _ _ _,_,h=>h
 | .msl _ _ _ _,_,h=>h
 | .full _ _ _ _,_,h=>h
 | .ifc _ _ _,_,h=>h
 | .fnc _ _,_,h=>h
 | .fncE _ _ _ _ _,_,h=>h
theorem S1.rep_freeze{d:Rd}{G:Gh}{k:Nat}{α:Type}{b:Nat}{c:α->Nat->Cell}{f:List α}(i:(Cell.list α b c f).rep d (G k)):∀{t:S1} {u:Value},t.rep d G u->(t.freeze k α b c f).rep d G u
 | .one t,u,h=>TC.rep_freeze (t:=t) i h
 | .agg ts,u,⟨vs,h1,h2⟩=>⟨vs,h1,h2.map (TC.freeze k α b c f) fun _ _=>TC.rep_freeze i⟩
theorem SV.rep_freeze{d:Rd}{G:Gh}{k:Nat}{α:Type}{b:Nat}{c:α->Nat->Cell}{f:List α}(g:(Cell.list α b c f).rep d (G k)):∀{t:SV} {u:Value},t.rep d G u->(t.freeze k α b c f).rep d G u
 | .s t,u,h=>S1.rep_freeze (t:=t) g h
 | .tup ts,u,⟨vs,h1,h2⟩=>⟨vs,h1,h2.map (S1.freeze k α b c f) fun _ _=>S1.rep_freeze g⟩
 | .any,_,_=>trivial
 | .un,_,h=>h
def B99(f:SV->SV)(fr:Fr):Fr:=fr.map fun x=>(x.1,f x.2)
def B94(f:Ob->Ob)(ob:Obs):Obs:=ob.map fun x=>(x.1,f x.2)
theorem uU(f:SV->SV):∀(fr:Fr) (i:Nat),D4 (B99 f fr) i=(D4 fr i).map f
 | [],i=>rfl
 | (j,s)::r,i=>by
  by_cases h:j=i
  ·subst h;simp[B99,D4]
  ·have b:=uU f r i;simp only[B99,C39]at b ⊢;rw[B9 h,B9 h,b]
theorem getO_mapO(f:Ob->Ob):∀(ob:Obs) (i:Nat),B4 (B94 f ob) i=(B4 ob i).map f
 | [],i=>rfl
 | (j,s)::r,i=>by
  by_cases h:j=i
  ·subst h;simp[B94,B4]
  ·have b:=getO_mapO f r i;simp only[B94,C39]at b ⊢;rw[B0 h,B0 h,b]
theorem Sim.freeze{S:Ctx}{G:Gh}{a:Act}{w:World}(h:Sim P S fr ob G a w){k:Nat}{α:Type}{q:Nat}{c:α->Nat->Cell}{xs:List α}(Z:B4 ob k=some (.arr α q c xs)) :
  Sim P S (B99 (SV.freeze k α q c xs) fr) (B94 (Ob.freeze k α q c xs) (Obs.drop k ob)) G a w:=by
 have Q:=h.drop k;obtain⟨b,V,t,Y,R,hh,ad,hc⟩:=h.obs k _ Z;have m:∀k' o,B4 (B94 (Ob.freeze k α q c xs) (Obs.drop k ob)) k'=some o->∃D,B4 (Obs.drop k ob) k'=some D/\o=D.freeze k α q c xs:=by
  intro k' o d;rw[getO_mapO]at d;cases A:B4 (Obs.drop k ob) k' with
  | none=>simp[A]at d
  | some D=>simp[A]at d;exact⟨D,rfl,d.symm⟩
 have J:∀(u:Value) (o:Ob) (b i:Nat),Own u (o.freeze k α q c xs) b i↔Own u o b i:=by intro u o b i;cases o<;>simp[Own,Ob.freeze]
 have H:∀b i,Mut S (B94 (Ob.freeze k α q c xs) (Obs.drop k ob)) G b i->Mut S (Obs.drop k ob) G b i:=by
  intro b i y;rcases y with y | ⟨k',o,d,hb⟩
  ·exact .inl y
  ·obtain⟨D,O,rfl⟩:=m k' o d;exact .inr ⟨k',D,O,(J _ _ _ _).1 hb⟩
 have L:∀b i z,D9 (Mut S (Obs.drop k ob) G) w b i z->D9 (Mut S (B94 (Ob.freeze k α q c xs) (Obs.drop k ob)) G) w b i z:=fun b i z K=>⟨K.1,fun y=>K.2 (H b i y)⟩
 have T:∀b i z,D9 (Mut S ob G) w b i z->D9 (Mut S (Obs.drop k ob) G) w b i z:=by
  intro b i z K;refine⟨K.1,fun y=>K.2 ?_⟩;rcases y with y | ⟨k',o',d,hb⟩
  ·exact .inl y
  ·refine .inr ⟨k',o',?_,hb⟩;by_cases B:k'=k
   ·subst B;rw[O4]at d;cases d
   ·rwa[M4 B]at d
 have f:(Cell.list α q c xs).rep (D9 (Mut S (B94 (Ob.freeze k α q c xs) (Obs.drop k ob)) G) w) (G k):=by
  simp only[Cell.rep];refine⟨_,_,Y,⟨Nat.le_refl _,by simp⟩,R,.inr ⟨b,0,rfl,fun i I j hj=>?_⟩⟩;obtain⟨z,ab,ac⟩:=hc i I j hj;refine⟨z,⟨by rw[Nat.zero_add];exact cell_of_heap hh ab,fun y=>?_⟩,I,Cell.rep_mono (fun _ _ _ K=>L _ _ _ (T _ _ _ K)) _ _ ac⟩;rcases H _ _ y with y | ⟨k',o',d,hb,_⟩
  ·have:=h.m0 _ _ y;rcases h.old k _ b Z (by rw[Y];rfl) with v | v
   ·omega
   ·exact h.m0io _ _ y v.1
  ·by_cases B:k'=k
   ·subst B;rw[O4]at d;cases d
   ·rw[M4 B]at d;exact B (h.dis k' k o' _ b d Z hb (by rw[Y];rfl))
 exact { Q with
  old:=fun k' o b d=>let ⟨D,O,_⟩:=m k' o d;Q.old k' D b O
  dis:=fun k1 k2 o1 o2 b v C=>let ⟨oa,ha,_⟩:=m k1 o1 v;let ⟨ob',X,_⟩:=m k2 o2 C;Q.dis k1 k2 oa ob' b ha X
  obs:=fun k' o d=>by
   obtain⟨D,O,rfl⟩:=m k' o d;have g:=(Q.obs k' D O).ext L (Below.refl _ _);cases D with
   | box U=>obtain⟨M,E,t',v,C,F⟩:=g;exact⟨M,E,t',v,C,F.map (TC.freeze k α q c xs) fun _ _=>TC.rep_freeze f⟩
   | tbx e U=>obtain⟨M,E,v,C,F⟩:=g;exact⟨M,E,v,C,F.map (TC.freeze k α q c xs) fun _ _=>TC.rep_freeze f⟩
   | tarr n N U=>obtain⟨M,E,t',v,hl,C,hn,F⟩:=g;exact⟨M,E,t',v,hl,C,by simpa using hn,F.map (TC.freeze k α q c xs) fun _ _=>TC.rep_freeze f⟩
   | arr=>exact g
   | spare=>exact g
   | grow=>exact g
   | map=>exact g
   | growA e' α' N c' ae p U=>obtain⟨V,v,C,F,W,h5,h6⟩:=g;exact⟨V,v,C,F,by simpa using W,h5,h6.map (TC.freeze k α q c xs) fun _ _=>TC.rep_freeze f⟩
   | growT e' n' N U=>obtain⟨V,v,C,F,W⟩:=g;exact⟨V,v,C,by simpa using F,W.map (TC.freeze k α q c xs) fun _ _=>TC.rep_freeze f⟩
  facts:=fun i s I=>by
   rw[uU]at I;cases A:D4 fr i with
   | none=>simp[A]at I
   | some s0 =>
    simp[A]at I;subst I
    exact SV.rep_freeze f (SV.rep_mono L (Q.facts i s0 A)) }
section
def dT:List TC->Option (List Cell)
 | []=>some []
 | t::r=>match t.pure?,dT r with
  | some c,some cs=>some (c::cs)
  | _,_=>none
def S1.pv?:S1->Option PV
 | .one t=>match t.pure? with
  | some c=>some (.one c)
  | none=>none
 | .agg d=>match dT d with
  | some b=>some (.agg b)
  | none=>none
theorem r8{e:Rd}{G:Gh}:∀{b:List TC} {a:List Cell} {d:List Value},dT b=some a->All2 (TC.rep e G) b d->All2 (Cell.rep e) a d
 | [],a,[],h,_=>by simp[dT]at h;subst h;trivial
 | [],_,_::_,_,h=>h.elim
 | _::_,_,[],_,h=>h.elim
 | t::b,a,v::d,h,ha=>by
  simp only[dT]at h;split at h
  ·rename_i c f g i;cases h;exact⟨C05 g ha.1,r8 i ha.2⟩
  ·cases h
theorem C11{d:Rd}{G:Gh}:∀{s:S1} {p:PV} {u:Value},s.pv?=some p->s.rep d G u->p.rep d u
 | .one t,p,u,h,hr=>by
  simp only[S1.pv?]at h;split at h
  ·rename_i c b;cases h;exact C05 b hr
  ·cases h
 | .agg ts,p,u,h,hr=>by
  simp only[S1.pv?]at h;split at h
  ·rename_i i b;cases h;obtain⟨f,rfl,ha⟩:=hr;exact⟨f,rfl,r8 b ha⟩
  ·cases h
def PV.s1:PV->S1
 | .one c=>.one (.p c)
 | .agg b=>.agg (b.map .p)
theorem KE{b:Rd}{G:Gh}:∀{a:List Cell} {c:List Value},All2 (Cell.rep b) a c->All2 (TC.rep b G) (a.map .p) c
 | [],[],_=>trivial
 | [],_::_,h=>h.elim
 | _::_,[],h=>h.elim
 | _::_,_::_,h=>⟨h.1,KE h.2⟩
theorem PV.rep_s1{b:Rd}{G:Gh}:∀{p:PV} {u:Value},p.rep b u->p.s1.rep b G u
 | .one c,u,h=>h
 | .agg cs,u,⟨vs,h1,h2⟩=>⟨vs,h1,KE h2⟩
def oV:List PV->SV
 | [p]=>.s p.s1
 | ps=>.tup (ps.map PV.s1)
def ResRep(a:Rd)(c:List PV)(v:Value):Prop :=
 match c with
 | [p]=>p.rep a v
 | ps=>∃b,v=.tuple (List.toArray b)/\All2 (PV.rep a) ps b
theorem ResRep.sv{b:Rd}{G:Gh}{a:List PV}{v:Value}(h:ResRep b a v):(oV a).rep b G v:=by
 match a,h with
 | [p],h=>exact PV.rep_s1 h
 | [],⟨us,h1,h2⟩=>exact⟨us,h1,h2.map PV.s1 fun _ _=>PV.rep_s1⟩
 | _::_::_,⟨us,h1,h2⟩=>exact⟨us,h1,h2.map PV.s1 fun _ _=>PV.rep_s1⟩
theorem ResRep.mono{d a:Rd}(c:∀b i z,d b i z->a b i z){rs:List PV}{v:Value}(h:ResRep d rs v):ResRep a rs v:=by
 match rs,h with
 | [p],h=>exact PV.rep_mono c h
 | [],⟨us,h1,h2⟩=>exact⟨us,h1,h2.mono fun _ _=>PV.rep_mono c⟩
 | _::_::_,⟨us,h1,h2⟩=>exact⟨us,h1,h2.mono fun _ _=>PV.rep_mono c⟩
def Callable(P:Program)(f:FuncId):Prop:=∃fn,P.funcs[f]?=some fn/\(fn.name == "runtime.NumGoroutine")=false/\fn.body.isSome=true
def FnOk(P:Program)(f:FuncId)(args:List PV)(c:List PV->Prop):Prop :=
 Callable P f/\∀(w:World) (M:Nat->Nat->Prop) (a:List Value),Grd P (fun _=>False) w->(∀b i,M b i->b<w.heap.size)->All2 (PV.rep (D9 M w)) args a ->
  Calls P f a.toArray w (fun e w'=>∃v rs,e=.returned v/\c rs/\ResRep (D9 M w') rs v/\Below w.heap.size w w')
theorem FnOk.mono{P:Program}{f:FuncId}{args:List PV}{b a:List PV->Prop}(h:FnOk P f args b)(p:∀rs,b rs->a rs):FnOk P f args a :=
 ⟨h.1,fun w M c l k ha=>(h.2 w M c l k ha).mono fun e w' ⟨v,rs,d,g,i,j⟩=>⟨v,rs,d,p _ g,i,j⟩⟩
def eP(fr:Fr):List Operand->Option (List PV)
 | []=>some []
 | x::r=>match opv fr x with
  | some (.s s)=>match s.pv?,eP fr r with
   | some p,some ps=>some (p::ps)
   | _,_=>none
  | _=>none
section
variable {P:Program}{dst:Option Tmp}{ty:TypeId}{pos:String}{af:Array Edge}{gd:Option (Nat×Bool)}{fr:Fr}{ob:Obs}
theorem jC{S:Ctx}{G:Gh}{a:Act}{w:World}(h:Sim P S fr ob G a w):∀(d:List Operand) (ps:List PV),eP fr d=some ps->d.all H3=true->All2 (PV.rep (D9 (Mut S ob G) w)) ps (d.map a.eval)
 | [],ps,h1,_=>by simp[eP]at h1;subst h1;trivial
 | x::r,ps,h1,h2=>by
  simp only[List.all_cons,C30]at h2;simp only[eP]at h1;split at h1
  ·rename_i s hs;split at h1
   ·rename_i p c e b;cases h1;exact⟨C11 e (N8 h hs h2.1),jC h r c b h2.2⟩
   ·cases h1
  ·cases h1
theorem Sim.grdW{S:Ctx}{G:Gh}{a:Act}{w:World}(h:Sim P S fr ob G a w):Grd P (fun _=>False) w:=by
 obtain⟨f,e,c,d⟩:=h.grd;exact⟨f,e,Nat.le_trans c h.size,fun k b=>⟨(h.keep k (Nat.lt_of_lt_of_le b c) (d k b).2).trans (d k b).1,id⟩⟩
theorem Q5{f:FuncId}{args:Array Value}{w:World}(d:Callable P f):(callFunc f args).run P w=.ok (.enter f args) w:=by
 obtain⟨fn,a,b,c⟩:=d;have g:fn.body.isNone=false:=by cases hb:fn.body<;>simp[hb]at c ⊢
 simp only[callFunc,Sem.run_bind,run_program,Result.andThen_ok,a];rw[A6 (by simpa using b),A6 (by simp[g])];rfl
theorem n_call{f:FuncId}{d:Array Operand}{ats:Array TypeId}{ps:List PV}{j:List PV->Prop}(x:FnOk P f ps j)(ha:eP fr d.toList=some ps)(z:d.toList.all H3=true) :
  Neu P ⟨dst,.call ⟨.value (.func f),d,ats⟩,ty,pos,af,gd⟩ fr ob (fun s=>∃q,j q/\s=oV q):=by
 intro S G a w h;have p:=jC h d.toList ps ha z;have g:=x.2 w (Mut S ob G) (d.toList.map a.eval) h.grdW (fun b i C=>h.mut_lt C) p;have m:(d.toList.map a.eval).toArray=d.map a.eval:=by rw[<-Array.toList_map,Array.toArray_toList]
 unfold Does;have B:(execOp a.eval ⟨dst,.call ⟨.value (.func f),d,ats⟩,ty,pos,af,gd⟩).run P w=.ok (.enter f (d.map a.eval)) w:=by
  simp only[execOp,resolve,Act.eval,Deferred.ofValue,Sem.run_bind,Sem.run_pure,Result.andThen_ok,invoke];rw[show (#[]:Array Value)++Array.map a.eval d++#[]=d.map a.eval by simp];exact Q5 x.1
 rw[B];rw[m]at g;refine g.mono ?_;rintro e w' ⟨v,q,rfl,D,E,hb⟩;exact⟨v,rfl,hb,_,⟨q,D,rfl⟩,E.sv⟩
end
section
variable {P:Program}{nt:Nat}{ops:Array Oper}{rest:List Oper}{fr:Fr}{ob:Obs}{Q:Post}{d:Nat}
theorem x7{f:FuncId}{b:Array Operand}{h:Array TypeId}{ty:TypeId}{pos:String}{af:Array Edge}{ps:List PV}{g:List PV->Prop}(o:FnOk P f ps g)(ha:eP fr b.toList=some ps)(i:b.toList.all H3=true)(j:Nat.blt d nt=true)
  (k:∀rs,g rs->WpL P nt ops rest ((d,oV rs)::fr) ob Q):WpL P nt ops (⟨some d,.call ⟨.value (.func f),b,h⟩,ty,pos,af,none⟩::rest) fr ob Q :=
 JX (n_call o ha i) j fun _ ⟨rs,p,m⟩=>m ▸ k rs p
def sC:Nat->List PV->Fr
 | _,[]=>[]
 | i,p::ps=>(i,.s p.s1)::sC (i+1) ps
theorem uV:∀(i:Nat) (ps:List PV) (k:Nat) (s:SV),D4 (sC i ps) k=some s->i<=k/\∃p,ps[k-i]?=some p/\s=.s p.s1
 | i,[],k,s,h=>by simp[sC,D4]at h
 | i,p::ps,k,s,h=>by
  by_cases a:i=k
  ·subst a;simp only[sC,C7]at h;cases h;exact⟨Nat.le_refl _,p,by simp,rfl⟩
  ·simp only[sC]at h;rw[B9 a]at h;obtain⟨d,q,b,c⟩:=uV (i+1) ps k s h;refine⟨by omega,q,?_,c⟩;have:k-i=(k-(i+1))+1:=by omega
   rw[this];simpa using b
def RetOk(P:Program)(fn:Func)(fr:Fr)(ob:Obs)(b:List PV):Prop :=
 ∀S G a w,Sim P S fr ob G a w->∃v,(results fn a.tmps).run P w=.ok v w/\ResRep (D9 (Mut S ob G) w) b v
def retP(P:Program)(fn:Func)(b:List PV->Prop):Post
 | .normal,fr,ob | .ret,fr,ob=>∃c,RetOk P fn fr ob c/\b c
 | _,_,_=>False
theorem eC{f:FuncId}{fn:Func}{c:Code}{a:Array Value}{w:World}{R:Ending->World->Prop}(b:P.funcs[f]?=some fn)(hb:fn.body=some c)
  (h:c.wp P (bodyPostM Fence.wide 0 P fn R) { tmps:=a++Array.replicate (fn.ntmps-a.size) undef,defers:=[] } w):Calls P f a w R :=
 callsIn_wide.1 (callsIn_of_wp_marks b hb trivial (wpIn_wide.2 h))
theorem SimX.leave{S:Ctx}{e:Exit}{fr:Fr}{ob:Obs}{G:Gh}{a:Act}{w:World}(h:SimX P S e fr ob G a w)(c:S.df=[]){fn:Func}{R:Ending->World->Prop}
  (fin:∀b w',Sim P { S with df:=b } fr ob G a w'->∃v,(results fn a.tmps).run P w'=.ok v w'/\R (.returned v) w'):LeavesInM Fence.wide 0 P fn a.tmps R a.defers .returning w:=by
 rcases h with h | ⟨_,b,w',h,hi⟩
 ·rw[h.defers,c];exact fin S.df w h
 ·rw[h.defers];exact hi _ _ _ (by rw[c];exact fin b w' h)
theorem FnOk.intro{f:FuncId}{fn:Func}{c:Code}{args:List PV}{m:List PV->Prop}(T:P.funcs[f]?=some fn)(y:(fn.name == "runtime.NumGoroutine")=false)(hb:fn.body=some c)(L:fn.ntmps=nt)(C:Nat.ble args.length nt=true)(E:Nat.ble nt 1000000=true)
  (h:WpC P nt c (sC 0 args) [] (retP P fn m)):FnOk P f args m:=by
 refine⟨⟨fn,T,y,by simp[hb]⟩,fun w M a X W ha=>?_⟩;have ab:args.length<=nt:=by simpa using C
 have ad:a.length=args.length:=ha.length.symm;refine eC T hb ?_;let S:Ctx:={ w0:=w,M0:=M,io:=fun _=>False,nt:=nt,pin:=fun _=>undef,gv:=fun _=>undef }
 have I:∀b i,Mut S [] (fun _=>undef) b i↔M b i:=fun b i=>⟨fun h=>h.elim id fun ⟨k,o,q,_⟩=>by simp[B4]at q,.inl⟩
 have Q:∀b i z,D9 M w b i z->D9 (Mut S [] (fun _=>undef)) w b i z:=fun b i z A=>⟨A.1,fun K=>A.2 ((I b i).1 K)⟩
 have hs:Sim P S (sC 0 args) [] (fun _=>undef) { tmps:=a.toArray++Array.replicate (fn.ntmps-a.toArray.size) undef,defers:=[] } w:=by
  refine { nt:=by simp[L,S];omega,ntb:=by simpa using E,defers:=rfl,os:=rfl,tape:=rfl,output:=rfl,size:=Nat.le_refl _,keep:=fun _ _ _=>rfl,m0:=W,m0io:=fun _ _ _=>id,grd:=X,pin:=fun _ _=>rfl,old:=fun k o b q=>by simp[B4]at q,dis:=fun k k' o o' b q=>by simp[B4]at q,obs:=fun k o q=>by simp[B4]at q,facts:=?_ };intro i s Y;obtain⟨_,p,N,rfl⟩:=uV 0 args i s Y;obtain⟨u,U,A⟩:=ha.get (i-0) p N;have J:i<a.length:=(List.getElem?_eq_some_iff.1 U).1;have B:(a.toArray++Array.replicate (fn.ntmps-a.toArray.size) undef).getD i undef=u:=by
   rw[Array.getD_eq_getD_getElem?,Array.getElem?_append_left (by simpa using J)];simpa using congrArg (fun x=>x.getD undef) U
  have ac:nt<=1000000:=by simpa using E
  rw[Ctx.sl_lt (by omega),B];exact PV.rep_s1 (PV.rep_mono Q A)
 refine wp_mono (h S _ _ w Z hs) ?_;rintro e H w' ⟨fr',ob',G',O,j⟩;have fin:(∃rs,RetOk P fn fr' ob' rs/\m rs)->∀R w',Sim P { S with df:=R } fr' ob' G' H w'->∃v,(results fn H.tmps).run P w'=.ok v w'/\(∃G rs,Ending.returned v=.returned G/\m rs/\ResRep (D9 M w') rs G/\Below w.heap.size w w'):=by
  rintro⟨rs,A,N⟩ R w' j;obtain⟨v,hv,F⟩:=A _ G' H w' j;refine⟨v,hv,v,rs,rfl,N,F.mono (fun b i z V=>⟨V.1,fun K=>V.2 (.inl K)⟩),⟨j.os,j.tape,j.output,j.size,fun k q=>j.keep k q id⟩⟩
 cases e with
 | normal=>exact j.leave rfl (fin O)
 | ret=>exact j.leave rfl (fin O)
 | _=>exact O.elim
section rets
variable {fn:Func}
theorem aK{S:Ctx}{G:Gh}{a:Act}{w:World}(h:Sim P S fr ob G a w){t:Tmp}{s:S1}{p:PV}(c:cW fr t=some (.s s))(b:s.pv?=some p):p.rep (D9 (Mut S ob G) w) (a.tmps.getD t undef) :=
 C11 b (h.slot c)
theorem F7{t:Tmp}{s:S1}{p:PV}(c:fn.results=#[.tmp t])(d:cW fr t=some (.s s))(b:s.pv?=some p):RetOk P fn fr ob [p] :=
 fun S G a w h=>⟨a.tmps.getD t undef,by simp[results,c],aK h d b⟩
theorem S8{t d:Tmp}{s g:S1}{p f:PV}(j:fn.results=#[.tmp t,.tmp d])(k:cW fr t=some (.s s))(i:s.pv?=some p)(c:cW fr d=some (.s g))(b:g.pv?=some f):RetOk P fn fr ob [p,f] :=
 fun S G a w h=>⟨.tuple #[a.tmps.getD t undef,a.tmps.getD d undef],by simp[results,j],[_,_],rfl,aK h k i,aK h c b,trivial⟩
theorem ret3{t k b:Tmp}{s o g:S1}{p n f:PV}(r:fn.results=#[.tmp t,.tmp k,.tmp b])(v:cW fr t=some (.s s))(q:s.pv?=some p)(j:cW fr k=some (.s o))(i:o.pv?=some n)
  (d:cW fr b=some (.s g)) (c:g.pv?=some f):RetOk P fn fr ob [p,n,f] :=
 fun S G a w h=>⟨.tuple #[a.tmps.getD t undef,a.tmps.getD k undef,a.tmps.getD b undef],by simp[results,r],[_,_,_],rfl,aK h v q,aK h j i,aK h d c,trivial⟩
theorem box_pv{S:Ctx}{G:Gh}{a:Act}{w:World}(h:Sim P S fr ob G a w){t:Tmp}{k n:Nat}{tt:TypeId}{l:List TC}{m:List Cell}[hty:TyAgg P tt n](ht:cW fr t=some (.s (.one (.ref k 0))))(y:B4 ob k=some (.box l))(A:l.length=n)(B:dT l=some m) :
  ∃b d,a.tmps.getD t undef=.pointer (some ⟨b,0,none⟩)/\(loadVar tt ⟨b,0,none⟩).run P w=.ok (.agg (List.toArray d)) w/\(PV.agg m).rep (D9 (Mut S ob G) w) (.agg d.toArray):=by
 obtain⟨b,q,C⟩:=h.slot ht;obtain⟨F,d,E,c,v,ha⟩:=h.box y;rw[q]at c;cases c;refine⟨b,d,C,dN (ht:=hty) (by rw[<-ha.length,A]) (fun j z D=>by rw[Nat.zero_add];exact cell_of_heap v (by simpa using D)),d,rfl,r8 B ha⟩
theorem S0{t z:Tmp}{k n:Nat}{tt:TypeId}{j:List TC}{q:List Cell}{y:S1}{v:PV}[TyAgg P tt n](F:fn.results=#[.cell t tt,.tmp z])(H:cW fr t=some (.s (.one (.ref k 0))))(C:B4 ob k=some (.box j))(D:j.length=n)(E:dT j=some q)
  (i:cW fr z=some (.s y)) (d:y.pv?=some v):RetOk P fn fr ob [.agg q,v] :=
 fun S G a w h=>by
  obtain⟨b,I,u,A,B⟩:=box_pv h (tt:=tt) H C D E;rw[Array.getD_eq_getD_getElem?]at u;exact⟨_,by simp[results,F,u,asAddr,A],[_,_],rfl,B,aK h i d,trivial⟩
end rets
def Sees(P:Program)(nt:Nat)(fr:Fr)(ob:Obs)(fr':Fr)(ob':Obs):Prop:=∀S G a w,S.nt=nt->Sim P S fr ob G a w->∃G',Sim P S fr' ob' G' a w
theorem E2{c:Code}{fr':Fr}{ob':Obs}(hs:Sees P nt fr ob fr' ob')(k:WpC P nt c fr' ob' Q):WpC P nt c fr ob Q :=
 fun S G a w b h=>let ⟨G',d⟩:=hs S G a w b h;k S G' a w b d
theorem l_sees{fr':Fr}{ob':Obs}(hs:Sees P nt fr ob fr' ob')(k:WpL P nt ops rest fr' ob' Q):WpL P nt ops rest fr ob Q :=
 fun S G a w b h=>let ⟨G',c⟩:=hs S G a w b h;k S G' a w b c
theorem Sees.trans{fr' b:Fr}{ob' c:Obs}(f:Sees P nt fr ob fr' ob')(g:Sees P nt fr' ob' b c):Sees P nt fr ob b c :=
 fun S G a w d h=>let ⟨G',e⟩:=f S G a w d h;g S G' a w d e
inductive SvLe:SV->SV->Prop
 | same (s:SV):SvLe s s
 | any (s:SV):SvLe s .any
 | list (k:Nat) (α:Type) (ec:Nat) (c:α->Nat->Cell) (xs:List α):SvLe (.s (.one (.buf k α ec c xs))) (.s (.one (.p (.list α ec c xs))))
 | nil (α:Type) (ec:Nat) (c:α->Nat->Cell):SvLe (.s (.one (.p (.v (.slice none 0 0))))) (.s (.one (.p (.list α ec c []))))
 | eq {s s':SV} (h:s=s'):SvLe s s'
theorem SvLe.rep{s c:SV}(h:SvLe s c){b:Rd}{G:Gh}{u:Value}(a:s.rep b G u):c.rep b G u:=by
 cases h with
 | same=>exact a
 | any=>trivial
 | list=>exact a.2
 | nil=>obtain⟨rfl,_⟩:=a;exact F0 _ _ _
 | eq d=>exact d ▸ a
def FrLe(fr:Fr):Fr->Prop
 | []=>True
 | (i,s)::r=>(∃a,D4 fr i=some a/\SvLe a s)/\FrLe fr r
theorem FrLe.spec{fr:Fr}:∀{fr':Fr},FrLe fr fr'->∀i s,D4 fr' i=some s->∃b,D4 fr i=some b/\SvLe b s
 | [],_,i,s,h=>by simp[D4]at h
 | (j,t)::r,hf,i,s,h=>by
  by_cases a:j=i
  ·subst a;rw[C7]at h;cases h;exact hf.1
  ·rw[B9 a]at h;exact FrLe.spec hf.2 i s h
def ObIn(ob:Obs):Obs->Prop
 | []=>True
 | (i,o)::r=>B4 ob i=some o/\ObIn ob r
theorem ObIn.spec{ob:Obs}:∀{ob':Obs},ObIn ob ob'->∀i s,B4 ob' i=some s->B4 ob i=some s
 | [],_,i,s,h=>by simp[B4]at h
 | (j,t)::r,hf,i,s,h=>by
  by_cases a:j=i
  ·subst a;rw[C4]at h;cases h;exact hf.1
  ·rw[B0 a]at h;exact ObIn.spec hf.2 i s h
theorem Sees.of{fr':Fr}{ob':Obs}(e:FrLe fr fr')(f:ObIn ob ob'):Sees P nt fr ob fr' ob':=fun S G a w j h=>by
 have b:=h.weakenO (ob':=ob') f.spec;exact⟨G,{ b with facts:=fun i s hi=>let ⟨g,c,d⟩:=e.spec i s hi;d.rep (b.facts i g c) }⟩
theorem Sees.freeze{k:Nat}{α:Type}{b:Nat}{c:α->Nat->Cell}{xs:List α}(d:B4 ob k=some (.arr α b c xs)) :
  Sees P nt fr ob (B99 (SV.freeze k α b c xs) fr) (B94 (Ob.freeze k α b c xs) (Obs.drop k ob)):=fun S G a w e h=>⟨G,h.freeze d⟩
theorem YG{b:Code}{t:Nat}{s:SV}{α:Type}{f:Nat}{c:α->Nat->Cell}{d:List α}(j:D4 fr t=some s)(g:IsList s α f c d)(k:d.length<4611686018427387904->WpC P nt b fr ob Q):WpC P nt b fr ob Q :=
 fun S G a w i h=>k (W7 (g.rep (h.facts t s j))).choose_spec.choose_spec.2.2 S G a w i h
end
end
variable {nt:Nat}{Q:Post}{next:Fr->Obs->Prop}{id id':Nat}
theorem then_normal(h:next fr ob):iC next Q .normal fr ob:=h
theorem B14(hb:Nat.beq id' id=true)(h:Q .normal fr ob):l6 id Q (.exit id') fr ob:=by simp only[l6,hb,cond];exact h
theorem A07(hb:Nat.beq id' id=false)(h:Q (.exit id') fr ob):l6 id Q (.exit id') fr ob:=by simp only[l6,hb,cond];exact h
theorem A8{fn:Func}{a:List PV->Prop}{rs:List PV}(h:RetOk P fn fr ob rs)(b:a rs):retP P fn a .ret fr ob:=⟨rs,h,b⟩
abbrev E3:Int->Nat->Cell:=fun n _=>.v (.int .i64 n)
abbrev L2:List UInt8->Nat->Cell:=fun l _=>.v (.string ⟨l.toArray⟩)
abbrev sD:Int->Nat->Cell:=fun n _=>.v (.int .u32 n)
abbrev D2(n:Int):PV:=.one (.v (.int .i64 n))
abbrev D5(b:Bool):PV:=.one (.v (.bool b))
abbrev E5(l:List UInt8):PV:=.one (.v (.string ⟨l.toArray⟩))
abbrev L0(l:List Int):PV:=.one (.list Int 1 E3 l)
abbrev Z7(l:List (List UInt8)):PV:=.one (.list (List UInt8) 1 L2 l)
abbrev intsC:List Int->Nat->Cell:=fun l _=>.list Int 1 E3 l
abbrev strsC:List (List UInt8)->Nat->Cell:=fun l _=>.list (List UInt8) 1 L2 l
theorem NV{n:Int}(h:-9223372036854775808<=n/\n<=9223372036854775807):IntKind.i64.wrap n=n:=IntWalk.i64_in n h
theorem sE(c:Array Nat)(i:Nat):∀(d:List Edge) (s:Nat),(d.foldl (fun s e=>if Region.binds .any e then s ||| 2 ^ e.on ||| c.getD e.on 0 else s) s).testBit i=true ->
  s.testBit i=true\/∃e∈d,Region.binds .any e=true/\(e.on=i\/(c.getD e.on 0).testBit i=true)
 | [],s,h=>.inl h
 | e :: d,s,h=>by
  simp only[C68]at h;rcases sE c i d _ h with b | ⟨e',he,h2⟩
  ·by_cases hb:Region.binds .any e=true
   ·rw[A5 hb,Nat.testBit_or,Nat.testBit_or]at b;simp only[C64]at b;rcases b with (b | b) | b
    ·exact .inl b
    ·refine .inr ⟨e,by simp,hb,.inl ?_⟩;rw[Nat.testBit_two_pow]at b;simpa using b
    ·exact .inr ⟨e,by simp,hb,.inr b⟩
   ·rw[A6 hb]at b;exact .inl b
  ·exact .inr ⟨e',by simp[he],h2⟩
def dU(b:Array Nat)(o:Oper):Array Nat:=b.push (o.after.foldl (fun s e=>if Region.binds .any e then s ||| 2 ^ e.on ||| b.getD e.on 0 else s) 0)
theorem GK(ops:Array Oper):Region.before ops=ops.toList.foldl dU #[]:=by
 unfold Region.before;rw[<-Array.foldl_toList];rfl
theorem AA:∀(l:List Oper) (a:Array Nat),(l.foldl dU a).size=a.size+l.length
 | [],a=>rfl
 | o::l,a=>by simp only[C68,AA l,dU,Array.size_push,C34];omega
theorem qG:∀(l:List Oper) (a:Array Nat) (j:Nat),j<a.size->(l.foldl dU a).getD j 0=a.getD j 0
 | [],a,j,h=>rfl
 | o::l,a,j,h=>by
  simp only[C68];rw[qG l _ j (by simp[dU];omega)];simp only[dU,Array.getD_eq_getD_getElem?];rw[Array.getElem?_push_lt h,Array.getElem?_eq_getElem h]
theorem NW:∀(l:List Oper) (b:Array Nat) (j:Nat) (o:Oper),l[j]?=some o->∃c:Array Nat,c.size=b.size+j/\(∀m,m<c.size->c.getD m 0=(l.foldl dU b).getD m 0) /\
  (l.foldl dU b).getD (b.size+j) 0=o.after.foldl (fun s e=>if Region.binds .any e then s ||| 2 ^ e.on ||| c.getD e.on 0 else s) 0
 | [],b,j,o,h=>by simp at h
 | o'::l,b,0,o,h=>by
  simp at h;subst h;refine⟨b,rfl,fun m d=>?_,?_⟩
  ·simp only[C68];rw[qG l _ m (by simp[dU];omega)];simp only[dU,Array.getD_eq_getD_getElem?];rw[Array.getElem?_push_lt d,Array.getElem?_eq_getElem d]
  ·simp only[C68,Nat.add_zero];rw[qG l _ b.size (by simp[dU])];simp[dU,Array.getD_eq_getD_getElem?]
 | o'::l,b,j+1,o,h=>by
  simp at h;obtain⟨c,f,k,p⟩:=NW l (dU b o') j o h;have hs:(dU b o').size=b.size+1:=by simp[dU]
  refine⟨c,by rw[f,hs];omega,by simpa only[C68] using k,?_⟩;simp only[C68];have:b.size+(j+1)=(dU b o').size+j:=by rw[hs];omega
  rw[this];exact p
def Bef(ops:Array Oper)(j i:Nat):Bool:=((Region.before ops).getD j 0).testBit i
theorem AB{ops:Array Oper}{j i:Nat}(h:Bef ops j i=true):∃o,ops[j]?=some o/\∃e∈o.after.toList,Region.binds .any e=true/\(e.on=i\/(e.on<j/\Bef ops e.on i=true)):=by
 unfold Bef at h;rw[GK]at h;have f:j<ops.toList.length:=by
  rcases Nat.lt_or_ge j ops.toList.length with d | d
  ·exact d
  ·rw[Array.getD_eq_getD_getElem?,Array.getElem?_eq_none (by rw[AA];simpa using d)]at h;simp at h
 obtain⟨b,m,p,k⟩:=NW ops.toList #[] j _ (C29 f);simp only[List.size_toArray,C43,Nat.zero_add]at m k;rw[k,<-Array.foldl_toList]at h;rcases sE b i _ 0 h with c | ⟨e,he,hb,c⟩
 ·simp at c
 ·refine⟨ops.toList[j],by rw[<-Array.getElem?_toList,C29 f],e,he,hb,?_⟩;rcases c with c | c
  ·exact .inl c
  ·have g:e.on<b.size:=by
    rcases Nat.lt_or_ge e.on b.size with d | d
    ·exact d
    ·rw[Array.getD_eq_getD_getElem?,Array.getElem?_eq_none d]at c;simp at c
   refine .inr ⟨by omega,?_⟩;unfold Bef;rw[GK,<-p _ g];exact c
def Closed(ops:Array Oper)(b:Array Bool):Prop:=∀j o,ops[j]?=some o->b.getD j false=true->∀e∈o.after.toList,Region.binds .any e=true->b.getD e.on false=true
theorem l8{ops:Array Oper}{b:Array Bool}(m:Closed ops b){i:Nat}:∀(j:Nat),Bef ops j i=true->(∀o,ops[j]?=some o->∀e∈o.after.toList,Region.binds .any e=true->b.getD e.on false=true)->b.getD i false=true:=by
 intro j;induction j using Nat.strongRecOn with
 | _ j s =>
  intro hb r;obtain⟨o,q,e,p,d,h⟩:=AB hb;have k:=r o q e p d;rcases h with rfl | ⟨hlt,hb'⟩
  ·exact k
  ·exact s e.on hlt hb' fun t g l f c=>m e.on t g k l f c
abbrev Fa:=Nat->Option SV
def l5(φ:Fa)(d:Nat)(s:SV):Fa:=fun i=>if i=d then some s else φ i
def SimF(P:Program)(S:Ctx)(φ:Fa)(ob:Obs)(G:Gh)(a:Act)(w:World):Prop :=
 Sim P S [] ob G a w/\∀i s,φ i=some s->s.rep (D9 (Mut S ob G) w) G (S.sl a i)
theorem simF_iff{P:Program}{S:Ctx}{fr:Fr}{ob:Obs}{G:Gh}{a:Act}{w:World}:SimF P S (D4 fr) ob G a w↔Sim P S fr ob G a w :=
 ⟨fun h=>{ h.1 with facts:=h.2 },fun h=>⟨{ h with facts:=fun i s b=>by simp[D4]at b },h.facts⟩⟩
theorem SimF.sub{P:Program}{S:Ctx}{φ:Fa}{fr:Fr}{ob:Obs}{G:Gh}{a:Act}{w:World}(h:SimF P S φ ob G a w)(hs:∀i s,D4 fr i=some s->φ i=some s):Sim P S fr ob G a w :=
 { h.1 with facts:=fun i s b=>h.2 i s (hs i s b) }
theorem SimF.ext{P:Program}{S:Ctx}{φ:Fa}{ob:Obs}{G:Gh}{a:Act}{w w':World}(h:SimF P S φ ob G a w)(b:Below w.heap.size w w'):SimF P S φ ob G a w' :=
 ⟨h.1.ext b,fun i s c=>SV.rep_mono (fun _ _ _=>u6 b) (h.2 i s c)⟩
theorem SimF.put{P:Program}{S:Ctx}{φ:Fa}{ob:Obs}{G:Gh}{a:Act}{w:World}(h:SimF P S φ ob G a w){d:Nat}(e:d<S.nt){s:SV}{v:Value}(hs:s.rep (D9 (Mut S ob G) w) G v):SimF P S (l5 φ d s) ob G (a.put (some d) v) w:=by
 have f:=h.1.put (s:=.any) (v:=v) e trivial;refine⟨f.weaken (fun i s b=>by simp[D4]at b),fun i g b=>?_⟩;unfold l5 at b;by_cases c:i=d
 ·subst c;simp at b;subst b;rw[Ctx.sl_put_same h.1 e];exact hs
 ·rw[A6 c]at b;rw[Ctx.sl_put_other (Ne.symm c)];exact h.2 i g b
def NR:Operand->List Nat
 | .tmp t=>[t]
 | _=>[]
def tmL:List Operand->List Nat
 | []=>[]
 | x::r=>NR x++tmL r
def tmP:List (Nat×Operand)->List Nat
 | []=>[]
 | x::r=>NR x.2++tmP r
def tmQ:Option Operand->List Nat
 | some x=>NR x
 | none=>[]
def tmC:Callee->List Nat
 | .value g=>NR g
 | .invoke x _=>NR x
 | _=>[]
def qH:Op->List Nat
 | .move x | .assign x | .load _ x | .nilCheck x | .unOp _ _ x | .convert _ _ x | .fieldAddr _ x _ | .field _ x _ | .extract x _ | .makeInterface _ x=>NR x
 | .pick c x y=>NR c++(NR x++NR y)
 | .binOp _ _ x y _ | .indexAddr _ x y | .index _ x y=>NR x++NR y
 | .slice _ x l h m=>NR x++(tmQ l++(tmQ h++tmQ m))
 | .build _ ps | .buildSlice _ _ ps=>tmP ps.toList
 | .call c=>tmC c.callee++tmL c.args.toList
 | .typeAssert x _ _ _=>NR x
 | _=>[]
def AC(ops:Array Oper):Option (Nat×Bool)->List Nat
 | none=>[]
 | some (j,_)=>match (ops[j]?).bind (·.dst) with
  | some t=>[t]
  | none=>[]
def uses(ops:Array Oper)(o:Oper):List Nat:=AC ops o.guard++qH o.op
def turns:Op->Bool
 | .alloc _ | .box _ _ | .store .. | .makeSlice .. | .makeMap .. | .mapUpdate .. | .lookup .. | .range .. | .next .. | .insert .. | .makeFunc .. | .panic _ | .defer _=>true
 | .call ⟨.builtin .len,_,_⟩=>false
 | .call ⟨.builtin .min,_,_⟩=>false
 | .call ⟨.builtin .max,_,_⟩=>false
 | .call ⟨.value (.func _),_,_⟩=>false
 | .call ⟨.value (.tmp _),_,_⟩=>false
 | .call _=>true
 | _=>false
def Wanted(ops:Array Oper)(φ:Fa)(o:Oper)(b:Bool):Prop :=
 match o.guard with
 | none=>b=true
 | some (j,want)=>∃t s,(ops[j]?).bind (·.dst)=some t/\φ t=some s/\Wants want s b
def YieldsN(P:Program)(nt:Nat)(ops:Array Oper)(o:Oper)(φ:Fa)(ob:Obs)(s:SV):Prop :=
 ∃d,o.dst=some d/\d<nt /\
  ((Wanted ops φ o true/\∃a,(∀i s,D4 a i=some s->φ i=some s/\i∈uses ops o)/\Neu P o a ob (fun b=>b=s))\/(Wanted ops φ o false/\s=.un))
def sG(P:Program)(nt:Nat)(ops:Array Oper)(o:Oper)(φ:Fa)(ob:Obs)(K:Fa->Obs->Prop):Prop :=
 o.guard=none/\∀S G a w,S.nt=nt->SimF P S φ ob G a w->Does P o a w (fun v w'=>∃b ob' G',K b ob'/\SimF P S b ob' G' (a.put o.dst v) w')
def StepX(P:Program)(nt:Nat)(ops:Array Oper)(i:Nat)(φ:Fa)(ob:Obs)(K:Fa->Obs->Prop):Prop :=
 ∃o,ops[i]?=some o/\cond (turns o.op) (sG P nt ops o φ ob K) (∃s d,o.dst=some d/\YieldsN P nt ops o φ ob s/\K (l5 φ d s) ob)
def yP(P:Program)(nt:Nat)(ops:Array Oper)(K:Fa->Obs->Prop):Nat->Array Bool->Fa->Obs->Prop
 | 0,listed,φ,ob=>Region.ready .any ops listed=[]/\K φ ob
 | fuel+1,listed,φ,ob=>(Region.ready .any ops listed=[]->K φ ob)/\∀i∈Region.ready .any ops listed,StepX P nt ops i φ ob (yP P nt ops K fuel (listed.setIfInBounds i true))
section
variable {P:Program}{nt:Nat}{ops:Array Oper}
theorem bU{S:Ctx}{φ:Fa}{ob:Obs}{G:Gh}{a:Act}{w:World}(s:S.nt=nt)(h:SimF P S φ ob G a w){o:Oper}{b:Bool}(f:Wanted ops φ o b)(c:∀(j t:Nat),(ops[j]?).bind (fun o=>o.dst)=some t->t<nt):Region.wanted o (yielded ops a.tmps)=b:=by
 unfold Wanted at f;unfold Region.wanted;cases l:o.guard with
 | none=>simp only[l]at f ⊢;exact f.symm
 | some g =>
  obtain⟨j,q⟩:=g;simp only[l]at f ⊢;obtain⟨t,x,m,u,r⟩:=f;have e:t<a.tmps.size:=by rw[h.1.nt,s];exact c j t m
  have p:=h.2 t _ u;have k:a.tmps.size<=1000000:=by rw[h.1.nt];exact h.1.ntb
  rw[Ctx.sl_lt (Nat.lt_of_lt_of_le e k)]at p;have v:=r.yields p m e rfl;rw[<-v]
theorem jD{K:Fa->Obs->Prop}{S:Ctx}{Q:Exit->Act->World->Prop}(q:S.nt=nt)(g:∀(j t:Nat),(ops[j]?).bind (fun o=>o.dst)=some t->t<nt)(x:∀φ ob G a w,K φ ob->SimF P S φ ob G a w->Q .normal a w) :
  ∀(e:Nat) (f:Array Bool) (φ:Fa) (ob:Obs) (G:Gh) (a:Act) (w:World),yP P nt ops K e f φ ob->SimF P S φ ob G a w->wpAny P .any ops Q e f a w
 | 0,_,φ,ob,G,a,w,h,hs=>⟨h.1,x φ ob G a w h.2 hs⟩
 | e+1,f,φ,ob,G,a,w,h,hs=>by
  refine⟨fun L=>x φ ob G a w (h.1 L) hs,fun i E=>?_⟩;obtain⟨o,N,c⟩:=h.2 i E;unfold wpOp;simp only[N];cases I:turns o.op with
  | true =>
   rw[I]at c;obtain⟨M,c⟩:=c;rw[A5 (by simp[Region.wanted,M])];refine .inl (L4 (c S G a w q hs) ?_);rintro v w' ⟨U,ob',G',k,F⟩;exact jD q g x e _ U ob' G' _ w' k F
  | false =>
   rw[I]at c;obtain⟨s,d,C,⟨V,z,A,T⟩,k⟩:=c;rw[C]at z;cases z;rcases T with ⟨H,J,D,B⟩ | ⟨H,rfl⟩
   ·rw[bU q hs H g,A5 rfl];refine .inl (L4 (B S G a w (hs.sub fun i s E=>(D i s E).1)) ?_);rintro v w' ⟨R,W,rfl,O⟩;rw[C];exact jD q g x e _ _ ob G _ w' k ((hs.ext R).put (by rw[q];exact A) O)
   ·rw[bU q hs H g,A6 (by simp),C];exact jD q g x e _ _ ob G _ w k (hs.put (by rw[q];exact A) rfl)
def aL(ops:Array Oper)(x y:Oper):Bool :=
 match x.dst,y.dst with
 | some d,some e=>!(uses ops y).contains d&&!(uses ops x).contains e&&!(Nat.beq d e)
 | _,_=>false
theorem uW{φ:Fa}{d e:Nat}(h:d≠e)(s t:SV):l5 (l5 φ d s) e t=l5 (l5 φ e t) d s:=by
 funext i;unfold l5;by_cases b:i=e
 ·subst b;rw[A5 rfl,A6 (fun e=>h e.symm),A5 rfl]
 ·rw[A6 b];by_cases a:i=d
  ·rw[A5 a,A5 a]
  ·rw[A6 a,A6 a,A6 b]
theorem jE{φ:Fa}{o:Oper}{b:Bool}{d:Nat}{s:SV}(h:d∉uses ops o):Wanted ops (l5 φ d s) o b↔Wanted ops φ o b:=by
 unfold Wanted;cases i:o.guard with
 | none=>simp
 | some g =>
  obtain⟨j,k⟩:=g;simp only;constructor
  ·rintro⟨t,x,c,f,hb⟩;have a:t≠d:=fun e=>h (by subst e;simp[uses,i,AC,c]);exact⟨t,x,c,by simpa[l5,a] using f,hb⟩
  ·rintro⟨t,x,c,f,hb⟩;have a:t≠d:=fun e=>h (by subst e;simp[uses,i,AC,c]);exact⟨t,x,c,by simpa[l5,a] using f,hb⟩
theorem YieldsN.put{φ:Fa}{ob:Obs}{o:Oper}{s:SV}{d:Nat}{t:SV}(b:d∉uses ops o)(h:YieldsN P nt ops o φ ob s):YieldsN P nt ops o (l5 φ d t) ob s:=by
 obtain⟨e,p,f,h⟩:=h;refine⟨e,p,f,?_⟩;rcases h with ⟨j,a,c,u⟩ | ⟨j,rfl⟩
 ·refine .inl ⟨(jE b).2 j,a,fun i s q=>?_,u⟩;obtain⟨m,k⟩:=c i s q;have g:i≠d:=fun e=>b (e ▸ k);exact⟨by simpa[l5,g] using m,k⟩
 ·exact .inr ⟨(jE b).2 j,rfl⟩
theorem YieldsN.unput{φ:Fa}{ob:Obs}{o:Oper}{s:SV}{d:Nat}{t:SV}(b:d∉uses ops o)(h:YieldsN P nt ops o (l5 φ d t) ob s):YieldsN P nt ops o φ ob s:=by
 obtain⟨e,p,f,h⟩:=h;refine⟨e,p,f,?_⟩;rcases h with ⟨j,a,c,u⟩ | ⟨j,rfl⟩
 ·refine .inl ⟨(jE b).1 j,a,fun i s q=>?_,u⟩;obtain⟨m,k⟩:=c i s q;have g:i≠d:=fun e=>b (e ▸ k);exact⟨by simpa[l5,g] using m,k⟩
 ·exact .inr ⟨(jE b).1 j,rfl⟩
theorem U5{b:Array Bool}(w:Closed ops b){j:Nat}(x:j∈Region.ready .any ops b):Closed ops (b.setIfInBounds j true):=by
 intro k o r v e u hb;obtain⟨_,z,s,d⟩:=mem_ready.1 x;have c:∀m,b.getD m false=true->(b.setIfInBounds j true).getD m false=true:=by
  intro m i;simp only[Array.getD_eq_getD_getElem?]at i ⊢;by_cases h:j=m
  ·subst h;have q:j<b.size:=by
    rcases Nat.lt_or_ge j b.size with l | l
    ·exact l
    ·rw[Array.getElem?_eq_none l]at i;simp at i
   simp[q]
  ·rw[Array.getElem?_setIfInBounds_ne h];exact i
 by_cases f:j=k
 ·subst f;rw[s]at r;cases r;exact c _ (d e (Array.mem_toList_iff.1 u) hb)
 ·have p:b.getD k false=true:=by
   simp only[Array.getD_eq_getD_getElem?]at v ⊢
   rwa[Array.getElem?_setIfInBounds_ne f]at v
  exact c _ (w k o r p e u hb)
theorem TT{K:Fa->Obs->Prop}{i d:Nat}{x:Oper}{s:SV}(hi:ops[i]?=some x)(X:turns x.op=false)(G:x.dst=some d) :
  ∀(c:Nat) (b:Array Bool) (φ:Fa) (ob:Obs),Closed ops b ->
   (∀j l,ops[j]?=some l->j≠i->b.getD j true=false->turns l.op=true->Bef ops j i=true) ->
   (∀j l,ops[j]?=some l->j≠i->b.getD j true=false->turns l.op=false->(∃e∈l.after.toList,Region.binds .any e=true/\e.on=i)\/aL ops x l=true) ->
   i∈Region.ready .any ops b->YieldsN P nt ops x φ ob s ->
   yP P nt ops K c (b.setIfInBounds i true) (l5 φ d s) ob->yP P nt ops K (c+1) b φ ob:=by
 have q:∀(c:Nat) (b:Array Bool) (φ:Fa) (ob:Obs),YieldsN P nt ops x φ ob s->yP P nt ops K c (b.setIfInBounds i true) (l5 φ d s) ob->StepX P nt ops i φ ob (yP P nt ops K c (b.setIfInBounds i true)):=by
  intro c b φ ob D H;exact⟨x,hi,by rw[X];exact⟨s,d,G,D,H⟩⟩
 have M:∀(b:Array Bool),i∈Region.ready .any ops b->b.getD i false=false:=by
  intro b t;have E:=(mem_ready.1 t).1;simp only[Array.getD_eq_getD_getElem?]at E ⊢;rcases Nat.lt_or_ge i b.size with O | O
  ·rw[Array.getElem?_eq_getElem O]at E ⊢;simpa using E
  ·rw[Array.getElem?_eq_none O]at E;simp at E
 intro c;induction c with
 | zero =>
  intro b φ ob T R S t D H;refine⟨fun h=>(by rw[h]at t;cases t),fun j J=>?_⟩;by_cases f:j=i
  ·subst f;exact q 0 b φ ob D H
  ·have:=ready_mono J f;rw[H.1]at this;cases this
 | succ c ih =>
  intro b φ ob T R S t D H;refine⟨fun h=>(by rw[h]at t;cases t),fun j J=>?_⟩;by_cases f:j=i
  ·subst f;exact q (c+1) b φ ob D H
  ·obtain⟨g,l,p,v⟩:=mem_ready.1 J;have w:=M b t;cases u:turns l.op with
   | true =>
    have hb:=R j l p f g u;have:=l8 T j hb (fun o ho e U z=>by rw[p]at ho;cases ho;exact v e (Array.mem_toList_iff.1 U) z);rw[w]at this;cases this
   | false =>
    have F:aL ops x l=true:=by
     rcases S j l p f g u with ⟨e,U,z,W⟩ | h
     ·have:=v e (Array.mem_toList_iff.1 U) z;rw[W]at this;have N:b.getD i false=true:=this;rw[w]at N;cases N
     ·exact h
    obtain⟨o',L,r⟩:=H.2 j (ready_mono J f);rw[p]at L;cases L;rw[u]at r;obtain⟨sj,Z,I,Y,HK⟩:=r;simp only[aL,G,I,C30,Bool.not_eq_true',List.contains_eq_mem,decide_eq_false_iff_not]at F;obtain⟨⟨h1,N⟩,Q⟩:=F;have Q:d≠Z:=fun e=>by subst e;simp at Q
    refine⟨l,p,by
     rw[u];refine⟨sj,Z,I,Y.unput h1,?_⟩;refine ih (b.setIfInBounds j true) _ ob (U5 T J) ?_ ?_ (ready_mono t (Ne.symm f)) (D.put N) ?_
     ·intro k ok V A C B;refine R k ok V A ?_ B;by_cases m:j=k
      ·subst m;exact g
      ·rwa[getD_set_ne true m]at C
     ·intro k ok V A C B;refine S k ok V A ?_ B;by_cases m:j=k
      ·subst m;exact g
      ·rwa[getD_set_ne true m]at C
     ·rw[Array.setIfInBounds_comm _ _ f,<-uW Q]
      exact HK⟩
def LexD(P:Program)(nt:Nat)(ops:Array Oper)(K:Fr->Obs->Prop):List Oper->Fr->Obs->Prop
 | [],fr,ob=>K fr ob
 | o::rest,fr,ob=>cond (turns o.op) (sG P nt ops o (D4 fr) ob (fun a ob'=>∃fr',a=D4 fr'/\LexD P nt ops K rest fr' ob'))
   (∃s d,o.dst=some d/\YieldsN P nt ops o (D4 fr) ob s/\LexD P nt ops K rest ((d,s)::fr) ob)
def GL(ops:Array Oper):Nat->Nat->Array Bool->Bool
 | 0,_,listed=>(Region.ready .any ops listed).isEmpty
 | fuel+1,k,listed =>
  (match ops[k]? with
   | some o=>(Region.ready .any ops listed).contains k&&cond (turns o.op) ((Region.ready .any ops listed).all fun j=>Nat.beq j k)
    ((List.range ops.size).all fun j=>Nat.beq j k||listed.getD j true||match ops[j]? with
     | some b=>cond (turns b.op) (Bef ops j k) (b.after.toList.any (fun e=>Region.binds .any e&&Nat.beq e.on k)||aL ops o b)
     | none=>true)
   | none=>false)&&GL ops fuel (k+1) (listed.setIfInBounds k true)
theorem eQ(d:Nat)(s:SV)(fr:Fr):D4 ((d,s)::fr)=l5 (D4 fr) d s:=by
 funext i;unfold l5;by_cases h:i=d
 ·subst h;rw[C7];simp
 ·rw[B9 (Ne.symm h),A6 h]
theorem lL{K:Fr->Obs->Prop}:∀(l:List Oper) (k:Nat) (b:Array Bool) (fr:Fr) (ob:Obs),(∀j,l[j]?=ops[k+j]?)->Closed ops b->GL ops l.length k b=true->LexD P nt ops K l fr ob ->
  yP P nt ops (fun φ ob=>∃fr',φ=D4 fr'/\K fr' ob) l.length b (D4 fr) ob
 | [],k,b,fr,ob,hl,hc,hB,h=>⟨by simpa[GL] using hB,fr,rfl,h⟩
 | o :: l,k,b,fr,ob,hl,hc,hB,h=>by
  have N:ops[k]?=some o:=by simpa using (hl 0).symm
  simp only[C34,GL,N,C30]at hB;obtain⟨⟨V,E⟩,H⟩:=hB;have t:k∈Region.ready .any ops b:=by simpa using V
  have J:∀j,l[j]?=ops[k+1+j]?:=fun j=>by have:=hl (j+1);simpa[Nat.add_assoc,Nat.add_comm 1 j] using this
  simp only[LexD]at h;cases M:turns o.op with
  | true =>
   rw[M]at h E;simp only[cond]at E h;have B:∀j∈Region.ready .any ops b,j=k:=fun j L=>by
    have:=List.all_eq_true.1 E j L;exact Nat.eq_of_beq_eq_true this
   refine⟨fun I=>(by rw[I]at t;cases t),fun j L=>?_⟩;have:=B j L;subst this;refine⟨o,N,?_⟩;rw[M];refine⟨h.1,fun S G a w U hs=>?_⟩;have q:=h.2 S G a w U hs;unfold Does at q ⊢
   have D:∀v w',(∃F ob' G',(∃fr',F=D4 fr'/\LexD P nt ops K l fr' ob')/\SimF P S F ob' G' (a.put o.dst v) w') ->
     (∃F ob' G',yP P nt ops (fun φ ob=>∃fr',φ=D4 fr'/\K fr' ob) l.length (b.setIfInBounds j true) F ob'/\SimF P S F ob' G' (a.put o.dst v) w'):=by
    rintro v w' ⟨F,ob',G',⟨fr',rfl,O⟩,T⟩;exact⟨_,ob',G',lL l (j+1) _ fr' ob' J (U5 hc L) H O,T⟩
   generalize (execOp a.eval o).run P w=r at *;cases r with
   | ok n w' =>
    cases n<;>simp only at q ⊢<;>try exact q.elim
    case value v=>exact D _ _ q
    case skip=>exact D _ _ q
    case enter f args=>exact q.mono fun e Y ⟨v,I,W⟩=>⟨v,I,D _ _ W⟩
   | halt x w'=>exact q
  | false =>
   rw[M]at h E;simp only[cond]at E h;obtain⟨s,d,q,X,O⟩:=h;have A:∀j z,ops[j]?=some z->j≠k->b.getD j true=false->cond (turns z.op) (Bef ops j k) (z.after.toList.any (fun e=>Region.binds .any e&&Nat.beq e.on k)||aL ops o z)=true:=by
    intro j z c g p;have Q:j<ops.size:=(Array.getElem?_eq_some_iff.1 c).1;have:=List.all_eq_true.1 E j (C40.2 Q);rw[I9 g,p,c]at this;simp only[Bool.false_or]at this;exact this
   refine TT N M q l.length b _ ob hc ?_ ?_ t X ?_
   ·intro j z c g p C;have:=A j z c g p;rw[C]at this;exact this
   ·intro j z c g p C;have:=A j z c g p;rw[C]at this;simp only[cond,C64,List.any_eq_true,C30]at this;rcases this with ⟨e,I,hb,R⟩ | h
    ·exact .inl ⟨e,I,hb,Nat.eq_of_beq_eq_true R⟩
    ·exact .inr h
   ·rw[<-eQ];exact lL l (k+1) _ _ ob J (U5 hc t) H O
def dstsIn(nt:Nat)(ops:Array Oper):Bool:=ops.toList.all fun o=>match o.dst with
 | some d=>Nat.blt d nt
 | none=>true
theorem oW{id:Nat}{l:List Oper}{fr:Fr}{ob:Obs}{Q:Post}(D:P.follows .mixedOrders=true)(q:(GL l.toArray l.length 0 (Array.replicate l.length false)&&dstsIn nt l.toArray)=true)
  (h:LexD P nt l.toArray (fun fr ob=>Q .normal fr ob) l fr ob):WpC P nt (.region id l.toArray true) fr ob Q:=by
 intro S G a w E hs;simp only[C30]at q;have c:∀(j t:Nat),(l.toArray[j]?).bind (fun o=>o.dst)=some t->t<nt:=by
  intro j t z;cases k:l.toArray[j]? with
  | none=>simp[k]at z
  | some o =>
   simp[k]at z;have f:o∈l:=by
    rw[List.getElem?_toArray]at k;exact C53 k
   have:=List.all_eq_true.1 q.2 o (by simpa using f);rw[z]at this;simpa using this
 refine wp_region_any D ?_;have B:Closed l.toArray (Array.replicate l.length false):=by
  intro j o k u;simp only[Array.getD_eq_getD_getElem?]at u;rcases Nat.lt_or_ge j l.length with p | p
  ·simp[p]at u
  ·simp[p]at u
 have A:=lL (P:=P) (nt:=nt) (ops:=l.toArray) (K:=fun fr ob=>Q .normal fr ob) l 0 (Array.replicate l.length false) fr ob (by simp) B q.1 h;have H:Below w.heap.size w { w with drawn:=w.drawn+1 }:=⟨rfl,rfl,rfl,Nat.le_refl _,fun _ _=>rfl⟩
 have v:SimF P S (D4 fr) ob G a { w with drawn:=w.drawn+1 }:=(simF_iff.2 hs).ext H;have:=jD (Q:=PostOf P S Q) E c (fun φ ob' G' I w' ⟨fr',C,F⟩ y=>⟨fr',ob',G',F,.inl (simF_iff.1 (C ▸ y))⟩) l.length _ _ ob G a _ A v;simpa using this
section
variable {rest:List Oper}{fr:Fr}{ob:Obs}{K:Fr->Obs->Prop}{d:Nat}
theorem d_nil(h:K fr ob):LexD P nt ops K [] fr ob:=h
theorem z6{fr:Fr}:∀{l:List Nat} {i:Nat} {s:SV},D4 (U4 fr l) i=some s->i∈l
 | [],i,s,h=>by simp[U4,D4]at h
 | j::l,i,s,h=>by
  unfold U4 at h;split at h
  ·by_cases a:j=i
   ·subst a;simp
   ·rw[B9 a]at h;exact List.mem_cons_of_mem _ (z6 h)
  ·exact List.mem_cons_of_mem _ (z6 h)
theorem D7{a:Op}{ty:TypeId}{pos:String}{af:Array Edge}{s:SV}(h:Neu P ⟨some d,a,ty,pos,af,none⟩ (U4 fr (qH a)) ob (fun f=>f=s))(e:turns a=false)(c:Nat.blt d nt=true)(k:LexD P nt ops K rest ((d,s)::fr) ob) :
  LexD P nt ops K (⟨some d,a,ty,pos,af,none⟩::rest) fr ob:=by
 simp only[LexD,e,cond];refine⟨s,d,rfl,⟨d,rfl,by simpa using c,.inl ⟨rfl,_,fun i s b=>⟨l7 b,?_⟩,h⟩⟩,k⟩;simpa[uses,AC] using z6 b
theorem d_run{a:Op}{ty:TypeId}{pos:String}{af:Array Edge}{s:SV}{j t:Nat}{b x:Bool}(g:(ops[j]?).bind (·.dst)=some t)(q:D4 fr t=some (.s (.one (.p (.v (.bool x))))))(hb:x=b)
  (h:Neu P ⟨some d,a,ty,pos,af,none⟩ (U4 fr (qH a)) ob (fun r=>r=s)) (m:turns a=false) (f:Nat.blt d nt=true) (k:LexD P nt ops K rest ((d,s)::fr) ob) :
  LexD P nt ops K (⟨some d,a,ty,pos,af,some (j,b)⟩::rest) fr ob:=by
 simp only[LexD,m,cond];refine⟨s,d,rfl,⟨d,rfl,by simpa using f,.inl ⟨⟨t,_,g,q,by have:=Wants.val (b:=b) x;rwa[show (x == b)=true by simp[hb]]at this⟩,_,fun i s c=>⟨l7 c,?_⟩,h⟩⟩,k⟩;simp only[uses];exact List.mem_append_right _ (z6 c)
theorem aM{a:Op}{ty:TypeId}{pos:String}{af:Array Edge}{j t:Nat}{b x:Bool}(f:(ops[j]?).bind (·.dst)=some t)(h:D4 fr t=some (.s (.one (.p (.v (.bool x))))))(hb:x≠b)(g:turns a=false)(c:Nat.blt d nt=true)
  (k:LexD P nt ops K rest ((d,.un)::fr) ob):LexD P nt ops K (⟨some d,a,ty,pos,af,some (j,b)⟩::rest) fr ob:=by
 simp only[LexD,g,cond];refine⟨.un,d,rfl,⟨d,rfl,by simpa using c,.inr ⟨⟨t,_,f,h,?_⟩,rfl⟩⟩,k⟩;have:=Wants.val (b:=b) x
 rwa[show (x == b)=false by simpa using hb]at this
theorem AD{e:Op}{ty:TypeId}{pos:String}{af:Array Edge}{s sv:SV}{j t:Nat}{b W:Bool}(p:(ops[j]?).bind (·.dst)=some t)(q:D4 fr t=some sv)(f:Wants b sv W)
  (h:W=true->Neu P ⟨some d,e,ty,pos,af,none⟩ (U4 fr (qH e)) ob (fun x=>x=s)) (v:turns e=false) (m:Nat.blt d nt=true) (k:LexD P nt ops K rest ((d,cond (W == true) s .un)::fr) ob) :
  LexD P nt ops K (⟨some d,e,ty,pos,af,some (j,b)⟩::rest) fr ob:=by
 simp only[LexD,v,cond];cases c:W with
 | true =>
  rw[c]at k h f;refine⟨s,d,rfl,⟨d,rfl,by simpa using m,.inl ⟨⟨t,_,p,q,f⟩,U4 fr (qH e),fun i s o=>⟨l7 o,?_⟩,?_⟩⟩,k⟩
  ·simp only[uses];exact List.mem_append_right _ (z6 o)
  ·intro S G a w hs;have g:=h rfl S G a w hs;unfold Does at g ⊢;exact g
 | false =>
  rw[c]at k f;exact⟨.un,d,rfl,⟨d,rfl,by simpa using m,.inr ⟨⟨t,_,p,q,f⟩,rfl⟩⟩,k⟩
theorem NX{d:Op}{ty:TypeId}{pos:String}{af:Array Edge}{fr':Fr}{ob':Obs}(h:Eff P ⟨none,d,ty,pos,af,none⟩ fr ob fr' ob')(i:turns d=true)(k:LexD P nt ops K rest fr' ob') :
  LexD P nt ops K (⟨none,d,ty,pos,af,none⟩::rest) fr ob:=by
 simp only[LexD,i,cond];refine⟨rfl,fun S G a w l hs=>?_⟩;have b:=h S G a w (simF_iff.1 hs);unfold Does at b ⊢;generalize (execOp a.eval _).run P w=r at *;cases r with
 | ok n w' =>
  cases n<;>simp only at b ⊢<;>try exact b.elim
  case value v=>obtain⟨G',c⟩:=b;exact⟨_,ob',G',⟨fr',rfl,k⟩,simF_iff.2 c⟩
  case skip=>obtain⟨G',c⟩:=b;exact⟨_,ob',G',⟨fr',rfl,k⟩,simF_iff.2 c⟩
  case enter f args=>exact b.mono fun e j ⟨v,g,G',c⟩=>⟨v,g,_,ob',G',⟨fr',rfl,k⟩,simF_iff.2 c⟩
 | halt x w'=>exact b.elim
theorem KF{j:Op}{ty:TypeId}{pos:String}{af:Array Edge}{fr':Fr}{ob':Obs}{s:SV}(h:EffV P ⟨some d,j,ty,pos,af,none⟩ fr ob s fr' ob')(p:turns j=true)(l:Nat.blt d nt=true)(k:LexD P nt ops K rest ((d,s)::fr') ob') :
  LexD P nt ops K (⟨some d,j,ty,pos,af,none⟩::rest) fr ob:=by
 simp only[LexD,p,cond];refine⟨rfl,fun S G a w o hs=>?_⟩;have b:=h S G a w (simF_iff.1 hs);have c:d<S.nt:=by rw[o];simpa using l
 unfold Does at b ⊢;generalize (execOp a.eval _).run P w=r at *;cases r with
 | ok n w' =>
  cases n<;>simp only at b ⊢<;>try exact b.elim
  case value v=>obtain⟨G',g,i⟩:=b;exact⟨_,ob',G',⟨_,rfl,k⟩,simF_iff.2 (g.put c i)⟩
  case skip=>obtain⟨G',g,i⟩:=b;exact⟨_,ob',G',⟨_,rfl,k⟩,simF_iff.2 (g.put c i)⟩
  case enter f args=>exact b.mono fun e q ⟨v,m,G',g,i⟩=>⟨v,m,_,ob',G',⟨_,rfl,k⟩,simF_iff.2 (g.put c i)⟩
 | halt x w'=>exact b.elim
theorem I4{dst:Option Tmp}{ty:TypeId}{pos:String}{af:Array Edge}{gd:Option (Nat×Bool)}{f:FuncId}{b:Array Operand}{ats:Array TypeId}{ps rs:List PV}(p:FnOk P f ps (fun r=>r=rs))(ha:eP fr b.toList=some ps)(m:b.toList.all H3=true) :
  Neu P ⟨dst,.call ⟨.value (.func f),b,ats⟩,ty,pos,af,gd⟩ fr ob (fun s=>s=oV rs):=by
 intro S G a w h;have:=n_call (P:=P) (dst:=dst) (ty:=ty) (pos:=pos) (af:=af) (gd:=gd) (ats:=ats) (ob:=ob) p ha m S G a w h;unfold Does at this ⊢;generalize (execOp a.eval _).run P w=r at *;cases r with
 | ok n w' =>
  cases n<;>simp only at this ⊢<;>try exact this
  case value v=>obtain⟨d,s,⟨k,g,i⟩,j⟩:=this;subst g;exact⟨d,s,i,j⟩
  case skip=>obtain⟨d,s,⟨k,g,i⟩,j⟩:=this;subst g;exact⟨d,s,i,j⟩
  case enter f b=>exact this.mono fun e q ⟨v,o,d,s,⟨k,g,i⟩,j⟩=>by subst g;exact⟨v,o,d,s,i,j⟩
 | halt x w'=>exact this
end
end
class TySz (P:Program) (t:TypeId) (n:outParam Nat):Prop where
 out:(P.info? t).map (·.size)=some n
theorem GM{x:Operand}{b d:TypeId}{k f j:IntKind}{n:Int}[hs:TyInt P b j][hd:TyInt P d f](g:opv fr x=some (I6 (.int k n))) :
  Neu P ⟨dst,.convert b d x,ty,pos,af,gd⟩ fr ob (fun l=>l=I6 (.int f (f.wrap n))) :=
 E1 fun S G a w h=>by
  refine⟨_,?_,rfl,rfl⟩;simp only[execOp,E9 h g];refine J8 ?_;simp[convert,run_underlying hs.out,run_underlying hd.out,Conv.intToInt]
theorem n_min{x y:Operand}{d:Array TypeId}{k:IntKind}{a b:Int}(e:opv fr x=some (I6 (.int k a)))(f:opv fr y=some (I6 (.int k b))) :
  Neu P ⟨dst,.call ⟨.builtin .min,#[x,y],d⟩,ty,pos,af,gd⟩ fr ob (fun g=>g=I6 (.int k (if b<a then b else a))) :=
 E1 fun S G j w h=>by
  refine⟨_,?_,rfl,rfl⟩;simp[execOp,resolve,invoke,builtin,E9 h e,E9 h f,run_min_int2]
theorem n_max{x y:Operand}{d:Array TypeId}{k:IntKind}{a b:Int}(e:opv fr x=some (I6 (.int k a)))(f:opv fr y=some (I6 (.int k b))) :
  Neu P ⟨dst,.call ⟨.builtin .max,#[x,y],d⟩,ty,pos,af,gd⟩ fr ob (fun g=>g=I6 (.int k (if b>a then b else a))) :=
 E1 fun S G j w h=>by
  refine⟨_,?_,rfl,rfl⟩;simp[execOp,resolve,invoke,builtin,E9 h e,E9 h f,run_max_int2]
class TyFld1 (P:Program) (t:TypeId) (f:Nat) (off:outParam Nat):Prop where
 out:∃fs fd d,P.underlying t=some (.struct fs)/\fs[f]?=some fd/\fd.offset=off/\P.underlying fd.type=some d/\(match d with | .struct _ | .array _ _=>False | _=>True)
def TC.free(k:Nat):TC->Bool
 | .buf a _ _ _ _=>!(Nat.beq a k)
 | .ref a _=>!(Nat.beq a k)
 | .mut a=>!(Nat.beq a k)
 | .mref a _ _ _=>!(Nat.beq a k)
 | .clo _ g d=>!(jA k g||jA k d)
 | .msl a _ _ _=>!(Nat.beq a k)
 | .ifc _ a _=>!(Nat.beq a k)
 | _=>true
def S1.free(k:Nat):S1->Bool
 | .one t=>t.free k
 | .agg b=>b.all (TC.free k)
def SV.free(k:Nat):SV->Bool
 | .s x=>x.free k
 | .tup l=>l.all (S1.free k)
 | .any=>true
 | .un=>true
def Ob.free(k:Nat):Ob->Bool
 | .box c=>c.all (TC.free k)
 | .tbx _ c=>c.all (TC.free k)
 | .tarr _ _ c=>c.all (TC.free k)
 | .growA _ _ _ _ _ _ c=>c.all (TC.free k)
 | .growT _ _ _ c=>c.all (TC.free k)
 | _=>true
def G5(k:Nat):Fr->Bool
 | []=>true
 | (_,s)::r=>SV.free k s&&G5 k r
def K5(k:Nat):Obs->Bool
 | []=>Nat.blt k 1000000
 | (i,o)::r=>!(Nat.beq i k)&&(Ob.free k o&&K5 k r)
theorem TC.forget_free{k:Nat}:∀{t:TC},t.free k=true->t.forget k=t
 | .p _,_=>rfl
 | .buf k' _ _ _ _,h=>by simp only[TC.free,Bool.not_eq_true']at h;simp[TC.forget,h]
 | .ref k' _,h=>by simp only[TC.free,Bool.not_eq_true']at h;simp[TC.forget,h]
 | .eref _ _ _ _ _,_=>rfl
 | .mut k',h=>by simp only[TC.free,Bool.not_eq_true']at h;simp[TC.forget,h]
 | .mref k' _ _ _,h=>by simp only[TC.free,Bool.not_eq_true']at h;simp[TC.forget,h]
 | .any,_=>rfl
 | .clo _ _ _,h=>by simp only[TC.free,Bool.not_eq_true']at h;simp only[TC.forget,h];rfl
 | .msl k' _ _ _,h=>by simp only[TC.free,Bool.not_eq_true']at h;simp[TC.forget,h]
 | .full _ _ _ _,_=>rfl
 | .ifc _ k' _,h=>by simp only[TC.free,Bool.not_eq_true']at h;simp[TC.forget,h]
 | .fnc _ _,_=>rfl
 | .fncE _ _ _ _ _,_=>rfl
theorem c6{α:Type 1}{f:α->α}:∀{l:List α},(∀x∈l,f x=x)->l.map f=l
 | [],_=>rfl
 | a::l,h=>by
  have c:l.map f=l:=c6 fun x b=>h x (List.mem_cons_of_mem _ b);rw[C39,h a (List.mem_cons_self ..),c]
theorem aN{k:Nat}{a:List TC}(h:a.all (TC.free k)=true):a.map (TC.forget k)=a:=c6 fun t b=>TC.forget_free (List.all_eq_true.1 h t b)
theorem S1.forget_free{k:Nat}:∀{s:S1},s.free k=true->s.forget k=s
 | .one t,h=>by simp only[S1.forget];rw[TC.forget_free h]
 | .agg ts,h=>by simp only[S1.forget];rw[aN h]
theorem SV.forget_free{k:Nat}:∀{s:SV},s.free k=true->s.forget k=s
 | .s x,h=>by simp only[SV.forget];rw[S1.forget_free h]
 | .tup l,h=>by simp only[SV.forget];rw[c6 fun t b=>S1.forget_free (List.all_eq_true.1 h t b)]
 | .any,_=>rfl
 | .un,_=>rfl
theorem Ob.forget_free{k:Nat}:∀{o:Ob},o.free k=true->o.forget k=o
 | .box ts,h=>by simp only[Ob.forget];rw[aN h]
 | .tbx _ ts,h=>by simp only[Ob.forget];rw[aN h]
 | .tarr _ _ ts,h=>by simp only[Ob.forget];rw[aN h]
 | .arr _ _ _ _,_=>rfl
 | .spare _ _ _,_=>rfl
 | .grow _ _ _ _ _,_=>rfl
 | .map _ _ _,_=>rfl
 | .growA _ _ _ _ _ _ ts,h=>by simp only[Ob.forget];rw[aN h]
 | .growT _ _ _ ts,h=>by simp only[Ob.forget];rw[aN h]
theorem T4{k:Nat}:∀{fr:Fr},G5 k fr=true->Fr.forget k fr=fr
 | [],_=>rfl
 | (i,s)::r,h=>by
  simp only[G5,C30]at h;have:=T4 h.2;simp only[Fr.forget,C39]at this ⊢;rw[this,SV.forget_free h.1]
theorem Q6{k:Nat}:∀{ob:Obs},K5 k ob=true->Obs.forget k ob=ob/\B4 ob k=none/\k<1000000
 | [],h=>⟨rfl,rfl,by simpa[K5] using h⟩
 | (i,o)::r,h=>by
  simp only[K5,C30,Bool.not_eq_true']at h;obtain⟨a,b,c⟩:=Q6 h.2.2;simp only[Obs.forget,C39]at a ⊢;refine⟨by rw[a,Ob.forget_free h.2.1],?_⟩;exact⟨by simp[B4,h.1,b],c⟩
theorem P3(k:Nat){x:Operand}{e:TypeId}{s:S1}(m:opv fr x=some (.s s))(j:H3 x=true)(c:(G5 k fr&&K5 k ob&&s.free k)=true) :
  EffV P ⟨dst,.box e x,ty,pos,af,gd⟩ fr ob (.s (.one (.ref k 0))) fr ((k,.box s.cells)::ob):=by
 simp only[C30]at c;obtain⟨⟨d,g⟩,a⟩:=c;obtain⟨h,i,l⟩:=Q6 g;have:=e_box (P:=P) (dst:=dst) (ty:=ty) (pos:=pos) (af:=af) (gd:=gd) (e:=e) k m j i l;rw[T4 d,h]at this;have hs:s.cells.map (TC.forget k)=s.cells:=by
  cases s with
  | one t=>simp only[S1.cells,C39,C77];rw[TC.forget_free a]
  | agg p=>exact aN a
 rwa[hs]at this
theorem E6(k:Nat){e:TypeId}{z:Value}[hz:TyZero P e z](d:(G5 k fr&&K5 k ob)=true) :
  EffV P ⟨dst,.alloc e,ty,pos,af,gd⟩ fr ob (.s (.one (.ref k 0))) fr ((k,.box (z.cells.toList.map fun c=>.p (.v c)))::ob):=by
 simp only[C30]at d;obtain⟨g,h⟩:=d;obtain⟨i,j,m⟩:=Q6 h;have:=KB (P:=P) (dst:=dst) (ty:=ty) (pos:=pos) (af:=af) (gd:=gd) (e:=e) (fr:=fr) k j m
 rwa[T4 g,i]at this
theorem w9(k:Nat)(α:Type)(c:α->Nat->Cell){t e:TypeId}{h d:Nat}[ht:TySl P t e h d](j:(G5 k fr&&K5 k ob)=true) :
  EffV P ⟨dst,.assign (.const (.slice none 0 0)),t,pos,af,gd⟩ fr ob (.s (.one (.buf k α h c []))) fr ((k,.spare 0 h e)::ob):=by
 simp only[C30]at j;obtain⟨m,q⟩:=j;obtain⟨v,w,x⟩:=Q6 q;have:=e_adopt (P:=P) (dst:=dst) (pos:=pos) (af:=af) (gd:=gd) (fr:=fr) (ht:=ht) k α c w x
 rwa[T4 m,v]at this
theorem f_make(k:Nat){t e:TypeId}{g f:Nat}{x y:Operand}{J K:IntKind}{n:Int}(α:Type)(c:α->Nat->Cell)(q:α){v:List Value}[ht:TySl P t e g f]
  (G:opv fr x=some (I6 (.int J n))) (H:opv fr y=some (I6 (.int K n))) (w:0<=n) (E:n<=1073741824) (I:((P.info? e).bind (·.zero)).map (fun z=>z.cells.toList)=some v)
  (h:∀L:Rd,All2 (Cell.rep L) (cellsOf c q 0 g) v) (j:(G5 k fr&&K5 k ob)=true) :
  EffV P ⟨dst,.makeSlice t x y,ty,pos,af,gd⟩ fr ob (.s (.one (.mut k))) fr ((k,.arr α g c (List.replicate n.toNat q))::ob):=by
 simp only[C30]at j;obtain⟨A,B⟩:=j;obtain⟨C,D,F⟩:=Q6 B;have:=e_make (P:=P) (dst:=dst) (ty:=ty) (pos:=pos) (af:=af) (gd:=gd) (fr:=fr) (ht:=ht) k G H w E I h D F
 rwa[T4 A,C]at this
attribute [irreducible] Neu Eff EffV WpL WpC FnOk LexD Sees RetOk
end Go.AL
