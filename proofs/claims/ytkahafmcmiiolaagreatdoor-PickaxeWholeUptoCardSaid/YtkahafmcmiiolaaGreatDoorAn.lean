/- The abstract logic, its third part. No project text. -/
import Derived.Test.YtkahafmcmiiolaaGreatDoorAm
import Derived.Laws.StructEq
import Derived.Laws.Cover3
import Derived.MapKept
import Derived.Lib.AppendZeros
set_option linter.unusedSimpArgs false
attribute [local semireducible] Go.AL.Neu Go.AL.Eff Go.AL.EffV Go.AL.WpL Go.AL.WpC Go.AL.FnOk Go.AL.LexD Go.AL.Sees Go.AL.RetOk Go.AL.FnIo Go.AL.Met Go.AL.RetS
namespace Go.AL
open Go Go.RowKit
set_option linter.unusedVariables false
section
variable {P:Program} {nt:Nat} {ops:Array Oper}
def Told (U:Fr) (φ:Fa):Prop:=∀t s,E6 U t=some s→φ t=some s
def AnyC (P:Program) (nt:Nat) (ops:Array Oper) (T:Nat) (U:Fr) (ob ob':Obs) (E:Array Bool→Fa→Prop):Nat→Array Bool→Fa→Prop
 | 0,listed,φ=>(T∈Region.ready .any ops listed→Told U φ)∧T∈Region.ready .any ops listed∧(∀j∈Region.ready .any ops listed,j=T)∧E listed φ
 | fuel+1,listed,φ=>(T∈Region.ready .any ops listed→Told U φ)∧(∃p,p < T∧p∈Region.ready .any ops listed)∧∀i∈Region.ready .any ops listed,i≠T →
   ∃o s d,ops[i]?=some o∧o.dst=some d∧turns o.op=false∧YieldsN P nt ops o φ ob s∧YieldsN P nt ops o φ ob' s∧AnyC P nt ops T U ob ob' E fuel (listed.setIfInBounds i true) (d9 φ d s)
theorem AnyC.told {T:Nat} {U:Fr} {ob ob':Obs} {E:Array Bool→Fa→Prop} {fuel:Nat} {listed:Array Bool} {φ:Fa} (h:AnyC P nt ops T U ob ob' E fuel listed φ):T∈Region.ready .any ops listed→Told U φ:=by
 cases fuel<;>exact h.1
theorem O8 {fr:Fr} {ob:Obs} {dst:Option Tmp} {ty:TypeId} {pos:String} {af:Array Edge} {gd:Option (Nat × Bool)} {c x y:Operand} {b p:Bool} (hc:opv fr c=some (R0 b)) (hb:b=true) (hx:opv fr x=some (R0 p)) :
  Neu P ⟨dst,.pick c x y,ty,pos,af,gd⟩ fr ob (fun s'=>s'=R0 p) :=
 E7 fun S G a w h=>by
  have:=F6 h hc
  subst hb
  exact ⟨.bool p,by simp [execOp,this,asBool,F6 h hx],rfl,rfl⟩
theorem W9 {fr:Fr} {ob:Obs} {dst:Option Tmp} {ty:TypeId} {pos:String} {af:Array Edge} {gd:Option (Nat × Bool)} {c x y:Operand} {b p:Bool} (hc:opv fr c=some (R0 b)) (hb:b=false) (hx:opv fr y=some (R0 p)) :
  Neu P ⟨dst,.pick c x y,ty,pos,af,gd⟩ fr ob (fun s'=>s'=R0 p) :=
 E7 fun S G a w h=>by
  have:=F6 h hc
  subst hb
  exact ⟨.bool p,by simp [execOp,this,asBool,F6 h hx],rfl,rfl⟩
end
end Go.AL
namespace Go.AL
open Go Go.RowKit
end Go.AL
namespace Go.AL
open Go Go.RowKit
set_option linter.unusedVariables false
inductive CK | int (k:IntKind) | str | bool
def ckOf (P:Program) (t:TypeId):Option CK :=
 match P.underlying t with
 | some (.int k)=>some (.int k)
 | some .string=>some .str
 | some .bool=>some .bool
 | _=>none
def cmpFs (P:Program):Nat→List Field→List CK→Bool
 | _,[],[]=>true
 | i,f::fs,k::ks=>f.name != "_"&&(f.offset == i&&((match ckOf P f.type,k with | some (.int k),.int k'=>decide (k=k') | some .str,.str=>true | some .bool,.bool=>true | _,_=>false)&&cmpFs P (i+1) fs ks))
 | _,_,_=>false
class TyCmp (P:Program) (t:TypeId) (ks:outParam (List CK)):Prop where
 out:P.underlying t=some (.struct (P.fieldsOf t))∧(cmpFs P 0 (P.fieldsOf t).toList ks&&(!P.stoodInHeld t&&!P.eqGuardType P.depth t))=true
section
variable {P:Program} {dst:Option Tmp} {ty:TypeId} {pos:String} {af:Array Edge} {gd:Option (Nat × Bool)} {fr:Fr} {ob:Obs}
end
end Go.AL
namespace Go.AL
open Go Go.RowKit
set_option linter.unusedVariables false
theorem A33 {listed:Array Bool} {e j:Nat} (h:e≠j):(listed.setIfInBounds e true).getD j false=listed.getD j false:=by
 simp only [Array.getD_eq_getD_getElem?,Array.getElem?_setIfInBounds_ne h]
def s6:Op→List Nat
 | .store _ x y=>tmO x++tmO y
 | .box _ x=>tmO x
 | .makeSlice _ x y=>tmO x++tmO y
 | op=>C97 op
def svAt (sv:List SV) (i:Nat):SV:=sv.getD i .any
def H97:List Oper→List SV→Fr→Fr
 | o::l,s::sv,fr=>match o.dst with
  | some d=>(d,s)::H97 l sv fr
  | none=>H97 l sv fr
 | _,_,fr=>fr
abbrev Xe:=List (Nat × Bool × (Nat × Ob))
def xAt:Xe→Nat→Option (Bool × (Nat × Ob))
 | [],_=>none
 | (i,x)::r,e=>cond (Nat.beq i e) (some x) (xAt r e)
def obD (xe:Xe) (ob:Obs):List Nat→Obs
 | []=>ob
 | e::D=>match xAt xe e with
  | some x=>x.2::obD xe ob D
  | none=>obD xe ob D
def A75 (e:Nat):List Nat→List Nat
 | []=>[e]
 | d::D=>cond (Nat.blt d e) (e::d::D) (d::A75 e D)
def K8 (l:List Nat) (e:Nat):Bool:=l.any (Nat.beq e)
theorem hasN_iff {l:List Nat} {e:Nat}:K8 l e=true↔e∈l:=by
 unfold K8
 rw [List.any_eq_true]
 exact ⟨fun ⟨x,h,he⟩=>by rw [Nat.eq_of_beq_eq_true he];exact h,fun h=>⟨e,h,Nat.beq_refl e⟩⟩
def G22 (ops:Array Oper) (E:List Nat) (i:Nat) (D:List Nat):Bool:=!(K8 D i)&&((E.all fun j=>!(Bef ops i j)||K8 D j)&&D.all fun j=>!(Bef ops j i))
def A76:List Nat→List Nat→Bool
 | [],[]=>true
 | a::l,b::m=>Nat.beq a b&&A76 l m
 | _,_=>false
theorem C48:∀{l m:List Nat},A76 l m=true→l=m
 | [],[],_=>rfl
 | [],_::_,h=>by simp [A76] at h
 | _::_,[],h=>by simp [A76] at h
 | a::l,b::m,h=>by
  simp only [A76,J61] at h
  rw [Nat.eq_of_beq_eq_true h.1,C48 h.2]
def memM (M:List (List Nat)) (D:List Nat):Bool:=M.any (A76 D)
theorem G23 {M:List (List Nat)} {D:List Nat} (h:memM M D=true):D∈M:=by
 obtain ⟨x,h1,h2⟩:=List.any_eq_true.1 h
 rw [C48 h2];exact h1
def desc:List Nat→Bool
 | []=>true
 | a::l=>l.all (fun b=>Nat.blt b a)&&desc l
def B29:List Oper→List Nat
 | []=>[]
 | o::l=>match o.dst with
  | some d=>d::B29 l
  | none=>B29 l
def C14:List Nat→Bool
 | []=>true
 | a::l=>!(K8 l a)&&C14 l
section
variable {P:Program} {nt:Nat}
def EffQ (P:Program) (nt:Nat) (ops:Array Oper) (o:Oper) (U:Fr) (new:Bool) (ob:Obs) (x:Nat × Ob) (s:SV):Prop :=
 ∀φ,Told U φ→(new=true→H96 x.1 φ)→E01 P nt ops o φ ob (fun φ' ob''=>φ'=(match o.dst with | some d=>d9 φ d s | none=>φ)∧ob''=x::ob)
def Ob1 (P:Program) (nt:Nat) (l:List Oper) (sv:List SV) (xe:Xe) (fr:Fr) (ob:Obs) (i:Nat) (D:List Nat):Prop :=
 ∃o,l[i]?=some o∧((turns o.op=false∧Neu P o (V8 (H97 l sv fr) (s6 o.op)) (obD xe ob D) (fun s=>s=svAt sv i)) ∨
  ∃new x,xAt xe i=some (new,x)∧EffQ P nt l.toArray o (V8 (H97 l sv fr) (s6 o.op)) new (obD xe ob D) x (svAt sv i))
def Ob1s (P:Program) (nt:Nat) (l:List Oper) (sv:List SV) (xe:Xe) (fr:Fr) (ob:Obs):List (Nat × List Nat)→Prop
 | []=>True
 | (i,D)::r=>Ob1 P nt l sv xe fr ob i D∧Ob1s P nt l sv xe fr ob r
theorem Ob1s.get {l:List Oper} {sv:List SV} {xe:Xe} {fr:Fr} {ob:Obs}:∀{r:List (Nat × List Nat)},Ob1s P nt l sv xe fr ob r→∀p∈r,Ob1 P nt l sv xe fr ob p.1 p.2
 | [],_,p,hp=>by simp at hp
 | (i,D)::r,h,p,hp=>by
  rcases List.mem_cons.1 hp with rfl | hp
  ·exact h.1
  ·exact Ob1s.get h.2 p hp
theorem E05 {e:Nat} {listed:Array Bool} (hsz:e < listed.size) (hun:listed.getD e false=false):∀{E:List Nat},desc E=true→e∈E→E.filter (fun j=>(listed.setIfInBounds e true).getD j false)=A75 e (E.filter fun j=>listed.getD j false)
 | [],_,he=>by simp at he
 | d::E,hd,he=>by
  simp only [desc,J61] at hd
  have hlt:∀b∈E,b < d:=fun b hb=>by simpa using List.all_eq_true.1 hd.1 b hb
  have hsame:(listed.setIfInBounds e true).getD e false=true:=by simp [hsz]
  have hoth:∀j,j≠e→(listed.setIfInBounds e true).getD j false=listed.getD j false:=fun j hj=>A33 (Ne.symm hj)
  by_cases hde:d=e
  ·subst hde
   rw [List.filter_cons_of_pos (by exact hsame),List.filter_cons_of_neg (by rw [hun];simp)]
   have:E.filter (fun j=>(listed.setIfInBounds d true).getD j false)=E.filter fun j=>listed.getD j false:=by
    apply List.filter_congr
    intro j hj
    exact hoth j (by have:=hlt j hj;omega)
   rw [this]
   cases hE:E.filter fun j=>listed.getD j false with
   | nil=>rfl
   | cons a r =>
    have ha:a∈E:=(List.mem_filter.1 (by rw [hE];exact List.mem_cons_self ..)).1
    have hba:Nat.blt a d=true:=by simpa using hlt a ha
    unfold A75;rw [hba];rfl
  ·have heE:e∈E:=(List.mem_cons.1 he).resolve_left (fun q=>hde q.symm)
   have ih:=E05 hsz hun hd.2 heE
   have hed:Nat.blt d e=false:=by
    have:=hlt e heE
    cases hb:Nat.blt d e
    ·rfl
    ·rw [Nat.blt_eq] at hb;omega
   by_cases hl:listed.getD d false=true
   ·rw [List.filter_cons_of_pos (by rw [hoth d hde];exact hl),List.filter_cons_of_pos (by exact hl),ih]
    show _=A75 e (d::_)
    conv=>rhs;unfold A75
    rw [hed];rfl
   ·rw [List.filter_cons_of_neg (by rw [hoth d hde];exact hl),List.filter_cons_of_neg (by exact hl),ih]
theorem C49:∀{l:List Oper} {j:Nat} {o:Oper} {d:Nat},l[j]?=some o→o.dst=some d→d∈B29 l
 | [],j,o,d,h,_=>by simp at h
 | o'::l,0,o,d,h,hd=>by
  simp at h;subst h
  unfold B29;rw [hd];exact List.mem_cons_self ..
 | o'::l,j+1,o,d,h,hd=>by
  have:=C49 (l:=l) (j:=j) (by simpa using h) hd
  unfold B29
  split
  ·exact List.mem_cons_of_mem _ this
  ·exact this
theorem E06:∀{l:List Oper} {i j:Nat} {o o':Oper} {d:Nat},C14 (B29 l)=true→l[i]?=some o→l[j]?=some o'→o.dst=some d→o'.dst=some d→i=j
 | [],i,j,o,o',d,_,h,_,_,_=>by simp at h
 | q::l,0,0,_,_,_,_,_,_,_,_=>rfl
 | q::l,0,j+1,o,o',d,hn,h1,h2,h3,h4=>by
  simp at h1;subst h1
  have hm:=C49 (l:=l) (j:=j) (by simpa using h2) h4
  unfold B29 at hn;rw [h3] at hn
  simp only [C14,J61,Bool.not_eq_true'] at hn
  rw [hasN_iff.2 hm] at hn;exact absurd hn.1 (by simp)
 | q::l,i+1,0,o,o',d,hn,h1,h2,h3,h4=>by
  simp at h2;subst h2
  have hm:=C49 (l:=l) (j:=i) (by simpa using h1) h3
  unfold B29 at hn;rw [h4] at hn
  simp only [C14,J61,Bool.not_eq_true'] at hn
  rw [hasN_iff.2 hm] at hn;exact absurd hn.1 (by simp)
 | q::l,i+1,j+1,o,o',d,hn,h1,h2,h3,h4=>by
  have:C14 (B29 l)=true:=by
   unfold B29 at hn
   split at hn
   ·simp only [C14,J61] at hn;exact hn.2
   ·exact hn
  exact congrArg (·+1) (E06 this (by simpa using h1) (by simpa using h2) h3 h4)
structure InvC (l:List Oper) (sv:List SV) (fr:Fr) (listed:Array Bool) (φ:Fa):Prop where
 put:∀j o d,l[j]?=some o→listed.getD j false=true→o.dst=some d→φ d=some (svAt sv j)
 from':∀t s,φ t=some s→(∃j o,l[j]?=some o∧listed.getD j false=true∧o.dst=some t∧s=svAt sv j)∨E6 fr t=some s
 old:∀t s,E6 fr t=some s→t∉B29 l→φ t=some s
def unl (listed:Array Bool) (n:Nat):Nat:=(List.range n).countP fun i=>!(listed.getD i false)
theorem H98 {listed:Array Bool} {i:Nat} (hs:i < listed.size) (hu:listed.getD i false=false):∀{n:Nat},i < n→unl (listed.setIfInBounds i true) n+1=unl listed n
 | 0,h=>by omega
 | n+1,h=>by
  unfold unl
  rw [K08,List.countP_append,List.countP_append]
  have h1:∀j,j≠i→(listed.setIfInBounds i true).getD j false=listed.getD j false:=fun j hj=>A33 (Ne.symm hj)
  by_cases hin:i < n
  ·have ih:=H98 hs hu hin
   unfold unl at ih
   have e:List.countP (fun i_1=>!(listed.setIfInBounds i true).getD i_1 false) [n]=List.countP (fun i=>!listed.getD i false) [n]:=by
    simp only [List.countP_cons,List.countP_nil,h1 n (by omega)]
   rw [e];omega
  ·obtain rfl:i=n:=by omega
   have e:List.countP (fun i_1=>!(listed.setIfInBounds i true).getD i_1 false) (List.range i)=List.countP (fun i=>!listed.getD i false) (List.range i):=by
    apply List.countP_congr
    intro j hj
    rw [h1 j (by have:=List.mem_range.1 hj;omega)]
   rw [e]
   have e2:(listed.setIfInBounds i true).getD i false=true:=by simp [hs]
   simp only [List.countP_cons,List.countP_nil,e2,hu]
   simp
end
end Go.AL
namespace Go.AL
open Go Go.RowKit
set_option linter.unusedVariables false
section
variable {P:Program} {dst:Option Tmp} {ty:TypeId} {pos:String} {af:Array Edge} {gd:Option (Nat × Bool)} {fr:Fr} {ob:Obs}
def B38 (fr:Fr):List Operand→Option (List (Nat × Nat))
 | []=>some []
 | x::r=>match opv fr x with
  | some (.s (.one (.ref k o)))=>(B38 fr r).map ((k,o)::·)
  | _=>none
theorem C15 {S:Ctx} {G:Gh} {a:Act} {w:World} (h:Sim P S fr ob G a w):∀(xs:List Operand) (ps:List (Nat × Nat)),B38 fr xs=some ps→All2 (D30 G) ps (xs.map a.eval)
 | [],ps,h1=>by simp [B38] at h1;subst h1;trivial
 | x::r,ps,h1=>by
  unfold B38 at h1
  split at h1
  ·rename_i k o hx
   cases hr:B38 fr r with
   | none=>rw [hr] at h1;simp at h1
   | some qs =>
    rw [hr] at h1
    simp at h1
    subst h1
    exact ⟨I1 h hx,C15 h r qs hr⟩
  ·cases h1
theorem m8 {f:FuncId} {first cap:List Operand} {nf nc:List (Nat × Nat)} (h1:B38 fr first=some nf) (h2:B38 fr cap=some nc) :
  Neu P ⟨dst,.makeFunc (.func f) first.toArray cap.toArray,ty,pos,af,gd⟩ fr ob (fun s'=>s'=.s (.one (.clo f nf nc))) :=
 E7 fun S G a w h=>by
  refine ⟨.func (.func f) (first.map a.eval).toArray (cap.map a.eval).toArray,?_,_,_,rfl,C15 h first nf h1,C15 h cap nc h2⟩
  simp [execOp,Instr.makeFunc]
abbrev refS (p:Nat × Nat):S1:=.one (.ref p.1 p.2)
theorem E07 {rd:Rd} {G:Gh}:∀{l:List (Nat × Nat)} {us:List Value},All2 (D30 G) l us→All2 (S1.rep rd G) (l.map refS) us
 | [],[],_=>trivial
 | [],_::_,h=>h.elim
 | _::_,[],h=>h.elim
 | _::l,_::us,h=>⟨h.1,E07 h.2⟩
section
variable {nt:Nat} {ops:Array Oper} {rest:List Oper} {Q:Post} {d:Nat}
theorem A96 {f:FuncId} {g:Operand} {xs:List Operand} {ats:Array TypeId} {ty:TypeId} {pos:String} {af:Array Edge} {nf nc:List (Nat × Nat)} {args:List S1} {ks:List Nat} {post:List S1→Obs→Prop}
  (hf:Met P f (nf.map refS++args++nc.map refS) (shF fr) ob ks post) (hg:opv fr g=some (.s (.one (.clo f nf nc)))) (ha:A05 fr xs=some args) (hc:xs.all H8=true) (hd:Nat.blt d nt=true)
  (kk:∀rs ob',post rs ob'→WpL P nt ops rest ((d,D77 rs)::C1 ks fr) ob' Q):WpL P nt ops (⟨some d,.call ⟨.value g,xs.toArray,ats⟩,ty,pos,af,none⟩::rest) fr ob Q:=by
 intro S G a w hn h
 obtain ⟨vs,ws,hgv,hvs,hws⟩:=I1 h hg
 have hvals:All2 (S1.rep (E8 (Mut S ob G) w) G) (nf.map refS++args++nc.map refS) (vs++xs.map a.eval++ws):=((E07 hvs).append (c8 h xs args ha hc)).append (E07 hws)
 obtain ⟨gv,hgv2⟩:∃gv:Nat→Value,gv=fun i=>S.sl a (i - 1000000):=⟨_,rfl⟩
 let S':Ctx:={ S with gv:=gv }
 have hhigh:High (shF fr):=fun i s hi=>(W8 fr i s hi).1
 have hfacts0:∀i s,E6 (shF fr) i=some s→s.rep (E8 (Mut S' ob G) w) G (S'.sl a i):=by
  intro i s hi
  obtain ⟨h7,h8⟩:=W8 fr i s hi
  rw [Ctx.sl_ge h7]
  show s.rep _ _ (gv i)
  have e:=congrFun hgv2 i
  rw [e]
  exact h.facts (i - 1000000) s h8
 have hs:Sim P S' (shF fr) ob G a w:={ h with facts:=hfacts0 }
 have hcalls:=hf.2 hhigh S' G a w _ hs hvals
 refine wpList_plain rfl fun K hK=>L0 (K:=fun v w'=>∃rs ob' G',post rs ob'∧o8 (E8 (Mut S' ob' G') w') G' rs v∧Sim P S' (C1 ks (shF fr)) ob' G' a w') ?_ ?_
 ·have he:(execOp a.eval ⟨some d,.call ⟨.value g,xs.toArray,ats⟩,ty,pos,af,none⟩).run P w=.ok (.enter f (vs++xs.map a.eval++ws).toArray) w:=by
   have:=N5 (P:=P) (f:=f) (args:=(vs++xs.map a.eval++ws).toArray) (w:=w) hf.1
   simp only [execOp,resolve,hgv,Deferred.ofValue,Sem.run_bind,Sem.run_pure,Result.andThen_ok,invoke]
   rw [show vs.toArray++Array.map a.eval xs.toArray++ws.toArray=(vs++xs.map a.eval++ws).toArray by simp]
   exact this
  unfold Does
  rw [he]
  refine hcalls.mono ?_
  rintro e w' ⟨v,rs,ob',G',rfl,hpost,hres,hs'⟩
  exact ⟨v,rfl,rs,ob',G',hpost,hres,hs'⟩
 ·rintro v w' ⟨rs,ob',G',hp,hres,hs'⟩
  have hlt:d < S.nt:=by rw [hn];simpa using hd
  have hfacts:∀i s,E6 (C1 ks fr) i=some s→s.rep (E8 (Mut S ob' G') w') G' (S.sl a i):=by
   intro i s hi
   have h7:=hs'.facts (i+1000000) s (by rw [c7];exact C47 hi)
   have h8:1000000≤i+1000000:=Nat.le_add_left _ _
   rw [Ctx.sl_ge h8] at h7
   have h7:s.rep (E8 (Mut S ob' G') w') G' (gv (i+1000000)):=h7
   have e:=congrFun hgv2 (i+1000000)
   simp only [Nat.add_sub_cancel] at e
   rw [e] at h7
   exact h7
  have hsim:Sim P S (C1 ks fr) ob' G' a w':={ hs' with facts:=hfacts }
  exact hK _ _ (kk rs ob' hp S G' _ w' hn (hsim.put hlt hres))
end
theorem B39 {x yl yh:Operand} {t e:TypeId} {bytes ec k:Nat} {α:Type} {c:α→Nat→Cell} {xs:List α} {kl kh:IntKind} {i j:Int} [ht:TySl P t e ec bytes] (hx:opv fr x=some (.s (.one (.mut k)))) (hk:B4 ob k=some (.arr α ec c xs))
  (hyl:opv fr yl=some (I0 (.int kl i))) (hyh:opv fr yh=some (I0 (.int kh j))) (h0:0≤i) (h1:i≤j) (h2:j≤xs.length) :
  Neu P ⟨dst,.slice t x (some yl) (some yh) none,ty,pos,af,gd⟩ fr ob (fun s'=>s'=.s (.one (.msl k ec i.toNat (j.toNat - i.toNat)))) :=
 E7 fun S G a w h=>by
  obtain ⟨hu,_⟩:=I1 h hx
  obtain ⟨b,vs,t',hg,hlen,_⟩:=h.obs k _ hk
  rw [hg] at hu
  refine ⟨sliced (some ⟨b,0,none⟩) i.toNat j.toNat xs.length ec,?_,b,xs.length,xs.length,xs.length - i.toNat,if xs.length=i.toNat then 0 else i.toNat*ec,hg,by omega,?_,by omega,hlen,?_⟩
  ·simp only [execOp,hu,F6 h hyl,F6 h hyh,Option.map_some,Option.map_none]
   refine L3 ?_
   obtain ⟨he1,he2⟩:=ht.elem
   simp only [Instr.sliceAt,Sem.run_bind,run_underlying ht.out.1,Result.andThen_ok]
   rw [run_slice_lh w t (some ⟨b,0,none⟩) xs.length xs.length he1 kl kh i j h0 h1 (by omega),he2,J0 ht.size]
   rfl
  ·unfold sliced;split<;>simp [*,Addr.add_lit]
  ·by_cases hq:xs.length=i.toNat
   ·left;omega
   ·right;rw [if_neg hq]
theorem R6 {x y:Operand} {t e:TypeId} {ec bytes k o n:Nat} {ki:IntKind} {i:Int} [ht:TySl P t e ec bytes] (hx:opv fr x=some (.s (.one (.msl k ec o n))))
  (hy:opv fr y=some (I0 (.int ki i))) (h0:0≤i) (h1:i < n):Neu P ⟨dst,.indexAddr t x y,ty,pos,af,gd⟩ fr ob (fun s'=>s'=.s (.one (.mref k ec (o+i.toNat) 0))) :=
 E7 fun S G a w h=>by
  obtain ⟨b,m,cap,cap',o',hg,hm,hu,_,_,ho⟩:=I1 h hx
  have ho:o'=o*ec:=ho.resolve_left (by omega)
  subst ho
  refine ⟨.pointer (some ⟨b,(o+i.toNat)*ec,none⟩),?_,b,m,cap,hg,rfl⟩
  simp only [execOp,hu,F6 h hy]
  refine L3 ?_
  have hb:0≤i∧i < (n:Int):=⟨h0,h1⟩
  simp [Instr.indexAt,run_underlying ht.out.1,asIntOf,hb,J0 ht.size,Addr.add_lit,J79]
def L6 {κ:Type} [DecidableEq κ]:List (κ × Cell)→κ→Option Cell
 | [],_=>none
 | (k,c)::r,a=>if k=a then some c else L6 r a
class TyMap (P:Program) (t:TypeId) (kt:outParam TypeId) (kd:outParam TypeDesc) (z:outParam Value):Prop where
 out:∃et,P.underlying t=some (.map kt et)∧P.underlying kt=some kd∧(P.info? et).bind (·.zero)=some z∧z.oneCell'=true
theorem D02 (k:Nat) (κ:Type) (kf:κ→Value) {t:TypeId} (hf:(J6 k fr&&K0 k ob)=true) :
  EffV P ⟨dst,.makeMap t none,ty,pos,af,gd⟩ fr ob (.s (.one (.mut k))) fr ((k,.map κ kf [])::ob):=by
 simp only [J61] at hf
 obtain ⟨h1,h2⟩:=hf
 obtain ⟨h4,h5,hp⟩:=H3 h2
 intro S G a w h
 refine J1 (w':=w.alloc (.map #[] 0)) (v:=.map (some w.heap.size)) ?_ ?_
 ·simp only [execOp,Option.map_none]
  exact L3 rfl
 ·have hxw:Below w.heap.size w (w.alloc (.map #[] 0)):=(Below.refl _ _).alloc (Nat.le_refl _) _
  have hu:∀b,blk (.map (some w.heap.size))=some b→w.heap.size≤b:=by intro b hb;simp [blk] at hb;omega
  have h6:=h.new (o:=.map κ kf []) hp h5 hxw hu ⟨w.heap.size,#[],0,rfl,heap_alloc_new w _,trivial⟩
  rw [V9 h1,h4] at h6
  exact ⟨upd G k (.map (some w.heap.size)),h6,(I3 _ _ _).symm,rfl⟩
theorem D03 {κ:Type} [DecidableEq κ] {kf:κ→Value} {kd:TypeDesc} (hkey:∀a,MapKept.IsKey kd (kf a)) (hinj:∀a b,kf a=kf b→a=b) {rd:Rd} (a:κ):∀(kvs:List (κ × Cell)) (es:List MapEntry) (i:Nat),
  All2 (fun (kv:κ × Cell) (e:MapEntry)=>e.key=kf kv.1∧kv.2.rep rd e.val) kvs es →
  (L6 kvs a=none∧Instr.findNow kd (kf a) es i=some none)∨∃c j v,L6 kvs a=some c∧Instr.findNow kd (kf a) es i=some (some (j,v))∧c.rep rd v
 | [],[],_,_=>.inl ⟨rfl,rfl⟩
 | [],_::_,_,h=>h.elim
 | _::_,[],_,h=>h.elim
 | (k,c)::kvs,e::es,i,h=>by
  obtain ⟨⟨h1,h2⟩,h3⟩:=h
  obtain ⟨r,hr,hiff⟩:=MapKept.sameNow_of_keys (hkey a) (hkey k)
  have hr':Instr.sameNow kd (kf a) e.key=some r:=by rw [h1];exact hr
  by_cases he:k=a
  ·subst he
   have:r=true:=hiff.2 rfl
   subst this
   exact .inr ⟨c,i,e.val,by simp [L6],by simp [Instr.findNow,hr'],h2⟩
  ·have:r=false:=by
    cases r
    ·rfl
    ·exact absurd (hinj _ _ (hiff.1 rfl)).symm he
   subst this
   rcases D03 hkey hinj a kvs es (i+1) h3 with ⟨h4,h5⟩ | ⟨c',j,v,h4,h5,h6⟩
   ·exact .inl ⟨by simp [L6,he,h4],by simp [Instr.findNow,hr',h5]⟩
   ·exact .inr ⟨c',j,v,by simp [L6,he,h4],by simp [Instr.findNow,hr',h5],h6⟩
theorem B40 {x y:Operand} {t kt:TypeId} {kd:TypeDesc} {z:Value} {k:Nat} {κ:Type} [DecidableEq κ] {kf:κ→Value} {kvs:List (κ × Cell)} (a0:κ) {r:Option Cell} [ht:TyMap P t kt kd z] (hx:opv fr x=some (.s (.one (.mut k)))) (hk:B4 ob k=some (.map κ kf kvs))
  (hy:opv fr y=some (I0 (kf a0))) (hkey:∀a,MapKept.IsKey kd (kf a)) (hinj:∀a b,kf a=kf b→a=b) (hr:L6 kvs a0=r) :
  Neu P ⟨dst,.lookup t x y true,ty,pos,af,gd⟩ fr ob (fun s'=>s'=.tup [.one (.p (r.getD (.v z))),.one (.p (.v (.bool r.isSome)))]) :=
 E7 fun S G a w h=>by
  obtain ⟨et,u1,u2,u3,u4⟩:=ht.out
  obtain ⟨hu,_⟩:=I1 h hx
  obtain ⟨b,es,clock,hg,hh,ha⟩:=h.obs k _ hk
  rw [hg] at hu
  subst hr
  rcases D03 hkey hinj a0 kvs es.toList 0 ha with ⟨h4,h5⟩ | ⟨c,j,v,h4,h5,h6⟩
  ·refine ⟨.tuple #[z,.bool false],?_,[z,.bool false],rfl,?_⟩
   ·simp only [execOp,hu,F6 h hy]
    refine L3 ?_
    simp only [Instr.lookup,Sem.run_bind,run_underlying u1,Result.andThen_ok,MapKept.run_getObj_map hh,Sem.run_pure,MapKept.run_checkKey u2 (hkey a0),MapKept.run_findKey u2 h5,S7 u3]
    rfl
   ·rw [h4];exact ⟨⟨rfl,u4⟩,⟨rfl,rfl⟩,trivial⟩
  ·refine ⟨.tuple #[v,.bool true],?_,[v,.bool true],rfl,?_⟩
   ·simp only [execOp,hu,F6 h hy]
    refine L3 ?_
    simp only [Instr.lookup,Sem.run_bind,run_underlying u1,Result.andThen_ok,MapKept.run_getObj_map hh,Sem.run_pure,MapKept.run_checkKey u2 (hkey a0),MapKept.run_findKey u2 h5]
    rfl
   ·rw [h4];exact ⟨h6,⟨rfl,rfl⟩,trivial⟩
theorem G24 {x y v:Operand} {t kt:TypeId} {kd:TypeDesc} {z:Value} {k:Nat} {κ:Type} [DecidableEq κ] {kf:κ→Value} {kvs:List (κ × Cell)} (a0:κ) {c:Cell} [ht:TyMap P t kt kd z] (hx:opv fr x=some (.s (.one (.mut k)))) (hk:B4 ob k=some (.map κ kf kvs))
  (hy:opv fr y=some (I0 (kf a0))) (hv:opv fr v=some (.s (.one (.p c)))) (hc:H8 v=true) (hkey:∀a,MapKept.IsKey kd (kf a)) (hinj:∀a b,kf a=kf b→a=b) (hr:L6 kvs a0=none) :
  Eff P ⟨none,.mapUpdate t x y v,ty,pos,af,gd⟩ fr ob fr ((k,.map κ kf (kvs++[(a0,c)]))::ob):=by
 intro S G a w h
 obtain ⟨et,u1,u2,u3,u4⟩:=ht.out
 obtain ⟨hu,_⟩:=I1 h hx
 obtain ⟨b,es,clock,hg,hh,ha⟩:=h.obs k _ hk
 rw [hg] at hu
 have hrv:c.rep (E8 (Mut S ob G) w) (a.eval v):=R7 h hv hc
 obtain ⟨h5,h6⟩:=MapKept.heap_set (o':=.map (es.push { key:=kf a0,val:=a.eval v,born:=clock }) (clock+1)) hh
 have hf:Instr.findNow kd (kf a0) es.toList 0=some none:=by
  rcases D03 hkey hinj a0 kvs es.toList 0 ha with ⟨_,h5⟩ | ⟨c,j,v,h4,_,_⟩
  ·exact h5
  ·rw [hr] at h4;cases h4
 have he:(execOp a.eval ⟨none,.mapUpdate t x y v,ty,pos,af,gd⟩).run P w=.ok .skip { w with heap:=w.heap.setIfInBounds b (.map (es.push { key:=kf a0,val:=a.eval v,born:=clock }) (clock+1)) }:=by
  simp only [execOp,hu,F6 h hy]
  simp only [Instr.mapUpdate,Sem.run_bind,run_underlying u1,Result.andThen_ok,MapKept.run_getObj_map hh,MapKept.run_checkKey u2 (hkey a0),MapKept.run_findKey u2 hf,MapKept.run_setObj_map _ hh]
  rfl
 unfold Does
 rw [he]
 have hbk:blk (G k)=some b:=by rw [hg];rfl
 refine ⟨G,h.write hk hbk (fun i=>⟨hbk,trivial⟩) (fun i=>⟨hbk,trivial⟩) rfl rfl rfl (by simp) (fun j _ hne=>h6 j hne) ?_⟩
 intro rd hrd
 refine ⟨b,_,_,hg,h5,?_⟩
 rw [Array.toList_push]
 exact (ha.mono fun _ _ ⟨e1,e2⟩=>⟨e1,Cell.rep_mono hrd _ _ e2⟩).append ⟨⟨rfl,Cell.rep_mono hrd _ _ hrv⟩,trivial⟩
abbrev i6 (s:List UInt8):Value:=.string ⟨s.toArray⟩
theorem s7 (a:List UInt8):MapKept.IsKey .string (i6 a):=trivial
theorem s8 (a b:List UInt8) (h:i6 a=i6 b):a=b:=by
 simp only [i6,Value.string.injEq,ByteArray.mk.injEq] at h
 simpa using congrArg Array.toList h
end
end Go.AL
namespace Go.AL
open Go Go.RowKit
set_option linter.unusedVariables false
section
variable {P:Program} {dst:Option Tmp} {ty:TypeId} {pos:String} {af:Array Edge} {gd:Option (Nat × Bool)} {fr:Fr} {ob:Obs}
theorem H17 {x yh ym:Operand} {t e:TypeId} {bytes ec:Nat} {s:SV} {α:Type} {c:α→Nat→Cell} {xs:List α} {kh km:IntKind} {j m:Int} [ht:TySl P t e ec bytes] (hx:opv fr x=some s) (hl:IsList s α ec c xs)
  (hyh:opv fr yh=some (I0 (.int kh j))) (hym:opv fr ym=some (I0 (.int km m))) (h0:0≤j) (h2:j≤xs.length) (hm:m=j) :
  Neu P ⟨dst,.slice t x none (some yh) (some ym),ty,pos,af,gd⟩ fr ob (fun s'=>s'=.s (.one (.full α ec c (xs.take j.toNat)))) :=
 E7 fun S G a w h=>by
  subst hm
  have hr:=d8 h hx hl
  obtain ⟨ad,cap,hu,hcap,_⟩:=V2 hr
  rw [hu] at hr
  have hp:=C43 (lo:=0) (hi:=m.toNat) hr (by omega) (by omega)
  rw [List.drop_zero,Nat.sub_zero] at hp
  have hform:sliced ad 0 m.toNat m.toNat ec=.slice (if m.toNat=0 then ad else ad.map (·.add 0)) m.toNat m.toNat:=by simp [sliced]
  refine ⟨sliced ad 0 m.toNat m.toNat ec,?_,?_,?_⟩
  ·simp only [execOp,hu,F6 h hyh,F6 h hym,Option.map_some,Option.map_none]
   refine L3 ?_
   obtain ⟨he1,he2⟩:=ht.elem
   simp only [Instr.sliceAt,Sem.run_bind,run_underlying ht.out.1,Result.andThen_ok]
   rw [run_slice_any w t ad xs.length cap he1,he2]
   have hb:(Instr.sliceBounds true xs.length cap none (some (.int kh m)) (some (.int km m))).run P w=.ok (0,m.toNat,m.toNat) w:=by
    have e:(m.toNat:Int)=m:=by omega
    simp only [Instr.sliceBounds,Sem.run_bind,run_sliceBound,Sem.run_pure,Result.andThen_ok]
    rw [run_sliceBound w km m _ _ h0 (by omega)]
    simp only [Result.andThen_ok]
    rw [run_sliceBound w kh m _ _ h0 (by omega)]
    simp
   rw [hb]
   simp only [Result.andThen_ok]
   rw [J0 ht.size]
   rfl
  ·-- the cells are those of the list's beginning
   simp only [Cell.rep] at hp ⊢
   obtain ⟨a',cap',he,⟨h3,h3'⟩,h4,h5⟩:=hp
   have hlen:(xs.take m.toNat).length=m.toNat:=by rw [J70];omega
   rw [hlen] at he
   have hfo:sliced ad 0 m.toNat cap ec=.slice (if cap=0 then ad else ad.map (·.add (0*ec))) m.toNat cap:=by simp [sliced]
   rw [hfo] at he
   injection he with he1 he2 he3
   by_cases hz:m.toNat=0
   ·refine ⟨if m.toNat=0 then ad else ad.map (·.add 0),m.toNat,by rw [hlen,hform],⟨Nat.le_of_eq hlen,fun _=>hz⟩,h4,.inl (hlen.trans hz)⟩
   ·have hcz:cap≠0:=by omega
    rw [if_neg hcz] at he1
    refine ⟨a',m.toNat,?_,⟨Nat.le_of_eq hlen,fun hn=>?_⟩,h4,h5⟩
    ·rw [hlen,hform,if_neg hz,←he1];simp
    ·have:=h3' hn;omega
  ·rw [hform]
   refine ⟨_,by rw [show (xs.take m.toNat).length=m.toNat by rw [J70];omega]⟩
theorem E89 (k:Nat) {x y:Operand} {α:Type} {ec bytes:Nat} {c:α→Nat→Cell} {xs ys:List α} {t e:TypeId} {s:SV} [ht:TySl P t e ec bytes] (hx:opv fr x=some (.s (.one (.full α ec c xs))))
  (hy:opv fr y=some s) (hl:IsList s α ec c ys) (hlen:xs.length+ys.length≤1073741824) (hys:0 < ys.length) (hf:(J6 k fr&&K0 k ob)=true) :
  EffV P ⟨dst,.call ⟨.builtin .append,#[x,y],#[t,t]⟩,ty,pos,af,gd⟩ fr ob (.s (.one (.buf k α ec c (xs++ys)))) fr ((k,.spare (xs++ys).length ec e)::ob):=by
 simp only [J61] at hf
 obtain ⟨hf1,hf2⟩:=hf
 obtain ⟨h4,h5,hp⟩:=H3 hf2
 intro S G a w h
 obtain ⟨hts,hinfo,hec,hby,hzero⟩:=ht.out
 cases hi:P.info? e with
 | none=>simp [hi] at hinfo
 | some i =>
 simp [hi] at hinfo
 obtain ⟨hsz,hbytes⟩:=hinfo
 cases hz:i.zero with
 | none=>simp [hi,hz] at hzero
 | some z =>
 simp [hi,hz] at hzero
 obtain ⟨hrx,a0,hux⟩:=I1 h hx
 have hry:=d8 h hy hl
 obtain ⟨ad,cap,vx,hux',hcapx,hlx,hvlx,honex,hvx,hrdx⟩:=r7 hrx
 rw [hux] at hux'
 injection hux' with e1 e2 e3
 subst e1
 obtain ⟨ady,capy,vy,huy,hcapy,hly,hvly,honey,hvy,hrdy⟩:=r7 hry
 obtain ⟨by',oy,hady,hry2⟩:=hrdy.resolve_left (by omega)
 have hbig:(xs.length+ys.length)*bytes≤140737488355328:=by
  have:(xs.length+ys.length)*bytes≤1073741824*4096:=Nat.mul_le_mul hlen hby
  omega
 have hmax:xs.length+ys.length≤maxLen:=by unfold maxLen;omega
 obtain ⟨gc,hgc⟩:∃gc,gc=grownCap w (xs.length+ys.length) xs.length e:=⟨_,rfl⟩
 have hge:=grownCap_ge w (xs.length+ys.length) xs.length e
 have hcm:=grownCap_le_maxLen w (xs.length+ys.length) xs.length e hmax
 rw [←hgc] at hge hcm
 have hrun:(Builtin.append_ #[t,t] ty #[a.eval x,a.eval y]).run P w=.ok (.slice (some ⟨w.heap.size,0,none⟩) (xs.length+ys.length) gc) (w.drew.alloc (.cells (vx.toArray++vy.toArray++Builtin.zeroCells z.cells (gc - (xs.length+ys.length))) e)):=by
  rw [hux,huy,hady]
  rcases hrdx with h0 | ⟨bx,ox,hax,hrx2⟩
  ·have hx0:xs=[]:=List.eq_nil_of_length_eq_zero h0
   subst hx0
   have hvx0:vx=[]:=List.eq_nil_of_length_eq_zero (by rw [hvlx];simp)
   subst hvx0
   cases a0 with
   | none =>
    have hr2:=run_append_nil (P:=P) w t ty e i z hts hi hz ⟨by',oy,none⟩ ys.length capy vy (by rw [hsz];exact hvly) (fun j v hj=>by rw [Addr.add_lit];exact (hry2 j v hj).1) hys (by omega) (by rw [hbytes];simp at hbig;omega)
    simp only [J68,Nat.zero_add] at hgc ⊢
    rw [hgc]
    simpa using hr2
   | some ab =>
    have hr2:=run_append_grow (P:=P) w t ty e i z hts hi hz ab 0 0 [] (by simp) (by simp) ⟨by',oy,none⟩ ys.length capy vy (by rw [hsz];exact hvly) (fun j v hj=>by rw [Addr.add_lit];exact (hry2 j v hj).1) (by omega) (by omega) (growslice_fits (by omega) (by rw [hbytes];simpa using hbig))
    simp only [J68] at hgc ⊢
    rw [hgc]
    simpa using hr2
  ·rw [hax]
   have hr2:=run_append_grow (P:=P) w t ty e i z hts hi hz ⟨bx,ox,none⟩ xs.length xs.length vx (by rw [hsz];exact hvlx) (fun j v hj=>by rw [Addr.add_lit];exact (hrx2 j v hj).1) ⟨by',oy,none⟩ ys.length capy vy (by rw [hsz];exact hvly) (fun j v hj=>by rw [Addr.add_lit];exact (hry2 j v hj).1) (by omega) (by omega) (growslice_fits (by omega) (by rw [hbytes];exact hbig))
   rw [hgc];exact hr2
 obtain ⟨cells,hcells⟩:∃cells,cells=vx.toArray++vy.toArray++Builtin.zeroCells z.cells (gc - (xs.length+ys.length)):=⟨_,rfl⟩
 rw [←hcells] at hrun
 have hlen2:(vx++vy).length=(xs.length+ys.length)*ec:=by rw [J63,hvlx,hvly,J79]
 have hown:(w.drew.alloc (.cells cells e)).ownsRow S.B e ec (.slice (some ⟨w.heap.size,0,none⟩) (xs.length+ys.length) gc) (xs++ys).length (vx++vy):=by
  rw [J63]
  refine ⟨hlen2,.inr ⟨w.heap.size,gc,cells,rfl,h.size,heap_alloc_new w.drew _,hge,hcm,?_,?_⟩⟩
  ·rw [hcells]
   simp only [Array.size_append,List.size_toArray,size_zeroCells,hzero,hvlx,hvly,←J79]
   congr 1
   omega
  ·rw [hcells]
   simp only [Array.toList_append,J73]
   rw [←J73,←hlen2]
   exact List.take_left
 refine J1 (w':=w.drew.alloc (.cells cells e)) (v:=.slice (some ⟨w.heap.size,0,none⟩) (xs.length+ys.length) gc) (by simp [execOp,resolve,invoke,builtin,hrun]) ?_
 have hxw:Below w.heap.size w (w.drew.alloc (.cells cells e)):=⟨rfl,rfl,rfl,by simp,fun k hk=>heap_alloc_old w.drew _ hk⟩
 have hu:∀b,blk (.slice (some ⟨w.heap.size,0,none⟩) (xs.length+ys.length) gc)=some b→w.heap.size≤b:=by intro b hb;simp [blk] at hb;omega
 have hsim:=h.new hp h5 (o:=.spare (xs++ys).length ec e) hxw hu ⟨vx++vy,hown⟩
 rw [V9 hf1,h4] at hsim
 refine ⟨_,hsim,(I3 _ _ _).symm,?_⟩
 refine A92 (c:=c) (xs:=xs++ys) hown hec (by rw [J63];omega) ?_ ?_
 ·intro g hg j zz hj hcell
  simp [blk] at hg
  subst hg
  refine ⟨hcell,fun hm=>?_⟩
  rcases hm with hm | ⟨k',o',hk',hb1,hb2⟩
  ·have:=h.m0 _ j hm;have:=h.size;omega
  ·by_cases hkk:k=k'
   ·subst hkk
    rw [E9] at hk';cases hk'
    simp only at hb2
    omega
   ·rw [B9 hkk] at hk'
    rw [y9 G _ (Ne.symm hkk)] at hb1
    have:=(h.obs k' o' hk').blk_lt _ hb1
    omega
 ·have hrd:∀b i z,E8 (Mut S ob G) w b i z→E8 (Mut S ((k,.spare (xs++ys).length ec e)::ob) (upd G k (.slice (some ⟨w.heap.size,0,none⟩) (xs.length+ys.length) gc))) (w.drew.alloc (.cells cells e)) b i z:=by
   intro b i z hr
   have:=h.rd_new (k:=k) (o:=.spare (xs++ys).length ec e) hxw hu hr
   rwa [h4] at this
  intro m hm j hj
  by_cases hlt:m < xs.length
  ·obtain ⟨zz,hz1,hz2⟩:=hvx m hlt j hj
   refine ⟨zz,?_,?_⟩
   ·rw [J75 (List.getElem?_eq_some_iff.1 hz1).1];exact hz1
   ·rw [K07 hlt];exact Cell.rep_mono hrd _ _ hz2
  ·have hm':m - xs.length < ys.length:=by simp at hm;omega
   obtain ⟨zz,hz1,hz2⟩:=hvy (m - xs.length) hm' j hj
   refine ⟨zz,?_,?_⟩
   ·have hge2:xs.length*ec≤m*ec:=J72 _ (by omega)
    rw [J74 (by rw [hvlx];omega),hvlx]
    have:m*ec+j - xs.length*ec=(m - xs.length)*ec+j:=by rw [Nat.sub_mul];omega
    rw [this];exact hz1
   ·rw [K05 (by omega)];exact Cell.rep_mono hrd _ _ hz2
end
end Go.AL
namespace Go.AL
open Go Go.RowKit
set_option linter.unusedVariables false
abbrev Mo:=List (List Nat × Obs)
def S0:Mo→List Nat→Option Obs
 | [],_=>none
 | (D',ob)::r,D=>cond (A76 D' D) (some ob) (S0 r D)
abbrev Sv:=List (Nat × SV)
def O9:Sv→Nat→Option SV
 | [],_=>none
 | (i,s)::r,j=>cond (Nat.beq i j) (some s) (O9 r j)
abbrev Ed:=List (Nat × (List Nat × List Nat))
def Y8:Ed→Nat→List Nat × List Nat
 | [],_=>([],[])
 | (i,x)::r,e=>cond (Nat.beq i e) x (Y8 r e)
def Y9 (ks:List Nat) (fr:Fr):Fr:=fr.filter fun p=>!(K8 ks p.1)
theorem getF_dropK {ks:List Nat}:∀{fr:Fr} {t:Nat} {s:SV},E6 (Y9 ks fr) t=some s↔t∉ks∧E6 fr t=some s
 | [],t,s=>by simp [Y9,E6]
 | (i,x)::r,t,s=>by
  have ih:=getF_dropK (ks:=ks) (fr:=r) (t:=t) (s:=s)
  unfold Y9 at ih ⊢
  cases hh:K8 ks i
  ·rw [List.filter_cons_of_pos (by simp [hh])]
   by_cases he:i=t
   ·subst he
    rw [E1,E1]
    have:i∉ks:=fun q=>by rw [hasN_iff.2 q] at hh;cases hh
    simp [this]
   ·rw [C7 he,C7 he];exact ih
  ·rw [List.filter_cons_of_neg (by simp [hh])]
   rw [ih]
   by_cases he:i=t
   ·subst he
    have:i∈ks:=hasN_iff.1 hh
    simp [this]
   ·rw [C7 he]
def E08 (U frc:Fr):Prop:=∀t s,E6 U t=some s→E6 frc t=some s
def E09 (P:Program) (nt:Nat) (o:Oper) (U:Fr) (ks kills:List Nat) (ob ob':Obs) (s:SV):Prop :=
 ∀frc,E08 U frc→(∀k∈ks,∀t x,E6 frc t=some x→t∉kills→x.free k=true)→∀S G a w,S.nt=nt→Sim P S frc ob G a w →
  Does P o a w (fun v w'=>∃G',Sim P S (Y9 kills frc) ob' G' a w'∧∀d,o.dst=some d→s.rep (E8 (Mut S ob' G') w') G' v)
def B30 (l:List Oper):Sv→Fr→Fr
 | [],fr=>fr
 | (i,s)::r,fr=>match (l[i]?).bind (·.dst) with
  | some d=>(d,s)::B30 l r fr
  | none=>B30 l r fr
def s9 (l:List Oper) (svs:Sv) (o:Oper):Bool :=
 (s6 o.op).all fun u=>(List.range l.length).all fun j=>match (l[j]?).bind (·.dst) with
  | some d=>!(Nat.beq d u)||(O9 svs j).isSome
  | none=>true
def UIn2 (l:List Oper) (svs:Sv) (fr:Fr) (o:Oper) (U:Fr):Prop :=
 ∀t s,E6 U t=some s→t∈s6 o.op∧((∃j o',l[j]?=some o'∧o'.dst=some t∧O9 svs j=some s)∨(t∉B29 l∧E6 fr t=some s))
def G25 (obT ob:Obs):Prop:=∀k o,B4 obT k=some o→B4 ob k=some o
section
variable {P:Program} {nt:Nat}
theorem E10 {l:List Oper} {fr:Fr}:∀{svs:Sv} {t:Nat} {s:SV},E6 (B30 l svs fr) t=some s→(∃j o,O9 svs j=some s∧l[j]?=some o∧o.dst=some t)∨(E6 fr t=some s∧∀j o,O9 svs j≠none→l[j]?=some o→o.dst≠some t)
 | [],t,s,h=>.inr ⟨h,fun j o hj=>absurd rfl hj⟩
 | (i,x)::r,t,s,h=>by
  unfold B30 at h
  have hlift:(∀d,(l[i]?).bind (·.dst)=some d→d≠t)→E6 (B30 l r fr) t=some s→(∃j o,O9 ((i,x)::r) j=some s∧l[j]?=some o∧o.dst=some t)∨(E6 fr t=some s∧∀j o,O9 ((i,x)::r) j≠none→l[j]?=some o→o.dst≠some t):=by
   intro hd h
   rcases E10 h with ⟨j,o,h1,h2,h3⟩ | ⟨h1,h2⟩
   ·left
    refine ⟨j,o,?_,h2,h3⟩
    have hij:i≠j:=fun e=>by
     subst e
     rw [h2] at hd
     exact hd t (by simpa using h3) rfl
    show cond (Nat.beq i j) _ _=_
    rw [T4 hij];exact h1
   ·right
    refine ⟨h1,fun j o hj ho hdo=>?_⟩
    by_cases hij:i=j
    ·subst hij
     rw [ho] at hd
     exact hd t (by simpa using hdo) rfl
    ·have hj:cond (Nat.beq i j) (some x) (O9 r j)≠none:=hj
     rw [T4 hij] at hj
     exact h2 j o hj ho hdo
  split at h
  ·rename_i d hd
   by_cases hdt:d=t
   ·subst hdt
    rw [E1] at h
    cases h
    cases ho:l[i]? with
    | none=>rw [ho] at hd;cases hd
    | some o =>
     rw [ho] at hd
     exact .inl ⟨i,o,by show cond (Nat.beq i i) _ _=_;rw [Nat.beq_refl];rfl,ho,by simpa using hd⟩
   ·rw [C7 hdt] at h
    exact hlift (fun d' hd'=>by rw [hd] at hd';cases hd';exact hdt) h
  ·rename_i hd
   exact hlift (fun d' hd'=>by rw [hd] at hd';cases hd') h
theorem C50:∀{l:List Oper} {t:Nat},t∈B29 l→∃(j:Nat) (o:Oper),l[j]?=some o∧o.dst=some t
 | [],t,h=>by simp [B29] at h
 | o::l,t,h=>by
  unfold B29 at h
  cases hd:o.dst with
  | none=>rw [hd] at h;obtain ⟨j,o',h1,h2⟩:=C50 h;exact ⟨j+1,o',by simpa using h1,h2⟩
  | some d =>
   rw [hd] at h
   rcases List.mem_cons.1 h with rfl | h
   ·exact ⟨0,o,rfl,hd⟩
   ·obtain ⟨j,o',h1,h2⟩:=C50 h;exact ⟨j+1,o',by simpa using h1,h2⟩
theorem D88 {l:List Oper} {svs:Sv} {fr:Fr} {o:Oper} (h:s9 l svs o=true):UIn2 l svs fr o (V8 (B30 l svs fr) (s6 o.op)):=by
 intro t s ht
 have hus:=A73 ht
 refine ⟨hus,?_⟩
 rcases E10 (z8 ht) with ⟨j,o',h1,h2,h3⟩ | ⟨h1,h2⟩
 ·exact .inl ⟨j,o',h2,h3,h1⟩
 ·refine .inr ⟨fun hin=>?_,h1⟩
  obtain ⟨j,o',h3,h4⟩:=C50 hin
  have:=List.all_eq_true.1 (List.all_eq_true.1 h t hus) j (List.mem_range.2 (List.getElem?_eq_some_iff.1 h3).1)
  rw [h3] at this
  simp only [Option.bind_some,h4,Nat.beq_refl,Bool.not_true,Bool.false_or] at this
  exact h2 j o' (fun e=>by rw [e] at this;cases this) h3 h4
def Task (P:Program) (nt:Nat) (l:List Oper) (fr:Fr) (svs:Sv) (E:List Nat) (ed:Ed) (i:Nat) (ob:Obs) (s:SV) (T:Obs→Prop):Prop :=
 ∃o U,l[i]?=some o∧UIn2 l svs fr o U∧((K8 E i=false∧Neu P o U ob (fun s'=>s'=s))∨(K8 E i=true∧∃ob',E09 P nt o U (Y8 ed i).1 (Y8 ed i).2 ob ob' s∧T ob'))
def conf2 (nt:Nat) (l:List Oper) (E:List Nat) (Ms:List (List Nat)) (ed:Ed) (tasks:List (Nat × List Nat)):Bool :=
 let ops:=l.toArray
 let n:=l.length
 (l.all fun o=>o.guard.isNone&&match o.dst with | some d=>Nat.blt d nt | none=>true) &&
 ((List.range n).all fun i=>match ops[i]? with
  | some o=>(K8 E i||o.dst.isSome)&&(((s6 o.op).all fun u=>((List.range n).all fun j=>match ops[j]? with
    | some oj=>(match oj.dst with | some d=>!(Nat.beq d u)||Bef ops i j | none=>true)
    | none=>true)&&E.all fun e=>Nat.beq e i||!(K8 (Y8 ed e).2 u)||Bef ops e i) &&
   ((o.after.toList.all fun e=>!(Region.binds .any e)||Nat.blt e.on i)&&(Ms.all fun D=>!(G22 ops E i D)||tasks.any fun p=>Nat.beq p.1 i&&A76 p.2 D)))
  | none=>false) &&
 C14 (B29 l)&&desc E&&(E.all fun e=>Nat.blt e n)&&memM Ms []&&(Ms.all fun D=>E.all fun e=>!(G22 ops E e D)||memM Ms (A75 e D))
structure InvK (l:List Oper) (E:List Nat) (svs:Sv) (ed:Ed) (fr:Fr) (listed:Array Bool) (frc:Fr):Prop where
 put:∀j o d s,l[j]?=some o→listed.getD j false=true→o.dst=some d→O9 svs j=some s→(∀e∈E,listed.getD e false=true→d∉(Y8 ed e).2)→E6 frc d=some s
 from':∀t s,E6 frc t=some s→(∃j o,l[j]?=some o∧listed.getD j false=true∧o.dst=some t∧O9 svs j=some s)∨E6 fr t=some s
 old:∀t s,E6 fr t=some s→t∉B29 l→(∀e∈E,listed.getD e false=true→t∉(Y8 ed e).2)→E6 frc t=some s
def B92 (l:List Oper) (ops:Array Oper) (svs:Sv) (fr:Fr):Ed→Bool
 | []=>true
 | (e,ks,kills)::r=>(ks.all fun k=>((List.range ops.size).all fun j=>Nat.beq j e||Bef ops j e||match (l[j]?).bind (·.dst),O9 svs j with
   | some d,some s=>K8 kills d||s.free k
   | _,_=>true)&&fr.all fun p=>K8 kills p.1||p.2.free k)&&B92 l ops svs fr r
theorem c_core {id:Nat} {l:List Oper} {fr:Fr} {ob0:Obs} {Q:Post} (E:List Nat) (Ms:List (List Nat)) (ed:Ed) (tasks:List (Nat × List Nat)) (svs:Sv) (M:Mo) (hm:P.follows .mixedOrders=true)
  (hB:conf2 nt l E Ms ed tasks=true) (hed:∀e∈E,∃x,(e,x)∈ed∧Y8 ed e=x) (hfree:B92 l l.toArray svs fr ed=true) (h0:S0 M []=some ob0)
  (ht:∀p∈tasks,∃ob s,S0 M p.2=some ob∧O9 svs p.1=some s∧Task P nt l fr svs E ed p.1 ob s (fun ob'=>∃obT,S0 M (A75 p.1 p.2)=some obT∧G25 obT ob'))
  {fr':Fr} {obE:Obs} (hobE:S0 M E=some obE) (hfr':∀t s,E6 fr' t=some s→(∀e∈E,t∉(Y8 ed e).2)∧((∃j o',l[j]?=some o'∧o'.dst=some t∧O9 svs j=some s)∨(t∉B29 l∧E6 fr t=some s)))
  (hQ:Q .normal fr' obE):WpC P nt (.region id l.toArray true) fr ob0 Q:=by
 intro S G a w hn hs
 unfold conf2 at hB
 simp only [J61] at hB
 obtain ⟨⟨⟨⟨⟨⟨b1,b2⟩,b3⟩,b4⟩,b5⟩,b6⟩,b7⟩:=hB
 have hop:∀i o,l[i]?=some o→o.guard=none∧(∀d,o.dst=some d→d < nt)∧(K8 E i=true∨∃d,o.dst=some d)∧(∀u∈s6 o.op,∀j oj,l[j]?=some oj→oj.dst=some u→Bef l.toArray i j=true) ∧
   (∀u∈s6 o.op,∀e∈E,e≠i→u∈(Y8 ed e).2→Bef l.toArray e i=true)∧(∀e∈o.after.toList,Region.binds .any e=true→e.on < i)∧(∀D∈Ms,G22 l.toArray E i D=true→(i,D)∈tasks):=by
  intro i o ho
  have hlt:i < l.length:=(List.getElem?_eq_some_iff.1 ho).1
  have hmem:o∈l:=J69 ho
  have q1:=List.all_eq_true.1 b1 o hmem
  have q2:=List.all_eq_true.1 b2 i (List.mem_range.2 hlt)
  simp only [List.getElem?_toArray,ho] at q2
  simp only [J61] at q1 q2
  obtain ⟨q4,q5,q6,q7⟩:=q2
  refine ⟨by simpa using q1.1,?_,?_,?_,?_,?_,?_⟩
  ·intro d hd
   have:=q1.2
   rw [hd] at this
   simpa using this
  ·rcases (J81 _ _).mp q4 with h | h
   ·exact .inl h
   ·exact .inr (Option.isSome_iff_exists.1 h)
  ·intro u hu j oj hj hd
   have hjlt:j < l.length:=(List.getElem?_eq_some_iff.1 hj).1
   have h5:=List.all_eq_true.1 q5 u hu
   simp only [J61] at h5
   have:=List.all_eq_true.1 h5.1 j (List.mem_range.2 hjlt)
   simp only [hj,hd] at this
   simpa using this
  ·intro u hu e he hei hk
   have h5:=List.all_eq_true.1 q5 u hu
   simp only [J61] at h5
   have:=List.all_eq_true.1 h5.2 e he
   rw [T4 hei,hasN_iff.2 hk] at this
   simpa using this
  ·intro e he hbe
   have:=List.all_eq_true.1 q6 e he
   rw [hbe] at this
   simpa using this
  ·intro D hD hp
   have:=List.all_eq_true.1 q7 D hD
   rw [hp] at this
   simp only [Bool.not_true,Bool.false_or] at this
   obtain ⟨p,hp1,hp2⟩:=List.any_eq_true.1 this
   simp only [J61] at hp2
   have e1:=Nat.eq_of_beq_eq_true hp2.1
   have e2:=C48 hp2.2
   obtain ⟨p1,p2⟩:=p
   simp only at e1 e2
   rw [←e1,←e2];exact hp1
 have hdst:∀(j t:Nat),(l.toArray[j]?).bind (fun o=>o.dst)=some t→t < nt:=by
  intro j t ht
  cases ho:l[j]? with
  | none=>simp [ho] at ht
  | some o=>simp [ho] at ht;exact (hop j o ho).2.1 t ht
 refine wp_region_any hm ?_
 have hxw:Below w.heap.size w { w with drawn:=w.drawn+1 }:=⟨rfl,rfl,rfl,Nat.le_refl _,fun _ _=>rfl⟩
 have key : ∀(fuel:Nat) (listed:Array Bool) (frc:Fr) (ob:Obs) (G:Gh) (a:Act) (w:World),listed.size=l.length→unl listed l.length=fuel→Closed l.toArray listed→(E.filter fun j=>listed.getD j false)∈Ms→S0 M (E.filter fun j=>listed.getD j false)=some ob→InvK l E svs ed fr listed frc→Sim P S frc ob G a w →
   wpAny P .any l.toArray (PostOf P S Q) fuel listed a w:=by
  intro fuel
  induction fuel with
  | zero =>
   intro listed frc ob G a w hsz hu hc hM hob hI hsf
   have hall:∀j,j < l.length→listed.getD j false=true:=by
    intro j hj
    unfold unl at hu
    have:=(List.countP_eq_zero.1 hu) j (List.mem_range.2 hj)
    simpa using this
   have hready:Region.ready .any l.toArray listed=[]:=by
    cases hr:Region.ready .any l.toArray listed with
    | nil=>rfl
    | cons i r =>
     exfalso
     have hi:i∈Region.ready .any l.toArray listed:=by rw [hr];exact List.mem_cons_self ..
     have h3:=T6 hi
     obtain ⟨_,o,ho,_⟩:=mem_ready.1 hi
     rw [List.getElem?_toArray] at ho
     rw [hall i (List.getElem?_eq_some_iff.1 ho).1] at h3;cases h3
   refine ⟨hready,?_⟩
   have hEl:(E.filter fun j=>listed.getD j false)=E:=by
    rw [List.filter_eq_self]
    intro e he
    exact hall e (by simpa using List.all_eq_true.1 b5 e he)
   rw [hEl,hobE] at hob
   cases hob
   refine ⟨fr',obE,G,hQ,.inl (hsf.weaken fun t s ht=>?_)⟩
   obtain ⟨hk,h3⟩:=hfr' t s ht
   rcases h3 with ⟨j,o,h3,h4,h5⟩ | ⟨h3,h4⟩
   ·exact hI.put j o t s h3 (hall j (List.getElem?_eq_some_iff.1 h3).1) h4 h5 (fun e he _=>hk e he)
   ·exact hI.old t s h4 h3 (fun e he _=>hk e he)
  | succ fuel ih =>
   intro listed frc ob G a w hsz hu hc hM hob hI hsf
   refine ⟨fun h0=>?_,fun i hi=>?_⟩
   ·exfalso
    have hex:∃j,j < l.length∧listed.getD j false=false:=by
     refine Classical.byContradiction fun hno=>?_
     have:unl listed l.length=0:=by
      unfold unl
      refine List.countP_eq_zero.2 fun j hj=>?_
      have hj:=List.mem_range.1 hj
      cases hb:listed.getD j false
      ·exact absurd ⟨j,hj,hb⟩ hno
      ·simp
     omega
    have hmin:∀n,(∃j,j < n∧j < l.length∧listed.getD j false=false)→∃j,j < l.length∧listed.getD j false=false∧∀p,p < j→listed.getD p false=true:=by
     intro n
     induction n with
     | zero=>rintro ⟨j,hj,_⟩;omega
     | succ n ihn =>
      rintro ⟨j,hj,hjl,hjf⟩
      by_cases hlow:∃j',j' < n∧j' < l.length∧listed.getD j' false=false
      ·exact ihn hlow
      ·refine ⟨j,hjl,hjf,fun p hp=>?_⟩
       cases hb:listed.getD p false
       ·exact absurd ⟨p,by omega,by omega,hb⟩ hlow
       ·rfl
    obtain ⟨j,hj1,hj2⟩:=hex
    obtain ⟨j,hjl,hjf,hjp⟩:=hmin (j+1) ⟨j,by omega,hj1,hj2⟩
    have ho:l[j]?=some l[j]:=J60 hjl
    have hjr:j∈Region.ready .any l.toArray listed:=by
     refine mem_ready.2 ⟨?_,l[j],by rw [List.getElem?_toArray];exact ho,fun e he hb=>?_⟩
     ·have hsz2:j < listed.size:=by omega
      simp only [Array.getD_eq_getD_getElem?,Array.getElem?_eq_getElem hsz2] at hjf ⊢
      simpa using hjf
     ·have:=(hop j _ ho).2.2.2.2.2.1 e (Array.mem_toList_iff.2 he) hb
      exact hjp _ this
    rw [h0] at hjr;cases hjr
   ·have hiu:=T6 hi
    obtain ⟨_,o,ho,hall⟩:=mem_ready.1 hi
    rw [List.getElem?_toArray] at ho
    have hlt:i < l.length:=(List.getElem?_eq_some_iff.1 ho).1
    obtain ⟨g1,g2,g4,g5,g6,g7,g8⟩:=hop i o ho
    obtain ⟨D,hD⟩:∃D,D=E.filter fun j=>listed.getD j false:=⟨_,rfl⟩
    rw [←hD] at hM hob
    have hDl:∀e,e∈D↔e∈E∧listed.getD e false=true:=fun e=>by rw [hD,List.mem_filter]
    have hbi:∀j,Bef l.toArray i j=true→listed.getD j false=true:=fun j hj=>A02 hc i hj (fun o' ho' e he hb=>by
     rw [List.getElem?_toArray,ho] at ho';cases ho'
     exact hall e (Array.mem_toList_iff.1 he) hb)
    have hlb:∀j,listed.getD j false=true→Bef l.toArray j i=true→False:=fun j hj hb=>by
     have:listed.getD i false=true:=A02 hc j hb (fun o' ho' e he hbd=>hc j o' ho' hj e he hbd)
     rw [hiu] at this;cases this
    have hpo:G22 l.toArray E i D=true:=by
     unfold G22
     simp only [J61,Bool.not_eq_true',List.all_eq_true,J81]
     refine ⟨?_,fun j hj=>?_,fun j hj=>?_⟩
     ·cases hb:K8 D i
      ·rfl
      ·have:=((hDl i).1 (hasN_iff.1 hb)).2
       rw [hiu] at this;cases this
     ·cases hb:Bef l.toArray i j
      ·exact .inl rfl
      ·exact .inr (hasN_iff.2 ((hDl j).2 ⟨hj,hbi j hb⟩))
     ·cases hb:Bef l.toArray j i
      ·rfl
      ·exact (hlb j ((hDl j).1 hj).2 hb).elim
    obtain ⟨ob1,s,hob1,hsv,o1,U,ho1,hU,htask⟩:=ht (i,D) (g8 D hM hpo)
    rw [hob] at hob1;cases hob1
    rw [ho] at ho1;cases ho1
    have hext:E08 U frc:=by
     intro t x hx
     obtain ⟨hus,h3⟩:=hU t x hx
     have hnk:∀e∈E,listed.getD e false=true→t∉(Y8 ed e).2:=fun e he hel hk=>by
      by_cases hei:e=i
      ·rw [hei,hiu] at hel;cases hel
      ·exact hlb e hel (g6 t hus e he hei hk)
     rcases h3 with ⟨j,oj,h3,h4,h5⟩ | ⟨h3,h4⟩
     ·exact hI.put j oj t x h3 (hbi j (g5 t hus j oj h3 h4)) h4 h5 hnk
     ·exact hI.old t x h4 h3 hnk
    have hcl2:=S8 hc hi
    have hsz2:(listed.setIfInBounds i true).size=l.length:=by simpa using hsz
    have hul:unl (listed.setIfInBounds i true) l.length=fuel:=by
     have:=H98 (by omega) hiu hlt
     omega
    have hset:∀j,(listed.setIfInBounds i true).getD j false=true↔j=i∨listed.getD j false=true:=by
     intro j
     by_cases hj:j=i
     ·subst hj
      simp only [true_or,iff_true]
      simp [show j < listed.size by omega]
     ·rw [A33 (Ne.symm hj)]
      simp [hj]
    have hinv:∀kills,(i∈E→kills=(Y8 ed i).2)→(i∉E→kills=[])→InvK l E svs ed fr (listed.setIfInBounds i true) (match o.dst with | some d=>(d,s)::Y9 kills frc | none=>Y9 kills frc):=by
     intro kills hk1 hk2
     have hk:∀t,(∀e∈E,(listed.setIfInBounds i true).getD e false=true→t∉(Y8 ed e).2)→t∉kills:=by
      intro t h
      by_cases hiE:i∈E
      ·rw [hk1 hiE];exact h i hiE ((hset i).2 (.inl rfl))
      ·rw [hk2 hiE];simp
     have hmono:∀t,(∀e∈E,(listed.setIfInBounds i true).getD e false=true→t∉(Y8 ed e).2)→∀e∈E,listed.getD e false=true→t∉(Y8 ed e).2:=fun t h e he hel=>h e he ((hset e).2 (.inr hel))
     cases hdo:o.dst with
     | none =>
      refine ⟨fun j oj d x h3 h4 h5 h6 h7=>?_,fun t x h3=>?_,fun t x h3 h4 h5=>?_⟩
      ·rcases (hset j).1 h4 with rfl | h4
       ·rw [ho] at h3;cases h3;rw [hdo] at h5;cases h5
       ·exact getF_dropK.2 ⟨hk d h7,hI.put j oj d x h3 h4 h5 h6 (hmono d h7)⟩
      ·rcases hI.from' t x (getF_dropK.1 h3).2 with ⟨j,oj,h4,h5,h6⟩ | h4
       ·exact .inl ⟨j,oj,h4,(hset j).2 (.inr h5),h6⟩
       ·exact .inr h4
      ·exact getF_dropK.2 ⟨hk t h5,hI.old t x h3 h4 (hmono t h5)⟩
     | some d0 =>
      refine ⟨fun j oj d x h3 h4 h5 h6 h7=>?_,fun t x h3=>?_,fun t x h3 h4 h5=>?_⟩
      ·show E6 ((d0,s)::Y9 kills frc) d=some x
       by_cases hij:j=i
       ·subst hij
        rw [ho] at h3;cases h3
        rw [hdo] at h5;cases h5
        rw [E1]
        rw [hsv] at h6;exact h6
       ·have h4:=((hset j).1 h4).resolve_left hij
        have hdd:d0≠d:=fun q=>by
         subst q
         exact hij (E06 b3 h3 ho h5 hdo)
        rw [C7 hdd]
        exact getF_dropK.2 ⟨hk d h7,hI.put j oj d x h3 h4 h5 h6 (hmono d h7)⟩
      ·have h3:E6 ((d0,s)::Y9 kills frc) t=some x:=h3
       by_cases hdd:d0=t
       ·subst hdd
        rw [E1] at h3;cases h3
        exact .inl ⟨i,o,ho,(hset i).2 (.inl rfl),hdo,hsv⟩
       ·rw [C7 hdd] at h3
        rcases hI.from' t x (getF_dropK.1 h3).2 with ⟨j,oj,h4,h5,h6⟩ | h4
        ·exact .inl ⟨j,oj,h4,(hset j).2 (.inr h5),h6⟩
        ·exact .inr h4
      ·show E6 ((d0,s)::Y9 kills frc) t=some x
       have hdd:d0≠t:=fun q=>h4 (by rw [←q];exact C49 ho hdo)
       rw [C7 hdd]
       exact getF_dropK.2 ⟨hk t h5,hI.old t x h3 h4 (hmono t h5)⟩
    unfold wpOp
    simp only [List.getElem?_toArray,ho]
    rw [if_pos (by simp [Region.wanted,g1])]
    rcases htask with ⟨htn,hneu⟩ | ⟨htn,ob',heff,obT,hobT,hle⟩
    ·have hnE:i∉E:=fun q=>by rw [hasN_iff.2 q] at htn;cases htn
     refine .inl (L0 (hneu S G a w (hsf.weaken fun t x hx=>hext t x hx)) ?_)
     rintro v w' ⟨hxw2,s',rfl,hv⟩
     have hDe:(E.filter fun j=>(listed.setIfInBounds i true).getD j false)=D:=by
      rw [hD]
      apply List.filter_congr
      intro j hj
      have:j≠i:=fun q=>hnE (q ▸ hj)
      exact A33 (Ne.symm this)
     obtain ⟨d0,hd0⟩:=g4.resolve_left (by rw [htn];simp)
     have hi2:=hinv [] (fun q=>absurd q hnE) (fun _=>rfl)
     rw [hd0] at hi2 ⊢
     have hi2:InvK l E svs ed fr (listed.setIfInBounds i true) ((d0,s')::Y9 [] frc):=hi2
     have hdk:Y9 [] frc=frc:=by unfold Y9;exact List.filter_eq_self.2 fun p _=>rfl
     rw [hdk] at hi2
     exact ih (listed.setIfInBounds i true) ((d0,s')::frc) ob G _ w' hsz2 hul hcl2 (by rw [hDe];exact hM) (by rw [hDe];exact hob) hi2 ((hsf.ext hxw2).put (by rw [hn];exact g2 d0 hd0) hv)
    ·have hiE:i∈E:=hasN_iff.1 htn
     have hDe:(E.filter fun j=>(listed.setIfInBounds i true).getD j false)=A75 i D:=by
      rw [hD];exact E05 (by omega) hiu b4 hiE
     have hM2:A75 i D∈Ms:=by
      have:=List.all_eq_true.1 (List.all_eq_true.1 b7 D hM) i hiE
      rw [hpo] at this
      exact G23 (by simpa using this)
     have hfr2:∀k∈(Y8 ed i).1,∀t x,E6 frc t=some x→t∉(Y8 ed i).2→x.free k=true:=by
      obtain ⟨x0,hx0,hx1⟩:=hed i hiE
      rw [hx1]
      have hf:∀(xs:Ed),B92 l l.toArray svs fr xs=true→(i,x0)∈xs→∀k∈x0.1,((List.range l.toArray.size).all fun j=>Nat.beq j i||Bef l.toArray j i||match (l[j]?).bind (·.dst),O9 svs j with
        | some d,some s=>K8 x0.2 d||s.free k
        | _,_=>true)=true∧(fr.all fun p=>K8 x0.2 p.1||p.2.free k)=true:=by
       intro xs
       induction xs with
       | nil=>intro _ h;simp at h
       | cons y r ihx =>
        obtain ⟨e',ks',kl'⟩:=y
        intro hok hmem
        simp only [B92,J61] at hok
        rcases List.mem_cons.1 hmem with q | q
        ·cases q
         intro k hk
         have:=List.all_eq_true.1 hok.1 k hk
         simpa only [J61] using this
        ·exact ihx hok.2 q
      intro k hk t x hx hnk
      obtain ⟨f1,f2⟩:=hf ed hfree hx0 k hk
      rcases hI.from' t x hx with ⟨j,oj,h4,h5,h6,h7⟩ | h4
      ·have:=List.all_eq_true.1 f1 j (List.mem_range.2 (by simpa using (List.getElem?_eq_some_iff.1 h4).1))
       have hji:j≠i:=fun q=>by rw [q,hiu] at h5;cases h5
       have hbf:Bef l.toArray j i=false:=by
        cases hb:Bef l.toArray j i
        ·rfl
        ·exact (hlb j h5 hb).elim
       rw [T4 hji,hbf,h4] at this
       simp only [Option.bind_some,h6,h7,Bool.false_or,J81] at this
       rcases this with q | q
       ·exact absurd (hasN_iff.1 q) hnk
       ·exact q
      ·have hmem:(t,x)∈fr:=by
        have:∀(fr:Fr),E6 fr t=some x→(t,x)∈fr:=by
         intro fr
         induction fr with
         | nil=>intro h;simp [E6] at h
         | cons y r ihf =>
          obtain ⟨q,z⟩:=y
          intro h
          by_cases hq:q=t
          ·subst hq;rw [E1] at h;cases h;exact List.mem_cons_self ..
          ·rw [C7 hq] at h;exact List.mem_cons_of_mem _ (ihf h)
        exact this fr h4
       have:=List.all_eq_true.1 f2 (t,x) hmem
       simp only [J81] at this
       rcases this with q | q
       ·exact absurd (hasN_iff.1 q) hnk
       ·exact q
     refine .inl (L0 (heff frc hext hfr2 S G a w hn hsf) ?_)
     rintro v w' ⟨G',hs2,hv⟩
     have hi2:=hinv (Y8 ed i).2 (fun _=>rfl) (fun q=>absurd hiE q)
     have hs3:=hs2.weakenO hle
     refine ih (listed.setIfInBounds i true) _ obT G' _ w' hsz2 hul hcl2 (by rw [hDe];exact hM2) (by rw [hDe];exact hobT) hi2 ?_
     cases hdo:o.dst with
     | none=>exact hs3
     | some d0 =>
      have hv2:=hv d0 hdo
      have hput:=hs2.put (d:=d0) (by rw [hn];exact g2 d0 hdo) hv2
      exact hput.weakenO hle
 have hlist0:∀j,(Array.replicate l.length false).getD j false=false:=by
  intro j
  simp only [Array.getD_eq_getD_getElem?]
  rcases Nat.lt_or_ge j l.length with h' | h'
  ·simp [h']
  ·simp [h']
 have hf0:(E.filter fun j=>(Array.replicate l.length false).getD j false)=[]:=by
  rw [List.filter_eq_nil_iff];intro e _;rw [hlist0];simp
 have hu0:unl (Array.replicate l.length false) l.length=l.length:=by
  unfold unl
  have:(List.range l.length).countP (fun i=>!(Array.replicate l.length false).getD i false)=(List.range l.length).length:=by
   rw [List.countP_eq_length];intro i _;rw [hlist0];rfl
  rw [this,J96]
 have:=key l.length (Array.replicate l.length false) fr ob0 G a _ (by simp) hu0 (fun j o ho hl=>by rw [hlist0] at hl;cases hl) (by rw [hf0];exact G23 b6) (by rw [hf0];exact h0) ⟨fun j o d s _ h4 _=>(by rw [hlist0] at h4;cases h4),fun t s h3=>.inr h3,fun t s h3 _ _=>h3⟩ (hs.ext hxw)
 simpa using this
end
end Go.AL
namespace Go.AL
open Go Go.RowKit
set_option linter.unusedVariables false
section
variable {P:Program} {nt:Nat}
def B22 (P:Program) (nt:Nat) (l:List Oper) (fr:Fr) (E:List Nat) (ed:Ed) (K:Sv→Mo→Prop):List (Nat × List Nat)→Sv→Mo→Prop
 | [],svs,M=>K svs M
 | (i,D)::ts,svs,M=>∃o ob s,l[i]?=some o∧S0 M D=some ob∧s9 l svs o=true∧(O9 svs i=none∨O9 svs i=some s) ∧
   ((K8 E i=false∧Neu P o (V8 (B30 l svs fr) (s6 o.op)) ob (fun s'=>s'=s)∧B22 P nt l fr E ed K ts ((i,s)::svs) M) ∨
    (K8 E i=true∧∃ob',E09 P nt o (V8 (B30 l svs fr) (s6 o.op)) (Y8 ed i).1 (Y8 ed i).2 ob ob' s∧S0 M (A75 i D)=none∧B22 P nt l fr E ed K ts ((i,s)::svs) ((A75 i D,ob')::M)))
def A56 (P:Program) (nt:Nat) (l:List Oper) (fr:Fr) (E:List Nat) (ed:Ed) (svs:Sv) (M:Mo):List (Nat × List Nat)→Prop
 | []=>True
 | (i,D)::ts=>(∃o ob s,l[i]?=some o∧S0 M D=some ob∧s9 l svs o=true∧O9 svs i=some s ∧
   ((K8 E i=false∧Neu P o (V8 (B30 l svs fr) (s6 o.op)) ob (fun s'=>s'=s)) ∨
    (K8 E i=true∧∃ob' obT,E09 P nt o (V8 (B30 l svs fr) (s6 o.op)) (Y8 ed i).1 (Y8 ed i).2 ob ob' s∧S0 M (A75 i D)=some obT∧G25 obT ob')))∧A56 P nt l fr E ed svs M ts
def TaskOk (P:Program) (nt:Nat) (l:List Oper) (fr:Fr) (E:List Nat) (ed:Ed) (svs:Sv) (M:Mo) (p:Nat × List Nat):Prop :=
 ∃ob s,S0 M p.2=some ob∧O9 svs p.1=some s∧Task P nt l fr svs E ed p.1 ob s (fun ob'=>∃obT,S0 M (A75 p.1 p.2)=some obT∧G25 obT ob')
theorem B71 {svs:Sv} {i:Nat} {s:SV} (h:O9 svs i=none∨O9 svs i=some s) {j:Nat} {x:SV} (hj:O9 svs j=some x):O9 ((i,s)::svs) j=some x:=by
 show cond (Nat.beq i j) _ _=_
 by_cases hij:i=j
 ·subst hij
  rw [Nat.beq_refl]
  rcases h with h | h
  ·rw [h] at hj;cases hj
  ·rw [h] at hj;exact hj
 ·rw [T4 hij];exact hj
theorem E11:∀(l:List Nat),A76 l l=true
 | []=>rfl
 | a::l=>by simp [A76,Nat.beq_refl,E11 l]
theorem F10 {M:Mo} {D0:List Nat} {o0:Obs} (h:S0 M D0=none) {D:List Nat} {ob:Obs} (hD:S0 M D=some ob):S0 ((D0,o0)::M) D=some ob:=by
 show cond (A76 D0 D) _ _=_
 cases hs:A76 D0 D
 ·exact hD
 ·rw [C48 hs] at h;rw [h] at hD;cases hD
theorem UIn2.mono {l:List Oper} {svs svs':Sv} {fr:Fr} {o:Oper} {U:Fr} (h:UIn2 l svs fr o U) (hm:∀j x,O9 svs j=some x→O9 svs' j=some x):UIn2 l svs' fr o U:=fun t s ht=>by
 obtain ⟨h1,h2⟩:=h t s ht
 refine ⟨h1,?_⟩
 rcases h2 with ⟨j,o',h3,h4,h5⟩ | h2
 ·exact .inl ⟨j,o',h3,h4,hm j s h5⟩
 ·exact .inr h2
theorem E12 {l:List Oper} {fr:Fr} {E:List Nat} {ed:Ed} {K:Sv→Mo→Prop}:∀{ts:List (Nat × List Nat)} {svs:Sv} {M:Mo},B22 P nt l fr E ed K ts svs M →
  ∃svs' M',(∀j x,O9 svs j=some x→O9 svs' j=some x)∧(∀D ob,S0 M D=some ob→S0 M' D=some ob)∧K svs' M'∧∀p∈ts,TaskOk P nt l fr E ed svs' M' p
 | [],svs,M,h=>⟨svs,M,fun _ _ h=>h,fun _ _ h=>h,h,fun p hp=>by simp at hp⟩
 | (i,D)::ts,svs,M,h=>by
  obtain ⟨o,ob,s,h1,h2,h3,h4,h5⟩:=h
  have hself:O9 ((i,s)::svs) i=some s:=by show cond (Nat.beq i i) _ _=_;rw [Nat.beq_refl];rfl
  rcases h5 with ⟨h6,h7,h8⟩ | ⟨h6,ob',h7,h9,h8⟩
  ·obtain ⟨svs',M',g1,g2,g3,g4⟩:=E12 h8
   refine ⟨svs',M',fun j x hj=>g1 j x (B71 h4 hj),g2,g3,fun p hp=>?_⟩
   rcases List.mem_cons.1 hp with rfl | hp
   ·exact ⟨ob,s,g2 _ _ h2,g1 _ _ hself,o,_,h1,(D88 h3).mono (fun j x hj=>g1 j x (B71 h4 hj)),.inl ⟨h6,h7⟩⟩
   ·exact g4 p hp
  ·obtain ⟨svs',M',g1,g2,g3,g4⟩:=E12 h8
   have hM:S0 ((A75 i D,ob')::M) (A75 i D)=some ob':=by show cond (A76 _ _) _ _=_;rw [E11];rfl
   refine ⟨svs',M',fun j x hj=>g1 j x (B71 h4 hj),fun D' ob2 hD=>g2 _ _ (F10 h9 hD),g3,fun p hp=>?_⟩
   rcases List.mem_cons.1 hp with rfl | hp
   ·exact ⟨ob,s,g2 _ _ (F10 h9 h2),g1 _ _ hself,o,_,h1,(D88 h3).mono (fun j x hj=>g1 j x (B71 h4 hj)),.inr ⟨h6,ob',h7,ob',g2 _ _ hM,fun _ _ h=>h⟩⟩
   ·exact g4 p hp
theorem F11 {l:List Oper} {fr:Fr} {E:List Nat} {ed:Ed} {svs:Sv} {M:Mo}:∀{ts:List (Nat × List Nat)},A56 P nt l fr E ed svs M ts→∀p∈ts,TaskOk P nt l fr E ed svs M p
 | [],_,p,hp=>by simp at hp
 | (i,D)::ts,h,p,hp=>by
  obtain ⟨⟨o,ob,s,h1,h2,h3,h4,h5⟩,h6⟩:=h
  rcases List.mem_cons.1 hp with rfl | hp
  ·rcases h5 with ⟨g1,g2⟩ | ⟨g1,ob',obT,g2,g3,g4⟩
   ·exact ⟨ob,s,h2,h4,o,_,h1,D88 h3,.inl ⟨g1,g2⟩⟩
   ·exact ⟨ob,s,h2,h4,o,_,h1,D88 h3,.inr ⟨g1,ob',g2,obT,g3,g4⟩⟩
  ·exact F11 h6 p hp
def F64 (ed:Ed):List Nat:=ed.flatMap fun p=>p.2.2
def edOk (E:List Nat) (ed:Ed):Bool:=E.all fun e=>ed.any fun p=>Nat.beq p.1 e
theorem E13:∀{ed:Ed} {e:Nat},(ed.any fun p=>Nat.beq p.1 e)=true→(e,Y8 ed e)∈ed
 | [],_,h=>by simp at h
 | (i,x)::r,e,h=>by
  by_cases hie:i=e
  ·subst hie
   have:Y8 ((i,x)::r) i=x:=by show cond (Nat.beq i i) _ _=_;rw [Nat.beq_refl];rfl
   rw [this];exact List.mem_cons_self ..
  ·have h1:Y8 ((i,x)::r) e=Y8 r e:=by show cond (Nat.beq i e) _ _=_;rw [T4 hie];rfl
   rw [h1]
   simp only [List.any_cons,T4 hie,Bool.false_or] at h
   exact List.mem_cons_of_mem _ (E13 h)
def Fin2 (P:Program) (nt:Nat) (l:List Oper) (fr:Fr) (E:List Nat) (ed:Ed) (T2:List (Nat × List Nat)) (Q:Post) (svs:Sv) (M:Mo):Prop :=
 (B92 l l.toArray svs fr ed&&(List.range l.length).all fun j=>(O9 svs j).isSome)=true∧A56 P nt l fr E ed svs M T2∧∃obE,S0 M E=some obE∧Q .normal (Y9 (F64 ed) (B30 l svs fr)) obE
theorem N6 {id:Nat} {l:List Oper} {fr:Fr} {ob0:Obs} {Q:Post} (E:List Nat) (Ms:List (List Nat)) (ed:Ed) (T1 T2:List (Nat × List Nat)) (hm:P.follows .mixedOrders=true)
  (hB:(conf2 nt l E Ms ed (T1++T2)&&edOk E ed)=true) (h:B22 P nt l fr E ed (Fin2 P nt l fr E ed T2 Q) T1 [] [([],ob0)]):WpC P nt (.region id l.toArray true) fr ob0 Q:=by
 simp only [J61] at hB
 obtain ⟨svs,M,h1,h2,⟨h3,h4,obE,h5,h6⟩,h7⟩:=E12 h
 simp only [J61] at h3
 refine c_core E Ms ed (T1++T2) svs M hm hB.1 (fun e he=>⟨Y8 ed e,E13 (List.all_eq_true.1 hB.2 e he),rfl⟩) h3.1 (h2 [] ob0 rfl) (fun p hp=>?_) h5 (fun t s ht=>?_) h6
 ·rcases List.mem_append.1 hp with hp | hp
  ·exact h7 p hp
  ·exact F11 h4 p hp
 ·obtain ⟨hk,h8⟩:=getF_dropK.1 ht
  refine ⟨fun e he hin=>hk ?_,?_⟩
  ·have:=E13 (List.all_eq_true.1 hB.2 e he)
   exact List.mem_flatMap.2 ⟨_,this,hin⟩
  ·rcases E10 h8 with ⟨j,o,g1,g2,g3⟩ | ⟨g1,g2⟩
   ·exact .inl ⟨j,o,g2,g3,g1⟩
   ·refine .inr ⟨fun hin=>?_,g1⟩
    obtain ⟨j,o,g3,g4⟩:=C50 hin
    have:=List.all_eq_true.1 h3.2 j (List.mem_range.2 (List.getElem?_eq_some_iff.1 g3).1)
    exact g2 j o (fun e=>by rw [e] at this;cases this) g3 g4
theorem E2 {l:List Oper} {fr:Fr} {E:List Nat} {ed:Ed} {K:Sv→Mo→Prop} {i:Nat} {D:List Nat} {ts:List (Nat × List Nat)} {svs:Sv} {M:Mo} {o:Oper} {ob:Obs} {s:SV} (ho:l[i]?=some o) (hM:S0 M D=some ob) (hu:s9 l svs o=true)
  (hv:O9 svs i=none) (ht:K8 E i=false) (h:Neu P o (V8 (B30 l svs fr) (s6 o.op)) ob (fun s'=>s'=s)) (k:B22 P nt l fr E ed K ts ((i,s)::svs) M):B22 P nt l fr E ed K ((i,D)::ts) svs M :=
 ⟨o,ob,s,ho,hM,hu,.inl hv,.inl ⟨ht,h,k⟩⟩
theorem U9 {l:List Oper} {fr:Fr} {E:List Nat} {ed:Ed} {K:Sv→Mo→Prop} {i:Nat} {D:List Nat} {ts:List (Nat × List Nat)} {svs:Sv} {M:Mo} {o:Oper} {ob ob':Obs} {s:SV} (ho:l[i]?=some o) (hM:S0 M D=some ob) (hu:s9 l svs o=true)
  (hv:O9 svs i=none) (ht:K8 E i=true) (h:E09 P nt o (V8 (B30 l svs fr) (s6 o.op)) (Y8 ed i).1 (Y8 ed i).2 ob ob' s) (hn:S0 M (A75 i D)=none) (k:B22 P nt l fr E ed K ts ((i,s)::svs) ((A75 i D,ob')::M)):B22 P nt l fr E ed K ((i,D)::ts) svs M :=
 ⟨o,ob,s,ho,hM,hu,.inl hv,.inr ⟨ht,ob',h,hn,k⟩⟩
theorem w_again {l:List Oper} {fr:Fr} {E:List Nat} {ed:Ed} {K:Sv→Mo→Prop} {i:Nat} {D:List Nat} {ts:List (Nat × List Nat)} {svs:Sv} {M:Mo} {o:Oper} {ob ob':Obs} {s:SV} (ho:l[i]?=some o) (hM:S0 M D=some ob) (hu:s9 l svs o=true)
  (hv:O9 svs i=some s) (ht:K8 E i=true) (h:E09 P nt o (V8 (B30 l svs fr) (s6 o.op)) (Y8 ed i).1 (Y8 ed i).2 ob ob' s) (hn:S0 M (A75 i D)=none) (k:B22 P nt l fr E ed K ts ((i,s)::svs) ((A75 i D,ob')::M)):B22 P nt l fr E ed K ((i,D)::ts) svs M :=
 ⟨o,ob,s,ho,hM,hu,.inr hv,.inr ⟨ht,ob',h,hn,k⟩⟩
theorem F12 {l:List Oper} {fr:Fr} {E:List Nat} {ed:Ed} {T2:List (Nat × List Nat)} {Q:Post} {svs:Sv} {M:Mo} {obE:Obs} (h1:(B92 l l.toArray svs fr ed&&(List.range l.length).all fun j=>(O9 svs j).isSome)=true) (h2:S0 M E=some obE)
  (h3:A56 P nt l fr E ed svs M T2) (h4:Q .normal (Y9 (F64 ed) (B30 l svs fr)) obE):B22 P nt l fr E ed (Fin2 P nt l fr E ed T2 Q) [] svs M:=⟨h1,h3,obE,h2,h4⟩
theorem M2 {l:List Oper} {fr:Fr} {E:List Nat} {ed:Ed} {i:Nat} {D:List Nat} {ts:List (Nat × List Nat)} {svs:Sv} {M:Mo} {o:Oper} {ob:Obs} {s:SV} (ho:l[i]?=some o) (hM:S0 M D=some ob) (hu:s9 l svs o=true)
  (hv:O9 svs i=some s) (ht:K8 E i=false) (h:Neu P o (V8 (B30 l svs fr) (s6 o.op)) ob (fun s'=>s'=s)) (k:A56 P nt l fr E ed svs M ts):A56 P nt l fr E ed svs M ((i,D)::ts) :=
 ⟨⟨o,ob,s,ho,hM,hu,hv,.inl ⟨ht,h⟩⟩,k⟩
theorem x_eff {l:List Oper} {fr:Fr} {E:List Nat} {ed:Ed} {i:Nat} {D:List Nat} {ts:List (Nat × List Nat)} {svs:Sv} {M:Mo} {o:Oper} {ob ob' obT:Obs} {s:SV} (ho:l[i]?=some o) (hM:S0 M D=some ob) (hu:s9 l svs o=true)
  (hv:O9 svs i=some s) (ht:K8 E i=true) (h:E09 P nt o (V8 (B30 l svs fr) (s6 o.op)) (Y8 ed i).1 (Y8 ed i).2 ob ob' s) (hT:S0 M (A75 i D)=some obT) (hle:G25 obT ob') (k:A56 P nt l fr E ed svs M ts):A56 P nt l fr E ed svs M ((i,D)::ts) :=
 ⟨⟨o,ob,s,ho,hM,hu,hv,.inr ⟨ht,ob',obT,h,hT,hle⟩⟩,k⟩
theorem B41 {l:List Oper} {fr:Fr} {E:List Nat} {ed:Ed} {svs:Sv} {M:Mo}:A56 P nt l fr E ed svs M []:=trivial
def H99 (ob:Obs):List Nat→Obs→Prop
 | _,[]=>True
 | seen,(k,o)::r=>(K8 seen k=true∨B4 ob k=some o)∧H99 ob (k::seen) r
theorem E14 {ob:Obs}:∀{obT:Obs} {seen:List Nat},H99 ob seen obT→∀k o,k∉seen→B4 obT k=some o→B4 ob k=some o
 | [],_,_,k,o,_,hk=>by simp [B4] at hk
 | (k',o')::r,seen,⟨h1,h2⟩,k,o,hs,hk=>by
  by_cases he:k'=k
  ·subst he
   rw [E9] at hk;cases hk
   rcases h1 with h1 | h1
   ·exact absurd (hasN_iff.1 h1) hs
   ·exact h1
  ·rw [B9 he] at hk
   exact E14 h2 k o (fun q=>by
    rcases List.mem_cons.1 q with q | q
    ·exact he q.symm
    ·exact hs q) hk
theorem I98 {obT ob:Obs} (h:H99 ob [] obT):G25 obT ob:=fun k o hk=>E14 h k o (by simp) hk
theorem Q5 {U frc:Fr} (hU:E08 U frc) {x:Operand} {s:SV} (h:opv U x=some s):opv frc x=some s:=by
 cases x with
 | tmp t =>
  have h:x1 U t=some s:=h
  obtain ⟨h1,h2⟩:=F05 h
  show x1 frc t=some s
  unfold x1
  have:Nat.blt t 1000000=true:=by simpa using h1
  rw [this];exact hU t s h2
 | _=>exact h
theorem argsU {U frc:Fr} (hU:E08 U frc):∀{xs:List Operand} {ps:List S1},A05 U xs=some ps→A05 frc xs=some ps
 | [],ps,h=>h
 | x :: r,ps,h=>by
  unfold A05 at h ⊢
  cases hx:opv U x with
  | none=>rw [hx] at h;cases h
  | some sv =>
   rw [hx] at h
   cases sv with
   | s s0 =>
    simp only at h
    cases hr:A05 U r with
    | none=>rw [hr] at h;cases h
    | some qs =>
     rw [hr] at h
     rw [Q5 hU hx]
     simp only
     rw [argsU hU hr];exact h
   | _=>cases h
theorem r_alloc {U:Fr} {k:Nat} {e:TypeId} {z:Value} [hz:TyZero P e z] {ty:TypeId} {pos:String} {af:Array Edge} {al:Nat} {ob:Obs} (h2:K0 k ob=true) :
  E09 P nt ⟨some al,.alloc e,ty,pos,af,none⟩ U [k] [] ob ((k,.box (z.cells.toList.map fun c=>.p (.v c)))::ob) (.s (.one (.ref k 0))):=by
 intro frc hU hfree S G a w hn hs
 obtain ⟨h4,h5,hp⟩:=H3 h2
 refine J1 (w':=w.alloc (.cells z.cells e)) (v:=.pointer (some ⟨w.heap.size,0,none⟩)) ?_ ?_
 ·simp [execOp,Instr.alloc,newVar,newRow,S7 hz.out.1]
 ·have hxw:Below w.heap.size w (w.alloc (.cells z.cells e)):=(Below.refl _ _).alloc (Nat.le_refl _) _
  have hu:∀b,blk (.pointer (some ⟨w.heap.size,0,none⟩))=some b→w.heap.size≤b:=by intro b hb;simp [blk] at hb;omega
  have h6:=hs.new (o:=.box (z.cells.toList.map fun c=>.p (.v c))) hp h5 hxw hu ⟨w.heap.size,z.cells.toList,e,rfl,by rw [Array.toArray_toList];exact heap_alloc_new w _,c5 _ hz.out.2⟩
  rw [h4] at h6
  refine ⟨_,h6.weaken (fun t x ht=>?_),fun d _=>⟨w.heap.size,I3 _ _ _,rfl⟩⟩
  obtain ⟨_,ht⟩:=getF_dropK.1 ht
  rw [O7,ht]
  simp [SV.forget_free (hfree k (by simp) t x ht (by simp))]
theorem A34 {U:Fr} {op:Op} {ty:TypeId} {pos:String} {af:Array Edge} {ob ob':Obs} (h:∀frc,E08 U frc→Eff P ⟨none,op,ty,pos,af,none⟩ frc ob frc ob'):E09 P nt ⟨none,op,ty,pos,af,none⟩ U [] [] ob ob' .any:=by
 intro frc hU _ S G a w hn hs
 have:=h frc hU S G a w hs
 have hdk:Y9 [] frc=frc:=by unfold Y9;exact List.filter_eq_self.2 fun p _=>rfl
 have imp:∀(v:Value) (w':World),(∃G',Sim P S frc ob' G' a w')→∃G',Sim P S (Y9 [] frc) ob' G' a w'∧∀d,(none:Option Tmp)=some d→SV.rep (E8 (Mut S ob' G') w') G' .any v:=fun v w' ⟨G',h⟩=>⟨G',by rw [hdk];exact h,fun d hd=>by cases hd⟩
 unfold Does at this ⊢
 generalize (execOp a.eval _).run P w=r at *
 cases r with
 | ok n w' =>
  cases n<;>simp only at this ⊢<;>try exact this.elim
  case value v=>exact imp v w' this
  case skip=>exact imp undef w' this
  case enter f args=>exact this.mono fun e w'' ⟨v,he,hv⟩=>⟨v,he,imp v w'' hv⟩
 | halt x w'=>exact this
theorem D04 {U:Fr} {k:Nat} {kills:List Nat} {o:Oper} {ob ob':Obs} {s:SV} (h:∀frc,E08 U frc→EffV P o frc ob s (Fr.forget k frc) ob'):E09 P nt o U [k] kills ob ob' s:=by
 intro frc hU hfree S G a w hn hs
 have:=h frc hU S G a w hs
 have imp:∀(v:Value) (w':World),(∃G',Sim P S (Fr.forget k frc) ob' G' a w'∧s.rep (E8 (Mut S ob' G') w') G' v)→∃G',Sim P S (Y9 kills frc) ob' G' a w'∧∀d,o.dst=some d→s.rep (E8 (Mut S ob' G') w') G' v:=fun v w' ⟨G',h,hr⟩=>⟨G',h.weaken (fun t x ht=>by
  obtain ⟨hk,ht⟩:=getF_dropK.1 ht
  rw [O7,ht]
  simp [SV.forget_free (hfree k (by simp) t x ht hk)]),fun _ _=>hr⟩
 unfold Does at this ⊢
 generalize (execOp a.eval _).run P w=r at *
 cases r with
 | ok n w' =>
  cases n<;>simp only at this ⊢<;>try exact this.elim
  case value v=>exact imp v w' this
  case skip=>exact imp undef w' this
  case enter f args=>exact this.mono fun e w'' ⟨v,he,hv⟩=>⟨v,he,imp v w'' hv⟩
 | halt x w'=>exact this
theorem B93:∀{ks:List Nat} {fr:Fr} {t:Nat} {x:SV},E6 fr t=some x→(∀k∈ks,x.free k=true)→E6 (C1 ks fr) t=some x
 | [],_,_,_,h,_=>h
 | k::ks,fr,t,x,h,hf=>by
  show E6 (C1 ks (Fr.forget k fr)) t=some x
  refine B93 ?_ (fun k' hk'=>hf k' (List.mem_cons_of_mem _ hk'))
  rw [O7,h]
  simp [SV.forget_free (hf k (List.mem_cons_self ..))]
theorem r_met {f:FuncId} {xs:List Operand} {ats:Array TypeId} {d:Nat} {ty:TypeId} {pos:String} {af:Array Edge} {U:Fr} {args:List S1} {ks kills:List Nat} {ob ob':Obs} {rs:List S1}
  (hf:∀gf,Met P f args gf ob ks (fun rs' ob''=>rs'=rs∧ob''=ob')) (ha:A05 U xs=some args) (hc:xs.all H8=true):E09 P nt ⟨some d,.call ⟨.value (.func f),xs.toArray,ats⟩,ty,pos,af,none⟩ U ks kills ob ob' (D77 rs):=by
 intro frc hU hfree S G a w hn h
 have hvals:=c8 h xs args (argsU hU ha) hc
 obtain ⟨gv,hgv⟩:∃gv:Nat→Value,gv=fun i=>S.sl a (i - 1000000):=⟨_,rfl⟩
 let S':Ctx:={ S with gv:=gv }
 have hhigh:High (shF frc):=fun i s hi=>(W8 frc i s hi).1
 have hfacts0:∀i s,E6 (shF frc) i=some s→s.rep (E8 (Mut S' ob G) w) G (S'.sl a i):=by
  intro i s hi
  obtain ⟨h7,h8⟩:=W8 frc i s hi
  rw [Ctx.sl_ge h7]
  show s.rep _ _ (gv i)
  have e:=congrFun hgv i
  rw [e]
  exact h.facts (i - 1000000) s h8
 have hs:Sim P S' (shF frc) ob G a w:={ h with facts:=hfacts0 }
 have hcalls:=(hf (shF frc)).2 hhigh S' G a w _ hs hvals
 have he:(execOp a.eval ⟨some d,.call ⟨.value (.func f),xs.toArray,ats⟩,ty,pos,af,none⟩).run P w=.ok (.enter f (xs.map a.eval).toArray) w:=by
  have:=N5 (P:=P) (f:=f) (args:=(xs.map a.eval).toArray) (w:=w) (hf []).1
  have hm:xs.toArray.map a.eval=(xs.map a.eval).toArray:=by simp
  simp only [execOp,resolve,Act.eval,Deferred.ofValue,Sem.run_bind,Sem.run_pure,Result.andThen_ok,invoke]
  rw [show (#[]:Array Value)++Array.map a.eval xs.toArray++#[]=(xs.map a.eval).toArray by rw [←hm];simp]
  exact this
 unfold Does
 rw [he]
 refine hcalls.mono ?_
 rintro e w' ⟨v,rs',ob'',G',rfl,⟨rfl,rfl⟩,hres,hs'⟩
 have hfacts:∀i s,E6 (C1 ks frc) i=some s→s.rep (E8 (Mut S ob'' G') w') G' (S.sl a i):=by
  intro i s hi
  have h7:=hs'.facts (i+1000000) s (by rw [c7];exact C47 hi)
  have h8:1000000≤i+1000000:=Nat.le_add_left _ _
  rw [Ctx.sl_ge h8] at h7
  have h7:s.rep (E8 (Mut S ob'' G') w') G' (gv (i+1000000)):=h7
  have e:=congrFun hgv (i+1000000)
  simp only [Nat.add_sub_cancel] at e
  rw [e] at h7
  exact h7
 have hsim:Sim P S (C1 ks frc) ob'' G' a w':={ hs' with facts:=hfacts }
 refine ⟨v,rfl,G',hsim.weaken (fun t x ht=>?_),fun _ _=>hres⟩
 obtain ⟨hk,ht⟩:=getF_dropK.1 ht
 exact B93 ht (fun k hkk=>hfree k hkk t x ht hk)
end
end Go.AL
namespace Go.AL
open Go Go.RowKit
set_option linter.unusedVariables false
section
variable {P:Program} {nt:Nat} {fr:Fr} {ob:Obs}
theorem J56 (k:Nat) (α:Type) (ec:Nat) (c:α→Nat→Cell) (e:TypeId) {kb o n m:Nat} {ts:List TC} (hb:B4 ob kb=some (.tarr n m ts)) (hts:ts[o]?=some (.p (.v (.slice none 0 0)))) (hf:(J6 k fr&&K0 k ob)=true) :
  Sees P nt fr ob fr ((kb,.tarr n m (ts.set o (.buf k α ec c [])))::(k,.spare 0 ec e)::ob):=by
 simp only [J61] at hf
 obtain ⟨h1,h2⟩:=hf
 obtain ⟨h4,h5,hp⟩:=H3 h2
 intro S G a w hn h
 have h6:=h.new hp (o:=.spare 0 ec e) (u:=.slice none 0 0) (w1:=w) h5 (Below.refl _ _) (fun b hb=>by simp [blk] at hb) ⟨[],World.ownsRow_nil w _ _ _⟩
 rw [V9 h1,h4] at h6
 have hkb:k≠kb:=fun he=>by rw [he,hb] at h5;cases h5
 have hb':B4 ((k,Ob.spare 0 ec e)::ob) kb=some (.tarr n m ts):=by rw [B9 hkb];exact hb
 obtain ⟨b,vs,t,hg,hl,hh,hlen,ha⟩:=h6.obs kb _ hb'
 have hbk:blk (upd G k (.slice none 0 0) kb)=some b:=by rw [hg];rfl
 refine ⟨_,h6.retell hb' hbk (fun i=>⟨hbk,trivial⟩) (fun i=>⟨hbk,trivial⟩) ?_⟩
 rintro rd ⟨b',vs',t',hg',hl',hh',hlen',ha'⟩
 refine ⟨b',vs',t',hg',hl',hh',by simpa using hlen',J45 o (fun z hz=>?_) ha'⟩
 obtain ⟨z',hz1,hz2⟩:=ha'.get o _ hts
 rw [hz] at hz1;cases hz1
 rw [hz2.1]
 exact ⟨(I3 _ _ _).symm,I5 α ec c⟩
end
end Go.AL
namespace Go.AL
open Go Go.RowKit
set_option linter.unusedVariables false
def I00 (L:Obs):List Nat:=L.map (·.1)
theorem C9 {L cur rest:Obs} (h:ObIn cur L) (hr:∀j x,K8 (I00 L) j=false→B4 rest j=some x→B4 cur j=some x):∀j x,B4 (L++rest) j=some x→B4 cur j=some x:=by
 have key:∀(L:Obs) (j:Nat) (x:Ob),B4 (L++rest) j=some x→(B4 L j=some x)∨(K8 (I00 L) j=false∧B4 rest j=some x):=by
  intro L
  induction L with
  | nil=>intro j x hx;exact .inr ⟨rfl,hx⟩
  | cons p r ih =>
   obtain ⟨k,o⟩:=p
   intro j x hx
   have hx:B4 ((k,o)::(r++rest)) j=some x:=hx
   by_cases hk:k=j
   ·subst hk;rw [E9] at hx;left;rw [E9];exact hx
   ·rw [B9 hk] at hx
    rcases ih j x hx with h1 | ⟨h1,h2⟩
    ·left;rw [B9 hk];exact h1
    ·right
     refine ⟨?_,h2⟩
     cases hh:K8 (I00 ((k,o)::r)) j
     ·rfl
     ·rcases List.mem_cons.1 (hasN_iff.1 hh) with q | q
      ·exact absurd q.symm hk
      ·rw [show K8 (I00 r) j=true from hasN_iff.2 q] at h1;cases h1
 intro j x hx
 rcases key L j x hx with h1 | ⟨h1,h2⟩
 ·exact h.spec j x h1
 ·exact hr j x h1 h2
theorem B8 {K:List Nat} {rest:Obs}:∀j x,K8 K j=false→B4 rest j=some x→B4 rest j=some x:=fun _ _ _ h=>h
theorem C0 {K:List Nat} {T rest:Obs} {k:Nat} {o:Ob} (hk:K8 K k=true) (h:∀j x,K8 K j=false→B4 rest j=some x→B4 T j=some x):∀j x,K8 K j=false→B4 rest j=some x→B4 ((k,o)::T) j=some x:=by
 intro j x hj hx
 have:k≠j:=fun e=>by rw [e,hj] at hk;cases hk
 rw [B9 this];exact h j x hj hx
theorem J3 {K:List Nat} {T ob:Obs} (k:Nat) (h:∀j x,K8 K j=false→B4 (Obs.forget k ob) j=some x→B4 T j=some x):∀j x,K8 K j=false→B4 (Obs.forget k ob) j=some x→B4 (Obs.forget k T) j=some x:=by
 intro j x hj hx
 have h1:=h j x hj hx
 rw [J7,h1]
 have h2:=hx
 rw [←Obs.forget_idem,J7,hx] at h2
 exact h2
theorem G26 {rest:Obs}:∀{L:Obs} {j:Nat} {x:Ob},B4 (L++rest) j=some x→B4 L j=some x∨B4 rest j=some x
 | [],j,x,hx=>.inr hx
 | (k,o)::r,j,x,hx=>by
  have hx:B4 ((k,o)::(r++rest)) j=some x:=hx
  by_cases hk:k=j
  ·subst hk;rw [E9] at hx;left;rw [E9];exact hx
  ·rw [B9 hk] at hx
   rcases G26 hx with h1 | h1
   ·left;rw [B9 hk];exact h1
   ·exact .inr h1
section
variable {P:Program} {nt:Nat} {fr gf:Fr} {ob:Obs}
theorem J37 (k:Nat) {l:Fr} {L:Obs} (hl:FrLe fr l) (hH:High gf) (ht:Tail gf fr) (hL:ObIn ob L):Sees P nt fr ob (l++Fr.forget k gf) (L++Obs.forget k ob):=by
 intro S G a w hn h
 have hget:∀k' o1,B4 (L++Obs.forget k ob) k'=some o1→∃o0,B4 ob k'=some o0∧(o1=o0∨o1=o0.forget k):=by
  intro k' o1 hk'
  rcases G26 hk' with h1 | h1
  ·exact ⟨o1,hL.spec k' o1 h1,.inl rfl⟩
  ·rw [J7] at h1
   cases hg:B4 ob k' with
   | none=>rw [hg] at h1;cases h1
   | some o0=>rw [hg] at h1;cases h1;exact ⟨o0,rfl,.inr rfl⟩
 have hrd:∀b i z,E8 (Mut S ob G) w b i z→E8 (Mut S (L++Obs.forget k ob) G) w b i z:=by
  intro b i z hr
  refine ⟨hr.1,fun hm=>hr.2 ?_⟩
  rcases hm with hm | ⟨k',o1,hk',hb⟩
  ·exact .inl hm
  ·obtain ⟨o0,h0,rfl | rfl⟩:=hget k' o1 hk'
   ·exact .inr ⟨k',_,h0,hb⟩
   ·exact .inr ⟨k',o0,h0,Own_forget.1 hb⟩
 refine ⟨G,{ h with old:=?_,dis:=?_,obs:=?_,facts:=?_ }⟩
 ·intro k' o1 b hk' hb
  obtain ⟨o0,h0,_⟩:=hget k' o1 hk'
  exact h.old k' o0 b h0 hb
 ·intro k1 k2 o1 o2 b h1 h2 hb1 hb2
  obtain ⟨oa,ha,_⟩:=hget k1 o1 h1
  obtain ⟨ob',hb',_⟩:=hget k2 o2 h2
  exact h.dis k1 k2 oa ob' b ha hb' hb1 hb2
 ·intro k' o1 hk'
  obtain ⟨o0,h0,rfl | rfl⟩:=hget k' o1 hk'
  ·exact (h.obs k' _ h0).ext hrd (Below.refl _ _)
  ·exact ((h.obs k' o0 h0).ext hrd (Below.refl _ _)).forget (fun _ _=>rfl)
 ·intro i s hi
  rw [r8] at hi
  cases hg:E6 l i with
  | some s0 =>
   rw [hg] at hi
   have hi:some s0=some s:=hi
   cases hi
   obtain ⟨s1,h1,h2⟩:=hl.spec i _ hg
   exact h2.rep (SV.rep_mono hrd (h.facts i s1 h1))
  | none =>
   rw [hg] at hi
   have hi:E6 (Fr.forget k gf) i=some s:=hi
   rw [O7] at hi
   cases hgf:E6 gf i with
   | none=>rw [hgf] at hi;cases hi
   | some s0 =>
    rw [hgf] at hi;cases hi
    exact SV.rep_forget (fun _ _=>rfl) (SV.rep_mono hrd (h.facts i s0 (ht i s0 (hH i s0 hgf) hgf)))
end
end Go.AL
namespace Go.AL
open Go Go.RowKit
set_option linter.unusedVariables false
section
variable {P:Program} {nt:Nat} {fr:Fr} {ob:Obs} {dst:Option Tmp} {ty:TypeId} {pos:String} {af:Array Edge} {gd:Option (Nat × Bool)}
theorem Sim.retold {S:Ctx} {G:Gh} {a:Act} {w:World} (h:Sim P S fr ob G a w) {k:Nat} {o o':Ob} (hk:B4 ob k=some o) (hown:∀b i,Own (G k) o' b i→Own (G k) o b i)
  (ho:∀rd:Rd,ObOk S rd G w (G k) o→ObOk S rd G w (G k) o'):Sim P S fr ((k,o')::ob) G a w:=by
 have hget:∀k' o1,B4 ((k,o')::ob) k'=some o1→∃o0,B4 ob k'=some o0∧∀b i,Own (G k') o1 b i→Own (G k') o0 b i:=by
  intro k' o1 hk'
  by_cases hkk:k'=k
  ·subst hkk;rw [E9] at hk';cases hk';exact ⟨_,hk,hown⟩
  ·rw [B9 (Ne.symm hkk)] at hk';exact ⟨_,hk',fun _ _ ho=>ho⟩
 have hrd:∀b i z,E8 (Mut S ob G) w b i z→E8 (Mut S ((k,o')::ob) G) w b i z:=by
  intro b i z hr
  refine ⟨hr.1,fun hm=>hr.2 ?_⟩
  rcases hm with hm | ⟨k',o1,hk',hb⟩
  ·exact .inl hm
  ·obtain ⟨o0,h0,hi⟩:=hget k' o1 hk'
   exact .inr ⟨k',o0,h0,hi _ _ hb⟩
 refine { h with old:=?_,dis:=?_,obs:=?_,facts:=?_ }
 ·intro k' o1 b hk' hb
  obtain ⟨o0,h0,_⟩:=hget k' o1 hk'
  exact h.old k' o0 b h0 hb
 ·intro k1 k2 o1 o2 b h1 h2 hb1 hb2
  obtain ⟨oa,ha,_⟩:=hget k1 o1 h1
  obtain ⟨ob',hb',_⟩:=hget k2 o2 h2
  exact h.dis k1 k2 oa ob' b ha hb' hb1 hb2
 ·intro k' o1 hk'
  by_cases hkk:k'=k
  ·subst hkk;rw [E9] at hk';cases hk'
   exact ho _ ((h.obs k' _ hk).ext hrd (Below.refl _ _))
  ·rw [B9 (Ne.symm hkk)] at hk'
   exact (h.obs k' o1 hk').ext hrd (Below.refl _ _)
 ·intro i s hi
  exact SV.rep_mono hrd (h.facts i s hi)
theorem Sim.grow_cell {S:Ctx} {G:Gh} {a:Act} {w:World} (h:Sim P S fr ob G a w) {k b n cap i o ec:Nat} {e:TypeId} {α:Type} {c:α→Nat→Cell} {xs:List α} {v:α} (hk:B4 ob k=some (.grow e α ec c xs)) (hg:G k=.slice (some ⟨b,0,none⟩) n cap) (hv:xs[i]?=some v) (ho:o < ec) :
  ∃z,w.cell? ⟨b,i*ec+o,none⟩=some z∧(c v o).rep (E8 (Mut S ob G) w) z:=by
 obtain ⟨vs,hown,_,hc⟩:=h.obs k _ hk
 obtain ⟨hi,rfl⟩:=List.getElem?_eq_some_iff.1 hv
 obtain ⟨z,h1,h2⟩:=hc i hi o ho
 have:=hown.cells (g:=b) (by rw [hg];rfl) (i*ec+o) z h1
 exact ⟨z,by simpa [Addr.add_lit] using this,h2⟩
theorem t6 {x:Operand} {t e:TypeId} {k i o:Nat} {α:Type} {ec:Nat} {c:α→Nat→Cell} {xs:List α} {v:α} [ht:TyOne P t] (hx:opv fr x=some (.s (.one (.mref k ec i o)))) (hk:B4 ob k=some (.grow e α ec c xs)) (hv:xs[i]?=some v)
  (ho:Nat.blt o ec=true):Neu P ⟨dst,.load t x,ty,pos,af,gd⟩ fr ob (fun s'=>s'=.s (.one (.p (c v o)))) :=
 E7 fun S G a w h=>by
  obtain ⟨b,n,cap,hg,hu⟩:=I1 h hx
  obtain ⟨z,hz1,hz2⟩:=h.grow_cell hk hg hv (by simpa using ho)
  refine ⟨z,?_,hz2⟩
  simp only [execOp,hu]
  exact L3 (by simp [Instr.loadAt,Instr.sureAddr,R5 hz1])
theorem z6 {x:Operand} {t e:TypeId} {n k i o:Nat} {α:Type} {ec:Nat} {c:α→Nat→Cell} {xs:List α} {v:α} [ht:TyAgg P t n] (hx:opv fr x=some (.s (.one (.mref k ec i o)))) (hk:B4 ob k=some (.grow e α ec c xs)) (hv:xs[i]?=some v)
  (ho:Nat.ble (o+n) ec=true):Neu P ⟨dst,.load t x,ty,pos,af,gd⟩ fr ob (fun s'=>s'=.s (.agg ((cellsOf c v o n).map .p))) :=
 E7 fun S G a w h=>by
  obtain ⟨b,m,cap,hg,hu⟩:=I1 h hx
  have hle:o+n≤ec:=by simpa using ho
  obtain ⟨vs,hl,hvs⟩:=A26 (R:=fun j z=>w.cell? ⟨b,i*ec+(o+j),none⟩=some z∧(c v (o+j)).rep (E8 (Mut S ob G) w) z) n (fun j hj=>h.grow_cell hk hg hv (by omega))
  refine ⟨.agg vs.toArray,?_,vs,rfl,?_⟩
  ·simp only [execOp,hu]
   refine L3 ?_
   simp [Instr.loadAt,Instr.sureAddr,Z3 (ht:=ht) (o:=i*ec+o) hl (fun j z hz=>by rw [Nat.add_assoc];exact (hvs j z hz).1)]
  ·refine A27 (by simp [hl,K2]) fun j t z h1 h2=>?_
   rw [K02] at h1
   cases hc:(cellsOf c v o n)[j]? with
   | none=>simp [hc] at h1
   | some cc =>
    simp [hc] at h1
    obtain ⟨rfl,_⟩:=R9 c v n o j cc hc
    subst h1
    exact (hvs j z h2).2
end
end Go.AL
namespace Go.AL
open Go Go.RowKit
set_option linter.unusedVariables false
section
variable {P:Program} {nt:Nat} {fr:Fr} {ob:Obs} {dst:Option Tmp} {ty:TypeId} {pos:String} {af:Array Edge} {gd:Option (Nat × Bool)}
theorem tail_drop {gf:Fr} {ks:List Nat} (hk:(ks.all fun k=>Nat.blt k 1000000)=true) (h:Tail gf fr):Tail gf (Y9 ks fr):=fun i s hi hg=>by
 refine getF_dropK.2 ⟨fun hin=>?_,h i s hi hg⟩
 have:=List.all_eq_true.1 hk i hin
 have:i < 1000000:=by simpa using this
 omega
end
end Go.AL
namespace Go.AL
open Go Go.RowKit
set_option linter.unusedVariables false
section
variable {P:Program} {nt:Nat} {fr:Fr} {ob:Obs} {dst:Option Tmp} {ty:TypeId} {pos:String} {af:Array Edge} {gd:Option (Nat × Bool)}
theorem Sim.freezeG {S:Ctx} {G:Gh} {a:Act} {w:World} (h:Sim P S fr ob G a w) {k:Nat} {α:Type} {ec:Nat} {c:α→Nat→Cell} {xs:List α} {e:TypeId} (hk:B4 ob k=some (.grow e α ec c xs)) (hec:0 < ec) :
  Sim P S (J44 (SV.freeze k α ec c xs) fr) (J38 (Ob.freeze k α ec c xs) (Obs.drop k ob)) G a w:=by
 have hd:=h.drop k
 obtain ⟨vs,hown,hlen,hc⟩:=h.obs k _ hk
 have hget:∀k' o,B4 (J38 (Ob.freeze k α ec c xs) (Obs.drop k ob)) k'=some o→∃o0,B4 (Obs.drop k ob) k'=some o0∧o=o0.freeze k α ec c xs:=by
  intro k' o hk'
  rw [getO_mapO] at hk'
  cases hg':B4 (Obs.drop k ob) k' with
  | none=>simp [hg'] at hk'
  | some o0=>simp [hg'] at hk';exact ⟨o0,rfl,hk'.symm⟩
 have hownf:∀(u:Value) (o:Ob) (b i:Nat),Own u (o.freeze k α ec c xs) b i↔Own u o b i:=by intro u o b i;cases o<;>simp [Own,Ob.freeze]
 have hmut:∀b i,Mut S (J38 (Ob.freeze k α ec c xs) (Obs.drop k ob)) G b i→Mut S (Obs.drop k ob) G b i:=by
  intro b i hm
  rcases hm with hm | ⟨k',o,hk',hb⟩
  ·exact .inl hm
  ·obtain ⟨o0,h0,rfl⟩:=hget k' o hk'
   exact .inr ⟨k',o0,h0,(hownf _ _ _ _).1 hb⟩
 have hrd:∀b i z,E8 (Mut S (Obs.drop k ob) G) w b i z→E8 (Mut S (J38 (Ob.freeze k α ec c xs) (Obs.drop k ob)) G) w b i z:=fun b i z hr=>⟨hr.1,fun hm=>hr.2 (hmut b i hm)⟩
 have hrd0:∀b i z,E8 (Mut S ob G) w b i z→E8 (Mut S (Obs.drop k ob) G) w b i z:=by
  intro b i z hr
  refine ⟨hr.1,fun hm=>hr.2 ?_⟩
  rcases hm with hm | ⟨k',o',hk',hb⟩
  ·exact .inl hm
  ·refine .inr ⟨k',o',?_,hb⟩
   by_cases hkk:k'=k
   ·subst hkk;rw [Q7] at hk';cases hk'
   ·rwa [P4 hkk] at hk'
 have hlist:(Cell.list α ec c xs).rep (E8 (Mut S (J38 (Ob.freeze k α ec c xs) (Obs.drop k ob)) G) w) (G k):=by
  refine A92 hown hec hlen ?_ (fun i hi j hj=>let ⟨z,h1,h2⟩:=hc i hi j hj;⟨z,h1,Cell.rep_mono (fun _ _ _ hr=>hrd _ _ _ (hrd0 _ _ _ hr)) _ _ h2⟩)
  intro g hg j z hj hcell
  refine ⟨hcell,fun hm=>?_⟩
  rcases hmut _ _ hm with hm | ⟨k',o',hk',hb,_⟩
  ·have:=h.m0 _ _ hm
   rcases h.old k _ g hk hg with h1 | h1
   ·omega
   ·exact h.m0io _ _ hm h1.1
  ·by_cases hkk:k'=k
   ·subst hkk;rw [Q7] at hk';cases hk'
   ·rw [P4 hkk] at hk'
    exact hkk (h.dis k' k o' _ g hk' hk hb hg)
 exact { hd with
  old:=fun k' o b hk'=>let ⟨o0,h0,_⟩:=hget k' o hk';hd.old k' o0 b h0
  dis:=fun k1 k2 o1 o2 b h1 h2=>let ⟨oa,ha,_⟩:=hget k1 o1 h1;let ⟨ob',hb',_⟩:=hget k2 o2 h2;hd.dis k1 k2 oa ob' b ha hb'
  obs:=fun k' o hk'=>by
   obtain ⟨o0,h0,rfl⟩:=hget k' o hk'
   have hob:=(hd.obs k' o0 h0).ext hrd (Below.refl _ _)
   cases o0 with
   | box ts=>obtain ⟨b',vs',t',h1,h2,h3⟩:=hob;exact ⟨b',vs',t',h1,h2,h3.map (TC.freeze k α ec c xs) fun _ _=>TC.rep_freeze hlist⟩
   | tbx e ts=>obtain ⟨b',vs',h1,h2,h3⟩:=hob;exact ⟨b',vs',h1,h2,h3.map (TC.freeze k α ec c xs) fun _ _=>TC.rep_freeze hlist⟩
   | tarr n ec' ts=>obtain ⟨b',vs',t',h1,hl,h2,hn,h3⟩:=hob;exact ⟨b',vs',t',h1,hl,h2,by simpa using hn,h3.map (TC.freeze k α ec c xs) fun _ _=>TC.rep_freeze hlist⟩
   | arr=>exact hob
   | spare=>exact hob
   | grow=>exact hob
   | map=>exact hob
   | growA e' α' ec' c' xs' p ts=>obtain ⟨vs,h1,h2,h3,h4,h5,h6⟩:=hob;exact ⟨vs,h1,h2,h3,by simpa using h4,h5,h6.map (TC.freeze k α ec c xs) fun _ _=>TC.rep_freeze hlist⟩
   | growT e' n' ec' ts=>obtain ⟨vs,h1,h2,h3,h4⟩:=hob;exact ⟨vs,h1,h2,by simpa using h3,h4.map (TC.freeze k α ec c xs) fun _ _=>TC.rep_freeze hlist⟩
  facts:=fun i s hi=>by
   rw [B70] at hi
   cases hg':E6 fr i with
   | none=>simp [hg'] at hi
   | some s0 =>
    simp [hg'] at hi;subst hi
    exact SV.rep_freeze hlist (SV.rep_mono hrd (hd.facts i s0 hg')) }
theorem Sees.freezeG {k:Nat} {α:Type} {ec:Nat} {c:α→Nat→Cell} {xs:List α} {e:TypeId} (hk:B4 ob k=some (.grow e α ec c xs)) (hec:Nat.blt 0 ec=true) :
  Sees P nt fr ob (J44 (SV.freeze k α ec c xs) fr) (J38 (Ob.freeze k α ec c xs) (Obs.drop k ob)):=fun S G a w hn h=>⟨G,h.freezeG hk (by simpa using hec)⟩
end
end Go.AL
namespace Go.AL
open Go Go.RowKit
set_option linter.unusedVariables false
section
variable {P:Program} {nt:Nat} {fr:Fr} {ob:Obs}
theorem Sees.fewer {ob':Obs} (ho:∀k o,B4 ob' k=some o→B4 ob k=some o):Sees P nt fr ob fr ob':=fun S G a w hn hs=>⟨G,hs.weakenO ho⟩
theorem J41 (k:Nat) (α:Type) (ec:Nat) (c:α→Nat→Cell) (e:TypeId) {kb o:Nat} {ts:List TC} (hb:B4 ob kb=some (.box ts)) (hts:ts[o]?=some (.p (.v (.slice none 0 0)))) (hf:(J6 k fr&&K0 k ob)=true) :
  Sees P nt fr ob fr ((kb,.box (ts.set o (.mut k)))::(k,.grow e α ec c [])::ob):=by
 simp only [J61] at hf
 obtain ⟨h1,h2⟩:=hf
 obtain ⟨h4,h5,hp⟩:=H3 h2
 intro S G a w hn h
 have h6:=h.new hp (o:=.grow e α ec c []) (u:=.slice none 0 0) (w1:=w) h5 (Below.refl _ _) (fun b hb=>by simp [blk] at hb) ⟨[],World.ownsRow_nil w _ _ _,by simp,fun i hi=>absurd hi (by simp)⟩
 rw [V9 h1,h4] at h6
 have hkb:k≠kb:=fun he=>by rw [he,hb] at h5;cases h5
 have hb':B4 ((k,Ob.grow e α ec c [])::ob) kb=some (.box ts):=by rw [B9 hkb];exact hb
 obtain ⟨b,vs,t,hg,hh,ha⟩:=h6.obs kb _ hb'
 have hbk:blk (upd G k (.slice none 0 0) kb)=some b:=by rw [hg];rfl
 refine ⟨_,h6.retell hb' hbk (fun i=>⟨hbk,trivial⟩) (fun i=>⟨hbk,trivial⟩) ?_⟩
 rintro rd ⟨b',vs',t',hg',hh',ha'⟩
 refine ⟨b',vs',t',hg',hh',J45 o (fun z hz=>?_) ha'⟩
 obtain ⟨z',hz1,hz2⟩:=ha'.get o _ hts
 rw [hz] at hz1;cases hz1
 rw [hz2.1]
 exact ⟨(I3 _ _ _).symm,rfl⟩
end
end Go.AL
namespace Go.AL
open Go Go.RowKit
set_option linter.unusedVariables false
section
variable {P:Program} {nt:Nat} {fr:Fr} {ob:Obs} {dst:Option Tmp} {ty:TypeId} {pos:String} {af:Array Edge} {gd:Option (Nat × Bool)}
end
end Go.AL
namespace Go.AL
open Go Go.RowKit
set_option linter.unusedVariables false
section
variable {P:Program} {fr:Fr} {ob:Obs}
end
end Go.AL
namespace Go.AL
open Go Go.RowKit
set_option linter.unusedVariables false
section
variable {P:Program} {nt:Nat} {fr:Fr} {ob:Obs} {dst:Option Tmp} {ty:TypeId} {pos:String} {af:Array Edge} {gd:Option (Nat × Bool)}
end
end Go.AL
namespace Go.AL
open Go Go.RowKit
set_option linter.unusedVariables false
def TC.refs:TC→List Nat
 | .buf k _ _ _ _=>[k]
 | .ref k _=>[k]
 | .mut k=>[k]
 | .mref k _ _ _=>[k]
 | .msl k _ _ _=>[k]
 | .clo _ nf nc=>nf.map (·.1)++nc.map (·.1)
 | .ifc _ k _=>[k]
 | _=>[]
def S1.refs:S1→List Nat
 | .one t=>t.refs
 | .agg ts=>ts.flatMap TC.refs
def SV.refs:SV→List Nat
 | .s x=>x.refs
 | .tup l=>l.flatMap S1.refs
 | _=>[]
def Ob.refs:Ob→List Nat
 | .box ts=>ts.flatMap TC.refs
 | .tbx _ ts=>ts.flatMap TC.refs
 | .tarr _ _ ts=>ts.flatMap TC.refs
 | .growA _ _ _ _ _ _ ts=>ts.flatMap TC.refs
 | .growT _ _ _ ts=>ts.flatMap TC.refs
 | _=>[]
def F65:Fr→List Nat
 | []=>[]
 | (_,s)::r=>s.refs++F65 r
def E15:Obs→List Nat
 | []=>[]
 | (_,o)::r=>o.refs++E15 r
theorem B42 {G G':Gh}:∀{l:List (Nat × Nat)} {us:List Value},(∀k∈l.map (·.1),G' k=G k)→All2 (D30 G) l us→All2 (D30 G') l us
 | [],[],_,_=>trivial
 | [],_::_,_,h=>h.elim
 | _::_,[],_,h=>h.elim
 | p::l,u::us,hk,h=>by
  obtain ⟨⟨b,h1,h2⟩,h3⟩:=h
  exact ⟨⟨b,by rw [hk p.1 (by simp)];exact h1,h2⟩,B42 (fun k hm=>hk k (by simp at hm ⊢;exact .inr hm)) h3⟩
theorem TC.rep_congr {rd:Rd} {G G':Gh}:∀{t:TC} {u:Value},(∀k∈t.refs,G' k=G k)→t.rep rd G u→t.rep rd G' u
 | .p _,_,_,h=>h
 | .eref _ _ _ _ _,_,_,h=>h
 | .any,_,_,h=>h
 | .full _ _ _ _,_,_,h=>h
 | .ifc _ k _,_,hk,h=>by simp only [TC.rep];rw [hk k (by simp [TC.refs])];exact h
 | .fnc _ _,_,_,h=>h
 | .fncE _ _ _ _ _,_,_,h=>h
 | .buf k _ _ _ _,_,hk,h=>⟨by rw [hk k (by simp [TC.refs])];exact h.1,h.2⟩
 | .ref k _,_,hk,h=>by simp only [TC.rep];rw [hk k (by simp [TC.refs])];exact h
 | .mut k,_,hk,h=>by simp only [TC.rep];rw [hk k (by simp [TC.refs])];exact h
 | .mref k _ _ _,_,hk,h=>by simp only [TC.rep];rw [hk k (by simp [TC.refs])];exact h
 | .msl k _ _ _,_,hk,h=>by simp only [TC.rep];rw [hk k (by simp [TC.refs])];exact h
 | .clo _ nf nc,_,hk,⟨vs,ws,h1,h2,h3⟩=>⟨vs,ws,h1,B42 (fun k hm=>hk k (by simp only [TC.refs,J84];exact .inl hm)) h2,B42 (fun k hm=>hk k (by simp only [TC.refs,J84];exact .inr hm)) h3⟩
theorem Z9 {rd:Rd} {G G':Gh}:∀{ts:List TC} {vs:List Value},(∀k∈ts.flatMap TC.refs,G' k=G k)→All2 (TC.rep rd G) ts vs→All2 (TC.rep rd G') ts vs
 | [],[],_,_=>trivial
 | [],_::_,_,h=>h.elim
 | _::_,[],_,h=>h.elim
 | t::ts,v::vs,hs,h=>⟨TC.rep_congr (fun k hm=>hs k (by rw [List.flatMap_cons];exact List.mem_append.2 (.inl hm))) h.1,Z9 (fun k hm=>hs k (by rw [List.flatMap_cons];exact List.mem_append.2 (.inr hm))) h.2⟩
theorem S1.rep_congr {rd:Rd} {G G':Gh}:∀{t:S1} {u:Value},(∀k∈t.refs,G' k=G k)→t.rep rd G u→t.rep rd G' u
 | .one t,u,hs,h=>TC.rep_congr (t:=t) hs h
 | .agg ts,u,hs,⟨vs,h1,h2⟩=>⟨vs,h1,Z9 hs h2⟩
theorem D35 {rd:Rd} {G G':Gh}:∀{ts:List S1} {vs:List Value},(∀k∈ts.flatMap S1.refs,G' k=G k)→All2 (S1.rep rd G) ts vs→All2 (S1.rep rd G') ts vs
 | [],[],_,_=>trivial
 | [],_::_,_,h=>h.elim
 | _::_,[],_,h=>h.elim
 | t::ts,v::vs,hs,h=>⟨S1.rep_congr (fun k hm=>hs k (by rw [List.flatMap_cons];exact List.mem_append.2 (.inl hm))) h.1,D35 (fun k hm=>hs k (by rw [List.flatMap_cons];exact List.mem_append.2 (.inr hm))) h.2⟩
theorem SV.rep_congr {rd:Rd} {G G':Gh}:∀{t:SV} {u:Value},(∀k∈t.refs,G' k=G k)→t.rep rd G u→t.rep rd G' u
 | .s t,u,hs,h=>S1.rep_congr (t:=t) hs h
 | .tup ts,u,hs,⟨vs,h1,h2⟩=>⟨vs,h1,D35 hs h2⟩
 | .any,_,_,_=>trivial
 | .un,_,_,h=>h
theorem ObOk.congr {S:Ctx} {rd:Rd} {G G':Gh} {w:World} {u:Value} {o:Ob} (hs:∀k∈o.refs,G' k=G k) (h:ObOk S rd G w u o):ObOk S rd G' w u o:=by
 cases o with
 | box ts=>obtain ⟨b,vs,t,h1,h2,h3⟩:=h;exact ⟨b,vs,t,h1,h2,Z9 hs h3⟩
 | tbx e ts=>obtain ⟨b,vs,h1,h2,h3⟩:=h;exact ⟨b,vs,h1,h2,Z9 hs h3⟩
 | tarr n ec ts=>obtain ⟨b,vs,t,h1,h2,h3,h4,h5⟩:=h;exact ⟨b,vs,t,h1,h2,h3,h4,Z9 hs h5⟩
 | growA e α ec c xs p ts=>obtain ⟨vs,h1,h2,h3,h4,h5,h6⟩:=h;exact ⟨vs,h1,h2,h3,h4,h5,Z9 hs h6⟩
 | growT e n ec ts=>obtain ⟨vs,h1,h2,h3,h4⟩:=h;exact ⟨vs,h1,h2,h3,Z9 hs h4⟩
 | arr α ec c xs=>exact h
 | map κ kf kvs=>exact h
 | spare n ec e=>exact h
 | grow e α ec c xs=>exact h
theorem E16:∀{fr:Fr} {i:Nat} {s:SV},E6 fr i=some s→∀k∈s.refs,k∈F65 fr
 | [],i,s,h,_,_=>by cases h
 | (j,x)::r,i,s,h,k,hm=>by
  unfold E6 at h
  unfold F65
  cases hb:Nat.beq j i
  ·rw [hb] at h;exact List.mem_append.2 (.inr (E16 h k hm))
  ·rw [hb] at h;cases h;exact List.mem_append.2 (.inl hm)
theorem C16:∀{ob:Obs} {i:Nat} {o:Ob},B4 ob i=some o→∀k∈o.refs,k∈E15 ob
 | [],i,s,h,_,_=>by cases h
 | (j,x)::r,i,s,h,k,hm=>by
  unfold B4 at h
  unfold E15
  cases hb:Nat.beq j i
  ·rw [hb] at h;exact List.mem_append.2 (.inr (C16 h k hm))
  ·rw [hb] at h;cases h;exact List.mem_append.2 (.inl hm)
theorem F13:∀{a b:Obs} {k:Nat},B4 (a++b) k=match B4 a k with | some o=>some o | none=>B4 b k
 | [],b,k=>rfl
 | (j,x)::r,b,k=>by
  show (bif Nat.beq j k then some x else B4 (r++b) k)=(match (bif Nat.beq j k then some x else B4 r k) with | some o=>some o | none=>B4 b k)
  cases Nat.beq j k
  ·exact F13 (a:=r)
  ·rfl
def newOk (rs:List S1) (ob':Obs) (fr:Fr) (ob:Obs):Bool :=
 (rs.flatMap S1.refs++E15 ob').all (fun k=>(B4 ob' k).isSome)&&(F65 fr++E15 ob).all (fun k=>(B4 ob' k).isNone)&&ob.all (fun p=>(B4 ob' p.1).isNone)
theorem G27:∀{ob:Obs} {k:Nat} {o:Ob},B4 ob k=some o→∃p∈ob,p.1=k
 | [],k,o,h=>by cases h
 | (j,x)::r,k,o,h=>by
  unfold B4 at h
  cases hb:Nat.beq j k
  ·rw [hb] at h;obtain ⟨p,h1,h2⟩:=G27 h;exact ⟨p,List.mem_cons_of_mem _ h1,h2⟩
  ·exact ⟨_,List.mem_cons_self,by simpa using hb⟩
theorem A35 {w:World} {B B':Nat} {e:TypeId} {ec n:Nat} {v:Value} {xs:List Value} (hB:B≤B') (h:w.ownsRow B' e ec v n xs):w.ownsRow B e ec v n xs :=
 ⟨h.1,h.2.imp id fun ⟨b,cap,cur,hg,hb,r⟩=>⟨b,cap,cur,hg,Nat.le_trans hB hb,r⟩⟩
theorem ObOk.low {S S':Ctx} {rd:Rd} {G:Gh} {w:World} {u:Value} {o:Ob} (hB:S.B≤S'.B) (h:ObOk S' rd G w u o):ObOk S rd G w u o:=by
 cases o with
 | box ts=>exact h
 | tbx e ts=>exact h
 | tarr n ec ts=>exact h
 | arr α ec c xs=>exact h
 | map κ kf kvs=>exact h
 | spare n ec e=>obtain ⟨vs,h1⟩:=h;exact ⟨vs,A35 hB h1⟩
 | grow e α ec c xs=>obtain ⟨vs,h1,h2⟩:=h;exact ⟨vs,A35 hB h1,h2⟩
 | growA e α ec c xs p ts=>obtain ⟨vs,h1,h2⟩:=h;exact ⟨vs,A35 hB h1,h2⟩
 | growT e n ec ts=>obtain ⟨vs,h1,h2⟩:=h;exact ⟨vs,A35 hB h1,h2⟩
section
variable {P:Program} {nt:Nat} {ops:Array Oper} {rest:List Oper} {fr:Fr} {ob:Obs} {Q:Post} {d:Nat}
theorem A77 {f:FuncId} {xs:List Operand} {ats:Array TypeId} {ty:TypeId} {pos:String} {af:Array Edge} {args:List S1} {ks:List Nat} {post:List S1→Obs→Prop}
  (hf:Met P f args [] [] ks post) (ha:A05 fr xs=some args) (hc:xs.all H8=true) (hst:(args.flatMap S1.refs).isEmpty=true) (hd:Nat.blt d nt=true)
  (kk:∀rs ob',post rs ob'→newOk rs ob' fr ob=true∧WpL P nt ops rest ((d,D77 rs)::fr) (ob'++ob) Q):WpL P nt ops (⟨some d,.call ⟨.value (.func f),xs.toArray,ats⟩,ty,pos,af,none⟩::rest) fr ob Q:=by
 intro S G a w hn h
 have hvals:=c8 h xs args ha hc
 let S':Ctx:={ S with w0:=w,M0:=fun b i=>Mut S ob G b i,io:=fun _=>False }
 have hSB:S'.B=w.heap.size:=rfl
 have hhigh:High ([]:Fr):=fun i s hi=>by cases hi
 have hgrd:Grd P (fun _=>False) w:=by
  obtain ⟨wg,h1,h2,h3⟩:=h.grd
  refine ⟨wg,h1,Nat.le_trans h2 h.size,fun j hj=>?_⟩
  obtain ⟨h4,h5⟩:=h3 j hj
  exact ⟨(h.keep j (Nat.lt_of_lt_of_le hj h2) h5).trans h4,fun e=>e⟩
 have hs:Sim P S' [] [] G a w:={ nt:=h.nt,ntb:=h.ntb,defers:=h.defers,os:=rfl,tape:=rfl,output:=rfl,size:=Nat.le_refl _,keep:=fun _ _ _=>rfl,m0:=fun b i hm=>h.mut_lt hm,m0io:=fun _ _ _ e=>e,grd:=hgrd,pin:=h.pin,old:=fun _ _ _ e=>(by cases e),dis:=fun _ _ _ _ _ e=>(by cases e),obs:=fun _ _ e=>(by cases e),facts:=fun _ _ e=>(by cases e) }
 have hrd0:∀b i z,E8 (Mut S ob G) w b i z→E8 (Mut S' [] G) w b i z:=fun b i z hr=>⟨hr.1,fun hm=>hr.2 (by
  rcases hm with hm | ⟨k,o,hk,_⟩
  ·exact hm
  ·cases hk)⟩
 have hcalls:=hf.2 hhigh S' G a w _ hs (hvals.mono fun _ _=>S1.rep_mono hrd0)
 refine wpList_plain rfl fun K hK=>L0 (K:=fun v w'=>∃rs ob' G',post rs ob'∧o8 (E8 (Mut S' ob' G') w') G' rs v∧Sim P S' (C1 ks []) ob' G' a w') ?_ ?_
 ·have he:(execOp a.eval ⟨some d,.call ⟨.value (.func f),xs.toArray,ats⟩,ty,pos,af,none⟩).run P w=.ok (.enter f (xs.map a.eval).toArray) w:=by
   have:=N5 (P:=P) (f:=f) (args:=(xs.map a.eval).toArray) (w:=w) hf.1
   have hm:xs.toArray.map a.eval=(xs.map a.eval).toArray:=by simp
   simp only [execOp,resolve,Act.eval,Deferred.ofValue,Sem.run_bind,Sem.run_pure,Result.andThen_ok,invoke]
   rw [show (#[]:Array Value)++Array.map a.eval xs.toArray++#[]=(xs.map a.eval).toArray by rw [←hm];simp]
   exact this
  unfold Does
  rw [he]
  refine hcalls.mono ?_
  rintro e w' ⟨v,rs,ob',G',rfl,hpost,hres,hs'⟩
  exact ⟨v,rfl,rs,ob',G',hpost,hres,hs'⟩
 ·rintro v w' ⟨rs,ob',G',hp,hres,hs'⟩
  obtain ⟨hnew,hk3⟩:=kk rs ob' hp
  simp only [newOk,J61,List.all_eq_true,J84] at hnew
  obtain ⟨⟨n1,n2⟩,n3⟩:=hnew
  have hdj:∀{k o},B4 ob k=some o→B4 ob' k=none:=fun {k o} hk=>by
   obtain ⟨p,p1,p2⟩:=G27 hk
   have:=n3 p p1
   rw [p2] at this;simpa using this
  obtain ⟨H,hH⟩:∃H:Gh,H=fun k=>match B4 ob' k with | some _=>G' k | none=>G k:=⟨_,rfl⟩
  have hH1:∀{k},(B4 ob' k).isSome=true→H k=G' k:=fun {k} hk=>by
   rw [hH];dsimp only
   cases hg:B4 ob' k with
   | none=>rw [hg] at hk;cases hk
   | some o=>rfl
  have hH2:∀{k},(B4 ob' k).isNone=true→H k=G k:=fun {k} hk=>by
   rw [hH];dsimp only
   cases hg:B4 ob' k with
   | none=>rfl
   | some o=>rw [hg] at hk;cases hk
  have hlt:d < S.nt:=by rw [hn];simpa using hd
  have hsz:w.heap.size≤w'.heap.size:=hs'.size
  have hkeep:∀k,k < w.heap.size→w'.heap[k]?=w.heap[k]?:=fun k hk=>hs'.keep k hk (fun e=>e)
  have hold:∀k o b,B4 ob' k=some o→blk (G' k)=some b→w.heap.size≤b:=fun k o b h1 h2=>by
   rcases hs'.old k o b h1 h2 with h3 | h3
   ·exact h3
   ·exact h3.1.elim
  have hcase:∀{k o},B4 (ob'++ob) k=some o→(B4 ob' k=some o∧H k=G' k)∨(B4 ob k=some o∧H k=G k):=fun {k o} hk=>by
   rw [F13] at hk
   cases hg:B4 ob' k with
   | some o'=>rw [hg] at hk;exact .inl ⟨hk,hH1 (by rw [hg];rfl)⟩
   | none=>rw [hg] at hk;exact .inr ⟨hk,hH2 (by rw [hg];rfl)⟩
  have hrd1:∀b i z,E8 (Mut S' ob' G') w' b i z→E8 (Mut S (ob'++ob) H) w' b i z:=fun b i z hr=>⟨hr.1,fun hm=>hr.2 (by
   rcases hm with hm | ⟨k,o,hk,hb⟩
   ·exact .inl (.inl hm)
   ·rcases hcase hk with ⟨k1,e⟩ | ⟨k1,e⟩
    ·rw [e] at hb;exact .inr ⟨k,o,k1,hb⟩
    ·rw [e] at hb;exact .inl (.inr ⟨k,o,k1,hb⟩))⟩
  have hrd2:∀b i z,E8 (Mut S ob G) w b i z→E8 (Mut S (ob'++ob) H) w' b i z:=fun b i z hr=>by
   have hlt:b < w.heap.size:=World.block_lt_of_cell? w _ hr.1
   refine ⟨by rw [World.cell?_of_block (w:=w) (a:=⟨b,i,none⟩) (hkeep b hlt)];exact hr.1,fun hm=>?_⟩
   rcases hm with hm | ⟨k,o,hk,hb⟩
   ·exact hr.2 (.inl hm)
   ·rcases hcase hk with ⟨k1,e⟩ | ⟨k1,e⟩
    ·rw [e] at hb;have:=hold k o b k1 hb.1;omega
    ·rw [e] at hb;exact hr.2 (.inr ⟨k,o,k1,hb⟩)
  have hbelow:Below w.heap.size w w':=⟨hs'.os,hs'.tape,hs'.output,hsz,fun k hk=>hkeep k hk⟩
  have hsim:Sim P S fr (ob'++ob) H a w':=by
   refine { nt:=h.nt,ntb:=h.ntb,defers:=h.defers,os:=hs'.os.trans h.os,tape:=hs'.tape.trans h.tape,output:=hs'.output.trans h.output,size:=Nat.le_trans h.size hsz,keep:=fun k hk hio=>(hkeep k (Nat.lt_of_lt_of_le hk h.size)).trans (h.keep k hk hio),m0:=h.m0,m0io:=h.m0io,grd:=h.grd,pin:=fun k hk=>?_,old:=fun k o b h1 h2=>?_,dis:=fun k k' o o' b h1 h2 h3 h4=>?_,obs:=fun k o hk=>?_,facts:=fun i s hi=>?_ }
   ·cases hg:B4 ob' k with
    | some o=>rw [hH1 (by rw [hg];rfl)];exact hs'.pin k hk
    | none=>rw [hH2 (by rw [hg];rfl)];exact h.pin k hk
   ·rcases hcase h1 with ⟨k1,e⟩ | ⟨k1,e⟩
    ·rw [e] at h2;exact .inl (Nat.le_trans h.size (hold k o b k1 h2))
    ·rw [e] at h2;exact h.old k o b k1 h2
   ·rcases hcase h1 with ⟨k1,e1⟩ | ⟨k1,e1⟩<;>rcases hcase h2 with ⟨k2,e2⟩ | ⟨k2,e2⟩<;>rw [e1] at h3<;>rw [e2] at h4
    ·exact hs'.dis k k' o o' b k1 k2 h3 h4
    ·have:=hold k o b k1 h3
     have:=(h.obs k' o' k2).blk_lt _ h4
     omega
    ·have:=hold k' o' b k2 h4
     have:=(h.obs k o k1).blk_lt _ h3
     omega
    ·exact h.dis k k' o o' b k1 k2 h3 h4
   ·rcases hcase hk with ⟨k1,e⟩ | ⟨k1,e⟩
    ·rw [e]
     exact (((hs'.obs k o k1).low (S:=S) (by rw [hSB];exact h.size)).ext hrd1 (Below.refl _ _)).congr fun j hj=>hH1 (n1 j (.inr (C16 k1 j hj)))
    ·rw [e]
     exact ((h.obs k o k1).ext hrd2 hbelow).congr fun j hj=>hH2 (n2 j (.inr (C16 k1 j hj)))
   ·exact SV.rep_congr (fun j hj=>hH2 (n2 j (.inl (E16 hi j hj)))) (SV.rep_mono hrd2 (h.facts i s hi))
  have hres':(D77 rs).rep (E8 (Mut S (ob'++ob) H) w') H v:=by
   refine SV.rep_congr (fun j hj=>hH1 (n1 j (.inl ?_))) (SV.rep_mono hrd1 hres)
   revert hj
   match rs with
   | []=>intro hj;cases hj
   | [r]=>intro hj;simpa [D77,SV.refs] using hj
   | r::r2::rest=>intro hj;exact hj
  exact hK _ _ (hk3 S H _ w' hn (hsim.put hlt hres'))
end
end Go.AL
namespace Go.AL
open Go Go.RowKit
set_option linter.unusedVariables false
section
variable {P:Program} {dst:Option Tmp} {ty:TypeId} {pos:String} {af:Array Edge} {gd:Option (Nat × Bool)} {fr:Fr} {ob:Obs}
end
end Go.AL
namespace Go.AL
open Go Go.RowKit
set_option linter.unusedVariables false
section
variable {P:Program} {nt:Nat} {ops:Array Oper} {rest:List Oper} {fr:Fr} {ob:Obs} {Q:Post} {d:Nat}
theorem I99 {f:FuncId} {args:Array Operand} {ats:Array TypeId} {ty:TypeId} {pos:String} {af:Array Edge} {ps:List PV} {post:List PV→Prop} {fr2:Fr} {ob2:Obs} (hs:Sees P nt fr ob fr2 ob2)
  (hf:FnOk P f ps post) (ha:A01 fr2 args.toList=some ps) (hc:args.toList.all H8=true) (hd:Nat.blt d nt=true)
  (k:∀rs,post rs→(∀(rd rd':Rd) v,ResRep rd rs v→ResRep rd' rs v)∧WpL P nt ops rest ((d,C44 rs)::fr) ob Q):WpL P nt ops (⟨some d,.call ⟨.value (.func f),args,ats⟩,ty,pos,af,none⟩::rest) fr ob Q:=by
 intro S G a w hn h
 obtain ⟨G',h'⟩:=hs S G a w hn h
 have hrep:=l8 h' args.toList ps ha hc
 have hcall:=hf.2 w (Mut S ob2 G') (args.toList.map a.eval) h.grdW (fun b i hm=>h'.mut_lt hm) hrep
 have hargs:(args.toList.map a.eval).toArray=args.map a.eval:=by rw [←Array.toList_map,Array.toArray_toList]
 refine wpList_plain rfl fun K hK=>L0 (K:=fun v w'=>∃rs,post rs∧ResRep (E8 (Mut S ob2 G') w') rs v∧Below w.heap.size w w') ?_ ?_
 ·have he:(execOp a.eval ⟨some d,.call ⟨.value (.func f),args,ats⟩,ty,pos,af,none⟩).run P w=.ok (.enter f (args.map a.eval)) w:=by
   simp only [execOp,resolve,Act.eval,Deferred.ofValue,Sem.run_bind,Sem.run_pure,Result.andThen_ok,invoke]
   rw [show (#[]:Array Value)++Array.map a.eval args++#[]=args.map a.eval by simp]
   exact N5 hf.1
  unfold Does
  rw [he]
  rw [hargs] at hcall
  refine hcall.mono ?_
  rintro e w' ⟨v,rs,rfl,hp,hr,hb⟩
  exact ⟨v,rfl,rs,hp,hr,hb⟩
 ·rintro v w' ⟨rs,hp,hr,hb⟩
  obtain ⟨k1,k2⟩:=k rs hp
  have hlt:d < S.nt:=by rw [hn];simpa using hd
  exact hK _ _ (k2 S G _ w' hn ((h.ext hb).put hlt (ResRep.sv (k1 _ _ _ hr))))
end
end Go.AL
namespace Go.AL
open Go Go.RowKit
set_option linter.unusedVariables false
section
variable {P:Program} {nt:Nat} {ops:Array Oper}
def StepG (P:Program) (nt:Nat) (ops:Array Oper) (o:Oper) (φ:Fa) (ob:Obs) (K:Fa→Obs→Prop):Prop :=
 Wanted ops φ o true∧∀S G a w,S.nt=nt→SimF P S φ ob G a w→Does P o a w (fun v w'=>∃φ' ob' G',K φ' ob'∧SimF P S φ' ob' G' (a.put o.dst v) w')
def StepTG (P:Program) (nt:Nat) (ops:Array Oper) (T i:Nat) (φ:Fa) (ob:Obs) (K:Fa→Obs→Prop):Prop :=
 ∃o,ops[i]?=some o∧cond (tn T i o) (StepG P nt ops o φ ob K) (∃s d,o.dst=some d∧YieldsN P nt ops o φ ob s∧K (d9 φ d s) ob)
def B23 (P:Program) (nt:Nat) (ops:Array Oper) (T:Nat) (K:Fa→Obs→Prop):Nat→Array Bool→Fa→Obs→Prop
 | 0,listed,φ,ob=>Region.ready .any ops listed=[]∧K φ ob
 | fuel+1,listed,φ,ob=>(Region.ready .any ops listed=[]→K φ ob)∧∀i∈Region.ready .any ops listed,StepTG P nt ops T i φ ob (B23 P nt ops T K fuel (listed.setIfInBounds i true))
theorem A36 {T:Nat} {K:Fa→Obs→Prop} {S:Ctx} {Q:Exit→Act→World→Prop} (hn:S.nt=nt) (hdst:∀(j t:Nat),(ops[j]?).bind (fun o=>o.dst)=some t→t < nt) (hK:∀φ ob G a w,K φ ob→SimF P S φ ob G a w→Q .normal a w) :
  ∀(fuel:Nat) (listed:Array Bool) (φ:Fa) (ob:Obs) (G:Gh) (a:Act) (w:World),B23 P nt ops T K fuel listed φ ob→SimF P S φ ob G a w→wpAny P .any ops Q fuel listed a w
 | 0,_,φ,ob,G,a,w,h,hs=>⟨h.1,hK φ ob G a w h.2 hs⟩
 | fuel+1,listed,φ,ob,G,a,w,h,hs=>by
  refine ⟨fun h0=>hK φ ob G a w (h.1 h0) hs,fun i hi=>?_⟩
  obtain ⟨o,ho,hstep⟩:=h.2 i hi
  unfold wpOp
  simp only [ho]
  cases ht:tn T i o with
  | true =>
   rw [ht] at hstep
   obtain ⟨hg,hstep⟩:=hstep
   rw [if_pos (m3 hn hs hg hdst)]
   refine .inl (L0 (hstep S G a w hn hs) ?_)
   rintro v w' ⟨φ',ob',G',hK',hs'⟩
   exact A36 hn hdst hK fuel _ φ' ob' G' _ w' hK' hs'
  | false =>
   rw [ht] at hstep
   obtain ⟨s,d,hd,⟨d',hd',hlt,hy⟩,hK'⟩:=hstep
   rw [hd] at hd';cases hd'
   rcases hy with ⟨hw,fr0,hfr,hneu⟩ | ⟨hw,rfl⟩
   ·rw [m3 hn hs hw hdst,if_pos rfl]
    refine .inl (L0 (hneu S G a w (hs.sub fun i s hi=>(hfr i s hi).1)) ?_)
    rintro v w' ⟨hx,s',rfl,hv⟩
    rw [hd]
    exact A36 hn hdst hK fuel _ _ ob G _ w' hK' ((hs.ext hx).put (by rw [hn];exact hlt) hv)
   ·rw [m3 hn hs hw hdst,if_neg (by simp),hd]
    exact A36 hn hdst hK fuel _ _ ob G _ w hK' (hs.put (by rw [hn];exact hlt) rfl)
theorem E17 {T:Nat} {K:Fa→Obs→Prop}:∀(fuel:Nat) (listed:Array Bool) (φ:Fa) (ob:Obs),listed.getD T false=true→D76 P nt ops K fuel listed φ ob→B23 P nt ops T K fuel listed φ ob
 | 0,_,_,_,_,h=>h
 | fuel+1,listed,φ,ob,hT,h=>by
  refine ⟨h.1,fun i hi=>?_⟩
  obtain ⟨o,ho,hstep⟩:=h.2 i hi
  have hiT:i≠T:=fun e=>by subst e;have:=T6 hi;rw [hT] at this;cases this
  have hnext:(listed.setIfInBounds i true).getD T false=true:=by
   simp only [Array.getD_eq_getD_getElem?] at hT ⊢
   rwa [Array.getElem?_setIfInBounds_ne hiT]
  refine ⟨o,ho,?_⟩
  have ht:tn T i o=turns o.op:=by unfold tn;rw [T4 hiT];rfl
  rw [ht]
  cases htn:turns o.op with
  | true =>
   rw [htn] at hstep
   refine ⟨by unfold Wanted;rw [hstep.1],fun S G a w hn hs=>?_⟩
   have hd:=hstep.2 S G a w hn hs
   unfold Does at hd ⊢
   have imp:∀v w',(∃φ' ob' G',D76 P nt ops K fuel (listed.setIfInBounds i true) φ' ob'∧SimF P S φ' ob' G' (a.put o.dst v) w')→(∃φ' ob' G',B23 P nt ops T K fuel (listed.setIfInBounds i true) φ' ob'∧SimF P S φ' ob' G' (a.put o.dst v) w'):=by
    rintro v w' ⟨φ',ob',G',hA,hs'⟩
    exact ⟨_,ob',G',E17 fuel _ _ _ hnext hA,hs'⟩
   generalize (execOp a.eval o).run P w=r at *
   cases r with
   | ok n w' =>
    cases n<;>simp only at hd ⊢<;>try exact hd.elim
    case value v=>exact imp _ _ hd
    case skip=>exact imp _ _ hd
    case enter f args=>exact hd.mono fun e w'' ⟨v,he,hv⟩=>⟨v,he,imp _ _ hv⟩
   | halt x w'=>exact hd
  | false =>
   rw [htn] at hstep
   obtain ⟨s,d,hd,hy,HK⟩:=hstep
   exact ⟨s,d,hd,hy,E17 fuel _ _ _ hnext HK⟩
theorem G28 {T:Nat} {K:Fa→Obs→Prop} {i d:Nat} {oi:Oper} {s:SV} (hi:ops[i]?=some oi) (hti:tn T i oi=false) (hdi:oi.dst=some d) :
  ∀(fuel:Nat) (listed:Array Bool) (φ:Fa) (ob:Obs),Closed ops listed →
   (∀j oj,ops[j]?=some oj→j≠i→listed.getD j true=false→tn T j oj=true→Bef ops j i=true) →
   (∀j oj,ops[j]?=some oj→j≠i→listed.getD j true=false→tn T j oj=false→(∃e∈oj.after.toList,Region.binds .any e=true∧e.on=i)∨f0 ops oi oj=true) →
   i∈Region.ready .any ops listed→YieldsN P nt ops oi φ ob s →
   B23 P nt ops T K fuel (listed.setIfInBounds i true) (d9 φ d s) ob→B23 P nt ops T K (fuel+1) listed φ ob:=by
 have hself:∀(fuel:Nat) (listed:Array Bool) (φ:Fa) (ob:Obs),YieldsN P nt ops oi φ ob s→B23 P nt ops T K fuel (listed.setIfInBounds i true) (d9 φ d s) ob→StepTG P nt ops T i φ ob (B23 P nt ops T K fuel (listed.setIfInBounds i true)):=by
  intro fuel listed φ ob hy H
  exact ⟨oi,hi,by rw [hti];exact ⟨s,d,hdi,hy,H⟩⟩
 intro fuel
 induction fuel with
 | zero =>
  intro listed φ ob hc hE hN hr hy H
  refine ⟨fun h=>(by rw [h] at hr;cases hr),fun j hj=>?_⟩
  by_cases hji:j=i
  ·subst hji;exact hself 0 listed φ ob hy H
  ·have:=ready_mono hj hji
   rw [H.1] at this
   cases this
 | succ fuel ih =>
  intro listed φ ob hc hE hN hr hy H
  refine ⟨fun h=>(by rw [h] at hr;cases hr),fun j hj=>?_⟩
  by_cases hji:j=i
  ·subst hji;exact hself (fuel+1) listed φ ob hy H
  ·obtain ⟨hjun,oj,hoj,hall⟩:=mem_ready.1 hj
   have hiun:=T6 hr
   cases htj:tn T j oj with
   | true =>
    have hb:=hE j oj hoj hji hjun htj
    have:=A02 hc j hb (fun o ho e he hbd=>by rw [hoj] at ho;cases ho;exact hall e (Array.mem_toList_iff.1 he) hbd)
    rw [hiun] at this;cases this
   | false =>
    have hap:f0 ops oi oj=true:=by
     rcases hN j oj hoj hji hjun htj with ⟨e,he,hbd,hon⟩ | h
     ·have:=hall e (Array.mem_toList_iff.1 he) hbd
      rw [hon] at this
      have h2:listed.getD i false=true:=this
      rw [hiun] at h2;cases h2
     ·exact h
    obtain ⟨o',ho',hstep⟩:=H.2 j (ready_mono hj hji)
    rw [hoj] at ho';cases ho'
    rw [htj] at hstep
    obtain ⟨sj,dj,hdj,hyj,HK⟩:=hstep
    simp only [f0,hdi,hdj,J61,Bool.not_eq_true',List.contains_eq_mem,decide_eq_false_iff_not] at hap
    obtain ⟨⟨h1,h2⟩,h3⟩:=hap
    have h3:d≠dj:=fun e=>by subst e;simp at h3
    refine ⟨oj,hoj,by
     rw [htj]
     refine ⟨sj,dj,hdj,hyj.unput h1,?_⟩
     refine ih (listed.setIfInBounds j true) _ ob (S8 hc hj) ?_ ?_ (ready_mono hr (Ne.symm hji)) (hy.put h2) ?_
     ·intro k ok hk hki hun htk
      refine hE k ok hk hki ?_ htk
      by_cases hjk:j=k
      ·subst hjk;exact hjun
      ·rwa [getD_set_ne true hjk] at hun
     ·intro k ok hk hki hun htk
      refine hN k ok hk hki ?_ htk
      by_cases hjk:j=k
      ·subst hjk;exact hjun
      ·rwa [getD_set_ne true hjk] at hun
     ·rw [Array.setIfInBounds_comm _ _ hji,←C98 h3]
      exact HK⟩
theorem F14 {T fuel:Nat} {K:Fa→Obs→Prop} {E:Fr→Obs→Prop}:∀(l:List Oper) (k:Nat) (listed:Array Bool) (fr:Fr) (ob:Obs),(∀j,j < l.length→l[j]?=ops[k+j]?)→Closed ops listed→D01 ops T l.length k listed=true →
  (∀fr ob,Closed ops (D34 l.length k listed)→E fr ob→B23 P nt ops T K fuel (D34 l.length k listed) (E6 fr) ob)→LexD P nt ops E l fr ob→B23 P nt ops T K (fuel+l.length) listed (E6 fr) ob
 | [],k,listed,fr,ob,hl,hc,hB,hE,h=>hE fr ob hc h
 | o::l,k,listed,fr,ob,hl,hc,hB,hE,h=>by
  have h0:ops[k]?=some o:=by simpa using (hl 0 (by simp)).symm
  simp only [J64,D01,h0,J61,Bool.not_eq_true'] at hB
  obtain ⟨⟨⟨hr,hnt⟩,hf⟩,hB'⟩:=hB
  have hr':k∈Region.ready .any ops listed:=by simpa using hr
  have hl':∀j,j < l.length→l[j]?=ops[k+1+j]?:=fun j hj=>by have:=hl (j+1) (by simpa using hj);simpa [Nat.add_assoc,Nat.add_comm 1 j] using this
  have ht:turns o.op=false:=by
   cases hto:turns o.op
   ·rfl
   ·simp [tn,hto] at hnt
  simp only [LexD] at h
  rw [ht] at h
  simp only [cond] at h
  obtain ⟨s,d,hd,hy,hL⟩:=h
  have hall:∀j oj,ops[j]?=some oj→j≠k→listed.getD j true=false→cond (tn T j oj) (Bef ops j k) (oj.after.toList.any (fun e=>Region.binds .any e&&Nat.beq e.on k)||f0 ops o oj)=true:=by
   intro j oj hoj hjk hun
   have hlt:j < ops.size:=(Array.getElem?_eq_some_iff.1 hoj).1
   have:=List.all_eq_true.1 hf j (List.mem_range.2 hlt)
   rw [T4 hjk,hun,hoj] at this
   simp only [Bool.false_or] at this
   exact this
  show B23 P nt ops T K (fuel+(l.length+1)) listed (E6 fr) ob
  rw [←Nat.add_assoc]
  refine G28 h0 hnt hd (fuel+l.length) listed _ ob hc ?_ ?_ hr' hy ?_
  ·intro j oj hoj hjk hun htj
   have:=hall j oj hoj hjk hun
   rw [htj] at this;exact this
  ·intro j oj hoj hjk hun htj
   have:=hall j oj hoj hjk hun
   rw [htj] at this
   simp only [cond,J81,List.any_eq_true,J61] at this
   rcases this with ⟨e,he,hb,hon⟩ | h
   ·exact .inl ⟨e,he,hb,Nat.eq_of_beq_eq_true hon⟩
   ·exact .inr h
  ·rw [←A03]
   exact F14 l (k+1) _ _ ob hl' (S8 hc hr') hB' hE hL
theorem E18 {id:Nat} {l:List Oper} (n:Nat) {oc:Oper} {fr:Fr} {ob:Obs} {Q:Post} (hm:P.follows .mixedOrders=true) (hB:F63 nt l n=true) (hc:l[n]?=some oc)
  (h:LexD P nt l.toArray (fun fr ob=>StepG P nt l.toArray oc (E6 fr) ob (fun φ' ob'=>∃fr',φ'=E6 fr'∧LexD P nt l.toArray (fun fr ob=>Q .normal fr ob) (l.drop (n+1)) fr' ob')) (l.take n) fr ob):WpC P nt (.region id l.toArray true) fr ob Q:=by
 intro S G a w hn hs
 unfold F63 at hB
 simp only [J61] at hB
 obtain ⟨⟨⟨⟨⟨⟨⟨b1,b2⟩,b3⟩,b4⟩,b5⟩,b6⟩,b13⟩,b14⟩:=hB
 have hlen:n+1≤l.length:=Nat.le_of_ble_eq_true b3
 have htl:(l.take n).length=n:=Nat.eq_of_beq_eq_true b4
 have hdst:∀(j t:Nat),(l.toArray[j]?).bind (fun o=>o.dst)=some t→t < nt:=by
  intro j t ht
  cases ho:l.toArray[j]? with
  | none=>simp [ho] at ht
  | some o =>
   simp [ho] at ht
   have hmem:o∈l:=by
    rw [List.getElem?_toArray] at ho
    exact J69 ho
   have:=List.all_eq_true.1 b2 o (by simpa using hmem)
   rw [ht] at this
   simpa using this
 refine wp_region_any hm ?_
 have hcl:Closed l.toArray (Array.replicate l.length false):=by
  intro j o ho hl
  simp only [Array.getD_eq_getD_getElem?] at hl
  rcases Nat.lt_or_ge j l.length with h' | h'
  ·simp [h'] at hl
  ·simp [h'] at hl
 have hoc:l.toArray[n]?=some oc:=by rw [List.getElem?_toArray];exact hc
 have htnc:tn n n oc=true:=by unfold tn;rw [Nat.beq_refl];rfl
 have key:B23 P nt l.toArray n (fun φ ob=>∃fr',φ=E6 fr'∧Q .normal fr' ob) ((l.drop (n+1)).length+1+(l.take n).length) (Array.replicate l.length false) (E6 fr) ob:=by
  refine F14 (l.take n) 0 _ fr ob (fun j hj=>?_) hcl (by rw [htl];exact b1) (fun fr ob hcl2 hE=>?_) h
  ·rw [Nat.zero_add,List.getElem?_toArray,J97 (by rw [htl] at hj;exact hj)]
  ·rw [htl] at hcl2 ⊢
   have r6:n∈Region.ready .any l.toArray (D34 n 0 (Array.replicate l.length false)):=by simpa using b6
   have hcl3:=S8 hcl2 r6
   refine ⟨fun he=>(by rw [he] at r6;cases r6),fun j hjr=>?_⟩
   have hjn:j=n:=Nat.eq_of_beq_eq_true (List.all_eq_true.1 b5 j hjr)
   subst hjn
   refine ⟨oc,hoc,?_⟩
   rw [htnc]
   refine ⟨hE.1,fun S G a w hn hs=>E04 (hE.2 S G a w hn hs) ?_⟩
   rintro v w' ⟨φ',ob',G',⟨fr',rfl,hL⟩,hs'⟩
   exact ⟨_,ob',G',E17 _ _ _ _ b13 (B36 (l.drop (j+1)) (j+1) _ fr' ob' (fun i=>by rw [J98,List.getElem?_toArray]) hcl3 b14 hL),hs'⟩
 have hx:Below w.heap.size w { w with drawn:=w.drawn+1 }:=⟨rfl,rfl,rfl,Nat.le_refl _,fun _ _=>rfl⟩
 have hs':SimF P S (E6 fr) ob G a { w with drawn:=w.drawn+1 }:=(simF_iff.2 hs).ext hx
 have:=A36 (Q:=PostOf P S Q) hn hdst (fun φ ob' G' a' w' ⟨fr',he,hq⟩ hsf=>⟨fr',ob',G',hq,.inl (simF_iff.1 (he ▸ hsf))⟩) _ _ _ ob G a _ key hs'
 have hfuel:(l.drop (n+1)).length+1+(l.take n).length=l.length:=by rw [J76,htl];omega
 rw [hfuel] at this
 simpa using this
theorem I41 {op:Op} {ty:TypeId} {pos:String} {af:Array Edge} {d j t:Nat} {b x:Bool} {fr:Fr} {ob:Obs} {K:Fa→Obs→Prop} (ht:(ops[j]?).bind (·.dst)=some t) (hx:E6 fr t=some (.s (.one (.p (.v (.bool x)))))) (hb:x=b)
  (h:E01 P nt ops ⟨some d,op,ty,pos,af,none⟩ (E6 fr) ob K):StepG P nt ops ⟨some d,op,ty,pos,af,some (j,b)⟩ (E6 fr) ob K :=
 ⟨⟨t,_,ht,hx,by have:=Wants.val (b:=b) x;rwa [show (x == b)=true by simp [hb]] at this⟩,h.2⟩
end
end Go.AL
namespace Go.AL
open Go Go.RowKit
set_option linter.unusedVariables false
section
variable {P:Program} {nt:Nat} {ops:Array Oper} {rest:List Oper} {fr:Fr} {ob:Obs} {K:Fr→Obs→Prop} {d:Nat}
theorem d_go {op:Op} {ty:TypeId} {pos:String} {af:Array Edge} {j t:Nat} {b x:Bool} (hj:(ops[j]?).bind (·.dst)=some t) (hx:E6 fr t=some (.s (.one (.p (.v (.bool x)))))) (hb:x=b) (ht:turns op=false)
  (k:LexD P nt ops K (⟨some d,op,ty,pos,af,none⟩::rest) fr ob):LexD P nt ops K (⟨some d,op,ty,pos,af,some (j,b)⟩::rest) fr ob:=by
 simp only [LexD,ht,cond] at k ⊢
 obtain ⟨s,e,he,⟨e',he',hlt,hy⟩,hL⟩:=k
 have hw:Wanted ops (E6 fr) (⟨some d,op,ty,pos,af,some (j,b)⟩:Oper) true:=⟨t,_,hj,hx,by have:=Wants.val (b:=b) x;rwa [show (x == b)=true by simp [hb]] at this⟩
 rcases hy with ⟨_,fr0,h1,h2⟩ | ⟨hw2,_⟩
 ·exact ⟨s,e,he,⟨e',he',hlt,.inl ⟨hw,fr0,fun i q hi=>⟨(h1 i q hi).1,List.mem_append.2 (.inr (by
   have:=(h1 i q hi).2
   unfold uses at this
   simpa [E00] using this))⟩,h2⟩⟩,hL⟩
 ·unfold Wanted at hw2;cases hw2
end
end Go.AL
namespace Go.AL
open Go Go.RowKit
set_option linter.unusedVariables false
section
variable {P:Program} {nt:Nat} {fr:Fr} {ob:Obs} {dst:Option Tmp} {ty:TypeId} {pos:String} {af:Array Edge} {gd:Option (Nat × Bool)}
end
end Go.AL
namespace Go.AL
open Go Go.RowKit
set_option linter.unusedVariables false
section
variable {P:Program} {nt:Nat} {fr:Fr} {ob:Obs} {dst:Option Tmp} {ty:TypeId} {pos:String} {af:Array Edge} {gd:Option (Nat × Bool)}
end
end Go.AL
namespace Go.AL
open Go Go.RowKit
set_option linter.unusedVariables false
section
variable {P:Program} {nt:Nat} {fr gf:Fr} {ob:Obs}
theorem TC.forget_comm (k q:Nat) (t:TC):(t.forget q).forget k=(t.forget k).forget q:=by
 cases t with
 | p c=>rfl
 | buf k' α ec c xs=>cases hb:Nat.beq k' k<;>cases hq:Nat.beq k' q<;>simp [TC.forget,hb,hq]
 | ref k' o=>cases hb:Nat.beq k' k<;>cases hq:Nat.beq k' q<;>simp [TC.forget,hb,hq]
 | eref α ec c x o=>rfl
 | «mut» k'=>cases hb:Nat.beq k' k<;>cases hq:Nat.beq k' q<;>simp [TC.forget,hb,hq]
 | mref k' ec i o=>cases hb:Nat.beq k' k<;>cases hq:Nat.beq k' q<;>simp [TC.forget,hb,hq]
 | any=>rfl
 | clo f nf nc=>cases hb:(B83 k nf||B83 k nc)<;>cases hq:(B83 q nf||B83 q nc)<;>simp [TC.forget,hb,hq]
 | msl k' ec o n=>cases hb:Nat.beq k' k<;>cases hq:Nat.beq k' q<;>simp [TC.forget,hb,hq]
 | ifc t k' o=>cases hb:Nat.beq k' k<;>cases hq:Nat.beq k' q<;>simp [TC.forget,hb,hq]
 | fnc f cs=>rfl
 | fncE f α ec c x=>rfl
 | full α ec c xs=>rfl
theorem S1.forget_comm (k q:Nat) (s:S1):(s.forget q).forget k=(s.forget k).forget q:=by
 cases s with
 | one t=>simp only [S1.forget,TC.forget_comm k q t]
 | agg ts=>simp only [S1.forget,J94];congr 1;exact List.map_congr_left fun t _=>TC.forget_comm k q t
theorem SV.forget_comm (k q:Nat) (s:SV):(s.forget q).forget k=(s.forget k).forget q:=by
 cases s with
 | s x=>simp only [SV.forget,S1.forget_comm k q x]
 | tup l=>simp only [SV.forget,J94];congr 1;exact List.map_congr_left fun t _=>S1.forget_comm k q t
 | any=>rfl
 | un=>rfl
theorem Fr.forget_comm (k q:Nat) (fr:Fr):Fr.forget k (Fr.forget q fr)=Fr.forget q (Fr.forget k fr):=by
 unfold Fr.forget
 rw [J94,J94]
 exact List.map_congr_left fun p _=>by simp only [Function.comp];rw [SV.forget_comm]
theorem C51 (k:Nat):∀(ks:List Nat) (fr:Fr),C1 ks (Fr.forget k fr)=Fr.forget k (C1 ks fr)
 | [],fr=>rfl
 | q::ks,fr=>by
  show C1 ks (Fr.forget q (Fr.forget k fr))=Fr.forget k (C1 ks (Fr.forget q fr))
  rw [Fr.forget_comm q k,C51 k ks]
theorem A57 {k:Nat}:∀{ks:List Nat} {fr:Fr},K8 ks k=true→Fr.forget k (C1 ks fr)=C1 ks fr
 | [],fr,h=>by cases h
 | q::ks,fr,h=>by
  show Fr.forget k (C1 ks (Fr.forget q fr))=C1 ks (Fr.forget q fr)
  by_cases hq:k=q
  ·subst hq;rw [C51,Fr.forget_idem]
  ·have h2:K8 ks k=true:=by
    rw [hasN_iff] at h ⊢
    rcases List.mem_cons.1 h with h | h
    ·exact absurd h hq
    ·exact h
   exact A57 h2
theorem F2 {ks:List Nat} (k:Nat) (hk:K8 ks k=true) (h:Tail (C1 ks gf) fr):Tail (C1 ks gf) (Fr.forget k fr):=by
 have:=B6 k h
 rwa [A57 hk] at this
theorem D3:∀{ks:List Nat} {gf:Fr},High gf→High (C1 ks gf)
 | [],gf,h=>h
 | k::ks,gf,h=>D3 (ks:=ks) (A32 (k:=k) h)
end
end Go.AL
namespace Go.AL
open Go Go.RowKit
set_option linter.unusedVariables false
section
variable {P:Program} {nt:Nat} {fr:Fr} {ob:Obs}
def TC.ren (j k:Nat):TC→TC
 | .buf k' α ec c xs=>cond (Nat.beq k' j) (.buf k α ec c xs) (.buf k' α ec c xs)
 | .ref k' off=>cond (Nat.beq k' j) (.ref k off) (.ref k' off)
 | .mut k'=>cond (Nat.beq k' j) (.mut k) (.mut k')
 | .mref k' ec i off=>cond (Nat.beq k' j) (.mref k ec i off) (.mref k' ec i off)
 | .msl k' ec off n=>cond (Nat.beq k' j) (.msl k ec off n) (.msl k' ec off n)
 | .ifc t k' off=>cond (Nat.beq k' j) (.ifc t k off) (.ifc t k' off)
 | t=>t
def Ob.ren (j k:Nat):Ob→Ob
 | .box ts=>.box (ts.map (TC.ren j k))
 | .tbx e ts=>.tbx e (ts.map (TC.ren j k))
 | .tarr n ec ts=>.tarr n ec (ts.map (TC.ren j k))
 | .growA e α ec c xs p ts=>.growA e α ec c xs p (ts.map (TC.ren j k))
 | .growT e n ec ts=>.growT e n ec (ts.map (TC.ren j k))
 | o=>o
theorem J43 {rd:Rd} {G:Gh} {j k:Nat} (hG:G k=G j):∀{t:TC} {u:Value},t.rep rd G u→(t.ren j k).rep rd G u
 | .p c,u,h=>h
 | .buf k' α ec c xs,u,h=>by
  simp only [TC.ren]
  cases hb:Nat.beq k' j
  ·exact h
  ·have e:k'=j:=Nat.eq_of_beq_eq_true hb
   subst e
   simp only [cond,TC.rep];rw [hG];exact h
 | .ref k' off,u,h=>by
  simp only [TC.ren]
  cases hb:Nat.beq k' j
  ·exact h
  ·have e:k'=j:=Nat.eq_of_beq_eq_true hb
   subst e
   simp only [cond,TC.rep];rw [hG];exact h
 | .eref _ _ _ _ _,u,h=>h
 | .mut k',u,h=>by
  simp only [TC.ren]
  cases hb:Nat.beq k' j
  ·exact h
  ·have e:k'=j:=Nat.eq_of_beq_eq_true hb
   subst e
   simp only [cond,TC.rep];rw [hG];exact h
 | .mref k' ec i off,u,h=>by
  simp only [TC.ren]
  cases hb:Nat.beq k' j
  ·exact h
  ·have e:k'=j:=Nat.eq_of_beq_eq_true hb
   subst e
   simp only [cond,TC.rep];rw [hG];exact h
 | .any,u,h=>h
 | .clo _ _ _,_,h=>h
 | .msl k' ec off n,u,h=>by
  simp only [TC.ren]
  cases hb:Nat.beq k' j
  ·exact h
  ·have e:k'=j:=Nat.eq_of_beq_eq_true hb
   subst e
   simp only [cond,TC.rep];rw [hG];exact h
 | .full _ _ _ _,u,h=>h
 | .ifc t k' off,u,h=>by
  simp only [TC.ren]
  cases hb:Nat.beq k' j
  ·exact h
  ·have e:k'=j:=Nat.eq_of_beq_eq_true hb
   subst e
   simp only [cond,TC.rep];rw [hG];exact h
 | .fnc _ _,u,h=>h
 | .fncE _ _ _ _ _,u,h=>h
theorem ObOk.ren {S:Ctx} {rd:Rd} {G:Gh} {w:World} {u:Value} {j k:Nat} {o:Ob} (hG:G k=G j) (h:ObOk S rd G w u o):ObOk S rd G w u (o.ren j k):=by
 cases o with
 | box ts=>obtain ⟨b,vs,t,h1,h2,h3⟩:=h;exact ⟨b,vs,t,h1,h2,h3.map (TC.ren j k) fun _ _=>J43 hG⟩
 | tbx e ts=>obtain ⟨b,vs,h1,h2,h3⟩:=h;exact ⟨b,vs,h1,h2,h3.map (TC.ren j k) fun _ _=>J43 hG⟩
 | tarr n ec ts=>obtain ⟨b,vs,t,h1,hl,h2,hn,h3⟩:=h;exact ⟨b,vs,t,h1,hl,h2,by simpa using hn,h3.map (TC.ren j k) fun _ _=>J43 hG⟩
 | arr α ec c xs=>exact h
 | spare n ec e=>exact h
 | grow e α ec c xs=>exact h
 | map κ kf kvs=>exact h
 | growA e α ec c xs p ts=>obtain ⟨vs,h1,h2,h3,h4,h5,h6⟩:=h;exact ⟨vs,h1,h2,h3,by simpa using h4,h5,h6.map (TC.ren j k) fun _ _=>J43 hG⟩
 | growT e n ec ts=>obtain ⟨vs,h1,h2,h3,h4⟩:=h;exact ⟨vs,h1,h2,by simpa using h3,h4.map (TC.ren j k) fun _ _=>J43 hG⟩
def ddF:Fr→Fr
 | []=>[]
 | (i,s)::r=>(i,s)::(ddF r).filter fun p=>!(Nat.beq p.1 i)
theorem B43 {i q:Nat} (h:i≠q):∀(fr:Fr),E6 (fr.filter fun p=>!(Nat.beq p.1 i)) q=E6 fr q
 | []=>rfl
 | (j,s)::r=>by
  rw [K04]
  by_cases hj:j=i
  ·subst hj
   rw [if_neg (by simp),C7 h,B43 h r]
  ·rw [if_pos (by simp [T4 hj])]
   by_cases hq:j=q
   ·subst hq;rw [E1,E1]
   ·rw [C7 hq,C7 hq,B43 h r]
theorem D89:∀(fr:Fr) (q:Nat),E6 (ddF fr) q=E6 fr q
 | [],q=>rfl
 | (i,s)::r,q=>by
  unfold ddF
  by_cases h:i=q
  ·subst h;rw [E1,E1]
  ·rw [C7 h,C7 h,B43 h,D89 r q]
theorem mem_dd:∀{fr:Fr} {p:Nat × SV},p∈ddF fr→E6 fr p.1=some p.2
 | (i,s)::r,p,h=>by
  unfold ddF at h
  rcases List.mem_cons.1 h with rfl | h
  ·exact E1 _ _ _
  ·obtain ⟨h1,h2⟩:=List.mem_filter.1 h
   have hne:i≠p.1:=fun e=>by rw [e,Nat.beq_refl] at h2;cases h2
   rw [C7 hne]
   exact mem_dd h1
theorem F15 {k:Nat}:∀{fr:Fr},(∀p∈fr,p.2.free k=true)→J6 k fr=true
 | [],_=>rfl
 | (i,s)::r,h=>by
  show (SV.free k s&&J6 k r)=true
  rw [J61]
  exact ⟨h (i,s) (List.mem_cons_self ..),F15 fun p hp=>h p (List.mem_cons_of_mem _ hp)⟩
theorem D90 {U:Fr} {k:Nat} {o:Oper} {ob ob':Obs} {s:SV} (h:∀frc,E08 U frc→J6 k frc=true→EffV P o frc ob s frc ob'):E09 P nt o U [k] [] ob ob' s:=by
 intro frc hU hfree S G a w hn hs
 have hs2:Sim P S (ddF frc) ob G a w:=hs.weaken fun i s hi=>by rwa [D89] at hi
 have hfr:J6 k (ddF frc)=true:=F15 fun p hp=>hfree k (by simp) p.1 p.2 (mem_dd hp) (by simp)
 have:=h (ddF frc) (fun t s ht=>by rw [D89];exact hU t s ht) hfr S G a w hs2
 have imp:∀(v:Value) (w':World),(∃G',Sim P S (ddF frc) ob' G' a w'∧s.rep (E8 (Mut S ob' G') w') G' v)→∃G',Sim P S (Y9 [] frc) ob' G' a w'∧∀d,o.dst=some d→s.rep (E8 (Mut S ob' G') w') G' v:=fun v w' ⟨G',h,hr⟩=>⟨G',h.weaken (fun t x ht=>by rw [D89];exact (getF_dropK.1 ht).2),fun _ _=>hr⟩
 unfold Does at this ⊢
 generalize (execOp a.eval _).run P w=r at *
 cases r with
 | ok n w' =>
  cases n<;>simp only at this ⊢<;>try exact this.elim
  case value v=>exact imp v w' this
  case skip=>exact imp undef w' this
  case enter f args=>exact this.mono fun e w'' ⟨v,he,hv⟩=>⟨v,he,imp v w'' hv⟩
 | halt x w'=>exact this
end
end Go.AL
namespace Go.AL
open Go Go.RowKit
set_option linter.unusedVariables false
section
variable {P:Program} {nt:Nat} {fr gf:Fr} {ob:Obs}
theorem TC.free_forget (k:Nat) (t:TC):(t.forget k).free k=true:=by
 cases t with
 | p c=>rfl
 | buf k' α ec c xs=>cases hb:Nat.beq k' k<;>simp [TC.forget,TC.free,hb]
 | ref k' o=>cases hb:Nat.beq k' k<;>simp [TC.forget,TC.free,hb]
 | eref α ec c x o=>rfl
 | «mut» k'=>cases hb:Nat.beq k' k<;>simp [TC.forget,TC.free,hb]
 | mref k' ec i o=>cases hb:Nat.beq k' k<;>simp [TC.forget,TC.free,hb]
 | any=>rfl
 | clo f nf nc =>
  simp only [TC.forget]
  cases hb:(B83 k nf||B83 k nc)
  ·rw [J99] at hb;simp [TC.free,hb.1,hb.2]
  ·rfl
 | msl k' ec o n=>cases hb:Nat.beq k' k<;>simp [TC.forget,TC.free,hb]
 | ifc t k' o=>cases hb:Nat.beq k' k<;>simp [TC.forget,TC.free,hb]
 | fnc f cs=>rfl
 | fncE f α ec c x=>rfl
 | full α ec c xs=>rfl
theorem S1.free_forget (k:Nat) (s:S1):(s.forget k).free k=true:=by
 cases s with
 | one t=>exact TC.free_forget k t
 | agg ts =>
  show (ts.map (TC.forget k)).all (TC.free k)=true
  rw [List.all_map,List.all_eq_true]
  exact fun t _=>TC.free_forget k t
theorem SV.free_forget (k:Nat) (s:SV):(s.forget k).free k=true:=by
 cases s with
 | s x=>exact S1.free_forget k x
 | tup l =>
  show (l.map (S1.forget k)).all (S1.free k)=true
  rw [List.all_map,List.all_eq_true]
  exact fun t _=>S1.free_forget k t
 | any=>rfl
 | un=>rfl
theorem Z0 {k:Nat} {ks:List Nat} {gf:Fr} (hk:K8 ks k=true):∀p∈C1 ks gf,p.2.free k=true:=by
 rw [←A57 hk]
 intro p hp
 obtain ⟨q,_,rfl⟩:=List.mem_map.1 hp
 exact SV.free_forget k q.2
theorem F16 {l:List Oper} {ops:Array Oper} {svs:Sv} {fr gf:Fr}:∀{ed:Ed},B92 l ops svs fr ed=true→(∀e∈ed,∀k∈e.2.1,∀p∈gf,p.2.free k=true)→B92 l ops svs (fr++gf) ed=true
 | [],_,_=>rfl
 | (e,ks,kills)::r,h,hg=>by
  simp only [B92,J61] at h ⊢
  refine ⟨?_,F16 h.2 fun e' he=>hg e' (List.mem_cons_of_mem _ he)⟩
  rw [List.all_eq_true] at h ⊢
  intro k hk
  have h1:=h.1 k hk
  rw [J61] at h1 ⊢
  refine ⟨h1.1,?_⟩
  rw [K11,J61]
  refine ⟨h1.2,List.all_eq_true.2 fun p hp=>?_⟩
  rw [hg (e,ks,kills) (List.mem_cons_self ..) k hk p hp,Bool.or_true]
theorem D05 {ks:List Nat} {l:List Oper} {E:List Nat} {ed:Ed} {T2:List (Nat × List Nat)} {Q:Post} {svs:Sv} {M:Mo} {obE:Obs} (h0:(ed.all fun e=>e.2.1.all (K8 ks))=true) (h1:(B92 l l.toArray svs fr ed&&(List.range l.length).all fun j=>(O9 svs j).isSome)=true) (h2:S0 M E=some obE)
  (h3:A56 P nt l (fr++C1 ks gf) E ed svs M T2) (h4:Q .normal (Y9 (F64 ed) (B30 l svs (fr++C1 ks gf))) obE):B22 P nt l (fr++C1 ks gf) E ed (Fin2 P nt l (fr++C1 ks gf) E ed T2 Q) [] svs M:=by
 rw [J61] at h1
 refine F12 ?_ h2 h3 h4
 rw [J61]
 refine ⟨F16 h1.1 fun e he k hk p hp=>?_,h1.2⟩
 exact Z0 (List.all_eq_true.1 (List.all_eq_true.1 h0 e he) k hk) p hp
end
end Go.AL
namespace Go.AL
open Go Go.RowKit
set_option linter.unusedVariables false
section
variable {P:Program}
end
end Go.AL
namespace Go.AL
open Go Go.RowKit
set_option linter.unusedVariables false
section
variable {P:Program} {nt:Nat} {fr:Fr} {ob:Obs} {dst:Option Tmp} {ty:TypeId} {pos:String} {af:Array Edge} {gd:Option (Nat × Bool)}
end
end Go.AL
namespace Go.AL
open Go Go.RowKit
set_option linter.unusedVariables false
def Cell.flat:Cell→Bool
 | .v _=>true
 | _=>false
def PV.flat:PV→Bool
 | .one c=>c.flat
 | .agg cs=>cs.all Cell.flat
section
variable {P:Program} {dst:Option Tmp} {ty:TypeId} {pos:String} {af:Array Edge} {gd:Option (Nat × Bool)} {fr fr':Fr} {ob ob':Obs}
end
end Go.AL
namespace Go.AL
open Go Go.RowKit
set_option linter.unusedVariables false
section
variable {P:Program} {nt:Nat} {fr:Fr} {ob:Obs}
end
end Go.AL
namespace Go.AL
open Go Go.RowKit
set_option linter.unusedVariables false
section
variable {P:Program} {nt:Nat} {fr:Fr} {ob:Obs}
theorem B72 {x y:Code} {Q2 Q3:Post} (fr':Fr) (ob':Obs) (hx:WpC P nt x fr ob (B32 (fun f o=>Sees P nt f o fr' ob') Q3)) (k:WpC P nt y fr' ob' Q2):WpC P nt x fr ob (B32 (fun f o=>WpC P nt y f o Q2) Q3) :=
 hx.mono fun e f o hq=>by
  cases e with
  | normal=>exact D9 hq k
  | _=>exact hq
end
end Go.AL
namespace Go.AL
open Go Go.RowKit
set_option linter.unusedVariables false
section
variable {P:Program} {dst:Option Tmp} {ty:TypeId} {pos:String} {af:Array Edge} {gd:Option (Nat × Bool)} {fr:Fr} {ob:Obs} {nt:Nat}
theorem A37 {x yh:Operand} {k:Nat} {α:Type} {ec bytes:Nat} {c:α→Nat→Cell} {xs:List α} {t e:TypeId} {kh:IntKind} {j:Int} [ht:TySl P t e ec bytes] (hx:opv fr x=some (.s (.one (.mut k)))) (hk:B4 ob k=some (.grow e α ec c xs))
  (hyh:opv fr yh=some (I0 (.int kh j))) (h0:0≤j) (h2:j≤xs.length) (hp:Nat.blt k 1000000=true) :
  EffV P ⟨dst,.slice t x none (some yh) none,ty,pos,af,gd⟩ fr ob (.s (.one (.mut k))) (Fr.forget k fr) ((k,.grow e α ec c (xs.take j.toNat))::Obs.forget k ob):=by
 intro S G a w h
 obtain ⟨hux,hone⟩:=I1 h hx
 obtain ⟨ws,hown,hlen,hws⟩:=h.obs k _ hk
 have hjl:j.toNat≤xs.length:=by omega
 have hle:j.toNat*ec≤xs.length*ec:=J72 _ hjl
 obtain ⟨v',hrun,hblk',hown'⟩:∃v',(execOp a.eval ⟨dst,.slice t x none (some yh) none,ty,pos,af,gd⟩).run P w=.ok (.value v') w∧blk v'=blk (G k)∧w.ownsRow S.B e ec v' j.toNat (ws.take (j.toNat*ec)):=by
  obtain ⟨he1,he2⟩:=ht.elem
  rcases hown.2 with ⟨hg,hn0⟩ | ⟨g,cap,cur,hg,hbg,hgh,hnc,hcm,hcs,htake⟩
  ·refine ⟨.slice none 0 0,?_,by rw [hg],?_⟩
   ·simp only [execOp,hux,hg,F6 h hyh,Option.map_some,Option.map_none]
    refine L3 ?_
    simp only [Instr.sliceAt,Sem.run_bind,run_underlying ht.out.1,Result.andThen_ok]
    rw [run_slice_h w t none 0 0 he1 kh j h0 (by omega),he2,J0 ht.size]
    have e0:j.toNat=0:=by omega
    simp [sliced,e0]
   ·have e0:j.toNat=0:=by omega
    rw [e0];simp only [Nat.zero_mul,List.take_zero];exact World.ownsRow_nil w _ _ _
  ·refine ⟨.slice (some ⟨g,0,none⟩) j.toNat cap,?_,by rw [hg];rfl,?_⟩
   ·simp only [execOp,hux,hg,F6 h hyh,Option.map_some,Option.map_none]
    refine L3 ?_
    simp only [Instr.sliceAt,Sem.run_bind,run_underlying ht.out.1,Result.andThen_ok]
    rw [run_slice_h w t (some ⟨g,0,none⟩) xs.length cap he1 kh j h0 (by omega),he2,J0 ht.size]
    simp [sliced,Addr.add_lit]
   ·refine ⟨by rw [J70,hown.1];omega,.inr ⟨g,cap,cur,rfl,hbg,hgh,by omega,hcm,hcs,?_⟩⟩
    rw [←htake,List.take_take,Nat.min_eq_left hle]
 have hsim:=h.turn (o':=.grow e α ec c (xs.take j.toNat)) (u':=v') (w1:=w) (by simpa using hp) hk rfl rfl rfl (Nat.le_refl _) (fun _ _ _=>rfl) (fun b i z hr=>hr.1)
  (fun b hb=>.inl (by rw [←hblk'];exact hb)) (fun b i hb ho=>⟨by rw [←hblk'];exact ho.1,trivial⟩)
  (fun rd hrd' G' hG'=>by
   have hlt:(xs.take j.toNat).length=j.toNat:=by rw [J70];omega
   refine ⟨ws.take (j.toNat*ec),by rw [hlt];exact hown',by rw [hlt];omega,?_⟩
   intro i hi q hq
   rw [hlt] at hi
   obtain ⟨z,hz1,hz2⟩:=hws i (by omega) q hq
   refine ⟨z,?_,?_⟩
   ·have:(i+1)*ec≤j.toNat*ec:=J72 _ hi
    rw [J79,Nat.one_mul] at this
    rw [List.getElem?_take,if_pos (by omega)];exact hz1
   ·rw [List.getElem_take];exact Cell.rep_mono hrd' _ _ hz2)
 exact J1 (w':=w) (v:=v') hrun ⟨upd G k v',hsim,(I3 _ _ _).symm,D33 hown'⟩
end
abbrev codeV (T:TypeId) (e:Int):List PanicEntry:=[{ v:=.iface T (.int .i64 e),recovered:=false }]
def metXP (P:Program) (T:TypeId) (fn:Func) (ks:List Nat) (gf:Fr) (post:List S1→Obs→Prop) (pan:Int→Obs→Prop):Post
 | .normal,fr,ob | .ret,fr,ob=>∃rs ob',RetS P fn fr ob rs∧Tail (C1 ks gf) fr∧(∀k o,B4 ob' k=some o→B4 ob k=some o)∧post rs ob'
 | .panic ch,fr,ob=>∃e ob',ch=codeV T e∧Tail (C1 ks gf) fr∧(∀k o,B4 ob' k=some o→B4 ob k=some o)∧pan e ob'
 | _,_,_=>False
def MetX (P:Program) (T:TypeId) (f:FuncId) (args:List S1) (gf:Fr) (ob:Obs) (ks:List Nat) (post:List S1→Obs→Prop) (pan:Int→Obs→Prop):Prop :=
 Callable P f∧(High gf→∀S G a w (vals:List Value),Sim P S gf ob G a w→All2 (S1.rep (E8 (Mut S ob G) w) G) args vals →
  Calls P f vals.toArray w (fun e w'=>(∃v rs ob' G',e=.returned v∧post rs ob'∧o8 (E8 (Mut S ob' G') w') G' rs v∧Sim P S (C1 ks gf) ob' G' a w') ∨
   ∃c ob' G',e=.panicked (codeV T c)∧pan c ob'∧Sim P S (C1 ks gf) ob' G' a w'))
section
variable {P:Program} {T:TypeId} {nt:Nat} {ops:Array Oper} {rest:List Oper} {fr:Fr} {ob:Obs} {Q:Post} {d:Nat}
theorem MetX.intro {f:FuncId} {fn:Func} {c:Code} {args:List S1} {gf:Fr} {ks:List Nat} {post:List S1→Obs→Prop} {pan:Int→Obs→Prop} (hf:P.funcs[f]?=some fn) (hname:(fn.name == "runtime.NumGoroutine")=false) (hb:fn.body=some c) (hlen:Nat.ble args.length fn.ntmps=true) (hnb:Nat.ble fn.ntmps 1000000=true)
  (h6:WpC P fn.ntmps c (m6 0 args++gf) ob (metXP P T fn ks gf post pan)):MetX P T f args gf ob ks post pan:=by
 refine ⟨⟨fn,hf,hname,by simp [hb]⟩,fun hgf S G a w vals h hvals=>?_⟩
 have hvl:vals.length=args.length:=hvals.length.symm
 have hle:args.length≤fn.ntmps:=by simpa using hlen
 have hn6:fn.ntmps≤1000000:=by simpa using hnb
 let S':Ctx:={ S with nt:=fn.ntmps,df:=[] }
 have hs:Sim P S' (m6 0 args++gf) ob G { tmps:=vals.toArray++Array.replicate (fn.ntmps - vals.toArray.size) undef,defers:=[] } w:=by
  refine { h with nt:=by simp [S'];omega,ntb:=hn6,defers:=rfl,facts:=?_ }
  intro i s hi
  rw [r8] at hi
  cases hg:E6 (m6 0 args) i with
  | some s0 =>
   rw [hg] at hi
   have hi:some s0=some s:=hi
   cases hi
   obtain ⟨_,p,hp,rfl⟩:=C13 0 args i _ hg
   obtain ⟨u,hu,hr⟩:=hvals.get (i - 0) p hp
   have hlt:i < vals.length:=(List.getElem?_eq_some_iff.1 hu).1
   have hget:(vals.toArray++Array.replicate (fn.ntmps - vals.toArray.size) undef).getD i undef=u:=by
    rw [Array.getD_eq_getD_getElem?,Array.getElem?_append_left (by simpa using hlt)]
    simpa using congrArg (fun x=>x.getD undef) hu
   rw [Ctx.sl_lt (by omega),hget]
   exact hr
  | none =>
   rw [hg] at hi
   have hi:E6 gf i=some s:=hi
   have h7:=hgf i s hi
   have h8:=h.facts i s hi
   rw [Ctx.sl_ge h7] at h8 ⊢
   exact h8
 refine y4 hf hb (wp_mono (h6 S' _ _ w rfl hs) ?_)
 rintro e a' w' ⟨fr',ob',G',hq,hs'⟩
 have back:∀(ds:List Deferred) (w':World),Sim P { S' with df:=ds } fr' ob' G' a' w'→∀ob'':Obs,Tail (C1 ks gf) fr'→(∀k o,B4 ob'' k=some o→B4 ob' k=some o)→Sim P S (C1 ks gf) ob'' G' a w':=by
  intro ds w' hs' ob'' hg ho
  have hs2:=(hs'.weaken (fr':=C1 ks gf) (fun i s hi=>by
   obtain ⟨s0,h0⟩:=g9 hi
   exact hg i s (hgf i s0 h0) hi)).weakenO ho
  refine { hs2 with nt:=h.nt,ntb:=h.ntb,defers:=h.defers,facts:=fun i s hi=>?_ }
  obtain ⟨s0,h0⟩:=g9 hi
  have h7:=hgf i s0 h0
  have h8:=hs2.facts i s hi
  rw [Ctx.sl_ge h7] at h8 ⊢
  exact h8
 have fin:(∃rs ob'',RetS P fn fr' ob' rs∧Tail (C1 ks gf) fr'∧(∀k o,B4 ob'' k=some o→B4 ob' k=some o)∧post rs ob'')→∀ds w',Sim P { S' with df:=ds } fr' ob' G' a' w'→∃v,(results fn a'.tmps).run P w'=.ok v w'∧((∃v_1 rs ob' G',Ending.returned v=.returned v_1∧post rs ob'∧o8 (E8 (Mut S ob' G') w') G' rs v_1∧Sim P S (C1 ks gf) ob' G' a w')∨∃c ob' G',Ending.returned v=.panicked (codeV T c)∧pan c ob'∧Sim P S (C1 ks gf) ob' G' a w'):=by
  rintro ⟨rs,ob'',hr,hg,ho,hp⟩ ds w' hs'
  obtain ⟨v,hv,hres⟩:=hr _ G' a' w' hs'
  have hmut:∀b i,Mut S' ob'' G' b i→Mut S' ob' G' b i:=by
   rintro b i (hm | ⟨k,o,hk,ho'⟩)
   ·exact .inl hm
   ·exact .inr ⟨k,o,ho k o hk,ho'⟩
  exact ⟨v,hv,.inl ⟨v,rs,ob'',G',rfl,hp,SV.rep_mono (fun b i z hz=>⟨hz.1,fun hm=>hz.2 (hmut b i hm)⟩) hres,back ds w' hs' ob'' hg ho⟩⟩
 cases e with
 | normal=>exact hs'.leave rfl (fin hq)
 | ret=>exact hs'.leave rfl (fin hq)
 | panic ch =>
  obtain ⟨c,ob'',rfl,hg,ho,hp⟩:=hq
  have hs':=hs'.resolve_right fun h=>nomatch h.1
  show LeavesInM Fence.wide 0 P fn a'.tmps _ a'.defers _ w'
  rw [hs'.defers]
  exact .inr ⟨c,ob'',G',rfl,hp,back [] w' hs' ob'' hg ho⟩
 | _=>exact hq.elim
end
end Go.AL
namespace Go.AL
open Go Go.RowKit
set_option linter.unusedVariables false
section
variable {P:Program} {dst:Option Tmp} {ty:TypeId} {pos:String} {af:Array Edge} {gd:Option (Nat × Bool)} {fr:Fr} {ob:Obs}
def V6 {κ:Type} [DecidableEq κ]:List (κ × Cell)→κ→Cell→List (κ × Cell)
 | [],a,c=>[(a,c)]
 | (k,x)::r,a,c=>if k=a then (k,c)::r else (k,x)::V6 r a c
theorem D36 {κ:Type} [DecidableEq κ] {a:κ} {c:Cell}:∀{kvs:List (κ × Cell)},L6 kvs a=none→V6 kvs a c=kvs++[(a,c)]
 | [],_=>rfl
 | (k,x)::r,h=>by
  unfold L6 at h
  unfold V6
  split at h
  ·cases h
  ·rename_i hn;rw [if_neg hn,D36 h];rfl
theorem G29 {κ:Type} [DecidableEq κ] {kf:κ→Value} {kd:TypeDesc} (hkey:∀a,MapKept.IsKey kd (kf a)) (hinj:∀a b,kf a=kf b→a=b) {rd:Rd} (a:κ) {c:Cell} {u:Value} (hc:c.rep rd u):∀(kvs:List (κ × Cell)) (es:List MapEntry) (i:Nat),
  All2 (fun (kv:κ × Cell) (e:MapEntry)=>e.key=kf kv.1∧kv.2.rep rd e.val) kvs es→L6 kvs a≠none →
  ∃p v e,Instr.findNow kd (kf a) es i=some (some (i+p,v))∧es[p]?=some e∧e.key=kf a∧All2 (fun (kv:κ × Cell) (e:MapEntry)=>e.key=kf kv.1∧kv.2.rep rd e.val) (V6 kvs a c) (es.modify p fun e=>{ e with key:=kf a,val:=u })
 | [],[],_,_,h=>absurd rfl h
 | [],_::_,_,h,_=>h.elim
 | _::_,[],_,h,_=>h.elim
 | (k,x)::kvs,e::es,i,h,hn=>by
  obtain ⟨⟨h1,h2⟩,h3⟩:=h
  obtain ⟨r,hr,hiff⟩:=MapKept.sameNow_of_keys (hkey a) (hkey k)
  have hr':Instr.sameNow kd (kf a) e.key=some r:=by rw [h1];exact hr
  by_cases he:k=a
  ·subst he
   have:r=true:=hiff.2 rfl
   subst this
   refine ⟨0,e.val,e,by simp [Instr.findNow,hr'],rfl,h1,?_⟩
   unfold V6
   rw [if_pos rfl]
   exact ⟨⟨rfl,hc⟩,h3⟩
  ·have:r=false:=by
    cases r
    ·rfl
    ·exact absurd (hinj _ _ (hiff.1 rfl)).symm he
   subst this
   have hn':L6 kvs a≠none:=by
    intro e0;apply hn;unfold L6;rw [if_neg he];exact e0
   obtain ⟨p,v,e',h4,h5,h6,h7⟩:=G29 hkey hinj a hc kvs es (i+1) h3 hn'
   refine ⟨p+1,v,e',?_,by simpa using h5,h6,?_⟩
   ·simp only [Instr.findNow,hr',h4]
    rw [show i+1+p=i+(p+1) by omega]
   ·unfold V6
    rw [if_neg he]
    exact ⟨⟨h1,h2⟩,h7⟩
theorem G30 {x y v:Operand} {t kt:TypeId} {kd:TypeDesc} {z:Value} {k:Nat} {κ:Type} [DecidableEq κ] {kf:κ→Value} {kvs:List (κ × Cell)} (a0:κ) {c:Cell} [ht:TyMap P t kt kd z] (hx:opv fr x=some (.s (.one (.mut k)))) (hk:B4 ob k=some (.map κ kf kvs))
  (hy:opv fr y=some (I0 (kf a0))) (hv:opv fr v=some (.s (.one (.p c)))) (hc:H8 v=true) (hkey:∀a,MapKept.IsKey kd (kf a)) (hinj:∀a b,kf a=kf b→a=b) :
  Eff P ⟨none,.mapUpdate t x y v,ty,pos,af,gd⟩ fr ob fr ((k,.map κ kf (V6 kvs a0 c))::ob):=by
 cases hr:L6 kvs a0 with
 | none=>rw [D36 hr];exact G24 a0 hx hk hy hv hc hkey hinj hr
 | some c0 =>
  intro S G a w h
  obtain ⟨et,u1,u2,u3,u4⟩:=ht.out
  obtain ⟨hu,_⟩:=I1 h hx
  obtain ⟨b,es,clock,hg,hh,ha⟩:=h.obs k _ hk
  rw [hg] at hu
  have hrv:c.rep (E8 (Mut S ob G) w) (a.eval v):=R7 h hv hc
  obtain ⟨p,v0,e,h4,h5,h6,h7⟩:=G29 hkey hinj a0 hrv kvs es.toList 0 ha (by rw [hr];simp)
  rw [Nat.zero_add] at h4
  have hep:(es[p]?.map (·.key)).getD (kf a0)=kf a0:=by
   rw [←Array.getElem?_toList,h5];exact h6
  obtain ⟨g5,g6⟩:=MapKept.heap_set (o':=.map (es.modify p fun e=>{ e with key:=kf a0,val:=a.eval v }) clock) hh
  have he:(execOp a.eval ⟨none,.mapUpdate t x y v,ty,pos,af,gd⟩).run P w=.ok .skip { w with heap:=w.heap.setIfInBounds b (.map (es.modify p fun e=>{ e with key:=kf a0,val:=a.eval v }) clock) }:=by
   simp only [execOp,hu,F6 h hy]
   simp only [Instr.mapUpdate,Sem.run_bind,run_underlying u1,Result.andThen_ok,MapKept.run_getObj_map hh,MapKept.run_checkKey u2 (hkey a0),MapKept.run_findKey u2 h4,hep,MapKept.run_keyThatStays (hkey a0),MapKept.run_setObj_map _ hh]
   rfl
  unfold Does
  rw [he]
  have hbk:blk (G k)=some b:=by rw [hg];rfl
  refine ⟨G,h.write hk hbk (fun i=>⟨hbk,trivial⟩) (fun i=>⟨hbk,trivial⟩) rfl rfl rfl (by simp) (fun j _ hne=>g6 j hne) ?_⟩
  intro rd hrd
  refine ⟨b,_,_,hg,g5,?_⟩
  rw [Array.toList_modify]
  exact h7.mono fun _ _ ⟨e1,e2⟩=>⟨e1,Cell.rep_mono hrd _ _ e2⟩
theorem I01 {x y:Operand} {t yt:TypeId} {l m:List UInt8} (hx:opv fr x=some (V5 l)) (hy:opv fr y=some (V5 m)):Neu P ⟨dst,.binOp .geq t x y yt,ty,pos,af,gd⟩ fr ob (fun s'=>s'=R0 (!Op.bytesLess l m)) :=
 l3 hx hy (fun _=>rfl) (fun w=>by simp [binOp,Op.stringOp]) rfl
theorem G31 {f:FuncId} {first:List Operand} {cs:List Cell} (h1:A01 fr first=some (cs.map PV.one)) (hc:first.all H8=true) :
  Neu P ⟨dst,.makeFunc (.func f) first.toArray #[],ty,pos,af,gd⟩ fr ob (fun s'=>s'=.s (.one (.fnc f cs))) :=
 E7 fun S G a w h=>by
  have hr:=l8 h first _ h1 hc
  refine ⟨.func (.func f) (first.map a.eval).toArray #[],?_,_,rfl,?_⟩
  ·simp [execOp,Instr.makeFunc]
  ·have key:∀{cs:List Cell} {us:List Value},All2 (PV.rep (E8 (Mut S ob G) w)) (cs.map PV.one) us→All2 (Cell.rep (E8 (Mut S ob G) w)) cs us:=by
    intro cs
    induction cs with
    | nil=>intro us h;cases us;trivial;exact h.elim
    | cons c cs ih =>
     intro us h
     cases us with
     | nil=>exact h.elim
     | cons u us=>exact ⟨h.1,ih h.2⟩
   exact key hr
theorem I02 {rd:Rd}:∀{cs:List Cell} {us:List Value},All2 (Cell.rep rd) cs us→All2 (PV.rep rd) (cs.map PV.one) us
 | [],[],_=>trivial
 | [],_::_,h=>h.elim
 | _::_,[],h=>h.elim
 | _::_,_::_,h=>⟨h.1,I02 h.2⟩
theorem n_callC {f:FuncId} {g:Operand} {xs:Array Operand} {ats:Array TypeId} {cs:List Cell} {ps rs:List PV} (hf:FnOk P f (cs.map PV.one++ps) (fun r=>r=rs)) (hg:opv fr g=some (.s (.one (.fnc f cs)))) (ha:A01 fr xs.toList=some ps) (hc:xs.toList.all H8=true) :
  Neu P ⟨dst,.call ⟨.value g,xs,ats⟩,ty,pos,af,gd⟩ fr ob (fun s'=>s'=C44 rs):=by
 intro S G a w h
 obtain ⟨vs,hgv,hvs⟩:=I1 h hg
 have hrep:All2 (PV.rep (E8 (Mut S ob G) w)) (cs.map PV.one++ps) (vs++xs.toList.map a.eval):=(I02 hvs).append (l8 h xs.toList ps ha hc)
 have hcall:=hf.2 w (Mut S ob G) _ h.grdW (fun b i hm=>h.mut_lt hm) hrep
 unfold Does
 have he:(execOp a.eval ⟨dst,.call ⟨.value g,xs,ats⟩,ty,pos,af,gd⟩).run P w=.ok (.enter f (vs++xs.toList.map a.eval).toArray) w:=by
  have:=N5 (P:=P) (f:=f) (args:=(vs++xs.toList.map a.eval).toArray) (w:=w) hf.1
  simp only [execOp,resolve,hgv,Deferred.ofValue,Sem.run_bind,Sem.run_pure,Result.andThen_ok,invoke]
  rw [show vs.toArray++Array.map a.eval xs++#[]=(vs++xs.toList.map a.eval).toArray by simp]
  exact this
 rw [he]
 refine hcall.mono ?_
 rintro e w' ⟨v,rs',rfl,rfl,hr,hb⟩
 exact ⟨v,rfl,hb,_,rfl,hr.sv⟩
theorem F66 {f:FuncId} {g:Operand} {xs:Array Operand} {ats:Array TypeId} {ps rs:List PV} (hf:FnOk P f ps (fun r=>r=rs)) (hg:opv fr g=some (I0 (.func (.func f) #[] #[]))) (ha:A01 fr xs.toList=some ps) (hc:xs.toList.all H8=true) :
  Neu P ⟨dst,.call ⟨.value g,xs,ats⟩,ty,pos,af,gd⟩ fr ob (fun s'=>s'=C44 rs):=by
 intro S G a w h
 have hgv:=F6 h hg
 have hcall:=hf.2 w (Mut S ob G) _ h.grdW (fun b i hm=>h.mut_lt hm) (l8 h xs.toList ps ha hc)
 unfold Does
 have he:(execOp a.eval ⟨dst,.call ⟨.value g,xs,ats⟩,ty,pos,af,gd⟩).run P w=.ok (.enter f (xs.toList.map a.eval).toArray) w:=by
  have:=N5 (P:=P) (f:=f) (args:=(xs.toList.map a.eval).toArray) (w:=w) hf.1
  simp only [execOp,resolve,hgv,Deferred.ofValue,Sem.run_bind,Sem.run_pure,Result.andThen_ok,invoke]
  rw [show (#[]:Array Value)++Array.map a.eval xs++#[]=(xs.toList.map a.eval).toArray by obtain ⟨l⟩:=xs;simp]
  exact this
 rw [he]
 refine hcall.mono ?_
 rintro e w' ⟨v,rs',rfl,rfl,hr,hb⟩
 exact ⟨v,rfl,hb,_,rfl,hr.sv⟩
theorem c_condF {nt:Nat} {Q:Post} {x y:Code} (h:WpC P nt y fr ob Q):WpC P nt (.cond (.const (.bool false)) x y) fr ob Q:=by
 intro S G a w hn hs
 exact wp_cond_split (c:=.const (.bool false)) (t:=false) rfl (fun h=>by cases h) (fun _=>h S G a w hn hs)
theorem A97 {x:Operand} {T:TypeId} {k off:Nat} (hx:opv fr x=some (.s (.one (.ref k off)))) (hT:P.concrete T=true) :
  Neu P ⟨dst,.makeInterface T x,ty,pos,af,gd⟩ fr ob (fun s'=>s'=.s (.one (.ifc T k off))) :=
 E7 fun S G a w h=>by
  obtain ⟨b,hg,hu⟩:=I1 h hx
  refine ⟨.iface T (.pointer (some ⟨b,off,none⟩)),?_,b,hg,rfl⟩
  simp only [execOp,hu]
  exact L3 (run_makeInterface w T _ hT)
theorem C17 {x:Operand} {T:TypeId} {v:Value} (hx:opv fr x=some (I0 v)) (hT:P.concrete T=true) :
  Neu P ⟨dst,.makeInterface T x,ty,pos,af,gd⟩ fr ob (fun s'=>s'=I0 (.iface T v)) :=
 E7 fun S G a w h=>by
  refine ⟨.iface T v,?_,rfl,rfl⟩
  simp only [execOp,F6 h hx]
  exact L3 (run_makeInterface w T _ hT)
theorem D37 {x:Operand} {xT T:TypeId} {k:IntKind} {v:Value} [ht:TyInt P T k] (hx:opv fr x=some (I0 (.iface T v))) (ho:v.oneCell'=true) :
  Neu P ⟨dst,.typeAssert x xT T false,ty,pos,af,gd⟩ fr ob (fun s'=>s'=I0 v) :=
 E7 fun S G a w h=>by
  refine ⟨v,?_,rfl,ho⟩
  simp only [execOp,F6 h hx]
  refine L3 ?_
  simp [Instr.typeAssert,run_underlying ht.out]
section
variable {nt:Nat} {ops:Array Oper} {rest:List Oper} {Q:Post} {d:Nat}
theorem A58 {f:FuncId} {x:Operand} {m:String} {xs:List Operand} {ats:Array TypeId} {ty:TypeId} {pos:String} {af:Array Edge} {T:TypeId} {k off:Nat} {args:List S1} {ks:List Nat} {post:List S1→Obs→Prop}
  (hI:∀(a:Addr) (vs:Array Value) (w:World),(callMethod (.iface T (.pointer (some a))) m vs).run P w=.ok (.enter f (#[.pointer (some a)]++vs)) w)
  (hf:Met P f (.one (.ref k off)::args) (shF fr) ob ks post) (hx:opv fr x=some (.s (.one (.ifc T k off)))) (ha:A05 fr xs=some args) (hc:xs.all H8=true) (hd:Nat.blt d nt=true)
  (kk:∀rs ob',post rs ob'→WpL P nt ops rest ((d,D77 rs)::C1 ks fr) ob' Q):WpL P nt ops (⟨some d,.call ⟨.invoke x m,xs.toArray,ats⟩,ty,pos,af,none⟩::rest) fr ob Q:=by
 intro S G a w hn h
 obtain ⟨b,hGk,hxv⟩:=I1 h hx
 have hvals:All2 (S1.rep (E8 (Mut S ob G) w) G) (.one (.ref k off)::args) (.pointer (some ⟨b,off,none⟩)::xs.map a.eval):=⟨⟨b,hGk,rfl⟩,c8 h xs args ha hc⟩
 obtain ⟨gv,hgv⟩:∃gv:Nat→Value,gv=fun i=>S.sl a (i - 1000000):=⟨_,rfl⟩
 let S':Ctx:={ S with gv:=gv }
 have hhigh:High (shF fr):=fun i s hi=>(W8 fr i s hi).1
 have hfacts0:∀i s,E6 (shF fr) i=some s→s.rep (E8 (Mut S' ob G) w) G (S'.sl a i):=by
  intro i s hi
  obtain ⟨h7,h8⟩:=W8 fr i s hi
  rw [Ctx.sl_ge h7]
  show s.rep _ _ (gv i)
  have e:=congrFun hgv i
  rw [e]
  exact h.facts (i - 1000000) s h8
 have hs:Sim P S' (shF fr) ob G a w:={ h with facts:=hfacts0 }
 have hcalls:=hf.2 hhigh S' G a w _ hs hvals
 refine wpList_plain rfl fun K hK=>L0 (K:=fun v w'=>∃rs ob' G',post rs ob'∧o8 (E8 (Mut S' ob' G') w') G' rs v∧Sim P S' (C1 ks (shF fr)) ob' G' a w') ?_ ?_
 ·have he:(execOp a.eval ⟨some d,.call ⟨.invoke x m,xs.toArray,ats⟩,ty,pos,af,none⟩).run P w=.ok (.enter f (.pointer (some ⟨b,off,none⟩)::xs.map a.eval).toArray) w:=by
   have:=hI ⟨b,off,none⟩ (xs.map a.eval).toArray w
   have e1:(#[a.eval x]++Array.map a.eval xs.toArray)[0]?=some (a.eval x):=by simp
   have e2:(#[a.eval x]++Array.map a.eval xs.toArray).extract 1 (#[a.eval x]++Array.map a.eval xs.toArray).size=(xs.map a.eval).toArray:=by
    apply Array.ext'
    simp [J86]
   simp only [execOp,resolve,Sem.run_bind,Sem.run_pure,Result.andThen_ok,invoke,e1,e2]
   rw [hxv,this]
   congr 2
   simp
  unfold Does
  rw [he]
  refine hcalls.mono ?_
  rintro e w' ⟨v,rs,ob',G',rfl,hpost,hres,hs'⟩
  exact ⟨v,rfl,rs,ob',G',hpost,hres,hs'⟩
 ·rintro v w' ⟨rs,ob',G',hp,hres,hs'⟩
  have hlt:d < S.nt:=by rw [hn];simpa using hd
  have hfacts:∀i s,E6 (C1 ks fr) i=some s→s.rep (E8 (Mut S ob' G') w') G' (S.sl a i):=by
   intro i s hi
   have h7:=hs'.facts (i+1000000) s (by rw [c7];exact C47 hi)
   have h8:1000000≤i+1000000:=Nat.le_add_left _ _
   rw [Ctx.sl_ge h8] at h7
   have h7:s.rep (E8 (Mut S ob' G') w') G' (gv (i+1000000)):=h7
   have e:=congrFun hgv (i+1000000)
   simp only [Nat.add_sub_cancel] at e
   rw [e] at h7
   exact h7
  have hsim:Sim P S (C1 ks fr) ob' G' a w':={ hs' with facts:=hfacts }
  exact hK _ _ (kk rs ob' hp S G' _ w' hn (hsim.put hlt hres))
end
end
end Go.AL
namespace Go.AL
open Go Go.RowKit
set_option linter.unusedVariables false
section
variable {P:Program} {dst:Option Tmp} {ty:TypeId} {pos:String} {af:Array Edge} {gd:Option (Nat × Bool)} {fr:Fr} {ob:Obs} {nt:Nat}
theorem B73 {x:Operand} {t e:TypeId} {eb bytes:Nat} (hx:opv fr x=some (I0 (.slice none 0 0))) [ht:TySl P t e eb bytes] :
  Neu P ⟨dst,.call ⟨.builtin .cap,#[x],#[t]⟩,ty,pos,af,gd⟩ fr ob (fun s'=>s'=C3 0) :=
 E7 fun S G a w h=>by
  refine ⟨.int .i64 0,?_,rfl,rfl⟩
  have hu:=F6 h hx
  simp [execOp,resolve,invoke,builtin,hu,Builtin.cap_,run_underlying ht.out.1,goInt]
theorem B94 {x yh:Operand} {t e:TypeId} {bytes ec:Nat} {kh:IntKind} [ht:TySl P t e ec bytes] (hx:opv fr x=some (I0 (.slice none 0 0))) (hyh:opv fr yh=some (I0 (.int kh 0))) :
  Neu P ⟨dst,.slice t x none (some yh) none,ty,pos,af,gd⟩ fr ob (fun s'=>s'=I0 (.slice none 0 0)) :=
 E7 fun S G a w h=>by
  refine ⟨.slice none 0 0,?_,rfl,rfl⟩
  have hu:=F6 h hx
  simp only [execOp,hu,F6 h hyh,Option.map_some,Option.map_none]
  refine L3 ?_
  obtain ⟨he1,he2⟩:=ht.elem
  simp only [Instr.sliceAt,Sem.run_bind,run_underlying ht.out.1,Result.andThen_ok]
  rw [run_slice_h w t none 0 0 he1 kh 0 (by omega) (by omega),he2,J0 ht.size]
  simp [sliced]
theorem J47 (t k:Nat) (α:Type) (ec:Nat) (c:α→Nat→Cell) (e:TypeId) (ht:E6 fr t=some (I0 (.slice none 0 0))) (hf:(J6 k fr&&K0 k ob)=true) :
  Sees P nt fr ob ((t,.s (.one (.mut k)))::fr) ((k,.grow e α ec c [])::ob):=by
 simp only [J61] at hf
 obtain ⟨h1,h2⟩:=hf
 obtain ⟨h4,h5,hp⟩:=H3 h2
 intro S G a w hn h
 have h6:=h.new hp (o:=.grow e α ec c []) (u:=.slice none 0 0) (w1:=w) h5 (Below.refl _ _) (fun b hb=>by simp [blk] at hb) ⟨[],World.ownsRow_nil w _ _ _,by simp,fun i hi=>absurd hi (by simp)⟩
 rw [V9 h1,h4] at h6
 refine ⟨upd G k (.slice none 0 0),{ h6 with facts:=fun i s hi=>?_ }⟩
 by_cases he:t=i
 ·subst he
  rw [E1] at hi
  cases hi
  have hv:=(h.facts t _ ht).1
  refine ⟨?_,?_⟩
  ·rw [hv];exact (I3 _ _ _).symm
  ·rw [hv];rfl
 ·rw [C7 he] at hi;exact h6.facts i s hi
theorem J00 {β:Type} {eb:Nat} {cb:β→Nat→Cell} {i:Nat} {x:Operand} {r:List (Nat × Operand)} {ys:List (List β)} (hx:opv fr x=some (I0 (.slice none 0 0))) (hk:H8 x=true) (h:E86 fr 1 (fun (l:List β) _=>.list β eb cb l) r (i+1) ys) :
  E86 fr 1 (fun (l:List β) _=>.list β eb cb l) ((i,x)::r) i ([]::ys) :=
 ⟨rfl,hk,_,[],ys,hx,rfl,fun rd G us ha=>by
  cases us with
  | nil=>exact ha.elim
  | cons u us =>
   cases us with
   | cons _ _=>exact ha.2.elim
   | nil =>
    refine ⟨?_,trivial⟩
    have:u=.slice none 0 0:=ha.1.1
    rw [this]
    exact I5 β eb cb,rfl,h⟩
class TyArr (P:Program) (t:TypeId) (e:outParam TypeId) (n:outParam Nat) (es:outParam Nat):Prop where
 out:P.underlying t=some (.array n e)∧(P.info? e).map (·.size)=some es
theorem L4 {x y:Operand} {t e:TypeId} {n es k off:Nat} {ki:IntKind} {i:Int} [ht:TyArr P t e n es] (hx:opv fr x=some (.s (.one (.ref k off)))) (hy:opv fr y=some (I0 (.int ki i))) (h0:0≤i) (h1:i < n) :
  Neu P ⟨dst,.indexAddr t x y,ty,pos,af,gd⟩ fr ob (fun s'=>s'=.s (.one (.ref k (off+i.toNat*es)))) :=
 E7 fun S G a w h=>by
  obtain ⟨b,hg,hu⟩:=I1 h hx
  refine ⟨.pointer (some ⟨b,off+i.toNat*es,none⟩),?_,b,hg,rfl⟩
  simp only [execOp,hu,F6 h hy]
  refine L3 ?_
  have hb:0≤i∧i < (n:Int):=⟨h0,h1⟩
  simp [Instr.indexAt,Instr.sureAddr,run_underlying ht.out.1,asIntOf,hb,J0 ht.out.2,Addr.add_lit]
theorem E19 {f g:Nat→Option (Nat × Nat)}:∀(ps:List (Nat × Value)) (cs:Array Value),(∀p∈ps,f p.1=g p.1)→Instr.fill f cs ps=Instr.fill g cs ps
 | [],_,_=>rfl
 | (i,v)::r,cs,h=>by
  have h0:f i=g i:=h (i,v) List.mem_cons_self
  unfold Instr.fill
  rw [h0]
  cases g i with
  | none=>rfl
  | some q =>
   obtain ⟨off,sz⟩:=q
   dsimp only
   split
   ·rfl
   ·exact E19 r _ fun p hp=>h p (List.mem_cons_of_mem _ hp)
theorem E20 {fr:Fr} {offs:List (Nat × Nat)}:∀{ps:List (Nat × Operand)} {ts ts':List TC},A28 fr offs ps ts=some ts'→∀p∈ps,p.1 < offs.length
 | [],_,_,_,p,hp=>by cases hp
 | (i,x)::r,ts,ts',h,p,hp=>by
  simp only [A28] at h
  split at h
  ·rename_i off sz s h1 h2
   have hi:i < offs.length:=(List.getElem?_eq_some_iff.1 h1).1
   rcases List.mem_cons.1 hp with rfl | hp
   ·exact hi
   ·cases hc:(Nat.beq s.cells.length sz&&H8 x&&Nat.ble (off+sz) ts.length)
    ·rw [hc] at h;cases h
    ·rw [hc] at h;exact E20 h p hp
  ·cases h
class TyArrZ (P:Program) (t:TypeId) (zs:outParam (List Value)) (offs:outParam (List (Nat × Nat))):Prop where
 out:∃n e es z,P.underlying t=some (.array n e)∧(P.info? t).bind (·.zero)=some z∧z.cells.toList=zs∧zs.all (·.oneCell')=true∧(P.info? e).map (·.size)=some es∧offs=(List.range n).map fun i=>(i*es,es)
theorem C18 {t:TypeId} {zs:List Value} {offs:List (Nat × Nat)} {parts:Array (Nat × Operand)} {ts:List TC} [ht:TyArrZ P t zs offs] (hb:A28 fr offs parts.toList (zs.map fun c=>.p (.v c))=some ts) :
  Neu P ⟨dst,.build t parts,ty,pos,af,gd⟩ fr ob (fun s'=>s'=.s (.agg ts)) :=
 E7 fun S G a w h=>by
  obtain ⟨n,e,es,z,h1,h2,h3,h4,h5,h6⟩:=ht.out
  obtain ⟨cs',hf,hc⟩:=D98 h offs parts.toList _ ts z.cells hb (by rw [h3];exact c5 _ h4)
  refine ⟨.agg cs',?_,cs'.toList,by simp,hc⟩
  have hin:=E20 hb
  have hcg:Instr.fill (fun i=>some (i*es,es)) z.cells (parts.toList.map fun x=>(x.1,a.eval x.2))=some cs':=by
   rw [←hf]
   refine E19 _ _ fun p hp=>?_
   obtain ⟨q,hq,rfl⟩:=List.mem_map.1 hp
   have hi:=hin q hq
   rw [h6] at hi ⊢
   rw [J85,J96] at hi
   simp [hi]
  simp only [execOp]
  refine L3 ?_
  have hp:(parts.map fun x=>(x.1,a.eval x.2)).toList=parts.toList.map fun x=>(x.1,a.eval x.2):=by simp
  simp only [Instr.build,Sem.run_bind,S7 h2,Result.andThen_ok,run_underlying h1,J0 h5]
  rw [show (parts.map fun (x:Nat × Operand)=>match x with | (i,x)=>(i,a.eval x))=parts.map fun x=>(x.1,a.eval x.2) from rfl,hp,hcg]
  rfl
end
end Go.AL
namespace Go.AL
open Go Go.RowKit
set_option linter.unusedVariables false
section
variable {P:Program} {dst:Option Tmp} {ty:TypeId} {pos:String} {af:Array Edge} {gd:Option (Nat × Bool)} {fr:Fr} {ob:Obs}
theorem n_boxE {x:Operand} {e:TypeId} {c:Cell} (hx:opv fr x=some (.s (.one (.p c)))) (hc:H8 x=true) :
  Neu P ⟨dst,.box e x,ty,pos,af,gd⟩ fr ob (fun s'=>s'=.s (.one (.eref Unit 1 (fun _ _=>c) () 0))):=by
 intro S G a w h
 have hr:(SV.s (.one (.p c))).rep (E8 (Mut S ob G) w) G (a.eval x):=R7 h hx hc
 have hr1:c.rep (E8 (Mut S ob G) w) (a.eval x):=hr
 have h1:=Cell.rep_one hr1
 have hcells:(a.eval x).cells=#[a.eval x]:=by
  generalize a.eval x=u at h1
  cases u<;>first | rfl | simp [Value.oneCell'] at h1
 have hxw:Below w.heap.size w (w.alloc (.cells (a.eval x).cells e)):=(Below.refl _ _).alloc (Nat.le_refl _) _
 refine J1 (w':=w.alloc (.cells (a.eval x).cells e)) (v:=.pointer (some ⟨w.heap.size,0,none⟩)) ?_ ⟨hxw,_,rfl,w.heap.size,0,rfl,?_⟩
 ·simp [execOp,Instr.box,newVar,newRow]
 ·intro j hj
  obtain rfl:j=0:=by omega
  refine ⟨a.eval x,⟨?_,fun hm=>absurd (h.mut_lt hm) (Nat.lt_irrefl _)⟩,Cell.rep_mono (fun _ _ _ hh=>A72 hxw hh) _ _ hr1⟩
  exact N4 (heap_alloc_new w _) (by simp [hcells])
theorem m9 {x:Operand} {e:TypeId} {s:S1} {cs:List Cell} (hx:opv fr x=some (.s s)) (hc:H8 x=true) (hp:A00 s.cells=some cs) :
  Neu P ⟨dst,.box e x,ty,pos,af,gd⟩ fr ob (fun s'=>s'=.s (.one (.eref Unit cs.length (fun _ j=>cs.getD j (.v undef)) () 0))):=by
 intro S G a w h
 have hr:(SV.s s).rep (E8 (Mut S ob G) w) G (a.eval x):=R7 h hx hc
 have hcs:=c6 hp (J39 hr)
 have hxw:Below w.heap.size w (w.alloc (.cells (a.eval x).cells e)):=(Below.refl _ _).alloc (Nat.le_refl _) _
 refine J1 (w':=w.alloc (.cells (a.eval x).cells e)) (v:=.pointer (some ⟨w.heap.size,0,none⟩)) ?_ ⟨hxw,_,rfl,w.heap.size,0,rfl,?_⟩
 ·simp [execOp,Instr.box,newVar,newRow]
 ·intro j hj
  obtain ⟨z,hz1,hz2⟩:=hcs.get j _ (J60 hj)
  refine ⟨z,⟨N4 (heap_alloc_new w _) (by rw [Nat.zero_add];simpa using hz1),fun hm=>absurd (h.mut_lt hm) (Nat.lt_irrefl _)⟩,?_⟩
  show (cs.getD j (.v undef)).rep _ z
  rw [show cs.getD j (.v undef)=cs[j] by simp [J65,hj]]
  exact Cell.rep_mono (fun _ _ _ hh=>A72 hxw hh) _ _ hz2
theorem D38 {f:FuncId} {x:Operand} {α:Type} {ec:Nat} {c:α→Nat→Cell} {v:α} (hx:opv fr x=some (.s (.one (.eref α ec c v 0)))) :
  Neu P ⟨dst,.makeFunc (.func f) #[] #[x],ty,pos,af,gd⟩ fr ob (fun s'=>s'=.s (.one (.fncE f α ec c v))) :=
 E7 fun S G a w h=>by
  obtain ⟨b,o,hu,hr⟩:=I1 h hx
  refine ⟨.func (.func f) #[] #[a.eval x],?_,b,o,?_,hr⟩
  ·simp [execOp,Instr.makeFunc]
  ·rw [hu];rfl
theorem n_callE {f:FuncId} {g:Operand} {xs:Array Operand} {ats:Array TypeId} {α:Type} {ec:Nat} {c:α→Nat→Cell} {v:α} {args:List S1} {c0:Cell}
  (hf:Met P f (args++[.one (.eref α ec c v 0)]) [] [] [] (fun rs ob'=>rs=[.one (.p c0)]∧ob'=[])) (hg:opv fr g=some (.s (.one (.fncE f α ec c v)))) (ha:A05 fr xs.toList=some args) (hc:xs.toList.all H8=true) :
  Neu P ⟨dst,.call ⟨.value g,xs,ats⟩,ty,pos,af,gd⟩ fr ob (fun s'=>s'=.s (.one (.p c0))):=by
 intro S G a w h
 obtain ⟨b,o,hgv,hrd⟩:=I1 h hg
 have hvals:=c8 h xs.toList args ha hc
 have hvals2:All2 (S1.rep (E8 (Mut S ob G) w) G) (args++[.one (.eref α ec c v 0)]) (xs.toList.map a.eval++[Value.pointer (some ⟨b,o,none⟩)]):=hvals.append ⟨⟨b,o,rfl,hrd⟩,trivial⟩
 let S':Ctx:={ S with w0:=w,M0:=fun b i=>Mut S ob G b i,io:=fun _=>False }
 have hhigh:High ([]:Fr):=fun i s hi=>by cases hi
 have hgrd:Grd P (fun _=>False) w:=by
  obtain ⟨wg,h1,h2,h3⟩:=h.grd
  refine ⟨wg,h1,Nat.le_trans h2 h.size,fun j hj=>?_⟩
  obtain ⟨h4,h5⟩:=h3 j hj
  exact ⟨(h.keep j (Nat.lt_of_lt_of_le hj h2) h5).trans h4,fun e=>e⟩
 have hs:Sim P S' [] [] G a w:={ nt:=h.nt,ntb:=h.ntb,defers:=h.defers,os:=rfl,tape:=rfl,output:=rfl,size:=Nat.le_refl _,keep:=fun _ _ _=>rfl,m0:=fun b i hm=>h.mut_lt hm,m0io:=fun _ _ _ e=>e,grd:=hgrd,pin:=h.pin,old:=fun _ _ _ e=>(by cases e),dis:=fun _ _ _ _ _ e=>(by cases e),obs:=fun _ _ e=>(by cases e),facts:=fun _ _ e=>(by cases e) }
 have hrd0:∀b i z,E8 (Mut S ob G) w b i z→E8 (Mut S' [] G) w b i z:=fun b i z hr=>⟨hr.1,fun hm=>hr.2 (by
  rcases hm with hm | ⟨k,o,hk,_⟩
  ·exact hm
  ·cases hk)⟩
 have hcalls:=hf.2 hhigh S' G a w _ hs (hvals2.mono fun _ _=>S1.rep_mono hrd0)
 unfold Does
 have he:(execOp a.eval ⟨dst,.call ⟨.value g,xs,ats⟩,ty,pos,af,gd⟩).run P w=.ok (.enter f (xs.toList.map a.eval++[Value.pointer (some ⟨b,o,none⟩)]).toArray) w:=by
  have:=N5 (P:=P) (f:=f) (args:=(xs.toList.map a.eval++[Value.pointer (some ⟨b,o,none⟩)]).toArray) (w:=w) hf.1
  simp only [execOp,resolve,hgv,Deferred.ofValue,Sem.run_bind,Sem.run_pure,Result.andThen_ok,invoke]
  rw [show (#[]:Array Value)++Array.map a.eval xs++#[Value.pointer (some ⟨b,o,none⟩)]=(xs.toList.map a.eval++[Value.pointer (some ⟨b,o,none⟩)]).toArray by obtain ⟨l⟩:=xs;simp]
  exact this
 rw [he]
 refine hcalls.mono ?_
 rintro e w' ⟨v',rs,ob',G',rfl,⟨rfl,rfl⟩,hres,hs'⟩
 refine ⟨v',rfl,⟨hs'.os,hs'.tape,hs'.output,hs'.size,fun j hj=>hs'.keep j hj (fun e=>e)⟩,_,rfl,?_⟩
 have hres1:c0.rep (E8 (Mut S' [] G') w') v':=hres
 refine Cell.rep_mono (fun b i z hr=>⟨hr.1,fun hm=>hr.2 (.inl hm)⟩) _ _ hres1
theorem RetOk.s1 {fn:Func} {c:Cell} (h:RetOk P fn fr ob [.one c]):RetS P fn fr ob [.one (.p c)]:=fun S G a w hs=>let ⟨v,h1,h2⟩:=h S G a w hs;⟨v,h1,h2.sv⟩
theorem RetOk.s2 {fn:Func} {c c':Cell} (h:RetOk P fn fr ob [.one c,.one c']):RetS P fn fr ob [.one (.p c),.one (.p c')]:=fun S G a w hs=>let ⟨v,h1,h2⟩:=h S G a w hs;⟨v,h1,h2.sv⟩
end
end Go.AL
namespace Go.AL
open Go Go.RowKit
set_option linter.unusedVariables false
section
variable {P:Program} {dst:Option Tmp} {ty:TypeId} {pos:String} {af:Array Edge} {gd:Option (Nat × Bool)} {fr:Fr} {ob:Obs} {nt:Nat}
theorem F17 (k:Nat) {x y:Operand} {t tn e:TypeId} {ec bytes:Nat} {z:Value} {kn:IntKind} {n:Nat} [ht:TySl P t e ec bytes] [hn:TyInt P tn kn] [hz:TyZero P e z] (hx:opv fr x=some (I0 (.slice none 0 0))) (hy:opv fr y=some (I0 (.int .i64 n))) (h0:0 < n) (hbig:n≤1048576)
  (hk:B4 ob k=none) (hp:Nat.blt k 1000000=true) :
  EffV P ⟨dst,.call ⟨.builtin .append,#[x,y],#[t,tn]⟩,ty,pos,af,gd⟩ fr ob (.s (.one (.mut k))) (Fr.forget k fr) ((k,.grow e Unit ec (fun _ j=>.v (z.cells.getD j undef)) (List.replicate n ()))::Obs.forget k ob):=by
 intro S G a w h
 have hec:=ht.out.2.2.1
 cases hi:P.info? e with
 | none=>have:=hz.out.1;simp [hi] at this
 | some i =>
 have hiz:i.zero=some z:=by have:=hz.out.1;simpa [hi] using this
 have hsz:i.size=ec∧i.bytes=bytes:=by have:=ht.out.2.1;simpa [hi] using this
 have hb4:=ht.out.2.2.2.1
 have hzc:z.cells.size=ec:=by have:=ht.out.2.2.2.2;simpa [hi,hiz] using this
 have hmul:n*i.bytes≤1048576*4096:=Nat.mul_le_mul hbig (by rw [hsz.2];exact hb4)
 have hrun:=Lib.run_append_nil_zeros w t tn ty e i z .i64 kn ht.out.1 hn.out hi hiz n h0 (by rw [hsz.1];exact hec) (by omega) (by omega)
 obtain ⟨gc,hgc⟩:∃gc,gc=grownCap w n 0 e:=⟨_,rfl⟩
 have hge:=grownCap_ge w n 0 e
 have hcm:=grownCap_le_maxLen w n 0 e (by unfold maxLen;omega)
 rw [←hgc] at hrun hge hcm
 obtain ⟨cs,hcs⟩:∃cs,cs=Builtin.zeroCells z.cells n++Builtin.zeroCells z.cells (gc - n):=⟨_,rfl⟩
 rw [←hcs] at hrun
 obtain ⟨ws,hws⟩:∃ws,ws=(Builtin.zeroCells z.cells n).toList:=⟨_,rfl⟩
 have hwl:ws.length=n*ec:=by rw [hws,Array.length_toList,size_zeroCells,hzc]
 have hown:(w.drew.alloc (.cells cs e)).ownsRow S.B e ec (.slice (some ⟨w.heap.size,0,none⟩) n gc) n ws:=by
  refine ⟨hwl,.inr ⟨w.heap.size,gc,cs,rfl,h.size,heap_alloc_new w.drew _,hge,hcm,?_,?_⟩⟩
  ·rw [hcs,Array.size_append,size_zeroCells,size_zeroCells,hzc,←J79]
   congr 1
   omega
  ·rw [hcs,Array.toList_append,←hws,←hwl];exact List.take_left
 have hxw:Below w.heap.size w (w.drew.alloc (.cells cs e)):=⟨rfl,rfl,rfl,by simp,fun k hk=>heap_alloc_old w.drew _ hk⟩
 have hu:∀b,blk (.slice (some ⟨w.heap.size,0,none⟩) n gc)=some b→w.heap.size≤b:=by intro b hb;simp [blk] at hb;omega
 refine J1 (w':=w.drew.alloc (.cells cs e)) (v:=.slice (some ⟨w.heap.size,0,none⟩) n gc) (by simp [execOp,resolve,invoke,builtin,F6 h hx,F6 h hy,hrun]) ?_
 refine ⟨upd G k (.slice (some ⟨w.heap.size,0,none⟩) n gc),h.new (by simpa using hp) hk (o:=.grow e Unit ec (fun _ j=>.v (z.cells.getD j undef)) (List.replicate n ())) hxw hu ?_,(I3 _ _ _).symm,rfl⟩
 refine ⟨ws,by rw [J90];exact hown,by rw [J90];omega,fun i hi j hj=>?_⟩
 rw [J90] at hi
 have hlt:i*ec+j < n*ec:=by
  have:(i+1)*ec≤n*ec:=J72 _ hi
  rw [J79,Nat.one_mul] at this;omega
 have hmod:(i*ec+j) % ec=j:=by rw [Nat.add_comm,Nat.add_mul_mod_self_right];exact Nat.mod_eq_of_lt hj
 have hjz:j < z.cells.size:=by rw [hzc];exact hj
 have hgd:z.cells.getD j undef=z.cells[j]:=by rw [Array.getD_eq_getD_getElem?,Array.getElem?_eq_getElem hjz];rfl
 refine ⟨z.cells.getD j undef,?_,rfl,?_⟩
 ·rw [hws,hgd]
  simp only [Builtin.zeroCells,Array.toList_map,Array.toList_range,K02,hzc]
  rw [List.getElem?_range hlt,Option.map_some,hmod,getElem!_pos z.cells j hjz]
 ·rw [hgd]
  exact List.all_eq_true.1 hz.out.2 _ (by simp)
theorem J49 {k:Nat} {e:TypeId} {α:Type} (β:Type) {ec:Nat} {c:α→Nat→Cell} (c':β→Nat→Cell) (hk:B4 ob k=some (.grow e α ec c [])):Sees P nt fr ob fr ((k,.grow e β ec c' [])::ob):=by
 intro S G a w hn h
 refine ⟨G,h.retold (o':=.grow e β ec c' []) hk (fun b i ho=>⟨ho.1,trivial⟩) ?_⟩
 rintro rd ⟨vs,hown,_,_⟩
 exact ⟨vs,hown,by simp,fun i hi=>absurd hi (by simp)⟩
end
end Go.AL
namespace Go.AL
open Go Go.RowKit
set_option linter.unusedVariables false
section
variable {P:Program} {nt:Nat} {fr:Fr} {ob:Obs}
theorem J50 {t:Nat} (k:Nat) (α:Type) (ec:Nat) (c:α→Nat→Cell) (e:TypeId) (ht:E6 fr t=some (.s (.one (.p (.v (.slice none 0 0)))))) (hk:B4 ob k=none) (hp:Nat.blt k 1000000=true) :
  Sees P nt fr ob ((t,.s (.one (.buf k α ec c [])))::Fr.forget k fr) ((k,.spare 0 ec e)::Obs.forget k ob):=by
 intro S G a w hn h
 have h6:=h.new (by simpa using hp) (o:=.spare 0 ec e) (u:=.slice none 0 0) (w1:=w) hk (Below.refl _ _) (fun b hb=>by simp [blk] at hb) ⟨[],World.ownsRow_nil w _ _ _⟩
 refine ⟨_,{ h6 with facts:=fun i s hi=>?_ }⟩
 by_cases he:t=i
 ·subst he
  rw [E1] at hi
  cases hi
  have hv:=(h.facts _ _ ht).1
  rw [hv]
  exact ⟨(I3 _ _ _).symm,I5 α ec c⟩
 ·rw [C7 he] at hi
  exact h6.facts i s hi
def retOnly (Q:Post):Post
 | .ret,fr,ob=>Q .ret fr ob
 | _,_,_=>False
def IdleFn (P:Program) (f:FuncId) (n:Nat):Prop :=
 ∀(vs:List Value) (w:World),vs.length=n→(callFunc f vs.toArray).run P w=.ok (.enter f vs.toArray) w∧CallsDIn Fence.wide 0 P f vs.toArray .returning w (fun e u' w'=>(∃v,e=.returned v)∧u'=.returning∧w'=w)
theorem IdleFn.idle {f:FuncId} {n:Nat} (h:IdleFn P f n) {vs:List Value} (hl:vs.length=n) (ds:List Deferred) (w:World) :
  Idle P ({ target:=.fn (.func f) vs.toArray,args:=#[] }::ds) ds w w:=by
 intro fn tmps R hR
 obtain ⟨hc,hd⟩:=h vs w hl
 refine ⟨by simp,.inr ⟨fun h=>by simp [Fence.wide] at h,.func f,vs.toArray,f,vs.toArray,rfl,?_,fun _ _=>trivial,?_⟩⟩
 ·simp only [invoke]
  rw [show (#[]:Array Value)++vs.toArray=vs.toArray by simp]
  exact hc
 ·refine CallsDIn.mono hd ?_
  rintro e u' w' ⟨⟨v,rfl⟩,rfl,rfl⟩
  exact hR
theorem I03 {id t f:Nat} {caps:List Operand} {nc:List (Nat × Nat)} {ty1 ty2:TypeId} {pos1 pos2:String} {af1 af2:Array Edge} {ats:Array TypeId} {rest:Code} {Q:Post}
  (h2:B38 fr caps=some nc) (hd:Nat.blt t nt=true) (hf:IdleFn P f nc.length)
  (k:WpC P nt rest ((t,.s (.one (.clo f [] nc)))::fr) ob (retOnly Q)) :
  WpC P nt (.seq (.region id #[⟨some t,.makeFunc (.func f) #[] caps.toArray,ty1,pos1,af1,none⟩,⟨none,.defer ⟨.value (.tmp t),#[],ats⟩,ty2,pos2,af2,none⟩] false) rest) fr ob Q:=by
 intro S G a w hn hs
 refine wp_seq (wp_region_lit (l:=[_,_]) ?_)
 refine wpList_plain J fun K hK=>L0 (m8 (P:=P) (first:=[]) (cap:=caps) (nf:=[]) (nc:=nc) J h2 S G a w hs) ?_
 rintro v w' ⟨hx,s,rfl,hv⟩
 have hlt:t < S.nt:=by rw [hn];simpa using hd
 have hs1:=(hs.ext hx).put hlt hv
 refine hK _ _ ?_
 refine wpList_plain rfl fun K' hK'=>?_
 obtain ⟨us,vs,rfl,hu,hvs⟩:=hv
 have hus:us=[]:=by cases us with | nil=>rfl | cons _ _=>exact hu.elim
 subst hus
 have hvl:vs.length=nc.length:=hvs.length.symm
 have hev:(a.put (some t) (.func (.func f) (List.toArray []) vs.toArray)).eval (.tmp t)=.func (.func f) #[] vs.toArray:=by
  have hsz:t < a.tmps.size:=by rw [hs.nt];exact hlt
  simp [Act.eval,Act.put,hsz]
 unfold Oper.wp
 have hrun:(execOp (a.put (some t) (.func (.func f) (List.toArray []) vs.toArray)).eval ⟨none,.defer ⟨.value (.tmp t),#[],ats⟩,ty2,pos2,af2,none⟩).run P w'=.ok (.defer { target:=.fn (.func f) vs.toArray,args:=#[] }) w':=by
  simp [execOp,resolve,hev,Deferred.ofValue,Sem.run_bind,Sem.run_pure,Result.andThen_ok]
 rw [hrun]
 refine hK' _ _ ?_
 refine wpList_nil ?_
 obtain ⟨d,hdd⟩:∃d:Deferred,d={ target:=.fn (.func f) vs.toArray,args:=#[] }:=⟨_,rfl⟩
 rw [←hdd]
 have hs2:Sim P { S with df:=d::S.df } ((t,.s (.one (.clo f [] nc)))::fr) ob G { tmps:=(a.put (some t) (.func (.func f) (List.toArray []) vs.toArray)).tmps,defers:=d::a.defers } w' :=
  { hs1 with defers:=by show d::a.defers=d::S.df;rw [hs.defers] }
 refine wp_mono (k { S with df:=d::S.df } G _ w' hn hs2) ?_
 rintro e a2 w2 ⟨fr2,ob2,G2,hq,hx2⟩
 cases e with
 | ret =>
  refine ⟨fr2,ob2,G2,hq,.inr ⟨rfl,?_⟩⟩
  have hid:∀w,Idle P (d::S.df) S.df w w:=fun w=>by rw [hdd];exact hf.idle hvl S.df w
  rcases hx2 with h | ⟨_,ds,w3,h,hi⟩
  ·exact ⟨d::S.df,w2,h,hid w2⟩
  ·exact ⟨ds,w3,h,fun fn tmps R hR=>hi fn tmps R (hid w3 fn tmps R hR)⟩
 | _=>exact hq.elim
end
section
variable {P:Program} {dst:Option Tmp} {ty:TypeId} {pos:String} {af:Array Edge} {gd:Option (Nat × Bool)} {fr:Fr} {ob:Obs}
theorem I42 (k:Nat) {t e:TypeId} {ec bytes n:Nat} {parts:Array (Nat × Operand)} {α:Type} {c:α→Nat→Cell} {ys:List α} [ht:TySl P t e ec bytes] (hb:E86 fr ec c parts.toList 0 ys) (hn:parts.toList.length=n) (hbig:Nat.ble n 100000=true) (hecb:Nat.ble ec 100=true)
  (hk:B4 ob k=none) (hp0:Nat.blt k 1000000=true):EffV P ⟨dst,.buildSlice t n parts,ty,pos,af,gd⟩ fr ob (.s (.one (.mut k))) (Fr.forget k fr) ((k,.grow e α ec c ys)::Obs.forget k ob):=by
 intro S G a w h
 have hp0:k < 1000000:=by simpa using hp0
 have hn':n≤100000:=by simpa using hbig
 have hec':ec≤100:=by simpa using hecb
 have hmul:n*ec≤100000*100:=Nat.mul_le_mul hn' hec'
 obtain ⟨_,_,_,_,hzero⟩:=ht.out
 cases hi:P.info? e with
 | none=>simp [hi] at hzero
 | some i =>
 cases hz:i.zero with
 | none=>simp [hi,hz] at hzero
 | some z =>
 have hzv:(P.info? e).bind (·.zero)=some z:=by simp [hi,hz]
 let cs0:Array Value:=(Array.range (n*ec)).map ((if n*ec=0 then #[] else z.cells)[· % (if n*ec=0 then #[] else z.cells).size]!)
 have hcs0:cs0.size=n*ec:=by simp [cs0]
 obtain ⟨vs,hf,hvl,hyl,hv⟩:=C93 h parts.toList 0 ys cs0 hb (by rw [hcs0,hn,Nat.zero_add])
 simp only [Nat.zero_mul,List.take_zero,J93] at hf
 have hp:(parts.map fun x=>(x.1,a.eval x.2)).toList=parts.toList.map fun x=>(x.1,a.eval x.2):=by simp
 have hyn:ys.length=n:=by rw [hyl,hn]
 refine J1 (w':=w.alloc (.cells vs.toArray e)) (v:=.slice (some ⟨w.heap.size,0,none⟩) n n) ?_ ?_
 ·simp only [execOp]
  refine L3 ?_
  simp only [Instr.buildSlice,Sem.run_bind,run_underlying ht.out.1,Result.andThen_ok,J0 ht.size]
  rw [if_neg (by omega)]
  by_cases hz0:n*ec=0
  ·simp only [hz0,if_true,Sem.run_bind,Sem.run_pure,Result.andThen_ok]
   have hcs1:cs0=(Array.range 0).map ((#[]:Array Value)[· % (#[]:Array Value).size]!):=by simp only [cs0,hz0,if_true]
   rw [show (parts.map fun (x:Nat × Operand)=>match x with | (i,x)=>(i,a.eval x))=parts.map fun x=>(x.1,a.eval x.2) from rfl,hp,←hcs1,hf]
   simp [newRow]
  ·simp only [if_neg hz0,Sem.run_bind,S7 hzv,Sem.run_pure,Result.andThen_ok]
   have hcs1:cs0=(Array.range (n*ec)).map (z.cells[· % z.cells.size]!):=by simp only [cs0,if_neg hz0]
   rw [show (parts.map fun (x:Nat × Operand)=>match x with | (i,x)=>(i,a.eval x))=parts.map fun x=>(x.1,a.eval x.2) from rfl,hp,←hcs1,hf]
   simp [newRow]
 ·have hxw:Below w.heap.size w (w.alloc (.cells vs.toArray e)):=(Below.refl _ _).alloc (Nat.le_refl _) _
  have hu:∀b,blk (.slice (some ⟨w.heap.size,0,none⟩) n n)=some b→w.heap.size≤b:=by intro b hb;simp [blk] at hb;omega
  have hvn:vs.length=n*ec:=by rw [hvl,hn]
  have hown:(w.alloc (.cells vs.toArray e)).ownsRow S.B e ec (.slice (some ⟨w.heap.size,0,none⟩) n n) ys.length vs :=
   ⟨by rw [hvn,hyn],.inr ⟨w.heap.size,n,vs.toArray,by rw [hyn],h.size,heap_alloc_new w _,by rw [hyn];exact Nat.le_refl _,by unfold maxLen;omega,by simpa using hvn,by rw [hyn,←hvn];simp⟩⟩
  have hsim:=h.new hp0 hk (o:=.grow e α ec c ys) hxw hu ⟨vs,hown,by omega,fun m hm j hj=>by
   obtain ⟨zz,hz1,hz2⟩:=hv m hm j hj
   exact ⟨zz,hz1,Cell.rep_mono (fun _ _ _ hr=>h.rd_new hxw hu hr) _ _ hz2⟩⟩
  exact ⟨_,hsim,(I3 _ _ _).symm,rfl⟩
end
end Go.AL
namespace Go.AL
open Go Go.RowKit
set_option linter.unusedVariables false
section
variable {P:Program} {T:TypeId} {nt:Nat} {ops:Array Oper} {rest:List Oper} {fr:Fr} {ob:Obs} {Q:Post} {d:Nat}
theorem MetX.introH {f:FuncId} {fn:Func} {c:Code} {args:List S1} {gf:Fr} {ks:List Nat} {post:List S1→Obs→Prop} {pan:Int→Obs→Prop} (hf:P.funcs[f]?=some fn) (hname:(fn.name == "runtime.NumGoroutine")=false) (hb:fn.body=some c) (hlen:Nat.ble args.length fn.ntmps=true) (hnb:Nat.ble fn.ntmps 1000000=true)
  (h6:High gf→WpC P fn.ntmps c (m6 0 args++gf) ob (metXP P T fn ks gf post pan)):MetX P T f args gf ob ks post pan :=
 ⟨⟨fn,hf,hname,by simp [hb]⟩,fun hgf=>(MetX.intro hf hname hb hlen hnb (h6 hgf)).2 hgf⟩
def IdleP (P:Program) (ch:List PanicEntry) (ds ds0:List Deferred) (w w':World):Prop :=
 ∀(fn:Func) (tmps:Array Value) (R:Ending→World→Prop),LeavesInM Fence.wide 0 P fn tmps R ds0 .returning w'→LeavesInM Fence.wide 0 P fn tmps R ds (.panicking ch) w
def RecOf (P:Program) (S:Ctx) (Q:Post) (e:Exit) (a:Act) (w:World):Prop :=
 PostOf P S Q e a w∨∃ch fr ob G ds w',e=.panic ch∧a.defers=ds∧Q .ret fr ob∧Sim P { S with df:=ds } fr ob G a w'∧IdleP P ch ds S.df w w'
def RawC (P:Program) (nt:Nat) (c:Code) (fr:Fr) (ob:Obs) (Q:Post):Prop :=
 ∀S G a w,S.nt=nt→Sim P S fr ob G a w→c.wp P (RecOf P S Q) a w
theorem RawC.of {c:Code} (h:WpC P nt c fr ob Q):RawC P nt c fr ob Q:=fun S G a w hn hs=>wp_mono (h S G a w hn hs) fun _ _ _ hq=>.inl hq
end
end Go.AL
namespace Go.AL
open Go Go.RowKit
set_option linter.unusedVariables false
section
variable {P:Program} {dst:Option Tmp} {ty:TypeId} {pos:String} {af:Array Edge} {gd:Option (Nat × Bool)} {fr:Fr} {ob:Obs} {nt:Nat}
theorem f_makeG (k:Nat) {t e:TypeId} {ec bytes:Nat} {x y:Operand} {kx ky:IntKind} {n:Int} (α:Type) (c:α→Nat→Cell) (y0:α) {z:Value} [ht:TySl P t e ec bytes] [hzz:TyZero P e z]
  (hx:opv fr x=some (I0 (.int kx n))) (hy:opv fr y=some (I0 (.int ky n))) (h0:0≤n) (hn:n≤1073741824)
  (hy0:∀rd:Rd,All2 (Cell.rep rd) (cellsOf c y0 0 ec) z.cells.toList) (hf:(J6 k fr&&K0 k ob)=true) :
  EffV P ⟨dst,.makeSlice t x y,ty,pos,af,gd⟩ fr ob (.s (.one (.mut k))) fr ((k,.grow e α ec c (List.replicate n.toNat y0))::ob):=by
 simp only [J61] at hf
 obtain ⟨hf1,hf2⟩:=hf
 obtain ⟨hob,hk,hp0⟩:=H3 hf2
 have hfr:=V9 hf1
 have hz:((P.info? e).bind (·.zero)).map (fun z=>z.cells.toList)=some z.cells.toList:=by rw [hzz.out.1];rfl
 intro S G a w h
 obtain ⟨hts,hinfo,hec,hby,hzero⟩:=ht.out
 cases hi:P.info? e with
 | none=>simp [hi] at hinfo
 | some i =>
 simp [hi] at hinfo
 obtain ⟨hsz,hbytes⟩:=hinfo
 cases hz2:i.zero with
 | none=>simp [hi,hz2] at hzero
 | some z2 =>
 simp [hi,hz2] at hzero hz
 have hbig:(i.bytes:Int)*n≤281474976710656:=by
  have h1:(i.bytes:Int)≤4096:=by omega
  have h2:(i.bytes:Int)*n≤4096*1073741824:=by
   have:i.bytes*n.toNat≤4096*1073741824:=Nat.mul_le_mul (by omega) (by omega)
   have h3:((i.bytes*n.toNat:Nat):Int)≤((4096*1073741824:Nat):Int):=by exact_mod_cast this
   rw [Int.natCast_mul] at h3
   have h4:(n.toNat:Int)=n:=by omega
   rw [h4] at h3
   omega
  omega
 have hr:=run_make (P:=P) w t e i z2 hts hi hz2 kx ky n n h0 (Int.le_refl _) hbig (by omega)
 rw [hsz] at hr
 obtain ⟨cs,hcs⟩:∃cs,cs=madeCells z2.cells (n.toNat*ec):=⟨_,rfl⟩
 have hcl:cs.size=n.toNat*ec:=by rw [hcs];exact size_madeCells _ _
 rw [←hcs] at hr
 refine J1 (w':=w.alloc (.cells cs e)) (v:=.slice (some ⟨w.heap.size,0,none⟩) n.toNat n.toNat) ?_ ?_
 ·simp only [execOp,F6 h hx,F6 h hy]
  exact L3 hr
 ·have hxw:Below w.heap.size w (w.alloc (.cells cs e)):=(Below.refl _ _).alloc (Nat.le_refl _) _
  have hu:∀b,blk (.slice (some ⟨w.heap.size,0,none⟩) n.toNat n.toNat)=some b→w.heap.size≤b:=by intro b hb;simp [blk] at hb;omega
  have hrl:(List.replicate n.toNat y0).length=n.toNat:=J90
  have hown:(w.alloc (.cells cs e)).ownsRow S.B e ec (.slice (some ⟨w.heap.size,0,none⟩) n.toNat n.toNat) (List.replicate n.toNat y0).length cs.toList:=by
   rw [hrl]
   exact ⟨by simpa using hcl,.inr ⟨w.heap.size,n.toNat,cs,rfl,h.size,heap_alloc_new w _,Nat.le_refl _,by unfold maxLen;omega,hcl,(by rw [←hcl];exact J67)⟩⟩
  have hsim:=h.new hp0 hk (o:=.grow e α ec c (List.replicate n.toNat y0)) (u:=.slice (some ⟨w.heap.size,0,none⟩) n.toNat n.toNat) hxw hu ⟨cs.toList,hown,by rw [hrl];omega,fun m hm j hj=>by
   have hm':m < n.toNat:=by simpa using hm
   have hzl:=hy0 (E8 (Mut S ((k,Ob.grow e α ec c (List.replicate n.toNat y0))::Obs.forget k ob) (upd G k (.slice (some ⟨w.heap.size,0,none⟩) n.toNat n.toNat))) (w.alloc (.cells cs e)))
   have hget:(cellsOf c y0 0 ec)[j]?=some (c y0 j):=by
    have hlt:j < (cellsOf c y0 0 ec).length:=by rw [K2];exact hj
    rw [J60 hlt]
    have:=R9 c y0 ec 0 j _ (J60 hlt)
    rw [this.1,Nat.zero_add]
   obtain ⟨u,hu1,hu2⟩:=hzl.get j _ hget
   refine ⟨u,?_,by simpa using hu2⟩
   rw [Array.getElem?_toList,hcs,B90 hzero hm' hj,←Array.getElem?_toList,hz]
   exact hu1⟩
  rw [hfr,hob] at hsim
  exact ⟨_,hsim,(I3 _ _ _).symm,rfl⟩
end
theorem I43 {rd:Rd} {G:Gh} {v:Value}:∀(rs:List PV),(C44 rs).rep rd G v→ResRep rd rs v:=by
 have pur:∀cs:List Cell,A00 (cs.map TC.p)=some cs:=fun cs=>by
  induction cs with
  | nil=>rfl
  | cons c cs ih=>rw [J77,A00,ih];rfl
 have key:∀{p:PV} {u:Value},(p.s1).rep rd G u→p.rep rd u:=fun {p u} h=>by
  cases p with
  | one c=>exact h
  | agg cs =>
   obtain ⟨vs,h1,h2⟩:=h
   exact ⟨vs,h1,c6 (pur cs) h2⟩
 have all:∀(ps:List PV) (us:List Value),All2 (S1.rep rd G) (ps.map PV.s1) us→All2 (PV.rep rd) ps us:=fun ps=>by
  induction ps with
  | nil=>intro us h;cases us with | nil=>trivial | cons=>exact h.elim
  | cons p ps ih =>
   intro us h
   cases us with
   | nil=>exact h.elim
   | cons u us=>exact ⟨key h.1,ih us h.2⟩
 intro rs h
 match rs,h with
 | [p],h=>exact key h
 | [],⟨us,h1,h2⟩=>exact ⟨us,h1,all [] us h2⟩
 | p::q::r,⟨us,h1,h2⟩=>exact ⟨us,h1,all (p::q::r) us h2⟩
theorem J57 {P:Program} {f:FuncId} {args:List PV} {ks:List Nat} {mp:List S1→Obs→Prop} {post:List PV→Prop} (h:Met P f (args.map PV.s1) [] [] ks mp)
  (hp:∀rs ob',mp rs ob'→∃(k:Nat) (α:Type) (ec:Nat) (c:α→Nat→Cell) (xs:List α) (e:TypeId) (rs':List PV),ob'=[(k,.grow e α ec c xs)]∧Nat.blt 0 ec=true∧(D77 rs).freeze k α ec c xs=C44 rs'∧post rs'):FnOk P f args post:=by
 refine ⟨h.1,fun w M vals hg hM ha=>?_⟩
 let S:Ctx:={ w0:=w,M0:=M,io:=fun _=>False,nt:=0,pin:=fun _=>undef,gv:=fun _=>undef }
 obtain ⟨G,hG⟩:∃G:Gh,G=fun _=>undef:=⟨_,rfl⟩
 obtain ⟨a,ha0⟩:∃a:Act,a={ tmps:=#[],defers:=[] }:=⟨_,rfl⟩
 have hM':∀G b i,Mut S [] G b i↔M b i:=fun G b i=>⟨fun h=>h.elim id fun ⟨k,o,hk,_⟩=>(by cases hk),.inl⟩
 have hrd:∀G b i z,E8 M w b i z→E8 (Mut S [] G) w b i z:=fun G b i z hr=>⟨hr.1,fun hm=>hr.2 ((hM' G b i).1 hm)⟩
 have hs:Sim P S [] [] G a w:=by
  refine { nt:=by rw [ha0];rfl,ntb:=by show 0≤1000000;omega,defers:=by rw [ha0],os:=rfl,tape:=rfl,output:=rfl,size:=Nat.le_refl _,keep:=fun _ _ _=>rfl,m0:=hM,m0io:=fun _ _ _=>id,grd:=hg,pin:=fun _ _=>by rw [hG],old:=fun k o b hk=>(by cases hk),dis:=fun k k' o o' b hk=>(by cases hk),obs:=fun k o hk=>(by cases hk),facts:=fun i s hi=>by cases hi }
 have hvals:All2 (S1.rep (E8 (Mut S [] G) w) G) (args.map PV.s1) vals:=by
  have:∀(ps:List PV) (vs:List Value),All2 (PV.rep (E8 M w)) ps vs→All2 (S1.rep (E8 (Mut S [] G) w) G) (ps.map PV.s1) vs:=by
   intro ps
   induction ps with
   | nil=>intro vs h;cases vs with | nil=>trivial | cons=>exact h.elim
   | cons p ps ih =>
    intro vs h
    cases vs with
    | nil=>exact h.elim
    | cons v vs=>exact ⟨PV.rep_s1 (PV.rep_mono (hrd G) h.1),ih vs h.2⟩
  exact this args vals ha
 refine (h.2 (fun i s hi=>by cases hi) S G a w vals hs hvals).mono ?_
 rintro e w' ⟨v,rs,ob',G',rfl,hpost,hres,hs'⟩
 obtain ⟨k,α,ec,c,xs,el,rs',rfl,hec,hfr,hpp⟩:=hp rs ob' hpost
 have hs2:Sim P { S with gv:=fun _=>v } [(1000000,D77 rs)] [(k,.grow el α ec c xs)] G' a w':=by
  refine { hs' with facts:=fun i s hi=>?_ }
  by_cases e:1000000=i
  ·subst e
   rw [E1] at hi
   cases hi
   rw [Ctx.sl_ge (Nat.le_refl _)]
   exact hres
  ·rw [C7 e] at hi;cases hi
 have h3:=hs2.freezeG (k:=k) (by rw [E9]) (by simpa using hec)
 have h4:=h3.facts 1000000 (SV.freeze k α ec c xs (D77 rs)) (E1 _ _ _)
 rw [Ctx.sl_ge (Nat.le_refl _),hfr] at h4
 have h5:=I43 rs' h4
 refine ⟨v,rs',rfl,hpp,h5.mono (fun b i z hz=>⟨hz.1,fun hm=>hz.2 (.inl hm)⟩),⟨hs'.os,hs'.tape,hs'.output,hs'.size,fun k hk=>hs'.keep k hk id⟩⟩
end Go.AL
namespace Go.AL
open Go Go.RowKit
set_option linter.unusedVariables false
def FreeKs (ks:List Nat) (fr:Fr):Prop:=∀k,K8 ks k=true→J6 k fr=true
theorem FreeKs.nil {ks:List Nat}:FreeKs ks []:=fun _ _=>rfl
theorem FreeKs.cons {ks:List Nat} {i:Nat} {s:SV} {fr:Fr} (h1:∀k,K8 ks k=true→s.free k=true) (h2:FreeKs ks fr):FreeKs ks ((i,s)::fr):=fun k hk=>by
 simp only [J6,J61]
 exact ⟨h1 k hk,h2 k hk⟩
theorem E21 {k:Nat}:∀{F:Fr},(∀p∈F,p.2.free k=true)→J6 k F=true
 | [],_=>rfl
 | (i,s)::r,h=>by
  simp only [J6,J61]
  exact ⟨h (i,s) (List.mem_cons_self ..),E21 fun p hp=>h p (List.mem_cons_of_mem _ hp)⟩
theorem FreeKs.gf {ks K:List Nat} {gf:Fr} (h:∀k,K8 ks k=true→K8 K k=true):FreeKs ks (C1 K gf):=fun k hk=>E21 (Z0 (h k hk))
theorem FreeKs.eq:∀{ks:List Nat} {fr:Fr},FreeKs ks fr→C1 ks fr=fr
 | [],_,_=>rfl
 | k::ks,fr,h=>by
  show C1 ks (Fr.forget k fr)=fr
  rw [V9 (h k (hasN_iff.2 (List.mem_cons_self ..)))]
  exact FreeKs.eq fun j hj=>h j (hasN_iff.2 (List.mem_cons_of_mem _ (hasN_iff.1 hj)))
section
variable {P:Program} {T:TypeId} {nt:Nat} {ops:Array Oper} {rest:List Oper} {fr:Fr} {ob:Obs} {Q:Post} {d:Nat}
theorem Met.conv {f:FuncId} {args:List S1} {gf:Fr} {ks:List Nat} {post post':List S1→Obs→Prop} (h:Met P f args gf ob ks post) (hp:∀rs ob',post rs ob'→∃ob'',post' rs ob''∧∀k o,B4 ob'' k=some o→B4 ob' k=some o):Met P f args gf ob ks post' :=
 ⟨h.1,fun hg S G a w vals hs ha=>(h.2 hg S G a w vals hs ha).mono fun e w' ⟨v,rs,ob',G',h1,h2,h3,h4⟩=>by
  obtain ⟨ob'',p1,p2⟩:=hp rs ob' h2
  refine ⟨v,rs,ob'',G',h1,p1,SV.rep_mono (fun b i z hz=>⟨hz.1,fun hm=>hz.2 ?_⟩) h3,h4.weakenO p2⟩
  rcases hm with hm | ⟨k,o,hk,ho⟩
  ·exact .inl hm
  ·exact .inr ⟨k,o,p2 k o hk,ho⟩⟩
end
end Go.AL
