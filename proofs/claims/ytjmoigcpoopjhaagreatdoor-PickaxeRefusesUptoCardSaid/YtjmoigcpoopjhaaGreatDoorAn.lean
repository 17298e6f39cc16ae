/- The abstract logic, its third part. No project text. -/
import Derived.Test.YtjmoigcpoopjhaaGreatDoorAm
import Derived.Laws.StructEq
import Derived.Laws.Cover3
import Derived.MapKept
import Derived.Lib.AppendZeros
set_option linter.unusedSimpArgs false
attribute [local semireducible] Go.AL.Neu Go.AL.Eff Go.AL.EffV Go.AL.WpL Go.AL.WpC Go.AL.FnOk Go.AL.LexD Go.AL.Sees Go.AL.RetOk Go.AL.FnIo Go.AL.Met Go.AL.RetS
namespace Go.AL
open Go Go.RowKit
set_option linter.unusedVariables false
section
variable {P:Program} {nt:Nat} {ops:Array Oper}
def Told (U:Fr) (φ:Fa):Prop:=∀t s,E5 U t=some s→φ t=some s
def AnyC (P:Program) (nt:Nat) (ops:Array Oper) (T:Nat) (U:Fr) (ob ob':Obs) (E:Array Bool→Fa→Prop):Nat→Array Bool→Fa→Prop
 | 0,listed,φ=>(T∈Region.ready .any ops listed→Told U φ)∧T∈Region.ready .any ops listed∧(∀j∈Region.ready .any ops listed,j=T)∧E listed φ
 | fuel+1,listed,φ=>(T∈Region.ready .any ops listed→Told U φ)∧(∃p,p < T∧p∈Region.ready .any ops listed)∧∀i∈Region.ready .any ops listed,i≠T →
   ∃o s d,ops[i]?=some o∧o.dst=some d∧turns o.op=false∧YieldsN P nt ops o φ ob s∧YieldsN P nt ops o φ ob' s∧AnyC P nt ops T U ob ob' E fuel (listed.setIfInBounds i true) (r8 φ d s)
theorem AnyC.told {T:Nat} {U:Fr} {ob ob':Obs} {E:Array Bool→Fa→Prop} {fuel:Nat} {listed:Array Bool} {φ:Fa} (h:AnyC P nt ops T U ob ob' E fuel listed φ):T∈Region.ready .any ops listed→Told U φ:=by
 cases fuel<;>exact h.1
theorem S9 {fr:Fr} {ob:Obs} {dst:Option Tmp} {ty:TypeId} {pos:String} {af:Array Edge} {gd:Option (Nat × Bool)} {c x y:Operand} {b p:Bool} (hc:opv fr c=some (S0 b)) (hb:b=true) (hx:opv fr x=some (S0 p)) :
  Neu P ⟨dst,.pick c x y,ty,pos,af,gd⟩ fr ob (fun s'=>s'=S0 p) :=
 F5 fun S G a w h=>by
  have:=G5 h hc
  subst hb
  exact ⟨.bool p,by simp [execOp,this,asBool,G5 h hx],rfl,rfl⟩
theorem V5 {fr:Fr} {ob:Obs} {dst:Option Tmp} {ty:TypeId} {pos:String} {af:Array Edge} {gd:Option (Nat × Bool)} {c x y:Operand} {b p:Bool} (hc:opv fr c=some (S0 b)) (hb:b=false) (hx:opv fr y=some (S0 p)) :
  Neu P ⟨dst,.pick c x y,ty,pos,af,gd⟩ fr ob (fun s'=>s'=S0 p) :=
 F5 fun S G a w h=>by
  have:=G5 h hc
  subst hb
  exact ⟨.bool p,by simp [execOp,this,asBool,G5 h hx],rfl,rfl⟩
end
end Go.AL
namespace Go.AL
open Go Go.RowKit
end Go.AL
namespace Go.AL
open Go Go.RowKit
set_option linter.unusedVariables false
inductive CK | int (k:IntKind) | str | bool
def ckOf (P:Program) (t:TypeId):Option CK :=
 match P.underlying t with
 | some (.int k)=>some (.int k)
 | some .string=>some .str
 | some .bool=>some .bool
 | _=>none
def cmpFs (P:Program):Nat→List Field→List CK→Bool
 | _,[],[]=>true
 | i,f::fs,k::ks=>f.name != "_"&&(f.offset == i&&((match ckOf P f.type,k with | some (.int k),.int k'=>decide (k=k') | some .str,.str=>true | some .bool,.bool=>true | _,_=>false)&&cmpFs P (i+1) fs ks))
 | _,_,_=>false
class TyCmp (P:Program) (t:TypeId) (ks:outParam (List CK)):Prop where
 out:P.underlying t=some (.struct (P.fieldsOf t))∧(cmpFs P 0 (P.fieldsOf t).toList ks&&(!P.stoodInHeld t&&!P.eqGuardType P.depth t))=true
section
variable {P:Program} {dst:Option Tmp} {ty:TypeId} {pos:String} {af:Array Edge} {gd:Option (Nat × Bool)} {fr:Fr} {ob:Obs}
end
end Go.AL
namespace Go.AL
open Go Go.RowKit
set_option linter.unusedVariables false
theorem A83 {listed:Array Bool} {e j:Nat} (h:e≠j):(listed.setIfInBounds e true).getD j false=listed.getD j false:=by
 simp only [Array.getD_eq_getD_getElem?,Array.getElem?_setIfInBounds_ne h]
def A11:Op→List Nat
 | .store _ x y=>tmO x++tmO y
 | .box _ x=>tmO x
 | .makeSlice _ x y=>tmO x++tmO y
 | op=>D77 op
def svAt (sv:List SV) (i:Nat):SV:=sv.getD i .any
def J29:List Oper→List SV→Fr→Fr
 | o::l,s::sv,fr=>match o.dst with
  | some d=>(d,s)::J29 l sv fr
  | none=>J29 l sv fr
 | _,_,fr=>fr
abbrev Xe:=List (Nat × Bool × (Nat × Ob))
def xAt:Xe→Nat→Option (Bool × (Nat × Ob))
 | [],_=>none
 | (i,x)::r,e=>cond (Nat.beq i e) (some x) (xAt r e)
def obD (xe:Xe) (ob:Obs):List Nat→Obs
 | []=>ob
 | e::D=>match xAt xe e with
  | some x=>x.2::obD xe ob D
  | none=>obD xe ob D
def B30 (e:Nat):List Nat→List Nat
 | []=>[e]
 | d::D=>cond (Nat.blt d e) (e::d::D) (d::B30 e D)
def G4 (l:List Nat) (e:Nat):Bool:=l.any (Nat.beq e)
theorem hasN_iff {l:List Nat} {e:Nat}:G4 l e=true↔e∈l:=by
 unfold G4
 rw [List.any_eq_true]
 exact ⟨fun ⟨x,h,he⟩=>by rw [Nat.eq_of_beq_eq_true he];exact h,fun h=>⟨e,h,Nat.beq_refl e⟩⟩
def H43 (ops:Array Oper) (E:List Nat) (i:Nat) (D:List Nat):Bool:=!(G4 D i)&&((E.all fun j=>!(Bef ops i j)||G4 D j)&&D.all fun j=>!(Bef ops j i))
def B31:List Nat→List Nat→Bool
 | [],[]=>true
 | a::l,b::m=>Nat.beq a b&&B31 l m
 | _,_=>false
theorem D26:∀{l m:List Nat},B31 l m=true→l=m
 | [],[],_=>rfl
 | [],_::_,h=>by simp [B31] at h
 | _::_,[],h=>by simp [B31] at h
 | a::l,b::m,h=>by
  simp only [B31,L02] at h
  rw [Nat.eq_of_beq_eq_true h.1,D26 h.2]
def memM (M:List (List Nat)) (D:List Nat):Bool:=M.any (B31 D)
theorem H44 {M:List (List Nat)} {D:List Nat} (h:memM M D=true):D∈M:=by
 obtain ⟨x,h1,h2⟩:=List.any_eq_true.1 h
 rw [D26 h2];exact h1
def desc:List Nat→Bool
 | []=>true
 | a::l=>l.all (fun b=>Nat.blt b a)&&desc l
def B87:List Oper→List Nat
 | []=>[]
 | o::l=>match o.dst with
  | some d=>d::B87 l
  | none=>B87 l
def C92:List Nat→Bool
 | []=>true
 | a::l=>!(G4 l a)&&C92 l
section
variable {P:Program} {nt:Nat}
def EffQ (P:Program) (nt:Nat) (ops:Array Oper) (o:Oper) (U:Fr) (new:Bool) (ob:Obs) (x:Nat × Ob) (s:SV):Prop :=
 ∀φ,Told U φ→(new=true→J28 x.1 φ)→E83 P nt ops o φ ob (fun φ' ob''=>φ'=(match o.dst with | some d=>r8 φ d s | none=>φ)∧ob''=x::ob)
def Ob1 (P:Program) (nt:Nat) (l:List Oper) (sv:List SV) (xe:Xe) (fr:Fr) (ob:Obs) (i:Nat) (D:List Nat):Prop :=
 ∃o,l[i]?=some o∧((turns o.op=false∧Neu P o (b8 (J29 l sv fr) (A11 o.op)) (obD xe ob D) (fun s=>s=svAt sv i)) ∨
  ∃new x,xAt xe i=some (new,x)∧EffQ P nt l.toArray o (b8 (J29 l sv fr) (A11 o.op)) new (obD xe ob D) x (svAt sv i))
def Ob1s (P:Program) (nt:Nat) (l:List Oper) (sv:List SV) (xe:Xe) (fr:Fr) (ob:Obs):List (Nat × List Nat)→Prop
 | []=>True
 | (i,D)::r=>Ob1 P nt l sv xe fr ob i D∧Ob1s P nt l sv xe fr ob r
theorem Ob1s.get {l:List Oper} {sv:List SV} {xe:Xe} {fr:Fr} {ob:Obs}:∀{r:List (Nat × List Nat)},Ob1s P nt l sv xe fr ob r→∀p∈r,Ob1 P nt l sv xe fr ob p.1 p.2
 | [],_,p,hp=>by simp at hp
 | (i,D)::r,h,p,hp=>by
  rcases List.mem_cons.1 hp with rfl | hp
  ·exact h.1
  ·exact Ob1s.get h.2 p hp
theorem E88 {e:Nat} {listed:Array Bool} (hsz:e < listed.size) (hun:listed.getD e false=false):∀{E:List Nat},desc E=true→e∈E→E.filter (fun j=>(listed.setIfInBounds e true).getD j false)=B30 e (E.filter fun j=>listed.getD j false)
 | [],_,he=>by simp at he
 | d::E,hd,he=>by
  simp only [desc,L02] at hd
  have hlt:∀b∈E,b < d:=fun b hb=>by simpa using List.all_eq_true.1 hd.1 b hb
  have hsame:(listed.setIfInBounds e true).getD e false=true:=by simp [hsz]
  have hoth:∀j,j≠e→(listed.setIfInBounds e true).getD j false=listed.getD j false:=fun j hj=>A83 (Ne.symm hj)
  by_cases hde:d=e
  ·subst hde
   rw [List.filter_cons_of_pos (by exact hsame),List.filter_cons_of_neg (by rw [hun];simp)]
   have:E.filter (fun j=>(listed.setIfInBounds d true).getD j false)=E.filter fun j=>listed.getD j false:=by
    apply List.filter_congr
    intro j hj
    exact hoth j (by have:=hlt j hj;omega)
   rw [this]
   cases hE:E.filter fun j=>listed.getD j false with
   | nil=>rfl
   | cons a r =>
    have ha:a∈E:=(List.mem_filter.1 (by rw [hE];exact List.mem_cons_self ..)).1
    have hba:Nat.blt a d=true:=by simpa using hlt a ha
    unfold B30;rw [hba];rfl
  ·have heE:e∈E:=(List.mem_cons.1 he).resolve_left (fun q=>hde q.symm)
   have ih:=E88 hsz hun hd.2 heE
   have hed:Nat.blt d e=false:=by
    have:=hlt e heE
    cases hb:Nat.blt d e
    ·rfl
    ·rw [Nat.blt_eq] at hb;omega
   by_cases hl:listed.getD d false=true
   ·rw [List.filter_cons_of_pos (by rw [hoth d hde];exact hl),List.filter_cons_of_pos (by exact hl),ih]
    show _=B30 e (d::_)
    conv=>rhs;unfold B30
    rw [hed];rfl
   ·rw [List.filter_cons_of_neg (by rw [hoth d hde];exact hl),List.filter_cons_of_neg (by exact hl),ih]
theorem D27:∀{l:List Oper} {j:Nat} {o:Oper} {d:Nat},l[j]?=some o→o.dst=some d→d∈B87 l
 | [],j,o,d,h,_=>by simp at h
 | o'::l,0,o,d,h,hd=>by
  simp at h;subst h
  unfold B87;rw [hd];exact List.mem_cons_self ..
 | o'::l,j+1,o,d,h,hd=>by
  have:=D27 (l:=l) (j:=j) (by simpa using h) hd
  unfold B87
  split
  ·exact List.mem_cons_of_mem _ this
  ·exact this
theorem E89:∀{l:List Oper} {i j:Nat} {o o':Oper} {d:Nat},C92 (B87 l)=true→l[i]?=some o→l[j]?=some o'→o.dst=some d→o'.dst=some d→i=j
 | [],i,j,o,o',d,_,h,_,_,_=>by simp at h
 | q::l,0,0,_,_,_,_,_,_,_,_=>rfl
 | q::l,0,j+1,o,o',d,hn,h1,h2,h3,h4=>by
  simp at h1;subst h1
  have hm:=D27 (l:=l) (j:=j) (by simpa using h2) h4
  unfold B87 at hn;rw [h3] at hn
  simp only [C92,L02,Bool.not_eq_true'] at hn
  rw [hasN_iff.2 hm] at hn;exact absurd hn.1 (by simp)
 | q::l,i+1,0,o,o',d,hn,h1,h2,h3,h4=>by
  simp at h2;subst h2
  have hm:=D27 (l:=l) (j:=i) (by simpa using h1) h3
  unfold B87 at hn;rw [h4] at hn
  simp only [C92,L02,Bool.not_eq_true'] at hn
  rw [hasN_iff.2 hm] at hn;exact absurd hn.1 (by simp)
 | q::l,i+1,j+1,o,o',d,hn,h1,h2,h3,h4=>by
  have:C92 (B87 l)=true:=by
   unfold B87 at hn
   split at hn
   ·simp only [C92,L02] at hn;exact hn.2
   ·exact hn
  exact congrArg (·+1) (E89 this (by simpa using h1) (by simpa using h2) h3 h4)
structure InvC (l:List Oper) (sv:List SV) (fr:Fr) (listed:Array Bool) (φ:Fa):Prop where
 put:∀j o d,l[j]?=some o→listed.getD j false=true→o.dst=some d→φ d=some (svAt sv j)
 from':∀t s,φ t=some s→(∃j o,l[j]?=some o∧listed.getD j false=true∧o.dst=some t∧s=svAt sv j)∨E5 fr t=some s
 old:∀t s,E5 fr t=some s→t∉B87 l→φ t=some s
def unl (listed:Array Bool) (n:Nat):Nat:=(List.range n).countP fun i=>!(listed.getD i false)
theorem J30 {listed:Array Bool} {i:Nat} (hs:i < listed.size) (hu:listed.getD i false=false):∀{n:Nat},i < n→unl (listed.setIfInBounds i true) n+1=unl listed n
 | 0,h=>by omega
 | n+1,h=>by
  unfold unl
  rw [L55,List.countP_append,List.countP_append]
  have h1:∀j,j≠i→(listed.setIfInBounds i true).getD j false=listed.getD j false:=fun j hj=>A83 (Ne.symm hj)
  by_cases hin:i < n
  ·have ih:=J30 hs hu hin
   unfold unl at ih
   have e:List.countP (fun i_1=>!(listed.setIfInBounds i true).getD i_1 false) [n]=List.countP (fun i=>!listed.getD i false) [n]:=by
    simp only [List.countP_cons,List.countP_nil,h1 n (by omega)]
   rw [e];omega
  ·obtain rfl:i=n:=by omega
   have e:List.countP (fun i_1=>!(listed.setIfInBounds i true).getD i_1 false) (List.range i)=List.countP (fun i=>!listed.getD i false) (List.range i):=by
    apply List.countP_congr
    intro j hj
    rw [h1 j (by have:=List.mem_range.1 hj;omega)]
   rw [e]
   have e2:(listed.setIfInBounds i true).getD i false=true:=by simp [hs]
   simp only [List.countP_cons,List.countP_nil,e2,hu]
   simp
end
end Go.AL
namespace Go.AL
open Go Go.RowKit
set_option linter.unusedVariables false
section
variable {P:Program} {dst:Option Tmp} {ty:TypeId} {pos:String} {af:Array Edge} {gd:Option (Nat × Bool)} {fr:Fr} {ob:Obs}
def B99 (fr:Fr):List Operand→Option (List (Nat × Nat))
 | []=>some []
 | x::r=>match opv fr x with
  | some (.s (.one (.ref k o)))=>(B99 fr r).map ((k,o)::·)
  | _=>none
theorem C93 {S:Ctx} {G:Gh} {a:Act} {w:World} (h:Sim P S fr ob G a w):∀(xs:List Operand) (ps:List (Nat × Nat)),B99 fr xs=some ps→All2 (A31 G) ps (xs.map a.eval)
 | [],ps,h1=>by simp [B99] at h1;subst h1;trivial
 | x::r,ps,h1=>by
  unfold B99 at h1
  split at h1
  ·rename_i k o hx
   cases hr:B99 fr r with
   | none=>rw [hr] at h1;simp at h1
   | some qs =>
    rw [hr] at h1
    simp at h1
    subst h1
    exact ⟨J0 h hx,C93 h r qs hr⟩
  ·cases h1
theorem Y7 {f:FuncId} {first cap:List Operand} {nf nc:List (Nat × Nat)} (h1:B99 fr first=some nf) (h2:B99 fr cap=some nc) :
  Neu P ⟨dst,.makeFunc (.func f) first.toArray cap.toArray,ty,pos,af,gd⟩ fr ob (fun s'=>s'=.s (.one (.clo f nf nc))) :=
 F5 fun S G a w h=>by
  refine ⟨.func (.func f) (first.map a.eval).toArray (cap.map a.eval).toArray,?_,_,_,rfl,C93 h first nf h1,C93 h cap nc h2⟩
  simp [execOp,Instr.makeFunc]
abbrev E90 (p:Nat × Nat):S1:=.one (.ref p.1 p.2)
theorem C00 {rd:Rd} {G:Gh}:∀{l:List (Nat × Nat)} {us:List Value},All2 (A31 G) l us→All2 (S1.rep rd G) (l.map E90) us
 | [],[],_=>trivial
 | [],_::_,h=>h.elim
 | _::_,[],h=>h.elim
 | _::l,_::us,h=>⟨h.1,C00 h.2⟩
section
variable {nt:Nat} {ops:Array Oper} {rest:List Oper} {Q:Post} {d:Nat}
theorem C94 {f:FuncId} {g:Operand} {xs:List Operand} {ats:Array TypeId} {ty:TypeId} {pos:String} {af:Array Edge} {nf nc:List (Nat × Nat)} {args:List S1} {ks:List Nat} {post:List S1→Obs→Prop}
  (hf:Met P f (nf.map E90++args++nc.map E90) (shF fr) ob ks post) (hg:opv fr g=some (.s (.one (.clo f nf nc)))) (ha:p6 fr xs=some args) (hc:xs.all H8=true) (hd:Nat.blt d nt=true)
  (kk:∀rs ob',post rs ob'→WpL P nt ops rest ((d,B98 rs)::C0 ks fr) ob' Q):WpL P nt ops (⟨some d,.call ⟨.value g,xs.toArray,ats⟩,ty,pos,af,none⟩::rest) fr ob Q:=by
 intro S G a w hn h
 obtain ⟨vs,ws,hgv,hvs,hws⟩:=J0 h hg
 have hvals:All2 (S1.rep (F0 (Mut S ob G) w) G) (nf.map E90++args++nc.map E90) (vs++xs.map a.eval++ws):=((C00 hvs).append (Z8 h xs args ha hc)).append (C00 hws)
 obtain ⟨gv,hgv2⟩:∃gv:Nat→Value,gv=fun i=>S.sl a (i - 1000000):=⟨_,rfl⟩
 let S':Ctx:={ S with gv:=gv }
 have hhigh:High (shF fr):=fun i s hi=>(U2 fr i s hi).1
 have hfacts0:∀i s,E5 (shF fr) i=some s→s.rep (F0 (Mut S' ob G) w) G (S'.sl a i):=by
  intro i s hi
  obtain ⟨h7,h8⟩:=U2 fr i s hi
  rw [Ctx.sl_ge h7]
  show s.rep _ _ (gv i)
  have e:=congrFun hgv2 i
  rw [e]
  exact h.facts (i - 1000000) s h8
 have hs:Sim P S' (shF fr) ob G a w:={ h with facts:=hfacts0 }
 have hcalls:=hf.2 hhigh S' G a w _ hs hvals
 refine wpList_plain rfl fun K hK=>M9 (K:=fun v w'=>∃rs ob' G',post rs ob'∧A01 (F0 (Mut S' ob' G') w') G' rs v∧Sim P S' (C0 ks (shF fr)) ob' G' a w') ?_ ?_
 ·have he:(execOp a.eval ⟨some d,.call ⟨.value g,xs.toArray,ats⟩,ty,pos,af,none⟩).run P w=.ok (.enter f (vs++xs.map a.eval++ws).toArray) w:=by
   have:=M4 (P:=P) (f:=f) (args:=(vs++xs.map a.eval++ws).toArray) (w:=w) hf.1
   simp only [execOp,resolve,hgv,Deferred.ofValue,Sem.run_bind,Sem.run_pure,Result.andThen_ok,invoke]
   rw [show vs.toArray++Array.map a.eval xs.toArray++ws.toArray=(vs++xs.map a.eval++ws).toArray by simp]
   exact this
  unfold Does
  rw [he]
  refine hcalls.mono ?_
  rintro e w' ⟨v,rs,ob',G',rfl,hpost,hres,hs'⟩
  exact ⟨v,rfl,rs,ob',G',hpost,hres,hs'⟩
 ·rintro v w' ⟨rs,ob',G',hp,hres,hs'⟩
  have hlt:d < S.nt:=by rw [hn];simpa using hd
  have hfacts:∀i s,E5 (C0 ks fr) i=some s→s.rep (F0 (Mut S ob' G') w') G' (S.sl a i):=by
   intro i s hi
   have h7:=hs'.facts (i+1000000) s (by rw [Y3];exact B49 hi)
   have h8:1000000≤i+1000000:=Nat.le_add_left _ _
   rw [Ctx.sl_ge h8] at h7
   have h7:s.rep (F0 (Mut S ob' G') w') G' (gv (i+1000000)):=h7
   have e:=congrFun hgv2 (i+1000000)
   simp only [Nat.add_sub_cancel] at e
   rw [e] at h7
   exact h7
  have hsim:Sim P S (C0 ks fr) ob' G' a w':={ hs' with facts:=hfacts }
  exact hK _ _ (kk rs ob' hp S G' _ w' hn (hsim.put hlt hres))
end
theorem C01 {x yl yh:Operand} {t e:TypeId} {bytes ec k:Nat} {α:Type} {c:α→Nat→Cell} {xs:List α} {kl kh:IntKind} {i j:Int} [ht:TySl P t e ec bytes] (hx:opv fr x=some (.s (.one (.mut k)))) (hk:C1 ob k=some (.arr α ec c xs))
  (hyl:opv fr yl=some (I7 (.int kl i))) (hyh:opv fr yh=some (I7 (.int kh j))) (h0:0≤i) (h1:i≤j) (h2:j≤xs.length) :
  Neu P ⟨dst,.slice t x (some yl) (some yh) none,ty,pos,af,gd⟩ fr ob (fun s'=>s'=.s (.one (.msl k ec i.toNat (j.toNat - i.toNat)))) :=
 F5 fun S G a w h=>by
  obtain ⟨hu,_⟩:=J0 h hx
  obtain ⟨b,vs,t',hg,hlen,_⟩:=h.obs k _ hk
  rw [hg] at hu
  refine ⟨sliced (some ⟨b,0,none⟩) i.toNat j.toNat xs.length ec,?_,b,xs.length,xs.length,xs.length - i.toNat,if xs.length=i.toNat then 0 else i.toNat*ec,hg,by omega,?_,by omega,hlen,?_⟩
  ·simp only [execOp,hu,G5 h hyl,G5 h hyh,Option.map_some,Option.map_none]
   refine M6 ?_
   obtain ⟨he1,he2⟩:=ht.elem
   simp only [Instr.sliceAt,Sem.run_bind,run_underlying ht.out.1,Result.andThen_ok]
   rw [run_slice_lh w t (some ⟨b,0,none⟩) xs.length xs.length he1 kl kh i j h0 h1 (by omega),he2,J8 ht.size]
   rfl
  ·unfold sliced;split<;>simp [*,Addr.add_lit]
  ·by_cases hq:xs.length=i.toNat
   ·left;omega
   ·right;rw [if_neg hq]
theorem U9 {x y:Operand} {t e:TypeId} {ec bytes k o n:Nat} {ki:IntKind} {i:Int} [ht:TySl P t e ec bytes] (hx:opv fr x=some (.s (.one (.msl k ec o n))))
  (hy:opv fr y=some (I7 (.int ki i))) (h0:0≤i) (h1:i < n):Neu P ⟨dst,.indexAddr t x y,ty,pos,af,gd⟩ fr ob (fun s'=>s'=.s (.one (.mref k ec (o+i.toNat) 0))) :=
 F5 fun S G a w h=>by
  obtain ⟨b,m,cap,cap',o',hg,hm,hu,_,_,ho⟩:=J0 h hx
  have ho:o'=o*ec:=ho.resolve_left (by omega)
  subst ho
  refine ⟨.pointer (some ⟨b,(o+i.toNat)*ec,none⟩),?_,b,m,cap,hg,rfl⟩
  simp only [execOp,hu,G5 h hy]
  refine M6 ?_
  have hb:0≤i∧i < (n:Int):=⟨h0,h1⟩
  simp [Instr.indexAt,run_underlying ht.out.1,asIntOf,hb,J8 ht.size,Addr.add_lit,L22]
def N6 {κ:Type} [DecidableEq κ]:List (κ × Cell)→κ→Option Cell
 | [],_=>none
 | (k,c)::r,a=>if k=a then some c else N6 r a
class TyMap (P:Program) (t:TypeId) (kt:outParam TypeId) (kd:outParam TypeDesc) (z:outParam Value):Prop where
 out:∃et,P.underlying t=some (.map kt et)∧P.underlying kt=some kd∧(P.info? et).bind (·.zero)=some z∧z.oneCell'=true
theorem D82 (k:Nat) (κ:Type) (kf:κ→Value) {t:TypeId} (hf:(K4 k fr&&L0 k ob)=true) :
  EffV P ⟨dst,.makeMap t none,ty,pos,af,gd⟩ fr ob (.s (.one (.mut k))) fr ((k,.map κ kf [])::ob):=by
 simp only [L02] at hf
 obtain ⟨h1,h2⟩:=hf
 obtain ⟨h4,h5,hp⟩:=H9 h2
 intro S G a w h
 refine J9 (w':=w.alloc (.map #[] 0)) (v:=.map (some w.heap.size)) ?_ ?_
 ·simp only [execOp,Option.map_none]
  exact M6 rfl
 ·have hxw:Below w.heap.size w (w.alloc (.map #[] 0)):=(Below.refl _ _).alloc (Nat.le_refl _) _
  have hu:∀b,blk (.map (some w.heap.size))=some b→w.heap.size≤b:=by intro b hb;simp [blk] at hb;omega
  have h6:=h.new (o:=.map κ kf []) hp h5 hxw hu ⟨w.heap.size,#[],0,rfl,heap_alloc_new w _,trivial⟩
  rw [b9 h1,h4] at h6
  exact ⟨upd G k (.map (some w.heap.size)),h6,(J2 _ _ _).symm,rfl⟩
theorem D83 {κ:Type} [DecidableEq κ] {kf:κ→Value} {kd:TypeDesc} (hkey:∀a,MapKept.IsKey kd (kf a)) (hinj:∀a b,kf a=kf b→a=b) {rd:Rd} (a:κ):∀(kvs:List (κ × Cell)) (es:List MapEntry) (i:Nat),
  All2 (fun (kv:κ × Cell) (e:MapEntry)=>e.key=kf kv.1∧kv.2.rep rd e.val) kvs es →
  (N6 kvs a=none∧Instr.findNow kd (kf a) es i=some none)∨∃c j v,N6 kvs a=some c∧Instr.findNow kd (kf a) es i=some (some (j,v))∧c.rep rd v
 | [],[],_,_=>.inl ⟨rfl,rfl⟩
 | [],_::_,_,h=>h.elim
 | _::_,[],_,h=>h.elim
 | (k,c)::kvs,e::es,i,h=>by
  obtain ⟨⟨h1,h2⟩,h3⟩:=h
  obtain ⟨r,hr,hiff⟩:=MapKept.sameNow_of_keys (hkey a) (hkey k)
  have hr':Instr.sameNow kd (kf a) e.key=some r:=by rw [h1];exact hr
  by_cases he:k=a
  ·subst he
   have:r=true:=hiff.2 rfl
   subst this
   exact .inr ⟨c,i,e.val,by simp [N6],by simp [Instr.findNow,hr'],h2⟩
  ·have:r=false:=by
    cases r
    ·rfl
    ·exact absurd (hinj _ _ (hiff.1 rfl)).symm he
   subst this
   rcases D83 hkey hinj a kvs es (i+1) h3 with ⟨h4,h5⟩ | ⟨c',j,v,h4,h5,h6⟩
   ·exact .inl ⟨by simp [N6,he,h4],by simp [Instr.findNow,hr',h5]⟩
   ·exact .inr ⟨c',j,v,by simp [N6,he,h4],by simp [Instr.findNow,hr',h5],h6⟩
theorem C02 {x y:Operand} {t kt:TypeId} {kd:TypeDesc} {z:Value} {k:Nat} {κ:Type} [DecidableEq κ] {kf:κ→Value} {kvs:List (κ × Cell)} (a0:κ) {r:Option Cell} [ht:TyMap P t kt kd z] (hx:opv fr x=some (.s (.one (.mut k)))) (hk:C1 ob k=some (.map κ kf kvs))
  (hy:opv fr y=some (I7 (kf a0))) (hkey:∀a,MapKept.IsKey kd (kf a)) (hinj:∀a b,kf a=kf b→a=b) (hr:N6 kvs a0=r) :
  Neu P ⟨dst,.lookup t x y true,ty,pos,af,gd⟩ fr ob (fun s'=>s'=.tup [.one (.p (r.getD (.v z))),.one (.p (.v (.bool r.isSome)))]) :=
 F5 fun S G a w h=>by
  obtain ⟨et,u1,u2,u3,u4⟩:=ht.out
  obtain ⟨hu,_⟩:=J0 h hx
  obtain ⟨b,es,clock,hg,hh,ha⟩:=h.obs k _ hk
  rw [hg] at hu
  subst hr
  rcases D83 hkey hinj a0 kvs es.toList 0 ha with ⟨h4,h5⟩ | ⟨c,j,v,h4,h5,h6⟩
  ·refine ⟨.tuple #[z,.bool false],?_,[z,.bool false],rfl,?_⟩
   ·simp only [execOp,hu,G5 h hy]
    refine M6 ?_
    simp only [Instr.lookup,Sem.run_bind,run_underlying u1,Result.andThen_ok,MapKept.run_getObj_map hh,Sem.run_pure,MapKept.run_checkKey u2 (hkey a0),MapKept.run_findKey u2 h5,T6 u3]
    rfl
   ·rw [h4];exact ⟨⟨rfl,u4⟩,⟨rfl,rfl⟩,trivial⟩
  ·refine ⟨.tuple #[v,.bool true],?_,[v,.bool true],rfl,?_⟩
   ·simp only [execOp,hu,G5 h hy]
    refine M6 ?_
    simp only [Instr.lookup,Sem.run_bind,run_underlying u1,Result.andThen_ok,MapKept.run_getObj_map hh,Sem.run_pure,MapKept.run_checkKey u2 (hkey a0),MapKept.run_findKey u2 h5]
    rfl
   ·rw [h4];exact ⟨h6,⟨rfl,rfl⟩,trivial⟩
theorem H45 {x y v:Operand} {t kt:TypeId} {kd:TypeDesc} {z:Value} {k:Nat} {κ:Type} [DecidableEq κ] {kf:κ→Value} {kvs:List (κ × Cell)} (a0:κ) {c:Cell} [ht:TyMap P t kt kd z] (hx:opv fr x=some (.s (.one (.mut k)))) (hk:C1 ob k=some (.map κ kf kvs))
  (hy:opv fr y=some (I7 (kf a0))) (hv:opv fr v=some (.s (.one (.p c)))) (hc:H8 v=true) (hkey:∀a,MapKept.IsKey kd (kf a)) (hinj:∀a b,kf a=kf b→a=b) (hr:N6 kvs a0=none) :
  Eff P ⟨none,.mapUpdate t x y v,ty,pos,af,gd⟩ fr ob fr ((k,.map κ kf (kvs++[(a0,c)]))::ob):=by
 intro S G a w h
 obtain ⟨et,u1,u2,u3,u4⟩:=ht.out
 obtain ⟨hu,_⟩:=J0 h hx
 obtain ⟨b,es,clock,hg,hh,ha⟩:=h.obs k _ hk
 rw [hg] at hu
 have hrv:c.rep (F0 (Mut S ob G) w) (a.eval v):=V1 h hv hc
 obtain ⟨h5,h6⟩:=MapKept.heap_set (o':=.map (es.push { key:=kf a0,val:=a.eval v,born:=clock }) (clock+1)) hh
 have hf:Instr.findNow kd (kf a0) es.toList 0=some none:=by
  rcases D83 hkey hinj a0 kvs es.toList 0 ha with ⟨_,h5⟩ | ⟨c,j,v,h4,_,_⟩
  ·exact h5
  ·rw [hr] at h4;cases h4
 have he:(execOp a.eval ⟨none,.mapUpdate t x y v,ty,pos,af,gd⟩).run P w=.ok .skip { w with heap:=w.heap.setIfInBounds b (.map (es.push { key:=kf a0,val:=a.eval v,born:=clock }) (clock+1)) }:=by
  simp only [execOp,hu,G5 h hy]
  simp only [Instr.mapUpdate,Sem.run_bind,run_underlying u1,Result.andThen_ok,MapKept.run_getObj_map hh,MapKept.run_checkKey u2 (hkey a0),MapKept.run_findKey u2 hf,MapKept.run_setObj_map _ hh]
  rfl
 unfold Does
 rw [he]
 have hbk:blk (G k)=some b:=by rw [hg];rfl
 refine ⟨G,h.write hk hbk (fun i=>⟨hbk,trivial⟩) (fun i=>⟨hbk,trivial⟩) rfl rfl rfl (by simp) (fun j _ hne=>h6 j hne) ?_⟩
 intro rd hrd
 refine ⟨b,_,_,hg,h5,?_⟩
 rw [Array.toList_push]
 exact (ha.mono fun _ _ ⟨e1,e2⟩=>⟨e1,Cell.rep_mono hrd _ _ e2⟩).append ⟨⟨rfl,Cell.rep_mono hrd _ _ hrv⟩,trivial⟩
abbrev s9 (s:List UInt8):Value:=.string ⟨s.toArray⟩
theorem A12 (a:List UInt8):MapKept.IsKey .string (s9 a):=trivial
theorem A13 (a b:List UInt8) (h:s9 a=s9 b):a=b:=by
 simp only [s9,Value.string.injEq,ByteArray.mk.injEq] at h
 simpa using congrArg Array.toList h
end
end Go.AL
namespace Go.AL
open Go Go.RowKit
set_option linter.unusedVariables false
section
variable {P:Program} {dst:Option Tmp} {ty:TypeId} {pos:String} {af:Array Edge} {gd:Option (Nat × Bool)} {fr:Fr} {ob:Obs}
theorem I46 {x yh ym:Operand} {t e:TypeId} {bytes ec:Nat} {s:SV} {α:Type} {c:α→Nat→Cell} {xs:List α} {kh km:IntKind} {j m:Int} [ht:TySl P t e ec bytes] (hx:opv fr x=some s) (hl:IsList s α ec c xs)
  (hyh:opv fr yh=some (I7 (.int kh j))) (hym:opv fr ym=some (I7 (.int km m))) (h0:0≤j) (h2:j≤xs.length) (hm:m=j) :
  Neu P ⟨dst,.slice t x none (some yh) (some ym),ty,pos,af,gd⟩ fr ob (fun s'=>s'=.s (.one (.full α ec c (xs.take j.toNat)))) :=
 F5 fun S G a w h=>by
  subst hm
  have hr:=l8 h hx hl
  obtain ⟨ad,cap,hu,hcap,_⟩:=l7 hr
  rw [hu] at hr
  have hp:=D21 (lo:=0) (hi:=m.toNat) hr (by omega) (by omega)
  rw [List.drop_zero,Nat.sub_zero] at hp
  have hform:sliced ad 0 m.toNat m.toNat ec=.slice (if m.toNat=0 then ad else ad.map (·.add 0)) m.toNat m.toNat:=by simp [sliced]
  refine ⟨sliced ad 0 m.toNat m.toNat ec,?_,?_,?_⟩
  ·simp only [execOp,hu,G5 h hyh,G5 h hym,Option.map_some,Option.map_none]
   refine M6 ?_
   obtain ⟨he1,he2⟩:=ht.elem
   simp only [Instr.sliceAt,Sem.run_bind,run_underlying ht.out.1,Result.andThen_ok]
   rw [run_slice_any w t ad xs.length cap he1,he2]
   have hb:(Instr.sliceBounds true xs.length cap none (some (.int kh m)) (some (.int km m))).run P w=.ok (0,m.toNat,m.toNat) w:=by
    have e:(m.toNat:Int)=m:=by omega
    simp only [Instr.sliceBounds,Sem.run_bind,run_sliceBound,Sem.run_pure,Result.andThen_ok]
    rw [run_sliceBound w km m _ _ h0 (by omega)]
    simp only [Result.andThen_ok]
    rw [run_sliceBound w kh m _ _ h0 (by omega)]
    simp
   rw [hb]
   simp only [Result.andThen_ok]
   rw [J8 ht.size]
   rfl
  ·-- the cells are those of the list's beginning
   simp only [Cell.rep] at hp ⊢
   obtain ⟨a',cap',he,⟨h3,h3'⟩,h4,h5⟩:=hp
   have hlen:(xs.take m.toNat).length=m.toNat:=by rw [L10];omega
   rw [hlen] at he
   have hfo:sliced ad 0 m.toNat cap ec=.slice (if cap=0 then ad else ad.map (·.add (0*ec))) m.toNat cap:=by simp [sliced]
   rw [hfo] at he
   injection he with he1 he2 he3
   by_cases hz:m.toNat=0
   ·refine ⟨if m.toNat=0 then ad else ad.map (·.add 0),m.toNat,by rw [hlen,hform],⟨Nat.le_of_eq hlen,fun _=>hz⟩,h4,.inl (hlen.trans hz)⟩
   ·have hcz:cap≠0:=by omega
    rw [if_neg hcz] at he1
    refine ⟨a',m.toNat,?_,⟨Nat.le_of_eq hlen,fun hn=>?_⟩,h4,h5⟩
    ·rw [hlen,hform,if_neg hz,←he1];simp
    ·have:=h3' hn;omega
  ·rw [hform]
   refine ⟨_,by rw [show (xs.take m.toNat).length=m.toNat by rw [L10];omega]⟩
theorem F77 (k:Nat) {x y:Operand} {α:Type} {ec bytes:Nat} {c:α→Nat→Cell} {xs ys:List α} {t e:TypeId} {s:SV} [ht:TySl P t e ec bytes] (hx:opv fr x=some (.s (.one (.full α ec c xs))))
  (hy:opv fr y=some s) (hl:IsList s α ec c ys) (hlen:xs.length+ys.length≤1073741824) (hys:0 < ys.length) (hf:(K4 k fr&&L0 k ob)=true) :
  EffV P ⟨dst,.call ⟨.builtin .append,#[x,y],#[t,t]⟩,ty,pos,af,gd⟩ fr ob (.s (.one (.buf k α ec c (xs++ys)))) fr ((k,.spare (xs++ys).length ec e)::ob):=by
 simp only [L02] at hf
 obtain ⟨hf1,hf2⟩:=hf
 obtain ⟨h4,h5,hp⟩:=H9 hf2
 intro S G a w h
 obtain ⟨hts,hinfo,hec,hby,hzero⟩:=ht.out
 cases hi:P.info? e with
 | none=>simp [hi] at hinfo
 | some i =>
 simp [hi] at hinfo
 obtain ⟨hsz,hbytes⟩:=hinfo
 cases hz:i.zero with
 | none=>simp [hi,hz] at hzero
 | some z =>
 simp [hi,hz] at hzero
 obtain ⟨hrx,a0,hux⟩:=J0 h hx
 have hry:=l8 h hy hl
 obtain ⟨ad,cap,vx,hux',hcapx,hlx,hvlx,honex,hvx,hrdx⟩:=o9 hrx
 rw [hux] at hux'
 injection hux' with e1 e2 e3
 subst e1
 obtain ⟨ady,capy,vy,huy,hcapy,hly,hvly,honey,hvy,hrdy⟩:=o9 hry
 obtain ⟨by',oy,hady,hry2⟩:=hrdy.resolve_left (by omega)
 have hbig:(xs.length+ys.length)*bytes≤140737488355328:=by
  have:(xs.length+ys.length)*bytes≤1073741824*4096:=Nat.mul_le_mul hlen hby
  omega
 have hmax:xs.length+ys.length≤maxLen:=by unfold maxLen;omega
 obtain ⟨gc,hgc⟩:∃gc,gc=grownCap w (xs.length+ys.length) xs.length e:=⟨_,rfl⟩
 have hge:=grownCap_ge w (xs.length+ys.length) xs.length e
 have hcm:=grownCap_le_maxLen w (xs.length+ys.length) xs.length e hmax
 rw [←hgc] at hge hcm
 have hrun:(Builtin.append_ #[t,t] ty #[a.eval x,a.eval y]).run P w=.ok (.slice (some ⟨w.heap.size,0,none⟩) (xs.length+ys.length) gc) (w.drew.alloc (.cells (vx.toArray++vy.toArray++Builtin.zeroCells z.cells (gc - (xs.length+ys.length))) e)):=by
  rw [hux,huy,hady]
  rcases hrdx with h0 | ⟨bx,ox,hax,hrx2⟩
  ·have hx0:xs=[]:=List.eq_nil_of_length_eq_zero h0
   subst hx0
   have hvx0:vx=[]:=List.eq_nil_of_length_eq_zero (by rw [hvlx];simp)
   subst hvx0
   cases a0 with
   | none =>
    have hr2:=run_append_nil (P:=P) w t ty e i z hts hi hz ⟨by',oy,none⟩ ys.length capy vy (by rw [hsz];exact hvly) (fun j v hj=>by rw [Addr.add_lit];exact (hry2 j v hj).1) hys (by omega) (by rw [hbytes];simp at hbig;omega)
    simp only [L09,Nat.zero_add] at hgc ⊢
    rw [hgc]
    simpa using hr2
   | some ab =>
    have hr2:=run_append_grow (P:=P) w t ty e i z hts hi hz ab 0 0 [] (by simp) (by simp) ⟨by',oy,none⟩ ys.length capy vy (by rw [hsz];exact hvly) (fun j v hj=>by rw [Addr.add_lit];exact (hry2 j v hj).1) (by omega) (by omega) (growslice_fits (by omega) (by rw [hbytes];simpa using hbig))
    simp only [L09] at hgc ⊢
    rw [hgc]
    simpa using hr2
  ·rw [hax]
   have hr2:=run_append_grow (P:=P) w t ty e i z hts hi hz ⟨bx,ox,none⟩ xs.length xs.length vx (by rw [hsz];exact hvlx) (fun j v hj=>by rw [Addr.add_lit];exact (hrx2 j v hj).1) ⟨by',oy,none⟩ ys.length capy vy (by rw [hsz];exact hvly) (fun j v hj=>by rw [Addr.add_lit];exact (hry2 j v hj).1) (by omega) (by omega) (growslice_fits (by omega) (by rw [hbytes];exact hbig))
   rw [hgc];exact hr2
 obtain ⟨cells,hcells⟩:∃cells,cells=vx.toArray++vy.toArray++Builtin.zeroCells z.cells (gc - (xs.length+ys.length)):=⟨_,rfl⟩
 rw [←hcells] at hrun
 have hlen2:(vx++vy).length=(xs.length+ys.length)*ec:=by rw [L06,hvlx,hvly,L22]
 have hown:(w.drew.alloc (.cells cells e)).ownsRow S.B e ec (.slice (some ⟨w.heap.size,0,none⟩) (xs.length+ys.length) gc) (xs++ys).length (vx++vy):=by
  rw [L06]
  refine ⟨hlen2,.inr ⟨w.heap.size,gc,cells,rfl,h.size,heap_alloc_new w.drew _,hge,hcm,?_,?_⟩⟩
  ·rw [hcells]
   simp only [Array.size_append,List.size_toArray,size_zeroCells,hzero,hvlx,hvly,←L22]
   congr 1
   omega
  ·rw [hcells]
   simp only [Array.toList_append,L15]
   rw [←L15,←hlen2]
   exact List.take_left
 refine J9 (w':=w.drew.alloc (.cells cells e)) (v:=.slice (some ⟨w.heap.size,0,none⟩) (xs.length+ys.length) gc) (by simp [execOp,resolve,invoke,builtin,hrun]) ?_
 have hxw:Below w.heap.size w (w.drew.alloc (.cells cells e)):=⟨rfl,rfl,rfl,by simp,fun k hk=>heap_alloc_old w.drew _ hk⟩
 have hu:∀b,blk (.slice (some ⟨w.heap.size,0,none⟩) (xs.length+ys.length) gc)=some b→w.heap.size≤b:=by intro b hb;simp [blk] at hb;omega
 have hsim:=h.new hp h5 (o:=.spare (xs++ys).length ec e) hxw hu ⟨vx++vy,hown⟩
 rw [b9 hf1,h4] at hsim
 refine ⟨_,hsim,(J2 _ _ _).symm,?_⟩
 refine A38 (c:=c) (xs:=xs++ys) hown hec (by rw [L06];omega) ?_ ?_
 ·intro g hg j zz hj hcell
  simp [blk] at hg
  subst hg
  refine ⟨hcell,fun hm=>?_⟩
  rcases hm with hm | ⟨k',o',hk',hb1,hb2⟩
  ·have:=h.m0 _ j hm;have:=h.size;omega
  ·by_cases hkk:k=k'
   ·subst hkk
    rw [C4] at hk';cases hk'
    simp only at hb2
    omega
   ·rw [B4 hkk] at hk'
    rw [x5 G _ (Ne.symm hkk)] at hb1
    have:=(h.obs k' o' hk').blk_lt _ hb1
    omega
 ·have hrd:∀b i z,F0 (Mut S ob G) w b i z→F0 (Mut S ((k,.spare (xs++ys).length ec e)::ob) (upd G k (.slice (some ⟨w.heap.size,0,none⟩) (xs.length+ys.length) gc))) (w.drew.alloc (.cells cells e)) b i z:=by
   intro b i z hr
   have:=h.rd_new (k:=k) (o:=.spare (xs++ys).length ec e) hxw hu hr
   rwa [h4] at this
  intro m hm j hj
  by_cases hlt:m < xs.length
  ·obtain ⟨zz,hz1,hz2⟩:=hvx m hlt j hj
   refine ⟨zz,?_,?_⟩
   ·rw [L19 (List.getElem?_eq_some_iff.1 hz1).1];exact hz1
   ·rw [L52 hlt];exact Cell.rep_mono hrd _ _ hz2
  ·have hm':m - xs.length < ys.length:=by simp at hm;omega
   obtain ⟨zz,hz1,hz2⟩:=hvy (m - xs.length) hm' j hj
   refine ⟨zz,?_,?_⟩
   ·have hge2:xs.length*ec≤m*ec:=L13 _ (by omega)
    rw [L17 (by rw [hvlx];omega),hvlx]
    have:m*ec+j - xs.length*ec=(m - xs.length)*ec+j:=by rw [Nat.sub_mul];omega
    rw [this];exact hz1
   ·rw [L49 (by omega)];exact Cell.rep_mono hrd _ _ hz2
end
end Go.AL
namespace Go.AL
open Go Go.RowKit
set_option linter.unusedVariables false
abbrev Mo:=List (List Nat × Obs)
def V6:Mo→List Nat→Option Obs
 | [],_=>none
 | (D',ob)::r,D=>cond (B31 D' D) (some ob) (V6 r D)
abbrev Sv:=List (Nat × SV)
def S4:Sv→Nat→Option SV
 | [],_=>none
 | (i,s)::r,j=>cond (Nat.beq i j) (some s) (S4 r j)
abbrev Ed:=List (Nat × (List Nat × List Nat))
def l9:Ed→Nat→List Nat × List Nat
 | [],_=>([],[])
 | (i,x)::r,e=>cond (Nat.beq i e) x (l9 r e)
def m3 (ks:List Nat) (fr:Fr):Fr:=fr.filter fun p=>!(G4 ks p.1)
theorem getF_dropK {ks:List Nat}:∀{fr:Fr} {t:Nat} {s:SV},E5 (m3 ks fr) t=some s↔t∉ks∧E5 fr t=some s
 | [],t,s=>by simp [m3,E5]
 | (i,x)::r,t,s=>by
  have ih:=getF_dropK (ks:=ks) (fr:=r) (t:=t) (s:=s)
  unfold m3 at ih ⊢
  cases hh:G4 ks i
  ·rw [List.filter_cons_of_pos (by simp [hh])]
   by_cases he:i=t
   ·subst he
    rw [E0,E0]
    have:i∉ks:=fun q=>by rw [hasN_iff.2 q] at hh;cases hh
    simp [this]
   ·rw [C8 he,C8 he];exact ih
  ·rw [List.filter_cons_of_neg (by simp [hh])]
   rw [ih]
   by_cases he:i=t
   ·subst he
    have:i∈ks:=hasN_iff.1 hh
    simp [this]
   ·rw [C8 he]
def E91 (U frc:Fr):Prop:=∀t s,E5 U t=some s→E5 frc t=some s
def E92 (P:Program) (nt:Nat) (o:Oper) (U:Fr) (ks kills:List Nat) (ob ob':Obs) (s:SV):Prop :=
 ∀frc,E91 U frc→(∀k∈ks,∀t x,E5 frc t=some x→t∉kills→x.free k=true)→∀S G a w,S.nt=nt→Sim P S frc ob G a w →
  Does P o a w (fun v w'=>∃G',Sim P S (m3 kills frc) ob' G' a w'∧∀d,o.dst=some d→s.rep (F0 (Mut S ob' G') w') G' v)
def B88 (l:List Oper):Sv→Fr→Fr
 | [],fr=>fr
 | (i,s)::r,fr=>match (l[i]?).bind (·.dst) with
  | some d=>(d,s)::B88 l r fr
  | none=>B88 l r fr
def A14 (l:List Oper) (svs:Sv) (o:Oper):Bool :=
 (A11 o.op).all fun u=>(List.range l.length).all fun j=>match (l[j]?).bind (·.dst) with
  | some d=>!(Nat.beq d u)||(S4 svs j).isSome
  | none=>true
def UIn2 (l:List Oper) (svs:Sv) (fr:Fr) (o:Oper) (U:Fr):Prop :=
 ∀t s,E5 U t=some s→t∈A11 o.op∧((∃j o',l[j]?=some o'∧o'.dst=some t∧S4 svs j=some s)∨(t∉B87 l∧E5 fr t=some s))
def H46 (obT ob:Obs):Prop:=∀k o,C1 obT k=some o→C1 ob k=some o
section
variable {P:Program} {nt:Nat}
theorem E93 {l:List Oper} {fr:Fr}:∀{svs:Sv} {t:Nat} {s:SV},E5 (B88 l svs fr) t=some s→(∃j o,S4 svs j=some s∧l[j]?=some o∧o.dst=some t)∨(E5 fr t=some s∧∀j o,S4 svs j≠none→l[j]?=some o→o.dst≠some t)
 | [],t,s,h=>.inr ⟨h,fun j o hj=>absurd rfl hj⟩
 | (i,x)::r,t,s,h=>by
  unfold B88 at h
  have hlift:(∀d,(l[i]?).bind (·.dst)=some d→d≠t)→E5 (B88 l r fr) t=some s→(∃j o,S4 ((i,x)::r) j=some s∧l[j]?=some o∧o.dst=some t)∨(E5 fr t=some s∧∀j o,S4 ((i,x)::r) j≠none→l[j]?=some o→o.dst≠some t):=by
   intro hd h
   rcases E93 h with ⟨j,o,h1,h2,h3⟩ | ⟨h1,h2⟩
   ·left
    refine ⟨j,o,?_,h2,h3⟩
    have hij:i≠j:=fun e=>by
     subst e
     rw [h2] at hd
     exact hd t (by simpa using h3) rfl
    show cond (Nat.beq i j) _ _=_
    rw [W6 hij];exact h1
   ·right
    refine ⟨h1,fun j o hj ho hdo=>?_⟩
    by_cases hij:i=j
    ·subst hij
     rw [ho] at hd
     exact hd t (by simpa using hdo) rfl
    ·have hj:cond (Nat.beq i j) (some x) (S4 r j)≠none:=hj
     rw [W6 hij] at hj
     exact h2 j o hj ho hdo
  split at h
  ·rename_i d hd
   by_cases hdt:d=t
   ·subst hdt
    rw [E0] at h
    cases h
    cases ho:l[i]? with
    | none=>rw [ho] at hd;cases hd
    | some o =>
     rw [ho] at hd
     exact .inl ⟨i,o,by show cond (Nat.beq i i) _ _=_;rw [Nat.beq_refl];rfl,ho,by simpa using hd⟩
   ·rw [C8 hdt] at h
    exact hlift (fun d' hd'=>by rw [hd] at hd';cases hd';exact hdt) h
  ·rename_i hd
   exact hlift (fun d' hd'=>by rw [hd] at hd';cases hd') h
theorem D28:∀{l:List Oper} {t:Nat},t∈B87 l→∃(j:Nat) (o:Oper),l[j]?=some o∧o.dst=some t
 | [],t,h=>by simp [B87] at h
 | o::l,t,h=>by
  unfold B87 at h
  cases hd:o.dst with
  | none=>rw [hd] at h;obtain ⟨j,o',h1,h2⟩:=D28 h;exact ⟨j+1,o',by simpa using h1,h2⟩
  | some d =>
   rw [hd] at h
   rcases List.mem_cons.1 h with rfl | h
   ·exact ⟨0,o,rfl,hd⟩
   ·obtain ⟨j,o',h1,h2⟩:=D28 h;exact ⟨j+1,o',by simpa using h1,h2⟩
theorem E63 {l:List Oper} {svs:Sv} {fr:Fr} {o:Oper} (h:A14 l svs o=true):UIn2 l svs fr o (b8 (B88 l svs fr) (A11 o.op)):=by
 intro t s ht
 have hus:=B28 ht
 refine ⟨hus,?_⟩
 rcases E93 (A46 ht) with ⟨j,o',h1,h2,h3⟩ | ⟨h1,h2⟩
 ·exact .inl ⟨j,o',h2,h3,h1⟩
 ·refine .inr ⟨fun hin=>?_,h1⟩
  obtain ⟨j,o',h3,h4⟩:=D28 hin
  have:=List.all_eq_true.1 (List.all_eq_true.1 h t hus) j (List.mem_range.2 (List.getElem?_eq_some_iff.1 h3).1)
  rw [h3] at this
  simp only [Option.bind_some,h4,Nat.beq_refl,Bool.not_true,Bool.false_or] at this
  exact h2 j o' (fun e=>by rw [e] at this;cases this) h3 h4
def Task (P:Program) (nt:Nat) (l:List Oper) (fr:Fr) (svs:Sv) (E:List Nat) (ed:Ed) (i:Nat) (ob:Obs) (s:SV) (T:Obs→Prop):Prop :=
 ∃o U,l[i]?=some o∧UIn2 l svs fr o U∧((G4 E i=false∧Neu P o U ob (fun s'=>s'=s))∨(G4 E i=true∧∃ob',E92 P nt o U (l9 ed i).1 (l9 ed i).2 ob ob' s∧T ob'))
def conf2 (nt:Nat) (l:List Oper) (E:List Nat) (Ms:List (List Nat)) (ed:Ed) (tasks:List (Nat × List Nat)):Bool :=
 let ops:=l.toArray
 let n:=l.length
 (l.all fun o=>o.guard.isNone&&match o.dst with | some d=>Nat.blt d nt | none=>true) &&
 ((List.range n).all fun i=>match ops[i]? with
  | some o=>(G4 E i||o.dst.isSome)&&(((A11 o.op).all fun u=>((List.range n).all fun j=>match ops[j]? with
    | some oj=>(match oj.dst with | some d=>!(Nat.beq d u)||Bef ops i j | none=>true)
    | none=>true)&&E.all fun e=>Nat.beq e i||!(G4 (l9 ed e).2 u)||Bef ops e i) &&
   ((o.after.toList.all fun e=>!(Region.binds .any e)||Nat.blt e.on i)&&(Ms.all fun D=>!(H43 ops E i D)||tasks.any fun p=>Nat.beq p.1 i&&B31 p.2 D)))
  | none=>false) &&
 C92 (B87 l)&&desc E&&(E.all fun e=>Nat.blt e n)&&memM Ms []&&(Ms.all fun D=>E.all fun e=>!(H43 ops E e D)||memM Ms (B30 e D))
structure InvK (l:List Oper) (E:List Nat) (svs:Sv) (ed:Ed) (fr:Fr) (listed:Array Bool) (frc:Fr):Prop where
 put:∀j o d s,l[j]?=some o→listed.getD j false=true→o.dst=some d→S4 svs j=some s→(∀e∈E,listed.getD e false=true→d∉(l9 ed e).2)→E5 frc d=some s
 from':∀t s,E5 frc t=some s→(∃j o,l[j]?=some o∧listed.getD j false=true∧o.dst=some t∧S4 svs j=some s)∨E5 fr t=some s
 old:∀t s,E5 fr t=some s→t∉B87 l→(∀e∈E,listed.getD e false=true→t∉(l9 ed e).2)→E5 frc t=some s
def C67 (l:List Oper) (ops:Array Oper) (svs:Sv) (fr:Fr):Ed→Bool
 | []=>true
 | (e,ks,kills)::r=>(ks.all fun k=>((List.range ops.size).all fun j=>Nat.beq j e||Bef ops j e||match (l[j]?).bind (·.dst),S4 svs j with
   | some d,some s=>G4 kills d||s.free k
   | _,_=>true)&&fr.all fun p=>G4 kills p.1||p.2.free k)&&C67 l ops svs fr r
theorem c_core {id:Nat} {l:List Oper} {fr:Fr} {ob0:Obs} {Q:Post} (E:List Nat) (Ms:List (List Nat)) (ed:Ed) (tasks:List (Nat × List Nat)) (svs:Sv) (M:Mo) (hm:P.follows .mixedOrders=true)
  (hB:conf2 nt l E Ms ed tasks=true) (hed:∀e∈E,∃x,(e,x)∈ed∧l9 ed e=x) (hfree:C67 l l.toArray svs fr ed=true) (h0:V6 M []=some ob0)
  (ht:∀p∈tasks,∃ob s,V6 M p.2=some ob∧S4 svs p.1=some s∧Task P nt l fr svs E ed p.1 ob s (fun ob'=>∃obT,V6 M (B30 p.1 p.2)=some obT∧H46 obT ob'))
  {fr':Fr} {obE:Obs} (hobE:V6 M E=some obE) (hfr':∀t s,E5 fr' t=some s→(∀e∈E,t∉(l9 ed e).2)∧((∃j o',l[j]?=some o'∧o'.dst=some t∧S4 svs j=some s)∨(t∉B87 l∧E5 fr t=some s)))
  (hQ:Q .normal fr' obE):WpC P nt (.region id l.toArray true) fr ob0 Q:=by
 intro S G a w hn hs
 unfold conf2 at hB
 simp only [L02] at hB
 obtain ⟨⟨⟨⟨⟨⟨b1,b2⟩,b3⟩,b4⟩,b5⟩,b6⟩,b7⟩:=hB
 have hop:∀i o,l[i]?=some o→o.guard=none∧(∀d,o.dst=some d→d < nt)∧(G4 E i=true∨∃d,o.dst=some d)∧(∀u∈A11 o.op,∀j oj,l[j]?=some oj→oj.dst=some u→Bef l.toArray i j=true) ∧
   (∀u∈A11 o.op,∀e∈E,e≠i→u∈(l9 ed e).2→Bef l.toArray e i=true)∧(∀e∈o.after.toList,Region.binds .any e=true→e.on < i)∧(∀D∈Ms,H43 l.toArray E i D=true→(i,D)∈tasks):=by
  intro i o ho
  have hlt:i < l.length:=(List.getElem?_eq_some_iff.1 ho).1
  have hmem:o∈l:=L14 ho
  have q1:=List.all_eq_true.1 b1 o hmem
  have q2:=List.all_eq_true.1 b2 i (List.mem_range.2 hlt)
  simp only [List.getElem?_toArray,ho] at q2
  simp only [L02] at q1 q2
  obtain ⟨q4,q5,q6,q7⟩:=q2
  refine ⟨by simpa using q1.1,?_,?_,?_,?_,?_,?_⟩
  ·intro d hd
   have:=q1.2
   rw [hd] at this
   simpa using this
  ·rcases (L20 _ _).mp q4 with h | h
   ·exact .inl h
   ·exact .inr (Option.isSome_iff_exists.1 h)
  ·intro u hu j oj hj hd
   have hjlt:j < l.length:=(List.getElem?_eq_some_iff.1 hj).1
   have h5:=List.all_eq_true.1 q5 u hu
   simp only [L02] at h5
   have:=List.all_eq_true.1 h5.1 j (List.mem_range.2 hjlt)
   simp only [hj,hd] at this
   simpa using this
  ·intro u hu e he hei hk
   have h5:=List.all_eq_true.1 q5 u hu
   simp only [L02] at h5
   have:=List.all_eq_true.1 h5.2 e he
   rw [W6 hei,hasN_iff.2 hk] at this
   simpa using this
  ·intro e he hbe
   have:=List.all_eq_true.1 q6 e he
   rw [hbe] at this
   simpa using this
  ·intro D hD hp
   have:=List.all_eq_true.1 q7 D hD
   rw [hp] at this
   simp only [Bool.not_true,Bool.false_or] at this
   obtain ⟨p,hp1,hp2⟩:=List.any_eq_true.1 this
   simp only [L02] at hp2
   have e1:=Nat.eq_of_beq_eq_true hp2.1
   have e2:=D26 hp2.2
   obtain ⟨p1,p2⟩:=p
   simp only at e1 e2
   rw [←e1,←e2];exact hp1
 have hdst:∀(j t:Nat),(l.toArray[j]?).bind (fun o=>o.dst)=some t→t < nt:=by
  intro j t ht
  cases ho:l[j]? with
  | none=>simp [ho] at ht
  | some o=>simp [ho] at ht;exact (hop j o ho).2.1 t ht
 refine wp_region_any hm ?_
 have hxw:Below w.heap.size w { w with drawn:=w.drawn+1 }:=⟨rfl,rfl,rfl,Nat.le_refl _,fun _ _=>rfl⟩
 have key : ∀(fuel:Nat) (listed:Array Bool) (frc:Fr) (ob:Obs) (G:Gh) (a:Act) (w:World),listed.size=l.length→unl listed l.length=fuel→Closed l.toArray listed→(E.filter fun j=>listed.getD j false)∈Ms→V6 M (E.filter fun j=>listed.getD j false)=some ob→InvK l E svs ed fr listed frc→Sim P S frc ob G a w →
   wpAny P .any l.toArray (PostOf P S Q) fuel listed a w:=by
  intro fuel
  induction fuel with
  | zero =>
   intro listed frc ob G a w hsz hu hc hM hob hI hsf
   have hall:∀j,j < l.length→listed.getD j false=true:=by
    intro j hj
    unfold unl at hu
    have:=(List.countP_eq_zero.1 hu) j (List.mem_range.2 hj)
    simpa using this
   have hready:Region.ready .any l.toArray listed=[]:=by
    cases hr:Region.ready .any l.toArray listed with
    | nil=>rfl
    | cons i r =>
     exfalso
     have hi:i∈Region.ready .any l.toArray listed:=by rw [hr];exact List.mem_cons_self ..
     have h3:=X6 hi
     obtain ⟨_,o,ho,_⟩:=mem_ready.1 hi
     rw [List.getElem?_toArray] at ho
     rw [hall i (List.getElem?_eq_some_iff.1 ho).1] at h3;cases h3
   refine ⟨hready,?_⟩
   have hEl:(E.filter fun j=>listed.getD j false)=E:=by
    rw [List.filter_eq_self]
    intro e he
    exact hall e (by simpa using List.all_eq_true.1 b5 e he)
   rw [hEl,hobE] at hob
   cases hob
   refine ⟨fr',obE,G,hQ,.inl (hsf.weaken fun t s ht=>?_)⟩
   obtain ⟨hk,h3⟩:=hfr' t s ht
   rcases h3 with ⟨j,o,h3,h4,h5⟩ | ⟨h3,h4⟩
   ·exact hI.put j o t s h3 (hall j (List.getElem?_eq_some_iff.1 h3).1) h4 h5 (fun e he _=>hk e he)
   ·exact hI.old t s h4 h3 (fun e he _=>hk e he)
  | succ fuel ih =>
   intro listed frc ob G a w hsz hu hc hM hob hI hsf
   refine ⟨fun h0=>?_,fun i hi=>?_⟩
   ·exfalso
    have hex:∃j,j < l.length∧listed.getD j false=false:=by
     refine Classical.byContradiction fun hno=>?_
     have:unl listed l.length=0:=by
      unfold unl
      refine List.countP_eq_zero.2 fun j hj=>?_
      have hj:=List.mem_range.1 hj
      cases hb:listed.getD j false
      ·exact absurd ⟨j,hj,hb⟩ hno
      ·simp
     omega
    have hmin:∀n,(∃j,j < n∧j < l.length∧listed.getD j false=false)→∃j,j < l.length∧listed.getD j false=false∧∀p,p < j→listed.getD p false=true:=by
     intro n
     induction n with
     | zero=>rintro ⟨j,hj,_⟩;omega
     | succ n ihn =>
      rintro ⟨j,hj,hjl,hjf⟩
      by_cases hlow:∃j',j' < n∧j' < l.length∧listed.getD j' false=false
      ·exact ihn hlow
      ·refine ⟨j,hjl,hjf,fun p hp=>?_⟩
       cases hb:listed.getD p false
       ·exact absurd ⟨p,by omega,by omega,hb⟩ hlow
       ·rfl
    obtain ⟨j,hj1,hj2⟩:=hex
    obtain ⟨j,hjl,hjf,hjp⟩:=hmin (j+1) ⟨j,by omega,hj1,hj2⟩
    have ho:l[j]?=some l[j]:=L01 hjl
    have hjr:j∈Region.ready .any l.toArray listed:=by
     refine mem_ready.2 ⟨?_,l[j],by rw [List.getElem?_toArray];exact ho,fun e he hb=>?_⟩
     ·have hsz2:j < listed.size:=by omega
      simp only [Array.getD_eq_getD_getElem?,Array.getElem?_eq_getElem hsz2] at hjf ⊢
      simpa using hjf
     ·have:=(hop j _ ho).2.2.2.2.2.1 e (Array.mem_toList_iff.2 he) hb
      exact hjp _ this
    rw [h0] at hjr;cases hjr
   ·have hiu:=X6 hi
    obtain ⟨_,o,ho,hall⟩:=mem_ready.1 hi
    rw [List.getElem?_toArray] at ho
    have hlt:i < l.length:=(List.getElem?_eq_some_iff.1 ho).1
    obtain ⟨g1,g2,g4,g5,g6,g7,g8⟩:=hop i o ho
    obtain ⟨D,hD⟩:∃D,D=E.filter fun j=>listed.getD j false:=⟨_,rfl⟩
    rw [←hD] at hM hob
    have hDl:∀e,e∈D↔e∈E∧listed.getD e false=true:=fun e=>by rw [hD,List.mem_filter]
    have hbi:∀j,Bef l.toArray i j=true→listed.getD j false=true:=fun j hj=>A49 hc i hj (fun o' ho' e he hb=>by
     rw [List.getElem?_toArray,ho] at ho';cases ho'
     exact hall e (Array.mem_toList_iff.1 he) hb)
    have hlb:∀j,listed.getD j false=true→Bef l.toArray j i=true→False:=fun j hj hb=>by
     have:listed.getD i false=true:=A49 hc j hb (fun o' ho' e he hbd=>hc j o' ho' hj e he hbd)
     rw [hiu] at this;cases this
    have hpo:H43 l.toArray E i D=true:=by
     unfold H43
     simp only [L02,Bool.not_eq_true',List.all_eq_true,L20]
     refine ⟨?_,fun j hj=>?_,fun j hj=>?_⟩
     ·cases hb:G4 D i
      ·rfl
      ·have:=((hDl i).1 (hasN_iff.1 hb)).2
       rw [hiu] at this;cases this
     ·cases hb:Bef l.toArray i j
      ·exact .inl rfl
      ·exact .inr (hasN_iff.2 ((hDl j).2 ⟨hj,hbi j hb⟩))
     ·cases hb:Bef l.toArray j i
      ·rfl
      ·exact (hlb j ((hDl j).1 hj).2 hb).elim
    obtain ⟨ob1,s,hob1,hsv,o1,U,ho1,hU,htask⟩:=ht (i,D) (g8 D hM hpo)
    rw [hob] at hob1;cases hob1
    rw [ho] at ho1;cases ho1
    have hext:E91 U frc:=by
     intro t x hx
     obtain ⟨hus,h3⟩:=hU t x hx
     have hnk:∀e∈E,listed.getD e false=true→t∉(l9 ed e).2:=fun e he hel hk=>by
      by_cases hei:e=i
      ·rw [hei,hiu] at hel;cases hel
      ·exact hlb e hel (g6 t hus e he hei hk)
     rcases h3 with ⟨j,oj,h3,h4,h5⟩ | ⟨h3,h4⟩
     ·exact hI.put j oj t x h3 (hbi j (g5 t hus j oj h3 h4)) h4 h5 hnk
     ·exact hI.old t x h4 h3 hnk
    have hcl2:=W7 hc hi
    have hsz2:(listed.setIfInBounds i true).size=l.length:=by simpa using hsz
    have hul:unl (listed.setIfInBounds i true) l.length=fuel:=by
     have:=J30 (by omega) hiu hlt
     omega
    have hset:∀j,(listed.setIfInBounds i true).getD j false=true↔j=i∨listed.getD j false=true:=by
     intro j
     by_cases hj:j=i
     ·subst hj
      simp only [true_or,iff_true]
      simp [show j < listed.size by omega]
     ·rw [A83 (Ne.symm hj)]
      simp [hj]
    have hinv:∀kills,(i∈E→kills=(l9 ed i).2)→(i∉E→kills=[])→InvK l E svs ed fr (listed.setIfInBounds i true) (match o.dst with | some d=>(d,s)::m3 kills frc | none=>m3 kills frc):=by
     intro kills hk1 hk2
     have hk:∀t,(∀e∈E,(listed.setIfInBounds i true).getD e false=true→t∉(l9 ed e).2)→t∉kills:=by
      intro t h
      by_cases hiE:i∈E
      ·rw [hk1 hiE];exact h i hiE ((hset i).2 (.inl rfl))
      ·rw [hk2 hiE];simp
     have hmono:∀t,(∀e∈E,(listed.setIfInBounds i true).getD e false=true→t∉(l9 ed e).2)→∀e∈E,listed.getD e false=true→t∉(l9 ed e).2:=fun t h e he hel=>h e he ((hset e).2 (.inr hel))
     cases hdo:o.dst with
     | none =>
      refine ⟨fun j oj d x h3 h4 h5 h6 h7=>?_,fun t x h3=>?_,fun t x h3 h4 h5=>?_⟩
      ·rcases (hset j).1 h4 with rfl | h4
       ·rw [ho] at h3;cases h3;rw [hdo] at h5;cases h5
       ·exact getF_dropK.2 ⟨hk d h7,hI.put j oj d x h3 h4 h5 h6 (hmono d h7)⟩
      ·rcases hI.from' t x (getF_dropK.1 h3).2 with ⟨j,oj,h4,h5,h6⟩ | h4
       ·exact .inl ⟨j,oj,h4,(hset j).2 (.inr h5),h6⟩
       ·exact .inr h4
      ·exact getF_dropK.2 ⟨hk t h5,hI.old t x h3 h4 (hmono t h5)⟩
     | some d0 =>
      refine ⟨fun j oj d x h3 h4 h5 h6 h7=>?_,fun t x h3=>?_,fun t x h3 h4 h5=>?_⟩
      ·show E5 ((d0,s)::m3 kills frc) d=some x
       by_cases hij:j=i
       ·subst hij
        rw [ho] at h3;cases h3
        rw [hdo] at h5;cases h5
        rw [E0]
        rw [hsv] at h6;exact h6
       ·have h4:=((hset j).1 h4).resolve_left hij
        have hdd:d0≠d:=fun q=>by
         subst q
         exact hij (E89 b3 h3 ho h5 hdo)
        rw [C8 hdd]
        exact getF_dropK.2 ⟨hk d h7,hI.put j oj d x h3 h4 h5 h6 (hmono d h7)⟩
      ·have h3:E5 ((d0,s)::m3 kills frc) t=some x:=h3
       by_cases hdd:d0=t
       ·subst hdd
        rw [E0] at h3;cases h3
        exact .inl ⟨i,o,ho,(hset i).2 (.inl rfl),hdo,hsv⟩
       ·rw [C8 hdd] at h3
        rcases hI.from' t x (getF_dropK.1 h3).2 with ⟨j,oj,h4,h5,h6⟩ | h4
        ·exact .inl ⟨j,oj,h4,(hset j).2 (.inr h5),h6⟩
        ·exact .inr h4
      ·show E5 ((d0,s)::m3 kills frc) t=some x
       have hdd:d0≠t:=fun q=>h4 (by rw [←q];exact D27 ho hdo)
       rw [C8 hdd]
       exact getF_dropK.2 ⟨hk t h5,hI.old t x h3 h4 (hmono t h5)⟩
    unfold wpOp
    simp only [List.getElem?_toArray,ho]
    rw [if_pos (by simp [Region.wanted,g1])]
    rcases htask with ⟨htn,hneu⟩ | ⟨htn,ob',heff,obT,hobT,hle⟩
    ·have hnE:i∉E:=fun q=>by rw [hasN_iff.2 q] at htn;cases htn
     refine .inl (M9 (hneu S G a w (hsf.weaken fun t x hx=>hext t x hx)) ?_)
     rintro v w' ⟨hxw2,s',rfl,hv⟩
     have hDe:(E.filter fun j=>(listed.setIfInBounds i true).getD j false)=D:=by
      rw [hD]
      apply List.filter_congr
      intro j hj
      have:j≠i:=fun q=>hnE (q ▸ hj)
      exact A83 (Ne.symm this)
     obtain ⟨d0,hd0⟩:=g4.resolve_left (by rw [htn];simp)
     have hi2:=hinv [] (fun q=>absurd q hnE) (fun _=>rfl)
     rw [hd0] at hi2 ⊢
     have hi2:InvK l E svs ed fr (listed.setIfInBounds i true) ((d0,s')::m3 [] frc):=hi2
     have hdk:m3 [] frc=frc:=by unfold m3;exact List.filter_eq_self.2 fun p _=>rfl
     rw [hdk] at hi2
     exact ih (listed.setIfInBounds i true) ((d0,s')::frc) ob G _ w' hsz2 hul hcl2 (by rw [hDe];exact hM) (by rw [hDe];exact hob) hi2 ((hsf.ext hxw2).put (by rw [hn];exact g2 d0 hd0) hv)
    ·have hiE:i∈E:=hasN_iff.1 htn
     have hDe:(E.filter fun j=>(listed.setIfInBounds i true).getD j false)=B30 i D:=by
      rw [hD];exact E88 (by omega) hiu b4 hiE
     have hM2:B30 i D∈Ms:=by
      have:=List.all_eq_true.1 (List.all_eq_true.1 b7 D hM) i hiE
      rw [hpo] at this
      exact H44 (by simpa using this)
     have hfr2:∀k∈(l9 ed i).1,∀t x,E5 frc t=some x→t∉(l9 ed i).2→x.free k=true:=by
      obtain ⟨x0,hx0,hx1⟩:=hed i hiE
      rw [hx1]
      have hf:∀(xs:Ed),C67 l l.toArray svs fr xs=true→(i,x0)∈xs→∀k∈x0.1,((List.range l.toArray.size).all fun j=>Nat.beq j i||Bef l.toArray j i||match (l[j]?).bind (·.dst),S4 svs j with
        | some d,some s=>G4 x0.2 d||s.free k
        | _,_=>true)=true∧(fr.all fun p=>G4 x0.2 p.1||p.2.free k)=true:=by
       intro xs
       induction xs with
       | nil=>intro _ h;simp at h
       | cons y r ihx =>
        obtain ⟨e',ks',kl'⟩:=y
        intro hok hmem
        simp only [C67,L02] at hok
        rcases List.mem_cons.1 hmem with q | q
        ·cases q
         intro k hk
         have:=List.all_eq_true.1 hok.1 k hk
         simpa only [L02] using this
        ·exact ihx hok.2 q
      intro k hk t x hx hnk
      obtain ⟨f1,f2⟩:=hf ed hfree hx0 k hk
      rcases hI.from' t x hx with ⟨j,oj,h4,h5,h6,h7⟩ | h4
      ·have:=List.all_eq_true.1 f1 j (List.mem_range.2 (by simpa using (List.getElem?_eq_some_iff.1 h4).1))
       have hji:j≠i:=fun q=>by rw [q,hiu] at h5;cases h5
       have hbf:Bef l.toArray j i=false:=by
        cases hb:Bef l.toArray j i
        ·rfl
        ·exact (hlb j h5 hb).elim
       rw [W6 hji,hbf,h4] at this
       simp only [Option.bind_some,h6,h7,Bool.false_or,L20] at this
       rcases this with q | q
       ·exact absurd (hasN_iff.1 q) hnk
       ·exact q
      ·have hmem:(t,x)∈fr:=by
        have:∀(fr:Fr),E5 fr t=some x→(t,x)∈fr:=by
         intro fr
         induction fr with
         | nil=>intro h;simp [E5] at h
         | cons y r ihf =>
          obtain ⟨q,z⟩:=y
          intro h
          by_cases hq:q=t
          ·subst hq;rw [E0] at h;cases h;exact List.mem_cons_self ..
          ·rw [C8 hq] at h;exact List.mem_cons_of_mem _ (ihf h)
        exact this fr h4
       have:=List.all_eq_true.1 f2 (t,x) hmem
       simp only [L20] at this
       rcases this with q | q
       ·exact absurd (hasN_iff.1 q) hnk
       ·exact q
     refine .inl (M9 (heff frc hext hfr2 S G a w hn hsf) ?_)
     rintro v w' ⟨G',hs2,hv⟩
     have hi2:=hinv (l9 ed i).2 (fun _=>rfl) (fun q=>absurd hiE q)
     have hs3:=hs2.weakenO hle
     refine ih (listed.setIfInBounds i true) _ obT G' _ w' hsz2 hul hcl2 (by rw [hDe];exact hM2) (by rw [hDe];exact hobT) hi2 ?_
     cases hdo:o.dst with
     | none=>exact hs3
     | some d0 =>
      have hv2:=hv d0 hdo
      have hput:=hs2.put (d:=d0) (by rw [hn];exact g2 d0 hdo) hv2
      exact hput.weakenO hle
 have hlist0:∀j,(Array.replicate l.length false).getD j false=false:=by
  intro j
  simp only [Array.getD_eq_getD_getElem?]
  rcases Nat.lt_or_ge j l.length with h' | h'
  ·simp [h']
  ·simp [h']
 have hf0:(E.filter fun j=>(Array.replicate l.length false).getD j false)=[]:=by
  rw [List.filter_eq_nil_iff];intro e _;rw [hlist0];simp
 have hu0:unl (Array.replicate l.length false) l.length=l.length:=by
  unfold unl
  have:(List.range l.length).countP (fun i=>!(Array.replicate l.length false).getD i false)=(List.range l.length).length:=by
   rw [List.countP_eq_length];intro i _;rw [hlist0];rfl
  rw [this,L39]
 have:=key l.length (Array.replicate l.length false) fr ob0 G a _ (by simp) hu0 (fun j o ho hl=>by rw [hlist0] at hl;cases hl) (by rw [hf0];exact H44 b6) (by rw [hf0];exact h0) ⟨fun j o d s _ h4 _=>(by rw [hlist0] at h4;cases h4),fun t s h3=>.inr h3,fun t s h3 _ _=>h3⟩ (hs.ext hxw)
 simpa using this
end
end Go.AL
namespace Go.AL
open Go Go.RowKit
set_option linter.unusedVariables false
section
variable {P:Program} {nt:Nat}
def B82 (P:Program) (nt:Nat) (l:List Oper) (fr:Fr) (E:List Nat) (ed:Ed) (K:Sv→Mo→Prop):List (Nat × List Nat)→Sv→Mo→Prop
 | [],svs,M=>K svs M
 | (i,D)::ts,svs,M=>∃o ob s,l[i]?=some o∧V6 M D=some ob∧A14 l svs o=true∧(S4 svs i=none∨S4 svs i=some s) ∧
   ((G4 E i=false∧Neu P o (b8 (B88 l svs fr) (A11 o.op)) ob (fun s'=>s'=s)∧B82 P nt l fr E ed K ts ((i,s)::svs) M) ∨
    (G4 E i=true∧∃ob',E92 P nt o (b8 (B88 l svs fr) (A11 o.op)) (l9 ed i).1 (l9 ed i).2 ob ob' s∧V6 M (B30 i D)=none∧B82 P nt l fr E ed K ts ((i,s)::svs) ((B30 i D,ob')::M)))
def B06 (P:Program) (nt:Nat) (l:List Oper) (fr:Fr) (E:List Nat) (ed:Ed) (svs:Sv) (M:Mo):List (Nat × List Nat)→Prop
 | []=>True
 | (i,D)::ts=>(∃o ob s,l[i]?=some o∧V6 M D=some ob∧A14 l svs o=true∧S4 svs i=some s ∧
   ((G4 E i=false∧Neu P o (b8 (B88 l svs fr) (A11 o.op)) ob (fun s'=>s'=s)) ∨
    (G4 E i=true∧∃ob' obT,E92 P nt o (b8 (B88 l svs fr) (A11 o.op)) (l9 ed i).1 (l9 ed i).2 ob ob' s∧V6 M (B30 i D)=some obT∧H46 obT ob')))∧B06 P nt l fr E ed svs M ts
def TaskOk (P:Program) (nt:Nat) (l:List Oper) (fr:Fr) (E:List Nat) (ed:Ed) (svs:Sv) (M:Mo) (p:Nat × List Nat):Prop :=
 ∃ob s,V6 M p.2=some ob∧S4 svs p.1=some s∧Task P nt l fr svs E ed p.1 ob s (fun ob'=>∃obT,V6 M (B30 p.1 p.2)=some obT∧H46 obT ob')
theorem C39 {svs:Sv} {i:Nat} {s:SV} (h:S4 svs i=none∨S4 svs i=some s) {j:Nat} {x:SV} (hj:S4 svs j=some x):S4 ((i,s)::svs) j=some x:=by
 show cond (Nat.beq i j) _ _=_
 by_cases hij:i=j
 ·subst hij
  rw [Nat.beq_refl]
  rcases h with h | h
  ·rw [h] at hj;cases hj
  ·rw [h] at hj;exact hj
 ·rw [W6 hij];exact hj
theorem E94:∀(l:List Nat),B31 l l=true
 | []=>rfl
 | a::l=>by simp [B31,Nat.beq_refl,E94 l]
theorem G09 {M:Mo} {D0:List Nat} {o0:Obs} (h:V6 M D0=none) {D:List Nat} {ob:Obs} (hD:V6 M D=some ob):V6 ((D0,o0)::M) D=some ob:=by
 show cond (B31 D0 D) _ _=_
 cases hs:B31 D0 D
 ·exact hD
 ·rw [D26 hs] at h;rw [h] at hD;cases hD
theorem UIn2.mono {l:List Oper} {svs svs':Sv} {fr:Fr} {o:Oper} {U:Fr} (h:UIn2 l svs fr o U) (hm:∀j x,S4 svs j=some x→S4 svs' j=some x):UIn2 l svs' fr o U:=fun t s ht=>by
 obtain ⟨h1,h2⟩:=h t s ht
 refine ⟨h1,?_⟩
 rcases h2 with ⟨j,o',h3,h4,h5⟩ | h2
 ·exact .inl ⟨j,o',h3,h4,hm j s h5⟩
 ·exact .inr h2
theorem E95 {l:List Oper} {fr:Fr} {E:List Nat} {ed:Ed} {K:Sv→Mo→Prop}:∀{ts:List (Nat × List Nat)} {svs:Sv} {M:Mo},B82 P nt l fr E ed K ts svs M →
  ∃svs' M',(∀j x,S4 svs j=some x→S4 svs' j=some x)∧(∀D ob,V6 M D=some ob→V6 M' D=some ob)∧K svs' M'∧∀p∈ts,TaskOk P nt l fr E ed svs' M' p
 | [],svs,M,h=>⟨svs,M,fun _ _ h=>h,fun _ _ h=>h,h,fun p hp=>by simp at hp⟩
 | (i,D)::ts,svs,M,h=>by
  obtain ⟨o,ob,s,h1,h2,h3,h4,h5⟩:=h
  have hself:S4 ((i,s)::svs) i=some s:=by show cond (Nat.beq i i) _ _=_;rw [Nat.beq_refl];rfl
  rcases h5 with ⟨h6,h7,h8⟩ | ⟨h6,ob',h7,h9,h8⟩
  ·obtain ⟨svs',M',g1,g2,g3,g4⟩:=E95 h8
   refine ⟨svs',M',fun j x hj=>g1 j x (C39 h4 hj),g2,g3,fun p hp=>?_⟩
   rcases List.mem_cons.1 hp with rfl | hp
   ·exact ⟨ob,s,g2 _ _ h2,g1 _ _ hself,o,_,h1,(E63 h3).mono (fun j x hj=>g1 j x (C39 h4 hj)),.inl ⟨h6,h7⟩⟩
   ·exact g4 p hp
  ·obtain ⟨svs',M',g1,g2,g3,g4⟩:=E95 h8
   have hM:V6 ((B30 i D,ob')::M) (B30 i D)=some ob':=by show cond (B31 _ _) _ _=_;rw [E94];rfl
   refine ⟨svs',M',fun j x hj=>g1 j x (C39 h4 hj),fun D' ob2 hD=>g2 _ _ (G09 h9 hD),g3,fun p hp=>?_⟩
   rcases List.mem_cons.1 hp with rfl | hp
   ·exact ⟨ob,s,g2 _ _ (G09 h9 h2),g1 _ _ hself,o,_,h1,(E63 h3).mono (fun j x hj=>g1 j x (C39 h4 hj)),.inr ⟨h6,ob',h7,ob',g2 _ _ hM,fun _ _ h=>h⟩⟩
   ·exact g4 p hp
theorem G10 {l:List Oper} {fr:Fr} {E:List Nat} {ed:Ed} {svs:Sv} {M:Mo}:∀{ts:List (Nat × List Nat)},B06 P nt l fr E ed svs M ts→∀p∈ts,TaskOk P nt l fr E ed svs M p
 | [],_,p,hp=>by simp at hp
 | (i,D)::ts,h,p,hp=>by
  obtain ⟨⟨o,ob,s,h1,h2,h3,h4,h5⟩,h6⟩:=h
  rcases List.mem_cons.1 hp with rfl | hp
  ·rcases h5 with ⟨g1,g2⟩ | ⟨g1,ob',obT,g2,g3,g4⟩
   ·exact ⟨ob,s,h2,h4,o,_,h1,E63 h3,.inl ⟨g1,g2⟩⟩
   ·exact ⟨ob,s,h2,h4,o,_,h1,E63 h3,.inr ⟨g1,ob',g2,obT,g3,g4⟩⟩
  ·exact G10 h6 p hp
def G66 (ed:Ed):List Nat:=ed.flatMap fun p=>p.2.2
def edOk (E:List Nat) (ed:Ed):Bool:=E.all fun e=>ed.any fun p=>Nat.beq p.1 e
theorem E96:∀{ed:Ed} {e:Nat},(ed.any fun p=>Nat.beq p.1 e)=true→(e,l9 ed e)∈ed
 | [],_,h=>by simp at h
 | (i,x)::r,e,h=>by
  by_cases hie:i=e
  ·subst hie
   have:l9 ((i,x)::r) i=x:=by show cond (Nat.beq i i) _ _=_;rw [Nat.beq_refl];rfl
   rw [this];exact List.mem_cons_self ..
  ·have h1:l9 ((i,x)::r) e=l9 r e:=by show cond (Nat.beq i e) _ _=_;rw [W6 hie];rfl
   rw [h1]
   simp only [List.any_cons,W6 hie,Bool.false_or] at h
   exact List.mem_cons_of_mem _ (E96 h)
def Fin2 (P:Program) (nt:Nat) (l:List Oper) (fr:Fr) (E:List Nat) (ed:Ed) (T2:List (Nat × List Nat)) (Q:Post) (svs:Sv) (M:Mo):Prop :=
 (C67 l l.toArray svs fr ed&&(List.range l.length).all fun j=>(S4 svs j).isSome)=true∧B06 P nt l fr E ed svs M T2∧∃obE,V6 M E=some obE∧Q .normal (m3 (G66 ed) (B88 l svs fr)) obE
theorem Q0 {id:Nat} {l:List Oper} {fr:Fr} {ob0:Obs} {Q:Post} (E:List Nat) (Ms:List (List Nat)) (ed:Ed) (T1 T2:List (Nat × List Nat)) (hm:P.follows .mixedOrders=true)
  (hB:(conf2 nt l E Ms ed (T1++T2)&&edOk E ed)=true) (h:B82 P nt l fr E ed (Fin2 P nt l fr E ed T2 Q) T1 [] [([],ob0)]):WpC P nt (.region id l.toArray true) fr ob0 Q:=by
 simp only [L02] at hB
 obtain ⟨svs,M,h1,h2,⟨h3,h4,obE,h5,h6⟩,h7⟩:=E95 h
 simp only [L02] at h3
 refine c_core E Ms ed (T1++T2) svs M hm hB.1 (fun e he=>⟨l9 ed e,E96 (List.all_eq_true.1 hB.2 e he),rfl⟩) h3.1 (h2 [] ob0 rfl) (fun p hp=>?_) h5 (fun t s ht=>?_) h6
 ·rcases List.mem_append.1 hp with hp | hp
  ·exact h7 p hp
  ·exact G10 h4 p hp
 ·obtain ⟨hk,h8⟩:=getF_dropK.1 ht
  refine ⟨fun e he hin=>hk ?_,?_⟩
  ·have:=E96 (List.all_eq_true.1 hB.2 e he)
   exact List.mem_flatMap.2 ⟨_,this,hin⟩
  ·rcases E93 h8 with ⟨j,o,g1,g2,g3⟩ | ⟨g1,g2⟩
   ·exact .inl ⟨j,o,g2,g3,g1⟩
   ·refine .inr ⟨fun hin=>?_,g1⟩
    obtain ⟨j,o,g3,g4⟩:=D28 hin
    have:=List.all_eq_true.1 h3.2 j (List.mem_range.2 (List.getElem?_eq_some_iff.1 g3).1)
    exact g2 j o (fun e=>by rw [e] at this;cases this) g3 g4
theorem E6 {l:List Oper} {fr:Fr} {E:List Nat} {ed:Ed} {K:Sv→Mo→Prop} {i:Nat} {D:List Nat} {ts:List (Nat × List Nat)} {svs:Sv} {M:Mo} {o:Oper} {ob:Obs} {s:SV} (ho:l[i]?=some o) (hM:V6 M D=some ob) (hu:A14 l svs o=true)
  (hv:S4 svs i=none) (ht:G4 E i=false) (h:Neu P o (b8 (B88 l svs fr) (A11 o.op)) ob (fun s'=>s'=s)) (k:B82 P nt l fr E ed K ts ((i,s)::svs) M):B82 P nt l fr E ed K ((i,D)::ts) svs M :=
 ⟨o,ob,s,ho,hM,hu,.inl hv,.inl ⟨ht,h,k⟩⟩
theorem Z5 {l:List Oper} {fr:Fr} {E:List Nat} {ed:Ed} {K:Sv→Mo→Prop} {i:Nat} {D:List Nat} {ts:List (Nat × List Nat)} {svs:Sv} {M:Mo} {o:Oper} {ob ob':Obs} {s:SV} (ho:l[i]?=some o) (hM:V6 M D=some ob) (hu:A14 l svs o=true)
  (hv:S4 svs i=none) (ht:G4 E i=true) (h:E92 P nt o (b8 (B88 l svs fr) (A11 o.op)) (l9 ed i).1 (l9 ed i).2 ob ob' s) (hn:V6 M (B30 i D)=none) (k:B82 P nt l fr E ed K ts ((i,s)::svs) ((B30 i D,ob')::M)):B82 P nt l fr E ed K ((i,D)::ts) svs M :=
 ⟨o,ob,s,ho,hM,hu,.inl hv,.inr ⟨ht,ob',h,hn,k⟩⟩
theorem w_again {l:List Oper} {fr:Fr} {E:List Nat} {ed:Ed} {K:Sv→Mo→Prop} {i:Nat} {D:List Nat} {ts:List (Nat × List Nat)} {svs:Sv} {M:Mo} {o:Oper} {ob ob':Obs} {s:SV} (ho:l[i]?=some o) (hM:V6 M D=some ob) (hu:A14 l svs o=true)
  (hv:S4 svs i=some s) (ht:G4 E i=true) (h:E92 P nt o (b8 (B88 l svs fr) (A11 o.op)) (l9 ed i).1 (l9 ed i).2 ob ob' s) (hn:V6 M (B30 i D)=none) (k:B82 P nt l fr E ed K ts ((i,s)::svs) ((B30 i D,ob')::M)):B82 P nt l fr E ed K ((i,D)::ts) svs M :=
 ⟨o,ob,s,ho,hM,hu,.inr hv,.inr ⟨ht,ob',h,hn,k⟩⟩
theorem G11 {l:List Oper} {fr:Fr} {E:List Nat} {ed:Ed} {T2:List (Nat × List Nat)} {Q:Post} {svs:Sv} {M:Mo} {obE:Obs} (h1:(C67 l l.toArray svs fr ed&&(List.range l.length).all fun j=>(S4 svs j).isSome)=true) (h2:V6 M E=some obE)
  (h3:B06 P nt l fr E ed svs M T2) (h4:Q .normal (m3 (G66 ed) (B88 l svs fr)) obE):B82 P nt l fr E ed (Fin2 P nt l fr E ed T2 Q) [] svs M:=⟨h1,h3,obE,h2,h4⟩
theorem O3 {l:List Oper} {fr:Fr} {E:List Nat} {ed:Ed} {i:Nat} {D:List Nat} {ts:List (Nat × List Nat)} {svs:Sv} {M:Mo} {o:Oper} {ob:Obs} {s:SV} (ho:l[i]?=some o) (hM:V6 M D=some ob) (hu:A14 l svs o=true)
  (hv:S4 svs i=some s) (ht:G4 E i=false) (h:Neu P o (b8 (B88 l svs fr) (A11 o.op)) ob (fun s'=>s'=s)) (k:B06 P nt l fr E ed svs M ts):B06 P nt l fr E ed svs M ((i,D)::ts) :=
 ⟨⟨o,ob,s,ho,hM,hu,hv,.inl ⟨ht,h⟩⟩,k⟩
theorem x_eff {l:List Oper} {fr:Fr} {E:List Nat} {ed:Ed} {i:Nat} {D:List Nat} {ts:List (Nat × List Nat)} {svs:Sv} {M:Mo} {o:Oper} {ob ob' obT:Obs} {s:SV} (ho:l[i]?=some o) (hM:V6 M D=some ob) (hu:A14 l svs o=true)
  (hv:S4 svs i=some s) (ht:G4 E i=true) (h:E92 P nt o (b8 (B88 l svs fr) (A11 o.op)) (l9 ed i).1 (l9 ed i).2 ob ob' s) (hT:V6 M (B30 i D)=some obT) (hle:H46 obT ob') (k:B06 P nt l fr E ed svs M ts):B06 P nt l fr E ed svs M ((i,D)::ts) :=
 ⟨⟨o,ob,s,ho,hM,hu,hv,.inr ⟨ht,ob',obT,h,hT,hle⟩⟩,k⟩
theorem C03 {l:List Oper} {fr:Fr} {E:List Nat} {ed:Ed} {svs:Sv} {M:Mo}:B06 P nt l fr E ed svs M []:=trivial
def J31 (ob:Obs):List Nat→Obs→Prop
 | _,[]=>True
 | seen,(k,o)::r=>(G4 seen k=true∨C1 ob k=some o)∧J31 ob (k::seen) r
theorem E97 {ob:Obs}:∀{obT:Obs} {seen:List Nat},J31 ob seen obT→∀k o,k∉seen→C1 obT k=some o→C1 ob k=some o
 | [],_,_,k,o,_,hk=>by simp [C1] at hk
 | (k',o')::r,seen,⟨h1,h2⟩,k,o,hs,hk=>by
  by_cases he:k'=k
  ·subst he
   rw [C4] at hk;cases hk
   rcases h1 with h1 | h1
   ·exact absurd (hasN_iff.1 h1) hs
   ·exact h1
  ·rw [B4 he] at hk
   exact E97 h2 k o (fun q=>by
    rcases List.mem_cons.1 q with q | q
    ·exact he q.symm
    ·exact hs q) hk
theorem K31 {obT ob:Obs} (h:J31 ob [] obT):H46 obT ob:=fun k o hk=>E97 h k o (by simp) hk
theorem T9 {U frc:Fr} (hU:E91 U frc) {x:Operand} {s:SV} (h:opv U x=some s):opv frc x=some s:=by
 cases x with
 | tmp t =>
  have h:c9 U t=some s:=h
  obtain ⟨h1,h2⟩:=G04 h
  show c9 frc t=some s
  unfold c9
  have:Nat.blt t 1000000=true:=by simpa using h1
  rw [this];exact hU t s h2
 | _=>exact h
theorem argsU {U frc:Fr} (hU:E91 U frc):∀{xs:List Operand} {ps:List S1},p6 U xs=some ps→p6 frc xs=some ps
 | [],ps,h=>h
 | x :: r,ps,h=>by
  unfold p6 at h ⊢
  cases hx:opv U x with
  | none=>rw [hx] at h;cases h
  | some sv =>
   rw [hx] at h
   cases sv with
   | s s0 =>
    simp only at h
    cases hr:p6 U r with
    | none=>rw [hr] at h;cases h
    | some qs =>
     rw [hr] at h
     rw [T9 hU hx]
     simp only
     rw [argsU hU hr];exact h
   | _=>cases h
theorem r_alloc {U:Fr} {k:Nat} {e:TypeId} {z:Value} [hz:TyZero P e z] {ty:TypeId} {pos:String} {af:Array Edge} {al:Nat} {ob:Obs} (h2:L0 k ob=true) :
  E92 P nt ⟨some al,.alloc e,ty,pos,af,none⟩ U [k] [] ob ((k,.box (z.cells.toList.map fun c=>.p (.v c)))::ob) (.s (.one (.ref k 0))):=by
 intro frc hU hfree S G a w hn hs
 obtain ⟨h4,h5,hp⟩:=H9 h2
 refine J9 (w':=w.alloc (.cells z.cells e)) (v:=.pointer (some ⟨w.heap.size,0,none⟩)) ?_ ?_
 ·simp [execOp,Instr.alloc,newVar,newRow,T6 hz.out.1]
 ·have hxw:Below w.heap.size w (w.alloc (.cells z.cells e)):=(Below.refl _ _).alloc (Nat.le_refl _) _
  have hu:∀b,blk (.pointer (some ⟨w.heap.size,0,none⟩))=some b→w.heap.size≤b:=by intro b hb;simp [blk] at hb;omega
  have h6:=hs.new (o:=.box (z.cells.toList.map fun c=>.p (.v c))) hp h5 hxw hu ⟨w.heap.size,z.cells.toList,e,rfl,by rw [Array.toArray_toList];exact heap_alloc_new w _,o8 _ hz.out.2⟩
  rw [h4] at h6
  refine ⟨_,h6.weaken (fun t x ht=>?_),fun d _=>⟨w.heap.size,J2 _ _ _,rfl⟩⟩
  obtain ⟨_,ht⟩:=getF_dropK.1 ht
  rw [N7,ht]
  simp [SV.forget_free (hfree k (by simp) t x ht (by simp))]
theorem A84 {U:Fr} {op:Op} {ty:TypeId} {pos:String} {af:Array Edge} {ob ob':Obs} (h:∀frc,E91 U frc→Eff P ⟨none,op,ty,pos,af,none⟩ frc ob frc ob'):E92 P nt ⟨none,op,ty,pos,af,none⟩ U [] [] ob ob' .any:=by
 intro frc hU _ S G a w hn hs
 have:=h frc hU S G a w hs
 have hdk:m3 [] frc=frc:=by unfold m3;exact List.filter_eq_self.2 fun p _=>rfl
 have imp:∀(v:Value) (w':World),(∃G',Sim P S frc ob' G' a w')→∃G',Sim P S (m3 [] frc) ob' G' a w'∧∀d,(none:Option Tmp)=some d→SV.rep (F0 (Mut S ob' G') w') G' .any v:=fun v w' ⟨G',h⟩=>⟨G',by rw [hdk];exact h,fun d hd=>by cases hd⟩
 unfold Does at this ⊢
 generalize (execOp a.eval _).run P w=r at *
 cases r with
 | ok n w' =>
  cases n<;>simp only at this ⊢<;>try exact this.elim
  case value v=>exact imp v w' this
  case skip=>exact imp undef w' this
  case enter f args=>exact this.mono fun e w'' ⟨v,he,hv⟩=>⟨v,he,imp v w'' hv⟩
 | halt x w'=>exact this
theorem D84 {U:Fr} {k:Nat} {kills:List Nat} {o:Oper} {ob ob':Obs} {s:SV} (h:∀frc,E91 U frc→EffV P o frc ob s (Fr.forget k frc) ob'):E92 P nt o U [k] kills ob ob' s:=by
 intro frc hU hfree S G a w hn hs
 have:=h frc hU S G a w hs
 have imp:∀(v:Value) (w':World),(∃G',Sim P S (Fr.forget k frc) ob' G' a w'∧s.rep (F0 (Mut S ob' G') w') G' v)→∃G',Sim P S (m3 kills frc) ob' G' a w'∧∀d,o.dst=some d→s.rep (F0 (Mut S ob' G') w') G' v:=fun v w' ⟨G',h,hr⟩=>⟨G',h.weaken (fun t x ht=>by
  obtain ⟨hk,ht⟩:=getF_dropK.1 ht
  rw [N7,ht]
  simp [SV.forget_free (hfree k (by simp) t x ht hk)]),fun _ _=>hr⟩
 unfold Does at this ⊢
 generalize (execOp a.eval _).run P w=r at *
 cases r with
 | ok n w' =>
  cases n<;>simp only at this ⊢<;>try exact this.elim
  case value v=>exact imp v w' this
  case skip=>exact imp undef w' this
  case enter f args=>exact this.mono fun e w'' ⟨v,he,hv⟩=>⟨v,he,imp v w'' hv⟩
 | halt x w'=>exact this
theorem C68:∀{ks:List Nat} {fr:Fr} {t:Nat} {x:SV},E5 fr t=some x→(∀k∈ks,x.free k=true)→E5 (C0 ks fr) t=some x
 | [],_,_,_,h,_=>h
 | k::ks,fr,t,x,h,hf=>by
  show E5 (C0 ks (Fr.forget k fr)) t=some x
  refine C68 ?_ (fun k' hk'=>hf k' (List.mem_cons_of_mem _ hk'))
  rw [N7,h]
  simp [SV.forget_free (hf k (List.mem_cons_self ..))]
theorem r_met {f:FuncId} {xs:List Operand} {ats:Array TypeId} {d:Nat} {ty:TypeId} {pos:String} {af:Array Edge} {U:Fr} {args:List S1} {ks kills:List Nat} {ob ob':Obs} {rs:List S1}
  (hf:∀gf,Met P f args gf ob ks (fun rs' ob''=>rs'=rs∧ob''=ob')) (ha:p6 U xs=some args) (hc:xs.all H8=true):E92 P nt ⟨some d,.call ⟨.value (.func f),xs.toArray,ats⟩,ty,pos,af,none⟩ U ks kills ob ob' (B98 rs):=by
 intro frc hU hfree S G a w hn h
 have hvals:=Z8 h xs args (argsU hU ha) hc
 obtain ⟨gv,hgv⟩:∃gv:Nat→Value,gv=fun i=>S.sl a (i - 1000000):=⟨_,rfl⟩
 let S':Ctx:={ S with gv:=gv }
 have hhigh:High (shF frc):=fun i s hi=>(U2 frc i s hi).1
 have hfacts0:∀i s,E5 (shF frc) i=some s→s.rep (F0 (Mut S' ob G) w) G (S'.sl a i):=by
  intro i s hi
  obtain ⟨h7,h8⟩:=U2 frc i s hi
  rw [Ctx.sl_ge h7]
  show s.rep _ _ (gv i)
  have e:=congrFun hgv i
  rw [e]
  exact h.facts (i - 1000000) s h8
 have hs:Sim P S' (shF frc) ob G a w:={ h with facts:=hfacts0 }
 have hcalls:=(hf (shF frc)).2 hhigh S' G a w _ hs hvals
 have he:(execOp a.eval ⟨some d,.call ⟨.value (.func f),xs.toArray,ats⟩,ty,pos,af,none⟩).run P w=.ok (.enter f (xs.map a.eval).toArray) w:=by
  have:=M4 (P:=P) (f:=f) (args:=(xs.map a.eval).toArray) (w:=w) (hf []).1
  have hm:xs.toArray.map a.eval=(xs.map a.eval).toArray:=by simp
  simp only [execOp,resolve,Act.eval,Deferred.ofValue,Sem.run_bind,Sem.run_pure,Result.andThen_ok,invoke]
  rw [show (#[]:Array Value)++Array.map a.eval xs.toArray++#[]=(xs.map a.eval).toArray by rw [←hm];simp]
  exact this
 unfold Does
 rw [he]
 refine hcalls.mono ?_
 rintro e w' ⟨v,rs',ob'',G',rfl,⟨rfl,rfl⟩,hres,hs'⟩
 have hfacts:∀i s,E5 (C0 ks frc) i=some s→s.rep (F0 (Mut S ob'' G') w') G' (S.sl a i):=by
  intro i s hi
  have h7:=hs'.facts (i+1000000) s (by rw [Y3];exact B49 hi)
  have h8:1000000≤i+1000000:=Nat.le_add_left _ _
  rw [Ctx.sl_ge h8] at h7
  have h7:s.rep (F0 (Mut S ob'' G') w') G' (gv (i+1000000)):=h7
  have e:=congrFun hgv (i+1000000)
  simp only [Nat.add_sub_cancel] at e
  rw [e] at h7
  exact h7
 have hsim:Sim P S (C0 ks frc) ob'' G' a w':={ hs' with facts:=hfacts }
 refine ⟨v,rfl,G',hsim.weaken (fun t x ht=>?_),fun _ _=>hres⟩
 obtain ⟨hk,ht⟩:=getF_dropK.1 ht
 exact C68 ht (fun k hkk=>hfree k hkk t x ht hk)
end
end Go.AL
namespace Go.AL
open Go Go.RowKit
set_option linter.unusedVariables false
section
variable {P:Program} {nt:Nat} {fr:Fr} {ob:Obs}
theorem K96 (k:Nat) (α:Type) (ec:Nat) (c:α→Nat→Cell) (e:TypeId) {kb o n m:Nat} {ts:List TC} (hb:C1 ob kb=some (.tarr n m ts)) (hts:ts[o]?=some (.p (.v (.slice none 0 0)))) (hf:(K4 k fr&&L0 k ob)=true) :
  Sees P nt fr ob fr ((kb,.tarr n m (ts.set o (.buf k α ec c [])))::(k,.spare 0 ec e)::ob):=by
 simp only [L02] at hf
 obtain ⟨h1,h2⟩:=hf
 obtain ⟨h4,h5,hp⟩:=H9 h2
 intro S G a w hn h
 have h6:=h.new hp (o:=.spare 0 ec e) (u:=.slice none 0 0) (w1:=w) h5 (Below.refl _ _) (fun b hb=>by simp [blk] at hb) ⟨[],World.ownsRow_nil w _ _ _⟩
 rw [b9 h1,h4] at h6
 have hkb:k≠kb:=fun he=>by rw [he,hb] at h5;cases h5
 have hb':C1 ((k,Ob.spare 0 ec e)::ob) kb=some (.tarr n m ts):=by rw [B4 hkb];exact hb
 obtain ⟨b,vs,t,hg,hl,hh,hlen,ha⟩:=h6.obs kb _ hb'
 have hbk:blk (upd G k (.slice none 0 0) kb)=some b:=by rw [hg];rfl
 refine ⟨_,h6.retell hb' hbk (fun i=>⟨hbk,trivial⟩) (fun i=>⟨hbk,trivial⟩) ?_⟩
 rintro rd ⟨b',vs',t',hg',hl',hh',hlen',ha'⟩
 refine ⟨b',vs',t',hg',hl',hh',by simpa using hlen',K86 o (fun z hz=>?_) ha'⟩
 obtain ⟨z',hz1,hz2⟩:=ha'.get o _ hts
 rw [hz] at hz1;cases hz1
 rw [hz2.1]
 exact ⟨(J2 _ _ _).symm,I4 α ec c⟩
end
end Go.AL
namespace Go.AL
open Go Go.RowKit
set_option linter.unusedVariables false
def J32 (L:Obs):List Nat:=L.map (·.1)
theorem E4 {L cur rest:Obs} (h:ObIn cur L) (hr:∀j x,G4 (J32 L) j=false→C1 rest j=some x→C1 cur j=some x):∀j x,C1 (L++rest) j=some x→C1 cur j=some x:=by
 have key:∀(L:Obs) (j:Nat) (x:Ob),C1 (L++rest) j=some x→(C1 L j=some x)∨(G4 (J32 L) j=false∧C1 rest j=some x):=by
  intro L
  induction L with
  | nil=>intro j x hx;exact .inr ⟨rfl,hx⟩
  | cons p r ih =>
   obtain ⟨k,o⟩:=p
   intro j x hx
   have hx:C1 ((k,o)::(r++rest)) j=some x:=hx
   by_cases hk:k=j
   ·subst hk;rw [C4] at hx;left;rw [C4];exact hx
   ·rw [B4 hk] at hx
    rcases ih j x hx with h1 | ⟨h1,h2⟩
    ·left;rw [B4 hk];exact h1
    ·right
     refine ⟨?_,h2⟩
     cases hh:G4 (J32 ((k,o)::r)) j
     ·rfl
     ·rcases List.mem_cons.1 (hasN_iff.1 hh) with q | q
      ·exact absurd q.symm hk
      ·rw [show G4 (J32 r) j=true from hasN_iff.2 q] at h1;cases h1
 intro j x hx
 rcases key L j x hx with h1 | ⟨h1,h2⟩
 ·exact h.spec j x h1
 ·exact hr j x h1 h2
theorem D5 {K:List Nat} {rest:Obs}:∀j x,G4 K j=false→C1 rest j=some x→C1 rest j=some x:=fun _ _ _ h=>h
theorem D8 {K:List Nat} {T rest:Obs} {k:Nat} {o:Ob} (hk:G4 K k=true) (h:∀j x,G4 K j=false→C1 rest j=some x→C1 T j=some x):∀j x,G4 K j=false→C1 rest j=some x→C1 ((k,o)::T) j=some x:=by
 intro j x hj hx
 have:k≠j:=fun e=>by rw [e,hj] at hk;cases hk
 rw [B4 this];exact h j x hj hx
theorem A02 {K:List Nat} {T ob:Obs} (k:Nat) (h:∀j x,G4 K j=false→C1 (Obs.forget k ob) j=some x→C1 T j=some x):∀j x,G4 K j=false→C1 (Obs.forget k ob) j=some x→C1 (Obs.forget k T) j=some x:=by
 intro j x hj hx
 have h1:=h j x hj hx
 rw [K6,h1]
 have h2:=hx
 rw [←Obs.forget_idem,K6,hx] at h2
 exact h2
theorem H47 {rest:Obs}:∀{L:Obs} {j:Nat} {x:Ob},C1 (L++rest) j=some x→C1 L j=some x∨C1 rest j=some x
 | [],j,x,hx=>.inr hx
 | (k,o)::r,j,x,hx=>by
  have hx:C1 ((k,o)::(r++rest)) j=some x:=hx
  by_cases hk:k=j
  ·subst hk;rw [C4] at hx;left;rw [C4];exact hx
  ·rw [B4 hk] at hx
   rcases H47 hx with h1 | h1
   ·left;rw [B4 hk];exact h1
   ·exact .inr h1
section
variable {P:Program} {nt:Nat} {fr gf:Fr} {ob:Obs}
theorem K77 (k:Nat) {l:Fr} {L:Obs} (hl:FrLe fr l) (hH:High gf) (ht:Tail gf fr) (hL:ObIn ob L):Sees P nt fr ob (l++Fr.forget k gf) (L++Obs.forget k ob):=by
 intro S G a w hn h
 have hget:∀k' o1,C1 (L++Obs.forget k ob) k'=some o1→∃o0,C1 ob k'=some o0∧(o1=o0∨o1=o0.forget k):=by
  intro k' o1 hk'
  rcases H47 hk' with h1 | h1
  ·exact ⟨o1,hL.spec k' o1 h1,.inl rfl⟩
  ·rw [K6] at h1
   cases hg:C1 ob k' with
   | none=>rw [hg] at h1;cases h1
   | some o0=>rw [hg] at h1;cases h1;exact ⟨o0,rfl,.inr rfl⟩
 have hrd:∀b i z,F0 (Mut S ob G) w b i z→F0 (Mut S (L++Obs.forget k ob) G) w b i z:=by
  intro b i z hr
  refine ⟨hr.1,fun hm=>hr.2 ?_⟩
  rcases hm with hm | ⟨k',o1,hk',hb⟩
  ·exact .inl hm
  ·obtain ⟨o0,h0,rfl | rfl⟩:=hget k' o1 hk'
   ·exact .inr ⟨k',_,h0,hb⟩
   ·exact .inr ⟨k',o0,h0,Own_forget.1 hb⟩
 refine ⟨G,{ h with old:=?_,dis:=?_,obs:=?_,facts:=?_ }⟩
 ·intro k' o1 b hk' hb
  obtain ⟨o0,h0,_⟩:=hget k' o1 hk'
  exact h.old k' o0 b h0 hb
 ·intro k1 k2 o1 o2 b h1 h2 hb1 hb2
  obtain ⟨oa,ha,_⟩:=hget k1 o1 h1
  obtain ⟨ob',hb',_⟩:=hget k2 o2 h2
  exact h.dis k1 k2 oa ob' b ha hb' hb1 hb2
 ·intro k' o1 hk'
  obtain ⟨o0,h0,rfl | rfl⟩:=hget k' o1 hk'
  ·exact (h.obs k' _ h0).ext hrd (Below.refl _ _)
  ·exact ((h.obs k' o0 h0).ext hrd (Below.refl _ _)).forget (fun _ _=>rfl)
 ·intro i s hi
  rw [Y2] at hi
  cases hg:E5 l i with
  | some s0 =>
   rw [hg] at hi
   have hi:some s0=some s:=hi
   cases hi
   obtain ⟨s1,h1,h2⟩:=hl.spec i _ hg
   exact h2.rep (SV.rep_mono hrd (h.facts i s1 h1))
  | none =>
   rw [hg] at hi
   have hi:E5 (Fr.forget k gf) i=some s:=hi
   rw [N7] at hi
   cases hgf:E5 gf i with
   | none=>rw [hgf] at hi;cases hi
   | some s0 =>
    rw [hgf] at hi;cases hi
    exact SV.rep_forget (fun _ _=>rfl) (SV.rep_mono hrd (h.facts i s0 (ht i s0 (hH i s0 hgf) hgf)))
end
end Go.AL
namespace Go.AL
open Go Go.RowKit
set_option linter.unusedVariables false
section
variable {P:Program} {nt:Nat} {fr:Fr} {ob:Obs} {dst:Option Tmp} {ty:TypeId} {pos:String} {af:Array Edge} {gd:Option (Nat × Bool)}
theorem Sim.retold {S:Ctx} {G:Gh} {a:Act} {w:World} (h:Sim P S fr ob G a w) {k:Nat} {o o':Ob} (hk:C1 ob k=some o) (hown:∀b i,Own (G k) o' b i→Own (G k) o b i)
  (ho:∀rd:Rd,ObOk S rd G w (G k) o→ObOk S rd G w (G k) o'):Sim P S fr ((k,o')::ob) G a w:=by
 have hget:∀k' o1,C1 ((k,o')::ob) k'=some o1→∃o0,C1 ob k'=some o0∧∀b i,Own (G k') o1 b i→Own (G k') o0 b i:=by
  intro k' o1 hk'
  by_cases hkk:k'=k
  ·subst hkk;rw [C4] at hk';cases hk';exact ⟨_,hk,hown⟩
  ·rw [B4 (Ne.symm hkk)] at hk';exact ⟨_,hk',fun _ _ ho=>ho⟩
 have hrd:∀b i z,F0 (Mut S ob G) w b i z→F0 (Mut S ((k,o')::ob) G) w b i z:=by
  intro b i z hr
  refine ⟨hr.1,fun hm=>hr.2 ?_⟩
  rcases hm with hm | ⟨k',o1,hk',hb⟩
  ·exact .inl hm
  ·obtain ⟨o0,h0,hi⟩:=hget k' o1 hk'
   exact .inr ⟨k',o0,h0,hi _ _ hb⟩
 refine { h with old:=?_,dis:=?_,obs:=?_,facts:=?_ }
 ·intro k' o1 b hk' hb
  obtain ⟨o0,h0,_⟩:=hget k' o1 hk'
  exact h.old k' o0 b h0 hb
 ·intro k1 k2 o1 o2 b h1 h2 hb1 hb2
  obtain ⟨oa,ha,_⟩:=hget k1 o1 h1
  obtain ⟨ob',hb',_⟩:=hget k2 o2 h2
  exact h.dis k1 k2 oa ob' b ha hb' hb1 hb2
 ·intro k' o1 hk'
  by_cases hkk:k'=k
  ·subst hkk;rw [C4] at hk';cases hk'
   exact ho _ ((h.obs k' _ hk).ext hrd (Below.refl _ _))
  ·rw [B4 (Ne.symm hkk)] at hk'
   exact (h.obs k' o1 hk').ext hrd (Below.refl _ _)
 ·intro i s hi
  exact SV.rep_mono hrd (h.facts i s hi)
theorem Sim.grow_cell {S:Ctx} {G:Gh} {a:Act} {w:World} (h:Sim P S fr ob G a w) {k b n cap i o ec:Nat} {e:TypeId} {α:Type} {c:α→Nat→Cell} {xs:List α} {v:α} (hk:C1 ob k=some (.grow e α ec c xs)) (hg:G k=.slice (some ⟨b,0,none⟩) n cap) (hv:xs[i]?=some v) (ho:o < ec) :
  ∃z,w.cell? ⟨b,i*ec+o,none⟩=some z∧(c v o).rep (F0 (Mut S ob G) w) z:=by
 obtain ⟨vs,hown,_,hc⟩:=h.obs k _ hk
 obtain ⟨hi,rfl⟩:=List.getElem?_eq_some_iff.1 hv
 obtain ⟨z,h1,h2⟩:=hc i hi o ho
 have:=hown.cells (g:=b) (by rw [hg];rfl) (i*ec+o) z h1
 exact ⟨z,by simpa [Addr.add_lit] using this,h2⟩
theorem A15 {x:Operand} {t e:TypeId} {k i o:Nat} {α:Type} {ec:Nat} {c:α→Nat→Cell} {xs:List α} {v:α} [ht:TyOne P t] (hx:opv fr x=some (.s (.one (.mref k ec i o)))) (hk:C1 ob k=some (.grow e α ec c xs)) (hv:xs[i]?=some v)
  (ho:Nat.blt o ec=true):Neu P ⟨dst,.load t x,ty,pos,af,gd⟩ fr ob (fun s'=>s'=.s (.one (.p (c v o)))) :=
 F5 fun S G a w h=>by
  obtain ⟨b,n,cap,hg,hu⟩:=J0 h hx
  obtain ⟨z,hz1,hz2⟩:=h.grow_cell hk hg hv (by simpa using ho)
  refine ⟨z,?_,hz2⟩
  simp only [execOp,hu]
  exact M6 (by simp [Instr.loadAt,Instr.sureAddr,U8 hz1])
theorem A43 {x:Operand} {t e:TypeId} {n k i o:Nat} {α:Type} {ec:Nat} {c:α→Nat→Cell} {xs:List α} {v:α} [ht:TyAgg P t n] (hx:opv fr x=some (.s (.one (.mref k ec i o)))) (hk:C1 ob k=some (.grow e α ec c xs)) (hv:xs[i]?=some v)
  (ho:Nat.ble (o+n) ec=true):Neu P ⟨dst,.load t x,ty,pos,af,gd⟩ fr ob (fun s'=>s'=.s (.agg ((cellsOf c v o n).map .p))) :=
 F5 fun S G a w h=>by
  obtain ⟨b,m,cap,hg,hu⟩:=J0 h hx
  have hle:o+n≤ec:=by simpa using ho
  obtain ⟨vs,hl,hvs⟩:=A76 (R:=fun j z=>w.cell? ⟨b,i*ec+(o+j),none⟩=some z∧(c v (o+j)).rep (F0 (Mut S ob G) w) z) n (fun j hj=>h.grow_cell hk hg hv (by omega))
  refine ⟨.agg vs.toArray,?_,vs,rfl,?_⟩
  ·simp only [execOp,hu]
   refine M6 ?_
   simp [Instr.loadAt,Instr.sureAddr,Z4 (ht:=ht) (o:=i*ec+o) hl (fun j z hz=>by rw [Nat.add_assoc];exact (hvs j z hz).1)]
  ·refine A77 (by simp [hl,L6]) fun j t z h1 h2=>?_
   rw [L51] at h1
   cases hc:(cellsOf c v o n)[j]? with
   | none=>simp [hc] at h1
   | some cc =>
    simp [hc] at h1
    obtain ⟨rfl,_⟩:=V3 c v n o j cc hc
    subst h1
    exact (hvs j z h2).2
end
end Go.AL
namespace Go.AL
open Go Go.RowKit
set_option linter.unusedVariables false
section
variable {P:Program} {nt:Nat} {fr:Fr} {ob:Obs} {dst:Option Tmp} {ty:TypeId} {pos:String} {af:Array Edge} {gd:Option (Nat × Bool)}
theorem tail_drop {gf:Fr} {ks:List Nat} (hk:(ks.all fun k=>Nat.blt k 1000000)=true) (h:Tail gf fr):Tail gf (m3 ks fr):=fun i s hi hg=>by
 refine getF_dropK.2 ⟨fun hin=>?_,h i s hi hg⟩
 have:=List.all_eq_true.1 hk i hin
 have:i < 1000000:=by simpa using this
 omega
end
end Go.AL
namespace Go.AL
open Go Go.RowKit
set_option linter.unusedVariables false
section
variable {P:Program} {nt:Nat} {fr:Fr} {ob:Obs} {dst:Option Tmp} {ty:TypeId} {pos:String} {af:Array Edge} {gd:Option (Nat × Bool)}
theorem Sim.freezeG {S:Ctx} {G:Gh} {a:Act} {w:World} (h:Sim P S fr ob G a w) {k:Nat} {α:Type} {ec:Nat} {c:α→Nat→Cell} {xs:List α} {e:TypeId} (hk:C1 ob k=some (.grow e α ec c xs)) (hec:0 < ec) :
  Sim P S (K84 (SV.freeze k α ec c xs) fr) (K78 (Ob.freeze k α ec c xs) (Obs.drop k ob)) G a w:=by
 have hd:=h.drop k
 obtain ⟨vs,hown,hlen,hc⟩:=h.obs k _ hk
 have hget:∀k' o,C1 (K78 (Ob.freeze k α ec c xs) (Obs.drop k ob)) k'=some o→∃o0,C1 (Obs.drop k ob) k'=some o0∧o=o0.freeze k α ec c xs:=by
  intro k' o hk'
  rw [getO_mapO] at hk'
  cases hg':C1 (Obs.drop k ob) k' with
  | none=>simp [hg'] at hk'
  | some o0=>simp [hg'] at hk';exact ⟨o0,rfl,hk'.symm⟩
 have hownf:∀(u:Value) (o:Ob) (b i:Nat),Own u (o.freeze k α ec c xs) b i↔Own u o b i:=by intro u o b i;cases o<;>simp [Own,Ob.freeze]
 have hmut:∀b i,Mut S (K78 (Ob.freeze k α ec c xs) (Obs.drop k ob)) G b i→Mut S (Obs.drop k ob) G b i:=by
  intro b i hm
  rcases hm with hm | ⟨k',o,hk',hb⟩
  ·exact .inl hm
  ·obtain ⟨o0,h0,rfl⟩:=hget k' o hk'
   exact .inr ⟨k',o0,h0,(hownf _ _ _ _).1 hb⟩
 have hrd:∀b i z,F0 (Mut S (Obs.drop k ob) G) w b i z→F0 (Mut S (K78 (Ob.freeze k α ec c xs) (Obs.drop k ob)) G) w b i z:=fun b i z hr=>⟨hr.1,fun hm=>hr.2 (hmut b i hm)⟩
 have hrd0:∀b i z,F0 (Mut S ob G) w b i z→F0 (Mut S (Obs.drop k ob) G) w b i z:=by
  intro b i z hr
  refine ⟨hr.1,fun hm=>hr.2 ?_⟩
  rcases hm with hm | ⟨k',o',hk',hb⟩
  ·exact .inl hm
  ·refine .inr ⟨k',o',?_,hb⟩
   by_cases hkk:k'=k
   ·subst hkk;rw [U1] at hk';cases hk'
   ·rwa [S7 hkk] at hk'
 have hlist:(Cell.list α ec c xs).rep (F0 (Mut S (K78 (Ob.freeze k α ec c xs) (Obs.drop k ob)) G) w) (G k):=by
  refine A38 hown hec hlen ?_ (fun i hi j hj=>let ⟨z,h1,h2⟩:=hc i hi j hj;⟨z,h1,Cell.rep_mono (fun _ _ _ hr=>hrd _ _ _ (hrd0 _ _ _ hr)) _ _ h2⟩)
  intro g hg j z hj hcell
  refine ⟨hcell,fun hm=>?_⟩
  rcases hmut _ _ hm with hm | ⟨k',o',hk',hb,_⟩
  ·have:=h.m0 _ _ hm
   rcases h.old k _ g hk hg with h1 | h1
   ·omega
   ·exact h.m0io _ _ hm h1.1
  ·by_cases hkk:k'=k
   ·subst hkk;rw [U1] at hk';cases hk'
   ·rw [S7 hkk] at hk'
    exact hkk (h.dis k' k o' _ g hk' hk hb hg)
 exact { hd with
  old:=fun k' o b hk'=>let ⟨o0,h0,_⟩:=hget k' o hk';hd.old k' o0 b h0
  dis:=fun k1 k2 o1 o2 b h1 h2=>let ⟨oa,ha,_⟩:=hget k1 o1 h1;let ⟨ob',hb',_⟩:=hget k2 o2 h2;hd.dis k1 k2 oa ob' b ha hb'
  obs:=fun k' o hk'=>by
   obtain ⟨o0,h0,rfl⟩:=hget k' o hk'
   have hob:=(hd.obs k' o0 h0).ext hrd (Below.refl _ _)
   cases o0 with
   | box ts=>obtain ⟨b',vs',t',h1,h2,h3⟩:=hob;exact ⟨b',vs',t',h1,h2,h3.map (TC.freeze k α ec c xs) fun _ _=>TC.rep_freeze hlist⟩
   | tbx e ts=>obtain ⟨b',vs',h1,h2,h3⟩:=hob;exact ⟨b',vs',h1,h2,h3.map (TC.freeze k α ec c xs) fun _ _=>TC.rep_freeze hlist⟩
   | tarr n ec' ts=>obtain ⟨b',vs',t',h1,hl,h2,hn,h3⟩:=hob;exact ⟨b',vs',t',h1,hl,h2,by simpa using hn,h3.map (TC.freeze k α ec c xs) fun _ _=>TC.rep_freeze hlist⟩
   | arr=>exact hob
   | spare=>exact hob
   | grow=>exact hob
   | map=>exact hob
   | growA e' α' ec' c' xs' p ts=>obtain ⟨vs,h1,h2,h3,h4,h5,h6⟩:=hob;exact ⟨vs,h1,h2,h3,by simpa using h4,h5,h6.map (TC.freeze k α ec c xs) fun _ _=>TC.rep_freeze hlist⟩
   | growT e' n' ec' ts=>obtain ⟨vs,h1,h2,h3,h4⟩:=hob;exact ⟨vs,h1,h2,by simpa using h3,h4.map (TC.freeze k α ec c xs) fun _ _=>TC.rep_freeze hlist⟩
  facts:=fun i s hi=>by
   rw [C37] at hi
   cases hg':E5 fr i with
   | none=>simp [hg'] at hi
   | some s0 =>
    simp [hg'] at hi;subst hi
    exact SV.rep_freeze hlist (SV.rep_mono hrd (hd.facts i s0 hg')) }
theorem Sees.freezeG {k:Nat} {α:Type} {ec:Nat} {c:α→Nat→Cell} {xs:List α} {e:TypeId} (hk:C1 ob k=some (.grow e α ec c xs)) (hec:Nat.blt 0 ec=true) :
  Sees P nt fr ob (K84 (SV.freeze k α ec c xs) fr) (K78 (Ob.freeze k α ec c xs) (Obs.drop k ob)):=fun S G a w hn h=>⟨G,h.freezeG hk (by simpa using hec)⟩
end
end Go.AL
namespace Go.AL
open Go Go.RowKit
set_option linter.unusedVariables false
section
variable {P:Program} {nt:Nat} {fr:Fr} {ob:Obs}
theorem Sees.fewer {ob':Obs} (ho:∀k o,C1 ob' k=some o→C1 ob k=some o):Sees P nt fr ob fr ob':=fun S G a w hn hs=>⟨G,hs.weakenO ho⟩
theorem K81 (k:Nat) (α:Type) (ec:Nat) (c:α→Nat→Cell) (e:TypeId) {kb o:Nat} {ts:List TC} (hb:C1 ob kb=some (.box ts)) (hts:ts[o]?=some (.p (.v (.slice none 0 0)))) (hf:(K4 k fr&&L0 k ob)=true) :
  Sees P nt fr ob fr ((kb,.box (ts.set o (.mut k)))::(k,.grow e α ec c [])::ob):=by
 simp only [L02] at hf
 obtain ⟨h1,h2⟩:=hf
 obtain ⟨h4,h5,hp⟩:=H9 h2
 intro S G a w hn h
 have h6:=h.new hp (o:=.grow e α ec c []) (u:=.slice none 0 0) (w1:=w) h5 (Below.refl _ _) (fun b hb=>by simp [blk] at hb) ⟨[],World.ownsRow_nil w _ _ _,by simp,fun i hi=>absurd hi (by simp)⟩
 rw [b9 h1,h4] at h6
 have hkb:k≠kb:=fun he=>by rw [he,hb] at h5;cases h5
 have hb':C1 ((k,Ob.grow e α ec c [])::ob) kb=some (.box ts):=by rw [B4 hkb];exact hb
 obtain ⟨b,vs,t,hg,hh,ha⟩:=h6.obs kb _ hb'
 have hbk:blk (upd G k (.slice none 0 0) kb)=some b:=by rw [hg];rfl
 refine ⟨_,h6.retell hb' hbk (fun i=>⟨hbk,trivial⟩) (fun i=>⟨hbk,trivial⟩) ?_⟩
 rintro rd ⟨b',vs',t',hg',hh',ha'⟩
 refine ⟨b',vs',t',hg',hh',K86 o (fun z hz=>?_) ha'⟩
 obtain ⟨z',hz1,hz2⟩:=ha'.get o _ hts
 rw [hz] at hz1;cases hz1
 rw [hz2.1]
 exact ⟨(J2 _ _ _).symm,rfl⟩
end
end Go.AL
namespace Go.AL
open Go Go.RowKit
set_option linter.unusedVariables false
section
variable {P:Program} {nt:Nat} {fr:Fr} {ob:Obs} {dst:Option Tmp} {ty:TypeId} {pos:String} {af:Array Edge} {gd:Option (Nat × Bool)}
end
end Go.AL
namespace Go.AL
open Go Go.RowKit
set_option linter.unusedVariables false
section
variable {P:Program} {fr:Fr} {ob:Obs}
end
end Go.AL
namespace Go.AL
open Go Go.RowKit
set_option linter.unusedVariables false
section
variable {P:Program} {nt:Nat} {fr:Fr} {ob:Obs} {dst:Option Tmp} {ty:TypeId} {pos:String} {af:Array Edge} {gd:Option (Nat × Bool)}
end
end Go.AL
namespace Go.AL
open Go Go.RowKit
set_option linter.unusedVariables false
def TC.refs:TC→List Nat
 | .buf k _ _ _ _=>[k]
 | .ref k _=>[k]
 | .mut k=>[k]
 | .mref k _ _ _=>[k]
 | .msl k _ _ _=>[k]
 | .clo _ nf nc=>nf.map (·.1)++nc.map (·.1)
 | .ifc _ k _=>[k]
 | _=>[]
def S1.refs:S1→List Nat
 | .one t=>t.refs
 | .agg ts=>ts.flatMap TC.refs
def SV.refs:SV→List Nat
 | .s x=>x.refs
 | .tup l=>l.flatMap S1.refs
 | _=>[]
def Ob.refs:Ob→List Nat
 | .box ts=>ts.flatMap TC.refs
 | .tbx _ ts=>ts.flatMap TC.refs
 | .tarr _ _ ts=>ts.flatMap TC.refs
 | .growA _ _ _ _ _ _ ts=>ts.flatMap TC.refs
 | .growT _ _ _ ts=>ts.flatMap TC.refs
 | _=>[]
def G67:Fr→List Nat
 | []=>[]
 | (_,s)::r=>s.refs++G67 r
def E98:Obs→List Nat
 | []=>[]
 | (_,o)::r=>o.refs++E98 r
theorem C04 {G G':Gh}:∀{l:List (Nat × Nat)} {us:List Value},(∀k∈l.map (·.1),G' k=G k)→All2 (A31 G) l us→All2 (A31 G') l us
 | [],[],_,_=>trivial
 | [],_::_,_,h=>h.elim
 | _::_,[],_,h=>h.elim
 | p::l,u::us,hk,h=>by
  obtain ⟨⟨b,h1,h2⟩,h3⟩:=h
  exact ⟨⟨b,by rw [hk p.1 (by simp)];exact h1,h2⟩,C04 (fun k hm=>hk k (by simp at hm ⊢;exact .inr hm)) h3⟩
theorem TC.rep_congr {rd:Rd} {G G':Gh}:∀{t:TC} {u:Value},(∀k∈t.refs,G' k=G k)→t.rep rd G u→t.rep rd G' u
 | .p _,_,_,h=>h
 | .eref _ _ _ _ _,_,_,h=>h
 | .any,_,_,h=>h
 | .full _ _ _ _,_,_,h=>h
 | .ifc _ k _,_,hk,h=>by simp only [TC.rep];rw [hk k (by simp [TC.refs])];exact h
 | .fnc _ _,_,_,h=>h
 | .fncE _ _ _ _ _,_,_,h=>h
 | .buf k _ _ _ _,_,hk,h=>⟨by rw [hk k (by simp [TC.refs])];exact h.1,h.2⟩
 | .ref k _,_,hk,h=>by simp only [TC.rep];rw [hk k (by simp [TC.refs])];exact h
 | .mut k,_,hk,h=>by simp only [TC.rep];rw [hk k (by simp [TC.refs])];exact h
 | .mref k _ _ _,_,hk,h=>by simp only [TC.rep];rw [hk k (by simp [TC.refs])];exact h
 | .msl k _ _ _,_,hk,h=>by simp only [TC.rep];rw [hk k (by simp [TC.refs])];exact h
 | .clo _ nf nc,_,hk,⟨vs,ws,h1,h2,h3⟩=>⟨vs,ws,h1,C04 (fun k hm=>hk k (by simp only [TC.refs,L30];exact .inl hm)) h2,C04 (fun k hm=>hk k (by simp only [TC.refs,L30];exact .inr hm)) h3⟩
theorem o4 {rd:Rd} {G G':Gh}:∀{ts:List TC} {vs:List Value},(∀k∈ts.flatMap TC.refs,G' k=G k)→All2 (TC.rep rd G) ts vs→All2 (TC.rep rd G') ts vs
 | [],[],_,_=>trivial
 | [],_::_,_,h=>h.elim
 | _::_,[],_,h=>h.elim
 | t::ts,v::vs,hs,h=>⟨TC.rep_congr (fun k hm=>hs k (by rw [List.flatMap_cons];exact List.mem_append.2 (.inl hm))) h.1,o4 (fun k hm=>hs k (by rw [List.flatMap_cons];exact List.mem_append.2 (.inr hm))) h.2⟩
theorem S1.rep_congr {rd:Rd} {G G':Gh}:∀{t:S1} {u:Value},(∀k∈t.refs,G' k=G k)→t.rep rd G u→t.rep rd G' u
 | .one t,u,hs,h=>TC.rep_congr (t:=t) hs h
 | .agg ts,u,hs,⟨vs,h1,h2⟩=>⟨vs,h1,o4 hs h2⟩
theorem E15 {rd:Rd} {G G':Gh}:∀{ts:List S1} {vs:List Value},(∀k∈ts.flatMap S1.refs,G' k=G k)→All2 (S1.rep rd G) ts vs→All2 (S1.rep rd G') ts vs
 | [],[],_,_=>trivial
 | [],_::_,_,h=>h.elim
 | _::_,[],_,h=>h.elim
 | t::ts,v::vs,hs,h=>⟨S1.rep_congr (fun k hm=>hs k (by rw [List.flatMap_cons];exact List.mem_append.2 (.inl hm))) h.1,E15 (fun k hm=>hs k (by rw [List.flatMap_cons];exact List.mem_append.2 (.inr hm))) h.2⟩
theorem SV.rep_congr {rd:Rd} {G G':Gh}:∀{t:SV} {u:Value},(∀k∈t.refs,G' k=G k)→t.rep rd G u→t.rep rd G' u
 | .s t,u,hs,h=>S1.rep_congr (t:=t) hs h
 | .tup ts,u,hs,⟨vs,h1,h2⟩=>⟨vs,h1,E15 hs h2⟩
 | .any,_,_,_=>trivial
 | .un,_,_,h=>h
theorem ObOk.congr {S:Ctx} {rd:Rd} {G G':Gh} {w:World} {u:Value} {o:Ob} (hs:∀k∈o.refs,G' k=G k) (h:ObOk S rd G w u o):ObOk S rd G' w u o:=by
 cases o with
 | box ts=>obtain ⟨b,vs,t,h1,h2,h3⟩:=h;exact ⟨b,vs,t,h1,h2,o4 hs h3⟩
 | tbx e ts=>obtain ⟨b,vs,h1,h2,h3⟩:=h;exact ⟨b,vs,h1,h2,o4 hs h3⟩
 | tarr n ec ts=>obtain ⟨b,vs,t,h1,h2,h3,h4,h5⟩:=h;exact ⟨b,vs,t,h1,h2,h3,h4,o4 hs h5⟩
 | growA e α ec c xs p ts=>obtain ⟨vs,h1,h2,h3,h4,h5,h6⟩:=h;exact ⟨vs,h1,h2,h3,h4,h5,o4 hs h6⟩
 | growT e n ec ts=>obtain ⟨vs,h1,h2,h3,h4⟩:=h;exact ⟨vs,h1,h2,h3,o4 hs h4⟩
 | arr α ec c xs=>exact h
 | map κ kf kvs=>exact h
 | spare n ec e=>exact h
 | grow e α ec c xs=>exact h
theorem E99:∀{fr:Fr} {i:Nat} {s:SV},E5 fr i=some s→∀k∈s.refs,k∈G67 fr
 | [],i,s,h,_,_=>by cases h
 | (j,x)::r,i,s,h,k,hm=>by
  unfold E5 at h
  unfold G67
  cases hb:Nat.beq j i
  ·rw [hb] at h;exact List.mem_append.2 (.inr (E99 h k hm))
  ·rw [hb] at h;cases h;exact List.mem_append.2 (.inl hm)
theorem C95:∀{ob:Obs} {i:Nat} {o:Ob},C1 ob i=some o→∀k∈o.refs,k∈E98 ob
 | [],i,s,h,_,_=>by cases h
 | (j,x)::r,i,s,h,k,hm=>by
  unfold C1 at h
  unfold E98
  cases hb:Nat.beq j i
  ·rw [hb] at h;exact List.mem_append.2 (.inr (C95 h k hm))
  ·rw [hb] at h;cases h;exact List.mem_append.2 (.inl hm)
theorem G12:∀{a b:Obs} {k:Nat},C1 (a++b) k=match C1 a k with | some o=>some o | none=>C1 b k
 | [],b,k=>rfl
 | (j,x)::r,b,k=>by
  show (bif Nat.beq j k then some x else C1 (r++b) k)=(match (bif Nat.beq j k then some x else C1 r k) with | some o=>some o | none=>C1 b k)
  cases Nat.beq j k
  ·exact G12 (a:=r)
  ·rfl
def newOk (rs:List S1) (ob':Obs) (fr:Fr) (ob:Obs):Bool :=
 (rs.flatMap S1.refs++E98 ob').all (fun k=>(C1 ob' k).isSome)&&(G67 fr++E98 ob).all (fun k=>(C1 ob' k).isNone)&&ob.all (fun p=>(C1 ob' p.1).isNone)
theorem H48:∀{ob:Obs} {k:Nat} {o:Ob},C1 ob k=some o→∃p∈ob,p.1=k
 | [],k,o,h=>by cases h
 | (j,x)::r,k,o,h=>by
  unfold C1 at h
  cases hb:Nat.beq j k
  ·rw [hb] at h;obtain ⟨p,h1,h2⟩:=H48 h;exact ⟨p,List.mem_cons_of_mem _ h1,h2⟩
  ·exact ⟨_,List.mem_cons_self,by simpa using hb⟩
theorem A85 {w:World} {B B':Nat} {e:TypeId} {ec n:Nat} {v:Value} {xs:List Value} (hB:B≤B') (h:w.ownsRow B' e ec v n xs):w.ownsRow B e ec v n xs :=
 ⟨h.1,h.2.imp id fun ⟨b,cap,cur,hg,hb,r⟩=>⟨b,cap,cur,hg,Nat.le_trans hB hb,r⟩⟩
theorem ObOk.low {S S':Ctx} {rd:Rd} {G:Gh} {w:World} {u:Value} {o:Ob} (hB:S.B≤S'.B) (h:ObOk S' rd G w u o):ObOk S rd G w u o:=by
 cases o with
 | box ts=>exact h
 | tbx e ts=>exact h
 | tarr n ec ts=>exact h
 | arr α ec c xs=>exact h
 | map κ kf kvs=>exact h
 | spare n ec e=>obtain ⟨vs,h1⟩:=h;exact ⟨vs,A85 hB h1⟩
 | grow e α ec c xs=>obtain ⟨vs,h1,h2⟩:=h;exact ⟨vs,A85 hB h1,h2⟩
 | growA e α ec c xs p ts=>obtain ⟨vs,h1,h2⟩:=h;exact ⟨vs,A85 hB h1,h2⟩
 | growT e n ec ts=>obtain ⟨vs,h1,h2⟩:=h;exact ⟨vs,A85 hB h1,h2⟩
section
variable {P:Program} {nt:Nat} {ops:Array Oper} {rest:List Oper} {fr:Fr} {ob:Obs} {Q:Post} {d:Nat}
theorem A33 {f:FuncId} {xs:List Operand} {ats:Array TypeId} {ty:TypeId} {pos:String} {af:Array Edge} {args:List S1} {ks:List Nat} {post:List S1→Obs→Prop}
  (hf:Met P f args [] [] ks post) (ha:p6 fr xs=some args) (hc:xs.all H8=true) (hst:(args.flatMap S1.refs).isEmpty=true) (hd:Nat.blt d nt=true)
  (kk:∀rs ob',post rs ob'→newOk rs ob' fr ob=true∧WpL P nt ops rest ((d,B98 rs)::fr) (ob'++ob) Q):WpL P nt ops (⟨some d,.call ⟨.value (.func f),xs.toArray,ats⟩,ty,pos,af,none⟩::rest) fr ob Q:=by
 intro S G a w hn h
 have hvals:=Z8 h xs args ha hc
 let S':Ctx:={ S with w0:=w,M0:=fun b i=>Mut S ob G b i,io:=fun _=>False }
 have hSB:S'.B=w.heap.size:=rfl
 have hhigh:High ([]:Fr):=fun i s hi=>by cases hi
 have hgrd:Grd P (fun _=>False) w:=by
  obtain ⟨wg,h1,h2,h3⟩:=h.grd
  refine ⟨wg,h1,Nat.le_trans h2 h.size,fun j hj=>?_⟩
  obtain ⟨h4,h5⟩:=h3 j hj
  exact ⟨(h.keep j (Nat.lt_of_lt_of_le hj h2) h5).trans h4,fun e=>e⟩
 have hs:Sim P S' [] [] G a w:={ nt:=h.nt,ntb:=h.ntb,defers:=h.defers,os:=rfl,tape:=rfl,output:=rfl,size:=Nat.le_refl _,keep:=fun _ _ _=>rfl,m0:=fun b i hm=>h.mut_lt hm,m0io:=fun _ _ _ e=>e,grd:=hgrd,pin:=h.pin,old:=fun _ _ _ e=>(by cases e),dis:=fun _ _ _ _ _ e=>(by cases e),obs:=fun _ _ e=>(by cases e),facts:=fun _ _ e=>(by cases e) }
 have hrd0:∀b i z,F0 (Mut S ob G) w b i z→F0 (Mut S' [] G) w b i z:=fun b i z hr=>⟨hr.1,fun hm=>hr.2 (by
  rcases hm with hm | ⟨k,o,hk,_⟩
  ·exact hm
  ·cases hk)⟩
 have hcalls:=hf.2 hhigh S' G a w _ hs (hvals.mono fun _ _=>S1.rep_mono hrd0)
 refine wpList_plain rfl fun K hK=>M9 (K:=fun v w'=>∃rs ob' G',post rs ob'∧A01 (F0 (Mut S' ob' G') w') G' rs v∧Sim P S' (C0 ks []) ob' G' a w') ?_ ?_
 ·have he:(execOp a.eval ⟨some d,.call ⟨.value (.func f),xs.toArray,ats⟩,ty,pos,af,none⟩).run P w=.ok (.enter f (xs.map a.eval).toArray) w:=by
   have:=M4 (P:=P) (f:=f) (args:=(xs.map a.eval).toArray) (w:=w) hf.1
   have hm:xs.toArray.map a.eval=(xs.map a.eval).toArray:=by simp
   simp only [execOp,resolve,Act.eval,Deferred.ofValue,Sem.run_bind,Sem.run_pure,Result.andThen_ok,invoke]
   rw [show (#[]:Array Value)++Array.map a.eval xs.toArray++#[]=(xs.map a.eval).toArray by rw [←hm];simp]
   exact this
  unfold Does
  rw [he]
  refine hcalls.mono ?_
  rintro e w' ⟨v,rs,ob',G',rfl,hpost,hres,hs'⟩
  exact ⟨v,rfl,rs,ob',G',hpost,hres,hs'⟩
 ·rintro v w' ⟨rs,ob',G',hp,hres,hs'⟩
  obtain ⟨hnew,hk3⟩:=kk rs ob' hp
  simp only [newOk,L02,List.all_eq_true,L30] at hnew
  obtain ⟨⟨n1,n2⟩,n3⟩:=hnew
  have hdj:∀{k o},C1 ob k=some o→C1 ob' k=none:=fun {k o} hk=>by
   obtain ⟨p,p1,p2⟩:=H48 hk
   have:=n3 p p1
   rw [p2] at this;simpa using this
  obtain ⟨H,hH⟩:∃H:Gh,H=fun k=>match C1 ob' k with | some _=>G' k | none=>G k:=⟨_,rfl⟩
  have hH1:∀{k},(C1 ob' k).isSome=true→H k=G' k:=fun {k} hk=>by
   rw [hH];dsimp only
   cases hg:C1 ob' k with
   | none=>rw [hg] at hk;cases hk
   | some o=>rfl
  have hH2:∀{k},(C1 ob' k).isNone=true→H k=G k:=fun {k} hk=>by
   rw [hH];dsimp only
   cases hg:C1 ob' k with
   | none=>rfl
   | some o=>rw [hg] at hk;cases hk
  have hlt:d < S.nt:=by rw [hn];simpa using hd
  have hsz:w.heap.size≤w'.heap.size:=hs'.size
  have hkeep:∀k,k < w.heap.size→w'.heap[k]?=w.heap[k]?:=fun k hk=>hs'.keep k hk (fun e=>e)
  have hold:∀k o b,C1 ob' k=some o→blk (G' k)=some b→w.heap.size≤b:=fun k o b h1 h2=>by
   rcases hs'.old k o b h1 h2 with h3 | h3
   ·exact h3
   ·exact h3.1.elim
  have hcase:∀{k o},C1 (ob'++ob) k=some o→(C1 ob' k=some o∧H k=G' k)∨(C1 ob k=some o∧H k=G k):=fun {k o} hk=>by
   rw [G12] at hk
   cases hg:C1 ob' k with
   | some o'=>rw [hg] at hk;exact .inl ⟨hk,hH1 (by rw [hg];rfl)⟩
   | none=>rw [hg] at hk;exact .inr ⟨hk,hH2 (by rw [hg];rfl)⟩
  have hrd1:∀b i z,F0 (Mut S' ob' G') w' b i z→F0 (Mut S (ob'++ob) H) w' b i z:=fun b i z hr=>⟨hr.1,fun hm=>hr.2 (by
   rcases hm with hm | ⟨k,o,hk,hb⟩
   ·exact .inl (.inl hm)
   ·rcases hcase hk with ⟨k1,e⟩ | ⟨k1,e⟩
    ·rw [e] at hb;exact .inr ⟨k,o,k1,hb⟩
    ·rw [e] at hb;exact .inl (.inr ⟨k,o,k1,hb⟩))⟩
  have hrd2:∀b i z,F0 (Mut S ob G) w b i z→F0 (Mut S (ob'++ob) H) w' b i z:=fun b i z hr=>by
   have hlt:b < w.heap.size:=World.block_lt_of_cell? w _ hr.1
   refine ⟨by rw [World.cell?_of_block (w:=w) (a:=⟨b,i,none⟩) (hkeep b hlt)];exact hr.1,fun hm=>?_⟩
   rcases hm with hm | ⟨k,o,hk,hb⟩
   ·exact hr.2 (.inl hm)
   ·rcases hcase hk with ⟨k1,e⟩ | ⟨k1,e⟩
    ·rw [e] at hb;have:=hold k o b k1 hb.1;omega
    ·rw [e] at hb;exact hr.2 (.inr ⟨k,o,k1,hb⟩)
  have hbelow:Below w.heap.size w w':=⟨hs'.os,hs'.tape,hs'.output,hsz,fun k hk=>hkeep k hk⟩
  have hsim:Sim P S fr (ob'++ob) H a w':=by
   refine { nt:=h.nt,ntb:=h.ntb,defers:=h.defers,os:=hs'.os.trans h.os,tape:=hs'.tape.trans h.tape,output:=hs'.output.trans h.output,size:=Nat.le_trans h.size hsz,keep:=fun k hk hio=>(hkeep k (Nat.lt_of_lt_of_le hk h.size)).trans (h.keep k hk hio),m0:=h.m0,m0io:=h.m0io,grd:=h.grd,pin:=fun k hk=>?_,old:=fun k o b h1 h2=>?_,dis:=fun k k' o o' b h1 h2 h3 h4=>?_,obs:=fun k o hk=>?_,facts:=fun i s hi=>?_ }
   ·cases hg:C1 ob' k with
    | some o=>rw [hH1 (by rw [hg];rfl)];exact hs'.pin k hk
    | none=>rw [hH2 (by rw [hg];rfl)];exact h.pin k hk
   ·rcases hcase h1 with ⟨k1,e⟩ | ⟨k1,e⟩
    ·rw [e] at h2;exact .inl (Nat.le_trans h.size (hold k o b k1 h2))
    ·rw [e] at h2;exact h.old k o b k1 h2
   ·rcases hcase h1 with ⟨k1,e1⟩ | ⟨k1,e1⟩<;>rcases hcase h2 with ⟨k2,e2⟩ | ⟨k2,e2⟩<;>rw [e1] at h3<;>rw [e2] at h4
    ·exact hs'.dis k k' o o' b k1 k2 h3 h4
    ·have:=hold k o b k1 h3
     have:=(h.obs k' o' k2).blk_lt _ h4
     omega
    ·have:=hold k' o' b k2 h4
     have:=(h.obs k o k1).blk_lt _ h3
     omega
    ·exact h.dis k k' o o' b k1 k2 h3 h4
   ·rcases hcase hk with ⟨k1,e⟩ | ⟨k1,e⟩
    ·rw [e]
     exact (((hs'.obs k o k1).low (S:=S) (by rw [hSB];exact h.size)).ext hrd1 (Below.refl _ _)).congr fun j hj=>hH1 (n1 j (.inr (C95 k1 j hj)))
    ·rw [e]
     exact ((h.obs k o k1).ext hrd2 hbelow).congr fun j hj=>hH2 (n2 j (.inr (C95 k1 j hj)))
   ·exact SV.rep_congr (fun j hj=>hH2 (n2 j (.inl (E99 hi j hj)))) (SV.rep_mono hrd2 (h.facts i s hi))
  have hres':(B98 rs).rep (F0 (Mut S (ob'++ob) H) w') H v:=by
   refine SV.rep_congr (fun j hj=>hH1 (n1 j (.inl ?_))) (SV.rep_mono hrd1 hres)
   revert hj
   match rs with
   | []=>intro hj;cases hj
   | [r]=>intro hj;simpa [B98,SV.refs] using hj
   | r::r2::rest=>intro hj;exact hj
  exact hK _ _ (hk3 S H _ w' hn (hsim.put hlt hres'))
end
end Go.AL
namespace Go.AL
open Go Go.RowKit
set_option linter.unusedVariables false
section
variable {P:Program} {dst:Option Tmp} {ty:TypeId} {pos:String} {af:Array Edge} {gd:Option (Nat × Bool)} {fr:Fr} {ob:Obs}
end
end Go.AL
namespace Go.AL
open Go Go.RowKit
set_option linter.unusedVariables false
section
variable {P:Program} {nt:Nat} {ops:Array Oper} {rest:List Oper} {fr:Fr} {ob:Obs} {Q:Post} {d:Nat}
theorem K32 {f:FuncId} {args:Array Operand} {ats:Array TypeId} {ty:TypeId} {pos:String} {af:Array Edge} {ps:List PV} {post:List PV→Prop} {fr2:Fr} {ob2:Obs} (hs:Sees P nt fr ob fr2 ob2)
  (hf:FnOk P f ps post) (ha:A48 fr2 args.toList=some ps) (hc:args.toList.all H8=true) (hd:Nat.blt d nt=true)
  (k:∀rs,post rs→(∀(rd rd':Rd) v,ResRep rd rs v→ResRep rd' rs v)∧WpL P nt ops rest ((d,D24 rs)::fr) ob Q):WpL P nt ops (⟨some d,.call ⟨.value (.func f),args,ats⟩,ty,pos,af,none⟩::rest) fr ob Q:=by
 intro S G a w hn h
 obtain ⟨G',h'⟩:=hs S G a w hn h
 have hrep:=x6 h' args.toList ps ha hc
 have hcall:=hf.2 w (Mut S ob2 G') (args.toList.map a.eval) h.grdW (fun b i hm=>h'.mut_lt hm) hrep
 have hargs:(args.toList.map a.eval).toArray=args.map a.eval:=by rw [←Array.toList_map,Array.toArray_toList]
 refine wpList_plain rfl fun K hK=>M9 (K:=fun v w'=>∃rs,post rs∧ResRep (F0 (Mut S ob2 G') w') rs v∧Below w.heap.size w w') ?_ ?_
 ·have he:(execOp a.eval ⟨some d,.call ⟨.value (.func f),args,ats⟩,ty,pos,af,none⟩).run P w=.ok (.enter f (args.map a.eval)) w:=by
   simp only [execOp,resolve,Act.eval,Deferred.ofValue,Sem.run_bind,Sem.run_pure,Result.andThen_ok,invoke]
   rw [show (#[]:Array Value)++Array.map a.eval args++#[]=args.map a.eval by simp]
   exact M4 hf.1
  unfold Does
  rw [he]
  rw [hargs] at hcall
  refine hcall.mono ?_
  rintro e w' ⟨v,rs,rfl,hp,hr,hb⟩
  exact ⟨v,rfl,rs,hp,hr,hb⟩
 ·rintro v w' ⟨rs,hp,hr,hb⟩
  obtain ⟨k1,k2⟩:=k rs hp
  have hlt:d < S.nt:=by rw [hn];simpa using hd
  exact hK _ _ (k2 S G _ w' hn ((h.ext hb).put hlt (ResRep.sv (k1 _ _ _ hr))))
end
end Go.AL
namespace Go.AL
open Go Go.RowKit
set_option linter.unusedVariables false
section
variable {P:Program} {nt:Nat} {ops:Array Oper}
def StepG (P:Program) (nt:Nat) (ops:Array Oper) (o:Oper) (φ:Fa) (ob:Obs) (K:Fa→Obs→Prop):Prop :=
 Wanted ops φ o true∧∀S G a w,S.nt=nt→SimF P S φ ob G a w→Does P o a w (fun v w'=>∃φ' ob' G',K φ' ob'∧SimF P S φ' ob' G' (a.put o.dst v) w')
def StepTG (P:Program) (nt:Nat) (ops:Array Oper) (T i:Nat) (φ:Fa) (ob:Obs) (K:Fa→Obs→Prop):Prop :=
 ∃o,ops[i]?=some o∧cond (tn T i o) (StepG P nt ops o φ ob K) (∃s d,o.dst=some d∧YieldsN P nt ops o φ ob s∧K (r8 φ d s) ob)
def B83 (P:Program) (nt:Nat) (ops:Array Oper) (T:Nat) (K:Fa→Obs→Prop):Nat→Array Bool→Fa→Obs→Prop
 | 0,listed,φ,ob=>Region.ready .any ops listed=[]∧K φ ob
 | fuel+1,listed,φ,ob=>(Region.ready .any ops listed=[]→K φ ob)∧∀i∈Region.ready .any ops listed,StepTG P nt ops T i φ ob (B83 P nt ops T K fuel (listed.setIfInBounds i true))
theorem A86 {T:Nat} {K:Fa→Obs→Prop} {S:Ctx} {Q:Exit→Act→World→Prop} (hn:S.nt=nt) (hdst:∀(j t:Nat),(ops[j]?).bind (fun o=>o.dst)=some t→t < nt) (hK:∀φ ob G a w,K φ ob→SimF P S φ ob G a w→Q .normal a w) :
  ∀(fuel:Nat) (listed:Array Bool) (φ:Fa) (ob:Obs) (G:Gh) (a:Act) (w:World),B83 P nt ops T K fuel listed φ ob→SimF P S φ ob G a w→wpAny P .any ops Q fuel listed a w
 | 0,_,φ,ob,G,a,w,h,hs=>⟨h.1,hK φ ob G a w h.2 hs⟩
 | fuel+1,listed,φ,ob,G,a,w,h,hs=>by
  refine ⟨fun h0=>hK φ ob G a w (h.1 h0) hs,fun i hi=>?_⟩
  obtain ⟨o,ho,hstep⟩:=h.2 i hi
  unfold wpOp
  simp only [ho]
  cases ht:tn T i o with
  | true =>
   rw [ht] at hstep
   obtain ⟨hg,hstep⟩:=hstep
   rw [if_pos (x7 hn hs hg hdst)]
   refine .inl (M9 (hstep S G a w hn hs) ?_)
   rintro v w' ⟨φ',ob',G',hK',hs'⟩
   exact A86 hn hdst hK fuel _ φ' ob' G' _ w' hK' hs'
  | false =>
   rw [ht] at hstep
   obtain ⟨s,d,hd,⟨d',hd',hlt,hy⟩,hK'⟩:=hstep
   rw [hd] at hd';cases hd'
   rcases hy with ⟨hw,fr0,hfr,hneu⟩ | ⟨hw,rfl⟩
   ·rw [x7 hn hs hw hdst,if_pos rfl]
    refine .inl (M9 (hneu S G a w (hs.sub fun i s hi=>(hfr i s hi).1)) ?_)
    rintro v w' ⟨hx,s',rfl,hv⟩
    rw [hd]
    exact A86 hn hdst hK fuel _ _ ob G _ w' hK' ((hs.ext hx).put (by rw [hn];exact hlt) hv)
   ·rw [x7 hn hs hw hdst,if_neg (by simp),hd]
    exact A86 hn hdst hK fuel _ _ ob G _ w hK' (hs.put (by rw [hn];exact hlt) rfl)
theorem F00 {T:Nat} {K:Fa→Obs→Prop}:∀(fuel:Nat) (listed:Array Bool) (φ:Fa) (ob:Obs),listed.getD T false=true→E56 P nt ops K fuel listed φ ob→B83 P nt ops T K fuel listed φ ob
 | 0,_,_,_,_,h=>h
 | fuel+1,listed,φ,ob,hT,h=>by
  refine ⟨h.1,fun i hi=>?_⟩
  obtain ⟨o,ho,hstep⟩:=h.2 i hi
  have hiT:i≠T:=fun e=>by subst e;have:=X6 hi;rw [hT] at this;cases this
  have hnext:(listed.setIfInBounds i true).getD T false=true:=by
   simp only [Array.getD_eq_getD_getElem?] at hT ⊢
   rwa [Array.getElem?_setIfInBounds_ne hiT]
  refine ⟨o,ho,?_⟩
  have ht:tn T i o=turns o.op:=by unfold tn;rw [W6 hiT];rfl
  rw [ht]
  cases htn:turns o.op with
  | true =>
   rw [htn] at hstep
   refine ⟨by unfold Wanted;rw [hstep.1],fun S G a w hn hs=>?_⟩
   have hd:=hstep.2 S G a w hn hs
   unfold Does at hd ⊢
   have imp:∀v w',(∃φ' ob' G',E56 P nt ops K fuel (listed.setIfInBounds i true) φ' ob'∧SimF P S φ' ob' G' (a.put o.dst v) w')→(∃φ' ob' G',B83 P nt ops T K fuel (listed.setIfInBounds i true) φ' ob'∧SimF P S φ' ob' G' (a.put o.dst v) w'):=by
    rintro v w' ⟨φ',ob',G',hA,hs'⟩
    exact ⟨_,ob',G',F00 fuel _ _ _ hnext hA,hs'⟩
   generalize (execOp a.eval o).run P w=r at *
   cases r with
   | ok n w' =>
    cases n<;>simp only at hd ⊢<;>try exact hd.elim
    case value v=>exact imp _ _ hd
    case skip=>exact imp _ _ hd
    case enter f args=>exact hd.mono fun e w'' ⟨v,he,hv⟩=>⟨v,he,imp _ _ hv⟩
   | halt x w'=>exact hd
  | false =>
   rw [htn] at hstep
   obtain ⟨s,d,hd,hy,HK⟩:=hstep
   exact ⟨s,d,hd,hy,F00 fuel _ _ _ hnext HK⟩
theorem H49 {T:Nat} {K:Fa→Obs→Prop} {i d:Nat} {oi:Oper} {s:SV} (hi:ops[i]?=some oi) (hti:tn T i oi=false) (hdi:oi.dst=some d) :
  ∀(fuel:Nat) (listed:Array Bool) (φ:Fa) (ob:Obs),Closed ops listed →
   (∀j oj,ops[j]?=some oj→j≠i→listed.getD j true=false→tn T j oj=true→Bef ops j i=true) →
   (∀j oj,ops[j]?=some oj→j≠i→listed.getD j true=false→tn T j oj=false→(∃e∈oj.after.toList,Region.binds .any e=true∧e.on=i)∨r9 ops oi oj=true) →
   i∈Region.ready .any ops listed→YieldsN P nt ops oi φ ob s →
   B83 P nt ops T K fuel (listed.setIfInBounds i true) (r8 φ d s) ob→B83 P nt ops T K (fuel+1) listed φ ob:=by
 have hself:∀(fuel:Nat) (listed:Array Bool) (φ:Fa) (ob:Obs),YieldsN P nt ops oi φ ob s→B83 P nt ops T K fuel (listed.setIfInBounds i true) (r8 φ d s) ob→StepTG P nt ops T i φ ob (B83 P nt ops T K fuel (listed.setIfInBounds i true)):=by
  intro fuel listed φ ob hy H
  exact ⟨oi,hi,by rw [hti];exact ⟨s,d,hdi,hy,H⟩⟩
 intro fuel
 induction fuel with
 | zero =>
  intro listed φ ob hc hE hN hr hy H
  refine ⟨fun h=>(by rw [h] at hr;cases hr),fun j hj=>?_⟩
  by_cases hji:j=i
  ·subst hji;exact hself 0 listed φ ob hy H
  ·have:=ready_mono hj hji
   rw [H.1] at this
   cases this
 | succ fuel ih =>
  intro listed φ ob hc hE hN hr hy H
  refine ⟨fun h=>(by rw [h] at hr;cases hr),fun j hj=>?_⟩
  by_cases hji:j=i
  ·subst hji;exact hself (fuel+1) listed φ ob hy H
  ·obtain ⟨hjun,oj,hoj,hall⟩:=mem_ready.1 hj
   have hiun:=X6 hr
   cases htj:tn T j oj with
   | true =>
    have hb:=hE j oj hoj hji hjun htj
    have:=A49 hc j hb (fun o ho e he hbd=>by rw [hoj] at ho;cases ho;exact hall e (Array.mem_toList_iff.1 he) hbd)
    rw [hiun] at this;cases this
   | false =>
    have hap:r9 ops oi oj=true:=by
     rcases hN j oj hoj hji hjun htj with ⟨e,he,hbd,hon⟩ | h
     ·have:=hall e (Array.mem_toList_iff.1 he) hbd
      rw [hon] at this
      have h2:listed.getD i false=true:=this
      rw [hiun] at h2;cases h2
     ·exact h
    obtain ⟨o',ho',hstep⟩:=H.2 j (ready_mono hj hji)
    rw [hoj] at ho';cases ho'
    rw [htj] at hstep
    obtain ⟨sj,dj,hdj,hyj,HK⟩:=hstep
    simp only [r9,hdi,hdj,L02,Bool.not_eq_true',List.contains_eq_mem,decide_eq_false_iff_not] at hap
    obtain ⟨⟨h1,h2⟩,h3⟩:=hap
    have h3:d≠dj:=fun e=>by subst e;simp at h3
    refine ⟨oj,hoj,by
     rw [htj]
     refine ⟨sj,dj,hdj,hyj.unput h1,?_⟩
     refine ih (listed.setIfInBounds j true) _ ob (W7 hc hj) ?_ ?_ (ready_mono hr (Ne.symm hji)) (hy.put h2) ?_
     ·intro k ok hk hki hun htk
      refine hE k ok hk hki ?_ htk
      by_cases hjk:j=k
      ·subst hjk;exact hjun
      ·rwa [getD_set_ne true hjk] at hun
     ·intro k ok hk hki hun htk
      refine hN k ok hk hki ?_ htk
      by_cases hjk:j=k
      ·subst hjk;exact hjun
      ·rwa [getD_set_ne true hjk] at hun
     ·rw [Array.setIfInBounds_comm _ _ hji,←D78 h3]
      exact HK⟩
theorem G13 {T fuel:Nat} {K:Fa→Obs→Prop} {E:Fr→Obs→Prop}:∀(l:List Oper) (k:Nat) (listed:Array Bool) (fr:Fr) (ob:Obs),(∀j,j < l.length→l[j]?=ops[k+j]?)→Closed ops listed→D81 ops T l.length k listed=true →
  (∀fr ob,Closed ops (E14 l.length k listed)→E fr ob→B83 P nt ops T K fuel (E14 l.length k listed) (E5 fr) ob)→LexD P nt ops E l fr ob→B83 P nt ops T K (fuel+l.length) listed (E5 fr) ob
 | [],k,listed,fr,ob,hl,hc,hB,hE,h=>hE fr ob hc h
 | o::l,k,listed,fr,ob,hl,hc,hB,hE,h=>by
  have h0:ops[k]?=some o:=by simpa using (hl 0 (by simp)).symm
  simp only [L04,D81,h0,L02,Bool.not_eq_true'] at hB
  obtain ⟨⟨⟨hr,hnt⟩,hf⟩,hB'⟩:=hB
  have hr':k∈Region.ready .any ops listed:=by simpa using hr
  have hl':∀j,j < l.length→l[j]?=ops[k+1+j]?:=fun j hj=>by have:=hl (j+1) (by simpa using hj);simpa [Nat.add_assoc,Nat.add_comm 1 j] using this
  have ht:turns o.op=false:=by
   cases hto:turns o.op
   ·rfl
   ·simp [tn,hto] at hnt
  simp only [LexD] at h
  rw [ht] at h
  simp only [cond] at h
  obtain ⟨s,d,hd,hy,hL⟩:=h
  have hall:∀j oj,ops[j]?=some oj→j≠k→listed.getD j true=false→cond (tn T j oj) (Bef ops j k) (oj.after.toList.any (fun e=>Region.binds .any e&&Nat.beq e.on k)||r9 ops o oj)=true:=by
   intro j oj hoj hjk hun
   have hlt:j < ops.size:=(Array.getElem?_eq_some_iff.1 hoj).1
   have:=List.all_eq_true.1 hf j (List.mem_range.2 hlt)
   rw [W6 hjk,hun,hoj] at this
   simp only [Bool.false_or] at this
   exact this
  show B83 P nt ops T K (fuel+(l.length+1)) listed (E5 fr) ob
  rw [←Nat.add_assoc]
  refine H49 h0 hnt hd (fuel+l.length) listed _ ob hc ?_ ?_ hr' hy ?_
  ·intro j oj hoj hjk hun htj
   have:=hall j oj hoj hjk hun
   rw [htj] at this;exact this
  ·intro j oj hoj hjk hun htj
   have:=hall j oj hoj hjk hun
   rw [htj] at this
   simp only [cond,L20,List.any_eq_true,L02] at this
   rcases this with ⟨e,he,hb,hon⟩ | h
   ·exact .inl ⟨e,he,hb,Nat.eq_of_beq_eq_true hon⟩
   ·exact .inr h
  ·rw [←A50]
   exact G13 l (k+1) _ _ ob hl' (W7 hc hr') hB' hE hL
theorem F01 {id:Nat} {l:List Oper} (n:Nat) {oc:Oper} {fr:Fr} {ob:Obs} {Q:Post} (hm:P.follows .mixedOrders=true) (hB:G65 nt l n=true) (hc:l[n]?=some oc)
  (h:LexD P nt l.toArray (fun fr ob=>StepG P nt l.toArray oc (E5 fr) ob (fun φ' ob'=>∃fr',φ'=E5 fr'∧LexD P nt l.toArray (fun fr ob=>Q .normal fr ob) (l.drop (n+1)) fr' ob')) (l.take n) fr ob):WpC P nt (.region id l.toArray true) fr ob Q:=by
 intro S G a w hn hs
 unfold G65 at hB
 simp only [L02] at hB
 obtain ⟨⟨⟨⟨⟨⟨⟨b1,b2⟩,b3⟩,b4⟩,b5⟩,b6⟩,b13⟩,b14⟩:=hB
 have hlen:n+1≤l.length:=Nat.le_of_ble_eq_true b3
 have htl:(l.take n).length=n:=Nat.eq_of_beq_eq_true b4
 have hdst:∀(j t:Nat),(l.toArray[j]?).bind (fun o=>o.dst)=some t→t < nt:=by
  intro j t ht
  cases ho:l.toArray[j]? with
  | none=>simp [ho] at ht
  | some o =>
   simp [ho] at ht
   have hmem:o∈l:=by
    rw [List.getElem?_toArray] at ho
    exact L14 ho
   have:=List.all_eq_true.1 b2 o (by simpa using hmem)
   rw [ht] at this
   simpa using this
 refine wp_region_any hm ?_
 have hcl:Closed l.toArray (Array.replicate l.length false):=by
  intro j o ho hl
  simp only [Array.getD_eq_getD_getElem?] at hl
  rcases Nat.lt_or_ge j l.length with h' | h'
  ·simp [h'] at hl
  ·simp [h'] at hl
 have hoc:l.toArray[n]?=some oc:=by rw [List.getElem?_toArray];exact hc
 have htnc:tn n n oc=true:=by unfold tn;rw [Nat.beq_refl];rfl
 have key:B83 P nt l.toArray n (fun φ ob=>∃fr',φ=E5 fr'∧Q .normal fr' ob) ((l.drop (n+1)).length+1+(l.take n).length) (Array.replicate l.length false) (E5 fr) ob:=by
  refine G13 (l.take n) 0 _ fr ob (fun j hj=>?_) hcl (by rw [htl];exact b1) (fun fr ob hcl2 hE=>?_) h
  ·rw [Nat.zero_add,List.getElem?_toArray,L27 (by rw [htl] at hj;exact hj)]
  ·rw [htl] at hcl2 ⊢
   have r6:n∈Region.ready .any l.toArray (E14 n 0 (Array.replicate l.length false)):=by simpa using b6
   have hcl3:=W7 hcl2 r6
   refine ⟨fun he=>(by rw [he] at r6;cases r6),fun j hjr=>?_⟩
   have hjn:j=n:=Nat.eq_of_beq_eq_true (List.all_eq_true.1 b5 j hjr)
   subst hjn
   refine ⟨oc,hoc,?_⟩
   rw [htnc]
   refine ⟨hE.1,fun S G a w hn hs=>E87 (hE.2 S G a w hn hs) ?_⟩
   rintro v w' ⟨φ',ob',G',⟨fr',rfl,hL⟩,hs'⟩
   exact ⟨_,ob',G',F00 _ _ _ _ b13 (B96 (l.drop (j+1)) (j+1) _ fr' ob' (fun i=>by rw [L28,List.getElem?_toArray]) hcl3 b14 hL),hs'⟩
 have hx:Below w.heap.size w { w with drawn:=w.drawn+1 }:=⟨rfl,rfl,rfl,Nat.le_refl _,fun _ _=>rfl⟩
 have hs':SimF P S (E5 fr) ob G a { w with drawn:=w.drawn+1 }:=(simF_iff.2 hs).ext hx
 have:=A86 (Q:=PostOf P S Q) hn hdst (fun φ ob' G' a' w' ⟨fr',he,hq⟩ hsf=>⟨fr',ob',G',hq,.inl (simF_iff.1 (he ▸ hsf))⟩) _ _ _ ob G a _ key hs'
 have hfuel:(l.drop (n+1)).length+1+(l.take n).length=l.length:=by rw [L12,htl];omega
 rw [hfuel] at this
 simpa using this
theorem J71 {op:Op} {ty:TypeId} {pos:String} {af:Array Edge} {d j t:Nat} {b x:Bool} {fr:Fr} {ob:Obs} {K:Fa→Obs→Prop} (ht:(ops[j]?).bind (·.dst)=some t) (hx:E5 fr t=some (.s (.one (.p (.v (.bool x)))))) (hb:x=b)
  (h:E83 P nt ops ⟨some d,op,ty,pos,af,none⟩ (E5 fr) ob K):StepG P nt ops ⟨some d,op,ty,pos,af,some (j,b)⟩ (E5 fr) ob K :=
 ⟨⟨t,_,ht,hx,by have:=Wants.val (b:=b) x;rwa [show (x == b)=true by simp [hb]] at this⟩,h.2⟩
end
end Go.AL
namespace Go.AL
open Go Go.RowKit
set_option linter.unusedVariables false
section
variable {P:Program} {nt:Nat} {ops:Array Oper} {rest:List Oper} {fr:Fr} {ob:Obs} {K:Fr→Obs→Prop} {d:Nat}
theorem d_go {op:Op} {ty:TypeId} {pos:String} {af:Array Edge} {j t:Nat} {b x:Bool} (hj:(ops[j]?).bind (·.dst)=some t) (hx:E5 fr t=some (.s (.one (.p (.v (.bool x)))))) (hb:x=b) (ht:turns op=false)
  (k:LexD P nt ops K (⟨some d,op,ty,pos,af,none⟩::rest) fr ob):LexD P nt ops K (⟨some d,op,ty,pos,af,some (j,b)⟩::rest) fr ob:=by
 simp only [LexD,ht,cond] at k ⊢
 obtain ⟨s,e,he,⟨e',he',hlt,hy⟩,hL⟩:=k
 have hw:Wanted ops (E5 fr) (⟨some d,op,ty,pos,af,some (j,b)⟩:Oper) true:=⟨t,_,hj,hx,by have:=Wants.val (b:=b) x;rwa [show (x == b)=true by simp [hb]] at this⟩
 rcases hy with ⟨_,fr0,h1,h2⟩ | ⟨hw2,_⟩
 ·exact ⟨s,e,he,⟨e',he',hlt,.inl ⟨hw,fr0,fun i q hi=>⟨(h1 i q hi).1,List.mem_append.2 (.inr (by
   have:=(h1 i q hi).2
   unfold uses at this
   simpa [E82] using this))⟩,h2⟩⟩,hL⟩
 ·unfold Wanted at hw2;cases hw2
end
end Go.AL
namespace Go.AL
open Go Go.RowKit
set_option linter.unusedVariables false
section
variable {P:Program} {nt:Nat} {fr:Fr} {ob:Obs} {dst:Option Tmp} {ty:TypeId} {pos:String} {af:Array Edge} {gd:Option (Nat × Bool)}
end
end Go.AL
namespace Go.AL
open Go Go.RowKit
set_option linter.unusedVariables false
section
variable {P:Program} {nt:Nat} {fr:Fr} {ob:Obs} {dst:Option Tmp} {ty:TypeId} {pos:String} {af:Array Edge} {gd:Option (Nat × Bool)}
end
end Go.AL
namespace Go.AL
open Go Go.RowKit
set_option linter.unusedVariables false
section
variable {P:Program} {nt:Nat} {fr gf:Fr} {ob:Obs}
theorem TC.forget_comm (k q:Nat) (t:TC):(t.forget q).forget k=(t.forget k).forget q:=by
 cases t with
 | p c=>rfl
 | buf k' α ec c xs=>cases hb:Nat.beq k' k<;>cases hq:Nat.beq k' q<;>simp [TC.forget,hb,hq]
 | ref k' o=>cases hb:Nat.beq k' k<;>cases hq:Nat.beq k' q<;>simp [TC.forget,hb,hq]
 | eref α ec c x o=>rfl
 | «mut» k'=>cases hb:Nat.beq k' k<;>cases hq:Nat.beq k' q<;>simp [TC.forget,hb,hq]
 | mref k' ec i o=>cases hb:Nat.beq k' k<;>cases hq:Nat.beq k' q<;>simp [TC.forget,hb,hq]
 | any=>rfl
 | clo f nf nc=>cases hb:(A74 k nf||A74 k nc)<;>cases hq:(A74 q nf||A74 q nc)<;>simp [TC.forget,hb,hq]
 | msl k' ec o n=>cases hb:Nat.beq k' k<;>cases hq:Nat.beq k' q<;>simp [TC.forget,hb,hq]
 | ifc t k' o=>cases hb:Nat.beq k' k<;>cases hq:Nat.beq k' q<;>simp [TC.forget,hb,hq]
 | fnc f cs=>rfl
 | fncE f α ec c x=>rfl
 | full α ec c xs=>rfl
theorem S1.forget_comm (k q:Nat) (s:S1):(s.forget q).forget k=(s.forget k).forget q:=by
 cases s with
 | one t=>simp only [S1.forget,TC.forget_comm k q t]
 | agg ts=>simp only [S1.forget,L38];congr 1;exact List.map_congr_left fun t _=>TC.forget_comm k q t
theorem SV.forget_comm (k q:Nat) (s:SV):(s.forget q).forget k=(s.forget k).forget q:=by
 cases s with
 | s x=>simp only [SV.forget,S1.forget_comm k q x]
 | tup l=>simp only [SV.forget,L38];congr 1;exact List.map_congr_left fun t _=>S1.forget_comm k q t
 | any=>rfl
 | un=>rfl
theorem Fr.forget_comm (k q:Nat) (fr:Fr):Fr.forget k (Fr.forget q fr)=Fr.forget q (Fr.forget k fr):=by
 unfold Fr.forget
 rw [L38,L38]
 exact List.map_congr_left fun p _=>by simp only [Function.comp];rw [SV.forget_comm]
theorem B51 (k:Nat):∀(ks:List Nat) (fr:Fr),C0 ks (Fr.forget k fr)=Fr.forget k (C0 ks fr)
 | [],fr=>rfl
 | q::ks,fr=>by
  show C0 ks (Fr.forget q (Fr.forget k fr))=Fr.forget k (C0 ks (Fr.forget q fr))
  rw [Fr.forget_comm q k,B51 k ks]
theorem A03 {k:Nat}:∀{ks:List Nat} {fr:Fr},G4 ks k=true→Fr.forget k (C0 ks fr)=C0 ks fr
 | [],fr,h=>by cases h
 | q::ks,fr,h=>by
  show Fr.forget k (C0 ks (Fr.forget q fr))=C0 ks (Fr.forget q fr)
  by_cases hq:k=q
  ·subst hq;rw [B51,Fr.forget_idem]
  ·have h2:G4 ks k=true:=by
    rw [hasN_iff] at h ⊢
    rcases List.mem_cons.1 h with h | h
    ·exact absurd h hq
    ·exact h
   exact A03 h2
theorem F8 {ks:List Nat} (k:Nat) (hk:G4 ks k=true) (h:Tail (C0 ks gf) fr):Tail (C0 ks gf) (Fr.forget k fr):=by
 have:=D4 k h
 rwa [A03 hk] at this
theorem C6:∀{ks:List Nat} {gf:Fr},High gf→High (C0 ks gf)
 | [],gf,h=>h
 | k::ks,gf,h=>C6 (ks:=ks) (A82 (k:=k) h)
theorem B52:∀{ks:List Nat} {gf:Fr} {i:Nat} {s:SV},E5 (C0 ks gf) i=some s→∃s0,E5 gf i=some s0∧∀(rd:Rd) (G:Gh) (u:Value),s0.rep rd G u→s.rep rd G u
 | [],gf,i,s,h=>⟨s,h,fun _ _ _ h=>h⟩
 | k::ks,gf,i,s,h=>by
  obtain ⟨s1,h1,h2⟩:=B52 (ks:=ks) (gf:=Fr.forget k gf) h
  rw [N7] at h1
  cases hg:E5 gf i with
  | none=>rw [hg] at h1;cases h1
  | some s0 =>
   rw [hg] at h1
   cases h1
   exact ⟨s0,rfl,fun rd G u hr=>h2 rd G u (SV.rep_forget (G':=G) (fun _ _=>rfl) hr)⟩
theorem K98 (ks:List Nat) {l:Fr} {ob':Obs} (hl:FrLe fr l) (hH:High gf) (ht:Tail gf fr) (ho:∀k o,C1 ob' k=some o→C1 ob k=some o):Sees P nt fr ob (l++C0 ks gf) ob':=by
 refine (K76 hl hH ht ho).trans ?_
 intro S G a w hn h
 refine ⟨G,{ h with facts:=fun i s hi=>?_ }⟩
 rw [Y2] at hi
 cases hg:E5 l i with
 | some s0 =>
  rw [hg] at hi
  have hi:some s0=some s:=hi
  cases hi
  exact h.facts i _ (by rw [Y2,hg];rfl)
 | none =>
  rw [hg] at hi
  have hi:E5 (C0 ks gf) i=some s:=hi
  obtain ⟨s0,h1,h2⟩:=B52 hi
  exact h2 _ _ _ (h.facts i s0 (by rw [Y2,hg];exact h1))
end
end Go.AL
namespace Go.AL
open Go Go.RowKit
set_option linter.unusedVariables false
section
variable {P:Program} {nt:Nat} {fr:Fr} {ob:Obs}
def TC.ren (j k:Nat):TC→TC
 | .buf k' α ec c xs=>cond (Nat.beq k' j) (.buf k α ec c xs) (.buf k' α ec c xs)
 | .ref k' off=>cond (Nat.beq k' j) (.ref k off) (.ref k' off)
 | .mut k'=>cond (Nat.beq k' j) (.mut k) (.mut k')
 | .mref k' ec i off=>cond (Nat.beq k' j) (.mref k ec i off) (.mref k' ec i off)
 | .msl k' ec off n=>cond (Nat.beq k' j) (.msl k ec off n) (.msl k' ec off n)
 | .ifc t k' off=>cond (Nat.beq k' j) (.ifc t k off) (.ifc t k' off)
 | t=>t
def Ob.ren (j k:Nat):Ob→Ob
 | .box ts=>.box (ts.map (TC.ren j k))
 | .tbx e ts=>.tbx e (ts.map (TC.ren j k))
 | .tarr n ec ts=>.tarr n ec (ts.map (TC.ren j k))
 | .growA e α ec c xs p ts=>.growA e α ec c xs p (ts.map (TC.ren j k))
 | .growT e n ec ts=>.growT e n ec (ts.map (TC.ren j k))
 | o=>o
theorem K83 {rd:Rd} {G:Gh} {j k:Nat} (hG:G k=G j):∀{t:TC} {u:Value},t.rep rd G u→(t.ren j k).rep rd G u
 | .p c,u,h=>h
 | .buf k' α ec c xs,u,h=>by
  simp only [TC.ren]
  cases hb:Nat.beq k' j
  ·exact h
  ·have e:k'=j:=Nat.eq_of_beq_eq_true hb
   subst e
   simp only [cond,TC.rep];rw [hG];exact h
 | .ref k' off,u,h=>by
  simp only [TC.ren]
  cases hb:Nat.beq k' j
  ·exact h
  ·have e:k'=j:=Nat.eq_of_beq_eq_true hb
   subst e
   simp only [cond,TC.rep];rw [hG];exact h
 | .eref _ _ _ _ _,u,h=>h
 | .mut k',u,h=>by
  simp only [TC.ren]
  cases hb:Nat.beq k' j
  ·exact h
  ·have e:k'=j:=Nat.eq_of_beq_eq_true hb
   subst e
   simp only [cond,TC.rep];rw [hG];exact h
 | .mref k' ec i off,u,h=>by
  simp only [TC.ren]
  cases hb:Nat.beq k' j
  ·exact h
  ·have e:k'=j:=Nat.eq_of_beq_eq_true hb
   subst e
   simp only [cond,TC.rep];rw [hG];exact h
 | .any,u,h=>h
 | .clo _ _ _,_,h=>h
 | .msl k' ec off n,u,h=>by
  simp only [TC.ren]
  cases hb:Nat.beq k' j
  ·exact h
  ·have e:k'=j:=Nat.eq_of_beq_eq_true hb
   subst e
   simp only [cond,TC.rep];rw [hG];exact h
 | .full _ _ _ _,u,h=>h
 | .ifc t k' off,u,h=>by
  simp only [TC.ren]
  cases hb:Nat.beq k' j
  ·exact h
  ·have e:k'=j:=Nat.eq_of_beq_eq_true hb
   subst e
   simp only [cond,TC.rep];rw [hG];exact h
 | .fnc _ _,u,h=>h
 | .fncE _ _ _ _ _,u,h=>h
theorem ObOk.ren {S:Ctx} {rd:Rd} {G:Gh} {w:World} {u:Value} {j k:Nat} {o:Ob} (hG:G k=G j) (h:ObOk S rd G w u o):ObOk S rd G w u (o.ren j k):=by
 cases o with
 | box ts=>obtain ⟨b,vs,t,h1,h2,h3⟩:=h;exact ⟨b,vs,t,h1,h2,h3.map (TC.ren j k) fun _ _=>K83 hG⟩
 | tbx e ts=>obtain ⟨b,vs,h1,h2,h3⟩:=h;exact ⟨b,vs,h1,h2,h3.map (TC.ren j k) fun _ _=>K83 hG⟩
 | tarr n ec ts=>obtain ⟨b,vs,t,h1,hl,h2,hn,h3⟩:=h;exact ⟨b,vs,t,h1,hl,h2,by simpa using hn,h3.map (TC.ren j k) fun _ _=>K83 hG⟩
 | arr α ec c xs=>exact h
 | spare n ec e=>exact h
 | grow e α ec c xs=>exact h
 | map κ kf kvs=>exact h
 | growA e α ec c xs p ts=>obtain ⟨vs,h1,h2,h3,h4,h5,h6⟩:=h;exact ⟨vs,h1,h2,h3,by simpa using h4,h5,h6.map (TC.ren j k) fun _ _=>K83 hG⟩
 | growT e n ec ts=>obtain ⟨vs,h1,h2,h3,h4⟩:=h;exact ⟨vs,h1,h2,by simpa using h3,h4.map (TC.ren j k) fun _ _=>K83 hG⟩
def ddF:Fr→Fr
 | []=>[]
 | (i,s)::r=>(i,s)::(ddF r).filter fun p=>!(Nat.beq p.1 i)
theorem C05 {i q:Nat} (h:i≠q):∀(fr:Fr),E5 (fr.filter fun p=>!(Nat.beq p.1 i)) q=E5 fr q
 | []=>rfl
 | (j,s)::r=>by
  rw [L46]
  by_cases hj:j=i
  ·subst hj
   rw [if_neg (by simp),C8 h,C05 h r]
  ·rw [if_pos (by simp [W6 hj])]
   by_cases hq:j=q
   ·subst hq;rw [E0,E0]
   ·rw [C8 hq,C8 hq,C05 h r]
theorem E64:∀(fr:Fr) (q:Nat),E5 (ddF fr) q=E5 fr q
 | [],q=>rfl
 | (i,s)::r,q=>by
  unfold ddF
  by_cases h:i=q
  ·subst h;rw [E0,E0]
  ·rw [C8 h,C8 h,C05 h,E64 r q]
theorem mem_dd:∀{fr:Fr} {p:Nat × SV},p∈ddF fr→E5 fr p.1=some p.2
 | (i,s)::r,p,h=>by
  unfold ddF at h
  rcases List.mem_cons.1 h with rfl | h
  ·exact E0 _ _ _
  ·obtain ⟨h1,h2⟩:=List.mem_filter.1 h
   have hne:i≠p.1:=fun e=>by rw [e,Nat.beq_refl] at h2;cases h2
   rw [C8 hne]
   exact mem_dd h1
theorem G14 {k:Nat}:∀{fr:Fr},(∀p∈fr,p.2.free k=true)→K4 k fr=true
 | [],_=>rfl
 | (i,s)::r,h=>by
  show (SV.free k s&&K4 k r)=true
  rw [L02]
  exact ⟨h (i,s) (List.mem_cons_self ..),G14 fun p hp=>h p (List.mem_cons_of_mem _ hp)⟩
theorem E65 {U:Fr} {k:Nat} {o:Oper} {ob ob':Obs} {s:SV} (h:∀frc,E91 U frc→K4 k frc=true→EffV P o frc ob s frc ob'):E92 P nt o U [k] [] ob ob' s:=by
 intro frc hU hfree S G a w hn hs
 have hs2:Sim P S (ddF frc) ob G a w:=hs.weaken fun i s hi=>by rwa [E64] at hi
 have hfr:K4 k (ddF frc)=true:=G14 fun p hp=>hfree k (by simp) p.1 p.2 (mem_dd hp) (by simp)
 have:=h (ddF frc) (fun t s ht=>by rw [E64];exact hU t s ht) hfr S G a w hs2
 have imp:∀(v:Value) (w':World),(∃G',Sim P S (ddF frc) ob' G' a w'∧s.rep (F0 (Mut S ob' G') w') G' v)→∃G',Sim P S (m3 [] frc) ob' G' a w'∧∀d,o.dst=some d→s.rep (F0 (Mut S ob' G') w') G' v:=fun v w' ⟨G',h,hr⟩=>⟨G',h.weaken (fun t x ht=>by rw [E64];exact (getF_dropK.1 ht).2),fun _ _=>hr⟩
 unfold Does at this ⊢
 generalize (execOp a.eval _).run P w=r at *
 cases r with
 | ok n w' =>
  cases n<;>simp only at this ⊢<;>try exact this.elim
  case value v=>exact imp v w' this
  case skip=>exact imp undef w' this
  case enter f args=>exact this.mono fun e w'' ⟨v,he,hv⟩=>⟨v,he,imp v w'' hv⟩
 | halt x w'=>exact this
end
end Go.AL
namespace Go.AL
open Go Go.RowKit
set_option linter.unusedVariables false
section
variable {P:Program} {nt:Nat} {fr gf:Fr} {ob:Obs}
theorem TC.free_forget (k:Nat) (t:TC):(t.forget k).free k=true:=by
 cases t with
 | p c=>rfl
 | buf k' α ec c xs=>cases hb:Nat.beq k' k<;>simp [TC.forget,TC.free,hb]
 | ref k' o=>cases hb:Nat.beq k' k<;>simp [TC.forget,TC.free,hb]
 | eref α ec c x o=>rfl
 | «mut» k'=>cases hb:Nat.beq k' k<;>simp [TC.forget,TC.free,hb]
 | mref k' ec i o=>cases hb:Nat.beq k' k<;>simp [TC.forget,TC.free,hb]
 | any=>rfl
 | clo f nf nc =>
  simp only [TC.forget]
  cases hb:(A74 k nf||A74 k nc)
  ·rw [L34] at hb;simp [TC.free,hb.1,hb.2]
  ·rfl
 | msl k' ec o n=>cases hb:Nat.beq k' k<;>simp [TC.forget,TC.free,hb]
 | ifc t k' o=>cases hb:Nat.beq k' k<;>simp [TC.forget,TC.free,hb]
 | fnc f cs=>rfl
 | fncE f α ec c x=>rfl
 | full α ec c xs=>rfl
theorem S1.free_forget (k:Nat) (s:S1):(s.forget k).free k=true:=by
 cases s with
 | one t=>exact TC.free_forget k t
 | agg ts =>
  show (ts.map (TC.forget k)).all (TC.free k)=true
  rw [List.all_map,List.all_eq_true]
  exact fun t _=>TC.free_forget k t
theorem SV.free_forget (k:Nat) (s:SV):(s.forget k).free k=true:=by
 cases s with
 | s x=>exact S1.free_forget k x
 | tup l =>
  show (l.map (S1.forget k)).all (S1.free k)=true
  rw [List.all_map,List.all_eq_true]
  exact fun t _=>S1.free_forget k t
 | any=>rfl
 | un=>rfl
theorem m6 {k:Nat} {ks:List Nat} {gf:Fr} (hk:G4 ks k=true):∀p∈C0 ks gf,p.2.free k=true:=by
 rw [←A03 hk]
 intro p hp
 obtain ⟨q,_,rfl⟩:=List.mem_map.1 hp
 exact SV.free_forget k q.2
theorem G15 {l:List Oper} {ops:Array Oper} {svs:Sv} {fr gf:Fr}:∀{ed:Ed},C67 l ops svs fr ed=true→(∀e∈ed,∀k∈e.2.1,∀p∈gf,p.2.free k=true)→C67 l ops svs (fr++gf) ed=true
 | [],_,_=>rfl
 | (e,ks,kills)::r,h,hg=>by
  simp only [C67,L02] at h ⊢
  refine ⟨?_,G15 h.2 fun e' he=>hg e' (List.mem_cons_of_mem _ he)⟩
  rw [List.all_eq_true] at h ⊢
  intro k hk
  have h1:=h.1 k hk
  rw [L02] at h1 ⊢
  refine ⟨h1.1,?_⟩
  rw [L43,L02]
  refine ⟨h1.2,List.all_eq_true.2 fun p hp=>?_⟩
  rw [hg (e,ks,kills) (List.mem_cons_self ..) k hk p hp,Bool.or_true]
theorem D85 {ks:List Nat} {l:List Oper} {E:List Nat} {ed:Ed} {T2:List (Nat × List Nat)} {Q:Post} {svs:Sv} {M:Mo} {obE:Obs} (h0:(ed.all fun e=>e.2.1.all (G4 ks))=true) (h1:(C67 l l.toArray svs fr ed&&(List.range l.length).all fun j=>(S4 svs j).isSome)=true) (h2:V6 M E=some obE)
  (h3:B06 P nt l (fr++C0 ks gf) E ed svs M T2) (h4:Q .normal (m3 (G66 ed) (B88 l svs (fr++C0 ks gf))) obE):B82 P nt l (fr++C0 ks gf) E ed (Fin2 P nt l (fr++C0 ks gf) E ed T2 Q) [] svs M:=by
 rw [L02] at h1
 refine G11 ?_ h2 h3 h4
 rw [L02]
 refine ⟨G15 h1.1 fun e he k hk p hp=>?_,h1.2⟩
 exact m6 (List.all_eq_true.1 (List.all_eq_true.1 h0 e he) k hk) p hp
end
end Go.AL
namespace Go.AL
open Go Go.RowKit
set_option linter.unusedVariables false
section
variable {P:Program}
end
end Go.AL
namespace Go.AL
open Go Go.RowKit
set_option linter.unusedVariables false
section
variable {P:Program} {nt:Nat} {fr:Fr} {ob:Obs} {dst:Option Tmp} {ty:TypeId} {pos:String} {af:Array Edge} {gd:Option (Nat × Bool)}
end
end Go.AL
namespace Go.AL
open Go Go.RowKit
set_option linter.unusedVariables false
def Cell.flat:Cell→Bool
 | .v _=>true
 | _=>false
def PV.flat:PV→Bool
 | .one c=>c.flat
 | .agg cs=>cs.all Cell.flat
section
variable {P:Program} {dst:Option Tmp} {ty:TypeId} {pos:String} {af:Array Edge} {gd:Option (Nat × Bool)} {fr fr':Fr} {ob ob':Obs}
end
end Go.AL
namespace Go.AL
open Go Go.RowKit
set_option linter.unusedVariables false
section
variable {P:Program} {nt:Nat} {fr:Fr} {ob:Obs}
end
end Go.AL
namespace Go.AL
open Go Go.RowKit
set_option linter.unusedVariables false
section
variable {P:Program} {nt:Nat} {fr:Fr} {ob:Obs}
theorem A87 {x y:Code} {Q2 Q3:Post} (fr':Fr) (ob':Obs) (hx:WpC P nt x fr ob (B79 (fun f o=>Sees P nt f o fr' ob') Q3)) (k:WpC P nt y fr' ob' Q2):WpC P nt x fr ob (B79 (fun f o=>WpC P nt y f o Q2) Q3) :=
 hx.mono fun e f o hq=>by
  cases e with
  | normal=>exact D3 hq k
  | _=>exact hq
end
end Go.AL
namespace Go.AL
open Go Go.RowKit
set_option linter.unusedVariables false
section
variable {P:Program} {dst:Option Tmp} {ty:TypeId} {pos:String} {af:Array Edge} {gd:Option (Nat × Bool)} {fr:Fr} {ob:Obs} {nt:Nat}
theorem A88 {x yh:Operand} {k:Nat} {α:Type} {ec bytes:Nat} {c:α→Nat→Cell} {xs:List α} {t e:TypeId} {kh:IntKind} {j:Int} [ht:TySl P t e ec bytes] (hx:opv fr x=some (.s (.one (.mut k)))) (hk:C1 ob k=some (.grow e α ec c xs))
  (hyh:opv fr yh=some (I7 (.int kh j))) (h0:0≤j) (h2:j≤xs.length) (hp:Nat.blt k 1000000=true) :
  EffV P ⟨dst,.slice t x none (some yh) none,ty,pos,af,gd⟩ fr ob (.s (.one (.mut k))) (Fr.forget k fr) ((k,.grow e α ec c (xs.take j.toNat))::Obs.forget k ob):=by
 intro S G a w h
 obtain ⟨hux,hone⟩:=J0 h hx
 obtain ⟨ws,hown,hlen,hws⟩:=h.obs k _ hk
 have hjl:j.toNat≤xs.length:=by omega
 have hle:j.toNat*ec≤xs.length*ec:=L13 _ hjl
 obtain ⟨v',hrun,hblk',hown'⟩:∃v',(execOp a.eval ⟨dst,.slice t x none (some yh) none,ty,pos,af,gd⟩).run P w=.ok (.value v') w∧blk v'=blk (G k)∧w.ownsRow S.B e ec v' j.toNat (ws.take (j.toNat*ec)):=by
  obtain ⟨he1,he2⟩:=ht.elem
  rcases hown.2 with ⟨hg,hn0⟩ | ⟨g,cap,cur,hg,hbg,hgh,hnc,hcm,hcs,htake⟩
  ·refine ⟨.slice none 0 0,?_,by rw [hg],?_⟩
   ·simp only [execOp,hux,hg,G5 h hyh,Option.map_some,Option.map_none]
    refine M6 ?_
    simp only [Instr.sliceAt,Sem.run_bind,run_underlying ht.out.1,Result.andThen_ok]
    rw [run_slice_h w t none 0 0 he1 kh j h0 (by omega),he2,J8 ht.size]
    have e0:j.toNat=0:=by omega
    simp [sliced,e0]
   ·have e0:j.toNat=0:=by omega
    rw [e0];simp only [Nat.zero_mul,List.take_zero];exact World.ownsRow_nil w _ _ _
  ·refine ⟨.slice (some ⟨g,0,none⟩) j.toNat cap,?_,by rw [hg];rfl,?_⟩
   ·simp only [execOp,hux,hg,G5 h hyh,Option.map_some,Option.map_none]
    refine M6 ?_
    simp only [Instr.sliceAt,Sem.run_bind,run_underlying ht.out.1,Result.andThen_ok]
    rw [run_slice_h w t (some ⟨g,0,none⟩) xs.length cap he1 kh j h0 (by omega),he2,J8 ht.size]
    simp [sliced,Addr.add_lit]
   ·refine ⟨by rw [L10,hown.1];omega,.inr ⟨g,cap,cur,rfl,hbg,hgh,by omega,hcm,hcs,?_⟩⟩
    rw [←htake,List.take_take,Nat.min_eq_left hle]
 have hsim:=h.turn (o':=.grow e α ec c (xs.take j.toNat)) (u':=v') (w1:=w) (by simpa using hp) hk rfl rfl rfl (Nat.le_refl _) (fun _ _ _=>rfl) (fun b i z hr=>hr.1)
  (fun b hb=>.inl (by rw [←hblk'];exact hb)) (fun b i hb ho=>⟨by rw [←hblk'];exact ho.1,trivial⟩)
  (fun rd hrd' G' hG'=>by
   have hlt:(xs.take j.toNat).length=j.toNat:=by rw [L10];omega
   refine ⟨ws.take (j.toNat*ec),by rw [hlt];exact hown',by rw [hlt];omega,?_⟩
   intro i hi q hq
   rw [hlt] at hi
   obtain ⟨z,hz1,hz2⟩:=hws i (by omega) q hq
   refine ⟨z,?_,?_⟩
   ·have:(i+1)*ec≤j.toNat*ec:=L13 _ hi
    rw [L22,Nat.one_mul] at this
    rw [List.getElem?_take,if_pos (by omega)];exact hz1
   ·rw [List.getElem_take];exact Cell.rep_mono hrd' _ _ hz2)
 exact J9 (w':=w) (v:=v') hrun ⟨upd G k v',hsim,(J2 _ _ _).symm,E13 hown'⟩
end
abbrev A89 (T:TypeId) (e:Int):List PanicEntry:=[{ v:=.iface T (.int .i64 e),recovered:=false }]
def metXP (P:Program) (T:TypeId) (fn:Func) (ks:List Nat) (gf:Fr) (post:List S1→Obs→Prop) (pan:Int→Obs→Prop):Post
 | .normal,fr,ob | .ret,fr,ob=>∃rs ob',RetS P fn fr ob rs∧Tail (C0 ks gf) fr∧(∀k o,C1 ob' k=some o→C1 ob k=some o)∧post rs ob'
 | .panic ch,fr,ob=>∃e ob',ch=A89 T e∧Tail (C0 ks gf) fr∧(∀k o,C1 ob' k=some o→C1 ob k=some o)∧pan e ob'
 | _,_,_=>False
def MetX (P:Program) (T:TypeId) (f:FuncId) (args:List S1) (gf:Fr) (ob:Obs) (ks:List Nat) (post:List S1→Obs→Prop) (pan:Int→Obs→Prop):Prop :=
 Callable P f∧(High gf→∀S G a w (vals:List Value),Sim P S gf ob G a w→All2 (S1.rep (F0 (Mut S ob G) w) G) args vals →
  Calls P f vals.toArray w (fun e w'=>(∃v rs ob' G',e=.returned v∧post rs ob'∧A01 (F0 (Mut S ob' G') w') G' rs v∧Sim P S (C0 ks gf) ob' G' a w') ∨
   ∃c ob' G',e=.panicked (A89 T c)∧pan c ob'∧Sim P S (C0 ks gf) ob' G' a w'))
section
variable {P:Program} {T:TypeId} {nt:Nat} {ops:Array Oper} {rest:List Oper} {fr:Fr} {ob:Obs} {Q:Post} {d:Nat}
theorem Met.toX {f:FuncId} {args:List S1} {gf:Fr} {ks:List Nat} {post:List S1→Obs→Prop} {pan:Int→Obs→Prop} (h:Met P f args gf ob ks post):MetX P T f args gf ob ks post pan :=
 ⟨h.1,fun hg S G a w vals hs ha=>(h.2 hg S G a w vals hs ha).mono fun e w' he=>.inl he⟩
theorem MetX.intro {f:FuncId} {fn:Func} {c:Code} {args:List S1} {gf:Fr} {ks:List Nat} {post:List S1→Obs→Prop} {pan:Int→Obs→Prop} (hf:P.funcs[f]?=some fn) (hname:(fn.name == "runtime.NumGoroutine")=false) (hb:fn.body=some c) (hlen:Nat.ble args.length fn.ntmps=true) (hnb:Nat.ble fn.ntmps 1000000=true)
  (h6:WpC P fn.ntmps c (x8 0 args++gf) ob (metXP P T fn ks gf post pan)):MetX P T f args gf ob ks post pan:=by
 refine ⟨⟨fn,hf,hname,by simp [hb]⟩,fun hgf S G a w vals h hvals=>?_⟩
 have hvl:vals.length=args.length:=hvals.length.symm
 have hle:args.length≤fn.ntmps:=by simpa using hlen
 have hn6:fn.ntmps≤1000000:=by simpa using hnb
 let S':Ctx:={ S with nt:=fn.ntmps,df:=[] }
 have hs:Sim P S' (x8 0 args++gf) ob G { tmps:=vals.toArray++Array.replicate (fn.ntmps - vals.toArray.size) undef,defers:=[] } w:=by
  refine { h with nt:=by simp [S'];omega,ntb:=hn6,defers:=rfl,facts:=?_ }
  intro i s hi
  rw [Y2] at hi
  cases hg:E5 (x8 0 args) i with
  | some s0 =>
   rw [hg] at hi
   have hi:some s0=some s:=hi
   cases hi
   obtain ⟨_,p,hp,rfl⟩:=C91 0 args i _ hg
   obtain ⟨u,hu,hr⟩:=hvals.get (i - 0) p hp
   have hlt:i < vals.length:=(List.getElem?_eq_some_iff.1 hu).1
   have hget:(vals.toArray++Array.replicate (fn.ntmps - vals.toArray.size) undef).getD i undef=u:=by
    rw [Array.getD_eq_getD_getElem?,Array.getElem?_append_left (by simpa using hlt)]
    simpa using congrArg (fun x=>x.getD undef) hu
   rw [Ctx.sl_lt (by omega),hget]
   exact hr
  | none =>
   rw [hg] at hi
   have hi:E5 gf i=some s:=hi
   have h7:=hgf i s hi
   have h8:=h.facts i s hi
   rw [Ctx.sl_ge h7] at h8 ⊢
   exact h8
 refine r7 hf hb (wp_mono (h6 S' _ _ w rfl hs) ?_)
 rintro e a' w' ⟨fr',ob',G',hq,hs'⟩
 have back:∀(ds:List Deferred) (w':World),Sim P { S' with df:=ds } fr' ob' G' a' w'→∀ob'':Obs,Tail (C0 ks gf) fr'→(∀k o,C1 ob'' k=some o→C1 ob' k=some o)→Sim P S (C0 ks gf) ob'' G' a w':=by
  intro ds w' hs' ob'' hg ho
  have hs2:=(hs'.weaken (fr':=C0 ks gf) (fun i s hi=>by
   obtain ⟨s0,h0⟩:=s7 hi
   exact hg i s (hgf i s0 h0) hi)).weakenO ho
  refine { hs2 with nt:=h.nt,ntb:=h.ntb,defers:=h.defers,facts:=fun i s hi=>?_ }
  obtain ⟨s0,h0⟩:=s7 hi
  have h7:=hgf i s0 h0
  have h8:=hs2.facts i s hi
  rw [Ctx.sl_ge h7] at h8 ⊢
  exact h8
 have fin:(∃rs ob'',RetS P fn fr' ob' rs∧Tail (C0 ks gf) fr'∧(∀k o,C1 ob'' k=some o→C1 ob' k=some o)∧post rs ob'')→∀ds w',Sim P { S' with df:=ds } fr' ob' G' a' w'→∃v,(results fn a'.tmps).run P w'=.ok v w'∧((∃v_1 rs ob' G',Ending.returned v=.returned v_1∧post rs ob'∧A01 (F0 (Mut S ob' G') w') G' rs v_1∧Sim P S (C0 ks gf) ob' G' a w')∨∃c ob' G',Ending.returned v=.panicked (A89 T c)∧pan c ob'∧Sim P S (C0 ks gf) ob' G' a w'):=by
  rintro ⟨rs,ob'',hr,hg,ho,hp⟩ ds w' hs'
  obtain ⟨v,hv,hres⟩:=hr _ G' a' w' hs'
  have hmut:∀b i,Mut S' ob'' G' b i→Mut S' ob' G' b i:=by
   rintro b i (hm | ⟨k,o,hk,ho'⟩)
   ·exact .inl hm
   ·exact .inr ⟨k,o,ho k o hk,ho'⟩
  exact ⟨v,hv,.inl ⟨v,rs,ob'',G',rfl,hp,SV.rep_mono (fun b i z hz=>⟨hz.1,fun hm=>hz.2 (hmut b i hm)⟩) hres,back ds w' hs' ob'' hg ho⟩⟩
 cases e with
 | normal=>exact hs'.leave rfl (fin hq)
 | ret=>exact hs'.leave rfl (fin hq)
 | panic ch =>
  obtain ⟨c,ob'',rfl,hg,ho,hp⟩:=hq
  have hs':=hs'.resolve_right fun h=>nomatch h.1
  show LeavesInM Fence.wide 0 P fn a'.tmps _ a'.defers _ w'
  rw [hs'.defers]
  exact .inr ⟨c,ob'',G',rfl,hp,back [] w' hs' ob'' hg ho⟩
 | _=>exact hq.elim
theorem J3 {fn:Func} {ks:List Nat} {gf:Fr} {post:List S1→Obs→Prop} {pan:Int→Obs→Prop} {rs:List S1} {ob':Obs} (h:RetS P fn fr ob rs) (hg:Tail (C0 ks gf) fr) (ho:∀k o,C1 ob' k=some o→C1 ob k=some o) (hp:post rs ob'):metXP P T fn ks gf post pan .ret fr ob :=
 ⟨rs,ob',h,hg,ho,hp⟩
theorem l_metX {f:FuncId} {xs:List Operand} {ats:Array TypeId} {ty:TypeId} {pos:String} {af:Array Edge} {args:List S1} {ks:List Nat} {post:List S1→Obs→Prop} {pan:Int→Obs→Prop}
  (hf:MetX P T f args (shF fr) ob ks post pan) (ha:p6 fr xs=some args) (hc:xs.all H8=true) (hd:Nat.blt d nt=true)
  (kp:∀e ob',pan e ob'→Q (.panic (A89 T e)) (C0 ks fr) ob')
  (kk:∀rs ob',post rs ob'→WpL P nt ops rest ((d,B98 rs)::C0 ks fr) ob' Q):WpL P nt ops (⟨some d,.call ⟨.value (.func f),xs.toArray,ats⟩,ty,pos,af,none⟩::rest) fr ob Q:=by
 intro S G a w hn h
 have hvals:=Z8 h xs args ha hc
 obtain ⟨gv,hgv⟩:∃gv:Nat→Value,gv=fun i=>S.sl a (i - 1000000):=⟨_,rfl⟩
 let S':Ctx:={ S with gv:=gv }
 have hhigh:High (shF fr):=fun i s hi=>(U2 fr i s hi).1
 have hfacts0:∀i s,E5 (shF fr) i=some s→s.rep (F0 (Mut S' ob G) w) G (S'.sl a i):=by
  intro i s hi
  obtain ⟨h7,h8⟩:=U2 fr i s hi
  rw [Ctx.sl_ge h7]
  show s.rep _ _ (gv i)
  have e:=congrFun hgv i
  rw [e]
  exact h.facts (i - 1000000) s h8
 have hs:Sim P S' (shF fr) ob G a w:={ h with facts:=hfacts0 }
 have hcalls:=hf.2 hhigh S' G a w _ hs hvals
 have back:∀{ob':Obs} {G':Gh} {w':World},Sim P S' (C0 ks (shF fr)) ob' G' a w'→Sim P S (C0 ks fr) ob' G' a w':=by
  intro ob' G' w' hs'
  have hfacts:∀i s,E5 (C0 ks fr) i=some s→s.rep (F0 (Mut S ob' G') w') G' (S.sl a i):=by
   intro i s hi
   have h7:=hs'.facts (i+1000000) s (by rw [Y3];exact B49 hi)
   have h8:1000000≤i+1000000:=Nat.le_add_left _ _
   rw [Ctx.sl_ge h8] at h7
   have h7:s.rep (F0 (Mut S ob' G') w') G' (gv (i+1000000)):=h7
   have e:=congrFun hgv (i+1000000)
   simp only [Nat.add_sub_cancel] at e
   rw [e] at h7
   exact h7
  exact { hs' with facts:=hfacts }
 refine wpList_plain rfl fun K hK=>?_
 have he:(execOp a.eval ⟨some d,.call ⟨.value (.func f),xs.toArray,ats⟩,ty,pos,af,none⟩).run P w=.ok (.enter f (xs.map a.eval).toArray) w:=by
  have:=M4 (P:=P) (f:=f) (args:=(xs.map a.eval).toArray) (w:=w) hf.1
  have hm:xs.toArray.map a.eval=(xs.map a.eval).toArray:=by simp
  simp only [execOp,resolve,Act.eval,Deferred.ofValue,Sem.run_bind,Sem.run_pure,Result.andThen_ok,invoke]
  rw [show (#[]:Array Value)++Array.map a.eval xs.toArray++#[]=(xs.map a.eval).toArray by rw [←hm];simp]
  exact this
 unfold Oper.wp
 rw [he]
 refine hcalls.mono ?_
 rintro e w' (⟨v,rs,ob',G',rfl,hp,hres,hs'⟩ | ⟨c,ob',G',rfl,hp,hs'⟩)
 ·have hlt:d < S.nt:=by rw [hn];simpa using hd
  exact hK _ _ (kk rs ob' hp S G' _ w' hn ((back hs').put hlt hres))
 ·exact ⟨_,ob',G',kp c ob' hp,.inl (back hs')⟩
end
end Go.AL
namespace Go.AL
open Go Go.RowKit
set_option linter.unusedVariables false
section
variable {P:Program} {dst:Option Tmp} {ty:TypeId} {pos:String} {af:Array Edge} {gd:Option (Nat × Bool)} {fr:Fr} {ob:Obs}
def a7 {κ:Type} [DecidableEq κ]:List (κ × Cell)→κ→Cell→List (κ × Cell)
 | [],a,c=>[(a,c)]
 | (k,x)::r,a,c=>if k=a then (k,c)::r else (k,x)::a7 r a c
theorem E16 {κ:Type} [DecidableEq κ] {a:κ} {c:Cell}:∀{kvs:List (κ × Cell)},N6 kvs a=none→a7 kvs a c=kvs++[(a,c)]
 | [],_=>rfl
 | (k,x)::r,h=>by
  unfold N6 at h
  unfold a7
  split at h
  ·cases h
  ·rename_i hn;rw [if_neg hn,E16 h];rfl
theorem H50 {κ:Type} [DecidableEq κ] {kf:κ→Value} {kd:TypeDesc} (hkey:∀a,MapKept.IsKey kd (kf a)) (hinj:∀a b,kf a=kf b→a=b) {rd:Rd} (a:κ) {c:Cell} {u:Value} (hc:c.rep rd u):∀(kvs:List (κ × Cell)) (es:List MapEntry) (i:Nat),
  All2 (fun (kv:κ × Cell) (e:MapEntry)=>e.key=kf kv.1∧kv.2.rep rd e.val) kvs es→N6 kvs a≠none →
  ∃p v e,Instr.findNow kd (kf a) es i=some (some (i+p,v))∧es[p]?=some e∧e.key=kf a∧All2 (fun (kv:κ × Cell) (e:MapEntry)=>e.key=kf kv.1∧kv.2.rep rd e.val) (a7 kvs a c) (es.modify p fun e=>{ e with key:=kf a,val:=u })
 | [],[],_,_,h=>absurd rfl h
 | [],_::_,_,h,_=>h.elim
 | _::_,[],_,h,_=>h.elim
 | (k,x)::kvs,e::es,i,h,hn=>by
  obtain ⟨⟨h1,h2⟩,h3⟩:=h
  obtain ⟨r,hr,hiff⟩:=MapKept.sameNow_of_keys (hkey a) (hkey k)
  have hr':Instr.sameNow kd (kf a) e.key=some r:=by rw [h1];exact hr
  by_cases he:k=a
  ·subst he
   have:r=true:=hiff.2 rfl
   subst this
   refine ⟨0,e.val,e,by simp [Instr.findNow,hr'],rfl,h1,?_⟩
   unfold a7
   rw [if_pos rfl]
   exact ⟨⟨rfl,hc⟩,h3⟩
  ·have:r=false:=by
    cases r
    ·rfl
    ·exact absurd (hinj _ _ (hiff.1 rfl)).symm he
   subst this
   have hn':N6 kvs a≠none:=by
    intro e0;apply hn;unfold N6;rw [if_neg he];exact e0
   obtain ⟨p,v,e',h4,h5,h6,h7⟩:=H50 hkey hinj a hc kvs es (i+1) h3 hn'
   refine ⟨p+1,v,e',?_,by simpa using h5,h6,?_⟩
   ·simp only [Instr.findNow,hr',h4]
    rw [show i+1+p=i+(p+1) by omega]
   ·unfold a7
    rw [if_neg he]
    exact ⟨⟨h1,h2⟩,h7⟩
theorem H51 {x y v:Operand} {t kt:TypeId} {kd:TypeDesc} {z:Value} {k:Nat} {κ:Type} [DecidableEq κ] {kf:κ→Value} {kvs:List (κ × Cell)} (a0:κ) {c:Cell} [ht:TyMap P t kt kd z] (hx:opv fr x=some (.s (.one (.mut k)))) (hk:C1 ob k=some (.map κ kf kvs))
  (hy:opv fr y=some (I7 (kf a0))) (hv:opv fr v=some (.s (.one (.p c)))) (hc:H8 v=true) (hkey:∀a,MapKept.IsKey kd (kf a)) (hinj:∀a b,kf a=kf b→a=b) :
  Eff P ⟨none,.mapUpdate t x y v,ty,pos,af,gd⟩ fr ob fr ((k,.map κ kf (a7 kvs a0 c))::ob):=by
 cases hr:N6 kvs a0 with
 | none=>rw [E16 hr];exact H45 a0 hx hk hy hv hc hkey hinj hr
 | some c0 =>
  intro S G a w h
  obtain ⟨et,u1,u2,u3,u4⟩:=ht.out
  obtain ⟨hu,_⟩:=J0 h hx
  obtain ⟨b,es,clock,hg,hh,ha⟩:=h.obs k _ hk
  rw [hg] at hu
  have hrv:c.rep (F0 (Mut S ob G) w) (a.eval v):=V1 h hv hc
  obtain ⟨p,v0,e,h4,h5,h6,h7⟩:=H50 hkey hinj a0 hrv kvs es.toList 0 ha (by rw [hr];simp)
  rw [Nat.zero_add] at h4
  have hep:(es[p]?.map (·.key)).getD (kf a0)=kf a0:=by
   rw [←Array.getElem?_toList,h5];exact h6
  obtain ⟨g5,g6⟩:=MapKept.heap_set (o':=.map (es.modify p fun e=>{ e with key:=kf a0,val:=a.eval v }) clock) hh
  have he:(execOp a.eval ⟨none,.mapUpdate t x y v,ty,pos,af,gd⟩).run P w=.ok .skip { w with heap:=w.heap.setIfInBounds b (.map (es.modify p fun e=>{ e with key:=kf a0,val:=a.eval v }) clock) }:=by
   simp only [execOp,hu,G5 h hy]
   simp only [Instr.mapUpdate,Sem.run_bind,run_underlying u1,Result.andThen_ok,MapKept.run_getObj_map hh,MapKept.run_checkKey u2 (hkey a0),MapKept.run_findKey u2 h4,hep,MapKept.run_keyThatStays (hkey a0),MapKept.run_setObj_map _ hh]
   rfl
  unfold Does
  rw [he]
  have hbk:blk (G k)=some b:=by rw [hg];rfl
  refine ⟨G,h.write hk hbk (fun i=>⟨hbk,trivial⟩) (fun i=>⟨hbk,trivial⟩) rfl rfl rfl (by simp) (fun j _ hne=>g6 j hne) ?_⟩
  intro rd hrd
  refine ⟨b,_,_,hg,g5,?_⟩
  rw [Array.toList_modify]
  exact h7.mono fun _ _ ⟨e1,e2⟩=>⟨e1,Cell.rep_mono hrd _ _ e2⟩
theorem G68 {x y:Operand} {t yt:TypeId} {l m:List UInt8} (hx:opv fr x=some (Z9 l)) (hy:opv fr y=some (Z9 m)):Neu P ⟨dst,.binOp .geq t x y yt,ty,pos,af,gd⟩ fr ob (fun s'=>s'=S0 (!Op.bytesLess l m)) :=
 w7 hx hy (fun _=>rfl) (fun w=>by simp [binOp,Op.stringOp]) rfl
theorem H52 {f:FuncId} {first:List Operand} {cs:List Cell} (h1:A48 fr first=some (cs.map PV.one)) (hc:first.all H8=true) :
  Neu P ⟨dst,.makeFunc (.func f) first.toArray #[],ty,pos,af,gd⟩ fr ob (fun s'=>s'=.s (.one (.fnc f cs))) :=
 F5 fun S G a w h=>by
  have hr:=x6 h first _ h1 hc
  refine ⟨.func (.func f) (first.map a.eval).toArray #[],?_,_,rfl,?_⟩
  ·simp [execOp,Instr.makeFunc]
  ·have key:∀{cs:List Cell} {us:List Value},All2 (PV.rep (F0 (Mut S ob G) w)) (cs.map PV.one) us→All2 (Cell.rep (F0 (Mut S ob G) w)) cs us:=by
    intro cs
    induction cs with
    | nil=>intro us h;cases us;trivial;exact h.elim
    | cons c cs ih =>
     intro us h
     cases us with
     | nil=>exact h.elim
     | cons u us=>exact ⟨h.1,ih h.2⟩
   exact key hr
theorem J33 {rd:Rd}:∀{cs:List Cell} {us:List Value},All2 (Cell.rep rd) cs us→All2 (PV.rep rd) (cs.map PV.one) us
 | [],[],_=>trivial
 | [],_::_,h=>h.elim
 | _::_,[],h=>h.elim
 | _::_,_::_,h=>⟨h.1,J33 h.2⟩
theorem n_callC {f:FuncId} {g:Operand} {xs:Array Operand} {ats:Array TypeId} {cs:List Cell} {ps rs:List PV} (hf:FnOk P f (cs.map PV.one++ps) (fun r=>r=rs)) (hg:opv fr g=some (.s (.one (.fnc f cs)))) (ha:A48 fr xs.toList=some ps) (hc:xs.toList.all H8=true) :
  Neu P ⟨dst,.call ⟨.value g,xs,ats⟩,ty,pos,af,gd⟩ fr ob (fun s'=>s'=D24 rs):=by
 intro S G a w h
 obtain ⟨vs,hgv,hvs⟩:=J0 h hg
 have hrep:All2 (PV.rep (F0 (Mut S ob G) w)) (cs.map PV.one++ps) (vs++xs.toList.map a.eval):=(J33 hvs).append (x6 h xs.toList ps ha hc)
 have hcall:=hf.2 w (Mut S ob G) _ h.grdW (fun b i hm=>h.mut_lt hm) hrep
 unfold Does
 have he:(execOp a.eval ⟨dst,.call ⟨.value g,xs,ats⟩,ty,pos,af,gd⟩).run P w=.ok (.enter f (vs++xs.toList.map a.eval).toArray) w:=by
  have:=M4 (P:=P) (f:=f) (args:=(vs++xs.toList.map a.eval).toArray) (w:=w) hf.1
  simp only [execOp,resolve,hgv,Deferred.ofValue,Sem.run_bind,Sem.run_pure,Result.andThen_ok,invoke]
  rw [show vs.toArray++Array.map a.eval xs++#[]=(vs++xs.toList.map a.eval).toArray by simp]
  exact this
 rw [he]
 refine hcall.mono ?_
 rintro e w' ⟨v,rs',rfl,rfl,hr,hb⟩
 exact ⟨v,rfl,hb,_,rfl,hr.sv⟩
theorem G69 {f:FuncId} {g:Operand} {xs:Array Operand} {ats:Array TypeId} {ps rs:List PV} (hf:FnOk P f ps (fun r=>r=rs)) (hg:opv fr g=some (I7 (.func (.func f) #[] #[]))) (ha:A48 fr xs.toList=some ps) (hc:xs.toList.all H8=true) :
  Neu P ⟨dst,.call ⟨.value g,xs,ats⟩,ty,pos,af,gd⟩ fr ob (fun s'=>s'=D24 rs):=by
 intro S G a w h
 have hgv:=G5 h hg
 have hcall:=hf.2 w (Mut S ob G) _ h.grdW (fun b i hm=>h.mut_lt hm) (x6 h xs.toList ps ha hc)
 unfold Does
 have he:(execOp a.eval ⟨dst,.call ⟨.value g,xs,ats⟩,ty,pos,af,gd⟩).run P w=.ok (.enter f (xs.toList.map a.eval).toArray) w:=by
  have:=M4 (P:=P) (f:=f) (args:=(xs.toList.map a.eval).toArray) (w:=w) hf.1
  simp only [execOp,resolve,hgv,Deferred.ofValue,Sem.run_bind,Sem.run_pure,Result.andThen_ok,invoke]
  rw [show (#[]:Array Value)++Array.map a.eval xs++#[]=(xs.toList.map a.eval).toArray by obtain ⟨l⟩:=xs;simp]
  exact this
 rw [he]
 refine hcall.mono ?_
 rintro e w' ⟨v,rs',rfl,rfl,hr,hb⟩
 exact ⟨v,rfl,hb,_,rfl,hr.sv⟩
theorem c_condF {nt:Nat} {Q:Post} {x y:Code} (h:WpC P nt y fr ob Q):WpC P nt (.cond (.const (.bool false)) x y) fr ob Q:=by
 intro S G a w hn hs
 exact wp_cond_split (c:=.const (.bool false)) (t:=false) rfl (fun h=>by cases h) (fun _=>h S G a w hn hs)
theorem B53 {x:Operand} {T:TypeId} {k off:Nat} (hx:opv fr x=some (.s (.one (.ref k off)))) (hT:P.concrete T=true) :
  Neu P ⟨dst,.makeInterface T x,ty,pos,af,gd⟩ fr ob (fun s'=>s'=.s (.one (.ifc T k off))) :=
 F5 fun S G a w h=>by
  obtain ⟨b,hg,hu⟩:=J0 h hx
  refine ⟨.iface T (.pointer (some ⟨b,off,none⟩)),?_,b,hg,rfl⟩
  simp only [execOp,hu]
  exact M6 (run_makeInterface w T _ hT)
theorem J4 {x:Operand} {T:TypeId} {v:Value} (hx:opv fr x=some (I7 v)) (hT:P.concrete T=true) :
  Neu P ⟨dst,.makeInterface T x,ty,pos,af,gd⟩ fr ob (fun s'=>s'=I7 (.iface T v)) :=
 F5 fun S G a w h=>by
  refine ⟨.iface T v,?_,rfl,rfl⟩
  simp only [execOp,G5 h hx]
  exact M6 (run_makeInterface w T _ hT)
theorem E17 {x:Operand} {xT T:TypeId} {k:IntKind} {v:Value} [ht:TyInt P T k] (hx:opv fr x=some (I7 (.iface T v))) (ho:v.oneCell'=true) :
  Neu P ⟨dst,.typeAssert x xT T false,ty,pos,af,gd⟩ fr ob (fun s'=>s'=I7 v) :=
 F5 fun S G a w h=>by
  refine ⟨v,?_,rfl,ho⟩
  simp only [execOp,G5 h hx]
  refine M6 ?_
  simp [Instr.typeAssert,run_underlying ht.out]
section
variable {nt:Nat} {ops:Array Oper} {rest:List Oper} {Q:Post} {d:Nat}
theorem B07 {f:FuncId} {x:Operand} {m:String} {xs:List Operand} {ats:Array TypeId} {ty:TypeId} {pos:String} {af:Array Edge} {T:TypeId} {k off:Nat} {args:List S1} {ks:List Nat} {post:List S1→Obs→Prop}
  (hI:∀(a:Addr) (vs:Array Value) (w:World),(callMethod (.iface T (.pointer (some a))) m vs).run P w=.ok (.enter f (#[.pointer (some a)]++vs)) w)
  (hf:Met P f (.one (.ref k off)::args) (shF fr) ob ks post) (hx:opv fr x=some (.s (.one (.ifc T k off)))) (ha:p6 fr xs=some args) (hc:xs.all H8=true) (hd:Nat.blt d nt=true)
  (kk:∀rs ob',post rs ob'→WpL P nt ops rest ((d,B98 rs)::C0 ks fr) ob' Q):WpL P nt ops (⟨some d,.call ⟨.invoke x m,xs.toArray,ats⟩,ty,pos,af,none⟩::rest) fr ob Q:=by
 intro S G a w hn h
 obtain ⟨b,hGk,hxv⟩:=J0 h hx
 have hvals:All2 (S1.rep (F0 (Mut S ob G) w) G) (.one (.ref k off)::args) (.pointer (some ⟨b,off,none⟩)::xs.map a.eval):=⟨⟨b,hGk,rfl⟩,Z8 h xs args ha hc⟩
 obtain ⟨gv,hgv⟩:∃gv:Nat→Value,gv=fun i=>S.sl a (i - 1000000):=⟨_,rfl⟩
 let S':Ctx:={ S with gv:=gv }
 have hhigh:High (shF fr):=fun i s hi=>(U2 fr i s hi).1
 have hfacts0:∀i s,E5 (shF fr) i=some s→s.rep (F0 (Mut S' ob G) w) G (S'.sl a i):=by
  intro i s hi
  obtain ⟨h7,h8⟩:=U2 fr i s hi
  rw [Ctx.sl_ge h7]
  show s.rep _ _ (gv i)
  have e:=congrFun hgv i
  rw [e]
  exact h.facts (i - 1000000) s h8
 have hs:Sim P S' (shF fr) ob G a w:={ h with facts:=hfacts0 }
 have hcalls:=hf.2 hhigh S' G a w _ hs hvals
 refine wpList_plain rfl fun K hK=>M9 (K:=fun v w'=>∃rs ob' G',post rs ob'∧A01 (F0 (Mut S' ob' G') w') G' rs v∧Sim P S' (C0 ks (shF fr)) ob' G' a w') ?_ ?_
 ·have he:(execOp a.eval ⟨some d,.call ⟨.invoke x m,xs.toArray,ats⟩,ty,pos,af,none⟩).run P w=.ok (.enter f (.pointer (some ⟨b,off,none⟩)::xs.map a.eval).toArray) w:=by
   have:=hI ⟨b,off,none⟩ (xs.map a.eval).toArray w
   have e1:(#[a.eval x]++Array.map a.eval xs.toArray)[0]?=some (a.eval x):=by simp
   have e2:(#[a.eval x]++Array.map a.eval xs.toArray).extract 1 (#[a.eval x]++Array.map a.eval xs.toArray).size=(xs.map a.eval).toArray:=by
    apply Array.ext'
    simp [L31]
   simp only [execOp,resolve,Sem.run_bind,Sem.run_pure,Result.andThen_ok,invoke,e1,e2]
   rw [hxv,this]
   congr 2
   simp
  unfold Does
  rw [he]
  refine hcalls.mono ?_
  rintro e w' ⟨v,rs,ob',G',rfl,hpost,hres,hs'⟩
  exact ⟨v,rfl,rs,ob',G',hpost,hres,hs'⟩
 ·rintro v w' ⟨rs,ob',G',hp,hres,hs'⟩
  have hlt:d < S.nt:=by rw [hn];simpa using hd
  have hfacts:∀i s,E5 (C0 ks fr) i=some s→s.rep (F0 (Mut S ob' G') w') G' (S.sl a i):=by
   intro i s hi
   have h7:=hs'.facts (i+1000000) s (by rw [Y3];exact B49 hi)
   have h8:1000000≤i+1000000:=Nat.le_add_left _ _
   rw [Ctx.sl_ge h8] at h7
   have h7:s.rep (F0 (Mut S ob' G') w') G' (gv (i+1000000)):=h7
   have e:=congrFun hgv (i+1000000)
   simp only [Nat.add_sub_cancel] at e
   rw [e] at h7
   exact h7
  have hsim:Sim P S (C0 ks fr) ob' G' a w':={ hs' with facts:=hfacts }
  exact hK _ _ (kk rs ob' hp S G' _ w' hn (hsim.put hlt hres))
end
end
end Go.AL
namespace Go.AL
open Go Go.RowKit
set_option linter.unusedVariables false
section
variable {P:Program} {dst:Option Tmp} {ty:TypeId} {pos:String} {af:Array Edge} {gd:Option (Nat × Bool)} {fr:Fr} {ob:Obs} {nt:Nat}
theorem C40 {x:Operand} {t e:TypeId} {eb bytes:Nat} (hx:opv fr x=some (I7 (.slice none 0 0))) [ht:TySl P t e eb bytes] :
  Neu P ⟨dst,.call ⟨.builtin .cap,#[x],#[t]⟩,ty,pos,af,gd⟩ fr ob (fun s'=>s'=C7 0) :=
 F5 fun S G a w h=>by
  refine ⟨.int .i64 0,?_,rfl,rfl⟩
  have hu:=G5 h hx
  simp [execOp,resolve,invoke,builtin,hu,Builtin.cap_,run_underlying ht.out.1,goInt]
theorem C69 {x yh:Operand} {t e:TypeId} {bytes ec:Nat} {kh:IntKind} [ht:TySl P t e ec bytes] (hx:opv fr x=some (I7 (.slice none 0 0))) (hyh:opv fr yh=some (I7 (.int kh 0))) :
  Neu P ⟨dst,.slice t x none (some yh) none,ty,pos,af,gd⟩ fr ob (fun s'=>s'=I7 (.slice none 0 0)) :=
 F5 fun S G a w h=>by
  refine ⟨.slice none 0 0,?_,rfl,rfl⟩
  have hu:=G5 h hx
  simp only [execOp,hu,G5 h hyh,Option.map_some,Option.map_none]
  refine M6 ?_
  obtain ⟨he1,he2⟩:=ht.elem
  simp only [Instr.sliceAt,Sem.run_bind,run_underlying ht.out.1,Result.andThen_ok]
  rw [run_slice_h w t none 0 0 he1 kh 0 (by omega) (by omega),he2,J8 ht.size]
  simp [sliced]
theorem K88 (t k:Nat) (α:Type) (ec:Nat) (c:α→Nat→Cell) (e:TypeId) (ht:E5 fr t=some (I7 (.slice none 0 0))) (hf:(K4 k fr&&L0 k ob)=true) :
  Sees P nt fr ob ((t,.s (.one (.mut k)))::fr) ((k,.grow e α ec c [])::ob):=by
 simp only [L02] at hf
 obtain ⟨h1,h2⟩:=hf
 obtain ⟨h4,h5,hp⟩:=H9 h2
 intro S G a w hn h
 have h6:=h.new hp (o:=.grow e α ec c []) (u:=.slice none 0 0) (w1:=w) h5 (Below.refl _ _) (fun b hb=>by simp [blk] at hb) ⟨[],World.ownsRow_nil w _ _ _,by simp,fun i hi=>absurd hi (by simp)⟩
 rw [b9 h1,h4] at h6
 refine ⟨upd G k (.slice none 0 0),{ h6 with facts:=fun i s hi=>?_ }⟩
 by_cases he:t=i
 ·subst he
  rw [E0] at hi
  cases hi
  have hv:=(h.facts t _ ht).1
  refine ⟨?_,?_⟩
  ·rw [hv];exact (J2 _ _ _).symm
  ·rw [hv];rfl
 ·rw [C8 he] at hi;exact h6.facts i s hi
theorem K33 {β:Type} {eb:Nat} {cb:β→Nat→Cell} {i:Nat} {x:Operand} {r:List (Nat × Operand)} {ys:List (List β)} (hx:opv fr x=some (I7 (.slice none 0 0))) (hk:H8 x=true) (h:E78 fr 1 (fun (l:List β) _=>.list β eb cb l) r (i+1) ys) :
  E78 fr 1 (fun (l:List β) _=>.list β eb cb l) ((i,x)::r) i ([]::ys) :=
 ⟨rfl,hk,_,[],ys,hx,rfl,fun rd G us ha=>by
  cases us with
  | nil=>exact ha.elim
  | cons u us =>
   cases us with
   | cons _ _=>exact ha.2.elim
   | nil =>
    refine ⟨?_,trivial⟩
    have:u=.slice none 0 0:=ha.1.1
    rw [this]
    exact I4 β eb cb,rfl,h⟩
class TyArr (P:Program) (t:TypeId) (e:outParam TypeId) (n:outParam Nat) (es:outParam Nat):Prop where
 out:P.underlying t=some (.array n e)∧(P.info? e).map (·.size)=some es
theorem I5 {x y:Operand} {t e:TypeId} {n es k off:Nat} {ki:IntKind} {i:Int} [ht:TyArr P t e n es] (hx:opv fr x=some (.s (.one (.ref k off)))) (hy:opv fr y=some (I7 (.int ki i))) (h0:0≤i) (h1:i < n) :
  Neu P ⟨dst,.indexAddr t x y,ty,pos,af,gd⟩ fr ob (fun s'=>s'=.s (.one (.ref k (off+i.toNat*es)))) :=
 F5 fun S G a w h=>by
  obtain ⟨b,hg,hu⟩:=J0 h hx
  refine ⟨.pointer (some ⟨b,off+i.toNat*es,none⟩),?_,b,hg,rfl⟩
  simp only [execOp,hu,G5 h hy]
  refine M6 ?_
  have hb:0≤i∧i < (n:Int):=⟨h0,h1⟩
  simp [Instr.indexAt,Instr.sureAddr,run_underlying ht.out.1,asIntOf,hb,J8 ht.out.2,Addr.add_lit]
theorem F02 {f g:Nat→Option (Nat × Nat)}:∀(ps:List (Nat × Value)) (cs:Array Value),(∀p∈ps,f p.1=g p.1)→Instr.fill f cs ps=Instr.fill g cs ps
 | [],_,_=>rfl
 | (i,v)::r,cs,h=>by
  have h0:f i=g i:=h (i,v) List.mem_cons_self
  unfold Instr.fill
  rw [h0]
  cases g i with
  | none=>rfl
  | some q =>
   obtain ⟨off,sz⟩:=q
   dsimp only
   split
   ·rfl
   ·exact F02 r _ fun p hp=>h p (List.mem_cons_of_mem _ hp)
theorem F03 {fr:Fr} {offs:List (Nat × Nat)}:∀{ps:List (Nat × Operand)} {ts ts':List TC},A79 fr offs ps ts=some ts'→∀p∈ps,p.1 < offs.length
 | [],_,_,_,p,hp=>by cases hp
 | (i,x)::r,ts,ts',h,p,hp=>by
  simp only [A79] at h
  split at h
  ·rename_i off sz s h1 h2
   have hi:i < offs.length:=(List.getElem?_eq_some_iff.1 h1).1
   rcases List.mem_cons.1 hp with rfl | hp
   ·exact hi
   ·cases hc:(Nat.beq s.cells.length sz&&H8 x&&Nat.ble (off+sz) ts.length)
    ·rw [hc] at h;cases h
    ·rw [hc] at h;exact F03 h p hp
  ·cases h
class TyArrZ (P:Program) (t:TypeId) (zs:outParam (List Value)) (offs:outParam (List (Nat × Nat))):Prop where
 out:∃n e es z,P.underlying t=some (.array n e)∧(P.info? t).bind (·.zero)=some z∧z.cells.toList=zs∧zs.all (·.oneCell')=true∧(P.info? e).map (·.size)=some es∧offs=(List.range n).map fun i=>(i*es,es)
theorem y3 {t:TypeId} {zs:List Value} {offs:List (Nat × Nat)} {parts:Array (Nat × Operand)} {ts:List TC} [ht:TyArrZ P t zs offs] (hb:A79 fr offs parts.toList (zs.map fun c=>.p (.v c))=some ts) :
  Neu P ⟨dst,.build t parts,ty,pos,af,gd⟩ fr ob (fun s'=>s'=.s (.agg ts)) :=
 F5 fun S G a w h=>by
  obtain ⟨n,e,es,z,h1,h2,h3,h4,h5,h6⟩:=ht.out
  obtain ⟨cs',hf,hc⟩:=E77 h offs parts.toList _ ts z.cells hb (by rw [h3];exact o8 _ h4)
  refine ⟨.agg cs',?_,cs'.toList,by simp,hc⟩
  have hin:=F03 hb
  have hcg:Instr.fill (fun i=>some (i*es,es)) z.cells (parts.toList.map fun x=>(x.1,a.eval x.2))=some cs':=by
   rw [←hf]
   refine F02 _ _ fun p hp=>?_
   obtain ⟨q,hq,rfl⟩:=List.mem_map.1 hp
   have hi:=hin q hq
   rw [h6] at hi ⊢
   rw [L33,L39] at hi
   simp [hi]
  simp only [execOp]
  refine M6 ?_
  have hp:(parts.map fun x=>(x.1,a.eval x.2)).toList=parts.toList.map fun x=>(x.1,a.eval x.2):=by simp
  simp only [Instr.build,Sem.run_bind,T6 h2,Result.andThen_ok,run_underlying h1,J8 h5]
  rw [show (parts.map fun (x:Nat × Operand)=>match x with | (i,x)=>(i,a.eval x))=parts.map fun x=>(x.1,a.eval x.2) from rfl,hp,hcg]
  rfl
end
end Go.AL
namespace Go.AL
open Go Go.RowKit
set_option linter.unusedVariables false
section
variable {P:Program} {dst:Option Tmp} {ty:TypeId} {pos:String} {af:Array Edge} {gd:Option (Nat × Bool)} {fr:Fr} {ob:Obs}
theorem n_boxE {x:Operand} {e:TypeId} {c:Cell} (hx:opv fr x=some (.s (.one (.p c)))) (hc:H8 x=true) :
  Neu P ⟨dst,.box e x,ty,pos,af,gd⟩ fr ob (fun s'=>s'=.s (.one (.eref Unit 1 (fun _ _=>c) () 0))):=by
 intro S G a w h
 have hr:(SV.s (.one (.p c))).rep (F0 (Mut S ob G) w) G (a.eval x):=V1 h hx hc
 have hr1:c.rep (F0 (Mut S ob G) w) (a.eval x):=hr
 have h1:=Cell.rep_one hr1
 have hcells:(a.eval x).cells=#[a.eval x]:=by
  generalize a.eval x=u at h1
  cases u<;>first | rfl | simp [Value.oneCell'] at h1
 have hxw:Below w.heap.size w (w.alloc (.cells (a.eval x).cells e)):=(Below.refl _ _).alloc (Nat.le_refl _) _
 refine J9 (w':=w.alloc (.cells (a.eval x).cells e)) (v:=.pointer (some ⟨w.heap.size,0,none⟩)) ?_ ⟨hxw,_,rfl,w.heap.size,0,rfl,?_⟩
 ·simp [execOp,Instr.box,newVar,newRow]
 ·intro j hj
  obtain rfl:j=0:=by omega
  refine ⟨a.eval x,⟨?_,fun hm=>absurd (h.mut_lt hm) (Nat.lt_irrefl _)⟩,Cell.rep_mono (fun _ _ _ hh=>B27 hxw hh) _ _ hr1⟩
  exact O6 (heap_alloc_new w _) (by simp [hcells])
theorem o5 {x:Operand} {e:TypeId} {s:S1} {cs:List Cell} (hx:opv fr x=some (.s s)) (hc:H8 x=true) (hp:A47 s.cells=some cs) :
  Neu P ⟨dst,.box e x,ty,pos,af,gd⟩ fr ob (fun s'=>s'=.s (.one (.eref Unit cs.length (fun _ j=>cs.getD j (.v undef)) () 0))):=by
 intro S G a w h
 have hr:(SV.s s).rep (F0 (Mut S ob G) w) G (a.eval x):=V1 h hx hc
 have hcs:=p5 hp (K79 hr)
 have hxw:Below w.heap.size w (w.alloc (.cells (a.eval x).cells e)):=(Below.refl _ _).alloc (Nat.le_refl _) _
 refine J9 (w':=w.alloc (.cells (a.eval x).cells e)) (v:=.pointer (some ⟨w.heap.size,0,none⟩)) ?_ ⟨hxw,_,rfl,w.heap.size,0,rfl,?_⟩
 ·simp [execOp,Instr.box,newVar,newRow]
 ·intro j hj
  obtain ⟨z,hz1,hz2⟩:=hcs.get j _ (L01 hj)
  refine ⟨z,⟨O6 (heap_alloc_new w _) (by rw [Nat.zero_add];simpa using hz1),fun hm=>absurd (h.mut_lt hm) (Nat.lt_irrefl _)⟩,?_⟩
  show (cs.getD j (.v undef)).rep _ z
  rw [show cs.getD j (.v undef)=cs[j] by simp [L07,hj]]
  exact Cell.rep_mono (fun _ _ _ hh=>B27 hxw hh) _ _ hz2
theorem A16 {f:FuncId} {x:Operand} {α:Type} {ec:Nat} {c:α→Nat→Cell} {v:α} (hx:opv fr x=some (.s (.one (.eref α ec c v 0)))) :
  Neu P ⟨dst,.makeFunc (.func f) #[] #[x],ty,pos,af,gd⟩ fr ob (fun s'=>s'=.s (.one (.fncE f α ec c v))) :=
 F5 fun S G a w h=>by
  obtain ⟨b,o,hu,hr⟩:=J0 h hx
  refine ⟨.func (.func f) #[] #[a.eval x],?_,b,o,?_,hr⟩
  ·simp [execOp,Instr.makeFunc]
  ·rw [hu];rfl
theorem n_callE {f:FuncId} {g:Operand} {xs:Array Operand} {ats:Array TypeId} {α:Type} {ec:Nat} {c:α→Nat→Cell} {v:α} {args:List S1} {c0:Cell}
  (hf:Met P f (args++[.one (.eref α ec c v 0)]) [] [] [] (fun rs ob'=>rs=[.one (.p c0)]∧ob'=[])) (hg:opv fr g=some (.s (.one (.fncE f α ec c v)))) (ha:p6 fr xs.toList=some args) (hc:xs.toList.all H8=true) :
  Neu P ⟨dst,.call ⟨.value g,xs,ats⟩,ty,pos,af,gd⟩ fr ob (fun s'=>s'=.s (.one (.p c0))):=by
 intro S G a w h
 obtain ⟨b,o,hgv,hrd⟩:=J0 h hg
 have hvals:=Z8 h xs.toList args ha hc
 have hvals2:All2 (S1.rep (F0 (Mut S ob G) w) G) (args++[.one (.eref α ec c v 0)]) (xs.toList.map a.eval++[Value.pointer (some ⟨b,o,none⟩)]):=hvals.append ⟨⟨b,o,rfl,hrd⟩,trivial⟩
 let S':Ctx:={ S with w0:=w,M0:=fun b i=>Mut S ob G b i,io:=fun _=>False }
 have hhigh:High ([]:Fr):=fun i s hi=>by cases hi
 have hgrd:Grd P (fun _=>False) w:=by
  obtain ⟨wg,h1,h2,h3⟩:=h.grd
  refine ⟨wg,h1,Nat.le_trans h2 h.size,fun j hj=>?_⟩
  obtain ⟨h4,h5⟩:=h3 j hj
  exact ⟨(h.keep j (Nat.lt_of_lt_of_le hj h2) h5).trans h4,fun e=>e⟩
 have hs:Sim P S' [] [] G a w:={ nt:=h.nt,ntb:=h.ntb,defers:=h.defers,os:=rfl,tape:=rfl,output:=rfl,size:=Nat.le_refl _,keep:=fun _ _ _=>rfl,m0:=fun b i hm=>h.mut_lt hm,m0io:=fun _ _ _ e=>e,grd:=hgrd,pin:=h.pin,old:=fun _ _ _ e=>(by cases e),dis:=fun _ _ _ _ _ e=>(by cases e),obs:=fun _ _ e=>(by cases e),facts:=fun _ _ e=>(by cases e) }
 have hrd0:∀b i z,F0 (Mut S ob G) w b i z→F0 (Mut S' [] G) w b i z:=fun b i z hr=>⟨hr.1,fun hm=>hr.2 (by
  rcases hm with hm | ⟨k,o,hk,_⟩
  ·exact hm
  ·cases hk)⟩
 have hcalls:=hf.2 hhigh S' G a w _ hs (hvals2.mono fun _ _=>S1.rep_mono hrd0)
 unfold Does
 have he:(execOp a.eval ⟨dst,.call ⟨.value g,xs,ats⟩,ty,pos,af,gd⟩).run P w=.ok (.enter f (xs.toList.map a.eval++[Value.pointer (some ⟨b,o,none⟩)]).toArray) w:=by
  have:=M4 (P:=P) (f:=f) (args:=(xs.toList.map a.eval++[Value.pointer (some ⟨b,o,none⟩)]).toArray) (w:=w) hf.1
  simp only [execOp,resolve,hgv,Deferred.ofValue,Sem.run_bind,Sem.run_pure,Result.andThen_ok,invoke]
  rw [show (#[]:Array Value)++Array.map a.eval xs++#[Value.pointer (some ⟨b,o,none⟩)]=(xs.toList.map a.eval++[Value.pointer (some ⟨b,o,none⟩)]).toArray by obtain ⟨l⟩:=xs;simp]
  exact this
 rw [he]
 refine hcalls.mono ?_
 rintro e w' ⟨v',rs,ob',G',rfl,⟨rfl,rfl⟩,hres,hs'⟩
 refine ⟨v',rfl,⟨hs'.os,hs'.tape,hs'.output,hs'.size,fun j hj=>hs'.keep j hj (fun e=>e)⟩,_,rfl,?_⟩
 have hres1:c0.rep (F0 (Mut S' [] G') w') v':=hres
 refine Cell.rep_mono (fun b i z hr=>⟨hr.1,fun hm=>hr.2 (.inl hm)⟩) _ _ hres1
theorem RetOk.s1 {fn:Func} {c:Cell} (h:RetOk P fn fr ob [.one c]):RetS P fn fr ob [.one (.p c)]:=fun S G a w hs=>let ⟨v,h1,h2⟩:=h S G a w hs;⟨v,h1,h2.sv⟩
theorem RetOk.s2 {fn:Func} {c c':Cell} (h:RetOk P fn fr ob [.one c,.one c']):RetS P fn fr ob [.one (.p c),.one (.p c')]:=fun S G a w hs=>let ⟨v,h1,h2⟩:=h S G a w hs;⟨v,h1,h2.sv⟩
end
end Go.AL
namespace Go.AL
open Go Go.RowKit
set_option linter.unusedVariables false
section
variable {P:Program} {dst:Option Tmp} {ty:TypeId} {pos:String} {af:Array Edge} {gd:Option (Nat × Bool)} {fr:Fr} {ob:Obs} {nt:Nat}
theorem G16 (k:Nat) {x y:Operand} {t tn e:TypeId} {ec bytes:Nat} {z:Value} {kn:IntKind} {n:Nat} [ht:TySl P t e ec bytes] [hn:TyInt P tn kn] [hz:TyZero P e z] (hx:opv fr x=some (I7 (.slice none 0 0))) (hy:opv fr y=some (I7 (.int .i64 n))) (h0:0 < n) (hbig:n≤1048576)
  (hk:C1 ob k=none) (hp:Nat.blt k 1000000=true) :
  EffV P ⟨dst,.call ⟨.builtin .append,#[x,y],#[t,tn]⟩,ty,pos,af,gd⟩ fr ob (.s (.one (.mut k))) (Fr.forget k fr) ((k,.grow e Unit ec (fun _ j=>.v (z.cells.getD j undef)) (List.replicate n ()))::Obs.forget k ob):=by
 intro S G a w h
 have hec:=ht.out.2.2.1
 cases hi:P.info? e with
 | none=>have:=hz.out.1;simp [hi] at this
 | some i =>
 have hiz:i.zero=some z:=by have:=hz.out.1;simpa [hi] using this
 have hsz:i.size=ec∧i.bytes=bytes:=by have:=ht.out.2.1;simpa [hi] using this
 have hb4:=ht.out.2.2.2.1
 have hzc:z.cells.size=ec:=by have:=ht.out.2.2.2.2;simpa [hi,hiz] using this
 have hmul:n*i.bytes≤1048576*4096:=Nat.mul_le_mul hbig (by rw [hsz.2];exact hb4)
 have hrun:=Lib.run_append_nil_zeros w t tn ty e i z .i64 kn ht.out.1 hn.out hi hiz n h0 (by rw [hsz.1];exact hec) (by omega) (by omega)
 obtain ⟨gc,hgc⟩:∃gc,gc=grownCap w n 0 e:=⟨_,rfl⟩
 have hge:=grownCap_ge w n 0 e
 have hcm:=grownCap_le_maxLen w n 0 e (by unfold maxLen;omega)
 rw [←hgc] at hrun hge hcm
 obtain ⟨cs,hcs⟩:∃cs,cs=Builtin.zeroCells z.cells n++Builtin.zeroCells z.cells (gc - n):=⟨_,rfl⟩
 rw [←hcs] at hrun
 obtain ⟨ws,hws⟩:∃ws,ws=(Builtin.zeroCells z.cells n).toList:=⟨_,rfl⟩
 have hwl:ws.length=n*ec:=by rw [hws,Array.length_toList,size_zeroCells,hzc]
 have hown:(w.drew.alloc (.cells cs e)).ownsRow S.B e ec (.slice (some ⟨w.heap.size,0,none⟩) n gc) n ws:=by
  refine ⟨hwl,.inr ⟨w.heap.size,gc,cs,rfl,h.size,heap_alloc_new w.drew _,hge,hcm,?_,?_⟩⟩
  ·rw [hcs,Array.size_append,size_zeroCells,size_zeroCells,hzc,←L22]
   congr 1
   omega
  ·rw [hcs,Array.toList_append,←hws,←hwl];exact List.take_left
 have hxw:Below w.heap.size w (w.drew.alloc (.cells cs e)):=⟨rfl,rfl,rfl,by simp,fun k hk=>heap_alloc_old w.drew _ hk⟩
 have hu:∀b,blk (.slice (some ⟨w.heap.size,0,none⟩) n gc)=some b→w.heap.size≤b:=by intro b hb;simp [blk] at hb;omega
 refine J9 (w':=w.drew.alloc (.cells cs e)) (v:=.slice (some ⟨w.heap.size,0,none⟩) n gc) (by simp [execOp,resolve,invoke,builtin,G5 h hx,G5 h hy,hrun]) ?_
 refine ⟨upd G k (.slice (some ⟨w.heap.size,0,none⟩) n gc),h.new (by simpa using hp) hk (o:=.grow e Unit ec (fun _ j=>.v (z.cells.getD j undef)) (List.replicate n ())) hxw hu ?_,(J2 _ _ _).symm,rfl⟩
 refine ⟨ws,by rw [L24];exact hown,by rw [L24];omega,fun i hi j hj=>?_⟩
 rw [L24] at hi
 have hlt:i*ec+j < n*ec:=by
  have:(i+1)*ec≤n*ec:=L13 _ hi
  rw [L22,Nat.one_mul] at this;omega
 have hmod:(i*ec+j) % ec=j:=by rw [Nat.add_comm,Nat.add_mul_mod_self_right];exact Nat.mod_eq_of_lt hj
 have hjz:j < z.cells.size:=by rw [hzc];exact hj
 have hgd:z.cells.getD j undef=z.cells[j]:=by rw [Array.getD_eq_getD_getElem?,Array.getElem?_eq_getElem hjz];rfl
 refine ⟨z.cells.getD j undef,?_,rfl,?_⟩
 ·rw [hws,hgd]
  simp only [Builtin.zeroCells,Array.toList_map,Array.toList_range,L51,hzc]
  rw [List.getElem?_range hlt,Option.map_some,hmod,getElem!_pos z.cells j hjz]
 ·rw [hgd]
  exact List.all_eq_true.1 hz.out.2 _ (by simp)
theorem K90 {k:Nat} {e:TypeId} {α:Type} (β:Type) {ec:Nat} {c:α→Nat→Cell} (c':β→Nat→Cell) (hk:C1 ob k=some (.grow e α ec c [])):Sees P nt fr ob fr ((k,.grow e β ec c' [])::ob):=by
 intro S G a w hn h
 refine ⟨G,h.retold (o':=.grow e β ec c' []) hk (fun b i ho=>⟨ho.1,trivial⟩) ?_⟩
 rintro rd ⟨vs,hown,_,_⟩
 exact ⟨vs,hown,by simp,fun i hi=>absurd hi (by simp)⟩
end
end Go.AL
namespace Go.AL
open Go Go.RowKit
set_option linter.unusedVariables false
section
variable {P:Program} {nt:Nat} {fr:Fr} {ob:Obs}
theorem K97 {t:Nat} (k:Nat) (α:Type) (ec:Nat) (c:α→Nat→Cell) (e:TypeId) (ht:E5 fr t=some (.s (.one (.p (.v (.slice none 0 0)))))) (hk:C1 ob k=none) (hp:Nat.blt k 1000000=true) :
  Sees P nt fr ob ((t,.s (.one (.buf k α ec c [])))::Fr.forget k fr) ((k,.spare 0 ec e)::Obs.forget k ob):=by
 intro S G a w hn h
 have h6:=h.new (by simpa using hp) (o:=.spare 0 ec e) (u:=.slice none 0 0) (w1:=w) hk (Below.refl _ _) (fun b hb=>by simp [blk] at hb) ⟨[],World.ownsRow_nil w _ _ _⟩
 refine ⟨_,{ h6 with facts:=fun i s hi=>?_ }⟩
 by_cases he:t=i
 ·subst he
  rw [E0] at hi
  cases hi
  have hv:=(h.facts _ _ ht).1
  rw [hv]
  exact ⟨(J2 _ _ _).symm,I4 α ec c⟩
 ·rw [C8 he] at hi
  exact h6.facts i s hi
def IdleFn (P:Program) (f:FuncId) (n:Nat):Prop :=
 ∀(vs:List Value) (w:World),vs.length=n→(callFunc f vs.toArray).run P w=.ok (.enter f vs.toArray) w∧CallsDIn Fence.wide 0 P f vs.toArray .returning w (fun e u' w'=>(∃v,e=.returned v)∧u'=.returning∧w'=w)
theorem IdleFn.idle {f:FuncId} {n:Nat} (h:IdleFn P f n) {vs:List Value} (hl:vs.length=n) (ds:List Deferred) (w:World) :
  Idle P ({ target:=.fn (.func f) vs.toArray,args:=#[] }::ds) ds w w:=by
 intro fn tmps R hR
 obtain ⟨hc,hd⟩:=h vs w hl
 refine ⟨by simp,.inr ⟨fun h=>by simp [Fence.wide] at h,.func f,vs.toArray,f,vs.toArray,rfl,?_,fun _ _=>trivial,?_⟩⟩
 ·simp only [invoke]
  rw [show (#[]:Array Value)++vs.toArray=vs.toArray by simp]
  exact hc
 ·refine CallsDIn.mono hd ?_
  rintro e u' w' ⟨⟨v,rfl⟩,rfl,rfl⟩
  exact hR
end
section
variable {P:Program} {dst:Option Tmp} {ty:TypeId} {pos:String} {af:Array Edge} {gd:Option (Nat × Bool)} {fr:Fr} {ob:Obs}
theorem J72 (k:Nat) {t e:TypeId} {ec bytes n:Nat} {parts:Array (Nat × Operand)} {α:Type} {c:α→Nat→Cell} {ys:List α} [ht:TySl P t e ec bytes] (hb:E78 fr ec c parts.toList 0 ys) (hn:parts.toList.length=n) (hbig:Nat.ble n 100000=true) (hecb:Nat.ble ec 100=true)
  (hk:C1 ob k=none) (hp0:Nat.blt k 1000000=true):EffV P ⟨dst,.buildSlice t n parts,ty,pos,af,gd⟩ fr ob (.s (.one (.mut k))) (Fr.forget k fr) ((k,.grow e α ec c ys)::Obs.forget k ob):=by
 intro S G a w h
 have hp0:k < 1000000:=by simpa using hp0
 have hn':n≤100000:=by simpa using hbig
 have hec':ec≤100:=by simpa using hecb
 have hmul:n*ec≤100000*100:=Nat.mul_le_mul hn' hec'
 obtain ⟨_,_,_,_,hzero⟩:=ht.out
 cases hi:P.info? e with
 | none=>simp [hi] at hzero
 | some i =>
 cases hz:i.zero with
 | none=>simp [hi,hz] at hzero
 | some z =>
 have hzv:(P.info? e).bind (·.zero)=some z:=by simp [hi,hz]
 let cs0:Array Value:=(Array.range (n*ec)).map ((if n*ec=0 then #[] else z.cells)[· % (if n*ec=0 then #[] else z.cells).size]!)
 have hcs0:cs0.size=n*ec:=by simp [cs0]
 obtain ⟨vs,hf,hvl,hyl,hv⟩:=C34 h parts.toList 0 ys cs0 hb (by rw [hcs0,hn,Nat.zero_add])
 simp only [Nat.zero_mul,List.take_zero,L37] at hf
 have hp:(parts.map fun x=>(x.1,a.eval x.2)).toList=parts.toList.map fun x=>(x.1,a.eval x.2):=by simp
 have hyn:ys.length=n:=by rw [hyl,hn]
 refine J9 (w':=w.alloc (.cells vs.toArray e)) (v:=.slice (some ⟨w.heap.size,0,none⟩) n n) ?_ ?_
 ·simp only [execOp]
  refine M6 ?_
  simp only [Instr.buildSlice,Sem.run_bind,run_underlying ht.out.1,Result.andThen_ok,J8 ht.size]
  rw [if_neg (by omega)]
  by_cases hz0:n*ec=0
  ·simp only [hz0,if_true,Sem.run_bind,Sem.run_pure,Result.andThen_ok]
   have hcs1:cs0=(Array.range 0).map ((#[]:Array Value)[· % (#[]:Array Value).size]!):=by simp only [cs0,hz0,if_true]
   rw [show (parts.map fun (x:Nat × Operand)=>match x with | (i,x)=>(i,a.eval x))=parts.map fun x=>(x.1,a.eval x.2) from rfl,hp,←hcs1,hf]
   simp [newRow]
  ·simp only [if_neg hz0,Sem.run_bind,T6 hzv,Sem.run_pure,Result.andThen_ok]
   have hcs1:cs0=(Array.range (n*ec)).map (z.cells[· % z.cells.size]!):=by simp only [cs0,if_neg hz0]
   rw [show (parts.map fun (x:Nat × Operand)=>match x with | (i,x)=>(i,a.eval x))=parts.map fun x=>(x.1,a.eval x.2) from rfl,hp,←hcs1,hf]
   simp [newRow]
 ·have hxw:Below w.heap.size w (w.alloc (.cells vs.toArray e)):=(Below.refl _ _).alloc (Nat.le_refl _) _
  have hu:∀b,blk (.slice (some ⟨w.heap.size,0,none⟩) n n)=some b→w.heap.size≤b:=by intro b hb;simp [blk] at hb;omega
  have hvn:vs.length=n*ec:=by rw [hvl,hn]
  have hown:(w.alloc (.cells vs.toArray e)).ownsRow S.B e ec (.slice (some ⟨w.heap.size,0,none⟩) n n) ys.length vs :=
   ⟨by rw [hvn,hyn],.inr ⟨w.heap.size,n,vs.toArray,by rw [hyn],h.size,heap_alloc_new w _,by rw [hyn];exact Nat.le_refl _,by unfold maxLen;omega,by simpa using hvn,by rw [hyn,←hvn];simp⟩⟩
  have hsim:=h.new hp0 hk (o:=.grow e α ec c ys) hxw hu ⟨vs,hown,by omega,fun m hm j hj=>by
   obtain ⟨zz,hz1,hz2⟩:=hv m hm j hj
   exact ⟨zz,hz1,Cell.rep_mono (fun _ _ _ hr=>h.rd_new hxw hu hr) _ _ hz2⟩⟩
  exact ⟨_,hsim,(J2 _ _ _).symm,rfl⟩
end
end Go.AL
namespace Go.AL
open Go Go.RowKit
set_option linter.unusedVariables false
section
variable {P:Program} {T:TypeId} {nt:Nat} {ops:Array Oper} {rest:List Oper} {fr:Fr} {ob:Obs} {Q:Post} {d:Nat}
theorem P1 {x:Operand} {ty:TypeId} {pos:String} {af:Array Edge} {dst:Option Tmp} {e:Int} (hx:opv fr x=some (I7 (.iface T (.int .i64 e)))) (h:Q (.panic (A89 T e)) fr ob) :
  WpL P nt ops (⟨dst,.panic x,ty,pos,af,none⟩::rest) fr ob Q:=by
 intro S G a w hn hs
 refine wpList_plain rfl fun K hK=>?_
 have hr:(execOp a.eval ⟨dst,.panic x,ty,pos,af,none⟩).run P w=.halt (.panic (.iface T (.int .i64 e))) w:=by
  simp only [execOp,G5 hs hx]
  rfl
 unfold Oper.wp
 rw [hr]
 exact ⟨fr,ob,G,h,.inl hs⟩
theorem MetX.introH {f:FuncId} {fn:Func} {c:Code} {args:List S1} {gf:Fr} {ks:List Nat} {post:List S1→Obs→Prop} {pan:Int→Obs→Prop} (hf:P.funcs[f]?=some fn) (hname:(fn.name == "runtime.NumGoroutine")=false) (hb:fn.body=some c) (hlen:Nat.ble args.length fn.ntmps=true) (hnb:Nat.ble fn.ntmps 1000000=true)
  (h6:High gf→WpC P fn.ntmps c (x8 0 args++gf) ob (metXP P T fn ks gf post pan)):MetX P T f args gf ob ks post pan :=
 ⟨⟨fn,hf,hname,by simp [hb]⟩,fun hgf=>(MetX.intro hf hname hb hlen hnb (h6 hgf)).2 hgf⟩
theorem I2 {ks:List Nat} {gf:Fr} {pan:Int→Obs→Prop} {e:Int} {ob':Obs} (hg:Tail (C0 ks gf) fr) (ho:∀k o,C1 ob' k=some o→C1 ob k=some o) (hp:pan e ob'):∃e2 ob2,A89 T e=A89 T e2∧Tail (C0 ks gf) fr∧(∀k o,C1 ob2 k=some o→C1 ob k=some o)∧pan e2 ob2 :=
 ⟨e,ob',rfl,hg,ho,hp⟩
theorem l_metXF {f:FuncId} {g:Operand} {xs:List Operand} {ats:Array TypeId} {ty:TypeId} {pos:String} {af:Array Edge} {nf nc:List (Nat × Nat)} {args:List S1} {ks:List Nat} {post:List S1→Obs→Prop} {pan:Int→Obs→Prop}
  (hf:MetX P T f (nf.map E90++args++nc.map E90) (shF fr) ob ks post pan) (hg:opv fr g=some (.s (.one (.clo f nf nc)))) (ha:p6 fr xs=some args) (hc:xs.all H8=true) (hd:Nat.blt d nt=true)
  (kp:∀e ob',pan e ob'→Q (.panic (A89 T e)) (C0 ks fr) ob')
  (kk:∀rs ob',post rs ob'→WpL P nt ops rest ((d,B98 rs)::C0 ks fr) ob' Q):WpL P nt ops (⟨some d,.call ⟨.value g,xs.toArray,ats⟩,ty,pos,af,none⟩::rest) fr ob Q:=by
 intro S G a w hn h
 obtain ⟨vs,ws,hgv,hvs,hws⟩:=J0 h hg
 have hvals:All2 (S1.rep (F0 (Mut S ob G) w) G) (nf.map E90++args++nc.map E90) (vs++xs.map a.eval++ws):=((C00 hvs).append (Z8 h xs args ha hc)).append (C00 hws)
 obtain ⟨gv,hgv2⟩:∃gv:Nat→Value,gv=fun i=>S.sl a (i - 1000000):=⟨_,rfl⟩
 let S':Ctx:={ S with gv:=gv }
 have hhigh:High (shF fr):=fun i s hi=>(U2 fr i s hi).1
 have hfacts0:∀i s,E5 (shF fr) i=some s→s.rep (F0 (Mut S' ob G) w) G (S'.sl a i):=by
  intro i s hi
  obtain ⟨h7,h8⟩:=U2 fr i s hi
  rw [Ctx.sl_ge h7]
  show s.rep _ _ (gv i)
  have e:=congrFun hgv2 i
  rw [e]
  exact h.facts (i - 1000000) s h8
 have hs:Sim P S' (shF fr) ob G a w:={ h with facts:=hfacts0 }
 have hcalls:=hf.2 hhigh S' G a w _ hs hvals
 have back:∀{ob':Obs} {G':Gh} {w':World},Sim P S' (C0 ks (shF fr)) ob' G' a w'→Sim P S (C0 ks fr) ob' G' a w':=by
  intro ob' G' w' hs'
  have hfacts:∀i s,E5 (C0 ks fr) i=some s→s.rep (F0 (Mut S ob' G') w') G' (S.sl a i):=by
   intro i s hi
   have h7:=hs'.facts (i+1000000) s (by rw [Y3];exact B49 hi)
   have h8:1000000≤i+1000000:=Nat.le_add_left _ _
   rw [Ctx.sl_ge h8] at h7
   have h7:s.rep (F0 (Mut S ob' G') w') G' (gv (i+1000000)):=h7
   have e:=congrFun hgv2 (i+1000000)
   simp only [Nat.add_sub_cancel] at e
   rw [e] at h7
   exact h7
  exact { hs' with facts:=hfacts }
 refine wpList_plain rfl fun K hK=>?_
 have he:(execOp a.eval ⟨some d,.call ⟨.value g,xs.toArray,ats⟩,ty,pos,af,none⟩).run P w=.ok (.enter f (vs++xs.map a.eval++ws).toArray) w:=by
  have:=M4 (P:=P) (f:=f) (args:=(vs++xs.map a.eval++ws).toArray) (w:=w) hf.1
  simp only [execOp,resolve,hgv,Deferred.ofValue,Sem.run_bind,Sem.run_pure,Result.andThen_ok,invoke]
  rw [show vs.toArray++Array.map a.eval xs.toArray++ws.toArray=(vs++xs.map a.eval++ws).toArray by simp]
  exact this
 unfold Oper.wp
 rw [he]
 refine hcalls.mono ?_
 rintro e w' (⟨v,rs,ob',G',rfl,hp,hres,hs'⟩ | ⟨c,ob',G',rfl,hp,hs'⟩)
 ·have hlt:d < S.nt:=by rw [hn];simpa using hd
  exact hK _ _ (kk rs ob' hp S G' _ w' hn ((back hs').put hlt hres))
 ·exact ⟨_,ob',G',kp c ob' hp,.inl (back hs')⟩
def IdleP (P:Program) (ch:List PanicEntry) (ds ds0:List Deferred) (w w':World):Prop :=
 ∀(fn:Func) (tmps:Array Value) (R:Ending→World→Prop),LeavesInM Fence.wide 0 P fn tmps R ds0 .returning w'→LeavesInM Fence.wide 0 P fn tmps R ds (.panicking ch) w
def RecOf (P:Program) (S:Ctx) (Q:Post) (e:Exit) (a:Act) (w:World):Prop :=
 PostOf P S Q e a w∨∃ch fr ob G ds w',e=.panic ch∧a.defers=ds∧Q .ret fr ob∧Sim P { S with df:=ds } fr ob G a w'∧IdleP P ch ds S.df w w'
def RawC (P:Program) (nt:Nat) (c:Code) (fr:Fr) (ob:Obs) (Q:Post):Prop :=
 ∀S G a w,S.nt=nt→Sim P S fr ob G a w→c.wp P (RecOf P S Q) a w
theorem RawC.of {c:Code} (h:WpC P nt c fr ob Q):RawC P nt c fr ob Q:=fun S G a w hn hs=>wp_mono (h S G a w hn hs) fun _ _ _ hq=>.inl hq
theorem J34 {x y:Code} (h:WpC P nt x fr ob (B79 (fun fr ob=>RawC P nt y fr ob Q) Q)):RawC P nt (.seq x y) fr ob Q:=by
 intro S G a w hn hs
 refine wp_seq (wp_mono (h S G a w hn hs) ?_)
 rintro e a' w' ⟨fr',ob',G',hq,hs'⟩
 cases e with
 | normal=>exact hq S G' a' w' hn (hs'.resolve_right fun h=>nomatch h.1)
 | _=>exact .inl ⟨fr',ob',G',hq,hs'⟩
theorem K92 {f:FuncId} {fn:Func} {c:Code} {args:List PV} {post:List PV→Prop} (hf:P.funcs[f]?=some fn) (hname:(fn.name == "runtime.NumGoroutine")=false) (hb:fn.body=some c) (hnt:fn.ntmps=nt) (hlen:Nat.ble args.length nt=true) (hnb:Nat.ble nt 1000000=true)
  (h:RawC P nt c (B94 0 args) [] (retP P fn post)):FnOk P f args post:=by
 refine ⟨⟨fn,hf,hname,by simp [hb]⟩,fun w M vals hg hM ha=>?_⟩
 have hle:args.length≤nt:=by simpa using hlen
 have hvl:vals.length=args.length:=ha.length.symm
 refine r7 hf hb ?_
 let S:Ctx:={ w0:=w,M0:=M,io:=fun _=>False,nt:=nt,pin:=fun _=>undef,gv:=fun _=>undef }
 have hM':∀b i,Mut S [] (fun _=>undef) b i↔M b i:=fun b i=>⟨fun h=>h.elim id fun ⟨k,o,hk,_⟩=>(by cases hk),.inl⟩
 have hrd:∀b i z,F0 M w b i z→F0 (Mut S [] (fun _=>undef)) w b i z:=fun b i z hr=>⟨hr.1,fun hm=>hr.2 ((hM' b i).1 hm)⟩
 have hs:Sim P S (B94 0 args) [] (fun _=>undef) { tmps:=vals.toArray++Array.replicate (fn.ntmps - vals.toArray.size) undef,defers:=[] } w:=by
  refine { nt:=by simp [hnt,S];omega,ntb:=by simpa using hnb,defers:=rfl,os:=rfl,tape:=rfl,output:=rfl,size:=Nat.le_refl _,keep:=fun _ _ _=>rfl,m0:=hM,m0io:=fun _ _ _=>id,grd:=hg,pin:=fun _ _=>rfl,old:=fun k o b hk=>(by cases hk),dis:=fun k k' o o' b hk=>(by cases hk),obs:=fun k o hk=>(by cases hk),facts:=?_ }
  intro i s hi
  obtain ⟨_,p,hp,rfl⟩:=C38 0 args i s hi
  obtain ⟨u,hu,hr⟩:=ha.get (i - 0) p hp
  have hlt:i < vals.length:=(List.getElem?_eq_some_iff.1 hu).1
  have hget:(vals.toArray++Array.replicate (fn.ntmps - vals.toArray.size) undef).getD i undef=u:=by
   rw [Array.getD_eq_getD_getElem?,Array.getElem?_append_left (by simpa using hlt)]
   simpa using congrArg (fun x=>x.getD undef) hu
  have hn6:nt≤1000000:=by simpa using hnb
  rw [Ctx.sl_lt (by omega),hget]
  exact PV.rep_s1 (PV.rep_mono hrd hr)
 refine wp_mono (h S _ _ w A0 hs) ?_
 have fin:∀{fr':Fr} {ob':Obs} {G':Gh} {a':Act},(∃rs,RetOk P fn fr' ob' rs∧post rs)→∀ds w',Sim P { S with df:=ds } fr' ob' G' a' w'→∃v,(results fn a'.tmps).run P w'=.ok v w'∧(∃v_1 rs,Ending.returned v=.returned v_1∧post rs∧ResRep (F0 M w') rs v_1∧Below w.heap.size w w'):=by
  rintro fr' ob' G' a' ⟨rs,hr,hp⟩ ds w' hs'
  obtain ⟨v,hv,hres⟩:=hr _ G' a' w' hs'
  refine ⟨v,hv,v,rs,rfl,hp,hres.mono (fun b i z hz=>⟨hz.1,fun hm=>hz.2 (.inl hm)⟩),⟨hs'.os,hs'.tape,hs'.output,hs'.size,fun k hk=>hs'.keep k hk id⟩⟩
 rintro e a' w' (⟨fr',ob',G',hq,hs'⟩ | ⟨ch,fr',ob',G',ds,w2,rfl,hd,hq,hs',hi⟩)
 ·cases e with
  | normal=>exact hs'.leave rfl (fin hq)
  | ret=>exact hs'.leave rfl (fin hq)
  | _=>exact hq.elim
 ·have:=hi fn a'.tmps (fun e w'=>∃v rs,e=.returned v∧post rs∧ResRep (F0 M w') rs v∧Below w.heap.size w w') (fin hq ds w2 hs')
  show LeavesInM Fence.wide 0 P fn a'.tmps _ a'.defers _ w'
  rw [hd];exact this
def G70 (fr:Fr):Fr:=fr.filter fun p=>Nat.blt p.1 1000000
theorem B08:∀{fr:Fr} {i:Nat} {s:SV},E5 (G70 fr) i=some s→i < 1000000∧E5 fr i=some s
 | [],_,_,h=>by cases h
 | (j,x)::r,i,s,h=>by
  by_cases hj:j < 1000000
  ·unfold G70 at h
   rw [List.filter_cons_of_pos (by simpa using hj)] at h
   by_cases e:j=i
   ·subst e;rw [E0] at h ⊢;exact ⟨hj,h⟩
   ·rw [C8 e] at h ⊢;exact B08 h
  ·unfold G70 at h
   rw [List.filter_cons_of_neg (by simpa using hj)] at h
   have h2:=B08 (fr:=r) h
   have e:j≠i:=fun e=>hj (e ▸ h2.1)
   rw [C8 e];exact h2
def RecFn (P:Program) (T:TypeId) (f:FuncId) (t1 t2:TypeId):Prop :=
 ∀(p1 p2:Value) (e:Int) (w w1 w2:World),(Instr.storeAt t1 p1 (.slice none 0 0)).run P w=.ok () w1→(Instr.storeAt t2 p2 (.int .i64 e)).run P w1=.ok () w2 →
  (callFunc f #[p1,p2]).run P w=.ok (.enter f #[p1,p2]) w∧CallsDIn Fence.wide 0 P f #[p1,p2] (.panicking (A89 T e)) w (fun en u' w'=>(∃v,en=.returned v)∧settle u'=.returning∧w'=w2)
def recQ (T:TypeId) (k1 k2 i1 i2:Nat) (Q:Post):Post
 | .ret,fr,ob=>Q .ret (G70 fr) ob
 | .panic ch,fr,ob=>∃e c1 c2,ch=A89 T e∧E5 fr 1000001=some (.s (.one (.ref k1 0)))∧E5 fr 1000002=some (.s (.one (.ref k2 0)))∧c9 fr i1=some (.s (.one (.ref k1 0)))∧c9 fr i2=some (.s (.one (.ref k2 0))) ∧
   C1 ob k1=some (.box [c1])∧C1 ob k2=some (.box [c2])∧k1≠k2∧Q .ret (G70 fr) ((k2,.box [.p (.v (.int .i64 e))])::(k1,.box [.p (.v (.slice none 0 0))])::ob)
 | _,_,_=>False
theorem D29 {t:TypeId} {x y:Operand} {ty:TypeId} {pos:String} {af:Array Edge} {gd:Option (Nat × Bool)} {fr':Fr} {ob':Obs} (h:Eff P ⟨none,.store t x y,ty,pos,af,gd⟩ fr ob fr' ob') {S:Ctx} {G:Gh} {a:Act} {w:World} (hs:Sim P S fr ob G a w) :
  ∃w',(Instr.storeAt t (a.eval x) (a.eval y)).run P w=.ok () w'∧∃G',Sim P S fr' ob' G' a w':=by
 have h1:=h S G a w hs
 unfold Does at h1
 simp only [execOp,Sem.run_bind,Sem.run_pure] at h1
 cases hr:(Instr.storeAt t (a.eval x) (a.eval y)).run P w with
 | ok u w' =>
  rw [hr] at h1
  exact ⟨w',rfl,h1⟩
 | halt e w' =>
  rw [hr] at h1
  exact h1.elim
theorem J35:∀{fr:Fr},fr.all (fun p=>Nat.blt p.1 1000000)=true→∀i s,E5 fr i=some s→i < 1000000
 | [],_,_,_,h=>by cases h
 | (j,x)::r,hl,i,s,h=>by
  rw [List.all_cons,L02] at hl
  by_cases e:j=i
  ·subst e;simpa using hl.1
  ·rw [C8 e] at h
   exact J35 hl.2 i s h
theorem I47 {id t f:Nat} {caps:List Operand} {k1 k2 i1 i2:Nat} {t1 t2:TypeId} {ty1 ty2:TypeId} {pos1 pos2:String} {af1 af2:Array Edge} {ats:Array TypeId} {rest:Code}
  (h2:B99 fr caps=some [(k1,0),(k2,0)]) (hd:Nat.blt t nt=true) (hlow:fr.all (fun p=>Nat.blt p.1 1000000)=true) (hf:IdleFn P f 2) (hrec:RecFn P T f t1 t2) (hz1:(P.info? t1).map (·.size)=some 1) (hz2:(P.info? t2).map (·.size)=some 1)
  (k:WpC P nt rest ((1000001,.s (.one (.ref k1 0)))::(1000002,.s (.one (.ref k2 0)))::(t,.s (.one (.clo f [] [(k1,0),(k2,0)])))::fr) ob (recQ T k1 k2 i1 i2 Q)) :
  RawC P nt (.seq (.region id #[⟨some t,.makeFunc (.func f) #[] caps.toArray,ty1,pos1,af1,none⟩,⟨none,.defer ⟨.value (.tmp t),#[],ats⟩,ty2,pos2,af2,none⟩] false) rest) fr ob Q:=by
 intro S G a w hn hs
 refine wp_seq (wp_region_lit (l:=[_,_]) ?_)
 refine wpList_plain A0 fun K hK=>M9 (Y7 (P:=P) (first:=[]) (cap:=caps) (nf:=[]) (nc:=[(k1,0),(k2,0)]) A0 h2 S G a w hs) ?_
 rintro v w' ⟨hx,s,rfl,hv⟩
 have hlt:t < S.nt:=by rw [hn];simpa using hd
 have hsA:=(hs.ext hx).put hlt hv
 refine hK _ _ ?_
 refine wpList_plain rfl fun K' hK'=>?_
 obtain ⟨us,vs,rfl,hu,hvs⟩:=hv
 have hus:us=[]:=by cases us with | nil=>rfl | cons _ _=>exact hu.elim
 subst hus
 obtain ⟨p1,p2,rfl⟩:∃p1 p2,vs=[p1,p2]:=by
  match vs,hvs with
  | [p1,p2],_=>exact ⟨p1,p2,rfl⟩
  | [],h=>exact h.elim
  | [_],h=>exact h.2.elim
  | _::_::_::_,h=>exact h.2.2.elim
 have hp1:A31 G (k1,0) p1:=hvs.1
 have hp2:A31 G (k2,0) p2:=hvs.2.1
 have hev:(a.put (some t) (.func (.func f) (List.toArray []) [p1,p2].toArray)).eval (.tmp t)=.func (.func f) #[] [p1,p2].toArray:=by
  have hsz:t < a.tmps.size:=by rw [hs.nt];exact hlt
  simp [Act.eval,Act.put,hsz]
 unfold Oper.wp
 have hrun:(execOp (a.put (some t) (.func (.func f) (List.toArray []) [p1,p2].toArray)).eval ⟨none,.defer ⟨.value (.tmp t),#[],ats⟩,ty2,pos2,af2,none⟩).run P w'=.ok (.defer { target:=.fn (.func f) [p1,p2].toArray,args:=#[] }) w':=by
  simp [execOp,resolve,hev,Deferred.ofValue,Sem.run_bind,Sem.run_pure,Result.andThen_ok]
 rw [hrun]
 refine hK' _ _ ?_
 refine wpList_nil ?_
 obtain ⟨dd,hdd⟩:∃d:Deferred,d={ target:=.fn (.func f) [p1,p2].toArray,args:=#[] }:=⟨_,rfl⟩
 rw [←hdd]
 have hsB:Sim P { S with df:=dd::S.df } ((t,.s (.one (.clo f [] [(k1,0),(k2,0)])))::fr) ob G { tmps:=(a.put (some t) (.func (.func f) (List.toArray []) [p1,p2].toArray)).tmps,defers:=dd::a.defers } w' :=
  { hsA with defers:=by show dd::a.defers=dd::S.df;rw [hs.defers] }
 obtain ⟨gv,hgv⟩:∃gv:Nat→Value,gv=fun i=>if i=1000001 then p1 else if i=1000002 then p2 else S.gv i:=⟨_,rfl⟩
 have hgv1:gv 1000001=p1:=by rw [hgv];simp
 have hgv2:gv 1000002=p2:=by rw [hgv];simp
 let S':Ctx:={ S with df:=dd::S.df,gv:=gv }
 have hntb:=hs.ntb
 have hsC:Sim P S' ((1000001,.s (.one (.ref k1 0)))::(1000002,.s (.one (.ref k2 0)))::(t,.s (.one (.clo f [] [(k1,0),(k2,0)])))::fr) ob G { tmps:=(a.put (some t) (.func (.func f) (List.toArray []) [p1,p2].toArray)).tmps,defers:=dd::a.defers } w':=by
  refine { hsB with facts:=fun i s hi=>?_ }
  by_cases e1:1000001=i
  ·subst e1
   rw [E0] at hi
   cases hi
   rw [Ctx.sl_ge (by omega)]
   show SV.rep _ G _ (gv 1000001)
   rw [hgv1];exact hp1
  rw [C8 e1] at hi
  by_cases e2:1000002=i
  ·subst e2
   rw [E0] at hi
   cases hi
   rw [Ctx.sl_ge (by omega)]
   show SV.rep _ G _ (gv 1000002)
   rw [hgv2];exact hp2
  rw [C8 e2] at hi
  have hil:i < 1000000:=by
   by_cases e3:t=i
   ·omega
   ·rw [C8 e3] at hi;exact J35 hlow i s hi
  have h1:=hsB.facts i s hi
  rw [Ctx.sl_lt hil] at h1 ⊢
  exact h1
 have back:∀{ds:List Deferred} {fr:Fr} {ob:Obs} {G:Gh} {a:Act} {w:World},Sim P { S' with df:=ds } fr ob G a w→Sim P { S with df:=ds } (G70 fr) ob G a w:=by
  intro ds fr ob G a w h
  refine { h with facts:=fun i s hi=>?_ }
  obtain ⟨hil,hi⟩:=B08 hi
  have h1:=h.facts i s hi
  rw [Ctx.sl_lt hil] at h1 ⊢
  exact h1
 refine wp_mono (k S' G _ w' hn hsC) ?_
 rintro e a2 w2 ⟨fr2,ob2,G2,hq,hx2⟩
 cases e with
 | ret =>
  refine .inl ⟨G70 fr2,ob2,G2,hq,.inr ⟨rfl,?_⟩⟩
  have hid:∀w,Idle P (dd::S.df) S.df w w:=fun w=>by rw [hdd];exact hf.idle rfl S.df w
  rcases hx2 with h | ⟨_,ds,w3,h,hi⟩
  ·exact ⟨dd::S.df,w2,back (ds:=dd::S.df) h,hid w2⟩
  ·exact ⟨ds,w3,back h,fun fn tmps R hR=>hi fn tmps R (hid w3 fn tmps R hR)⟩
 | panic ch =>
  obtain ⟨e,c1,c2,rfl,g1,g2,g3,g4,o1,o2,hne,hQ⟩:=hq
  have hx:=hx2.resolve_right fun h=>nomatch h.1
  have q1:A31 G2 (k1,0) p1:=by
   have h1:=hx.facts _ _ g1
   rw [Ctx.sl_ge (by omega)] at h1
   have h1:SV.rep _ G2 _ (gv 1000001):=h1
   rw [hgv1] at h1;exact h1
  have q2:A31 G2 (k2,0) p2:=by
   have h1:=hx.facts _ _ g2
   rw [Ctx.sl_ge (by omega)] at h1
   have h1:SV.rep _ G2 _ (gv 1000002):=h1
   rw [hgv2] at h1;exact h1
  have r1:A31 G2 (k1,0) (a2.eval (.tmp i1)):=by
   have h1:A31 G2 (k1,0) (a2.tmps.getD i1 undef):=hx.slot g3
   rw [show a2.eval (.tmp i1)=a2.tmps.getD i1 undef by simp [Act.eval]]
   exact h1
  have r2:A31 G2 (k2,0) (a2.eval (.tmp i2)):=by
   have h1:A31 G2 (k2,0) (a2.tmps.getD i2 undef):=hx.slot g4
   rw [show a2.eval (.tmp i2)=a2.tmps.getD i2 undef by simp [Act.eval]]
   exact h1
  have e1:a2.eval (.tmp i1)=p1:=by
   obtain ⟨b,x1,x2⟩:=q1
   obtain ⟨b',y1,y2⟩:=r1
   rw [x1] at y1;cases y1
   rw [y2,x2]
  have e2:a2.eval (.tmp i2)=p2:=by
   obtain ⟨b,x1,x2⟩:=q2
   obtain ⟨b',y1,y2⟩:=r2
   rw [x1] at y1;cases y1
   rw [y2,x2]
  obtain ⟨wA,hA,GA,hsA2⟩:=D29 (B9 (P:=P) (ty:=0) (pos := "") (af:=#[]) (gd:=none) (t:=t1) (x:=.tmp i1) (y:=.const (.slice none 0 0)) (k:=k1) (o:=0) (n:=1) hz1 g3 o1 rfl rfl rfl rfl) hx
  obtain ⟨wB,hB,GB,hsB2⟩:=D29 (B9 (P:=P) (ty:=0) (pos := "") (af:=#[]) (gd:=none) (t:=t2) (x:=.tmp i2) (y:=.const (.int .i64 e)) (k:=k2) (o:=0) (n:=1) hz2 g4 (by rw [B4 hne];exact o2) rfl rfl rfl rfl) hsA2
  obtain ⟨hc,hcd⟩:=hrec p1 p2 e w2 wA wB (by rw [←e1];exact hA) (by rw [←e2];exact hB)
  refine .inr ⟨A89 T e,G70 fr2,(k2,.box [.p (.v (.int .i64 e))])::(k1,.box [.p (.v (.slice none 0 0))])::ob2,GB,dd::S.df,wB,rfl,hx.defers,hQ,back (ds:=dd::S.df) hsB2,?_⟩
  intro fn tmps R hR
  refine ⟨by simp,.inr ⟨fun h=>by simp [Fence.wide] at h,.func f,[p1,p2].toArray,f,[p1,p2].toArray,by rw [hdd],?_,fun _ _=>trivial,?_⟩⟩
  ·rw [hdd]
   simp only [invoke]
   rw [show (#[]:Array Value)++[p1,p2].toArray=[p1,p2].toArray by simp]
   exact hc
  ·refine CallsDIn.mono hcd ?_
   rintro en u' w' ⟨⟨v,rfl⟩,hset,rfl⟩
   show LeavesInM _ _ _ _ _ _ _ (settle u') _
   rw [hset];exact hR
 | _=>exact hq.elim
end
end Go.AL
namespace Go.AL
open Go Go.RowKit
set_option linter.unusedVariables false
section
variable {P:Program} {dst:Option Tmp} {ty:TypeId} {pos:String} {af:Array Edge} {gd:Option (Nat × Bool)} {fr:Fr} {ob:Obs} {nt:Nat}
theorem f_makeG (k:Nat) {t e:TypeId} {ec bytes:Nat} {x y:Operand} {kx ky:IntKind} {n:Int} (α:Type) (c:α→Nat→Cell) (y0:α) {z:Value} [ht:TySl P t e ec bytes] [hzz:TyZero P e z]
  (hx:opv fr x=some (I7 (.int kx n))) (hy:opv fr y=some (I7 (.int ky n))) (h0:0≤n) (hn:n≤1073741824)
  (hy0:∀rd:Rd,All2 (Cell.rep rd) (cellsOf c y0 0 ec) z.cells.toList) (hf:(K4 k fr&&L0 k ob)=true) :
  EffV P ⟨dst,.makeSlice t x y,ty,pos,af,gd⟩ fr ob (.s (.one (.mut k))) fr ((k,.grow e α ec c (List.replicate n.toNat y0))::ob):=by
 simp only [L02] at hf
 obtain ⟨hf1,hf2⟩:=hf
 obtain ⟨hob,hk,hp0⟩:=H9 hf2
 have hfr:=b9 hf1
 have hz:((P.info? e).bind (·.zero)).map (fun z=>z.cells.toList)=some z.cells.toList:=by rw [hzz.out.1];rfl
 intro S G a w h
 obtain ⟨hts,hinfo,hec,hby,hzero⟩:=ht.out
 cases hi:P.info? e with
 | none=>simp [hi] at hinfo
 | some i =>
 simp [hi] at hinfo
 obtain ⟨hsz,hbytes⟩:=hinfo
 cases hz2:i.zero with
 | none=>simp [hi,hz2] at hzero
 | some z2 =>
 simp [hi,hz2] at hzero hz
 have hbig:(i.bytes:Int)*n≤281474976710656:=by
  have h1:(i.bytes:Int)≤4096:=by omega
  have h2:(i.bytes:Int)*n≤4096*1073741824:=by
   have:i.bytes*n.toNat≤4096*1073741824:=Nat.mul_le_mul (by omega) (by omega)
   have h3:((i.bytes*n.toNat:Nat):Int)≤((4096*1073741824:Nat):Int):=by exact_mod_cast this
   rw [Int.natCast_mul] at h3
   have h4:(n.toNat:Int)=n:=by omega
   rw [h4] at h3
   omega
  omega
 have hr:=run_make (P:=P) w t e i z2 hts hi hz2 kx ky n n h0 (Int.le_refl _) hbig (by omega)
 rw [hsz] at hr
 obtain ⟨cs,hcs⟩:∃cs,cs=madeCells z2.cells (n.toNat*ec):=⟨_,rfl⟩
 have hcl:cs.size=n.toNat*ec:=by rw [hcs];exact size_madeCells _ _
 rw [←hcs] at hr
 refine J9 (w':=w.alloc (.cells cs e)) (v:=.slice (some ⟨w.heap.size,0,none⟩) n.toNat n.toNat) ?_ ?_
 ·simp only [execOp,G5 h hx,G5 h hy]
  exact M6 hr
 ·have hxw:Below w.heap.size w (w.alloc (.cells cs e)):=(Below.refl _ _).alloc (Nat.le_refl _) _
  have hu:∀b,blk (.slice (some ⟨w.heap.size,0,none⟩) n.toNat n.toNat)=some b→w.heap.size≤b:=by intro b hb;simp [blk] at hb;omega
  have hrl:(List.replicate n.toNat y0).length=n.toNat:=L24
  have hown:(w.alloc (.cells cs e)).ownsRow S.B e ec (.slice (some ⟨w.heap.size,0,none⟩) n.toNat n.toNat) (List.replicate n.toNat y0).length cs.toList:=by
   rw [hrl]
   exact ⟨by simpa using hcl,.inr ⟨w.heap.size,n.toNat,cs,rfl,h.size,heap_alloc_new w _,Nat.le_refl _,by unfold maxLen;omega,hcl,(by rw [←hcl];exact L08)⟩⟩
  have hsim:=h.new hp0 hk (o:=.grow e α ec c (List.replicate n.toNat y0)) (u:=.slice (some ⟨w.heap.size,0,none⟩) n.toNat n.toNat) hxw hu ⟨cs.toList,hown,by rw [hrl];omega,fun m hm j hj=>by
   have hm':m < n.toNat:=by simpa using hm
   have hzl:=hy0 (F0 (Mut S ((k,Ob.grow e α ec c (List.replicate n.toNat y0))::Obs.forget k ob) (upd G k (.slice (some ⟨w.heap.size,0,none⟩) n.toNat n.toNat))) (w.alloc (.cells cs e)))
   have hget:(cellsOf c y0 0 ec)[j]?=some (c y0 j):=by
    have hlt:j < (cellsOf c y0 0 ec).length:=by rw [L6];exact hj
    rw [L01 hlt]
    have:=V3 c y0 ec 0 j _ (L01 hlt)
    rw [this.1,Nat.zero_add]
   obtain ⟨u,hu1,hu2⟩:=hzl.get j _ hget
   refine ⟨u,?_,by simpa using hu2⟩
   rw [Array.getElem?_toList,hcs,C66 hzero hm' hj,←Array.getElem?_toList,hz]
   exact hu1⟩
  rw [hfr,hob] at hsim
  exact ⟨_,hsim,(J2 _ _ _).symm,rfl⟩
end
theorem J73 {rd:Rd} {G:Gh} {v:Value}:∀(rs:List PV),(D24 rs).rep rd G v→ResRep rd rs v:=by
 have pur:∀cs:List Cell,A47 (cs.map TC.p)=some cs:=fun cs=>by
  induction cs with
  | nil=>rfl
  | cons c cs ih=>rw [L16,A47,ih];rfl
 have key:∀{p:PV} {u:Value},(p.s1).rep rd G u→p.rep rd u:=fun {p u} h=>by
  cases p with
  | one c=>exact h
  | agg cs =>
   obtain ⟨vs,h1,h2⟩:=h
   exact ⟨vs,h1,p5 (pur cs) h2⟩
 have all:∀(ps:List PV) (us:List Value),All2 (S1.rep rd G) (ps.map PV.s1) us→All2 (PV.rep rd) ps us:=fun ps=>by
  induction ps with
  | nil=>intro us h;cases us with | nil=>trivial | cons=>exact h.elim
  | cons p ps ih =>
   intro us h
   cases us with
   | nil=>exact h.elim
   | cons u us=>exact ⟨key h.1,ih us h.2⟩
 intro rs h
 match rs,h with
 | [p],h=>exact key h
 | [],⟨us,h1,h2⟩=>exact ⟨us,h1,all [] us h2⟩
 | p::q::r,⟨us,h1,h2⟩=>exact ⟨us,h1,all (p::q::r) us h2⟩
theorem FnOk.ofMet {P:Program} {f:FuncId} {args:List PV} {ks:List Nat} {mp:List S1→Obs→Prop} {post:List PV→Prop} (h:Met P f (args.map PV.s1) [] [] ks mp)
  (hp:∀rs ob',mp rs ob'→∃(k:Nat) (α:Type) (ec:Nat) (c:α→Nat→Cell) (xs:List α) (e:TypeId) (rs':List PV),ob'=[(k,.grow e α ec c xs)]∧Nat.blt 0 ec=true∧(B98 rs).freeze k α ec c xs=D24 rs'∧post rs'):FnOk P f args post:=by
 refine ⟨h.1,fun w M vals hg hM ha=>?_⟩
 let S:Ctx:={ w0:=w,M0:=M,io:=fun _=>False,nt:=0,pin:=fun _=>undef,gv:=fun _=>undef }
 obtain ⟨G,hG⟩:∃G:Gh,G=fun _=>undef:=⟨_,rfl⟩
 obtain ⟨a,ha0⟩:∃a:Act,a={ tmps:=#[],defers:=[] }:=⟨_,rfl⟩
 have hM':∀G b i,Mut S [] G b i↔M b i:=fun G b i=>⟨fun h=>h.elim id fun ⟨k,o,hk,_⟩=>(by cases hk),.inl⟩
 have hrd:∀G b i z,F0 M w b i z→F0 (Mut S [] G) w b i z:=fun G b i z hr=>⟨hr.1,fun hm=>hr.2 ((hM' G b i).1 hm)⟩
 have hs:Sim P S [] [] G a w:=by
  refine { nt:=by rw [ha0];rfl,ntb:=by show 0≤1000000;omega,defers:=by rw [ha0],os:=rfl,tape:=rfl,output:=rfl,size:=Nat.le_refl _,keep:=fun _ _ _=>rfl,m0:=hM,m0io:=fun _ _ _=>id,grd:=hg,pin:=fun _ _=>by rw [hG],old:=fun k o b hk=>(by cases hk),dis:=fun k k' o o' b hk=>(by cases hk),obs:=fun k o hk=>(by cases hk),facts:=fun i s hi=>by cases hi }
 have hvals:All2 (S1.rep (F0 (Mut S [] G) w) G) (args.map PV.s1) vals:=by
  have:∀(ps:List PV) (vs:List Value),All2 (PV.rep (F0 M w)) ps vs→All2 (S1.rep (F0 (Mut S [] G) w) G) (ps.map PV.s1) vs:=by
   intro ps
   induction ps with
   | nil=>intro vs h;cases vs with | nil=>trivial | cons=>exact h.elim
   | cons p ps ih =>
    intro vs h
    cases vs with
    | nil=>exact h.elim
    | cons v vs=>exact ⟨PV.rep_s1 (PV.rep_mono (hrd G) h.1),ih vs h.2⟩
  exact this args vals ha
 refine (h.2 (fun i s hi=>by cases hi) S G a w vals hs hvals).mono ?_
 rintro e w' ⟨v,rs,ob',G',rfl,hpost,hres,hs'⟩
 obtain ⟨k,α,ec,c,xs,el,rs',rfl,hec,hfr,hpp⟩:=hp rs ob' hpost
 have hs2:Sim P { S with gv:=fun _=>v } [(1000000,B98 rs)] [(k,.grow el α ec c xs)] G' a w':=by
  refine { hs' with facts:=fun i s hi=>?_ }
  by_cases e:1000000=i
  ·subst e
   rw [E0] at hi
   cases hi
   rw [Ctx.sl_ge (Nat.le_refl _)]
   exact hres
  ·rw [C8 e] at hi;cases hi
 have h3:=hs2.freezeG (k:=k) (by rw [C4]) (by simpa using hec)
 have h4:=h3.facts 1000000 (SV.freeze k α ec c xs (B98 rs)) (E0 _ _ _)
 rw [Ctx.sl_ge (Nat.le_refl _),hfr] at h4
 have h5:=J73 rs' h4
 refine ⟨v,rs',rfl,hpp,h5.mono (fun b i z hz=>⟨hz.1,fun hm=>hz.2 (.inl hm)⟩),⟨hs'.os,hs'.tape,hs'.output,hs'.size,fun k hk=>hs'.keep k hk id⟩⟩
end Go.AL
namespace Go.AL
open Go Go.RowKit
set_option linter.unusedVariables false
def FreeKs (ks:List Nat) (fr:Fr):Prop:=∀k,G4 ks k=true→K4 k fr=true
theorem FreeKs.nil {ks:List Nat}:FreeKs ks []:=fun _ _=>rfl
theorem FreeKs.cons {ks:List Nat} {i:Nat} {s:SV} {fr:Fr} (h1:∀k,G4 ks k=true→s.free k=true) (h2:FreeKs ks fr):FreeKs ks ((i,s)::fr):=fun k hk=>by
 simp only [K4,L02]
 exact ⟨h1 k hk,h2 k hk⟩
theorem F04 {k:Nat}:∀{F:Fr},(∀p∈F,p.2.free k=true)→K4 k F=true
 | [],_=>rfl
 | (i,s)::r,h=>by
  simp only [K4,L02]
  exact ⟨h (i,s) (List.mem_cons_self ..),F04 fun p hp=>h p (List.mem_cons_of_mem _ hp)⟩
theorem FreeKs.gf {ks K:List Nat} {gf:Fr} (h:∀k,G4 ks k=true→G4 K k=true):FreeKs ks (C0 K gf):=fun k hk=>F04 (m6 (h k hk))
theorem FreeKs.eq:∀{ks:List Nat} {fr:Fr},FreeKs ks fr→C0 ks fr=fr
 | [],_,_=>rfl
 | k::ks,fr,h=>by
  show C0 ks (Fr.forget k fr)=fr
  rw [b9 (h k (hasN_iff.2 (List.mem_cons_self ..)))]
  exact FreeKs.eq fun j hj=>h j (hasN_iff.2 (List.mem_cons_of_mem _ (hasN_iff.1 hj)))
section
variable {P:Program} {T:TypeId} {nt:Nat} {ops:Array Oper} {rest:List Oper} {fr:Fr} {ob:Obs} {Q:Post} {d:Nat}
theorem B54 {f:FuncId} {xs:List Operand} {ats:Array TypeId} {ty:TypeId} {pos:String} {af:Array Edge} {args:List S1} {ks:List Nat} {post:List S1→Obs→Prop}
  (hf:Met P f args (shF fr) ob ks post) (hfr:FreeKs ks fr) (ha:p6 fr xs=some args) (hc:xs.all H8=true) (hd:Nat.blt d nt=true)
  (kk:∀rs ob',post rs ob'→WpL P nt ops rest ((d,B98 rs)::fr) ob' Q):WpL P nt ops (⟨some d,.call ⟨.value (.func f),xs.toArray,ats⟩,ty,pos,af,none⟩::rest) fr ob Q :=
 L4 hf ha hc hd fun rs ob' hp=>by rw [hfr.eq];exact kk rs ob' hp
theorem M7 {f:FuncId} {xs:List Operand} {ats:Array TypeId} {ty:TypeId} {pos:String} {af:Array Edge} {args:List S1} {ks:List Nat} {post:List S1→Obs→Prop} {pan:Int→Obs→Prop}
  (hf:MetX P T f args (shF fr) ob ks post pan) (hfr:FreeKs ks fr) (ha:p6 fr xs=some args) (hc:xs.all H8=true) (hd:Nat.blt d nt=true)
  (kp:∀e ob',pan e ob'→Q (.panic (A89 T e)) fr ob')
  (kk:∀rs ob',post rs ob'→WpL P nt ops rest ((d,B98 rs)::fr) ob' Q):WpL P nt ops (⟨some d,.call ⟨.value (.func f),xs.toArray,ats⟩,ty,pos,af,none⟩::rest) fr ob Q :=
 l_metX hf ha hc hd (fun e ob' hp=>by rw [hfr.eq];exact kp e ob' hp) fun rs ob' hp=>by rw [hfr.eq];exact kk rs ob' hp
theorem H53 {f:FuncId} {g:Operand} {xs:List Operand} {ats:Array TypeId} {ty:TypeId} {pos:String} {af:Array Edge} {nf nc:List (Nat × Nat)} {args:List S1} {ks:List Nat} {post:List S1→Obs→Prop} {pan:Int→Obs→Prop}
  (hf:MetX P T f (nf.map E90++args++nc.map E90) (shF fr) ob ks post pan) (hfr:FreeKs ks fr) (hg:opv fr g=some (.s (.one (.clo f nf nc)))) (ha:p6 fr xs=some args) (hc:xs.all H8=true) (hd:Nat.blt d nt=true)
  (kp:∀e ob',pan e ob'→Q (.panic (A89 T e)) fr ob')
  (kk:∀rs ob',post rs ob'→WpL P nt ops rest ((d,B98 rs)::fr) ob' Q):WpL P nt ops (⟨some d,.call ⟨.value g,xs.toArray,ats⟩,ty,pos,af,none⟩::rest) fr ob Q :=
 l_metXF hf hg ha hc hd (fun e ob' hp=>by rw [hfr.eq];exact kp e ob' hp) fun rs ob' hp=>by rw [hfr.eq];exact kk rs ob' hp
theorem E58 (k:Nat):∀(K:List Nat) (fr:Fr),G4 K k=true→C0 K (Fr.forget k fr)=C0 K fr:=fun K fr h=>by rw [B51,A03 h]
theorem C70:∀{ks K:List Nat} {fr:Fr},(∀k,G4 ks k=true→G4 K k=true)→C0 K (C0 ks fr)=C0 K fr
 | [],_,_,_=>rfl
 | k::ks,K,fr,h=>by
  show C0 K (C0 ks (Fr.forget k fr))=_
  rw [C70 (ks:=ks) fun j hj=>h j (hasN_iff.2 (List.mem_cons_of_mem _ (hasN_iff.1 hj)))]
  exact E58 k K fr (h k (hasN_iff.2 (List.mem_cons_self ..)))
theorem Met.more {f:FuncId} {args:List S1} {gf:Fr} {ks K:List Nat} {post:List S1→Obs→Prop} (h:Met P f args gf ob ks post) (hk:∀k,G4 ks k=true→G4 K k=true):Met P f args gf ob K post :=
 ⟨h.1,fun hg S G a w vals hs ha=>(h.2 hg S G a w vals hs ha).mono fun e w' ⟨v,rs,ob',G',h1,h2,h3,h4⟩=>by
  refine ⟨v,rs,ob',G',h1,h2,h3,{ h4 with facts:=fun i s hi=>?_ }⟩
  rw [←C70 hk] at hi
  obtain ⟨s0,h5,h6⟩:=B52 hi
  exact h6 _ _ _ (h4.facts i s0 h5)⟩
theorem Met.conv {f:FuncId} {args:List S1} {gf:Fr} {ks:List Nat} {post post':List S1→Obs→Prop} (h:Met P f args gf ob ks post) (hp:∀rs ob',post rs ob'→∃ob'',post' rs ob''∧∀k o,C1 ob'' k=some o→C1 ob' k=some o):Met P f args gf ob ks post' :=
 ⟨h.1,fun hg S G a w vals hs ha=>(h.2 hg S G a w vals hs ha).mono fun e w' ⟨v,rs,ob',G',h1,h2,h3,h4⟩=>by
  obtain ⟨ob'',p1,p2⟩:=hp rs ob' h2
  refine ⟨v,rs,ob'',G',h1,p1,SV.rep_mono (fun b i z hz=>⟨hz.1,fun hm=>hz.2 ?_⟩) h3,h4.weakenO p2⟩
  rcases hm with hm | ⟨k,o,hk,ho⟩
  ·exact .inl hm
  ·exact .inr ⟨k,o,p2 k o hk,ho⟩⟩
end
end Go.AL
