/- The abstract logic, its third part. No project text. -/
import Derived.Test.YtbiadkkamhpdnaaGreatDoorAm
import Derived.Laws.StructEq
import Derived.Laws.Cover3
import Derived.MapKept
set_option linter.unusedSimpArgs false
attribute [local semireducible] Go.AL.Neu Go.AL.Eff Go.AL.EffV Go.AL.WpL Go.AL.WpC Go.AL.FnOk Go.AL.LexD Go.AL.Sees Go.AL.RetOk Go.AL.FnIo Go.AL.Met Go.AL.RetS
namespace Go.AL
open Go Go.RowKit
set_option linter.unusedVariables false
section
variable {P:Program} {nt:Nat} {ops:Array Oper}
def Told (U:Fr) (φ:Fa):Prop:=∀t s,D7 U t=some s→φ t=some s
def AnyC (P:Program) (nt:Nat) (ops:Array Oper) (T:Nat) (U:Fr) (ob ob':Obs) (E:Array Bool→Fa→Prop):Nat→Array Bool→Fa→Prop
 | 0,listed,φ=>(T∈Region.ready .any ops listed→Told U φ)∧T∈Region.ready .any ops listed∧(∀j∈Region.ready .any ops listed,j=T)∧E listed φ
 | fuel+1,listed,φ=>(T∈Region.ready .any ops listed→Told U φ)∧(∃p,p < T∧p∈Region.ready .any ops listed)∧∀i∈Region.ready .any ops listed,i≠T →
   ∃o s d,ops[i]?=some o∧o.dst=some d∧turns o.op=false∧YieldsN P nt ops o φ ob s∧YieldsN P nt ops o φ ob' s∧AnyC P nt ops T U ob ob' E fuel (listed.setIfInBounds i true) (W7 φ d s)
theorem AnyC.told {T:Nat} {U:Fr} {ob ob':Obs} {E:Array Bool→Fa→Prop} {fuel:Nat} {listed:Array Bool} {φ:Fa} (h:AnyC P nt ops T U ob ob' E fuel listed φ):T∈Region.ready .any ops listed→Told U φ:=by
 cases fuel<;>exact h.1
theorem B09 {fr:Fr} {ob:Obs} {dst:Option Tmp} {ty:TypeId} {pos:String} {af:Array Edge} {gd:Option (Nat × Bool)} {c x y:Operand} {b p:Bool} (hc:opv fr c=some (N0 b)) (hb:b=true) (hx:opv fr x=some (N0 p)) :
  Neu P ⟨dst,.pick c x y,ty,pos,af,gd⟩ fr ob (fun s'=>s'=N0 p) :=
 E8 fun S G a w h=>by
  have:=F6 h hc
  subst hb
  exact ⟨.bool p,by simp [execOp,this,asBool,F6 h hx],rfl,rfl⟩
theorem C13 {fr:Fr} {ob:Obs} {dst:Option Tmp} {ty:TypeId} {pos:String} {af:Array Edge} {gd:Option (Nat × Bool)} {c x y:Operand} {b p:Bool} (hc:opv fr c=some (N0 b)) (hb:b=false) (hx:opv fr y=some (N0 p)) :
  Neu P ⟨dst,.pick c x y,ty,pos,af,gd⟩ fr ob (fun s'=>s'=N0 p) :=
 E8 fun S G a w h=>by
  have:=F6 h hc
  subst hb
  exact ⟨.bool p,by simp [execOp,this,asBool,F6 h hx],rfl,rfl⟩
end
end Go.AL
namespace Go.AL
open Go Go.RowKit
end Go.AL
namespace Go.AL
open Go Go.RowKit
set_option linter.unusedVariables false
inductive CK | int (k:IntKind) | str | bool
def ckOf (P:Program) (t:TypeId):Option CK :=
 match P.underlying t with
 | some (.int k)=>some (.int k)
 | some .string=>some .str
 | some .bool=>some .bool
 | _=>none
def E57 (P:Program):Nat→List Field→List CK→Bool
 | _,[],[]=>true
 | i,f::fs,k::ks=>f.name != "_"&&(f.offset == i&&((match ckOf P f.type,k with | some (.int k),.int k'=>decide (k=k') | some .str,.str=>true | some .bool,.bool=>true | _,_=>false)&&E57 P (i+1) fs ks))
 | _,_,_=>false
class TyCmp (P:Program) (t:TypeId) (ks:outParam (List CK)):Prop where
 out:P.underlying t=some (.struct (P.fieldsOf t))∧(E57 P 0 (P.fieldsOf t).toList ks&&(!P.stoodInHeld t&&!P.eqGuardType P.depth t))=true
def ckV:CK→Value→Bool
 | .int k,.int k' _=>decide (k=k')
 | .str,.string _=>true
 | .bool,.bool _=>true
 | _,_=>false
def eqV:Value→Value→Bool
 | .int _ a,.int _ b=>a == b
 | .string a,.string b=>a.toList == b.toList
 | .bool a,.bool b=>a == b
 | _,_=>false
def D15:List CK→List Value→Bool
 | [],[]=>true
 | k::ks,v::vs=>ckV k v&&D15 ks vs
 | _,_=>false
def F21:List Value→List Value→Bool
 | u::us,v::vs=>eqV u v&&F21 us vs
 | _,_=>true
theorem C14 {P:Program} (d:Nat) (us vs:List Value):∀(fs:List Field) (ks:List CK) (i:Nat),E57 P i fs ks=true→i+ks.length=us.length→i+ks.length=vs.length→D15 ks (us.drop i)=true→D15 ks (vs.drop i)=true →
  ∀w:World,(Op.eqFields (d+1) us.toArray vs.toArray fs).run P w=.ok (F21 (us.drop i) (vs.drop i)) w
 | [],[],i,_,h1,h2,_,_,w=>by
  rw [J23 (by simp at h1;omega)]
  simp [Op.eqFields,F21]
 | [],_::_,_,h,_,_,_,_,_=>by simp [E57] at h
 | _::_,[],_,h,_,_,_,_,_=>by simp [E57] at h
 | f::fs,k::ks,i,h,h1,h2,h3,h4,w=>by
  simp only [E57,J18,bne_iff_ne,beq_iff_eq] at h
  obtain ⟨hn,ho,hk,hr⟩:=h
  have l1:i < us.length:=by simp at h1;omega
  have l2:i < vs.length:=by simp at h2;omega
  rw [J20 l1] at h3 ⊢
  rw [J20 l2] at h4 ⊢
  simp only [D15,J18] at h3 h4
  have ih:=C14 (P:=P) d us vs fs ks (i+1) hr (by simp at h1;omega) (by simp at h2;omega) h3.2 h4.2
  have key:∀w:World,(part f.type us.toArray f.offset).run P w=.ok us[i] w∧(part f.type vs.toArray f.offset).run P w=.ok vs[i] w∧(Op.equalIn (d+1) f.type us[i] vs[i]).run P w=.ok (eqV us[i] vs[i]) w:=by
   intro w
   have e1:us.toArray[f.offset]?=some us[i]:=by rw [ho];simp [l1]
   have e2:vs.toArray[f.offset]?=some vs[i]:=by rw [ho];simp [l2]
   have q3:=h3.1
   have q4:=h4.1
   unfold ckOf at hk
   generalize us[i]=u at *
   generalize vs[i]=v at *
   cases hu:P.underlying f.type with
   | none=>rw [hu] at hk;simp at hk
   | some ty =>
    rw [hu] at hk
    cases ty<;>simp only at hk<;>try (simp at hk;done)
    all_goals (cases k<;>simp only [Bool.false_eq_true,decide_eq_true_eq] at hk)
    all_goals (cases u<;>simp only [ckV,Bool.false_eq_true,decide_eq_true_eq] at q3)
    all_goals (cases v<;>simp only [ckV,Bool.false_eq_true,decide_eq_true_eq] at q4)
    all_goals try subst q3
    all_goals try subst q4
    all_goals refine ⟨by simp [part,isAgg,run_underlying hu,e1],by simp [part,isAgg,run_underlying hu,e2],?_⟩
    ·exact run_equalIn_bool' w _ _ _ _ hu
    ·exact run_equalIn_int w _ _ _ _ _ _ hu
    ·exact run_equalIn_string w _ _ _ _ hu
  simp only [Op.eqFields,Sem.run_bind,Sem.run_ite]
  rw [if_pos hn,(key w).1]
  simp only [Result.andThen_ok]
  rw [(key w).2.1]
  simp only [Result.andThen_ok]
  rw [(key w).2.2]
  simp only [Result.andThen_ok]
  cases he:eqV us[i] vs[i]
  ·simp [F21,he]
  ·simp only [F21,he,Bool.true_and]
   simpa using ih w
theorem D43:∀{ks:List CK} {us:List Value},D15 ks us=true→ks.length=us.length
 | [],[],_=>rfl
 | [],_::_,h=>by simp [D15] at h
 | _::_,[],h=>by simp [D15] at h
 | _::ks,_::us,h=>by simp only [D15,J18] at h;simp [D43 h.2]
section
variable {P:Program} {dst:Option Tmp} {ty:TypeId} {pos:String} {af:Array Edge} {gd:Option (Nat × Bool)} {fr:Fr} {ob:Obs}
theorem B84 {rd:Rd} {G:Gh}:∀{us vs:List Value},All2 (TC.rep rd G) (us.map fun u=>TC.p (.v u)) vs→vs=us
 | [],[],_=>rfl
 | [],_::_,h=>h.elim
 | _::_,[],h=>h.elim
 | u::us,v::vs,h=>by
  obtain ⟨⟨h1,_⟩,h2⟩:=h
  rw [B84 h2,h1]
theorem cmp_run {t:TypeId} {ks:List CK} {us vs:List Value} [ht:TyCmp P t ks] (h:(D15 ks us&&D15 ks vs)=true) (w:World):(Op.equalIn 10000 t (.agg us.toArray) (.agg vs.toArray)).run P w=.ok (F21 us vs) w:=by
 obtain ⟨h1,h2⟩:=ht.out
 simp only [J18,Bool.not_eq_true'] at h h2
 have e1:=D43 h.1
 have e2:=D43 h.2
 rw [run_equalIn_agg w 9999 t _ _ h1 h2.2.1]
 have:=C14 (P:=P) 9998 us vs _ ks 0 h2.1 (by omega) (by omega) h.1 h.2 w
 exact this
theorem I35 {t yt:TypeId} {x y:Operand} {ks:List CK} (us vs:List Value) {r:Bool} [ht:TyCmp P t ks] (hx:opv fr x=some (.s (.agg (us.map fun u=>.p (.v u))))) (hy:opv fr y=some (.s (.agg (vs.map fun u=>.p (.v u)))))
  (hc:(J1 x&&J1 y)=true) (hk:(D15 ks us&&D15 ks vs)=true) (hr:F21 us vs=r):Neu P ⟨dst,.binOp .neq t x y yt,ty,pos,af,gd⟩ fr ob (fun s'=>s'=N0 (!r)) :=
 E8 fun S G a w h=>by
  simp only [J18] at hc
  obtain ⟨us',e1,a1⟩:=R9 h hx hc.1
  obtain ⟨vs',e2,a2⟩:=R9 h hy hc.2
  obtain rfl:=B84 a1
  obtain rfl:=B84 a2
  have hg:=ht.out.2
  simp only [J18,Bool.not_eq_true'] at hg
  refine ⟨.bool (!r),?_,rfl,rfl⟩
  simp only [execOp,e1,e2]
  refine L1 ?_
  simp only [Sem.run_bind]
  rw [run_eqGuard_agg (hm:=hg.2.2)]
  simp only [Result.andThen_ok]
  rw [run_neq_struct,cmp_run hk,hr]
  rfl
end
end Go.AL
namespace Go.AL
open Go Go.RowKit
set_option linter.unusedVariables false
theorem A16 {listed:Array Bool} {e j:Nat} (h:e≠j):(listed.setIfInBounds e true).getD j false=listed.getD j false:=by
 simp only [Array.getD_eq_getD_getElem?,Array.getElem?_setIfInBounds_ne h]
def t7:Op→List Nat
 | .store _ x y=>tmO x++tmO y
 | .box _ x=>tmO x
 | .makeSlice _ x y=>tmO x++tmO y
 | op=>C56 op
def svAt (sv:List SV) (i:Nat):SV:=sv.getD i .any
def H31:List Oper→List SV→Fr→Fr
 | o::l,s::sv,fr=>match o.dst with
  | some d=>(d,s)::H31 l sv fr
  | none=>H31 l sv fr
 | _,_,fr=>fr
abbrev Xe:=List (Nat × Bool × (Nat × Ob))
def xAt:Xe→Nat→Option (Bool × (Nat × Ob))
 | [],_=>none
 | (i,x)::r,e=>cond (Nat.beq i e) (some x) (xAt r e)
def obD (xe:Xe) (ob:Obs):List Nat→Obs
 | []=>ob
 | e::D=>match xAt xe e with
  | some x=>x.2::obD xe ob D
  | none=>obD xe ob D
def B10 (e:Nat):List Nat→List Nat
 | []=>[e]
 | d::D=>cond (Nat.blt d e) (e::d::D) (d::B10 e D)
def U1 (l:List Nat) (e:Nat):Bool:=l.any (Nat.beq e)
theorem hasN_iff {l:List Nat} {e:Nat}:U1 l e=true↔e∈l:=by
 unfold U1
 rw [List.any_eq_true]
 exact ⟨fun ⟨x,h,he⟩=>by rw [Nat.eq_of_beq_eq_true he];exact h,fun h=>⟨e,h,Nat.beq_refl e⟩⟩
def F79 (ops:Array Oper) (E:List Nat) (i:Nat) (D:List Nat):Bool:=!(U1 D i)&&((E.all fun j=>!(Bef ops i j)||U1 D j)&&D.all fun j=>!(Bef ops j i))
def A43:List Nat→List Nat→Bool
 | [],[]=>true
 | a::l,b::m=>Nat.beq a b&&A43 l m
 | _,_=>false
theorem C15:∀{l m:List Nat},A43 l m=true→l=m
 | [],[],_=>rfl
 | [],_::_,h=>by simp [A43] at h
 | _::_,[],h=>by simp [A43] at h
 | a::l,b::m,h=>by
  simp only [A43,J18] at h
  rw [Nat.eq_of_beq_eq_true h.1,C15 h.2]
def memM (M:List (List Nat)) (D:List Nat):Bool:=M.any (A43 D)
theorem F80 {M:List (List Nat)} {D:List Nat} (h:memM M D=true):D∈M:=by
 obtain ⟨x,h1,h2⟩:=List.any_eq_true.1 h
 rw [C15 h2];exact h1
def desc:List Nat→Bool
 | []=>true
 | a::l=>l.all (fun b=>Nat.blt b a)&&desc l
def A98:List Oper→List Nat
 | []=>[]
 | o::l=>match o.dst with
  | some d=>d::A98 l
  | none=>A98 l
def B85:List Nat→Bool
 | []=>true
 | a::l=>!(U1 l a)&&B85 l
section
variable {P:Program} {nt:Nat}
def EffQ (P:Program) (nt:Nat) (ops:Array Oper) (o:Oper) (U:Fr) (new:Bool) (ob:Obs) (x:Nat × Ob) (s:SV):Prop :=
 ∀φ,Told U φ→(new=true→H30 x.1 φ)→StepE P nt ops o φ ob (fun φ' ob''=>φ'=(match o.dst with | some d=>W7 φ d s | none=>φ)∧ob''=x::ob)
def Ob1 (P:Program) (nt:Nat) (l:List Oper) (sv:List SV) (xe:Xe) (fr:Fr) (ob:Obs) (i:Nat) (D:List Nat):Prop :=
 ∃o,l[i]?=some o∧((turns o.op=false∧Neu P o (W9 (H31 l sv fr) (t7 o.op)) (obD xe ob D) (fun s=>s=svAt sv i)) ∨
  ∃new x,xAt xe i=some (new,x)∧EffQ P nt l.toArray o (W9 (H31 l sv fr) (t7 o.op)) new (obD xe ob D) x (svAt sv i))
def Ob1s (P:Program) (nt:Nat) (l:List Oper) (sv:List SV) (xe:Xe) (fr:Fr) (ob:Obs):List (Nat × List Nat)→Prop
 | []=>True
 | (i,D)::r=>Ob1 P nt l sv xe fr ob i D∧Ob1s P nt l sv xe fr ob r
theorem Ob1s.get {l:List Oper} {sv:List SV} {xe:Xe} {fr:Fr} {ob:Obs}:∀{r:List (Nat × List Nat)},Ob1s P nt l sv xe fr ob r→∀p∈r,Ob1 P nt l sv xe fr ob p.1 p.2
 | [],_,p,hp=>by simp at hp
 | (i,D)::r,h,p,hp=>by
  rcases List.mem_cons.1 hp with rfl | hp
  ·exact h.1
  ·exact Ob1s.get h.2 p hp
theorem D44 {e:Nat} {listed:Array Bool} (hsz:e < listed.size) (hun:listed.getD e false=false):∀{E:List Nat},desc E=true→e∈E→E.filter (fun j=>(listed.setIfInBounds e true).getD j false)=B10 e (E.filter fun j=>listed.getD j false)
 | [],_,he=>by simp at he
 | d::E,hd,he=>by
  simp only [desc,J18] at hd
  have hlt:∀b∈E,b < d:=fun b hb=>by simpa using List.all_eq_true.1 hd.1 b hb
  have hsame:(listed.setIfInBounds e true).getD e false=true:=by simp [hsz]
  have hoth:∀j,j≠e→(listed.setIfInBounds e true).getD j false=listed.getD j false:=fun j hj=>A16 (Ne.symm hj)
  by_cases hde:d=e
  ·subst hde
   rw [List.filter_cons_of_pos (by exact hsame),List.filter_cons_of_neg (by rw [hun];simp)]
   have:E.filter (fun j=>(listed.setIfInBounds d true).getD j false)=E.filter fun j=>listed.getD j false:=by
    apply List.filter_congr
    intro j hj
    exact hoth j (by have:=hlt j hj;omega)
   rw [this]
   cases hE:E.filter fun j=>listed.getD j false with
   | nil=>rfl
   | cons a r =>
    have ha:a∈E:=(List.mem_filter.1 (by rw [hE];exact List.mem_cons_self ..)).1
    have hba:Nat.blt a d=true:=by simpa using hlt a ha
    unfold B10;rw [hba];rfl
  ·have heE:e∈E:=(List.mem_cons.1 he).resolve_left (fun q=>hde q.symm)
   have ih:=D44 hsz hun hd.2 heE
   have hed:Nat.blt d e=false:=by
    have:=hlt e heE
    cases hb:Nat.blt d e
    ·rfl
    ·rw [Nat.blt_eq] at hb;omega
   by_cases hl:listed.getD d false=true
   ·rw [List.filter_cons_of_pos (by rw [hoth d hde];exact hl),List.filter_cons_of_pos (by exact hl),ih]
    show _=B10 e (d::_)
    conv=>rhs;unfold B10
    rw [hed];rfl
   ·rw [List.filter_cons_of_neg (by rw [hoth d hde];exact hl),List.filter_cons_of_neg (by exact hl),ih]
theorem C16:∀{l:List Oper} {j:Nat} {o:Oper} {d:Nat},l[j]?=some o→o.dst=some d→d∈A98 l
 | [],j,o,d,h,_=>by simp at h
 | o'::l,0,o,d,h,hd=>by
  simp at h;subst h
  unfold A98;rw [hd];exact List.mem_cons_self ..
 | o'::l,j+1,o,d,h,hd=>by
  have:=C16 (l:=l) (j:=j) (by simpa using h) hd
  unfold A98
  split
  ·exact List.mem_cons_of_mem _ this
  ·exact this
theorem D45:∀{l:List Oper} {i j:Nat} {o o':Oper} {d:Nat},B85 (A98 l)=true→l[i]?=some o→l[j]?=some o'→o.dst=some d→o'.dst=some d→i=j
 | [],i,j,o,o',d,_,h,_,_,_=>by simp at h
 | q::l,0,0,_,_,_,_,_,_,_,_=>rfl
 | q::l,0,j+1,o,o',d,hn,h1,h2,h3,h4=>by
  simp at h1;subst h1
  have hm:=C16 (l:=l) (j:=j) (by simpa using h2) h4
  unfold A98 at hn;rw [h3] at hn
  simp only [B85,J18,Bool.not_eq_true'] at hn
  rw [hasN_iff.2 hm] at hn;exact absurd hn.1 (by simp)
 | q::l,i+1,0,o,o',d,hn,h1,h2,h3,h4=>by
  simp at h2;subst h2
  have hm:=C16 (l:=l) (j:=i) (by simpa using h1) h3
  unfold A98 at hn;rw [h4] at hn
  simp only [B85,J18,Bool.not_eq_true'] at hn
  rw [hasN_iff.2 hm] at hn;exact absurd hn.1 (by simp)
 | q::l,i+1,j+1,o,o',d,hn,h1,h2,h3,h4=>by
  have:B85 (A98 l)=true:=by
   unfold A98 at hn
   split at hn
   ·simp only [B85,J18] at hn;exact hn.2
   ·exact hn
  exact congrArg (·+1) (D45 this (by simpa using h1) (by simpa using h2) h3 h4)
structure InvC (l:List Oper) (sv:List SV) (fr:Fr) (listed:Array Bool) (φ:Fa):Prop where
 put:∀j o d,l[j]?=some o→listed.getD j false=true→o.dst=some d→φ d=some (svAt sv j)
 from':∀t s,φ t=some s→(∃j o,l[j]?=some o∧listed.getD j false=true∧o.dst=some t∧s=svAt sv j)∨D7 fr t=some s
 old:∀t s,D7 fr t=some s→t∉A98 l→φ t=some s
def unl (listed:Array Bool) (n:Nat):Nat:=(List.range n).countP fun i=>!(listed.getD i false)
theorem H32 {listed:Array Bool} {i:Nat} (hs:i < listed.size) (hu:listed.getD i false=false):∀{n:Nat},i < n→unl (listed.setIfInBounds i true) n+1=unl listed n
 | 0,h=>by omega
 | n+1,h=>by
  unfold unl
  rw [J52,List.countP_append,List.countP_append]
  have h1:∀j,j≠i→(listed.setIfInBounds i true).getD j false=listed.getD j false:=fun j hj=>A16 (Ne.symm hj)
  by_cases hin:i < n
  ·have ih:=H32 hs hu hin
   unfold unl at ih
   have e:List.countP (fun i_1=>!(listed.setIfInBounds i true).getD i_1 false) [n]=List.countP (fun i=>!listed.getD i false) [n]:=by
    simp only [List.countP_cons,List.countP_nil,h1 n (by omega)]
   rw [e];omega
  ·obtain rfl:i=n:=by omega
   have e:List.countP (fun i_1=>!(listed.setIfInBounds i true).getD i_1 false) (List.range i)=List.countP (fun i=>!listed.getD i false) (List.range i):=by
    apply List.countP_congr
    intro j hj
    rw [h1 j (by have:=List.mem_range.1 hj;omega)]
   rw [e]
   have e2:(listed.setIfInBounds i true).getD i false=true:=by simp [hs]
   simp only [List.countP_cons,List.countP_nil,e2,hu]
   simp
end
end Go.AL
namespace Go.AL
open Go Go.RowKit
set_option linter.unusedVariables false
section
variable {P:Program} {dst:Option Tmp} {ty:TypeId} {pos:String} {af:Array Edge} {gd:Option (Nat × Bool)} {fr:Fr} {ob:Obs}
def B86 (fr:Fr):List Operand→Option (List (Nat × Nat))
 | []=>some []
 | x::r=>match opv fr x with
  | some (.s (.one (.ref k o)))=>(B86 fr r).map ((k,o)::·)
  | _=>none
theorem B87 {S:Ctx} {G:Gh} {a:Act} {w:World} (h:Sim P S fr ob G a w):∀(xs:List Operand) (ps:List (Nat × Nat)),B86 fr xs=some ps→All2 (C84 G) ps (xs.map a.eval)
 | [],ps,h1=>by simp [B86] at h1;subst h1;trivial
 | x::r,ps,h1=>by
  unfold B86 at h1
  split at h1
  ·rename_i k o hx
   cases hr:B86 fr r with
   | none=>rw [hr] at h1;simp at h1
   | some qs =>
    rw [hr] at h1
    simp at h1
    subst h1
    exact ⟨I0 h hx,B87 h r qs hr⟩
  ·cases h1
theorem z7 {f:FuncId} {first cap:List Operand} {nf nc:List (Nat × Nat)} (h1:B86 fr first=some nf) (h2:B86 fr cap=some nc) :
  Neu P ⟨dst,.makeFunc (.func f) first.toArray cap.toArray,ty,pos,af,gd⟩ fr ob (fun s'=>s'=.s (.one (.clo f nf nc))) :=
 E8 fun S G a w h=>by
  refine ⟨.func (.func f) (first.map a.eval).toArray (cap.map a.eval).toArray,?_,_,_,rfl,B87 h first nf h1,B87 h cap nc h2⟩
  simp [execOp,Instr.makeFunc]
abbrev refS (p:Nat × Nat):S1:=.one (.ref p.1 p.2)
theorem D46 {rd:Rd} {G:Gh}:∀{l:List (Nat × Nat)} {us:List Value},All2 (C84 G) l us→All2 (S1.rep rd G) (l.map refS) us
 | [],[],_=>trivial
 | [],_::_,h=>h.elim
 | _::_,[],h=>h.elim
 | _::l,_::us,h=>⟨h.1,D46 h.2⟩
section
variable {nt:Nat} {ops:Array Oper} {rest:List Oper} {Q:Post} {d:Nat}
theorem A32 {f:FuncId} {g:Operand} {xs:List Operand} {ats:Array TypeId} {ty:TypeId} {pos:String} {af:Array Edge} {nf nc:List (Nat × Nat)} {args:List S1} {ks:List Nat} {post:List S1→Obs→Prop}
  (hf:Met P f (nf.map refS++args++nc.map refS) (shF fr) ob ks post) (hg:opv fr g=some (.s (.one (.clo f nf nc)))) (ha:A42 fr xs=some args) (hc:xs.all J1=true) (hd:Nat.blt d nt=true)
  (kk:∀rs ob',post rs ob'→WpL P nt ops rest ((d,resS rs)::E1 ks fr) ob' Q):WpL P nt ops (⟨some d,.call ⟨.value g,xs.toArray,ats⟩,ty,pos,af,none⟩::rest) fr ob Q:=by
 intro S G a w hn h
 obtain ⟨vs,ws,hgv,hvs,hws⟩:=I0 h hg
 have hvals:All2 (S1.rep (E7 (Mut S ob G) w) G) (nf.map refS++args++nc.map refS) (vs++xs.map a.eval++ws):=((D46 hvs).append (y3 h xs args ha hc)).append (D46 hws)
 obtain ⟨gv,hgv2⟩:∃gv:Nat→Value,gv=fun i=>S.sl a (i - 1000000):=⟨_,rfl⟩
 let S':Ctx:={ S with gv:=gv }
 have hhigh:High (shF fr):=fun i s hi=>(d7 fr i s hi).1
 have hfacts0:∀i s,D7 (shF fr) i=some s→s.rep (E7 (Mut S' ob G) w) G (S'.sl a i):=by
  intro i s hi
  obtain ⟨h7,h8⟩:=d7 fr i s hi
  rw [Ctx.sl_ge h7]
  show s.rep _ _ (gv i)
  have e:=congrFun hgv2 i
  rw [e]
  exact h.facts (i - 1000000) s h8
 have hs:Sim P S' (shF fr) ob G a w:={ h with facts:=hfacts0 }
 have hcalls:=hf.2 hhigh S' G a w _ hs hvals
 refine wpList_plain rfl fun K hK=>L8 (K:=fun v w'=>∃rs ob' G',post rs ob'∧A14 (E7 (Mut S' ob' G') w') G' rs v∧Sim P S' (E1 ks (shF fr)) ob' G' a w') ?_ ?_
 ·have he:(execOp a.eval ⟨some d,.call ⟨.value g,xs.toArray,ats⟩,ty,pos,af,none⟩).run P w=.ok (.enter f (vs++xs.map a.eval++ws).toArray) w:=by
   have:=S8 (P:=P) (f:=f) (args:=(vs++xs.map a.eval++ws).toArray) (w:=w) hf.1
   simp only [execOp,resolve,hgv,Deferred.ofValue,Sem.run_bind,Sem.run_pure,Result.andThen_ok,invoke]
   rw [show vs.toArray++Array.map a.eval xs.toArray++ws.toArray=(vs++xs.map a.eval++ws).toArray by simp]
   exact this
  unfold Does
  rw [he]
  refine hcalls.mono ?_
  rintro e w' ⟨v,rs,ob',G',rfl,hpost,hres,hs'⟩
  exact ⟨v,rfl,rs,ob',G',hpost,hres,hs'⟩
 ·rintro v w' ⟨rs,ob',G',hp,hres,hs'⟩
  have hlt:d < S.nt:=by rw [hn];simpa using hd
  have hfacts:∀i s,D7 (E1 ks fr) i=some s→s.rep (E7 (Mut S ob' G') w') G' (S.sl a i):=by
   intro i s hi
   have h7:=hs'.facts (i+1000000) s (by rw [t6];exact D26 hi)
   have h8:1000000≤i+1000000:=Nat.le_add_left _ _
   rw [Ctx.sl_ge h8] at h7
   have h7:s.rep (E7 (Mut S ob' G') w') G' (gv (i+1000000)):=h7
   have e:=congrFun hgv2 (i+1000000)
   simp only [Nat.add_sub_cancel] at e
   rw [e] at h7
   exact h7
  have hsim:Sim P S (E1 ks fr) ob' G' a w':={ hs' with facts:=hfacts }
  exact hK _ _ (kk rs ob' hp S G' _ w' hn (hsim.put hlt hres))
end
theorem B11 {x yl yh:Operand} {t e:TypeId} {bytes ec k:Nat} {α:Type} {c:α→Nat→Cell} {xs:List α} {kl kh:IntKind} {i j:Int} [ht:TySl P t e ec bytes] (hx:opv fr x=some (.s (.one (.mut k)))) (hk:C1 ob k=some (.arr α ec c xs))
  (hyl:opv fr yl=some (I9 (.int kl i))) (hyh:opv fr yh=some (I9 (.int kh j))) (h0:0≤i) (h1:i≤j) (h2:j≤xs.length) :
  Neu P ⟨dst,.slice t x (some yl) (some yh) none,ty,pos,af,gd⟩ fr ob (fun s'=>s'=.s (.one (.msl k ec i.toNat (j.toNat - i.toNat)))) :=
 E8 fun S G a w h=>by
  obtain ⟨hu,_⟩:=I0 h hx
  obtain ⟨b,vs,t',hg,hlen,_⟩:=h.obs k _ hk
  rw [hg] at hu
  refine ⟨sliced (some ⟨b,0,none⟩) i.toNat j.toNat xs.length ec,?_,b,xs.length,xs.length,xs.length - i.toNat,if xs.length=i.toNat then 0 else i.toNat*ec,hg,by omega,?_,by omega,hlen,?_⟩
  ·simp only [execOp,hu,F6 h hyl,F6 h hyh,Option.map_some,Option.map_none]
   refine L1 ?_
   obtain ⟨he1,he2⟩:=ht.elem
   simp only [Instr.sliceAt,Sem.run_bind,run_underlying ht.out.1,Result.andThen_ok]
   rw [run_slice_lh w t (some ⟨b,0,none⟩) xs.length xs.length he1 kl kh i j h0 h1 (by omega),he2,K5 ht.size]
   rfl
  ·unfold sliced;split<;>simp [*,Addr.add_lit]
  ·by_cases hq:xs.length=i.toNat
   ·left;omega
   ·right;rw [if_neg hq]
theorem S6 {x y:Operand} {t e:TypeId} {ec bytes k o n:Nat} {ki:IntKind} {i:Int} [ht:TySl P t e ec bytes] (hx:opv fr x=some (.s (.one (.msl k ec o n))))
  (hy:opv fr y=some (I9 (.int ki i))) (h0:0≤i) (h1:i < n):Neu P ⟨dst,.indexAddr t x y,ty,pos,af,gd⟩ fr ob (fun s'=>s'=.s (.one (.mref k ec (o+i.toNat) 0))) :=
 E8 fun S G a w h=>by
  obtain ⟨b,m,cap,cap',o',hg,hm,hu,_,_,ho⟩:=I0 h hx
  have ho:o'=o*ec:=ho.resolve_left (by omega)
  subst ho
  refine ⟨.pointer (some ⟨b,(o+i.toNat)*ec,none⟩),?_,b,m,cap,hg,rfl⟩
  simp only [execOp,hu,F6 h hy]
  refine L1 ?_
  have hb:0≤i∧i < (n:Int):=⟨h0,h1⟩
  simp [Instr.indexAt,run_underlying ht.out.1,asIntOf,hb,K5 ht.size,Addr.add_lit,J37]
def v8 {κ:Type} [DecidableEq κ]:List (κ × Cell)→κ→Option Cell
 | [],_=>none
 | (k,c)::r,a=>if k=a then some c else v8 r a
class TyMap (P:Program) (t:TypeId) (kt:outParam TypeId) (kd:outParam TypeDesc) (z:outParam Value):Prop where
 out:∃et,P.underlying t=some (.map kt et)∧P.underlying kt=some kd∧(P.info? et).bind (·.zero)=some z∧z.oneCell'=true
theorem H74 (k:Nat) (κ:Type) (kf:κ→Value) {t:TypeId} (hf:(H6 k fr&&I4 k ob)=true) :
  EffV P ⟨dst,.makeMap t none,ty,pos,af,gd⟩ fr ob (.s (.one (.mut k))) fr ((k,.map κ kf [])::ob):=by
 simp only [J18] at hf
 obtain ⟨h1,h2⟩:=hf
 obtain ⟨h4,h5,hp⟩:=S9 h2
 intro S G a w h
 refine H8 (w':=w.alloc (.map #[] 0)) (v:=.map (some w.heap.size)) ?_ ?_
 ·simp only [execOp,Option.map_none]
  exact L1 rfl
 ·have hxw:Below w.heap.size w (w.alloc (.map #[] 0)):=(Below.refl _ _).alloc (Nat.le_refl _) _
  have hu:∀b,blk (.map (some w.heap.size))=some b→w.heap.size≤b:=by intro b hb;simp [blk] at hb;omega
  have h6:=h.new (o:=.map κ kf []) hp h5 hxw hu ⟨w.heap.size,#[],0,rfl,heap_alloc_new w _,trivial⟩
  rw [U7 h1,h4] at h6
  exact ⟨upd G k (.map (some w.heap.size)),h6,(I7 _ _ _).symm,rfl⟩
theorem C59 {κ:Type} [DecidableEq κ] {kf:κ→Value} {kd:TypeDesc} (hkey:∀a,MapKept.IsKey kd (kf a)) (hinj:∀a b,kf a=kf b→a=b) {rd:Rd} (a:κ):∀(kvs:List (κ × Cell)) (es:List MapEntry) (i:Nat),
  All2 (fun (kv:κ × Cell) (e:MapEntry)=>e.key=kf kv.1∧kv.2.rep rd e.val) kvs es →
  (v8 kvs a=none∧Instr.findNow kd (kf a) es i=some none)∨∃c j v,v8 kvs a=some c∧Instr.findNow kd (kf a) es i=some (some (j,v))∧c.rep rd v
 | [],[],_,_=>.inl ⟨rfl,rfl⟩
 | [],_::_,_,h=>h.elim
 | _::_,[],_,h=>h.elim
 | (k,c)::kvs,e::es,i,h=>by
  obtain ⟨⟨h1,h2⟩,h3⟩:=h
  obtain ⟨r,hr,hiff⟩:=MapKept.sameNow_of_keys (hkey a) (hkey k)
  have hr':Instr.sameNow kd (kf a) e.key=some r:=by rw [h1];exact hr
  by_cases he:k=a
  ·subst he
   have:r=true:=hiff.2 rfl
   subst this
   exact .inr ⟨c,i,e.val,by simp [v8],by simp [Instr.findNow,hr'],h2⟩
  ·have:r=false:=by
    cases r
    ·rfl
    ·exact absurd (hinj _ _ (hiff.1 rfl)).symm he
   subst this
   rcases C59 hkey hinj a kvs es (i+1) h3 with ⟨h4,h5⟩ | ⟨c',j,v,h4,h5,h6⟩
   ·exact .inl ⟨by simp [v8,he,h4],by simp [Instr.findNow,hr',h5]⟩
   ·exact .inr ⟨c',j,v,by simp [v8,he,h4],by simp [Instr.findNow,hr',h5],h6⟩
theorem F81 {x y:Operand} {t kt:TypeId} {kd:TypeDesc} {z:Value} {k:Nat} {κ:Type} [DecidableEq κ] {kf:κ→Value} {kvs:List (κ × Cell)} (a0:κ) {r:Option Cell} [ht:TyMap P t kt kd z] (hx:opv fr x=some (.s (.one (.mut k)))) (hk:C1 ob k=some (.map κ kf kvs))
  (hy:opv fr y=some (I9 (kf a0))) (hkey:∀a,MapKept.IsKey kd (kf a)) (hinj:∀a b,kf a=kf b→a=b) (hr:v8 kvs a0=r) :
  Neu P ⟨dst,.lookup t x y true,ty,pos,af,gd⟩ fr ob (fun s'=>s'=.tup [.one (.p (r.getD (.v z))),.one (.p (.v (.bool r.isSome)))]) :=
 E8 fun S G a w h=>by
  obtain ⟨et,u1,u2,u3,u4⟩:=ht.out
  obtain ⟨hu,_⟩:=I0 h hx
  obtain ⟨b,es,clock,hg,hh,ha⟩:=h.obs k _ hk
  rw [hg] at hu
  subst hr
  rcases C59 hkey hinj a0 kvs es.toList 0 ha with ⟨h4,h5⟩ | ⟨c,j,v,h4,h5,h6⟩
  ·refine ⟨.tuple #[z,.bool false],?_,[z,.bool false],rfl,?_⟩
   ·simp only [execOp,hu,F6 h hy]
    refine L1 ?_
    simp only [Instr.lookup,Sem.run_bind,run_underlying u1,Result.andThen_ok,MapKept.run_getObj_map hh,Sem.run_pure,MapKept.run_checkKey u2 (hkey a0),MapKept.run_findKey u2 h5,R1 u3]
    rfl
   ·rw [h4];exact ⟨⟨rfl,u4⟩,⟨rfl,rfl⟩,trivial⟩
  ·refine ⟨.tuple #[v,.bool true],?_,[v,.bool true],rfl,?_⟩
   ·simp only [execOp,hu,F6 h hy]
    refine L1 ?_
    simp only [Instr.lookup,Sem.run_bind,run_underlying u1,Result.andThen_ok,MapKept.run_getObj_map hh,Sem.run_pure,MapKept.run_checkKey u2 (hkey a0),MapKept.run_findKey u2 h5]
    rfl
   ·rw [h4];exact ⟨h6,⟨rfl,rfl⟩,trivial⟩
theorem I36 {x y v:Operand} {t kt:TypeId} {kd:TypeDesc} {z:Value} {k:Nat} {κ:Type} [DecidableEq κ] {kf:κ→Value} {kvs:List (κ × Cell)} (a0:κ) {c:Cell} [ht:TyMap P t kt kd z] (hx:opv fr x=some (.s (.one (.mut k)))) (hk:C1 ob k=some (.map κ kf kvs))
  (hy:opv fr y=some (I9 (kf a0))) (hv:opv fr v=some (.s (.one (.p c)))) (hc:J1 v=true) (hkey:∀a,MapKept.IsKey kd (kf a)) (hinj:∀a b,kf a=kf b→a=b) (hr:v8 kvs a0=none) :
  Eff P ⟨none,.mapUpdate t x y v,ty,pos,af,gd⟩ fr ob fr ((k,.map κ kf (kvs++[(a0,c)]))::ob):=by
 intro S G a w h
 obtain ⟨et,u1,u2,u3,u4⟩:=ht.out
 obtain ⟨hu,_⟩:=I0 h hx
 obtain ⟨b,es,clock,hg,hh,ha⟩:=h.obs k _ hk
 rw [hg] at hu
 have hrv:c.rep (E7 (Mut S ob G) w) (a.eval v):=R9 h hv hc
 obtain ⟨h5,h6⟩:=MapKept.heap_set (o':=.map (es.push { key:=kf a0,val:=a.eval v,born:=clock }) (clock+1)) hh
 have hf:Instr.findNow kd (kf a0) es.toList 0=some none:=by
  rcases C59 hkey hinj a0 kvs es.toList 0 ha with ⟨_,h5⟩ | ⟨c,j,v,h4,_,_⟩
  ·exact h5
  ·rw [hr] at h4;cases h4
 have he:(execOp a.eval ⟨none,.mapUpdate t x y v,ty,pos,af,gd⟩).run P w=.ok .skip { w with heap:=w.heap.setIfInBounds b (.map (es.push { key:=kf a0,val:=a.eval v,born:=clock }) (clock+1)) }:=by
  simp only [execOp,hu,F6 h hy]
  simp only [Instr.mapUpdate,Sem.run_bind,run_underlying u1,Result.andThen_ok,MapKept.run_getObj_map hh,MapKept.run_checkKey u2 (hkey a0),MapKept.run_findKey u2 hf,MapKept.run_setObj_map _ hh]
  rfl
 unfold Does
 rw [he]
 have hbk:blk (G k)=some b:=by rw [hg];rfl
 refine ⟨G,h.write hk hbk (fun i=>⟨hbk,trivial⟩) (fun i=>⟨hbk,trivial⟩) rfl rfl rfl (by simp) (fun j _ hne=>h6 j hne) ?_⟩
 intro rd hrd
 refine ⟨b,_,_,hg,h5,?_⟩
 rw [Array.toList_push]
 exact (ha.mono fun _ _ ⟨e1,e2⟩=>⟨e1,Cell.rep_mono hrd _ _ e2⟩).append ⟨⟨rfl,Cell.rep_mono hrd _ _ hrv⟩,trivial⟩
abbrev A99 (s:List UInt8):Value:=.string ⟨s.toArray⟩
theorem D47 (a:List UInt8):MapKept.IsKey .string (A99 a):=trivial
theorem D48 (a b:List UInt8) (h:A99 a=A99 b):a=b:=by
 simp only [A99,Value.string.injEq,ByteArray.mk.injEq] at h
 simpa using congrArg Array.toList h
end
end Go.AL
namespace Go.AL
open Go Go.RowKit
set_option linter.unusedVariables false
section
variable {P:Program} {dst:Option Tmp} {ty:TypeId} {pos:String} {af:Array Edge} {gd:Option (Nat × Bool)} {fr:Fr} {ob:Obs}
theorem G73 {x yh ym:Operand} {t e:TypeId} {bytes ec:Nat} {s:SV} {α:Type} {c:α→Nat→Cell} {xs:List α} {kh km:IntKind} {j m:Int} [ht:TySl P t e ec bytes] (hx:opv fr x=some s) (hl:IsList s α ec c xs)
  (hyh:opv fr yh=some (I9 (.int kh j))) (hym:opv fr ym=some (I9 (.int km m))) (h0:0≤j) (h2:j≤xs.length) (hm:m=j) :
  Neu P ⟨dst,.slice t x none (some yh) (some ym),ty,pos,af,gd⟩ fr ob (fun s'=>s'=.s (.one (.full α ec c (xs.take j.toNat)))) :=
 E8 fun S G a w h=>by
  subst hm
  have hr:=V0 h hx hl
  obtain ⟨ad,cap,hu,hcap,_⟩:=T0 hr
  rw [hu] at hr
  have hp:=C04 (lo:=0) (hi:=m.toNat) hr (by omega) (by omega)
  rw [List.drop_zero,Nat.sub_zero] at hp
  have hform:sliced ad 0 m.toNat m.toNat ec=.slice (if m.toNat=0 then ad else ad.map (·.add 0)) m.toNat m.toNat:=by simp [sliced]
  refine ⟨sliced ad 0 m.toNat m.toNat ec,?_,?_,?_⟩
  ·simp only [execOp,hu,F6 h hyh,F6 h hym,Option.map_some,Option.map_none]
   refine L1 ?_
   obtain ⟨he1,he2⟩:=ht.elem
   simp only [Instr.sliceAt,Sem.run_bind,run_underlying ht.out.1,Result.andThen_ok]
   rw [run_slice_any w t ad xs.length cap he1,he2]
   have hb:(Instr.sliceBounds true xs.length cap none (some (.int kh m)) (some (.int km m))).run P w=.ok (0,m.toNat,m.toNat) w:=by
    have e:(m.toNat:Int)=m:=by omega
    simp only [Instr.sliceBounds,Sem.run_bind,run_sliceBound,Sem.run_pure,Result.andThen_ok]
    rw [run_sliceBound w km m _ _ h0 (by omega)]
    simp only [Result.andThen_ok]
    rw [run_sliceBound w kh m _ _ h0 (by omega)]
    simp
   rw [hb]
   simp only [Result.andThen_ok]
   rw [K5 ht.size]
   rfl
  ·-- the cells are those of the list's beginning
   simp only [Cell.rep] at hp ⊢
   obtain ⟨a',cap',he,⟨h3,h3'⟩,h4,h5⟩:=hp
   have hlen:(xs.take m.toNat).length=m.toNat:=by rw [J36];omega
   rw [hlen] at he
   have hfo:sliced ad 0 m.toNat cap ec=.slice (if cap=0 then ad else ad.map (·.add (0*ec))) m.toNat cap:=by simp [sliced]
   rw [hfo] at he
   injection he with he1 he2 he3
   by_cases hz:m.toNat=0
   ·refine ⟨if m.toNat=0 then ad else ad.map (·.add 0),m.toNat,by rw [hlen,hform],⟨Nat.le_of_eq hlen,fun _=>hz⟩,h4,.inl (hlen.trans hz)⟩
   ·have hcz:cap≠0:=by omega
    rw [if_neg hcz] at he1
    refine ⟨a',m.toNat,?_,⟨Nat.le_of_eq hlen,fun hn=>?_⟩,h4,h5⟩
    ·rw [hlen,hform,if_neg hz,←he1];simp
    ·have:=h3' hn;omega
  ·rw [hform]
   refine ⟨_,by rw [show (xs.take m.toNat).length=m.toNat by rw [J36];omega]⟩
theorem E30 (k:Nat) {x y:Operand} {α:Type} {ec bytes:Nat} {c:α→Nat→Cell} {xs ys:List α} {t e:TypeId} {s:SV} [ht:TySl P t e ec bytes] (hx:opv fr x=some (.s (.one (.full α ec c xs))))
  (hy:opv fr y=some s) (hl:IsList s α ec c ys) (hlen:xs.length+ys.length≤1073741824) (hys:0 < ys.length) (hf:(H6 k fr&&I4 k ob)=true) :
  EffV P ⟨dst,.call ⟨.builtin .append,#[x,y],#[t,t]⟩,ty,pos,af,gd⟩ fr ob (.s (.one (.buf k α ec c (xs++ys)))) fr ((k,.spare (xs++ys).length ec e)::ob):=by
 simp only [J18] at hf
 obtain ⟨hf1,hf2⟩:=hf
 obtain ⟨h4,h5,hp⟩:=S9 hf2
 intro S G a w h
 obtain ⟨hts,hinfo,hec,hby,hzero⟩:=ht.out
 cases hi:P.info? e with
 | none=>simp [hi] at hinfo
 | some i =>
 simp [hi] at hinfo
 obtain ⟨hsz,hbytes⟩:=hinfo
 cases hz:i.zero with
 | none=>simp [hi,hz] at hzero
 | some z =>
 simp [hi,hz] at hzero
 obtain ⟨hrx,a0,hux⟩:=I0 h hx
 have hry:=V0 h hy hl
 obtain ⟨ad,cap,vx,hux',hcapx,hlx,hvlx,honex,hvx,hrdx⟩:=R2 hrx
 rw [hux] at hux'
 injection hux' with e1 e2 e3
 subst e1
 obtain ⟨ady,capy,vy,huy,hcapy,hly,hvly,honey,hvy,hrdy⟩:=R2 hry
 obtain ⟨by',oy,hady,hry2⟩:=hrdy.resolve_left (by omega)
 have hbig:(xs.length+ys.length)*bytes≤140737488355328:=by
  have:(xs.length+ys.length)*bytes≤1073741824*4096:=Nat.mul_le_mul hlen hby
  omega
 have hmax:xs.length+ys.length≤maxLen:=by unfold maxLen;omega
 obtain ⟨gc,hgc⟩:∃gc,gc=grownCap w (xs.length+ys.length) xs.length e:=⟨_,rfl⟩
 have hge:=grownCap_ge w (xs.length+ys.length) xs.length e
 have hcm:=grownCap_le_maxLen w (xs.length+ys.length) xs.length e hmax
 rw [←hgc] at hge hcm
 have hrun:(Builtin.append_ #[t,t] ty #[a.eval x,a.eval y]).run P w=.ok (.slice (some ⟨w.heap.size,0,none⟩) (xs.length+ys.length) gc) (w.drew.alloc (.cells (vx.toArray++vy.toArray++Builtin.zeroCells z.cells (gc - (xs.length+ys.length))) e)):=by
  rw [hux,huy,hady]
  rcases hrdx with h0 | ⟨bx,ox,hax,hrx2⟩
  ·have hx0:xs=[]:=List.eq_nil_of_length_eq_zero h0
   subst hx0
   have hvx0:vx=[]:=List.eq_nil_of_length_eq_zero (by rw [hvlx];simp)
   subst hvx0
   cases a0 with
   | none =>
    have hr2:=run_append_nil (P:=P) w t ty e i z hts hi hz ⟨by',oy,none⟩ ys.length capy vy (by rw [hsz];exact hvly) (fun j v hj=>by rw [Addr.add_lit];exact (hry2 j v hj).1) hys (by omega) (by rw [hbytes];simp at hbig;omega)
    simp only [J19,Nat.zero_add] at hgc ⊢
    rw [hgc]
    simpa using hr2
   | some ab =>
    have hr2:=run_append_grow (P:=P) w t ty e i z hts hi hz ab 0 0 [] (by simp) (by simp) ⟨by',oy,none⟩ ys.length capy vy (by rw [hsz];exact hvly) (fun j v hj=>by rw [Addr.add_lit];exact (hry2 j v hj).1) (by omega) (by omega) (growslice_fits (by omega) (by rw [hbytes];simpa using hbig))
    simp only [J19] at hgc ⊢
    rw [hgc]
    simpa using hr2
  ·rw [hax]
   have hr2:=run_append_grow (P:=P) w t ty e i z hts hi hz ⟨bx,ox,none⟩ xs.length xs.length vx (by rw [hsz];exact hvlx) (fun j v hj=>by rw [Addr.add_lit];exact (hrx2 j v hj).1) ⟨by',oy,none⟩ ys.length capy vy (by rw [hsz];exact hvly) (fun j v hj=>by rw [Addr.add_lit];exact (hry2 j v hj).1) (by omega) (by omega) (growslice_fits (by omega) (by rw [hbytes];exact hbig))
   rw [hgc];exact hr2
 obtain ⟨cells,hcells⟩:∃cells,cells=vx.toArray++vy.toArray++Builtin.zeroCells z.cells (gc - (xs.length+ys.length)):=⟨_,rfl⟩
 rw [←hcells] at hrun
 have hlen2:(vx++vy).length=(xs.length+ys.length)*ec:=by rw [J15,hvlx,hvly,J37]
 have hown:(w.drew.alloc (.cells cells e)).ownsRow S.B e ec (.slice (some ⟨w.heap.size,0,none⟩) (xs.length+ys.length) gc) (xs++ys).length (vx++vy):=by
  rw [J15]
  refine ⟨hlen2,.inr ⟨w.heap.size,gc,cells,rfl,h.size,heap_alloc_new w.drew _,hge,hcm,?_,?_⟩⟩
  ·rw [hcells]
   simp only [Array.size_append,List.size_toArray,size_zeroCells,hzero,hvlx,hvly,←J37]
   congr 1
   omega
  ·rw [hcells]
   simp only [Array.toList_append,J25]
   rw [←J25,←hlen2]
   exact List.take_left
 refine H8 (w':=w.drew.alloc (.cells cells e)) (v:=.slice (some ⟨w.heap.size,0,none⟩) (xs.length+ys.length) gc) (by simp [execOp,resolve,invoke,builtin,hrun]) ?_
 have hxw:Below w.heap.size w (w.drew.alloc (.cells cells e)):=⟨rfl,rfl,rfl,by simp,fun k hk=>heap_alloc_old w.drew _ hk⟩
 have hu:∀b,blk (.slice (some ⟨w.heap.size,0,none⟩) (xs.length+ys.length) gc)=some b→w.heap.size≤b:=by intro b hb;simp [blk] at hb;omega
 have hsim:=h.new hp h5 (o:=.spare (xs++ys).length ec e) hxw hu ⟨vx++vy,hown⟩
 rw [U7 hf1,h4] at hsim
 refine ⟨_,hsim,(I7 _ _ _).symm,?_⟩
 refine x5 (c:=c) (xs:=xs++ys) hown hec (by rw [J15];omega) ?_ ?_
 ·intro g hg j zz hj hcell
  simp [blk] at hg
  subst hg
  refine ⟨hcell,fun hm=>?_⟩
  rcases hm with hm | ⟨k',o',hk',hb1,hb2⟩
  ·have:=h.m0 _ j hm;have:=h.size;omega
  ·by_cases hkk:k=k'
   ·subst hkk
    rw [C7] at hk';cases hk'
    simp only at hb2
    omega
   ·rw [B0 hkk] at hk'
    rw [a7 G _ (Ne.symm hkk)] at hb1
    have:=(h.obs k' o' hk').blk_lt _ hb1
    omega
 ·have hrd:∀b i z,E7 (Mut S ob G) w b i z→E7 (Mut S ((k,.spare (xs++ys).length ec e)::ob) (upd G k (.slice (some ⟨w.heap.size,0,none⟩) (xs.length+ys.length) gc))) (w.drew.alloc (.cells cells e)) b i z:=by
   intro b i z hr
   have:=h.rd_new (k:=k) (o:=.spare (xs++ys).length ec e) hxw hu hr
   rwa [h4] at this
  intro m hm j hj
  by_cases hlt:m < xs.length
  ·obtain ⟨zz,hz1,hz2⟩:=hvx m hlt j hj
   refine ⟨zz,?_,?_⟩
   ·rw [J34 (List.getElem?_eq_some_iff.1 hz1).1];exact hz1
   ·rw [J59 hlt];exact Cell.rep_mono hrd _ _ hz2
  ·have hm':m - xs.length < ys.length:=by simp at hm;omega
   obtain ⟨zz,hz1,hz2⟩:=hvy (m - xs.length) hm' j hj
   refine ⟨zz,?_,?_⟩
   ·have hge2:xs.length*ec≤m*ec:=J27 _ (by omega)
    rw [J38 (by rw [hvlx];omega),hvlx]
    have:m*ec+j - xs.length*ec=(m - xs.length)*ec+j:=by rw [Nat.sub_mul];omega
    rw [this];exact hz1
   ·rw [J58 (by omega)];exact Cell.rep_mono hrd _ _ hz2
theorem E58 {x:Operand} {t yt e:TypeId} {ec bytes:Nat} {s:SV} {α:Type} {c:α→Nat→Cell} {xs:List α} [ht:TySl P t e ec bytes] (hx:opv fr x=some s) (hl:IsList s α ec c xs) :
  Neu P ⟨dst,.binOp .eql t x (.const (.slice none 0 0)) yt,ty,pos,af,gd⟩ fr ob (fun s'=>∃b,s'=N0 b∧(b=true→xs=[])):=by
 intro S G a w h
 have hr:=V0 h hx hl
 obtain ⟨ad,cap,hu,hcap,_⟩:=T0 hr
 refine H8 (v:=.bool ad.isNone) (w':=w) ?_ ⟨Below.refl _ _,N0 ad.isNone,⟨_,rfl,fun hb=>?_⟩,rfl,rfl⟩
 ·have e2:a.eval (.const (.slice none 0 0))=.slice none 0 0:=rfl
  simp only [execOp,hu,e2]
  refine L1 ?_
  simp only [Sem.run_bind]
  rw [show (eqGuard .eql t x (.const (.slice none 0 0)) (.slice ad xs.length cap) (.slice none 0 0)).run P w=.ok () w from rfl]
  simp only [Result.andThen_ok]
  show (binOp .eql t (.slice ad xs.length cap) (.slice none 0 0)).run P w=_
  simp only [binOp,Sem.run_bind,run_equal_slice_nil w t e ad xs.length cap ht.out.1,Result.andThen_ok]
  rfl
 ·cases ad with
  | none =>
   simp only [Cell.rep] at hr
   obtain ⟨a',cap',he,⟨h3,h3'⟩,h4,h5⟩:=hr
   rw [hu] at he
   injection he with e1 e2 e3
   subst e1;subst e3
   have:=h3' rfl
   exact List.eq_nil_of_length_eq_zero (by omega)
  | some _=>simp at hb
end
end Go.AL
namespace Go.AL
open Go Go.RowKit
set_option linter.unusedVariables false
abbrev Mo:=List (List Nat × Obs)
def V2:Mo→List Nat→Option Obs
 | [],_=>none
 | (D',ob)::r,D=>cond (A43 D' D) (some ob) (V2 r D)
abbrev Sv:=List (Nat × SV)
def Q1:Sv→Nat→Option SV
 | [],_=>none
 | (i,s)::r,j=>cond (Nat.beq i j) (some s) (Q1 r j)
abbrev Ed:=List (Nat × (List Nat × List Nat))
def m6:Ed→Nat→List Nat × List Nat
 | [],_=>([],[])
 | (i,x)::r,e=>cond (Nat.beq i e) x (m6 r e)
def Y3 (ks:List Nat) (fr:Fr):Fr:=fr.filter fun p=>!(U1 ks p.1)
theorem getF_dropK {ks:List Nat}:∀{fr:Fr} {t:Nat} {s:SV},D7 (Y3 ks fr) t=some s↔t∉ks∧D7 fr t=some s
 | [],t,s=>by simp [Y3,D7]
 | (i,x)::r,t,s=>by
  have ih:=getF_dropK (ks:=ks) (fr:=r) (t:=t) (s:=s)
  unfold Y3 at ih ⊢
  cases hh:U1 ks i
  ·rw [List.filter_cons_of_pos (by simp [hh])]
   by_cases he:i=t
   ·subst he
    rw [E3,E3]
    have:i∉ks:=fun q=>by rw [hasN_iff.2 q] at hh;cases hh
    simp [this]
   ·rw [C4 he,C4 he];exact ih
  ·rw [List.filter_cons_of_neg (by simp [hh])]
   rw [ih]
   by_cases he:i=t
   ·subst he
    have:i∈ks:=hasN_iff.1 hh
    simp [this]
   ·rw [C4 he]
def D49 (U frc:Fr):Prop:=∀t s,D7 U t=some s→D7 frc t=some s
def EffR (P:Program) (nt:Nat) (o:Oper) (U:Fr) (ks kills:List Nat) (ob ob':Obs) (s:SV):Prop :=
 ∀frc,D49 U frc→(∀k∈ks,∀t x,D7 frc t=some x→t∉kills→x.free k=true)→∀S G a w,S.nt=nt→Sim P S frc ob G a w →
  Does P o a w (fun v w'=>∃G',Sim P S (Y3 kills frc) ob' G' a w'∧∀d,o.dst=some d→s.rep (E7 (Mut S ob' G') w') G' v)
def B56 (l:List Oper):Sv→Fr→Fr
 | [],fr=>fr
 | (i,s)::r,fr=>match (l[i]?).bind (·.dst) with
  | some d=>(d,s)::B56 l r fr
  | none=>B56 l r fr
def A44 (l:List Oper) (svs:Sv) (o:Oper):Bool :=
 (t7 o.op).all fun u=>(List.range l.length).all fun j=>match (l[j]?).bind (·.dst) with
  | some d=>!(Nat.beq d u)||(Q1 svs j).isSome
  | none=>true
def UIn2 (l:List Oper) (svs:Sv) (fr:Fr) (o:Oper) (U:Fr):Prop :=
 ∀t s,D7 U t=some s→t∈t7 o.op∧((∃j o',l[j]?=some o'∧o'.dst=some t∧Q1 svs j=some s)∨(t∉A98 l∧D7 fr t=some s))
def obIn2 (obT ob:Obs):Prop:=∀k o,C1 obT k=some o→C1 ob k=some o
section
variable {P:Program} {nt:Nat}
theorem D50 {l:List Oper} {fr:Fr}:∀{svs:Sv} {t:Nat} {s:SV},D7 (B56 l svs fr) t=some s→(∃j o,Q1 svs j=some s∧l[j]?=some o∧o.dst=some t)∨(D7 fr t=some s∧∀j o,Q1 svs j≠none→l[j]?=some o→o.dst≠some t)
 | [],t,s,h=>.inr ⟨h,fun j o hj=>absurd rfl hj⟩
 | (i,x)::r,t,s,h=>by
  unfold B56 at h
  have hlift:(∀d,(l[i]?).bind (·.dst)=some d→d≠t)→D7 (B56 l r fr) t=some s→(∃j o,Q1 ((i,x)::r) j=some s∧l[j]?=some o∧o.dst=some t)∨(D7 fr t=some s∧∀j o,Q1 ((i,x)::r) j≠none→l[j]?=some o→o.dst≠some t):=by
   intro hd h
   rcases D50 h with ⟨j,o,h1,h2,h3⟩ | ⟨h1,h2⟩
   ·left
    refine ⟨j,o,?_,h2,h3⟩
    have hij:i≠j:=fun e=>by
     subst e
     rw [h2] at hd
     exact hd t (by simpa using h3) rfl
    show cond (Nat.beq i j) _ _=_
    rw [I2 hij];exact h1
   ·right
    refine ⟨h1,fun j o hj ho hdo=>?_⟩
    by_cases hij:i=j
    ·subst hij
     rw [ho] at hd
     exact hd t (by simpa using hdo) rfl
    ·have hj:cond (Nat.beq i j) (some x) (Q1 r j)≠none:=hj
     rw [I2 hij] at hj
     exact h2 j o hj ho hdo
  split at h
  ·rename_i d hd
   by_cases hdt:d=t
   ·subst hdt
    rw [E3] at h
    cases h
    cases ho:l[i]? with
    | none=>rw [ho] at hd;cases hd
    | some o =>
     rw [ho] at hd
     exact .inl ⟨i,o,by show cond (Nat.beq i i) _ _=_;rw [Nat.beq_refl];rfl,ho,by simpa using hd⟩
   ·rw [C4 hdt] at h
    exact hlift (fun d' hd'=>by rw [hd] at hd';cases hd';exact hdt) h
  ·rename_i hd
   exact hlift (fun d' hd'=>by rw [hd] at hd';cases hd') h
theorem C17:∀{l:List Oper} {t:Nat},t∈A98 l→∃(j:Nat) (o:Oper),l[j]?=some o∧o.dst=some t
 | [],t,h=>by simp [A98] at h
 | o::l,t,h=>by
  unfold A98 at h
  cases hd:o.dst with
  | none=>rw [hd] at h;obtain ⟨j,o',h1,h2⟩:=C17 h;exact ⟨j+1,o',by simpa using h1,h2⟩
  | some d =>
   rw [hd] at h
   rcases List.mem_cons.1 h with rfl | h
   ·exact ⟨0,o,rfl,hd⟩
   ·obtain ⟨j,o',h1,h2⟩:=C17 h;exact ⟨j+1,o',by simpa using h1,h2⟩
theorem D27 {l:List Oper} {svs:Sv} {fr:Fr} {o:Oper} (h:A44 l svs o=true):UIn2 l svs fr o (W9 (B56 l svs fr) (t7 o.op)):=by
 intro t s ht
 have hus:=y2 ht
 refine ⟨hus,?_⟩
 rcases D50 (n5 ht) with ⟨j,o',h1,h2,h3⟩ | ⟨h1,h2⟩
 ·exact .inl ⟨j,o',h2,h3,h1⟩
 ·refine .inr ⟨fun hin=>?_,h1⟩
  obtain ⟨j,o',h3,h4⟩:=C17 hin
  have:=List.all_eq_true.1 (List.all_eq_true.1 h t hus) j (List.mem_range.2 (List.getElem?_eq_some_iff.1 h3).1)
  rw [h3] at this
  simp only [Option.bind_some,h4,Nat.beq_refl,Bool.not_true,Bool.false_or] at this
  exact h2 j o' (fun e=>by rw [e] at this;cases this) h3 h4
def Task (P:Program) (nt:Nat) (l:List Oper) (fr:Fr) (svs:Sv) (E:List Nat) (ed:Ed) (i:Nat) (ob:Obs) (s:SV) (T:Obs→Prop):Prop :=
 ∃o U,l[i]?=some o∧UIn2 l svs fr o U∧((U1 E i=false∧Neu P o U ob (fun s'=>s'=s))∨(U1 E i=true∧∃ob',EffR P nt o U (m6 ed i).1 (m6 ed i).2 ob ob' s∧T ob'))
def conf2 (nt:Nat) (l:List Oper) (E:List Nat) (Ms:List (List Nat)) (ed:Ed) (tasks:List (Nat × List Nat)):Bool :=
 let ops:=l.toArray
 let n:=l.length
 (l.all fun o=>o.guard.isNone&&match o.dst with | some d=>Nat.blt d nt | none=>true) &&
 ((List.range n).all fun i=>match ops[i]? with
  | some o=>(U1 E i||o.dst.isSome)&&(((t7 o.op).all fun u=>((List.range n).all fun j=>match ops[j]? with
    | some oj=>(match oj.dst with | some d=>!(Nat.beq d u)||Bef ops i j | none=>true)
    | none=>true)&&E.all fun e=>Nat.beq e i||!(U1 (m6 ed e).2 u)||Bef ops e i) &&
   ((o.after.toList.all fun e=>!(Region.binds .any e)||Nat.blt e.on i)&&(Ms.all fun D=>!(F79 ops E i D)||tasks.any fun p=>Nat.beq p.1 i&&A43 p.2 D)))
  | none=>false) &&
 B85 (A98 l)&&desc E&&(E.all fun e=>Nat.blt e n)&&memM Ms []&&(Ms.all fun D=>E.all fun e=>!(F79 ops E e D)||memM Ms (B10 e D))
structure InvK (l:List Oper) (E:List Nat) (svs:Sv) (ed:Ed) (fr:Fr) (listed:Array Bool) (frc:Fr):Prop where
 put:∀j o d s,l[j]?=some o→listed.getD j false=true→o.dst=some d→Q1 svs j=some s→(∀e∈E,listed.getD e false=true→d∉(m6 ed e).2)→D7 frc d=some s
 from':∀t s,D7 frc t=some s→(∃j o,l[j]?=some o∧listed.getD j false=true∧o.dst=some t∧Q1 svs j=some s)∨D7 fr t=some s
 old:∀t s,D7 fr t=some s→t∉A98 l→(∀e∈E,listed.getD e false=true→t∉(m6 ed e).2)→D7 frc t=some s
def B65 (l:List Oper) (ops:Array Oper) (svs:Sv) (fr:Fr):Ed→Bool
 | []=>true
 | (e,ks,kills)::r=>(ks.all fun k=>((List.range ops.size).all fun j=>Nat.beq j e||Bef ops j e||match (l[j]?).bind (·.dst),Q1 svs j with
   | some d,some s=>U1 kills d||s.free k
   | _,_=>true)&&fr.all fun p=>U1 kills p.1||p.2.free k)&&B65 l ops svs fr r
theorem c_core {id:Nat} {l:List Oper} {fr:Fr} {ob0:Obs} {Q:Post} (E:List Nat) (Ms:List (List Nat)) (ed:Ed) (tasks:List (Nat × List Nat)) (svs:Sv) (M:Mo) (hm:P.follows .mixedOrders=true)
  (hB:conf2 nt l E Ms ed tasks=true) (hed:∀e∈E,∃x,(e,x)∈ed∧m6 ed e=x) (hfree:B65 l l.toArray svs fr ed=true) (h0:V2 M []=some ob0)
  (ht:∀p∈tasks,∃ob s,V2 M p.2=some ob∧Q1 svs p.1=some s∧Task P nt l fr svs E ed p.1 ob s (fun ob'=>∃obT,V2 M (B10 p.1 p.2)=some obT∧obIn2 obT ob'))
  {fr':Fr} {obE:Obs} (hobE:V2 M E=some obE) (hfr':∀t s,D7 fr' t=some s→(∀e∈E,t∉(m6 ed e).2)∧((∃j o',l[j]?=some o'∧o'.dst=some t∧Q1 svs j=some s)∨(t∉A98 l∧D7 fr t=some s)))
  (hQ:Q .normal fr' obE):WpC P nt (.region id l.toArray true) fr ob0 Q:=by
 intro S G a w hn hs
 unfold conf2 at hB
 simp only [J18] at hB
 obtain ⟨⟨⟨⟨⟨⟨b1,b2⟩,b3⟩,b4⟩,b5⟩,b6⟩,b7⟩:=hB
 have hop:∀i o,l[i]?=some o→o.guard=none∧(∀d,o.dst=some d→d < nt)∧(U1 E i=true∨∃d,o.dst=some d)∧(∀u∈t7 o.op,∀j oj,l[j]?=some oj→oj.dst=some u→Bef l.toArray i j=true) ∧
   (∀u∈t7 o.op,∀e∈E,e≠i→u∈(m6 ed e).2→Bef l.toArray e i=true)∧(∀e∈o.after.toList,Region.binds .any e=true→e.on < i)∧(∀D∈Ms,F79 l.toArray E i D=true→(i,D)∈tasks):=by
  intro i o ho
  have hlt:i < l.length:=(List.getElem?_eq_some_iff.1 ho).1
  have hmem:o∈l:=J30 ho
  have q1:=List.all_eq_true.1 b1 o hmem
  have q2:=List.all_eq_true.1 b2 i (List.mem_range.2 hlt)
  simp only [List.getElem?_toArray,ho] at q2
  simp only [J18] at q1 q2
  obtain ⟨q4,q5,q6,q7⟩:=q2
  refine ⟨by simpa using q1.1,?_,?_,?_,?_,?_,?_⟩
  ·intro d hd
   have:=q1.2
   rw [hd] at this
   simpa using this
  ·rcases (J55 _ _).mp q4 with h | h
   ·exact .inl h
   ·exact .inr (Option.isSome_iff_exists.1 h)
  ·intro u hu j oj hj hd
   have hjlt:j < l.length:=(List.getElem?_eq_some_iff.1 hj).1
   have h5:=List.all_eq_true.1 q5 u hu
   simp only [J18] at h5
   have:=List.all_eq_true.1 h5.1 j (List.mem_range.2 hjlt)
   simp only [hj,hd] at this
   simpa using this
  ·intro u hu e he hei hk
   have h5:=List.all_eq_true.1 q5 u hu
   simp only [J18] at h5
   have:=List.all_eq_true.1 h5.2 e he
   rw [I2 hei,hasN_iff.2 hk] at this
   simpa using this
  ·intro e he hbe
   have:=List.all_eq_true.1 q6 e he
   rw [hbe] at this
   simpa using this
  ·intro D hD hp
   have:=List.all_eq_true.1 q7 D hD
   rw [hp] at this
   simp only [Bool.not_true,Bool.false_or] at this
   obtain ⟨p,hp1,hp2⟩:=List.any_eq_true.1 this
   simp only [J18] at hp2
   have e1:=Nat.eq_of_beq_eq_true hp2.1
   have e2:=C15 hp2.2
   obtain ⟨p1,p2⟩:=p
   simp only at e1 e2
   rw [←e1,←e2];exact hp1
 have hdst:∀(j t:Nat),(l.toArray[j]?).bind (fun o=>o.dst)=some t→t < nt:=by
  intro j t ht
  cases ho:l[j]? with
  | none=>simp [ho] at ht
  | some o=>simp [ho] at ht;exact (hop j o ho).2.1 t ht
 refine wp_region_any hm ?_
 have hxw:Below w.heap.size w { w with drawn:=w.drawn+1 }:=⟨rfl,rfl,rfl,Nat.le_refl _,fun _ _=>rfl⟩
 have key : ∀(fuel:Nat) (listed:Array Bool) (frc:Fr) (ob:Obs) (G:Gh) (a:Act) (w:World),listed.size=l.length→unl listed l.length=fuel→Closed l.toArray listed→(E.filter fun j=>listed.getD j false)∈Ms→V2 M (E.filter fun j=>listed.getD j false)=some ob→InvK l E svs ed fr listed frc→Sim P S frc ob G a w →
   wpAny P .any l.toArray (PostOf P S Q) fuel listed a w:=by
  intro fuel
  induction fuel with
  | zero =>
   intro listed frc ob G a w hsz hu hc hM hob hI hsf
   have hall:∀j,j < l.length→listed.getD j false=true:=by
    intro j hj
    unfold unl at hu
    have:=(List.countP_eq_zero.1 hu) j (List.mem_range.2 hj)
    simpa using this
   have hready:Region.ready .any l.toArray listed=[]:=by
    cases hr:Region.ready .any l.toArray listed with
    | nil=>rfl
    | cons i r =>
     exfalso
     have hi:i∈Region.ready .any l.toArray listed:=by rw [hr];exact List.mem_cons_self ..
     have h3:=d8 hi
     obtain ⟨_,o,ho,_⟩:=mem_ready.1 hi
     rw [List.getElem?_toArray] at ho
     rw [hall i (List.getElem?_eq_some_iff.1 ho).1] at h3;cases h3
   refine ⟨hready,?_⟩
   have hEl:(E.filter fun j=>listed.getD j false)=E:=by
    rw [List.filter_eq_self]
    intro e he
    exact hall e (by simpa using List.all_eq_true.1 b5 e he)
   rw [hEl,hobE] at hob
   cases hob
   refine ⟨fr',obE,G,hQ,hsf.weaken fun t s ht=>?_⟩
   obtain ⟨hk,h3⟩:=hfr' t s ht
   rcases h3 with ⟨j,o,h3,h4,h5⟩ | ⟨h3,h4⟩
   ·exact hI.put j o t s h3 (hall j (List.getElem?_eq_some_iff.1 h3).1) h4 h5 (fun e he _=>hk e he)
   ·exact hI.old t s h4 h3 (fun e he _=>hk e he)
  | succ fuel ih =>
   intro listed frc ob G a w hsz hu hc hM hob hI hsf
   refine ⟨fun h0=>?_,fun i hi=>?_⟩
   ·exfalso
    have hex:∃j,j < l.length∧listed.getD j false=false:=by
     refine Classical.byContradiction fun hno=>?_
     have:unl listed l.length=0:=by
      unfold unl
      refine List.countP_eq_zero.2 fun j hj=>?_
      have hj:=List.mem_range.1 hj
      cases hb:listed.getD j false
      ·exact absurd ⟨j,hj,hb⟩ hno
      ·simp
     omega
    have hmin:∀n,(∃j,j < n∧j < l.length∧listed.getD j false=false)→∃j,j < l.length∧listed.getD j false=false∧∀p,p < j→listed.getD p false=true:=by
     intro n
     induction n with
     | zero=>rintro ⟨j,hj,_⟩;omega
     | succ n ihn =>
      rintro ⟨j,hj,hjl,hjf⟩
      by_cases hlow:∃j',j' < n∧j' < l.length∧listed.getD j' false=false
      ·exact ihn hlow
      ·refine ⟨j,hjl,hjf,fun p hp=>?_⟩
       cases hb:listed.getD p false
       ·exact absurd ⟨p,by omega,by omega,hb⟩ hlow
       ·rfl
    obtain ⟨j,hj1,hj2⟩:=hex
    obtain ⟨j,hjl,hjf,hjp⟩:=hmin (j+1) ⟨j,by omega,hj1,hj2⟩
    have ho:l[j]?=some l[j]:=J14 hjl
    have hjr:j∈Region.ready .any l.toArray listed:=by
     refine mem_ready.2 ⟨?_,l[j],by rw [List.getElem?_toArray];exact ho,fun e he hb=>?_⟩
     ·have hsz2:j < listed.size:=by omega
      simp only [Array.getD_eq_getD_getElem?,Array.getElem?_eq_getElem hsz2] at hjf ⊢
      simpa using hjf
     ·have:=(hop j _ ho).2.2.2.2.2.1 e (Array.mem_toList_iff.2 he) hb
      exact hjp _ this
    rw [h0] at hjr;cases hjr
   ·have hiu:=d8 hi
    obtain ⟨_,o,ho,hall⟩:=mem_ready.1 hi
    rw [List.getElem?_toArray] at ho
    have hlt:i < l.length:=(List.getElem?_eq_some_iff.1 ho).1
    obtain ⟨g1,g2,g4,g5,g6,g7,g8⟩:=hop i o ho
    obtain ⟨D,hD⟩:∃D,D=E.filter fun j=>listed.getD j false:=⟨_,rfl⟩
    rw [←hD] at hM hob
    have hDl:∀e,e∈D↔e∈E∧listed.getD e false=true:=fun e=>by rw [hD,List.mem_filter]
    have hbi:∀j,Bef l.toArray i j=true→listed.getD j false=true:=fun j hj=>y8 hc i hj (fun o' ho' e he hb=>by
     rw [List.getElem?_toArray,ho] at ho';cases ho'
     exact hall e (Array.mem_toList_iff.1 he) hb)
    have hlb:∀j,listed.getD j false=true→Bef l.toArray j i=true→False:=fun j hj hb=>by
     have:listed.getD i false=true:=y8 hc j hb (fun o' ho' e he hbd=>hc j o' ho' hj e he hbd)
     rw [hiu] at this;cases this
    have hpo:F79 l.toArray E i D=true:=by
     unfold F79
     simp only [J18,Bool.not_eq_true',List.all_eq_true,J55]
     refine ⟨?_,fun j hj=>?_,fun j hj=>?_⟩
     ·cases hb:U1 D i
      ·rfl
      ·have:=((hDl i).1 (hasN_iff.1 hb)).2
       rw [hiu] at this;cases this
     ·cases hb:Bef l.toArray i j
      ·exact .inl rfl
      ·exact .inr (hasN_iff.2 ((hDl j).2 ⟨hj,hbi j hb⟩))
     ·cases hb:Bef l.toArray j i
      ·rfl
      ·exact (hlb j ((hDl j).1 hj).2 hb).elim
    obtain ⟨ob1,s,hob1,hsv,o1,U,ho1,hU,htask⟩:=ht (i,D) (g8 D hM hpo)
    rw [hob] at hob1;cases hob1
    rw [ho] at ho1;cases ho1
    have hext:D49 U frc:=by
     intro t x hx
     obtain ⟨hus,h3⟩:=hU t x hx
     have hnk:∀e∈E,listed.getD e false=true→t∉(m6 ed e).2:=fun e he hel hk=>by
      by_cases hei:e=i
      ·rw [hei,hiu] at hel;cases hel
      ·exact hlb e hel (g6 t hus e he hei hk)
     rcases h3 with ⟨j,oj,h3,h4,h5⟩ | ⟨h3,h4⟩
     ·exact hI.put j oj t x h3 (hbi j (g5 t hus j oj h3 h4)) h4 h5 hnk
     ·exact hI.old t x h4 h3 hnk
    have hcl2:=T3 hc hi
    have hsz2:(listed.setIfInBounds i true).size=l.length:=by simpa using hsz
    have hul:unl (listed.setIfInBounds i true) l.length=fuel:=by
     have:=H32 (by omega) hiu hlt
     omega
    have hset:∀j,(listed.setIfInBounds i true).getD j false=true↔j=i∨listed.getD j false=true:=by
     intro j
     by_cases hj:j=i
     ·subst hj
      simp only [true_or,iff_true]
      simp [show j < listed.size by omega]
     ·rw [A16 (Ne.symm hj)]
      simp [hj]
    have hinv:∀kills,(i∈E→kills=(m6 ed i).2)→(i∉E→kills=[])→InvK l E svs ed fr (listed.setIfInBounds i true) (match o.dst with | some d=>(d,s)::Y3 kills frc | none=>Y3 kills frc):=by
     intro kills hk1 hk2
     have hk:∀t,(∀e∈E,(listed.setIfInBounds i true).getD e false=true→t∉(m6 ed e).2)→t∉kills:=by
      intro t h
      by_cases hiE:i∈E
      ·rw [hk1 hiE];exact h i hiE ((hset i).2 (.inl rfl))
      ·rw [hk2 hiE];simp
     have hmono:∀t,(∀e∈E,(listed.setIfInBounds i true).getD e false=true→t∉(m6 ed e).2)→∀e∈E,listed.getD e false=true→t∉(m6 ed e).2:=fun t h e he hel=>h e he ((hset e).2 (.inr hel))
     cases hdo:o.dst with
     | none =>
      refine ⟨fun j oj d x h3 h4 h5 h6 h7=>?_,fun t x h3=>?_,fun t x h3 h4 h5=>?_⟩
      ·rcases (hset j).1 h4 with rfl | h4
       ·rw [ho] at h3;cases h3;rw [hdo] at h5;cases h5
       ·exact getF_dropK.2 ⟨hk d h7,hI.put j oj d x h3 h4 h5 h6 (hmono d h7)⟩
      ·rcases hI.from' t x (getF_dropK.1 h3).2 with ⟨j,oj,h4,h5,h6⟩ | h4
       ·exact .inl ⟨j,oj,h4,(hset j).2 (.inr h5),h6⟩
       ·exact .inr h4
      ·exact getF_dropK.2 ⟨hk t h5,hI.old t x h3 h4 (hmono t h5)⟩
     | some d0 =>
      refine ⟨fun j oj d x h3 h4 h5 h6 h7=>?_,fun t x h3=>?_,fun t x h3 h4 h5=>?_⟩
      ·show D7 ((d0,s)::Y3 kills frc) d=some x
       by_cases hij:j=i
       ·subst hij
        rw [ho] at h3;cases h3
        rw [hdo] at h5;cases h5
        rw [E3]
        rw [hsv] at h6;exact h6
       ·have h4:=((hset j).1 h4).resolve_left hij
        have hdd:d0≠d:=fun q=>by
         subst q
         exact hij (D45 b3 h3 ho h5 hdo)
        rw [C4 hdd]
        exact getF_dropK.2 ⟨hk d h7,hI.put j oj d x h3 h4 h5 h6 (hmono d h7)⟩
      ·have h3:D7 ((d0,s)::Y3 kills frc) t=some x:=h3
       by_cases hdd:d0=t
       ·subst hdd
        rw [E3] at h3;cases h3
        exact .inl ⟨i,o,ho,(hset i).2 (.inl rfl),hdo,hsv⟩
       ·rw [C4 hdd] at h3
        rcases hI.from' t x (getF_dropK.1 h3).2 with ⟨j,oj,h4,h5,h6⟩ | h4
        ·exact .inl ⟨j,oj,h4,(hset j).2 (.inr h5),h6⟩
        ·exact .inr h4
      ·show D7 ((d0,s)::Y3 kills frc) t=some x
       have hdd:d0≠t:=fun q=>h4 (by rw [←q];exact C16 ho hdo)
       rw [C4 hdd]
       exact getF_dropK.2 ⟨hk t h5,hI.old t x h3 h4 (hmono t h5)⟩
    unfold wpOp
    simp only [List.getElem?_toArray,ho]
    rw [if_pos (by simp [Region.wanted,g1])]
    rcases htask with ⟨htn,hneu⟩ | ⟨htn,ob',heff,obT,hobT,hle⟩
    ·have hnE:i∉E:=fun q=>by rw [hasN_iff.2 q] at htn;cases htn
     refine .inl (L8 (hneu S G a w (hsf.weaken fun t x hx=>hext t x hx)) ?_)
     rintro v w' ⟨hxw2,s',rfl,hv⟩
     have hDe:(E.filter fun j=>(listed.setIfInBounds i true).getD j false)=D:=by
      rw [hD]
      apply List.filter_congr
      intro j hj
      have:j≠i:=fun q=>hnE (q ▸ hj)
      exact A16 (Ne.symm this)
     obtain ⟨d0,hd0⟩:=g4.resolve_left (by rw [htn];simp)
     have hi2:=hinv [] (fun q=>absurd q hnE) (fun _=>rfl)
     rw [hd0] at hi2 ⊢
     have hi2:InvK l E svs ed fr (listed.setIfInBounds i true) ((d0,s')::Y3 [] frc):=hi2
     have hdk:Y3 [] frc=frc:=by unfold Y3;exact List.filter_eq_self.2 fun p _=>rfl
     rw [hdk] at hi2
     exact ih (listed.setIfInBounds i true) ((d0,s')::frc) ob G _ w' hsz2 hul hcl2 (by rw [hDe];exact hM) (by rw [hDe];exact hob) hi2 ((hsf.ext hxw2).put (by rw [hn];exact g2 d0 hd0) hv)
    ·have hiE:i∈E:=hasN_iff.1 htn
     have hDe:(E.filter fun j=>(listed.setIfInBounds i true).getD j false)=B10 i D:=by
      rw [hD];exact D44 (by omega) hiu b4 hiE
     have hM2:B10 i D∈Ms:=by
      have:=List.all_eq_true.1 (List.all_eq_true.1 b7 D hM) i hiE
      rw [hpo] at this
      exact F80 (by simpa using this)
     have hfr2:∀k∈(m6 ed i).1,∀t x,D7 frc t=some x→t∉(m6 ed i).2→x.free k=true:=by
      obtain ⟨x0,hx0,hx1⟩:=hed i hiE
      rw [hx1]
      have hf:∀(xs:Ed),B65 l l.toArray svs fr xs=true→(i,x0)∈xs→∀k∈x0.1,((List.range l.toArray.size).all fun j=>Nat.beq j i||Bef l.toArray j i||match (l[j]?).bind (·.dst),Q1 svs j with
        | some d,some s=>U1 x0.2 d||s.free k
        | _,_=>true)=true∧(fr.all fun p=>U1 x0.2 p.1||p.2.free k)=true:=by
       intro xs
       induction xs with
       | nil=>intro _ h;simp at h
       | cons y r ihx =>
        obtain ⟨e',ks',kl'⟩:=y
        intro hok hmem
        simp only [B65,J18] at hok
        rcases List.mem_cons.1 hmem with q | q
        ·cases q
         intro k hk
         have:=List.all_eq_true.1 hok.1 k hk
         simpa only [J18] using this
        ·exact ihx hok.2 q
      intro k hk t x hx hnk
      obtain ⟨f1,f2⟩:=hf ed hfree hx0 k hk
      rcases hI.from' t x hx with ⟨j,oj,h4,h5,h6,h7⟩ | h4
      ·have:=List.all_eq_true.1 f1 j (List.mem_range.2 (by simpa using (List.getElem?_eq_some_iff.1 h4).1))
       have hji:j≠i:=fun q=>by rw [q,hiu] at h5;cases h5
       have hbf:Bef l.toArray j i=false:=by
        cases hb:Bef l.toArray j i
        ·rfl
        ·exact (hlb j h5 hb).elim
       rw [I2 hji,hbf,h4] at this
       simp only [Option.bind_some,h6,h7,Bool.false_or,J55] at this
       rcases this with q | q
       ·exact absurd (hasN_iff.1 q) hnk
       ·exact q
      ·have hmem:(t,x)∈fr:=by
        have:∀(fr:Fr),D7 fr t=some x→(t,x)∈fr:=by
         intro fr
         induction fr with
         | nil=>intro h;simp [D7] at h
         | cons y r ihf =>
          obtain ⟨q,z⟩:=y
          intro h
          by_cases hq:q=t
          ·subst hq;rw [E3] at h;cases h;exact List.mem_cons_self ..
          ·rw [C4 hq] at h;exact List.mem_cons_of_mem _ (ihf h)
        exact this fr h4
       have:=List.all_eq_true.1 f2 (t,x) hmem
       simp only [J55] at this
       rcases this with q | q
       ·exact absurd (hasN_iff.1 q) hnk
       ·exact q
     refine .inl (L8 (heff frc hext hfr2 S G a w hn hsf) ?_)
     rintro v w' ⟨G',hs2,hv⟩
     have hi2:=hinv (m6 ed i).2 (fun _=>rfl) (fun q=>absurd hiE q)
     have hs3:=hs2.weakenO hle
     refine ih (listed.setIfInBounds i true) _ obT G' _ w' hsz2 hul hcl2 (by rw [hDe];exact hM2) (by rw [hDe];exact hobT) hi2 ?_
     cases hdo:o.dst with
     | none=>exact hs3
     | some d0 =>
      have hv2:=hv d0 hdo
      have hput:=hs2.put (d:=d0) (by rw [hn];exact g2 d0 hdo) hv2
      exact hput.weakenO hle
 have hlist0:∀j,(Array.replicate l.length false).getD j false=false:=by
  intro j
  simp only [Array.getD_eq_getD_getElem?]
  rcases Nat.lt_or_ge j l.length with h' | h'
  ·simp [h']
  ·simp [h']
 have hf0:(E.filter fun j=>(Array.replicate l.length false).getD j false)=[]:=by
  rw [List.filter_eq_nil_iff];intro e _;rw [hlist0];simp
 have hu0:unl (Array.replicate l.length false) l.length=l.length:=by
  unfold unl
  have:(List.range l.length).countP (fun i=>!(Array.replicate l.length false).getD i false)=(List.range l.length).length:=by
   rw [List.countP_eq_length];intro i _;rw [hlist0];rfl
  rw [this,J60]
 have:=key l.length (Array.replicate l.length false) fr ob0 G a _ (by simp) hu0 (fun j o ho hl=>by rw [hlist0] at hl;cases hl) (by rw [hf0];exact F80 b6) (by rw [hf0];exact h0) ⟨fun j o d s _ h4 _=>(by rw [hlist0] at h4;cases h4),fun t s h3=>.inr h3,fun t s h3 _ _=>h3⟩ (hs.ext hxw)
 simpa using this
end
end Go.AL
namespace Go.AL
open Go Go.RowKit
set_option linter.unusedVariables false
section
variable {P:Program} {nt:Nat}
def B66 (P:Program) (nt:Nat) (l:List Oper) (fr:Fr) (E:List Nat) (ed:Ed) (K:Sv→Mo→Prop):List (Nat × List Nat)→Sv→Mo→Prop
 | [],svs,M=>K svs M
 | (i,D)::ts,svs,M=>∃o ob s,l[i]?=some o∧V2 M D=some ob∧A44 l svs o=true∧(Q1 svs i=none∨Q1 svs i=some s) ∧
   ((U1 E i=false∧Neu P o (W9 (B56 l svs fr) (t7 o.op)) ob (fun s'=>s'=s)∧B66 P nt l fr E ed K ts ((i,s)::svs) M) ∨
    (U1 E i=true∧∃ob',EffR P nt o (W9 (B56 l svs fr) (t7 o.op)) (m6 ed i).1 (m6 ed i).2 ob ob' s∧V2 M (B10 i D)=none∧B66 P nt l fr E ed K ts ((i,s)::svs) ((B10 i D,ob')::M)))
def B12 (P:Program) (nt:Nat) (l:List Oper) (fr:Fr) (E:List Nat) (ed:Ed) (svs:Sv) (M:Mo):List (Nat × List Nat)→Prop
 | []=>True
 | (i,D)::ts=>(∃o ob s,l[i]?=some o∧V2 M D=some ob∧A44 l svs o=true∧Q1 svs i=some s ∧
   ((U1 E i=false∧Neu P o (W9 (B56 l svs fr) (t7 o.op)) ob (fun s'=>s'=s)) ∨
    (U1 E i=true∧∃ob' obT,EffR P nt o (W9 (B56 l svs fr) (t7 o.op)) (m6 ed i).1 (m6 ed i).2 ob ob' s∧V2 M (B10 i D)=some obT∧obIn2 obT ob')))∧B12 P nt l fr E ed svs M ts
def TaskOk (P:Program) (nt:Nat) (l:List Oper) (fr:Fr) (E:List Nat) (ed:Ed) (svs:Sv) (M:Mo) (p:Nat × List Nat):Prop :=
 ∃ob s,V2 M p.2=some ob∧Q1 svs p.1=some s∧Task P nt l fr svs E ed p.1 ob s (fun ob'=>∃obT,V2 M (B10 p.1 p.2)=some obT∧obIn2 obT ob')
theorem B44 {svs:Sv} {i:Nat} {s:SV} (h:Q1 svs i=none∨Q1 svs i=some s) {j:Nat} {x:SV} (hj:Q1 svs j=some x):Q1 ((i,s)::svs) j=some x:=by
 show cond (Nat.beq i j) _ _=_
 by_cases hij:i=j
 ·subst hij
  rw [Nat.beq_refl]
  rcases h with h | h
  ·rw [h] at hj;cases hj
  ·rw [h] at hj;exact hj
 ·rw [I2 hij];exact hj
theorem D51:∀(l:List Nat),A43 l l=true
 | []=>rfl
 | a::l=>by simp [A43,Nat.beq_refl,D51 l]
theorem E59 {M:Mo} {D0:List Nat} {o0:Obs} (h:V2 M D0=none) {D:List Nat} {ob:Obs} (hD:V2 M D=some ob):V2 ((D0,o0)::M) D=some ob:=by
 show cond (A43 D0 D) _ _=_
 cases hs:A43 D0 D
 ·exact hD
 ·rw [C15 hs] at h;rw [h] at hD;cases hD
theorem UIn2.mono {l:List Oper} {svs svs':Sv} {fr:Fr} {o:Oper} {U:Fr} (h:UIn2 l svs fr o U) (hm:∀j x,Q1 svs j=some x→Q1 svs' j=some x):UIn2 l svs' fr o U:=fun t s ht=>by
 obtain ⟨h1,h2⟩:=h t s ht
 refine ⟨h1,?_⟩
 rcases h2 with ⟨j,o',h3,h4,h5⟩ | h2
 ·exact .inl ⟨j,o',h3,h4,hm j s h5⟩
 ·exact .inr h2
theorem D52 {l:List Oper} {fr:Fr} {E:List Nat} {ed:Ed} {K:Sv→Mo→Prop}:∀{ts:List (Nat × List Nat)} {svs:Sv} {M:Mo},B66 P nt l fr E ed K ts svs M →
  ∃svs' M',(∀j x,Q1 svs j=some x→Q1 svs' j=some x)∧(∀D ob,V2 M D=some ob→V2 M' D=some ob)∧K svs' M'∧∀p∈ts,TaskOk P nt l fr E ed svs' M' p
 | [],svs,M,h=>⟨svs,M,fun _ _ h=>h,fun _ _ h=>h,h,fun p hp=>by simp at hp⟩
 | (i,D)::ts,svs,M,h=>by
  obtain ⟨o,ob,s,h1,h2,h3,h4,h5⟩:=h
  have hself:Q1 ((i,s)::svs) i=some s:=by show cond (Nat.beq i i) _ _=_;rw [Nat.beq_refl];rfl
  rcases h5 with ⟨h6,h7,h8⟩ | ⟨h6,ob',h7,h9,h8⟩
  ·obtain ⟨svs',M',g1,g2,g3,g4⟩:=D52 h8
   refine ⟨svs',M',fun j x hj=>g1 j x (B44 h4 hj),g2,g3,fun p hp=>?_⟩
   rcases List.mem_cons.1 hp with rfl | hp
   ·exact ⟨ob,s,g2 _ _ h2,g1 _ _ hself,o,_,h1,(D27 h3).mono (fun j x hj=>g1 j x (B44 h4 hj)),.inl ⟨h6,h7⟩⟩
   ·exact g4 p hp
  ·obtain ⟨svs',M',g1,g2,g3,g4⟩:=D52 h8
   have hM:V2 ((B10 i D,ob')::M) (B10 i D)=some ob':=by show cond (A43 _ _) _ _=_;rw [D51];rfl
   refine ⟨svs',M',fun j x hj=>g1 j x (B44 h4 hj),fun D' ob2 hD=>g2 _ _ (E59 h9 hD),g3,fun p hp=>?_⟩
   rcases List.mem_cons.1 hp with rfl | hp
   ·exact ⟨ob,s,g2 _ _ (E59 h9 h2),g1 _ _ hself,o,_,h1,(D27 h3).mono (fun j x hj=>g1 j x (B44 h4 hj)),.inr ⟨h6,ob',h7,ob',g2 _ _ hM,fun _ _ h=>h⟩⟩
   ·exact g4 p hp
theorem E60 {l:List Oper} {fr:Fr} {E:List Nat} {ed:Ed} {svs:Sv} {M:Mo}:∀{ts:List (Nat × List Nat)},B12 P nt l fr E ed svs M ts→∀p∈ts,TaskOk P nt l fr E ed svs M p
 | [],_,p,hp=>by simp at hp
 | (i,D)::ts,h,p,hp=>by
  obtain ⟨⟨o,ob,s,h1,h2,h3,h4,h5⟩,h6⟩:=h
  rcases List.mem_cons.1 hp with rfl | hp
  ·rcases h5 with ⟨g1,g2⟩ | ⟨g1,ob',obT,g2,g3,g4⟩
   ·exact ⟨ob,s,h2,h4,o,_,h1,D27 h3,.inl ⟨g1,g2⟩⟩
   ·exact ⟨ob,s,h2,h4,o,_,h1,D27 h3,.inr ⟨g1,ob',g2,obT,g3,g4⟩⟩
  ·exact E60 h6 p hp
def F22 (ed:Ed):List Nat:=ed.flatMap fun p=>p.2.2
def edOk (E:List Nat) (ed:Ed):Bool:=E.all fun e=>ed.any fun p=>Nat.beq p.1 e
theorem D53:∀{ed:Ed} {e:Nat},(ed.any fun p=>Nat.beq p.1 e)=true→(e,m6 ed e)∈ed
 | [],_,h=>by simp at h
 | (i,x)::r,e,h=>by
  by_cases hie:i=e
  ·subst hie
   have:m6 ((i,x)::r) i=x:=by show cond (Nat.beq i i) _ _=_;rw [Nat.beq_refl];rfl
   rw [this];exact List.mem_cons_self ..
  ·have h1:m6 ((i,x)::r) e=m6 r e:=by show cond (Nat.beq i e) _ _=_;rw [I2 hie];rfl
   rw [h1]
   simp only [List.any_cons,I2 hie,Bool.false_or] at h
   exact List.mem_cons_of_mem _ (D53 h)
def Fin2 (P:Program) (nt:Nat) (l:List Oper) (fr:Fr) (E:List Nat) (ed:Ed) (T2:List (Nat × List Nat)) (Q:Post) (svs:Sv) (M:Mo):Prop :=
 (B65 l l.toArray svs fr ed&&(List.range l.length).all fun j=>(Q1 svs j).isSome)=true∧B12 P nt l fr E ed svs M T2∧∃obE,V2 M E=some obE∧Q .normal (Y3 (F22 ed) (B56 l svs fr)) obE
theorem U8 {id:Nat} {l:List Oper} {fr:Fr} {ob0:Obs} {Q:Post} (E:List Nat) (Ms:List (List Nat)) (ed:Ed) (T1 T2:List (Nat × List Nat)) (hm:P.follows .mixedOrders=true)
  (hB:(conf2 nt l E Ms ed (T1++T2)&&edOk E ed)=true) (h:B66 P nt l fr E ed (Fin2 P nt l fr E ed T2 Q) T1 [] [([],ob0)]):WpC P nt (.region id l.toArray true) fr ob0 Q:=by
 simp only [J18] at hB
 obtain ⟨svs,M,h1,h2,⟨h3,h4,obE,h5,h6⟩,h7⟩:=D52 h
 simp only [J18] at h3
 refine c_core E Ms ed (T1++T2) svs M hm hB.1 (fun e he=>⟨m6 ed e,D53 (List.all_eq_true.1 hB.2 e he),rfl⟩) h3.1 (h2 [] ob0 rfl) (fun p hp=>?_) h5 (fun t s ht=>?_) h6
 ·rcases List.mem_append.1 hp with hp | hp
  ·exact h7 p hp
  ·exact E60 h4 p hp
 ·obtain ⟨hk,h8⟩:=getF_dropK.1 ht
  refine ⟨fun e he hin=>hk ?_,?_⟩
  ·have:=D53 (List.all_eq_true.1 hB.2 e he)
   exact List.mem_flatMap.2 ⟨_,this,hin⟩
  ·rcases D50 h8 with ⟨j,o,g1,g2,g3⟩ | ⟨g1,g2⟩
   ·exact .inl ⟨j,o,g2,g3,g1⟩
   ·refine .inr ⟨fun hin=>?_,g1⟩
    obtain ⟨j,o,g3,g4⟩:=C17 hin
    have:=List.all_eq_true.1 h3.2 j (List.mem_range.2 (List.getElem?_eq_some_iff.1 g3).1)
    exact g2 j o (fun e=>by rw [e] at this;cases this) g3 g4
theorem E5 {l:List Oper} {fr:Fr} {E:List Nat} {ed:Ed} {K:Sv→Mo→Prop} {i:Nat} {D:List Nat} {ts:List (Nat × List Nat)} {svs:Sv} {M:Mo} {o:Oper} {ob:Obs} {s:SV} (ho:l[i]?=some o) (hM:V2 M D=some ob) (hu:A44 l svs o=true)
  (hv:Q1 svs i=none) (ht:U1 E i=false) (h:Neu P o (W9 (B56 l svs fr) (t7 o.op)) ob (fun s'=>s'=s)) (k:B66 P nt l fr E ed K ts ((i,s)::svs) M):B66 P nt l fr E ed K ((i,D)::ts) svs M :=
 ⟨o,ob,s,ho,hM,hu,.inl hv,.inl ⟨ht,h,k⟩⟩
theorem d9 {l:List Oper} {fr:Fr} {E:List Nat} {ed:Ed} {K:Sv→Mo→Prop} {i:Nat} {D:List Nat} {ts:List (Nat × List Nat)} {svs:Sv} {M:Mo} {o:Oper} {ob ob':Obs} {s:SV} (ho:l[i]?=some o) (hM:V2 M D=some ob) (hu:A44 l svs o=true)
  (hv:Q1 svs i=none) (ht:U1 E i=true) (h:EffR P nt o (W9 (B56 l svs fr) (t7 o.op)) (m6 ed i).1 (m6 ed i).2 ob ob' s) (hn:V2 M (B10 i D)=none) (k:B66 P nt l fr E ed K ts ((i,s)::svs) ((B10 i D,ob')::M)):B66 P nt l fr E ed K ((i,D)::ts) svs M :=
 ⟨o,ob,s,ho,hM,hu,.inl hv,.inr ⟨ht,ob',h,hn,k⟩⟩
theorem E61 {l:List Oper} {fr:Fr} {E:List Nat} {ed:Ed} {T2:List (Nat × List Nat)} {Q:Post} {svs:Sv} {M:Mo} {obE:Obs} (h1:(B65 l l.toArray svs fr ed&&(List.range l.length).all fun j=>(Q1 svs j).isSome)=true) (h2:V2 M E=some obE)
  (h3:B12 P nt l fr E ed svs M T2) (h4:Q .normal (Y3 (F22 ed) (B56 l svs fr)) obE):B66 P nt l fr E ed (Fin2 P nt l fr E ed T2 Q) [] svs M:=⟨h1,h3,obE,h2,h4⟩
theorem L7 {l:List Oper} {fr:Fr} {E:List Nat} {ed:Ed} {i:Nat} {D:List Nat} {ts:List (Nat × List Nat)} {svs:Sv} {M:Mo} {o:Oper} {ob:Obs} {s:SV} (ho:l[i]?=some o) (hM:V2 M D=some ob) (hu:A44 l svs o=true)
  (hv:Q1 svs i=some s) (ht:U1 E i=false) (h:Neu P o (W9 (B56 l svs fr) (t7 o.op)) ob (fun s'=>s'=s)) (k:B12 P nt l fr E ed svs M ts):B12 P nt l fr E ed svs M ((i,D)::ts) :=
 ⟨⟨o,ob,s,ho,hM,hu,hv,.inl ⟨ht,h⟩⟩,k⟩
theorem D54 {l:List Oper} {fr:Fr} {E:List Nat} {ed:Ed} {svs:Sv} {M:Mo}:B12 P nt l fr E ed svs M []:=trivial
theorem Z6 {U frc:Fr} (hU:D49 U frc) {x:Operand} {s:SV} (h:opv U x=some s):opv frc x=some s:=by
 cases x with
 | tmp t =>
  have h:A97 U t=some s:=h
  obtain ⟨h1,h2⟩:=E49 h
  show A97 frc t=some s
  unfold A97
  have:Nat.blt t 1000000=true:=by simpa using h1
  rw [this];exact hU t s h2
 | _=>exact h
theorem argsU {U frc:Fr} (hU:D49 U frc):∀{xs:List Operand} {ps:List S1},A42 U xs=some ps→A42 frc xs=some ps
 | [],ps,h=>h
 | x :: r,ps,h=>by
  unfold A42 at h ⊢
  cases hx:opv U x with
  | none=>rw [hx] at h;cases h
  | some sv =>
   rw [hx] at h
   cases sv with
   | s s0 =>
    simp only at h
    cases hr:A42 U r with
    | none=>rw [hr] at h;cases h
    | some qs =>
     rw [hr] at h
     rw [Z6 hU hx]
     simp only
     rw [argsU hU hr];exact h
   | _=>cases h
theorem E62 {U:Fr} {op:Op} {ty:TypeId} {pos:String} {af:Array Edge} {ob ob':Obs} (h:∀frc,D49 U frc→Eff P ⟨none,op,ty,pos,af,none⟩ frc ob frc ob'):EffR P nt ⟨none,op,ty,pos,af,none⟩ U [] [] ob ob' .any:=by
 intro frc hU _ S G a w hn hs
 have:=h frc hU S G a w hs
 have hdk:Y3 [] frc=frc:=by unfold Y3;exact List.filter_eq_self.2 fun p _=>rfl
 have imp:∀(v:Value) (w':World),(∃G',Sim P S frc ob' G' a w')→∃G',Sim P S (Y3 [] frc) ob' G' a w'∧∀d,(none:Option Tmp)=some d→SV.rep (E7 (Mut S ob' G') w') G' .any v:=fun v w' ⟨G',h⟩=>⟨G',by rw [hdk];exact h,fun d hd=>by cases hd⟩
 unfold Does at this ⊢
 generalize (execOp a.eval _).run P w=r at *
 cases r with
 | ok n w' =>
  cases n<;>simp only at this ⊢<;>try exact this.elim
  case value v=>exact imp v w' this
  case skip=>exact imp undef w' this
  case enter f args=>exact this.mono fun e w'' ⟨v,he,hv⟩=>⟨v,he,imp v w'' hv⟩
 | halt x w'=>exact this
theorem C60 {U:Fr} {k:Nat} {kills:List Nat} {o:Oper} {ob ob':Obs} {s:SV} (h:∀frc,D49 U frc→EffV P o frc ob s (Fr.forget k frc) ob'):EffR P nt o U [k] kills ob ob' s:=by
 intro frc hU hfree S G a w hn hs
 have:=h frc hU S G a w hs
 have imp:∀(v:Value) (w':World),(∃G',Sim P S (Fr.forget k frc) ob' G' a w'∧s.rep (E7 (Mut S ob' G') w') G' v)→∃G',Sim P S (Y3 kills frc) ob' G' a w'∧∀d,o.dst=some d→s.rep (E7 (Mut S ob' G') w') G' v:=fun v w' ⟨G',h,hr⟩=>⟨G',h.weaken (fun t x ht=>by
  obtain ⟨hk,ht⟩:=getF_dropK.1 ht
  rw [P1,ht]
  simp [SV.forget_free (hfree k (by simp) t x ht hk)]),fun _ _=>hr⟩
 unfold Does at this ⊢
 generalize (execOp a.eval _).run P w=r at *
 cases r with
 | ok n w' =>
  cases n<;>simp only at this ⊢<;>try exact this.elim
  case value v=>exact imp v w' this
  case skip=>exact imp undef w' this
  case enter f args=>exact this.mono fun e w'' ⟨v,he,hv⟩=>⟨v,he,imp v w'' hv⟩
 | halt x w'=>exact this
theorem B67:∀{ks:List Nat} {fr:Fr} {t:Nat} {x:SV},D7 fr t=some x→(∀k∈ks,x.free k=true)→D7 (E1 ks fr) t=some x
 | [],_,_,_,h,_=>h
 | k::ks,fr,t,x,h,hf=>by
  show D7 (E1 ks (Fr.forget k fr)) t=some x
  refine B67 ?_ (fun k' hk'=>hf k' (List.mem_cons_of_mem _ hk'))
  rw [P1,h]
  simp [SV.forget_free (hf k (List.mem_cons_self ..))]
theorem r_met {f:FuncId} {xs:List Operand} {ats:Array TypeId} {d:Nat} {ty:TypeId} {pos:String} {af:Array Edge} {U:Fr} {args:List S1} {ks kills:List Nat} {ob ob':Obs} {rs:List S1}
  (hf:∀gf,Met P f args gf ob ks (fun rs' ob''=>rs'=rs∧ob''=ob')) (ha:A42 U xs=some args) (hc:xs.all J1=true):EffR P nt ⟨some d,.call ⟨.value (.func f),xs.toArray,ats⟩,ty,pos,af,none⟩ U ks kills ob ob' (resS rs):=by
 intro frc hU hfree S G a w hn h
 have hvals:=y3 h xs args (argsU hU ha) hc
 obtain ⟨gv,hgv⟩:∃gv:Nat→Value,gv=fun i=>S.sl a (i - 1000000):=⟨_,rfl⟩
 let S':Ctx:={ S with gv:=gv }
 have hhigh:High (shF frc):=fun i s hi=>(d7 frc i s hi).1
 have hfacts0:∀i s,D7 (shF frc) i=some s→s.rep (E7 (Mut S' ob G) w) G (S'.sl a i):=by
  intro i s hi
  obtain ⟨h7,h8⟩:=d7 frc i s hi
  rw [Ctx.sl_ge h7]
  show s.rep _ _ (gv i)
  have e:=congrFun hgv i
  rw [e]
  exact h.facts (i - 1000000) s h8
 have hs:Sim P S' (shF frc) ob G a w:={ h with facts:=hfacts0 }
 have hcalls:=(hf (shF frc)).2 hhigh S' G a w _ hs hvals
 have he:(execOp a.eval ⟨some d,.call ⟨.value (.func f),xs.toArray,ats⟩,ty,pos,af,none⟩).run P w=.ok (.enter f (xs.map a.eval).toArray) w:=by
  have:=S8 (P:=P) (f:=f) (args:=(xs.map a.eval).toArray) (w:=w) (hf []).1
  have hm:xs.toArray.map a.eval=(xs.map a.eval).toArray:=by simp
  simp only [execOp,resolve,Act.eval,Deferred.ofValue,Sem.run_bind,Sem.run_pure,Result.andThen_ok,invoke]
  rw [show (#[]:Array Value)++Array.map a.eval xs.toArray++#[]=(xs.map a.eval).toArray by rw [←hm];simp]
  exact this
 unfold Does
 rw [he]
 refine hcalls.mono ?_
 rintro e w' ⟨v,rs',ob'',G',rfl,⟨rfl,rfl⟩,hres,hs'⟩
 have hfacts:∀i s,D7 (E1 ks frc) i=some s→s.rep (E7 (Mut S ob'' G') w') G' (S.sl a i):=by
  intro i s hi
  have h7:=hs'.facts (i+1000000) s (by rw [t6];exact D26 hi)
  have h8:1000000≤i+1000000:=Nat.le_add_left _ _
  rw [Ctx.sl_ge h8] at h7
  have h7:s.rep (E7 (Mut S ob'' G') w') G' (gv (i+1000000)):=h7
  have e:=congrFun hgv (i+1000000)
  simp only [Nat.add_sub_cancel] at e
  rw [e] at h7
  exact h7
 have hsim:Sim P S (E1 ks frc) ob'' G' a w':={ hs' with facts:=hfacts }
 refine ⟨v,rfl,G',hsim.weaken (fun t x ht=>?_),fun _ _=>hres⟩
 obtain ⟨hk,ht⟩:=getF_dropK.1 ht
 exact B67 ht (fun k hkk=>hfree k hkk t x ht hk)
end
end Go.AL
namespace Go.AL
open Go Go.RowKit
set_option linter.unusedVariables false
section
variable {P:Program} {nt:Nat} {fr:Fr} {ob:Obs}
theorem J08 (k:Nat) (α:Type) (ec:Nat) (c:α→Nat→Cell) (e:TypeId) {kb o n m:Nat} {ts:List TC} (hb:C1 ob kb=some (.tarr n m ts)) (hts:ts[o]?=some (.p (.v (.slice none 0 0)))) (hf:(H6 k fr&&I4 k ob)=true) :
  Sees P nt fr ob fr ((kb,.tarr n m (ts.set o (.buf k α ec c [])))::(k,.spare 0 ec e)::ob):=by
 simp only [J18] at hf
 obtain ⟨h1,h2⟩:=hf
 obtain ⟨h4,h5,hp⟩:=S9 h2
 intro S G a w hn h
 have h6:=h.new hp (o:=.spare 0 ec e) (u:=.slice none 0 0) (w1:=w) h5 (Below.refl _ _) (fun b hb=>by simp [blk] at hb) ⟨[],World.ownsRow_nil w _ _ _⟩
 rw [U7 h1,h4] at h6
 have hkb:k≠kb:=fun he=>by rw [he,hb] at h5;cases h5
 have hb':C1 ((k,Ob.spare 0 ec e)::ob) kb=some (.tarr n m ts):=by rw [B0 hkb];exact hb
 obtain ⟨b,vs,t,hg,hl,hh,hlen,ha⟩:=h6.obs kb _ hb'
 have hbk:blk (upd G k (.slice none 0 0) kb)=some b:=by rw [hg];rfl
 refine ⟨_,h6.retell hb' hbk (fun i=>⟨hbk,trivial⟩) (fun i=>⟨hbk,trivial⟩) ?_⟩
 rintro rd ⟨b',vs',t',hg',hl',hh',hlen',ha'⟩
 refine ⟨b',vs',t',hg',hl',hh',by simpa using hlen',I90 o (fun z hz=>?_) ha'⟩
 obtain ⟨z',hz1,hz2⟩:=ha'.get o _ hts
 rw [hz] at hz1;cases hz1
 rw [hz2.1]
 exact ⟨(I7 _ _ _).symm,N3 α ec c⟩
end
end Go.AL
namespace Go.AL
open Go Go.RowKit
set_option linter.unusedVariables false
def H33 (L:Obs):List Nat:=L.map (·.1)
theorem B45 {L cur rest:Obs} (h:ObIn cur L) (hr:∀j x,U1 (H33 L) j=false→C1 rest j=some x→C1 cur j=some x):∀j x,C1 (L++rest) j=some x→C1 cur j=some x:=by
 have key:∀(L:Obs) (j:Nat) (x:Ob),C1 (L++rest) j=some x→(C1 L j=some x)∨(U1 (H33 L) j=false∧C1 rest j=some x):=by
  intro L
  induction L with
  | nil=>intro j x hx;exact .inr ⟨rfl,hx⟩
  | cons p r ih =>
   obtain ⟨k,o⟩:=p
   intro j x hx
   have hx:C1 ((k,o)::(r++rest)) j=some x:=hx
   by_cases hk:k=j
   ·subst hk;rw [C7] at hx;left;rw [C7];exact hx
   ·rw [B0 hk] at hx
    rcases ih j x hx with h1 | ⟨h1,h2⟩
    ·left;rw [B0 hk];exact h1
    ·right
     refine ⟨?_,h2⟩
     cases hh:U1 (H33 ((k,o)::r)) j
     ·rfl
     ·rcases List.mem_cons.1 (hasN_iff.1 hh) with q | q
      ·exact absurd q.symm hk
      ·rw [show U1 (H33 r) j=true from hasN_iff.2 q] at h1;cases h1
 intro j x hx
 rcases key L j x hx with h1 | ⟨h1,h2⟩
 ·exact h.spec j x h1
 ·exact hr j x h1 h2
theorem B13 {K:List Nat} {rest:Obs}:∀j x,U1 K j=false→C1 rest j=some x→C1 rest j=some x:=fun _ _ _ h=>h
theorem B14 {K:List Nat} {T rest:Obs} {k:Nat} {o:Ob} (hk:U1 K k=true) (h:∀j x,U1 K j=false→C1 rest j=some x→C1 T j=some x):∀j x,U1 K j=false→C1 rest j=some x→C1 ((k,o)::T) j=some x:=by
 intro j x hj hx
 have:k≠j:=fun e=>by rw [e,hj] at hk;cases hk
 rw [B0 this];exact h j x hj hx
theorem obs_fgt {K:List Nat} {T ob:Obs} (k:Nat) (h:∀j x,U1 K j=false→C1 (Obs.forget k ob) j=some x→C1 T j=some x):∀j x,U1 K j=false→C1 (Obs.forget k ob) j=some x→C1 (Obs.forget k T) j=some x:=by
 intro j x hj hx
 have h1:=h j x hj hx
 rw [P2,h1]
 have h2:=hx
 rw [←Obs.forget_idem,P2,hx] at h2
 exact h2
theorem F82 {rest:Obs}:∀{L:Obs} {j:Nat} {x:Ob},C1 (L++rest) j=some x→C1 L j=some x∨C1 rest j=some x
 | [],j,x,hx=>.inr hx
 | (k,o)::r,j,x,hx=>by
  have hx:C1 ((k,o)::(r++rest)) j=some x:=hx
  by_cases hk:k=j
  ·subst hk;rw [C7] at hx;left;rw [C7];exact hx
  ·rw [B0 hk] at hx
   rcases F82 hx with h1 | h1
   ·left;rw [B0 hk];exact h1
   ·exact .inr h1
section
variable {P:Program} {nt:Nat} {fr gf:Fr} {ob:Obs}
theorem J11 (k:Nat) {l:Fr} {L:Obs} (hl:FrLe fr l) (hH:High gf) (ht:Tail gf fr) (hL:ObIn ob L):Sees P nt fr ob (l++Fr.forget k gf) (L++Obs.forget k ob):=by
 intro S G a w hn h
 have hget:∀k' o1,C1 (L++Obs.forget k ob) k'=some o1→∃o0,C1 ob k'=some o0∧(o1=o0∨o1=o0.forget k):=by
  intro k' o1 hk'
  rcases F82 hk' with h1 | h1
  ·exact ⟨o1,hL.spec k' o1 h1,.inl rfl⟩
  ·rw [P2] at h1
   cases hg:C1 ob k' with
   | none=>rw [hg] at h1;cases h1
   | some o0=>rw [hg] at h1;cases h1;exact ⟨o0,rfl,.inr rfl⟩
 have hrd:∀b i z,E7 (Mut S ob G) w b i z→E7 (Mut S (L++Obs.forget k ob) G) w b i z:=by
  intro b i z hr
  refine ⟨hr.1,fun hm=>hr.2 ?_⟩
  rcases hm with hm | ⟨k',o1,hk',hb⟩
  ·exact .inl hm
  ·obtain ⟨o0,h0,rfl | rfl⟩:=hget k' o1 hk'
   ·exact .inr ⟨k',_,h0,hb⟩
   ·exact .inr ⟨k',o0,h0,Own_forget.1 hb⟩
 refine ⟨G,{ h with old:=?_,dis:=?_,obs:=?_,facts:=?_ }⟩
 ·intro k' o1 b hk' hb
  obtain ⟨o0,h0,_⟩:=hget k' o1 hk'
  exact h.old k' o0 b h0 hb
 ·intro k1 k2 o1 o2 b h1 h2 hb1 hb2
  obtain ⟨oa,ha,_⟩:=hget k1 o1 h1
  obtain ⟨ob',hb',_⟩:=hget k2 o2 h2
  exact h.dis k1 k2 oa ob' b ha hb' hb1 hb2
 ·intro k' o1 hk'
  obtain ⟨o0,h0,rfl | rfl⟩:=hget k' o1 hk'
  ·exact (h.obs k' _ h0).ext hrd (Below.refl _ _)
  ·exact ((h.obs k' o0 h0).ext hrd (Below.refl _ _)).forget (fun _ _=>rfl)
 ·intro i s hi
  rw [X2] at hi
  cases hg:D7 l i with
  | some s0 =>
   rw [hg] at hi
   have hi:some s0=some s:=hi
   cases hi
   obtain ⟨s1,h1,h2⟩:=hl.spec i _ hg
   exact h2.rep (SV.rep_mono hrd (h.facts i s1 h1))
  | none =>
   rw [hg] at hi
   have hi:D7 (Fr.forget k gf) i=some s:=hi
   rw [P1] at hi
   cases hgf:D7 gf i with
   | none=>rw [hgf] at hi;cases hi
   | some s0 =>
    rw [hgf] at hi;cases hi
    exact SV.rep_forget (fun _ _=>rfl) (SV.rep_mono hrd (h.facts i s0 (ht i s0 (hH i s0 hgf) hgf)))
end
end Go.AL
namespace Go.AL
open Go Go.RowKit
set_option linter.unusedVariables false
section
variable {P:Program} {nt:Nat} {fr:Fr} {ob:Obs} {dst:Option Tmp} {ty:TypeId} {pos:String} {af:Array Edge} {gd:Option (Nat × Bool)}
theorem Sim.retold {S:Ctx} {G:Gh} {a:Act} {w:World} (h:Sim P S fr ob G a w) {k:Nat} {o o':Ob} (hk:C1 ob k=some o) (hown:∀b i,Own (G k) o' b i→Own (G k) o b i)
  (ho:∀rd:Rd,ObOk S rd G w (G k) o→ObOk S rd G w (G k) o'):Sim P S fr ((k,o')::ob) G a w:=by
 have hget:∀k' o1,C1 ((k,o')::ob) k'=some o1→∃o0,C1 ob k'=some o0∧∀b i,Own (G k') o1 b i→Own (G k') o0 b i:=by
  intro k' o1 hk'
  by_cases hkk:k'=k
  ·subst hkk;rw [C7] at hk';cases hk';exact ⟨_,hk,hown⟩
  ·rw [B0 (Ne.symm hkk)] at hk';exact ⟨_,hk',fun _ _ ho=>ho⟩
 have hrd:∀b i z,E7 (Mut S ob G) w b i z→E7 (Mut S ((k,o')::ob) G) w b i z:=by
  intro b i z hr
  refine ⟨hr.1,fun hm=>hr.2 ?_⟩
  rcases hm with hm | ⟨k',o1,hk',hb⟩
  ·exact .inl hm
  ·obtain ⟨o0,h0,hi⟩:=hget k' o1 hk'
   exact .inr ⟨k',o0,h0,hi _ _ hb⟩
 refine { h with old:=?_,dis:=?_,obs:=?_,facts:=?_ }
 ·intro k' o1 b hk' hb
  obtain ⟨o0,h0,_⟩:=hget k' o1 hk'
  exact h.old k' o0 b h0 hb
 ·intro k1 k2 o1 o2 b h1 h2 hb1 hb2
  obtain ⟨oa,ha,_⟩:=hget k1 o1 h1
  obtain ⟨ob',hb',_⟩:=hget k2 o2 h2
  exact h.dis k1 k2 oa ob' b ha hb' hb1 hb2
 ·intro k' o1 hk'
  by_cases hkk:k'=k
  ·subst hkk;rw [C7] at hk';cases hk'
   exact ho _ ((h.obs k' _ hk).ext hrd (Below.refl _ _))
  ·rw [B0 (Ne.symm hkk)] at hk'
   exact (h.obs k' o1 hk').ext hrd (Below.refl _ _)
 ·intro i s hi
  exact SV.rep_mono hrd (h.facts i s hi)
end
end Go.AL
namespace Go.AL
open Go Go.RowKit
set_option linter.unusedVariables false
section
variable {P:Program} {nt:Nat} {fr:Fr} {ob:Obs} {dst:Option Tmp} {ty:TypeId} {pos:String} {af:Array Edge} {gd:Option (Nat × Bool)}
theorem I37 (k:Nat) (α:Type) (c:α→Nat→Cell) {t e:TypeId} {ec bytes:Nat} [ht:TySl P t e ec bytes] (hk:C1 ob k=none) (hp:Nat.blt k 1000000=true) :
  EffV P ⟨dst,.assign (.const (.slice none 0 0)),t,pos,af,gd⟩ fr ob (.s (.one (.mut k))) (Fr.forget k fr) ((k,.grow e α ec c [])::Obs.forget k ob):=by
 intro S G a w h
 refine H8 (w':=w) (v:=.slice none 0 0) Z ?_
 have h6:=h.new (by simpa using hp) (o:=.grow e α ec c []) (u:=.slice none 0 0) (w1:=w) hk (Below.refl _ _) (fun b hb=>by simp [blk] at hb) ⟨[],World.ownsRow_nil w _ _ _,by simp,fun i hi=>absurd hi (by simp)⟩
 exact ⟨upd G k (.slice none 0 0),h6,(I7 _ _ _).symm,rfl⟩
theorem tail_drop {gf:Fr} {ks:List Nat} (hk:(ks.all fun k=>Nat.blt k 1000000)=true) (h:Tail gf fr):Tail gf (Y3 ks fr):=fun i s hi hg=>by
 refine getF_dropK.2 ⟨fun hin=>?_,h i s hi hg⟩
 have:=List.all_eq_true.1 hk i hin
 have:i < 1000000:=by simpa using this
 omega
end
end Go.AL
namespace Go.AL
open Go Go.RowKit
set_option linter.unusedVariables false
section
variable {P:Program} {nt:Nat} {fr:Fr} {ob:Obs} {dst:Option Tmp} {ty:TypeId} {pos:String} {af:Array Edge} {gd:Option (Nat × Bool)}
theorem Sim.freezeG {S:Ctx} {G:Gh} {a:Act} {w:World} (h:Sim P S fr ob G a w) {k:Nat} {α:Type} {ec:Nat} {c:α→Nat→Cell} {xs:List α} {e:TypeId} (hk:C1 ob k=some (.grow e α ec c xs)) (hec:0 < ec) :
  Sim P S (I88 (SV.freeze k α ec c xs) fr) (I84 (Ob.freeze k α ec c xs) (Obs.drop k ob)) G a w:=by
 have hd:=h.drop k
 obtain ⟨vs,hown,hlen,hc⟩:=h.obs k _ hk
 have hget:∀k' o,C1 (I84 (Ob.freeze k α ec c xs) (Obs.drop k ob)) k'=some o→∃o0,C1 (Obs.drop k ob) k'=some o0∧o=o0.freeze k α ec c xs:=by
  intro k' o hk'
  rw [A40] at hk'
  cases hg':C1 (Obs.drop k ob) k' with
  | none=>simp [hg'] at hk'
  | some o0=>simp [hg'] at hk';exact ⟨o0,rfl,hk'.symm⟩
 have hownf:∀(u:Value) (o:Ob) (b i:Nat),Own u (o.freeze k α ec c xs) b i↔Own u o b i:=by intro u o b i;cases o<;>simp [Own,Ob.freeze]
 have hmut:∀b i,Mut S (I84 (Ob.freeze k α ec c xs) (Obs.drop k ob)) G b i→Mut S (Obs.drop k ob) G b i:=by
  intro b i hm
  rcases hm with hm | ⟨k',o,hk',hb⟩
  ·exact .inl hm
  ·obtain ⟨o0,h0,rfl⟩:=hget k' o hk'
   exact .inr ⟨k',o0,h0,(hownf _ _ _ _).1 hb⟩
 have hrd:∀b i z,E7 (Mut S (Obs.drop k ob) G) w b i z→E7 (Mut S (I84 (Ob.freeze k α ec c xs) (Obs.drop k ob)) G) w b i z:=fun b i z hr=>⟨hr.1,fun hm=>hr.2 (hmut b i hm)⟩
 have hrd0:∀b i z,E7 (Mut S ob G) w b i z→E7 (Mut S (Obs.drop k ob) G) w b i z:=by
  intro b i z hr
  refine ⟨hr.1,fun hm=>hr.2 ?_⟩
  rcases hm with hm | ⟨k',o',hk',hb⟩
  ·exact .inl hm
  ·refine .inr ⟨k',o',?_,hb⟩
   by_cases hkk:k'=k
   ·subst hkk;rw [R4] at hk';cases hk'
   ·rwa [M4 hkk] at hk'
 have hlist:(Cell.list α ec c xs).rep (E7 (Mut S (I84 (Ob.freeze k α ec c xs) (Obs.drop k ob)) G) w) (G k):=by
  refine x5 hown hec hlen ?_ (fun i hi j hj=>let ⟨z,h1,h2⟩:=hc i hi j hj;⟨z,h1,Cell.rep_mono (fun _ _ _ hr=>hrd _ _ _ (hrd0 _ _ _ hr)) _ _ h2⟩)
  intro g hg j z hj hcell
  refine ⟨hcell,fun hm=>?_⟩
  rcases hmut _ _ hm with hm | ⟨k',o',hk',hb,_⟩
  ·have:=h.m0 _ _ hm
   rcases h.old k _ g hk hg with h1 | h1
   ·omega
   ·exact h.m0io _ _ hm h1.1
  ·by_cases hkk:k'=k
   ·subst hkk;rw [R4] at hk';cases hk'
   ·rw [M4 hkk] at hk'
    exact hkk (h.dis k' k o' _ g hk' hk hb hg)
 exact { hd with
  old:=fun k' o b hk'=>let ⟨o0,h0,_⟩:=hget k' o hk';hd.old k' o0 b h0
  dis:=fun k1 k2 o1 o2 b h1 h2=>let ⟨oa,ha,_⟩:=hget k1 o1 h1;let ⟨ob',hb',_⟩:=hget k2 o2 h2;hd.dis k1 k2 oa ob' b ha hb'
  obs:=fun k' o hk'=>by
   obtain ⟨o0,h0,rfl⟩:=hget k' o hk'
   have hob:=(hd.obs k' o0 h0).ext hrd (Below.refl _ _)
   cases o0 with
   | box ts=>obtain ⟨b',vs',t',h1,h2,h3⟩:=hob;exact ⟨b',vs',t',h1,h2,h3.map (TC.freeze k α ec c xs) fun _ _=>TC.rep_freeze hlist⟩
   | tbx e ts=>obtain ⟨b',vs',h1,h2,h3⟩:=hob;exact ⟨b',vs',h1,h2,h3.map (TC.freeze k α ec c xs) fun _ _=>TC.rep_freeze hlist⟩
   | tarr n ec' ts=>obtain ⟨b',vs',t',h1,hl,h2,hn,h3⟩:=hob;exact ⟨b',vs',t',h1,hl,h2,by simpa using hn,h3.map (TC.freeze k α ec c xs) fun _ _=>TC.rep_freeze hlist⟩
   | arr=>exact hob
   | spare=>exact hob
   | grow=>exact hob
   | map=>exact hob
   | growA e' α' ec' c' xs' p ts=>obtain ⟨vs,h1,h2,h3,h4,h5,h6⟩:=hob;exact ⟨vs,h1,h2,h3,by simpa using h4,h5,h6.map (TC.freeze k α ec c xs) fun _ _=>TC.rep_freeze hlist⟩
   | growT e' n' ec' ts=>obtain ⟨vs,h1,h2,h3,h4⟩:=hob;exact ⟨vs,h1,h2,by simpa using h3,h4.map (TC.freeze k α ec c xs) fun _ _=>TC.rep_freeze hlist⟩
  facts:=fun i s hi=>by
   rw [C54] at hi
   cases hg':D7 fr i with
   | none=>simp [hg'] at hi
   | some s0 =>
    simp [hg'] at hi;subst hi
    exact SV.rep_freeze hlist (SV.rep_mono hrd (hd.facts i s0 hg')) }
theorem Sees.freezeG {k:Nat} {α:Type} {ec:Nat} {c:α→Nat→Cell} {xs:List α} {e:TypeId} (hk:C1 ob k=some (.grow e α ec c xs)) (hec:Nat.blt 0 ec=true) :
  Sees P nt fr ob (I88 (SV.freeze k α ec c xs) fr) (I84 (Ob.freeze k α ec c xs) (Obs.drop k ob)):=fun S G a w hn h=>⟨G,h.freezeG hk (by simpa using hec)⟩
end
end Go.AL
namespace Go.AL
open Go Go.RowKit
set_option linter.unusedVariables false
section
variable {P:Program} {nt:Nat} {fr:Fr} {ob:Obs}
theorem I99 {ob':Obs} (ho:∀k o,C1 ob' k=some o→C1 ob k=some o):Sees P nt fr ob fr ob':=fun S G a w hn hs=>⟨G,hs.weakenO ho⟩
theorem J06 (k:Nat) (α:Type) (ec:Nat) (c:α→Nat→Cell) (e:TypeId) {kb o:Nat} {ts:List TC} (hb:C1 ob kb=some (.box ts)) (hts:ts[o]?=some (.p (.v (.slice none 0 0)))) (hf:(H6 k fr&&I4 k ob)=true) :
  Sees P nt fr ob fr ((kb,.box (ts.set o (.mut k)))::(k,.grow e α ec c [])::ob):=by
 simp only [J18] at hf
 obtain ⟨h1,h2⟩:=hf
 obtain ⟨h4,h5,hp⟩:=S9 h2
 intro S G a w hn h
 have h6:=h.new hp (o:=.grow e α ec c []) (u:=.slice none 0 0) (w1:=w) h5 (Below.refl _ _) (fun b hb=>by simp [blk] at hb) ⟨[],World.ownsRow_nil w _ _ _,by simp,fun i hi=>absurd hi (by simp)⟩
 rw [U7 h1,h4] at h6
 have hkb:k≠kb:=fun he=>by rw [he,hb] at h5;cases h5
 have hb':C1 ((k,Ob.grow e α ec c [])::ob) kb=some (.box ts):=by rw [B0 hkb];exact hb
 obtain ⟨b,vs,t,hg,hh,ha⟩:=h6.obs kb _ hb'
 have hbk:blk (upd G k (.slice none 0 0) kb)=some b:=by rw [hg];rfl
 refine ⟨_,h6.retell hb' hbk (fun i=>⟨hbk,trivial⟩) (fun i=>⟨hbk,trivial⟩) ?_⟩
 rintro rd ⟨b',vs',t',hg',hh',ha'⟩
 refine ⟨b',vs',t',hg',hh',I90 o (fun z hz=>?_) ha'⟩
 obtain ⟨z',hz1,hz2⟩:=ha'.get o _ hts
 rw [hz] at hz1;cases hz1
 rw [hz2.1]
 exact ⟨(I7 _ _ _).symm,rfl⟩
end
end Go.AL
namespace Go.AL
open Go Go.RowKit
set_option linter.unusedVariables false
section
variable {P:Program} {nt:Nat} {fr:Fr} {ob:Obs} {dst:Option Tmp} {ty:TypeId} {pos:String} {af:Array Edge} {gd:Option (Nat × Bool)}
end
end Go.AL
namespace Go.AL
open Go Go.RowKit
set_option linter.unusedVariables false
section
variable {P:Program} {fr:Fr} {ob:Obs}
end
end Go.AL
namespace Go.AL
open Go Go.RowKit
set_option linter.unusedVariables false
section
variable {P:Program} {nt:Nat} {fr:Fr} {ob:Obs} {dst:Option Tmp} {ty:TypeId} {pos:String} {af:Array Edge} {gd:Option (Nat × Bool)}
theorem F83 {rd:Rd} {G:Gh}:∀{ts:List TC} {vs:List Value},All2 (TC.rep rd G) ts vs→∀u∈vs,u.oneCell'=true
 | [],[],_,u,hu=>by cases hu
 | t::ts,v::vs,h,u,hu=>by
  rcases List.mem_cons.1 hu with rfl | hu
  ·exact TC.rep_one h.1
  ·exact F83 h.2 u hu
theorem I38 (k:Nat) {t e:TypeId} {ec bytes:Nat} {x:Operand} {s:S1} [ht:TySl P t e ec bytes] (hx:opv fr x=some (.s s)) (hc:J1 x=true) (hsl:s.cells.length=ec) (hecb:Nat.ble ec 100=true)
  (hfs:s.cells.all (TC.free k)=true) (hf:(H6 k fr&&I4 k ob)=true):EffV P ⟨dst,.buildSlice t 1 #[(0,x)],ty,pos,af,gd⟩ fr ob (.s (.one (.mut k))) fr ((k,.tarr 1 ec s.cells)::ob):=by
 simp only [J18] at hf
 obtain ⟨hf1,hf2⟩:=hf
 obtain ⟨hob,hk,hp0⟩:=S9 hf2
 have hfr:=U7 hf1
 intro S G a w h
 have hec:=ht.out.2.2.1
 have hec':ec≤100:=by simpa using hecb
 obtain ⟨_,_,_,_,hzero⟩:=ht.out
 cases hi:P.info? e with
 | none=>simp [hi] at hzero
 | some i =>
 cases hz:i.zero with
 | none=>simp [hi,hz] at hzero
 | some z =>
 have hzv:(P.info? e).bind (·.zero)=some z:=by simp [hi,hz]
 have hcells:=I86 (s:=s) (R9 h hx hc)
 have hlen:(a.eval x).cells.size=ec:=by rw [←hsl,hcells.length];simp
 let cs0:Array Value:=(Array.range (1*ec)).map (z.cells[· % z.cells.size]!)
 have hcs0:cs0.size=ec:=by simp [cs0]
 have hfill:Instr.fill (fun i=>some (i*ec,ec)) cs0 [(0,a.eval x)]=some (a.eval x).cells.toList.toArray:=by
  have hfold:(a.eval x).cells.zipIdx.foldl (fun cs (x:Value × Nat)=>cs.setIfInBounds (0*ec+x.2) x.1) cs0=(cs0.toList.take (0*ec)++(a.eval x).cells.toList++cs0.toList.drop (0*ec+(a.eval x).cells.toList.length)).toArray:=by
   rw [←Array.foldl_toList,Array.toList_zipIdx]
   have:=C05 (0*ec) (a.eval x).cells.toList 0 cs0 (by simp;omega)
   simpa using this
  simp only [Instr.fill,hlen,ne_eq,not_true_eq_false,decide_false,Bool.false_or,decide_eq_true_eq]
  rw [if_neg (by omega),hfold]
  have:cs0.toList.drop (0*ec+(a.eval x).cells.toList.length)=[]:=by rw [List.drop_eq_nil_iff];simp;omega
  rw [this];simp
 refine H8 (w':=w.alloc (.cells (a.eval x).cells.toList.toArray e)) (v:=.slice (some ⟨w.heap.size,0,none⟩) 1 1) ?_ ?_
 ·simp only [execOp]
  refine L1 ?_
  simp only [Instr.buildSlice,Sem.run_bind,run_underlying ht.out.1,Result.andThen_ok,K5 ht.size]
  rw [if_neg (by omega)]
  rw [if_neg (by omega)]
  simp only [Sem.run_bind,R1 hzv,Sem.run_pure,Result.andThen_ok]
  have hp:(#[(0,x)]:Array (Nat × Operand)).map (fun (x:Nat × Operand)=>match x with | (i,x)=>(i,a.eval x))=#[(0,a.eval x)]:=by simp
  rw [hp]
  have hfill':Instr.fill (fun i=>some (i*ec,ec)) ((Array.range (1*ec)).map (z.cells[· % z.cells.size]!)) (#[(0,a.eval x)]:Array (Nat × Value)).toList=some (a.eval x).cells.toList.toArray:=hfill
  rw [hfill']
  simp [newRow]
 ·have hxw:Below w.heap.size w (w.alloc (.cells (a.eval x).cells.toList.toArray e)):=(Below.refl _ _).alloc (Nat.le_refl _) _
  have hu:∀b,blk (.slice (some ⟨w.heap.size,0,none⟩) 1 1)=some b→w.heap.size≤b:=by intro b hb;simp [blk] at hb;omega
  have hsim:=h.new hp0 hk (o:=.tarr 1 ec s.cells) (u:=.slice (some ⟨w.heap.size,0,none⟩) 1 1) hxw hu (by
   refine ⟨w.heap.size,(a.eval x).cells.toList,e,rfl,by omega,heap_alloc_new w _,by rw [hsl];omega,?_⟩
   have h1:All2 (TC.rep (E7 (Mut S ((k,Ob.tarr 1 ec s.cells)::Obs.forget k ob) (upd G k (.slice (some ⟨w.heap.size,0,none⟩) 1 1))) (w.alloc (.cells (a.eval x).cells.toList.toArray e))) G) s.cells (a.eval x).cells.toList :=
    hcells.mono fun _ _=>TC.rep_mono (fun _ _ _ hr=>h.rd_new hxw hu hr)
   have h2:=h1.map (TC.forget k) (fun _ _=>TC.rep_forget (G':=upd G k (.slice (some ⟨w.heap.size,0,none⟩) 1 1)) (fun j hj=>a7 G _ hj))
   rwa [c9 hfs] at h2)
  rw [hfr,hob] at hsim
  exact ⟨_,hsim,(I7 _ _ _).symm,rfl⟩
end
end Go.AL
namespace Go.AL
open Go Go.RowKit
set_option linter.unusedVariables false
def TC.refs:TC→List Nat
 | .buf k _ _ _ _=>[k]
 | .ref k _=>[k]
 | .mut k=>[k]
 | .mref k _ _ _=>[k]
 | .msl k _ _ _=>[k]
 | .clo _ nf nc=>nf.map (·.1)++nc.map (·.1)
 | _=>[]
def S1.refs:S1→List Nat
 | .one t=>t.refs
 | .agg ts=>ts.flatMap TC.refs
def SV.refs:SV→List Nat
 | .s x=>x.refs
 | .tup l=>l.flatMap S1.refs
 | _=>[]
def Ob.refs:Ob→List Nat
 | .box ts=>ts.flatMap TC.refs
 | .tbx _ ts=>ts.flatMap TC.refs
 | .tarr _ _ ts=>ts.flatMap TC.refs
 | .growA _ _ _ _ _ _ ts=>ts.flatMap TC.refs
 | .growT _ _ _ ts=>ts.flatMap TC.refs
 | _=>[]
def F23:Fr→List Nat
 | []=>[]
 | (_,s)::r=>s.refs++F23 r
def D55:Obs→List Nat
 | []=>[]
 | (_,o)::r=>o.refs++D55 r
theorem B15 {G G':Gh}:∀{l:List (Nat × Nat)} {us:List Value},(∀k∈l.map (·.1),G' k=G k)→All2 (C84 G) l us→All2 (C84 G') l us
 | [],[],_,_=>trivial
 | [],_::_,_,h=>h.elim
 | _::_,[],_,h=>h.elim
 | p::l,u::us,hk,h=>by
  obtain ⟨⟨b,h1,h2⟩,h3⟩:=h
  exact ⟨⟨b,by rw [hk p.1 (by simp)];exact h1,h2⟩,B15 (fun k hm=>hk k (by simp at hm ⊢;exact .inr hm)) h3⟩
theorem TC.rep_congr {rd:Rd} {G G':Gh}:∀{t:TC} {u:Value},(∀k∈t.refs,G' k=G k)→t.rep rd G u→t.rep rd G' u
 | .p _,_,_,h=>h
 | .eref _ _ _ _ _,_,_,h=>h
 | .any,_,_,h=>h
 | .full _ _ _ _,_,_,h=>h
 | .buf k _ _ _ _,_,hk,h=>⟨by rw [hk k (by simp [TC.refs])];exact h.1,h.2⟩
 | .ref k _,_,hk,h=>by simp only [TC.rep];rw [hk k (by simp [TC.refs])];exact h
 | .mut k,_,hk,h=>by simp only [TC.rep];rw [hk k (by simp [TC.refs])];exact h
 | .mref k _ _ _,_,hk,h=>by simp only [TC.rep];rw [hk k (by simp [TC.refs])];exact h
 | .msl k _ _ _,_,hk,h=>by simp only [TC.rep];rw [hk k (by simp [TC.refs])];exact h
 | .clo _ nf nc,_,hk,⟨vs,ws,h1,h2,h3⟩=>⟨vs,ws,h1,B15 (fun k hm=>hk k (by simp only [TC.refs,List.mem_append];exact .inl hm)) h2,B15 (fun k hm=>hk k (by simp only [TC.refs,List.mem_append];exact .inr hm)) h3⟩
theorem Z7 {rd:Rd} {G G':Gh}:∀{ts:List TC} {vs:List Value},(∀k∈ts.flatMap TC.refs,G' k=G k)→All2 (TC.rep rd G) ts vs→All2 (TC.rep rd G') ts vs
 | [],[],_,_=>trivial
 | [],_::_,_,h=>h.elim
 | _::_,[],_,h=>h.elim
 | t::ts,v::vs,hs,h=>⟨TC.rep_congr (fun k hm=>hs k (by rw [List.flatMap_cons];exact List.mem_append.2 (.inl hm))) h.1,Z7 (fun k hm=>hs k (by rw [List.flatMap_cons];exact List.mem_append.2 (.inr hm))) h.2⟩
theorem S1.rep_congr {rd:Rd} {G G':Gh}:∀{t:S1} {u:Value},(∀k∈t.refs,G' k=G k)→t.rep rd G u→t.rep rd G' u
 | .one t,u,hs,h=>TC.rep_congr (t:=t) hs h
 | .agg ts,u,hs,⟨vs,h1,h2⟩=>⟨vs,h1,Z7 hs h2⟩
theorem C88 {rd:Rd} {G G':Gh}:∀{ts:List S1} {vs:List Value},(∀k∈ts.flatMap S1.refs,G' k=G k)→All2 (S1.rep rd G) ts vs→All2 (S1.rep rd G') ts vs
 | [],[],_,_=>trivial
 | [],_::_,_,h=>h.elim
 | _::_,[],_,h=>h.elim
 | t::ts,v::vs,hs,h=>⟨S1.rep_congr (fun k hm=>hs k (by rw [List.flatMap_cons];exact List.mem_append.2 (.inl hm))) h.1,C88 (fun k hm=>hs k (by rw [List.flatMap_cons];exact List.mem_append.2 (.inr hm))) h.2⟩
theorem SV.rep_congr {rd:Rd} {G G':Gh}:∀{t:SV} {u:Value},(∀k∈t.refs,G' k=G k)→t.rep rd G u→t.rep rd G' u
 | .s t,u,hs,h=>S1.rep_congr (t:=t) hs h
 | .tup ts,u,hs,⟨vs,h1,h2⟩=>⟨vs,h1,C88 hs h2⟩
 | .any,_,_,_=>trivial
 | .un,_,_,h=>h
theorem ObOk.congr {S:Ctx} {rd:Rd} {G G':Gh} {w:World} {u:Value} {o:Ob} (hs:∀k∈o.refs,G' k=G k) (h:ObOk S rd G w u o):ObOk S rd G' w u o:=by
 cases o with
 | box ts=>obtain ⟨b,vs,t,h1,h2,h3⟩:=h;exact ⟨b,vs,t,h1,h2,Z7 hs h3⟩
 | tbx e ts=>obtain ⟨b,vs,h1,h2,h3⟩:=h;exact ⟨b,vs,h1,h2,Z7 hs h3⟩
 | tarr n ec ts=>obtain ⟨b,vs,t,h1,h2,h3,h4,h5⟩:=h;exact ⟨b,vs,t,h1,h2,h3,h4,Z7 hs h5⟩
 | growA e α ec c xs p ts=>obtain ⟨vs,h1,h2,h3,h4,h5,h6⟩:=h;exact ⟨vs,h1,h2,h3,h4,h5,Z7 hs h6⟩
 | growT e n ec ts=>obtain ⟨vs,h1,h2,h3,h4⟩:=h;exact ⟨vs,h1,h2,h3,Z7 hs h4⟩
 | arr α ec c xs=>exact h
 | map κ kf kvs=>exact h
 | spare n ec e=>exact h
 | grow e α ec c xs=>exact h
theorem D56:∀{fr:Fr} {i:Nat} {s:SV},D7 fr i=some s→∀k∈s.refs,k∈F23 fr
 | [],i,s,h,_,_=>by cases h
 | (j,x)::r,i,s,h,k,hm=>by
  unfold D7 at h
  unfold F23
  cases hb:Nat.beq j i
  ·rw [hb] at h;exact List.mem_append.2 (.inr (D56 h k hm))
  ·rw [hb] at h;cases h;exact List.mem_append.2 (.inl hm)
theorem B88:∀{ob:Obs} {i:Nat} {o:Ob},C1 ob i=some o→∀k∈o.refs,k∈D55 ob
 | [],i,s,h,_,_=>by cases h
 | (j,x)::r,i,s,h,k,hm=>by
  unfold C1 at h
  unfold D55
  cases hb:Nat.beq j i
  ·rw [hb] at h;exact List.mem_append.2 (.inr (B88 h k hm))
  ·rw [hb] at h;cases h;exact List.mem_append.2 (.inl hm)
theorem E63:∀{a b:Obs} {k:Nat},C1 (a++b) k=match C1 a k with | some o=>some o | none=>C1 b k
 | [],b,k=>rfl
 | (j,x)::r,b,k=>by
  show (bif Nat.beq j k then some x else C1 (r++b) k)=(match (bif Nat.beq j k then some x else C1 r k) with | some o=>some o | none=>C1 b k)
  cases Nat.beq j k
  ·exact E63 (a:=r)
  ·rfl
def newOk (rs:List S1) (ob':Obs) (fr:Fr) (ob:Obs):Bool :=
 (rs.flatMap S1.refs++D55 ob').all (fun k=>(C1 ob' k).isSome)&&(F23 fr++D55 ob).all (fun k=>(C1 ob' k).isNone)&&ob.all (fun p=>(C1 ob' p.1).isNone)
theorem F84:∀{ob:Obs} {k:Nat} {o:Ob},C1 ob k=some o→∃p∈ob,p.1=k
 | [],k,o,h=>by cases h
 | (j,x)::r,k,o,h=>by
  unfold C1 at h
  cases hb:Nat.beq j k
  ·rw [hb] at h;obtain ⟨p,h1,h2⟩:=F84 h;exact ⟨p,List.mem_cons_of_mem _ h1,h2⟩
  ·exact ⟨_,List.mem_cons_self,by simpa using hb⟩
theorem A17 {w:World} {B B':Nat} {e:TypeId} {ec n:Nat} {v:Value} {xs:List Value} (hB:B≤B') (h:w.ownsRow B' e ec v n xs):w.ownsRow B e ec v n xs :=
 ⟨h.1,h.2.imp id fun ⟨b,cap,cur,hg,hb,r⟩=>⟨b,cap,cur,hg,Nat.le_trans hB hb,r⟩⟩
theorem ObOk.low {S S':Ctx} {rd:Rd} {G:Gh} {w:World} {u:Value} {o:Ob} (hB:S.B≤S'.B) (h:ObOk S' rd G w u o):ObOk S rd G w u o:=by
 cases o with
 | box ts=>exact h
 | tbx e ts=>exact h
 | tarr n ec ts=>exact h
 | arr α ec c xs=>exact h
 | map κ kf kvs=>exact h
 | spare n ec e=>obtain ⟨vs,h1⟩:=h;exact ⟨vs,A17 hB h1⟩
 | grow e α ec c xs=>obtain ⟨vs,h1,h2⟩:=h;exact ⟨vs,A17 hB h1,h2⟩
 | growA e α ec c xs p ts=>obtain ⟨vs,h1,h2⟩:=h;exact ⟨vs,A17 hB h1,h2⟩
 | growT e n ec ts=>obtain ⟨vs,h1,h2⟩:=h;exact ⟨vs,A17 hB h1,h2⟩
section
variable {P:Program} {nt:Nat} {ops:Array Oper} {rest:List Oper} {fr:Fr} {ob:Obs} {Q:Post} {d:Nat}
theorem l_new {f:FuncId} {xs:List Operand} {ats:Array TypeId} {ty:TypeId} {pos:String} {af:Array Edge} {args:List S1} {ks:List Nat} {post:List S1→Obs→Prop}
  (hf:Met P f args [] [] ks post) (ha:A42 fr xs=some args) (hc:xs.all J1=true) (hst:(args.flatMap S1.refs).isEmpty=true) (hd:Nat.blt d nt=true)
  (kk:∀rs ob',post rs ob'→newOk rs ob' fr ob=true∧WpL P nt ops rest ((d,resS rs)::fr) (ob'++ob) Q):WpL P nt ops (⟨some d,.call ⟨.value (.func f),xs.toArray,ats⟩,ty,pos,af,none⟩::rest) fr ob Q:=by
 intro S G a w hn h
 have hvals:=y3 h xs args ha hc
 let S':Ctx:={ S with w0:=w,M0:=fun b i=>Mut S ob G b i,io:=fun _=>False }
 have hSB:S'.B=w.heap.size:=rfl
 have hhigh:High ([]:Fr):=fun i s hi=>by cases hi
 have hgrd:Grd P (fun _=>False) w:=by
  obtain ⟨wg,h1,h2,h3⟩:=h.grd
  refine ⟨wg,h1,Nat.le_trans h2 h.size,fun j hj=>?_⟩
  obtain ⟨h4,h5⟩:=h3 j hj
  exact ⟨(h.keep j (Nat.lt_of_lt_of_le hj h2) h5).trans h4,fun e=>e⟩
 have hs:Sim P S' [] [] G a w:={ nt:=h.nt,ntb:=h.ntb,defers:=h.defers,os:=rfl,tape:=rfl,output:=rfl,size:=Nat.le_refl _,keep:=fun _ _ _=>rfl,m0:=fun b i hm=>h.mut_lt hm,m0io:=fun _ _ _ e=>e,grd:=hgrd,pin:=h.pin,old:=fun _ _ _ e=>(by cases e),dis:=fun _ _ _ _ _ e=>(by cases e),obs:=fun _ _ e=>(by cases e),facts:=fun _ _ e=>(by cases e) }
 have hrd0:∀b i z,E7 (Mut S ob G) w b i z→E7 (Mut S' [] G) w b i z:=fun b i z hr=>⟨hr.1,fun hm=>hr.2 (by
  rcases hm with hm | ⟨k,o,hk,_⟩
  ·exact hm
  ·cases hk)⟩
 have hcalls:=hf.2 hhigh S' G a w _ hs (hvals.mono fun _ _=>S1.rep_mono hrd0)
 refine wpList_plain rfl fun K hK=>L8 (K:=fun v w'=>∃rs ob' G',post rs ob'∧A14 (E7 (Mut S' ob' G') w') G' rs v∧Sim P S' (E1 ks []) ob' G' a w') ?_ ?_
 ·have he:(execOp a.eval ⟨some d,.call ⟨.value (.func f),xs.toArray,ats⟩,ty,pos,af,none⟩).run P w=.ok (.enter f (xs.map a.eval).toArray) w:=by
   have:=S8 (P:=P) (f:=f) (args:=(xs.map a.eval).toArray) (w:=w) hf.1
   have hm:xs.toArray.map a.eval=(xs.map a.eval).toArray:=by simp
   simp only [execOp,resolve,Act.eval,Deferred.ofValue,Sem.run_bind,Sem.run_pure,Result.andThen_ok,invoke]
   rw [show (#[]:Array Value)++Array.map a.eval xs.toArray++#[]=(xs.map a.eval).toArray by rw [←hm];simp]
   exact this
  unfold Does
  rw [he]
  refine hcalls.mono ?_
  rintro e w' ⟨v,rs,ob',G',rfl,hpost,hres,hs'⟩
  exact ⟨v,rfl,rs,ob',G',hpost,hres,hs'⟩
 ·rintro v w' ⟨rs,ob',G',hp,hres,hs'⟩
  obtain ⟨hnew,hk3⟩:=kk rs ob' hp
  simp only [newOk,J18,List.all_eq_true,List.mem_append] at hnew
  obtain ⟨⟨n1,n2⟩,n3⟩:=hnew
  have hdj:∀{k o},C1 ob k=some o→C1 ob' k=none:=fun {k o} hk=>by
   obtain ⟨p,p1,p2⟩:=F84 hk
   have:=n3 p p1
   rw [p2] at this;simpa using this
  obtain ⟨H,hH⟩:∃H:Gh,H=fun k=>match C1 ob' k with | some _=>G' k | none=>G k:=⟨_,rfl⟩
  have hH1:∀{k},(C1 ob' k).isSome=true→H k=G' k:=fun {k} hk=>by
   rw [hH];dsimp only
   cases hg:C1 ob' k with
   | none=>rw [hg] at hk;cases hk
   | some o=>rfl
  have hH2:∀{k},(C1 ob' k).isNone=true→H k=G k:=fun {k} hk=>by
   rw [hH];dsimp only
   cases hg:C1 ob' k with
   | none=>rfl
   | some o=>rw [hg] at hk;cases hk
  have hlt:d < S.nt:=by rw [hn];simpa using hd
  have hsz:w.heap.size≤w'.heap.size:=hs'.size
  have hkeep:∀k,k < w.heap.size→w'.heap[k]?=w.heap[k]?:=fun k hk=>hs'.keep k hk (fun e=>e)
  have hold:∀k o b,C1 ob' k=some o→blk (G' k)=some b→w.heap.size≤b:=fun k o b h1 h2=>by
   rcases hs'.old k o b h1 h2 with h3 | h3
   ·exact h3
   ·exact h3.1.elim
  have hcase:∀{k o},C1 (ob'++ob) k=some o→(C1 ob' k=some o∧H k=G' k)∨(C1 ob k=some o∧H k=G k):=fun {k o} hk=>by
   rw [E63] at hk
   cases hg:C1 ob' k with
   | some o'=>rw [hg] at hk;exact .inl ⟨hk,hH1 (by rw [hg];rfl)⟩
   | none=>rw [hg] at hk;exact .inr ⟨hk,hH2 (by rw [hg];rfl)⟩
  have hrd1:∀b i z,E7 (Mut S' ob' G') w' b i z→E7 (Mut S (ob'++ob) H) w' b i z:=fun b i z hr=>⟨hr.1,fun hm=>hr.2 (by
   rcases hm with hm | ⟨k,o,hk,hb⟩
   ·exact .inl (.inl hm)
   ·rcases hcase hk with ⟨k1,e⟩ | ⟨k1,e⟩
    ·rw [e] at hb;exact .inr ⟨k,o,k1,hb⟩
    ·rw [e] at hb;exact .inl (.inr ⟨k,o,k1,hb⟩))⟩
  have hrd2:∀b i z,E7 (Mut S ob G) w b i z→E7 (Mut S (ob'++ob) H) w' b i z:=fun b i z hr=>by
   have hlt:b < w.heap.size:=World.block_lt_of_cell? w _ hr.1
   refine ⟨by rw [World.cell?_of_block (w:=w) (a:=⟨b,i,none⟩) (hkeep b hlt)];exact hr.1,fun hm=>?_⟩
   rcases hm with hm | ⟨k,o,hk,hb⟩
   ·exact hr.2 (.inl hm)
   ·rcases hcase hk with ⟨k1,e⟩ | ⟨k1,e⟩
    ·rw [e] at hb;have:=hold k o b k1 hb.1;omega
    ·rw [e] at hb;exact hr.2 (.inr ⟨k,o,k1,hb⟩)
  have hbelow:Below w.heap.size w w':=⟨hs'.os,hs'.tape,hs'.output,hsz,fun k hk=>hkeep k hk⟩
  have hsim:Sim P S fr (ob'++ob) H a w':=by
   refine { nt:=h.nt,ntb:=h.ntb,defers:=h.defers,os:=hs'.os.trans h.os,tape:=hs'.tape.trans h.tape,output:=hs'.output.trans h.output,size:=Nat.le_trans h.size hsz,keep:=fun k hk hio=>(hkeep k (Nat.lt_of_lt_of_le hk h.size)).trans (h.keep k hk hio),m0:=h.m0,m0io:=h.m0io,grd:=h.grd,pin:=fun k hk=>?_,old:=fun k o b h1 h2=>?_,dis:=fun k k' o o' b h1 h2 h3 h4=>?_,obs:=fun k o hk=>?_,facts:=fun i s hi=>?_ }
   ·cases hg:C1 ob' k with
    | some o=>rw [hH1 (by rw [hg];rfl)];exact hs'.pin k hk
    | none=>rw [hH2 (by rw [hg];rfl)];exact h.pin k hk
   ·rcases hcase h1 with ⟨k1,e⟩ | ⟨k1,e⟩
    ·rw [e] at h2;exact .inl (Nat.le_trans h.size (hold k o b k1 h2))
    ·rw [e] at h2;exact h.old k o b k1 h2
   ·rcases hcase h1 with ⟨k1,e1⟩ | ⟨k1,e1⟩<;>rcases hcase h2 with ⟨k2,e2⟩ | ⟨k2,e2⟩<;>rw [e1] at h3<;>rw [e2] at h4
    ·exact hs'.dis k k' o o' b k1 k2 h3 h4
    ·have:=hold k o b k1 h3
     have:=(h.obs k' o' k2).blk_lt _ h4
     omega
    ·have:=hold k' o' b k2 h4
     have:=(h.obs k o k1).blk_lt _ h3
     omega
    ·exact h.dis k k' o o' b k1 k2 h3 h4
   ·rcases hcase hk with ⟨k1,e⟩ | ⟨k1,e⟩
    ·rw [e]
     exact (((hs'.obs k o k1).low (S:=S) (by rw [hSB];exact h.size)).ext hrd1 (Below.refl _ _)).congr fun j hj=>hH1 (n1 j (.inr (B88 k1 j hj)))
    ·rw [e]
     exact ((h.obs k o k1).ext hrd2 hbelow).congr fun j hj=>hH2 (n2 j (.inr (B88 k1 j hj)))
   ·exact SV.rep_congr (fun j hj=>hH2 (n2 j (.inl (D56 hi j hj)))) (SV.rep_mono hrd2 (h.facts i s hi))
  have hres':(resS rs).rep (E7 (Mut S (ob'++ob) H) w') H v:=by
   refine SV.rep_congr (fun j hj=>hH1 (n1 j (.inl ?_))) (SV.rep_mono hrd1 hres)
   revert hj
   match rs with
   | []=>intro hj;cases hj
   | [r]=>intro hj;simpa [resS,SV.refs] using hj
   | r::r2::rest=>intro hj;exact hj
  exact hK _ _ (hk3 S H _ w' hn (hsim.put hlt hres'))
end
end Go.AL
namespace Go.AL
open Go Go.RowKit
set_option linter.unusedVariables false
section
variable {P:Program} {dst:Option Tmp} {ty:TypeId} {pos:String} {af:Array Edge} {gd:Option (Nat × Bool)} {fr:Fr} {ob:Obs}
theorem H75 (k:Nat) {t e:TypeId} {ec bytes:Nat} {x y:Operand} {kx ky:IntKind} {n:Int} (α:Type) (c:α→Nat→Cell) [ht:TySl P t e ec bytes]
  (hx:opv fr x=some (I9 (.int kx 0))) (hy:opv fr y=some (I9 (.int ky n))) (h0:0≤n) (hn:n≤1073741824) (hk:C1 ob k=none) (hp:k < 1000000) :
  EffV P ⟨dst,.makeSlice t x y,ty,pos,af,gd⟩ fr ob (.s (.one (.buf k α ec c []))) (Fr.forget k fr) ((k,.spare 0 ec e)::Obs.forget k ob):=by
 intro S G a w h
 obtain ⟨hts,hinfo,hec,hby,hzero⟩:=ht.out
 cases hi:P.info? e with
 | none=>simp [hi] at hinfo
 | some i =>
 simp [hi] at hinfo
 obtain ⟨hsz,hbytes⟩:=hinfo
 cases hzz:i.zero with
 | none=>simp [hi,hzz] at hzero
 | some z =>
 simp [hi,hzz] at hzero
 have hbig:(i.bytes:Int)*n≤281474976710656:=by
  have h1:(i.bytes:Int)≤4096:=by omega
  have h2:(i.bytes:Int)*n≤4096*1073741824:=by
   have:i.bytes*n.toNat≤4096*1073741824:=Nat.mul_le_mul (by omega) (by omega)
   have h3:((i.bytes*n.toNat:Nat):Int)≤((4096*1073741824:Nat):Int):=by exact_mod_cast this
   rw [Int.natCast_mul] at h3
   have h4:(n.toNat:Int)=n:=by omega
   rw [h4] at h3
   omega
  omega
 have hr:=run_make (P:=P) w t e i z hts hi hzz kx ky 0 n (Int.le_refl _) h0 hbig (by omega)
 rw [hsz] at hr
 refine H8 (w':=w.alloc (.cells (madeCells z.cells (n.toNat*ec)) e)) (v:=.slice (some ⟨w.heap.size,0,none⟩) 0 n.toNat) ?_ ?_
 ·simp only [execOp,F6 h hx,F6 h hy]
  exact L1 hr
 ·have hxw:Below w.heap.size w (w.alloc (.cells (madeCells z.cells (n.toNat*ec)) e)):=(Below.refl _ _).alloc (Nat.le_refl _) _
  have hu:∀b,blk (.slice (some ⟨w.heap.size,0,none⟩) 0 n.toNat)=some b→w.heap.size≤b:=by intro b hb;simp [blk] at hb;omega
  have hown:(w.alloc (.cells (madeCells z.cells (n.toNat*ec)) e)).ownsRow S.B e ec (.slice (some ⟨w.heap.size,0,none⟩) 0 n.toNat) 0 []:=World.ownsRow_made w _ _ h.size (by unfold maxLen;omega) (size_madeCells _ _)
  refine ⟨upd G k (.slice (some ⟨w.heap.size,0,none⟩) 0 n.toNat),h.new hp hk (o:=.spare 0 ec e) hxw hu ⟨[],hown⟩,(I7 _ _ _).symm,?_⟩
  simp only [Cell.rep]
  exact ⟨_,_,rfl,⟨Nat.zero_le _,fun h=>by cases h⟩,(show (0:Nat) < 4611686018427387904 by decide),.inl rfl⟩
theorem H76 (k:Nat) {t e:TypeId} {ec bytes:Nat} {x y:Operand} {kx ky:IntKind} {n:Int} (α:Type) (c:α→Nat→Cell) [ht:TySl P t e ec bytes]
  (hx:opv fr x=some (I9 (.int kx 0))) (hy:opv fr y=some (I9 (.int ky n))) (h0:0≤n) (hn:n≤1073741824) (hf:(H6 k fr&&I4 k ob)=true) :
  EffV P ⟨dst,.makeSlice t x y,ty,pos,af,gd⟩ fr ob (.s (.one (.buf k α ec c []))) fr ((k,.spare 0 ec e)::ob):=by
 simp only [J18] at hf
 obtain ⟨h1,h2⟩:=hf
 obtain ⟨h4,h5,hp⟩:=S9 h2
 have:=H75 (P:=P) (dst:=dst) (ty:=ty) (pos:=pos) (af:=af) (gd:=gd) (fr:=fr) (ht:=ht) k α c hx hy h0 hn h5 hp
 rwa [U7 h1,h4] at this
end
end Go.AL
namespace Go.AL
open Go Go.RowKit
set_option linter.unusedVariables false
section
variable {P:Program} {nt:Nat} {ops:Array Oper} {rest:List Oper} {fr:Fr} {ob:Obs} {Q:Post} {d:Nat}
end
end Go.AL
namespace Go.AL
open Go Go.RowKit
set_option linter.unusedVariables false
section
variable {P:Program} {nt:Nat} {ops:Array Oper}
end
end Go.AL
namespace Go.AL
open Go Go.RowKit
set_option linter.unusedVariables false
section
variable {P:Program} {nt:Nat} {ops:Array Oper} {rest:List Oper} {fr:Fr} {ob:Obs} {K:Fr→Obs→Prop} {d:Nat}
end
end Go.AL
namespace Go.AL
open Go Go.RowKit
set_option linter.unusedVariables false
section
variable {P:Program} {nt:Nat} {fr:Fr} {ob:Obs} {dst:Option Tmp} {ty:TypeId} {pos:String} {af:Array Edge} {gd:Option (Nat × Bool)}
theorem J12 (k:Nat) {e:TypeId} {α:Type} {ec:Nat} {c:α→Nat→Cell} {xs:List α} (hk:C1 ob k=some (.grow e α ec c xs)) :
  Sees P nt fr ob fr ((k,.growT e xs.length ec (x4 ec c xs))::ob):=fun S G a w hn h=>by
 refine ⟨G,h.retold hk (fun b i ho=>⟨ho.1,trivial⟩) ?_⟩
 rintro rd ⟨vs,hown,hlen,hc⟩
 refine ⟨vs,hown,hlen,Q4 xs,?_⟩
 refine A11 (by rw [Q4,hown.1]) fun q t z h1 h2=>?_
 have hq:q < xs.length*ec:=by have:=(List.getElem?_eq_some_iff.1 h1).1;rwa [Q4] at this
 have hec:0 < ec:=Nat.pos_of_ne_zero fun e=>by rw [e] at hq;simp at hq
 have hi:q / ec < xs.length:=Nat.div_lt_of_lt_mul (by rw [Nat.mul_comm];exact hq)
 have hj:q % ec < ec:=Nat.mod_lt _ hec
 have hqq:q=q / ec*ec+q % ec:=by rw [Nat.mul_comm];exact (Nat.div_add_mod q ec).symm
 have h3:=A41 (c:=c) xs (q / ec) (q % ec) _ (J14 hi) hj
 rw [←hqq,h1] at h3
 cases h3
 obtain ⟨z',h4,h5⟩:=hc (q / ec) hi (q % ec) hj
 rw [←hqq,h2] at h4
 cases h4
 exact h5
theorem J13 (k:Nat) {e:TypeId} {α:Type} {ec:Nat} {c:α→Nat→Cell} {n:Nat} {ts:List TC} (xs:List α) (hk:C1 ob k=some (.growT e n ec ts)) (hn:xs.length=n) (hts:ts=x4 ec c xs) :
  Sees P nt fr ob fr ((k,.grow e α ec c xs)::ob):=by
 subst hts hn
 intro S G a w hn h
 refine ⟨G,h.retold hk (fun b i ho=>⟨ho.1,trivial⟩) ?_⟩
 rintro rd ⟨vs,hown,hlen,hl,hc⟩
 refine ⟨vs,hown,hlen,fun i hi j hj=>?_⟩
 have hf:=A41 (c:=c) xs i j _ (J14 hi) hj
 obtain ⟨z,hz1,hz2⟩:=hc.get _ _ hf
 exact ⟨z,hz1,hz2⟩
theorem D57 {x y:Operand} {t e e':TypeId} {ec bytes k n:Nat} {ts:List TC} {ki:IntKind} {i:Int} [ht:TySl P t e ec bytes] (hx:opv fr x=some (.s (.one (.mut k)))) (hk:C1 ob k=some (.growT e' n ec ts))
  (hy:opv fr y=some (I9 (.int ki i))) (h0:0≤i) (h1:i < n):Neu P ⟨dst,.indexAddr t x y,ty,pos,af,gd⟩ fr ob (fun s'=>s'=.s (.one (.mref k ec i.toNat 0))) :=
 E8 fun S G a w h=>by
  obtain ⟨hu,_⟩:=I0 h hx
  obtain ⟨vs,hown,_⟩:=h.obs k _ hk
  rcases hown.2 with ⟨hg,h2⟩ | ⟨g,cap,cur,hg,_⟩
  ·omega
  ·rw [hg] at hu
   refine ⟨.pointer (some ⟨g,i.toNat*ec,none⟩),?_,g,n,cap,hg,rfl⟩
   simp only [execOp,hu,F6 h hy]
   refine L1 ?_
   have hb:0≤i∧i < (n:Int):=⟨h0,h1⟩
   simp [Instr.indexAt,run_underlying ht.out.1,asIntOf,hb,K5 ht.size,Addr.add_lit]
theorem H77 {x:Operand} {t e:TypeId} {k q o n:Nat} {ec:Nat} {ts:List TC} {s:TC} [ht:TyOne P t] (hx:opv fr x=some (.s (.one (.mref k ec q o)))) (hk:C1 ob k=some (.growT e n ec ts)) (hv:ts[q*ec+o]?=some s) :
  Neu P ⟨dst,.load t x,ty,pos,af,gd⟩ fr ob (fun s'=>s'=.s (.one s)) :=
 E8 fun S G a w h=>by
  obtain ⟨b,m,cap,hg,hu⟩:=I0 h hx
  obtain ⟨vs,hown,_,htl,ha⟩:=h.obs k _ hk
  obtain ⟨z,hz1,hz2⟩:=ha.get _ s hv
  have:=hown.cells (g:=b) (by rw [hg];rfl) (q*ec+o) z hz1
  refine ⟨z,?_,hz2⟩
  simp only [execOp,hu]
  refine L1 ?_
  have hcell:w.cell? ⟨b,q*ec+o,none⟩=some z:=by simpa [Addr.add_lit] using this
  simp [Instr.loadAt,Instr.sureAddr,S5 (ht:=ht) hcell]
theorem F24 {x y:Operand} {k k2 n m:Nat} {ec bytes:Nat} {ts us:List TC} {t e:TypeId} [ht:TySl P t e ec bytes] (hx:opv fr x=some (.s (.one (.mut k)))) (hk:C1 ob k=some (.growT e n ec ts))
  (hy:opv fr y=some (.s (.one (.mut k2)))) (hk2:C1 ob k2=some (.tarr m ec us)) (hlen:n+m≤1073741824) (hp:Nat.blt k 1000000=true) :
  EffV P ⟨dst,.call ⟨.builtin .append,#[x,y],#[t,t]⟩,ty,pos,af,gd⟩ fr ob (.s (.one (.mut k))) (Fr.forget k fr) ((k,.growT e (n+m) ec ((ts++us).map (TC.forget k)))::Obs.forget k ob):=by
 intro S G a w h
 have hec:=ht.out.2.2.1
 obtain ⟨hux,_⟩:=I0 h hx
 obtain ⟨huy,_⟩:=I0 h hy
 obtain ⟨b2,vs,t2,hG2,hm2,hh2,htl,ha2⟩:=h.obs k2 _ hk2
 rw [hG2] at huy
 have hvl:vs.length=m*ec:=by rw [←ha2.length,htl]
 obtain ⟨ws,hown,_,hwl,hws⟩:=h.obs k _ hk
 obtain ⟨v',w',hrun,hown',hgrow,hblk',hleave⟩:=A30 (P:=P) (ty:=ty) S.B ht hown h.size (u:=a.eval y) (ad:=some ⟨b2,0,none⟩) (m:=m) (c:=m) (news:=vs) huy (by intro h;cases h) (Nat.le_refl _) hvl
  (fun b o hb j z hz=>by
   injection hb with hb;injection hb with e1 e2;subst e1;subst e2
   rw [Lib.cell_of_heap hh2]
   simpa using hz)
  (.inr ⟨b2,0,rfl⟩) (F83 ha2) hlen
 have hbv:(G k).ownBlock=blk (G k):=c8 (Y1 hown)
 have hread:∀b i z,E7 (Mut S ob G) w b i z→w'.cell? ⟨b,i,none⟩=some z:=by
  intro b i z hr
  have hlt:b < w.heap.size:=World.block_lt_of_cell? w _ hr.1
  by_cases hb:blk (G k)=some b
  ·exact absurd (Or.inr ⟨k,_,hk,hb,trivial⟩) hr.2
  ·rw [World.cell?_of_block (w:=w) (a:=⟨b,i,none⟩) (hgrow.block b hlt (by rw [hbv];exact fun e=>hb e.symm))]
   exact hr.1
 have hsim:=h.turn (o':=.growT e (n+m) ec ((ts++us).map (TC.forget k))) (u':=v') (by simpa using hp) hk hgrow.os hgrow.tape hgrow.output hgrow.size (fun j hj hb=>hgrow.block j hj (by rw [hbv];exact fun e=>hb e.symm)) hread hblk'
  (by
   intro b i hb ho
   rcases hblk' b ho.1 with h1 | h1
   ·exact ⟨h1,trivial⟩
   ·omega)
  (fun rd hrd' G' hG'=>by
   refine ⟨_,hown',by omega,by rw [J29,J15,hwl,htl,J37],?_⟩
   exact ((hws.append ha2).mono fun _ _=>TC.rep_mono hrd').map (TC.forget k) fun _ _=>TC.rep_forget hG')
 exact H8 (w':=w') (v:=v') (by simp [execOp,resolve,invoke,builtin,hux,hrun]) ⟨upd G k v',hsim,(I7 _ _ _).symm,C86 hown'⟩
theorem I92 {α:Type} {c:α→Nat→Cell} {m kb:Nat} {e:TypeId} {g:Nat→List α} {pre:Obs} (hkb:kb < 1000) (hp:low pre=true) (hkp:C1 pre kb=none) (hfr:∀r,r < m→H6 (r+1000) fr=true) (hpf:∀r,r < m→A13 (r+1000) pre=true) :
  ∀d,d≤m→Sees P nt fr (pre++((kb,.growT e m 1 (J8 c m 0 g))::I3 c g (List.range m))) fr (pre++((kb,.growT e m 1 (J8 c m d g))::I3 c g ((List.range m).drop d)))
 | 0,_=>by intro S G a w hn h;exact ⟨G,h⟩
 | d+1,hd=>by
  refine (I92 hkb hp hkp hfr hpf d (by omega)).trans ?_
  have hdrop:(List.range m).drop d=d::(List.range m).drop (d+1):=by
   rw [J20 (by simp;omega)];simp
  have hk:C1 (pre++((kb,.growT e m 1 (J8 c m d g))::I3 c g ((List.range m).drop d))) (d+1000)=some (.arr α 1 c (g d)):=by
   rw [I6 (d6 hp (by omega)),B0 (by omega)]
   exact r9 (by rw [hdrop];simp)
  refine (Sees.freeze hk).trans ?_
  rw [E54 (hfr d (by omega))]
  intro S G a w hn h
  refine ⟨G,h.weakenO fun k o ho=>?_⟩
  have hne:k≠d+1000:=by
   rintro rfl
   rw [I6 (d6 hp (by omega)),B0 (by omega)] at ho
   obtain ⟨r,h1,h2,_⟩:=(Y2 _ _ _).1 ho
   have:r=d:=by omega
   subst this
   obtain ⟨i,hi,h3⟩:=List.mem_iff_getElem.1 h1
   simp at h3
   omega
  rw [A40,M4 hne]
  cases h1:C1 pre k with
  | some o1 =>
   rw [V9 h1] at ho ⊢
   cases ho
   show some (Ob.freeze _ _ _ _ _ _)=_
   rw [Ob.freeze_free (B07 (hpf d (by omega)) h1)]
  | none =>
   rw [I6 h1] at ho ⊢
   by_cases hkk:kb=k
   ·subst hkk
    rw [C7] at ho ⊢
    cases ho
    show some (Ob.growT e m 1 ((J8 c m d g).map _))=_
    rw [B08]
   ·rw [B0 hkk] at ho ⊢
    obtain ⟨r,h2,h3,rfl⟩:=(Y2 _ _ _).1 ho
    subst h3
    rw [r9 (by rw [hdrop];exact List.mem_cons_of_mem _ h2)]
    rfl
theorem J02 {α:Type} {c:α→Nat→Cell} {m kb:Nat} {e:TypeId} {g:Nat→List α} {pre:Obs} (hkb:kb < 1000) (hp:low pre=true) (hkp:C1 pre kb=none) (hfr:∀r,r < m→H6 (r+1000) fr=true) (hpf:∀r,r < m→A13 (r+1000) pre=true) :
  Sees P nt fr (pre++((kb,.growT e m 1 (J8 c m 0 g))::I3 c g (List.range m))) fr ((kb,.grow e (List α) 1 (fun l _=>.list α 1 c l) ((List.range m).map g))::pre):=by
 refine (I92 hkb hp hkp hfr hpf m (Nat.le_refl _)).trans ?_
 have hk:C1 (pre++((kb,.growT e m 1 (J8 c m m g))::I3 c g ((List.range m).drop m))) kb=some (.growT e m 1 (J8 c m m g)):=by
  rw [I6 hkp,C7]
 have hts:J8 c m m g=x4 1 (fun (l:List α) (_:Nat)=>Cell.list α 1 c l) ((List.range m).map g):=by
  rw [B43]
  unfold J8
  rw [J44]
  refine List.map_congr_left fun r hr=>?_
  rw [if_pos (by simpa using hr)];rfl
 refine (J13 (c:=fun (l:List α) (_:Nat)=>Cell.list α 1 c l) kb ((List.range m).map g) hk (by simp) hts).trans ?_
 intro S G a w hn h
 refine ⟨G,h.weakenO fun k o ho=>?_⟩
 by_cases hkk:kb=k
 ·subst hkk;rw [C7] at ho ⊢;exact ho
 ·rw [B0 hkk] at ho
  rw [B0 hkk,V9 ho]
end
end Go.AL
namespace Go.AL
open Go Go.RowKit
set_option linter.unusedVariables false
section
variable {P:Program} {nt:Nat} {fr:Fr} {ob:Obs} {dst:Option Tmp} {ty:TypeId} {pos:String} {af:Array Edge} {gd:Option (Nat × Bool)}
theorem B16 {t e:TypeId} {ec bytes n:Nat} {parts:Array (Nat × Operand)} {α:Type} {c:α→Nat→Cell} {ys:List α} [ht:TySl P t e ec bytes] (hb:E26 fr ec c parts.toList 0 ys) (hn:parts.toList.length=n) (hbig:Nat.ble n 100000=true) (hecb:Nat.ble ec 100=true) :
  Neu P ⟨dst,.buildSlice t n parts,ty,pos,af,gd⟩ fr ob (fun s'=>s'=.s (.one (.full α ec c ys))):=by
 intro S G a w h
 have hec:=ht.out.2.2.1
 have hn':n≤100000:=by simpa using hbig
 have hec':ec≤100:=by simpa using hecb
 have hmul:n*ec≤100000*100:=Nat.mul_le_mul hn' hec'
 obtain ⟨_,_,_,_,hzero⟩:=ht.out
 cases hi:P.info? e with
 | none=>simp [hi] at hzero
 | some i =>
 cases hz:i.zero with
 | none=>simp [hi,hz] at hzero
 | some z =>
 have hzv:(P.info? e).bind (·.zero)=some z:=by simp [hi,hz]
 let cs0:Array Value:=(Array.range (n*ec)).map ((if n*ec=0 then #[] else z.cells)[· % (if n*ec=0 then #[] else z.cells).size]!)
 have hcs0:cs0.size=n*ec:=by simp [cs0]
 obtain ⟨vs,hf,hvl,hyl,hv⟩:=B41 h parts.toList 0 ys cs0 hb (by rw [hcs0,hn,Nat.zero_add])
 simp only [Nat.zero_mul,List.take_zero,J43] at hf
 have hp:(parts.map fun x=>(x.1,a.eval x.2)).toList=parts.toList.map fun x=>(x.1,a.eval x.2):=by simp
 refine H8 (w':=w.alloc (.cells vs.toArray e)) (v:=.slice (some ⟨w.heap.size,0,none⟩) n n) ?_ ?_
 ·simp only [execOp]
  refine L1 ?_
  simp only [Instr.buildSlice,Sem.run_bind,run_underlying ht.out.1,Result.andThen_ok,K5 ht.size]
  rw [if_neg (by omega)]
  by_cases hz0:n*ec=0
  ·simp only [hz0,if_true,Sem.run_bind,Sem.run_pure,Result.andThen_ok]
   have hcs1:cs0=(Array.range 0).map ((#[]:Array Value)[· % (#[]:Array Value).size]!):=by simp only [cs0,hz0,if_true]
   rw [show (parts.map fun (x:Nat × Operand)=>match x with | (i,x)=>(i,a.eval x))=parts.map fun x=>(x.1,a.eval x.2) from rfl,hp,←hcs1,hf]
   simp [newRow]
  ·simp only [if_neg hz0,Sem.run_bind,R1 hzv,Sem.run_pure,Result.andThen_ok]
   have hcs1:cs0=(Array.range (n*ec)).map (z.cells[· % z.cells.size]!):=by simp only [cs0,if_neg hz0]
   rw [show (parts.map fun (x:Nat × Operand)=>match x with | (i,x)=>(i,a.eval x))=parts.map fun x=>(x.1,a.eval x.2) from rfl,hp,←hcs1,hf]
   simp [newRow]
 ·have hxw:Below w.heap.size w (w.alloc (.cells vs.toArray e)):=(Below.refl _ _).alloc (Nat.le_refl _) _
  refine ⟨hxw,_,rfl,?_⟩
  have hyn:ys.length=n:=by rw [hyl,hn]
  refine ⟨?_,some ⟨w.heap.size,0,none⟩,by rw [hyn]⟩
  simp only [Cell.rep]
  refine ⟨some ⟨w.heap.size,0,none⟩,n,by rw [hyn],⟨by omega,by simp⟩,by omega,.inr ⟨w.heap.size,0,rfl,fun m hm j hj=>?_⟩⟩
  obtain ⟨zz,hz1,hz2⟩:=hv m hm j hj
  refine ⟨zz,⟨?_,fun hmut=>?_⟩,hm,Cell.rep_mono (fun _ _ _ hr=>c5 hxw hr) _ _ hz2⟩
  ·rw [Nat.zero_add]
   exact cell_of_heap (heap_alloc_new w _) (by simpa using hz1)
  ·have:=h.mut_lt hmut
   omega
theorem B68 {x y:Operand} {α:Type} {ec bytes:Nat} {c:α→Nat→Cell} {xs ys:List α} {t e:TypeId} {s:SV} [ht:TySl P t e ec bytes] (hx:opv fr x=some (.s (.one (.full α ec c xs))))
  (hy:opv fr y=some s) (hl:IsList s α ec c ys) (hlen:xs.length+ys.length≤1073741824) (hys:0 < ys.length) :
  Neu P ⟨dst,.call ⟨.builtin .append,#[x,y],#[t,t]⟩,ty,pos,af,gd⟩ fr ob (fun s'=>s'=C0 α ec c (xs++ys)):=by
 intro S G a w h
 obtain ⟨hts,hinfo,hec,hby,hzero⟩:=ht.out
 cases hi:P.info? e with
 | none=>simp [hi] at hinfo
 | some i =>
 simp [hi] at hinfo
 obtain ⟨hsz,hbytes⟩:=hinfo
 cases hz:i.zero with
 | none=>simp [hi,hz] at hzero
 | some z =>
 simp [hi,hz] at hzero
 obtain ⟨hrx,a0,hux⟩:=I0 h hx
 have hry:=V0 h hy hl
 obtain ⟨ad,cap,vx,hux',hcapx,hlx,hvlx,honex,hvx,hrdx⟩:=R2 hrx
 rw [hux] at hux'
 injection hux' with e1 e2 e3
 subst e1
 obtain ⟨ady,capy,vy,huy,hcapy,hly,hvly,honey,hvy,hrdy⟩:=R2 hry
 obtain ⟨by',oy,hady,hry2⟩:=hrdy.resolve_left (by omega)
 have hbig:(xs.length+ys.length)*bytes≤140737488355328:=by
  have:(xs.length+ys.length)*bytes≤1073741824*4096:=Nat.mul_le_mul hlen hby
  omega
 have hmax:xs.length+ys.length≤maxLen:=by unfold maxLen;omega
 obtain ⟨gc,hgc⟩:∃gc,gc=grownCap w (xs.length+ys.length) xs.length e:=⟨_,rfl⟩
 have hge:=grownCap_ge w (xs.length+ys.length) xs.length e
 have hcm:=grownCap_le_maxLen w (xs.length+ys.length) xs.length e hmax
 rw [←hgc] at hge hcm
 have hrun:(Builtin.append_ #[t,t] ty #[a.eval x,a.eval y]).run P w=.ok (.slice (some ⟨w.heap.size,0,none⟩) (xs.length+ys.length) gc) (w.drew.alloc (.cells (vx.toArray++vy.toArray++Builtin.zeroCells z.cells (gc - (xs.length+ys.length))) e)):=by
  rw [hux,huy,hady]
  rcases hrdx with h0 | ⟨bx,ox,hax,hrx2⟩
  ·have hx0:xs=[]:=List.eq_nil_of_length_eq_zero h0
   subst hx0
   have hvx0:vx=[]:=List.eq_nil_of_length_eq_zero (by rw [hvlx];simp)
   subst hvx0
   cases a0 with
   | none =>
    have hr2:=run_append_nil (P:=P) w t ty e i z hts hi hz ⟨by',oy,none⟩ ys.length capy vy (by rw [hsz];exact hvly) (fun j v hj=>by rw [Addr.add_lit];exact (hry2 j v hj).1) hys (by omega) (by rw [hbytes];simp at hbig;omega)
    simp only [J19,Nat.zero_add] at hgc ⊢
    rw [hgc]
    simpa using hr2
   | some ab =>
    have hr2:=run_append_grow (P:=P) w t ty e i z hts hi hz ab 0 0 [] (by simp) (by simp) ⟨by',oy,none⟩ ys.length capy vy (by rw [hsz];exact hvly) (fun j v hj=>by rw [Addr.add_lit];exact (hry2 j v hj).1) (by omega) (by omega) (growslice_fits (by omega) (by rw [hbytes];simpa using hbig))
    simp only [J19] at hgc ⊢
    rw [hgc]
    simpa using hr2
  ·rw [hax]
   have hr2:=run_append_grow (P:=P) w t ty e i z hts hi hz ⟨bx,ox,none⟩ xs.length xs.length vx (by rw [hsz];exact hvlx) (fun j v hj=>by rw [Addr.add_lit];exact (hrx2 j v hj).1) ⟨by',oy,none⟩ ys.length capy vy (by rw [hsz];exact hvly) (fun j v hj=>by rw [Addr.add_lit];exact (hry2 j v hj).1) (by omega) (by omega) (growslice_fits (by omega) (by rw [hbytes];exact hbig))
   rw [hgc];exact hr2
 obtain ⟨cells,hcells⟩:∃cells,cells=vx.toArray++vy.toArray++Builtin.zeroCells z.cells (gc - (xs.length+ys.length)):=⟨_,rfl⟩
 rw [←hcells] at hrun
 have hxw:Below w.heap.size w (w.drew.alloc (.cells cells e)):=⟨rfl,rfl,rfl,by simp,fun k hk=>heap_alloc_old w.drew _ hk⟩
 refine H8 (w':=w.drew.alloc (.cells cells e)) (v:=.slice (some ⟨w.heap.size,0,none⟩) (xs.length+ys.length) gc) (by simp [execOp,resolve,invoke,builtin,hrun]) ⟨hxw,_,rfl,?_⟩
 show (Cell.list α ec c (xs++ys)).rep _ _
 simp only [Cell.rep]
 have hget:∀q z,(vx++vy)[q]?=some z→E7 (Mut S ob G) (w.drew.alloc (.cells cells e)) w.heap.size (0+q) z:=by
  intro q zz hq
  refine ⟨?_,fun hmut=>?_⟩
  ·rw [Nat.zero_add]
   refine cell_of_heap (heap_alloc_new w.drew _) ?_
   rw [hcells]
   have hlt:=(List.getElem?_eq_some_iff.1 hq).1
   rw [←Array.getElem?_toList]
   simp only [Array.toList_append]
   rw [J34 (by simpa using hlt)]
   exact hq
  ·have:=h.mut_lt hmut
   omega
 refine ⟨some ⟨w.heap.size,0,none⟩,gc,by rw [J15],⟨by rw [J15];omega,by simp⟩,by rw [J15];omega,.inr ⟨w.heap.size,0,rfl,fun m hm j hj=>?_⟩⟩
 by_cases hlt:m < xs.length
 ·obtain ⟨zz,hz1,hz2⟩:=hvx m hlt j hj
  refine ⟨zz,?_,hm,?_⟩
  ·have:=hget (m*ec+j) zz (by rw [J34 (List.getElem?_eq_some_iff.1 hz1).1];exact hz1)
   rwa [show 0+m*ec+j=0+(m*ec+j) by omega]
  ·have e1:(xs++ys)[m]=xs[m]:=by rw [J59 hlt]
   rw [e1]
   exact Cell.rep_mono (fun _ _ _ hr=>c5 hxw hr) _ _ hz2
 ·have hm':m - xs.length < ys.length:=by simp at hm;omega
  obtain ⟨zz,hz1,hz2⟩:=hvy (m - xs.length) hm' j hj
  refine ⟨zz,?_,hm,?_⟩
  ·have hge2:xs.length*ec≤m*ec:=J27 _ (by omega)
   have:=hget (m*ec+j) zz (by
    rw [J38 (by rw [hvlx];omega),hvlx]
    have:m*ec+j - xs.length*ec=(m - xs.length)*ec+j:=by rw [Nat.sub_mul];omega
    rw [this];exact hz1)
   rwa [show 0+m*ec+j=0+(m*ec+j) by omega]
  ·have e1:(xs++ys)[m]=ys[m - xs.length]:=by rw [J58 (by omega)]
   rw [e1]
   exact Cell.rep_mono (fun _ _ _ hr=>c5 hxw hr) _ _ hz2
end
end Go.AL
namespace Go.AL
open Go Go.RowKit
set_option linter.unusedVariables false
section
variable {P:Program} {nt:Nat} {fr gf:Fr} {ob:Obs}
theorem TC.forget_comm (k q:Nat) (t:TC):(t.forget q).forget k=(t.forget k).forget q:=by
 cases t with
 | p c=>rfl
 | buf k' α ec c xs=>cases hb:Nat.beq k' k<;>cases hq:Nat.beq k' q<;>simp [TC.forget,hb,hq]
 | ref k' o=>cases hb:Nat.beq k' k<;>cases hq:Nat.beq k' q<;>simp [TC.forget,hb,hq]
 | eref α ec c x o=>rfl
 | «mut» k'=>cases hb:Nat.beq k' k<;>cases hq:Nat.beq k' q<;>simp [TC.forget,hb,hq]
 | mref k' ec i o=>cases hb:Nat.beq k' k<;>cases hq:Nat.beq k' q<;>simp [TC.forget,hb,hq]
 | any=>rfl
 | clo f nf nc=>cases hb:(A50 k nf||A50 k nc)<;>cases hq:(A50 q nf||A50 q nc)<;>simp [TC.forget,hb,hq]
 | msl k' ec o n=>cases hb:Nat.beq k' k<;>cases hq:Nat.beq k' q<;>simp [TC.forget,hb,hq]
 | full α ec c xs=>rfl
theorem S1.forget_comm (k q:Nat) (s:S1):(s.forget q).forget k=(s.forget k).forget q:=by
 cases s with
 | one t=>simp only [S1.forget,TC.forget_comm k q t]
 | agg ts=>simp only [S1.forget,J44];congr 1;exact List.map_congr_left fun t _=>TC.forget_comm k q t
theorem SV.forget_comm (k q:Nat) (s:SV):(s.forget q).forget k=(s.forget k).forget q:=by
 cases s with
 | s x=>simp only [SV.forget,S1.forget_comm k q x]
 | tup l=>simp only [SV.forget,J44];congr 1;exact List.map_congr_left fun t _=>S1.forget_comm k q t
 | any=>rfl
 | un=>rfl
theorem Fr.forget_comm (k q:Nat) (fr:Fr):Fr.forget k (Fr.forget q fr)=Fr.forget q (Fr.forget k fr):=by
 unfold Fr.forget
 rw [J44,J44]
 exact List.map_congr_left fun p _=>by simp only [Function.comp];rw [SV.forget_comm]
theorem C18 (k:Nat):∀(ks:List Nat) (fr:Fr),E1 ks (Fr.forget k fr)=Fr.forget k (E1 ks fr)
 | [],fr=>rfl
 | q::ks,fr=>by
  show E1 ks (Fr.forget q (Fr.forget k fr))=Fr.forget k (E1 ks (Fr.forget q fr))
  rw [Fr.forget_comm q k,C18 k ks]
theorem A33 {k:Nat}:∀{ks:List Nat} {fr:Fr},U1 ks k=true→Fr.forget k (E1 ks fr)=E1 ks fr
 | [],fr,h=>by cases h
 | q::ks,fr,h=>by
  show Fr.forget k (E1 ks (Fr.forget q fr))=E1 ks (Fr.forget q fr)
  by_cases hq:k=q
  ·subst hq;rw [C18,Fr.forget_idem]
  ·have h2:U1 ks k=true:=by
    rw [hasN_iff] at h ⊢
    rcases List.mem_cons.1 h with h | h
    ·exact absurd h hq
    ·exact h
   exact A33 h2
theorem x6 {ks:List Nat} (k:Nat) (hk:U1 ks k=true) (h:Tail (E1 ks gf) fr):Tail (E1 ks gf) (Fr.forget k fr):=by
 have:=M1 k h
 rwa [A33 hk] at this
theorem J9:∀{ks:List Nat} {gf:Fr},High gf→High (E1 ks gf)
 | [],gf,h=>h
 | k::ks,gf,h=>J9 (ks:=ks) (C87 (k:=k) h)
theorem C19:∀{ks:List Nat} {gf:Fr} {i:Nat} {s:SV},D7 (E1 ks gf) i=some s→∃s0,D7 gf i=some s0∧∀(rd:Rd) (G:Gh) (u:Value),s0.rep rd G u→s.rep rd G u
 | [],gf,i,s,h=>⟨s,h,fun _ _ _ h=>h⟩
 | k::ks,gf,i,s,h=>by
  obtain ⟨s1,h1,h2⟩:=C19 (ks:=ks) (gf:=Fr.forget k gf) h
  rw [P1] at h1
  cases hg:D7 gf i with
  | none=>rw [hg] at h1;cases h1
  | some s0 =>
   rw [hg] at h1
   cases h1
   exact ⟨s0,rfl,fun rd G u hr=>h2 rd G u (SV.rep_forget (G':=G) (fun _ _=>rfl) hr)⟩
theorem J00 (ks:List Nat) {l:Fr} {ob':Obs} (hl:FrLe fr l) (hH:High gf) (ht:Tail gf fr) (ho:∀k o,C1 ob' k=some o→C1 ob k=some o):Sees P nt fr ob (l++E1 ks gf) ob':=by
 refine (I82 hl hH ht ho).trans ?_
 intro S G a w hn h
 refine ⟨G,{ h with facts:=fun i s hi=>?_ }⟩
 rw [X2] at hi
 cases hg:D7 l i with
 | some s0 =>
  rw [hg] at hi
  have hi:some s0=some s:=hi
  cases hi
  exact h.facts i _ (by rw [X2,hg];rfl)
 | none =>
  rw [hg] at hi
  have hi:D7 (E1 ks gf) i=some s:=hi
  obtain ⟨s0,h1,h2⟩:=C19 hi
  exact h2 _ _ _ (h.facts i s0 (by rw [X2,hg];exact h1))
end
end Go.AL
namespace Go.AL
open Go Go.RowKit
set_option linter.unusedVariables false
section
variable {P:Program} {nt:Nat} {fr:Fr} {ob:Obs}
def TC.ren (j k:Nat):TC→TC
 | .buf k' α ec c xs=>cond (Nat.beq k' j) (.buf k α ec c xs) (.buf k' α ec c xs)
 | .ref k' off=>cond (Nat.beq k' j) (.ref k off) (.ref k' off)
 | .mut k'=>cond (Nat.beq k' j) (.mut k) (.mut k')
 | .mref k' ec i off=>cond (Nat.beq k' j) (.mref k ec i off) (.mref k' ec i off)
 | .msl k' ec off n=>cond (Nat.beq k' j) (.msl k ec off n) (.msl k' ec off n)
 | t=>t
def Ob.ren (j k:Nat):Ob→Ob
 | .box ts=>.box (ts.map (TC.ren j k))
 | .tbx e ts=>.tbx e (ts.map (TC.ren j k))
 | .tarr n ec ts=>.tarr n ec (ts.map (TC.ren j k))
 | .growA e α ec c xs p ts=>.growA e α ec c xs p (ts.map (TC.ren j k))
 | .growT e n ec ts=>.growT e n ec (ts.map (TC.ren j k))
 | o=>o
theorem I91 {rd:Rd} {G:Gh} {j k:Nat} (hG:G k=G j):∀{t:TC} {u:Value},t.rep rd G u→(t.ren j k).rep rd G u
 | .p c,u,h=>h
 | .buf k' α ec c xs,u,h=>by
  simp only [TC.ren]
  cases hb:Nat.beq k' j
  ·exact h
  ·have e:k'=j:=Nat.eq_of_beq_eq_true hb
   subst e
   simp only [cond,TC.rep];rw [hG];exact h
 | .ref k' off,u,h=>by
  simp only [TC.ren]
  cases hb:Nat.beq k' j
  ·exact h
  ·have e:k'=j:=Nat.eq_of_beq_eq_true hb
   subst e
   simp only [cond,TC.rep];rw [hG];exact h
 | .eref _ _ _ _ _,u,h=>h
 | .mut k',u,h=>by
  simp only [TC.ren]
  cases hb:Nat.beq k' j
  ·exact h
  ·have e:k'=j:=Nat.eq_of_beq_eq_true hb
   subst e
   simp only [cond,TC.rep];rw [hG];exact h
 | .mref k' ec i off,u,h=>by
  simp only [TC.ren]
  cases hb:Nat.beq k' j
  ·exact h
  ·have e:k'=j:=Nat.eq_of_beq_eq_true hb
   subst e
   simp only [cond,TC.rep];rw [hG];exact h
 | .any,u,h=>h
 | .clo _ _ _,_,h=>h
 | .msl k' ec off n,u,h=>by
  simp only [TC.ren]
  cases hb:Nat.beq k' j
  ·exact h
  ·have e:k'=j:=Nat.eq_of_beq_eq_true hb
   subst e
   simp only [cond,TC.rep];rw [hG];exact h
 | .full _ _ _ _,u,h=>h
theorem ObOk.ren {S:Ctx} {rd:Rd} {G:Gh} {w:World} {u:Value} {j k:Nat} {o:Ob} (hG:G k=G j) (h:ObOk S rd G w u o):ObOk S rd G w u (o.ren j k):=by
 cases o with
 | box ts=>obtain ⟨b,vs,t,h1,h2,h3⟩:=h;exact ⟨b,vs,t,h1,h2,h3.map (TC.ren j k) fun _ _=>I91 hG⟩
 | tbx e ts=>obtain ⟨b,vs,h1,h2,h3⟩:=h;exact ⟨b,vs,h1,h2,h3.map (TC.ren j k) fun _ _=>I91 hG⟩
 | tarr n ec ts=>obtain ⟨b,vs,t,h1,hl,h2,hn,h3⟩:=h;exact ⟨b,vs,t,h1,hl,h2,by simpa using hn,h3.map (TC.ren j k) fun _ _=>I91 hG⟩
 | arr α ec c xs=>exact h
 | spare n ec e=>exact h
 | grow e α ec c xs=>exact h
 | map κ kf kvs=>exact h
 | growA e α ec c xs p ts=>obtain ⟨vs,h1,h2,h3,h4,h5,h6⟩:=h;exact ⟨vs,h1,h2,h3,by simpa using h4,h5,h6.map (TC.ren j k) fun _ _=>I91 hG⟩
 | growT e n ec ts=>obtain ⟨vs,h1,h2,h3,h4⟩:=h;exact ⟨vs,h1,h2,by simpa using h3,h4.map (TC.ren j k) fun _ _=>I91 hG⟩
theorem own_ren {u:Value} {j k b i:Nat} {o:Ob}:Own u (o.ren j k) b i↔Own u o b i:=by cases o<;>simp [Own,Ob.ren]
theorem J09 {j k:Nat} {ob':Obs} (hj:Nat.blt j 1000000=true) (hk:Nat.blt k 1000000=true) (hjk:j≠k) (hfr:H6 k fr=true)
  (hm:∀i o,C1 ob' i=some o→i≠j∧∃o0,C1 ob (if i=k then j else i)=some o0∧o0.free k=true∧o=o0.ren j k):Sees P nt fr ob fr ob':=by
 intro S G a w hn h
 have hj':j < 1000000:=by simpa using hj
 have hk':k < 1000000:=by simpa using hk
 obtain ⟨G',hG'⟩:∃G':Gh,G'=fun i=>if i=k then G j else G i:=⟨_,rfl⟩
 have g1:∀i,i≠k→G' i=G i:=fun i hi=>by rw [hG'];exact if_neg hi
 have g2:G' k=G j:=by rw [hG'];exact if_pos rfl
 have g3:G' k=G' j:=by rw [g2,g1 j hjk]
 obtain ⟨r,hr⟩:∃r:Nat→Nat,r=fun i=>if i=k then j else i:=⟨_,rfl⟩
 have r1:∀i,G' i=G (r i):=fun i=>by
  rw [hr]
  by_cases hi:i=k
  ·subst hi;rw [g2];simp
  ·rw [g1 i hi];simp [hi]
 have hget:∀i o,C1 ob' i=some o→i≠j∧∃o0,C1 ob (r i)=some o0∧o0.free k=true∧o=o0.ren j k:=fun i o hi=>by rw [hr];exact hm i o hi
 have rinj:∀i i',i≠j→i'≠j→r i=r i'→i=i':=by
  intro i i' h1 h2 h3
  rw [hr] at h3
  dsimp only at h3
  by_cases a1:i=k<;>by_cases a2:i'=k
  ·rw [a1,a2]
  ·rw [if_pos a1,if_neg a2] at h3;exact absurd h3.symm h2
  ·rw [if_neg a1,if_pos a2] at h3;exact absurd h3 h1
  ·rwa [if_neg a1,if_neg a2] at h3
 have hmut:∀b i,Mut S ob' G' b i→Mut S ob G b i:=by
  intro b i hm'
  rcases hm' with hm' | ⟨q,o,hq,ho⟩
  ·exact .inl hm'
  ·obtain ⟨_,o0,h1,_,rfl⟩:=hget q o hq
   rw [r1 q] at ho
   exact .inr ⟨r q,o0,h1,own_ren.1 ho⟩
 have hrd:∀b i z,E7 (Mut S ob G) w b i z→E7 (Mut S ob' G') w b i z:=fun b i z hz=>⟨hz.1,fun hx=>hz.2 (hmut b i hx)⟩
 refine ⟨G',{ h with pin:=fun q hq=>by rw [g1 q (by omega)];exact h.pin q hq,old:=?_,dis:=?_,obs:=?_,facts:=?_ }⟩
 ·intro q o b hq hb
  obtain ⟨hqj,o0,h1,_,_⟩:=hget q o hq
  rw [r1 q] at hb
  rcases h.old (r q) o0 b h1 hb with h2 | ⟨h2,h3⟩
  ·exact .inl h2
  ·by_cases hqk:q=k
   ·rw [hr] at h3;dsimp only at h3;rw [if_pos hqk] at h3;omega
   ·rw [hr] at h3;dsimp only at h3;rw [if_neg hqk] at h3;exact .inr ⟨h2,h3⟩
 ·intro q q' o o' b hq hq' hb hb'
  obtain ⟨hqj,o0,h1,_,_⟩:=hget q o hq
  obtain ⟨hqj',o0',h1',_,_⟩:=hget q' o' hq'
  rw [r1] at hb hb'
  exact rinj q q' hqj hqj' (h.dis _ _ _ _ b h1 h1' hb hb')
 ·intro q o hq
  obtain ⟨hqj,o0,h1,hf,rfl⟩:=hget q o hq
  have h2:=(h.obs (r q) o0 h1).ext hrd (Below.refl _ _)
  have h3:=h2.forget (k:=k) (G':=G') g1
  rw [Ob.forget_free hf] at h3
  rw [r1 q]
  exact h3.ren g3
 ·intro i s hi
  have h1:=h.facts i s hi
  have h2:s.free k=true:=by
   have key:∀(f:Fr),H6 k f=true→∀i s,D7 f i=some s→s.free k=true:=by
    intro f
    induction f with
    | nil=>intro _ i s h;cases h
    | cons p r ih =>
     obtain ⟨q,s0⟩:=p
     intro hf i s hg
     simp only [H6,J18] at hf
     by_cases hq:q=i
     ·subst hq;rw [E3] at hg;cases hg
      first | exact hf.1 | exact hf.1.2 | exact hf.2.1
     ·rw [C4 hq] at hg
      exact ih (by first | exact hf.2 | exact hf.2.2) i s hg
   exact key fr hfr i s hi
  have h3:=SV.rep_forget (G':=G') g1 (SV.rep_mono hrd h1)
  rwa [SV.forget_free h2] at h3
def ddF:Fr→Fr
 | []=>[]
 | (i,s)::r=>(i,s)::(ddF r).filter fun p=>!(Nat.beq p.1 i)
theorem B17 {i q:Nat} (h:i≠q):∀(fr:Fr),D7 (fr.filter fun p=>!(Nat.beq p.1 i)) q=D7 fr q
 | []=>rfl
 | (j,s)::r=>by
  rw [J61]
  by_cases hj:j=i
  ·subst hj
   rw [if_neg (by simp),C4 h,B17 h r]
  ·rw [if_pos (by simp [I2 hj])]
   by_cases hq:j=q
   ·subst hq;rw [E3,E3]
   ·rw [C4 hq,C4 hq,B17 h r]
theorem D28:∀(fr:Fr) (q:Nat),D7 (ddF fr) q=D7 fr q
 | [],q=>rfl
 | (i,s)::r,q=>by
  unfold ddF
  by_cases h:i=q
  ·subst h;rw [E3,E3]
  ·rw [C4 h,C4 h,B17 h,D28 r q]
theorem mem_dd:∀{fr:Fr} {p:Nat × SV},p∈ddF fr→D7 fr p.1=some p.2
 | (i,s)::r,p,h=>by
  unfold ddF at h
  rcases List.mem_cons.1 h with rfl | h
  ·exact E3 _ _ _
  ·obtain ⟨h1,h2⟩:=List.mem_filter.1 h
   have hne:i≠p.1:=fun e=>by rw [e,Nat.beq_refl] at h2;cases h2
   rw [C4 hne]
   exact mem_dd h1
theorem E64 {k:Nat}:∀{fr:Fr},(∀p∈fr,p.2.free k=true)→H6 k fr=true
 | [],_=>rfl
 | (i,s)::r,h=>by
  show (SV.free k s&&H6 k r)=true
  rw [J18]
  exact ⟨h (i,s) (List.mem_cons_self ..),E64 fun p hp=>h p (List.mem_cons_of_mem _ hp)⟩
theorem D29 {U:Fr} {k:Nat} {o:Oper} {ob ob':Obs} {s:SV} (h:∀frc,D49 U frc→H6 k frc=true→EffV P o frc ob s frc ob'):EffR P nt o U [k] [] ob ob' s:=by
 intro frc hU hfree S G a w hn hs
 have hs2:Sim P S (ddF frc) ob G a w:=hs.weaken fun i s hi=>by rwa [D28] at hi
 have hfr:H6 k (ddF frc)=true:=E64 fun p hp=>hfree k (by simp) p.1 p.2 (mem_dd hp) (by simp)
 have:=h (ddF frc) (fun t s ht=>by rw [D28];exact hU t s ht) hfr S G a w hs2
 have imp:∀(v:Value) (w':World),(∃G',Sim P S (ddF frc) ob' G' a w'∧s.rep (E7 (Mut S ob' G') w') G' v)→∃G',Sim P S (Y3 [] frc) ob' G' a w'∧∀d,o.dst=some d→s.rep (E7 (Mut S ob' G') w') G' v:=fun v w' ⟨G',h,hr⟩=>⟨G',h.weaken (fun t x ht=>by rw [D28];exact (getF_dropK.1 ht).2),fun _ _=>hr⟩
 unfold Does at this ⊢
 generalize (execOp a.eval _).run P w=r at *
 cases r with
 | ok n w' =>
  cases n<;>simp only at this ⊢<;>try exact this.elim
  case value v=>exact imp v w' this
  case skip=>exact imp undef w' this
  case enter f args=>exact this.mono fun e w'' ⟨v,he,hv⟩=>⟨v,he,imp v w'' hv⟩
 | halt x w'=>exact this
end
end Go.AL
namespace Go.AL
open Go Go.RowKit
set_option linter.unusedVariables false
section
variable {P:Program} {nt:Nat} {fr gf:Fr} {ob:Obs}
theorem TC.free_forget (k:Nat) (t:TC):(t.forget k).free k=true:=by
 cases t with
 | p c=>rfl
 | buf k' α ec c xs=>cases hb:Nat.beq k' k<;>simp [TC.forget,TC.free,hb]
 | ref k' o=>cases hb:Nat.beq k' k<;>simp [TC.forget,TC.free,hb]
 | eref α ec c x o=>rfl
 | «mut» k'=>cases hb:Nat.beq k' k<;>simp [TC.forget,TC.free,hb]
 | mref k' ec i o=>cases hb:Nat.beq k' k<;>simp [TC.forget,TC.free,hb]
 | any=>rfl
 | clo f nf nc =>
  simp only [TC.forget]
  cases hb:(A50 k nf||A50 k nc)
  ·rw [Bool.or_eq_false_iff] at hb;simp [TC.free,hb.1,hb.2]
  ·rfl
 | msl k' ec o n=>cases hb:Nat.beq k' k<;>simp [TC.forget,TC.free,hb]
 | full α ec c xs=>rfl
theorem S1.free_forget (k:Nat) (s:S1):(s.forget k).free k=true:=by
 cases s with
 | one t=>exact TC.free_forget k t
 | agg ts =>
  show (ts.map (TC.forget k)).all (TC.free k)=true
  rw [List.all_map,List.all_eq_true]
  exact fun t _=>TC.free_forget k t
theorem SV.free_forget (k:Nat) (s:SV):(s.forget k).free k=true:=by
 cases s with
 | s x=>exact S1.free_forget k x
 | tup l =>
  show (l.map (S1.forget k)).all (S1.free k)=true
  rw [List.all_map,List.all_eq_true]
  exact fun t _=>S1.free_forget k t
 | any=>rfl
 | un=>rfl
theorem E31 {k:Nat} {ks:List Nat} {gf:Fr} (hk:U1 ks k=true):∀p∈E1 ks gf,p.2.free k=true:=by
 rw [←A33 hk]
 intro p hp
 obtain ⟨q,_,rfl⟩:=List.mem_map.1 hp
 exact SV.free_forget k q.2
theorem E65 {l:List Oper} {ops:Array Oper} {svs:Sv} {fr gf:Fr}:∀{ed:Ed},B65 l ops svs fr ed=true→(∀e∈ed,∀k∈e.2.1,∀p∈gf,p.2.free k=true)→B65 l ops svs (fr++gf) ed=true
 | [],_,_=>rfl
 | (e,ks,kills)::r,h,hg=>by
  simp only [B65,J18] at h ⊢
  refine ⟨?_,E65 h.2 fun e' he=>hg e' (List.mem_cons_of_mem _ he)⟩
  rw [List.all_eq_true] at h ⊢
  intro k hk
  have h1:=h.1 k hk
  rw [J18] at h1 ⊢
  refine ⟨h1.1,?_⟩
  rw [J65,J18]
  refine ⟨h1.2,List.all_eq_true.2 fun p hp=>?_⟩
  rw [hg (e,ks,kills) (List.mem_cons_self ..) k hk p hp,Bool.or_true]
theorem w_nilG {ks:List Nat} {l:List Oper} {E:List Nat} {ed:Ed} {T2:List (Nat × List Nat)} {Q:Post} {svs:Sv} {M:Mo} {obE:Obs} (h0:(ed.all fun e=>e.2.1.all (U1 ks))=true) (h1:(B65 l l.toArray svs fr ed&&(List.range l.length).all fun j=>(Q1 svs j).isSome)=true) (h2:V2 M E=some obE)
  (h3:B12 P nt l (fr++E1 ks gf) E ed svs M T2) (h4:Q .normal (Y3 (F22 ed) (B56 l svs (fr++E1 ks gf))) obE):B66 P nt l (fr++E1 ks gf) E ed (Fin2 P nt l (fr++E1 ks gf) E ed T2 Q) [] svs M:=by
 rw [J18] at h1
 refine E61 ?_ h2 h3 h4
 rw [J18]
 refine ⟨E65 h1.1 fun e he k hk p hp=>?_,h1.2⟩
 exact E31 (List.all_eq_true.1 (List.all_eq_true.1 h0 e he) k hk) p hp
end
end Go.AL
namespace Go.AL
open Go Go.RowKit
set_option linter.unusedVariables false
section
variable {P:Program}
theorem H34 {rd rd':Rd} {G:Gh} (hr:∀b i z,rd b i z→rd' b i z):∀{args:List PV} {vals:List Value},All2 (PV.rep rd) args vals→All2 (S1.rep rd' G) (args.map PV.s1) vals
 | [],[],_=>trivial
 | [],_::_,h=>h.elim
 | _::_,[],h=>h.elim
 | p::ps,v::vs,h=>⟨PV.rep_s1 (PV.rep_mono hr h.1),H34 hr h.2⟩
theorem J10 {f:FuncId} {args:List PV} {k:Nat} {α:Type} {ec:Nat} {c:α→Nat→Cell} {xs:List α} (hk:Nat.blt k 1000000=true)
  (h:Met P f (args.map PV.s1) [] [] [] (fun rs ob'=>rs=[.one (.mut k)]∧ob'=[(k,.arr α ec c xs)])):FnOk P f args (fun rs=>rs=[.one (.list α ec c xs)]):=by
 refine ⟨h.1,fun w M vals hg hM ha=>?_⟩
 obtain ⟨S,hS⟩:∃S:Ctx,S={ w0:=w,M0:=M,io:=fun _=>False,nt:=0,pin:=fun _=>undef,gv:=fun _=>undef }:=⟨_,rfl⟩
 have hM0:S.M0=M:=by rw [hS]
 have hM':∀(G:Gh) b i,Mut S [] G b i↔M b i:=fun G b i=>⟨fun h=>h.elim (fun h=>by rw [←hM0];exact h) fun ⟨k,o,hk,_⟩=>by simp [C1] at hk,fun h=>.inl (by rw [hM0];exact h)⟩
 have hs:Sim P S [] [] (fun _=>undef) { tmps:=#[],defers:=[] } w:=by
  subst hS
  exact { nt:=rfl,ntb:=Nat.zero_le _,defers:=rfl,os:=rfl,tape:=rfl,output:=rfl,size:=Nat.le_refl _,keep:=fun _ _ _=>rfl,m0:=hM,m0io:=fun _ _ _=>id,grd:=hg,pin:=fun _ _=>rfl,old:=fun k o b h=>(by simp [C1] at h),dis:=fun k k' o o' b h=>(by simp [C1] at h),obs:=fun k o h=>(by simp [C1] at h),facts:=fun i s h=>(by simp [D7] at h) }
 have hvals:All2 (S1.rep (E7 (Mut S [] (fun _=>undef)) w) (fun _=>undef)) (args.map PV.s1) vals:=H34 (fun b i z hr=>⟨hr.1,fun hm=>hr.2 ((hM' _ b i).1 hm)⟩) ha
 refine (h.2 (fun i s hi=>by simp [D7] at hi) S _ _ w vals hs hvals).mono ?_
 rintro e w' ⟨v,rs,ob',G',rfl,⟨rfl,rfl⟩,hr,hs'⟩
 have hv:(TC.mut k).rep (E7 (Mut S [(k,.arr α ec c xs)] G') w') G' v:=hr
 have hs2:Sim P { S with gv:=fun _=>v } [(1000000,.s (.one (.mut k)))] [(k,.arr α ec c xs)] G' { tmps:=#[],defers:=[] } w':=by
  refine { hs' with facts:=fun i s hi=>?_ }
  by_cases hi2:1000000=i
  ·subst hi2
   rw [E3] at hi
   cases hi
   exact hv
  ·rw [C4 hi2] at hi;simp [D7] at hi
 obtain ⟨G2,hs3⟩:=(Sees.freeze (P:=P) (nt:=0) (fr:=[(1000000,.s (.one (.mut k)))]) (ob:=[(k,.arr α ec c xs)]) (k:=k) (C7 _ _ _)) _ G' _ w' (by rw [hS]) hs2
 have hfact:=hs3.facts 1000000 (.s (.one (.p (.list α ec c xs)))) (by simp [I88,SV.freeze,S1.freeze,TC.freeze,D7])
 have hob:I84 (Ob.freeze k α ec c xs) (Obs.drop k [(k,Ob.arr α ec c xs)])=[]:=by simp [Obs.drop,I84]
 rw [hob] at hfact
 refine ⟨v,_,rfl,rfl,?_,⟨hs'.os.trans (by rw [hS]),hs'.tape.trans (by rw [hS]),hs'.output.trans (by rw [hS]),by have:=hs'.size;rw [hS] at this;exact this,fun q hq=>by have:=hs'.keep q (by rw [hS];exact hq) (by rw [hS];exact id);rw [hS] at this;exact this⟩⟩
 have hfact:(Cell.list α ec c xs).rep (E7 (Mut { S with gv:=fun _=>v } [] G2) w') v:=hfact
 refine Cell.rep_mono (fun b i z hz=>⟨hz.1,fun hm=>hz.2 (.inl ?_)⟩) _ _ hfact
 show S.M0 b i
 rw [hM0];exact hm
end
end Go.AL
namespace Go.AL
open Go Go.RowKit
set_option linter.unusedVariables false
section
variable {P:Program} {nt:Nat} {fr:Fr} {ob:Obs} {dst:Option Tmp} {ty:TypeId} {pos:String} {af:Array Edge} {gd:Option (Nat × Bool)}
theorem C20 {x y:Operand} {k:Nat} {α:Type} {ec bytes:Nat} {c:α→Nat→Cell} {xs ys:List α} {t e:TypeId} [ht:TySl P t e ec bytes] (hx:opv fr x=some (.s (.one (.full α ec c xs))))
  (hy:opv fr y=some (.s (.one (.mut k)))) (hk:C1 ob k=some (.arr α ec c ys)) (hlen:xs.length+ys.length≤1073741824) (hys:0 < ys.length) :
  Neu P ⟨dst,.call ⟨.builtin .append,#[x,y],#[t,t]⟩,ty,pos,af,gd⟩ fr ob (fun s'=>s'=C0 α ec c (xs++ys)):=by
 intro S G a w h
 obtain ⟨hts,hinfo,hec,hby,hzero⟩:=ht.out
 cases hi:P.info? e with
 | none=>simp [hi] at hinfo
 | some i =>
 simp [hi] at hinfo
 obtain ⟨hsz,hbytes⟩:=hinfo
 cases hz:i.zero with
 | none=>simp [hi,hz] at hzero
 | some z =>
 simp [hi,hz] at hzero
 obtain ⟨hrx,a0,hux⟩:=I0 h hx
 obtain ⟨ad,cap,vx,hux',hcapx,hlx,hvlx,honex,hvx,hrdx⟩:=R2 hrx
 rw [hux] at hux'
 injection hux' with e1 e2 e3
 subst e1
 obtain ⟨by',vs2,t2,hG2,hly,hh2,hsz2,hvy0⟩:=h.obs k _ hk
 obtain ⟨huy,_⟩:=I0 h hy
 rw [hG2] at huy
 obtain ⟨vy,hvyd⟩:∃vy,vy=vs2.toList:=⟨_,rfl⟩
 have hvly:vy.length=ys.length*ec:=by rw [hvyd];simpa using hsz2
 have hvy:∀i (hi:i < ys.length) j,j < ec→∃z,vy[i*ec+j]?=some z∧(c ys[i] j).rep (E7 (Mut S ob G) w) z:=fun i hi j hj=>by
  obtain ⟨z,h1,h2⟩:=hvy0 i hi j hj
  exact ⟨z,by rw [hvyd];simpa using h1,h2⟩
 have hry2:∀j z,vy[j]?=some z→w.cell? ⟨by',0+j,none⟩=some z∧True:=fun j z hj=>⟨by rw [Nat.zero_add];exact cell_of_heap hh2 (by rw [hvyd] at hj;simpa using hj),trivial⟩
 have hbig:(xs.length+ys.length)*bytes≤140737488355328:=by
  have:(xs.length+ys.length)*bytes≤1073741824*4096:=Nat.mul_le_mul hlen hby
  omega
 have hmax:xs.length+ys.length≤maxLen:=by unfold maxLen;omega
 obtain ⟨gc,hgc⟩:∃gc,gc=grownCap w (xs.length+ys.length) xs.length e:=⟨_,rfl⟩
 have hge:=grownCap_ge w (xs.length+ys.length) xs.length e
 have hcm:=grownCap_le_maxLen w (xs.length+ys.length) xs.length e hmax
 rw [←hgc] at hge hcm
 have hrun:(Builtin.append_ #[t,t] ty #[a.eval x,a.eval y]).run P w=.ok (.slice (some ⟨w.heap.size,0,none⟩) (xs.length+ys.length) gc) (w.drew.alloc (.cells (vx.toArray++vy.toArray++Builtin.zeroCells z.cells (gc - (xs.length+ys.length))) e)):=by
  rw [hux,huy]
  rcases hrdx with h0 | ⟨bx,ox,hax,hrx2⟩
  ·have hx0:xs=[]:=List.eq_nil_of_length_eq_zero h0
   subst hx0
   have hvx0:vx=[]:=List.eq_nil_of_length_eq_zero (by rw [hvlx];simp)
   subst hvx0
   cases a0 with
   | none =>
    have hr2:=run_append_nil (P:=P) w t ty e i z hts hi hz ⟨by',0,none⟩ ys.length ys.length vy (by rw [hsz];exact hvly) (fun j v hj=>by rw [Addr.add_lit];exact (hry2 j v hj).1) hys (by omega) (by rw [hbytes];simp at hbig;omega)
    simp only [J19,Nat.zero_add] at hgc ⊢
    rw [hgc]
    simpa using hr2
   | some ab =>
    have hr2:=run_append_grow (P:=P) w t ty e i z hts hi hz ab 0 0 [] (by simp) (by simp) ⟨by',0,none⟩ ys.length ys.length vy (by rw [hsz];exact hvly) (fun j v hj=>by rw [Addr.add_lit];exact (hry2 j v hj).1) (by omega) (by omega) (growslice_fits (by omega) (by rw [hbytes];simpa using hbig))
    simp only [J19] at hgc ⊢
    rw [hgc]
    simpa using hr2
  ·rw [hax]
   have hr2:=run_append_grow (P:=P) w t ty e i z hts hi hz ⟨bx,ox,none⟩ xs.length xs.length vx (by rw [hsz];exact hvlx) (fun j v hj=>by rw [Addr.add_lit];exact (hrx2 j v hj).1) ⟨by',0,none⟩ ys.length ys.length vy (by rw [hsz];exact hvly) (fun j v hj=>by rw [Addr.add_lit];exact (hry2 j v hj).1) (by omega) (by omega) (growslice_fits (by omega) (by rw [hbytes];exact hbig))
   rw [hgc];exact hr2
 obtain ⟨cells,hcells⟩:∃cells,cells=vx.toArray++vy.toArray++Builtin.zeroCells z.cells (gc - (xs.length+ys.length)):=⟨_,rfl⟩
 rw [←hcells] at hrun
 have hxw:Below w.heap.size w (w.drew.alloc (.cells cells e)):=⟨rfl,rfl,rfl,by simp,fun k hk=>heap_alloc_old w.drew _ hk⟩
 refine H8 (w':=w.drew.alloc (.cells cells e)) (v:=.slice (some ⟨w.heap.size,0,none⟩) (xs.length+ys.length) gc) (by simp [execOp,resolve,invoke,builtin,hrun]) ⟨hxw,_,rfl,?_⟩
 show (Cell.list α ec c (xs++ys)).rep _ _
 simp only [Cell.rep]
 have hget:∀q z,(vx++vy)[q]?=some z→E7 (Mut S ob G) (w.drew.alloc (.cells cells e)) w.heap.size (0+q) z:=by
  intro q zz hq
  refine ⟨?_,fun hmut=>?_⟩
  ·rw [Nat.zero_add]
   refine cell_of_heap (heap_alloc_new w.drew _) ?_
   rw [hcells]
   have hlt:=(List.getElem?_eq_some_iff.1 hq).1
   rw [←Array.getElem?_toList]
   simp only [Array.toList_append]
   rw [J34 (by simpa using hlt)]
   exact hq
  ·have:=h.mut_lt hmut
   omega
 refine ⟨some ⟨w.heap.size,0,none⟩,gc,by rw [J15],⟨by rw [J15];omega,by simp⟩,by rw [J15];omega,.inr ⟨w.heap.size,0,rfl,fun m hm j hj=>?_⟩⟩
 by_cases hlt:m < xs.length
 ·obtain ⟨zz,hz1,hz2⟩:=hvx m hlt j hj
  refine ⟨zz,?_,hm,?_⟩
  ·have:=hget (m*ec+j) zz (by rw [J34 (List.getElem?_eq_some_iff.1 hz1).1];exact hz1)
   rwa [show 0+m*ec+j=0+(m*ec+j) by omega]
  ·have e1:(xs++ys)[m]=xs[m]:=by rw [J59 hlt]
   rw [e1]
   exact Cell.rep_mono (fun _ _ _ hr=>c5 hxw hr) _ _ hz2
 ·have hm':m - xs.length < ys.length:=by simp at hm;omega
  obtain ⟨zz,hz1,hz2⟩:=hvy (m - xs.length) hm' j hj
  refine ⟨zz,?_,hm,?_⟩
  ·have hge2:xs.length*ec≤m*ec:=J27 _ (by omega)
   have:=hget (m*ec+j) zz (by
    rw [J38 (by rw [hvlx];omega),hvlx]
    have:m*ec+j - xs.length*ec=(m - xs.length)*ec+j:=by rw [Nat.sub_mul];omega
    rw [this];exact hz1)
   rwa [show 0+m*ec+j=0+(m*ec+j) by omega]
  ·have e1:(xs++ys)[m]=ys[m - xs.length]:=by rw [J58 (by omega)]
   rw [e1]
   exact Cell.rep_mono (fun _ _ _ hr=>c5 hxw hr) _ _ hz2
theorem E32 {x:Operand} {k:Nat} {t yt e:TypeId} {ec bytes:Nat} {α:Type} {c:α→Nat→Cell} {xs:List α} [ht:TySl P t e ec bytes] (hx:opv fr x=some (.s (.one (.mut k)))) (hk:C1 ob k=some (.arr α ec c xs)) :
  Neu P ⟨dst,.binOp .eql t x (.const (.slice none 0 0)) yt,ty,pos,af,gd⟩ fr ob (fun s'=>s'=N0 false):=by
 intro S G a w h
 obtain ⟨b,vs,t2,hG2,_⟩:=h.obs k _ hk
 obtain ⟨hu,_⟩:=I0 h hx
 rw [hG2] at hu
 refine H8 (v:=.bool false) (w':=w) ?_ ⟨Below.refl _ _,N0 false,rfl,rfl,rfl⟩
 have e2:a.eval (.const (.slice none 0 0))=.slice none 0 0:=rfl
 simp only [execOp,hu,e2]
 refine L1 ?_
 simp only [Sem.run_bind]
 rw [show (eqGuard .eql t x (.const (.slice none 0 0)) (.slice (some ⟨b,0,none⟩) xs.length xs.length) (.slice none 0 0)).run P w=.ok () w from rfl]
 simp only [Result.andThen_ok]
 show (binOp .eql t (.slice (some ⟨b,0,none⟩) xs.length xs.length) (.slice none 0 0)).run P w=_
 simp only [binOp,Sem.run_bind,run_equal_slice_nil w t e (some ⟨b,0,none⟩) xs.length xs.length ht.out.1,Result.andThen_ok]
 rfl
end
end Go.AL
namespace Go.AL
open Go Go.RowKit
set_option linter.unusedVariables false
def Cell.flat:Cell→Bool
 | .v _=>true
 | _=>false
def PV.flat:PV→Bool
 | .one c=>c.flat
 | .agg cs=>cs.all Cell.flat
section
variable {P:Program} {dst:Option Tmp} {ty:TypeId} {pos:String} {af:Array Edge} {gd:Option (Nat × Bool)} {fr fr':Fr} {ob ob':Obs}
end
end Go.AL
namespace Go.AL
open Go Go.RowKit
set_option linter.unusedVariables false
section
variable {P:Program} {nt:Nat} {fr:Fr} {ob:Obs}
end
end Go.AL
namespace Go.AL
open Go Go.RowKit
set_option linter.unusedVariables false
section
variable {P:Program} {nt:Nat} {fr:Fr} {ob:Obs}
end
end Go.AL
