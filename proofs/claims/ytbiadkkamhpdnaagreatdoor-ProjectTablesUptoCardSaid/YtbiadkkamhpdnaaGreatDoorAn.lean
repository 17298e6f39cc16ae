/- The abstract logic, its third part. No project text. -/
import Derived.Test.YtbiadkkamhpdnaaGreatDoorAm
import Derived.Laws.StructEq
import Derived.Laws.Cover3
import Derived.MapKept
set_option linter.unusedSimpArgs false
attribute [local semireducible] Go.AL.Neu Go.AL.Eff Go.AL.EffV Go.AL.WpL Go.AL.WpC Go.AL.FnOk Go.AL.LexD Go.AL.Sees Go.AL.RetOk Go.AL.FnIo Go.AL.Met Go.AL.RetS
namespace Go.AL
open Go Go.RowKit
set_option linter.unusedVariables false
section
variable {P:Program} {nt:Nat} {ops:Array Oper}
def EffU (P:Program) (o:Oper) (U:Fr) (ob ob':Obs):Prop :=
 ∀S G a w,Sim P S U ob G a w→Does P o a w (fun _ w'=>∃G',∀fr,Sim P S fr ob G a w→Sim P S fr ob' G' a w')
theorem Y6 {t:TypeId} {x y:Operand} {k o n:Nat} {ts:List TC} {s:S1} {fr:Fr} {ob:Obs} {ty:TypeId} {pos:String} {af:Array Edge} {gd:Option (Nat × Bool)} (hsz:(P.info? t).map (·.size)=some n) (hx:opv fr x=some (.s (.one (.ref k o)))) (hk:D4 ob k=some (.box ts)) (hy:opv fr y=some (.s s)) (hc:K3 y=true)
  (hn:s.cells.length=n) (hfit:Nat.ble (o+n) ts.length=true):EffU P ⟨none,.store t x y,ty,pos,af,gd⟩ fr ob ((k,.box (setTs ts o s.cells))::ob):=by
 intro S G a w h
 obtain ⟨b,hg,hu⟩:=J5 h hx
 obtain ⟨b',vs,tt,hg',hh,ha⟩:=h.box hk
 rw [hg] at hg';cases hg'
 have hr:(SV.s s).rep (F9 (Mut S ob G) w) G (a.eval y):=V4 h hy hc
 have hcells:=J60 hr
 have hlen:(a.eval y).cells.size=n:=by rw [←hn,hcells.length];simp
 have hle:o+n≤ts.length:=by simpa using hfit
 have hone:∀u∈(a.eval y).cells.toList,u.oneCell'=true:=by
  intro u hu
  have:∀(ts:List TC) (vs:List Value),All2 (TC.rep (F9 (Mut S ob G) w) G) ts vs→∀u∈vs,u.oneCell'=true:=by
   intro ts
   induction ts with
   | nil=>intro vs h u hu;cases vs with | nil=>cases hu | cons=>exact h.elim
   | cons t ts ih =>
    intro vs h u hu
    cases vs with
    | nil=>exact h.elim
    | cons v vs =>
     rcases List.mem_cons.1 hu with rfl | hu
     ·exact TC.rep_one h.1
     ·exact ih vs h.2 u hu
  exact this _ _ hcells u hu
 obtain ⟨w',hrun,hos,htape,hout,hsize,hother,hheap⟩:=m8 (P:=P) (t:=t) (w:=w) (b:=b) (o:=o) (v:=a.eval y) (by rw [hsz,hlen]) hh hone (by rw [hlen,←ha.length];exact hle)
 unfold Does
 have he:(execOp a.eval ⟨none,.store t x y,ty,pos,af,gd⟩).run P w=.ok .skip w':=by
  simp [execOp,hu,Instr.storeAt,Instr.sureAddr,hrun]
 rw [he]
 have hbk:blk (G k)=some b:=by rw [hg];rfl
 refine ⟨G,fun fr2 h2=>h2.write hk hbk (fun i=>⟨hbk,trivial⟩) (fun i=>⟨hbk,trivial⟩) hos htape hout (Nat.le_of_eq hsize.symm) (fun j _=>hother j) ?_⟩
 intro rd hrd
 refine ⟨b,_,tt,hg,hheap,?_⟩
 have hd:vs.drop (o+(a.eval y).cells.size)=vs.drop (o+s.cells.length):=by rw [hlen,hn]
 unfold setTs
 rw [hd]
 exact (((ha.take o).append hcells).append (ha.drop _)).mono fun _ _=>TC.rep_mono hrd
def Told (U:Fr) (φ:Fa):Prop:=∀t s,E7 U t=some s→φ t=some s
theorem I44 {o:Oper} {U:Fr} {ob ob':Obs} {φ:Fa} (h:EffU P o U ob ob') (hg:o.guard=none) (hd:o.dst=none) (hφ:Told U φ):C33 P nt ops o φ ob (fun φ' ob''=>φ'=φ∧ob''=ob'):=by
 refine ⟨hg,fun S G a w hn hs=>B10 (h S G a w (hs.sub hφ)) ?_⟩
 rintro v w' ⟨G',hG⟩
 refine ⟨φ,ob',G',⟨rfl,rfl⟩,?_⟩
 rw [hd]
 refine ⟨hG [] hs.1,fun i s hi=>?_⟩
 have h1:Sim P S [(i,s)] ob G a w:=hs.sub fun j t hj=>by
  by_cases he:i=j
  ·subst he;rw [E4] at hj;cases hj;exact hi
  ·rw [D7 he] at hj;simp [E7] at hj
 exact (hG _ h1).facts i s (by rw [E4])
def AnyC (P:Program) (nt:Nat) (ops:Array Oper) (T:Nat) (U:Fr) (ob ob':Obs) (E:Array Bool→Fa→Prop):Nat→Array Bool→Fa→Prop
 | 0,listed,φ=>(T∈Region.ready .any ops listed→Told U φ)∧T∈Region.ready .any ops listed∧(∀j∈Region.ready .any ops listed,j=T)∧E listed φ
 | fuel+1,listed,φ=>(T∈Region.ready .any ops listed→Told U φ)∧(∃p,p < T∧p∈Region.ready .any ops listed)∧∀i∈Region.ready .any ops listed,i≠T →
   ∃o s d,ops[i]?=some o∧o.dst=some d∧turns o.op=false∧YieldsN P nt ops o φ ob s∧YieldsN P nt ops o φ ob' s∧AnyC P nt ops T U ob ob' E fuel (listed.setIfInBounds i true) (X6 φ d s)
theorem AnyC.told {T:Nat} {U:Fr} {ob ob':Obs} {E:Array Bool→Fa→Prop} {fuel:Nat} {listed:Array Bool} {φ:Fa} (h:AnyC P nt ops T U ob ob' E fuel listed φ):T∈Region.ready .any ops listed→Told U φ:=by
 cases fuel<;>exact h.1
theorem A67 {fr:Fr} {ob:Obs} {dst:Option Tmp} {ty:TypeId} {pos:String} {af:Array Edge} {gd:Option (Nat × Bool)} {c x y:Operand} {b p:Bool} (hc:opv fr c=some (S6 b)) (hb:b=true) (hx:opv fr x=some (S6 p)) :
  Neu P ⟨dst,.pick c x y,ty,pos,af,gd⟩ fr ob (fun s'=>s'=S6 p) :=
 G1 fun S G a w h=>by
  have:=H8 h hc
  subst hb
  exact ⟨.bool p,by simp [execOp,this,asBool,H8 h hx],rfl,rfl⟩
theorem B77 {fr:Fr} {ob:Obs} {dst:Option Tmp} {ty:TypeId} {pos:String} {af:Array Edge} {gd:Option (Nat × Bool)} {c x y:Operand} {b p:Bool} (hc:opv fr c=some (S6 b)) (hb:b=false) (hx:opv fr y=some (S6 p)) :
  Neu P ⟨dst,.pick c x y,ty,pos,af,gd⟩ fr ob (fun s'=>s'=S6 p) :=
 G1 fun S G a w h=>by
  have:=H8 h hc
  subst hb
  exact ⟨.bool p,by simp [execOp,this,asBool,H8 h hx],rfl,rfl⟩
end
end Go.AL
namespace Go.AL
open Go Go.RowKit
end Go.AL
namespace Go.AL
open Go Go.RowKit
set_option linter.unusedVariables false
inductive CK | int (k:IntKind) | str | bool
def ckOf (P:Program) (t:TypeId):Option CK :=
 match P.underlying t with
 | some (.int k)=>some (.int k)
 | some .string=>some .str
 | some .bool=>some .bool
 | _=>none
def F52 (P:Program):Nat→List Field→List CK→Bool
 | _,[],[]=>true
 | i,f::fs,k::ks=>f.name != "_"&&(f.offset == i&&((match ckOf P f.type,k with | some (.int k),.int k'=>decide (k=k') | some .str,.str=>true | some .bool,.bool=>true | _,_=>false)&&F52 P (i+1) fs ks))
 | _,_,_=>false
class TyCmp (P:Program) (t:TypeId) (ks:outParam (List CK)):Prop where
 out:P.underlying t=some (.struct (P.fieldsOf t))∧(F52 P 0 (P.fieldsOf t).toList ks&&(!P.stoodInHeld t&&!P.eqGuardType P.depth t))=true
def ckV:CK→Value→Bool
 | .int k,.int k' _=>decide (k=k')
 | .str,.string _=>true
 | .bool,.bool _=>true
 | _,_=>false
def eqV:Value→Value→Bool
 | .int _ a,.int _ b=>a == b
 | .string a,.string b=>a.toList == b.toList
 | .bool a,.bool b=>a == b
 | _,_=>false
def E10:List CK→List Value→Bool
 | [],[]=>true
 | k::ks,v::vs=>ckV k v&&E10 ks vs
 | _,_=>false
def E43:List Value→List Value→Bool
 | u::us,v::vs=>eqV u v&&E43 us vs
 | _,_=>true
theorem C97 {P:Program} (d:Nat) (us vs:List Value):∀(fs:List Field) (ks:List CK) (i:Nat),F52 P i fs ks=true→i+ks.length=us.length→i+ks.length=vs.length→E10 ks (us.drop i)=true→E10 ks (vs.drop i)=true →
  ∀w:World,(Op.eqFields (d+1) us.toArray vs.toArray fs).run P w=.ok (E43 (us.drop i) (vs.drop i)) w
 | [],[],i,_,h1,h2,_,_,w=>by
  rw [J94 (by simp at h1;omega)]
  simp [Op.eqFields,E43]
 | [],_::_,_,h,_,_,_,_,_=>by simp [F52] at h
 | _::_,[],_,h,_,_,_,_,_=>by simp [F52] at h
 | f::fs,k::ks,i,h,h1,h2,h3,h4,w=>by
  simp only [F52,J90,bne_iff_ne,beq_iff_eq] at h
  obtain ⟨hn,ho,hk,hr⟩:=h
  have l1:i < us.length:=by simp at h1;omega
  have l2:i < vs.length:=by simp at h2;omega
  rw [J92 l1] at h3 ⊢
  rw [J92 l2] at h4 ⊢
  simp only [E10,J90] at h3 h4
  have ih:=C97 (P:=P) d us vs fs ks (i+1) hr (by simp at h1;omega) (by simp at h2;omega) h3.2 h4.2
  have key:∀w:World,(part f.type us.toArray f.offset).run P w=.ok us[i] w∧(part f.type vs.toArray f.offset).run P w=.ok vs[i] w∧(Op.equalIn (d+1) f.type us[i] vs[i]).run P w=.ok (eqV us[i] vs[i]) w:=by
   intro w
   have e1:us.toArray[f.offset]?=some us[i]:=by rw [ho];simp [l1]
   have e2:vs.toArray[f.offset]?=some vs[i]:=by rw [ho];simp [l2]
   have q3:=h3.1
   have q4:=h4.1
   unfold ckOf at hk
   generalize us[i]=u at *
   generalize vs[i]=v at *
   cases hu:P.underlying f.type with
   | none=>rw [hu] at hk;simp at hk
   | some ty =>
    rw [hu] at hk
    cases ty<;>simp only at hk<;>try (simp at hk;done)
    all_goals (cases k<;>simp only [Bool.false_eq_true,decide_eq_true_eq] at hk)
    all_goals (cases u<;>simp only [ckV,Bool.false_eq_true,decide_eq_true_eq] at q3)
    all_goals (cases v<;>simp only [ckV,Bool.false_eq_true,decide_eq_true_eq] at q4)
    all_goals try subst q3
    all_goals try subst q4
    all_goals refine ⟨by simp [part,isAgg,run_underlying hu,e1],by simp [part,isAgg,run_underlying hu,e2],?_⟩
    ·exact run_equalIn_bool' w _ _ _ _ hu
    ·exact run_equalIn_int w _ _ _ _ _ _ hu
    ·exact run_equalIn_string w _ _ _ _ hu
  simp only [Op.eqFields,Sem.run_bind,Sem.run_ite]
  rw [if_pos hn,(key w).1]
  simp only [Result.andThen_ok]
  rw [(key w).2.1]
  simp only [Result.andThen_ok]
  rw [(key w).2.2]
  simp only [Result.andThen_ok]
  cases he:eqV us[i] vs[i]
  ·simp [E43,he]
  ·simp only [E43,he,Bool.true_and]
   simpa using ih w
theorem E44:∀{ks:List CK} {us:List Value},E10 ks us=true→ks.length=us.length
 | [],[],_=>rfl
 | [],_::_,h=>by simp [E10] at h
 | _::_,[],h=>by simp [E10] at h
 | _::ks,_::us,h=>by simp only [E10,J90] at h;simp [E44 h.2]
section
variable {P:Program} {dst:Option Tmp} {ty:TypeId} {pos:String} {af:Array Edge} {gd:Option (Nat × Bool)} {fr:Fr} {ob:Obs}
theorem C51 {rd:Rd} {G:Gh}:∀{us vs:List Value},All2 (TC.rep rd G) (us.map fun u=>TC.p (.v u)) vs→vs=us
 | [],[],_=>rfl
 | [],_::_,h=>h.elim
 | _::_,[],h=>h.elim
 | u::us,v::vs,h=>by
  obtain ⟨⟨h1,_⟩,h2⟩:=h
  rw [C51 h2,h1]
theorem cmp_run {t:TypeId} {ks:List CK} {us vs:List Value} [ht:TyCmp P t ks] (h:(E10 ks us&&E10 ks vs)=true) (w:World):(Op.equalIn 10000 t (.agg us.toArray) (.agg vs.toArray)).run P w=.ok (E43 us vs) w:=by
 obtain ⟨h1,h2⟩:=ht.out
 simp only [J90,Bool.not_eq_true'] at h h2
 have e1:=E44 h.1
 have e2:=E44 h.2
 rw [run_equalIn_agg w 9999 t _ _ h1 h2.2.1]
 have:=C97 (P:=P) 9998 us vs _ ks 0 h2.1 (by omega) (by omega) h.1 h.2 w
 exact this
theorem G57 {t yt:TypeId} {x y:Operand} {ks:List CK} (us vs:List Value) {r:Bool} [ht:TyCmp P t ks] (hx:opv fr x=some (.s (.agg (us.map fun u=>.p (.v u))))) (hy:opv fr y=some (.s (.agg (vs.map fun u=>.p (.v u)))))
  (hc:(K3 x&&K3 y)=true) (hk:(E10 ks us&&E10 ks vs)=true) (hr:E43 us vs=r):Neu P ⟨dst,.binOp .neq t x y yt,ty,pos,af,gd⟩ fr ob (fun s'=>s'=S6 (!r)) :=
 G1 fun S G a w h=>by
  simp only [J90] at hc
  obtain ⟨us',e1,a1⟩:=V4 h hx hc.1
  obtain ⟨vs',e2,a2⟩:=V4 h hy hc.2
  obtain rfl:=C51 a1
  obtain rfl:=C51 a2
  have hg:=ht.out.2
  simp only [J90,Bool.not_eq_true'] at hg
  refine ⟨.bool (!r),?_,rfl,rfl⟩
  simp only [execOp,e1,e2]
  refine O1 ?_
  simp only [Sem.run_bind]
  rw [run_eqGuard_agg (hm:=hg.2.2)]
  simp only [Result.andThen_ok]
  rw [run_neq_struct,cmp_run hk,hr]
  rfl
end
end Go.AL
namespace Go.AL
open Go Go.RowKit
set_option linter.unusedVariables false
theorem u6 {listed:Array Bool} {e j:Nat} (h:e≠j):(listed.setIfInBounds e true).getD j false=listed.getD j false:=by
 simp only [Array.getD_eq_getD_getElem?,Array.getElem?_setIfInBounds_ne h]
def X4:Op→List Nat
 | .store _ x y=>tmO x++tmO y
 | .box _ x=>tmO x
 | .makeSlice _ x y=>tmO x++tmO y
 | op=>B21 op
def s6 (sv:List SV) (i:Nat):SV:=sv.getD i .any
def C98:List Oper→List SV→Fr→Fr
 | o::l,s::sv,fr=>match o.dst with
  | some d=>(d,s)::C98 l sv fr
  | none=>C98 l sv fr
 | _,_,fr=>fr
abbrev Xe:=List (Nat × Bool × (Nat × Ob))
def xAt:Xe→Nat→Option (Bool × (Nat × Ob))
 | [],_=>none
 | (i,x)::r,e=>cond (Nat.beq i e) (some x) (xAt r e)
def obD (xe:Xe) (ob:Obs):List Nat→Obs
 | []=>ob
 | e::D=>match xAt xe e with
  | some x=>x.2::obD xe ob D
  | none=>obD xe ob D
def A25 (e:Nat):List Nat→List Nat
 | []=>[e]
 | d::D=>cond (Nat.blt d e) (e::d::D) (d::A25 e D)
def X7 (l:List Nat) (e:Nat):Bool:=l.any (Nat.beq e)
theorem hasN_iff {l:List Nat} {e:Nat}:X7 l e=true↔e∈l:=by
 unfold X7
 rw [List.any_eq_true]
 exact ⟨fun ⟨x,h,he⟩=>by rw [Nat.eq_of_beq_eq_true he];exact h,fun h=>⟨e,h,Nat.beq_refl e⟩⟩
def B78 (ops:Array Oper) (E:List Nat) (i:Nat) (D:List Nat):Bool:=!(X7 D i)&&((E.all fun j=>!(Bef ops i j)||X7 D j)&&D.all fun j=>!(Bef ops j i))
def A26:List Nat→List Nat→Bool
 | [],[]=>true
 | a::l,b::m=>Nat.beq a b&&A26 l m
 | _,_=>false
theorem A68:∀{l m:List Nat},A26 l m=true→l=m
 | [],[],_=>rfl
 | [],_::_,h=>by simp [A26] at h
 | _::_,[],h=>by simp [A26] at h
 | a::l,b::m,h=>by
  simp only [A26,J90] at h
  rw [Nat.eq_of_beq_eq_true h.1,A68 h.2]
def memM (M:List (List Nat)) (D:List Nat):Bool:=M.any (A26 D)
theorem C99 {M:List (List Nat)} {D:List Nat} (h:memM M D=true):D∈M:=by
 obtain ⟨x,h1,h2⟩:=List.any_eq_true.1 h
 rw [A68 h2];exact h1
def lexD (E:List Nat) (i:Nat):List Nat:=E.filter fun e=>Nat.blt e i
def desc:List Nat→Bool
 | []=>true
 | a::l=>l.all (fun b=>Nat.blt b a)&&desc l
def o3:List Oper→List Nat
 | []=>[]
 | o::l=>match o.dst with
  | some d=>d::o3 l
  | none=>o3 l
def B79:List Nat→Bool
 | []=>true
 | a::l=>!(X7 l a)&&B79 l
def G01 (nt:Nat) (l:List Oper) (E:List Nat) (M:List (List Nat)) (req:List (Nat × List Nat)):Bool :=
 let ops:=l.toArray
 let n:=l.length
 (l.all fun o=>o.guard.isNone&&match o.dst with | some d=>Nat.blt d nt | none=>true) &&
 ((List.range n).all fun i=>match ops[i]? with
  | some o=>(turns o.op == X7 E i)&&((turns o.op||o.dst.isSome)&&(((X4 o.op).all fun u=>(List.range n).all fun j=>match ops[j]? with
    | some oj=>(match oj.dst with | some d=>!(Nat.beq d u)||Bef ops i j | none=>true)
    | none=>true) &&
   ((List.range n).all fun j=>!(Bef ops i j)||Nat.blt j i)&&((o.after.toList.all fun e=>!(Region.binds .any e)||Nat.blt e.on i)&&(M.all fun D=>!(B78 ops E i D)||(A26 D (lexD E i)||req.any fun p=>Nat.beq p.1 i&&A26 p.2 D)))))
  | none=>false) &&
 B79 (o3 l)&&desc E&&(E.all fun e=>Nat.blt e n)&&memM M []&&(M.all fun D=>E.all fun e=>!(B78 ops E e D)||memM M (A25 e D))
section
variable {P:Program} {nt:Nat}
def EffQ (P:Program) (nt:Nat) (ops:Array Oper) (o:Oper) (U:Fr) (new:Bool) (ob:Obs) (x:Nat × Ob) (s:SV):Prop :=
 ∀φ,Told U φ→(new=true→B76 x.1 φ)→C33 P nt ops o φ ob (fun φ' ob''=>φ'=(match o.dst with | some d=>X6 φ d s | none=>φ)∧ob''=x::ob)
theorem I09 {ops:Array Oper} {U:Fr} {k:Nat} {e:TypeId} {z:Value} [hz:TyZero P e z] {ty:TypeId} {pos:String} {af:Array Edge} {al:Nat} {ob:Obs} (h2:J8 k ob=true) (hd:Nat.blt al nt=true) :
  EffQ P nt ops ⟨some al,.alloc e,ty,pos,af,none⟩ U true ob (k,.box (z.cells.toList.map fun c=>.p (.v c))) (.s (.one (.ref k 0))) :=
 fun φ _ hf=>E40 (hf rfl) h2 hd
theorem q_store {ops:Array Oper} {U:Fr} {op:Op} {ty:TypeId} {pos:String} {af:Array Edge} {ob:Obs} {x:Nat × Ob} (h:EffU P ⟨none,op,ty,pos,af,none⟩ U ob (x::ob)):EffQ P nt ops ⟨none,op,ty,pos,af,none⟩ U false ob x .any :=
 fun φ hU _=>I44 h rfl rfl hU
def UIn (l:List Oper) (sv:List SV) (fr:Fr) (o:Oper) (U:Fr):Prop :=
 ∀t s,E7 U t=some s→t∈X4 o.op∧((∃j o',l[j]?=some o'∧o'.dst=some t∧s=s6 sv j)∨(t∉o3 l∧E7 fr t=some s))
def ObG (P:Program) (nt:Nat) (l:List Oper) (sv:List SV) (xe:Xe) (fr:Fr) (ob:Obs) (i:Nat) (D:List Nat):Prop :=
 ∃o U,l[i]?=some o∧UIn l sv fr o U∧((turns o.op=false∧Neu P o U (obD xe ob D) (fun s=>s=s6 sv i)) ∨
  ∃new x,xAt xe i=some (new,x)∧EffQ P nt l.toArray o U new (obD xe ob D) x (s6 sv i))
def Ob1 (P:Program) (nt:Nat) (l:List Oper) (sv:List SV) (xe:Xe) (fr:Fr) (ob:Obs) (i:Nat) (D:List Nat):Prop :=
 ∃o,l[i]?=some o∧((turns o.op=false∧Neu P o (S2 (C98 l sv fr) (X4 o.op)) (obD xe ob D) (fun s=>s=s6 sv i)) ∨
  ∃new x,xAt xe i=some (new,x)∧EffQ P nt l.toArray o (S2 (C98 l sv fr) (X4 o.op)) new (obD xe ob D) x (s6 sv i))
def Ob1s (P:Program) (nt:Nat) (l:List Oper) (sv:List SV) (xe:Xe) (fr:Fr) (ob:Obs):List (Nat × List Nat)→Prop
 | []=>True
 | (i,D)::r=>Ob1 P nt l sv xe fr ob i D∧Ob1s P nt l sv xe fr ob r
theorem Ob1s.get {l:List Oper} {sv:List SV} {xe:Xe} {fr:Fr} {ob:Obs}:∀{r:List (Nat × List Nat)},Ob1s P nt l sv xe fr ob r→∀p∈r,Ob1 P nt l sv xe fr ob p.1 p.2
 | [],_,p,hp=>by simp at hp
 | (i,D)::r,h,p,hp=>by
  rcases List.mem_cons.1 hp with rfl | hp
  ·exact h.1
  ·exact Ob1s.get h.2 p hp
def frBut (ops:Array Oper) (e:Nat) (sv:List SV) (fr:Fr):Fr :=
 (((List.range ops.size).filter fun j=>!(Nat.beq j e)&&!(Bef ops j e)).map fun j=>(j,s6 sv j))++fr
def D43 (ops:Array Oper) (sv:List SV) (fr:Fr):Xe→Bool
 | []=>true
 | (e,new,x)::r=>(!new||I1 x.1 (frBut ops e sv fr))&&D43 ops sv fr r
def H48 (xe:Xe) (M:List (List Nat)):Bool :=
 M.all fun D=>xe.all fun p=>D.all fun e=>X7 D p.1||!(Nat.blt p.1 e)||(match xAt xe e with | some x=>!(Nat.beq x.2.1 p.2.2.1) | none=>true)
theorem G02 {xe:Xe} {e:Nat} {x:Bool × (Nat × Ob)} (h:xAt xe e=some x):(e,x)∈xe:=by
 induction xe with
 | nil=>cases h
 | cons y r ih =>
  obtain ⟨i,y⟩:=y
  unfold xAt at h
  cases hb:Nat.beq i e
  ·rw [hb] at h;exact List.mem_cons_of_mem _ (ih h)
  ·rw [hb] at h
   have h:some y=some x:=h
   cases h
   rw [Nat.eq_of_beq_eq_true hb];exact List.mem_cons_self ..
theorem G58 {xe : Xe} {ob:Obs} {e:Nat} {new:Bool} {x:Nat × Ob} (he:xAt xe e=some (new,x)):∀{D:List Nat},(∀d∈D,e < d→∀y,xAt xe d=some y→y.2.1≠x.1)→∀k o,D4 (obD xe ob (A25 e D)) k=some o→D4 (x::obD xe ob D) k=some o
 | [],_,k,o,h=>by
  simp only [A25,obD,he] at h
  exact h
 | d :: D,hk,k,o,h=>by
  unfold A25 at h
  cases hb:Nat.blt d e
  ·rw [hb] at h
   simp only [cond] at h
   have ih:=G58 (ob:=ob) he (D:=D) (fun d' hd'=>hk d' (List.mem_cons_of_mem _ hd'))
   have hge : e ≤ d:=by
    cases Nat.lt_or_ge d e with
    | inl h' => have:Nat.blt d e=true:=by simpa using h'
                rw [this] at hb;cases hb
    | inr h'=>exact h'
   unfold obD at h ⊢
   cases hx:xAt xe d with
   | none=>rw [hx] at h;exact ih k o h
   | some y =>
    rw [hx] at h
    simp only at h ⊢
    obtain ⟨ny,ky,oy⟩:=y
    obtain ⟨kx,ox⟩:=x
    by_cases hky:ky=k
    ·rw [show ((ny,ky,oy):Bool × (Nat × Ob)).2=(ky,oy) from rfl] at h ⊢
     rw [hky,D6] at h
     by_cases hed:e=d
     ·subst hed
      rw [hx] at he
      cases he
      rw [hky,D6];exact h
     ·have hne:=hk d (List.mem_cons_self ..) (by omega) _ hx
      have hne:ky≠kx:=hne
      rw [B7 (by omega),hky,D6];exact h
    ·rw [show ((ny,ky,oy):Bool × (Nat × Ob)).2=(ky,oy) from rfl] at h ⊢
     rw [B7 hky] at h
     have:=ih k o h
     by_cases hkx:kx=k
     ·rw [hkx,D6] at this ⊢;exact this
     ·rw [B7 hkx] at this
      rw [B7 hkx,B7 hky];exact this
  ·rw [hb] at h
   simp only [cond] at h
   have:obD xe ob (e::d::D)=x::obD xe ob (d::D):=by
    show (match xAt xe e with | some x=>x.2::obD xe ob (d::D) | none=>obD xe ob (d::D))=_
    rw [he]
   rw [this] at h;exact h
theorem C52 {e:Nat} {listed:Array Bool} (hsz:e < listed.size) (hun:listed.getD e false=false):∀{E:List Nat},desc E=true→e∈E→E.filter (fun j=>(listed.setIfInBounds e true).getD j false)=A25 e (E.filter fun j=>listed.getD j false)
 | [],_,he=>by simp at he
 | d::E,hd,he=>by
  simp only [desc,J90] at hd
  have hlt:∀b∈E,b < d:=fun b hb=>by simpa using List.all_eq_true.1 hd.1 b hb
  have hsame:(listed.setIfInBounds e true).getD e false=true:=by simp [hsz]
  have hoth:∀j,j≠e→(listed.setIfInBounds e true).getD j false=listed.getD j false:=fun j hj=>u6 (Ne.symm hj)
  by_cases hde:d=e
  ·subst hde
   rw [List.filter_cons_of_pos (by exact hsame),List.filter_cons_of_neg (by rw [hun];simp)]
   have:E.filter (fun j=>(listed.setIfInBounds d true).getD j false)=E.filter fun j=>listed.getD j false:=by
    apply List.filter_congr
    intro j hj
    exact hoth j (by have:=hlt j hj;omega)
   rw [this]
   cases hE:E.filter fun j=>listed.getD j false with
   | nil=>rfl
   | cons a r =>
    have ha:a∈E:=(List.mem_filter.1 (by rw [hE];exact List.mem_cons_self ..)).1
    have hba:Nat.blt a d=true:=by simpa using hlt a ha
    unfold A25;rw [hba];rfl
  ·have heE:e∈E:=(List.mem_cons.1 he).resolve_left (fun q=>hde q.symm)
   have ih:=C52 hsz hun hd.2 heE
   have hed:Nat.blt d e=false:=by
    have:=hlt e heE
    cases hb:Nat.blt d e
    ·rfl
    ·rw [Nat.blt_eq] at hb;omega
   by_cases hl:listed.getD d false=true
   ·rw [List.filter_cons_of_pos (by rw [hoth d hde];exact hl),List.filter_cons_of_pos (by exact hl),ih]
    show _=A25 e (d::_)
    conv=>rhs;unfold A25
    rw [hed];rfl
   ·rw [List.filter_cons_of_neg (by rw [hoth d hde];exact hl),List.filter_cons_of_neg (by exact hl),ih]
theorem B12:∀{l:List Oper} {j:Nat} {o:Oper} {d:Nat},l[j]?=some o→o.dst=some d→d∈o3 l
 | [],j,o,d,h,_=>by simp at h
 | o'::l,0,o,d,h,hd=>by
  simp at h;subst h
  unfold o3;rw [hd];exact List.mem_cons_self ..
 | o'::l,j+1,o,d,h,hd=>by
  have:=B12 (l:=l) (j:=j) (by simpa using h) hd
  unfold o3
  split
  ·exact List.mem_cons_of_mem _ this
  ·exact this
theorem C53:∀{l:List Oper} {i j:Nat} {o o':Oper} {d:Nat},B79 (o3 l)=true→l[i]?=some o→l[j]?=some o'→o.dst=some d→o'.dst=some d→i=j
 | [],i,j,o,o',d,_,h,_,_,_=>by simp at h
 | q::l,0,0,_,_,_,_,_,_,_,_=>rfl
 | q::l,0,j+1,o,o',d,hn,h1,h2,h3,h4=>by
  simp at h1;subst h1
  have hm:=B12 (l:=l) (j:=j) (by simpa using h2) h4
  unfold o3 at hn;rw [h3] at hn
  simp only [B79,J90,Bool.not_eq_true'] at hn
  rw [hasN_iff.2 hm] at hn;exact absurd hn.1 (by simp)
 | q::l,i+1,0,o,o',d,hn,h1,h2,h3,h4=>by
  simp at h2;subst h2
  have hm:=B12 (l:=l) (j:=i) (by simpa using h1) h3
  unfold o3 at hn;rw [h4] at hn
  simp only [B79,J90,Bool.not_eq_true'] at hn
  rw [hasN_iff.2 hm] at hn;exact absurd hn.1 (by simp)
 | q::l,i+1,j+1,o,o',d,hn,h1,h2,h3,h4=>by
  have:B79 (o3 l)=true:=by
   unfold o3 at hn
   split at hn
   ·simp only [B79,J90] at hn;exact hn.2
   ·exact hn
  exact congrArg (·+1) (C53 this (by simpa using h1) (by simpa using h2) h3 h4)
theorem F53:∀{l:List Oper} {sv:List SV} {fr:Fr} {t:Nat} {s:SV},sv.length=l.length→E7 (C98 l sv fr) t=some s→(∃j o,l[j]?=some o∧o.dst=some t∧s=s6 sv j)∨(t∉o3 l∧E7 fr t=some s)
 | [],[],fr,t,s,_,h=>.inr ⟨by simp [o3],h⟩
 | [],_::_,_,_,_,hl,_=>by simp at hl
 | _::_,[],_,_,_,hl,_=>by simp at hl
 | o :: l,s0::sv,fr,t,s,hl,h=>by
  have hrec:E7 (C98 l sv fr) t=some s→(∃j o',(o::l)[j]?=some o'∧o'.dst=some t∧s=s6 (s0::sv) j)∨(t∉o3 l∧E7 fr t=some s):=fun h'=>by
   rcases F53 (by simpa using hl) h' with ⟨j,o',h1,h2,h3⟩ | h1
   ·exact .inl ⟨j+1,o',by simpa using h1,h2,by rw [h3];simp [s6]⟩
   ·exact .inr h1
  unfold C98 at h
  cases hd:o.dst with
  | none =>
   rw [hd] at h
   rcases hrec h with h1 | ⟨h1,h2⟩
   ·exact .inl h1
   ·exact .inr ⟨by unfold o3;rw [hd];exact h1,h2⟩
  | some d =>
   rw [hd] at h
   have h:E7 ((d,s0)::C98 l sv fr) t=some s:=h
   by_cases hdt:d=t
   ·subst hdt
    rw [E4] at h
    cases h
    exact .inl ⟨0,o,rfl,hd,rfl⟩
   ·rw [D7 hdt] at h
    rcases hrec h with h1 | ⟨h1,h2⟩
    ·exact .inl h1
    ·refine .inr ⟨?_,h2⟩
     unfold o3;rw [hd]
     intro q
     rcases List.mem_cons.1 q with q | q
     ·exact hdt q.symm
     ·exact h1 q
theorem SimF.weakO {S:Ctx} {φ:Fa} {ob ob':Obs} {G:Gh} {a:Act} {w:World} (h:SimF P S φ ob G a w) (ho:∀k o,D4 ob' k=some o→D4 ob k=some o):SimF P S φ ob' G a w:=by
 refine ⟨h.1.weakenO ho,fun i s hi=>?_⟩
 have h1:Sim P S [(i,s)] ob G a w:=h.sub fun j t hj=>by
  by_cases he:i=j
  ·subst he;rw [E4] at hj;cases hj;exact hi
  ·rw [D7 he] at hj;simp [E7] at hj
 exact (h1.weakenO ho).facts i s (E4 _ _ _)
structure InvC (l:List Oper) (sv:List SV) (fr:Fr) (listed:Array Bool) (φ:Fa):Prop where
 put:∀j o d,l[j]?=some o→listed.getD j false=true→o.dst=some d→φ d=some (s6 sv j)
 from':∀t s,φ t=some s→(∃j o,l[j]?=some o∧listed.getD j false=true∧o.dst=some t∧s=s6 sv j)∨E7 fr t=some s
 old:∀t s,E7 fr t=some s→t∉o3 l→φ t=some s
def unl (listed:Array Bool) (n:Nat):Nat:=(List.range n).countP fun i=>!(listed.getD i false)
theorem G03 {listed:Array Bool} {i:Nat} (hs:i < listed.size) (hu:listed.getD i false=false):∀{n:Nat},i < n→unl (listed.setIfInBounds i true) n+1=unl listed n
 | 0,h=>by omega
 | n+1,h=>by
  unfold unl
  rw [K30,List.countP_append,List.countP_append]
  have h1:∀j,j≠i→(listed.setIfInBounds i true).getD j false=listed.getD j false:=fun j hj=>u6 (Ne.symm hj)
  by_cases hin:i < n
  ·have ih:=G03 hs hu hin
   unfold unl at ih
   have e:List.countP (fun i_1=>!(listed.setIfInBounds i true).getD i_1 false) [n]=List.countP (fun i=>!listed.getD i false) [n]:=by
    simp only [List.countP_cons,List.countP_nil,h1 n (by omega)]
   rw [e];omega
  ·obtain rfl:i=n:=by omega
   have e:List.countP (fun i_1=>!(listed.setIfInBounds i true).getD i_1 false) (List.range i)=List.countP (fun i=>!listed.getD i false) (List.range i):=by
    apply List.countP_congr
    intro j hj
    rw [h1 j (by have:=List.mem_range.1 hj;omega)]
   rw [e]
   have e2:(listed.setIfInBounds i true).getD i false=true:=by simp [hs]
   simp only [List.countP_cons,List.countP_nil,e2,hu]
   simp
theorem F20 {id:Nat} {l:List Oper} {fr:Fr} {ob:Obs} {Q:Post} (sv:List SV) (xe:Xe) (M:List (List Nat)) (req:List (Nat × List Nat)) (hm:P.follows .mixedOrders=true) (hsv:sv.length=l.length)
  (hB:G01 nt l (xe.map (·.1)) M req=true) (h1:∀i,i < l.length→ObG P nt l sv xe fr ob i (lexD (xe.map (·.1)) i)) (hfree:D43 l.toArray sv fr xe=true) (hkeys:H48 xe M=true) (h2:Ob1s P nt l sv xe fr ob req)
  {fr':Fr} (hfr':∀t s,E7 fr' t=some s→(∃j o',l[j]?=some o'∧o'.dst=some t∧s=s6 sv j)∨(t∉o3 l∧E7 fr t=some s)) (hQ:Q .normal fr' (obD xe ob (xe.map (·.1)))):WpC P nt (.region id l.toArray true) fr ob Q:=by
 intro S G a w hn hs
 obtain ⟨E,hE⟩:∃E,E=xe.map (·.1):=⟨_,rfl⟩
 rw [←hE] at hB h1 hQ
 unfold G01 at hB
 simp only [J90] at hB
 obtain ⟨⟨⟨⟨⟨⟨b1,b2⟩,b3⟩,b4⟩,b5⟩,b6⟩,b7⟩:=hB
 have hop:∀i o,l[i]?=some o→o.guard=none∧(∀d,o.dst=some d→d < nt)∧(turns o.op=X7 E i)∧(turns o.op=true∨∃d,o.dst=some d)∧(∀u∈X4 o.op,∀j oj,l[j]?=some oj→oj.dst=some u→Bef l.toArray i j=true) ∧
   (∀j,Bef l.toArray i j=true→j < i)∧(∀e∈o.after.toList,Region.binds .any e=true→e.on < i)∧(∀D∈M,B78 l.toArray E i D=true→D=lexD E i∨(i,D)∈req):=by
  intro i o ho
  have hlt:i < l.length:=(List.getElem?_eq_some_iff.1 ho).1
  have hmem:o∈l:=K02 ho
  have q1:=List.all_eq_true.1 b1 o hmem
  have q2:=List.all_eq_true.1 b2 i (List.mem_range.2 hlt)
  simp only [List.getElem?_toArray,ho] at q2
  simp only [J90] at q1 q2
  obtain ⟨q3,q4,q5,q6,q7⟩:=q2
  obtain ⟨q8,q9⟩:=q5
  refine ⟨by simpa using q1.1,?_,by simpa using q3,?_,?_,?_,?_,?_⟩
  ·intro d hd
   have:=q1.2
   rw [hd] at this
   simpa using this
  ·rcases (K18 _ _).mp q4 with h | h
   ·exact .inl h
   ·exact .inr (Option.isSome_iff_exists.1 h)
  ·intro u hu j oj hj hd
   have hjlt:j < l.length:=(List.getElem?_eq_some_iff.1 hj).1
   have:=List.all_eq_true.1 (List.all_eq_true.1 q8 u hu) j (List.mem_range.2 hjlt)
   simp only [hj,hd] at this
   simpa using this
  ·intro j hj
   rcases Nat.lt_or_ge j l.length with hjl | hjl
   ·have:=List.all_eq_true.1 q9 j (List.mem_range.2 hjl)
    rw [hj] at this
    simpa using this
   ·-- an operation is behind none that there isn't
    exfalso
    obtain ⟨o1,ho1,e1,he1,hb1,hh⟩:=E31 hj
    rw [List.getElem?_toArray,ho] at ho1
    cases ho1
    have hlt1:=List.all_eq_true.1 q6 e1 he1
    have hlt1:e1.on < i:=by rw [hb1] at hlt1;simpa using hlt1
    have chain:∀m,m < l.length→∀j,Bef l.toArray m j=true→j < l.length:=by
     intro m
     induction m using Nat.strongRecOn with
     | _ m ih =>
      intro hml j' hj'
      obtain ⟨o2,ho2,e2,he2,hb2,hh2⟩:=E31 hj'
      rw [List.getElem?_toArray] at ho2
      have r2:=List.all_eq_true.1 b2 m (List.mem_range.2 hml)
      simp only [List.getElem?_toArray,ho2] at r2
      simp only [J90] at r2
      have r6:=List.all_eq_true.1 r2.2.2.2.1 e2 he2
      have r6:e2.on < m:=by rw [hb2] at r6;simpa using r6
      rcases hh2 with e3 | ⟨h3,h4⟩
      ·omega
      ·exact ih e2.on r6 (by omega) j' h4
    have:=chain i hlt j hj
    omega
  ·intro e he hbe
   have:=List.all_eq_true.1 q6 e he
   rw [hbe] at this
   simpa using this
  ·intro D hD hp
   have:=List.all_eq_true.1 q7 D hD
   rw [hp] at this
   simp only [Bool.not_true,Bool.false_or,K18] at this
   rcases this with h | h
   ·exact .inl (A68 h)
   ·obtain ⟨p,hp1,hp2⟩:=List.any_eq_true.1 h
    simp only [J90] at hp2
    have e1:=Nat.eq_of_beq_eq_true hp2.1
    have e2:=A68 hp2.2
    obtain ⟨p1,p2⟩:=p
    simp only at e1 e2
    rw [←e1,←e2];exact .inr hp1
 have hob:∀i o,l[i]?=some o→∀D∈M,B78 l.toArray E i D=true→∃U,UIn l sv fr o U∧((turns o.op=false∧Neu P o U (obD xe ob D) (fun s=>s=s6 sv i)) ∨
   ∃new x,xAt xe i=some (new,x)∧EffQ P nt l.toArray o U new (obD xe ob D) x (s6 sv i)):=by
  intro i o ho D hD hp
  have hlt:i < l.length:=(List.getElem?_eq_some_iff.1 ho).1
  have:ObG P nt l sv xe fr ob i D:=by
   rcases (hop i o ho).2.2.2.2.2.2.2 D hD hp with rfl | h
   ·exact h1 i hlt
   ·obtain ⟨o',ho',h⟩:=h2.get _ h
    refine ⟨o',_,ho',fun t s ht=>⟨u5 ht,F53 hsv (j6 ht)⟩,h⟩
  obtain ⟨o',U,ho',hU,h⟩:=this
  rw [ho] at ho';cases ho'
  exact ⟨U,hU,h⟩
 have hdst:∀(j t:Nat),(l.toArray[j]?).bind (fun o=>o.dst)=some t→t < nt:=by
  intro j t ht
  cases ho:l[j]? with
  | none=>simp [ho] at ht
  | some o=>simp [ho] at ht;exact (hop j o ho).2.1 t ht
 refine wp_region_any hm ?_
 have hxw:Below w.heap.size w { w with drawn:=w.drawn+1 }:=⟨rfl,rfl,rfl,Nat.le_refl _,fun _ _=>rfl⟩
 have hs':SimF P S (E7 fr) ob G a { w with drawn:=w.drawn+1 }:=(simF_iff.2 hs).ext hxw
 have key : ∀(fuel:Nat) (listed:Array Bool) (φ:Fa) (G:Gh) (a:Act) (w:World),listed.size=l.length→unl listed l.length=fuel→Closed l.toArray listed→(E.filter fun j=>listed.getD j false)∈M→InvC l sv fr listed φ→SimF P S φ (obD xe ob (E.filter fun j=>listed.getD j false)) G a w →
   wpAny P .any l.toArray (PostOf P S Q) fuel listed a w:=by
  intro fuel
  induction fuel with
  | zero =>
   intro listed φ G a w hsz hu hc hM hI hsf
   have hall:∀j,j < l.length→listed.getD j false=true:=by
    intro j hj
    unfold unl at hu
    have:=(List.countP_eq_zero.1 hu) j (List.mem_range.2 hj)
    simpa using this
   have hready:Region.ready .any l.toArray listed=[]:=by
    cases hr:Region.ready .any l.toArray listed with
    | nil=>rfl
    | cons i r =>
     exfalso
     have hi:i∈Region.ready .any l.toArray listed:=by rw [hr];exact List.mem_cons_self ..
     have h3:=P3 hi
     obtain ⟨_,o,ho,_⟩:=mem_ready.1 hi
     rw [List.getElem?_toArray] at ho
     rw [hall i (List.getElem?_eq_some_iff.1 ho).1] at h3;cases h3
   refine ⟨hready,?_⟩
   have hEl:(E.filter fun j=>listed.getD j false)=E:=by
    rw [List.filter_eq_self]
    intro e he
    exact hall e (by simpa using List.all_eq_true.1 b5 e he)
   rw [hEl] at hsf
   refine ⟨fr',obD xe ob E,G,hQ,simF_iff.1 ⟨hsf.1,fun t s ht=>hsf.2 t s ?_⟩⟩
   rcases hfr' t s ht with ⟨j,o,h3,h4,rfl⟩ | ⟨h3,h4⟩
   ·exact hI.put j o t h3 (hall j (List.getElem?_eq_some_iff.1 h3).1) h4
   ·exact hI.old t s h4 h3
  | succ fuel ih =>
   intro listed φ G a w hsz hu hc hM hI hsf
   refine ⟨fun h0=>?_,fun i hi=>?_⟩
   ·-- some operation is ready
    exfalso
    have hex:∃j,j < l.length∧listed.getD j false=false:=by
     refine Classical.byContradiction fun hno=>?_
     have:unl listed l.length=0:=by
      unfold unl
      refine List.countP_eq_zero.2 fun j hj=>?_
      have hj:=List.mem_range.1 hj
      cases hb:listed.getD j false
      ·exact absurd ⟨j,hj,hb⟩ hno
      ·simp
     omega
    have hmin:∀n,(∃j,j < n∧j < l.length∧listed.getD j false=false)→∃j,j < l.length∧listed.getD j false=false∧∀p,p < j→listed.getD p false=true:=by
     intro n
     induction n with
     | zero=>rintro ⟨j,hj,_⟩;omega
     | succ n ihn =>
      rintro ⟨j,hj,hjl,hjf⟩
      by_cases hlow:∃j',j' < n∧j' < l.length∧listed.getD j' false=false
      ·exact ihn hlow
      ·refine ⟨j,hjl,hjf,fun p hp=>?_⟩
       cases hb:listed.getD p false
       ·exact absurd ⟨p,by omega,by omega,hb⟩ hlow
       ·rfl
    obtain ⟨j,hj1,hj2⟩:=hex
    obtain ⟨j,hjl,hjf,hjp⟩:=hmin (j+1) ⟨j,by omega,hj1,hj2⟩
    have ho:l[j]?=some l[j]:=J88 hjl
    have hjr:j∈Region.ready .any l.toArray listed:=by
     refine mem_ready.2 ⟨?_,l[j],by rw [List.getElem?_toArray];exact ho,fun e he hb=>?_⟩
     ·have hsz2:j < listed.size:=by omega
      simp only [Array.getD_eq_getD_getElem?,Array.getElem?_eq_getElem hsz2] at hjf ⊢
      simpa using hjf
     ·have:=(hop j _ ho).2.2.2.2.2.2.1 e (Array.mem_toList_iff.2 he) hb
      exact hjp _ this
    rw [h0] at hjr;cases hjr
   ·have hiu:=P3 hi
    obtain ⟨_,o,ho,hall⟩:=mem_ready.1 hi
    rw [List.getElem?_toArray] at ho
    have hlt:i < l.length:=(List.getElem?_eq_some_iff.1 ho).1
    obtain ⟨g1,g2,g3,g4,g5,g6,g7,g8⟩:=hop i o ho
    obtain ⟨D,hD⟩:∃D,D=E.filter fun j=>listed.getD j false:=⟨_,rfl⟩
    rw [←hD] at hM hsf
    have hDl:∀e,e∈D↔e∈E∧listed.getD e false=true:=fun e=>by rw [hD,List.mem_filter]
    have hbi:∀j,Bef l.toArray i j=true→listed.getD j false=true:=fun j hj=>Y9 hc i hj (fun o' ho' e he hb=>by
     rw [List.getElem?_toArray,ho] at ho';cases ho'
     exact hall e (Array.mem_toList_iff.1 he) hb)
    have hpo:B78 l.toArray E i D=true:=by
     unfold B78
     simp only [J90,Bool.not_eq_true',List.all_eq_true,K18]
     refine ⟨?_,fun j hj=>?_,fun j hj=>?_⟩
     ·cases hb:X7 D i
      ·rfl
      ·have:=((hDl i).1 (hasN_iff.1 hb)).2
       rw [hiu] at this;cases this
     ·cases hb:Bef l.toArray i j
      ·exact .inl rfl
      ·exact .inr (hasN_iff.2 ((hDl j).2 ⟨hj,hbi j hb⟩))
     ·cases hb:Bef l.toArray j i
      ·rfl
      ·have hjl:=((hDl j).1 hj).2
       have:listed.getD i false=true:=Y9 hc j hb (fun o' ho' e he hbd=>hc j o' ho' hjl e he hbd)
       rw [hiu] at this;cases this
    have htoldU:∀U,UIn l sv fr o U→Told U φ:=by
     intro U hU t s ht
     obtain ⟨hus,h3⟩:=hU t s ht
     rcases h3 with ⟨j,oj,h3,h4,rfl⟩ | ⟨h3,h4⟩
     ·exact hI.put j oj t h3 (hbi j (g5 t hus j oj h3 h4)) h4
     ·exact hI.old t s h4 h3
    have hcl2:=P2 hc hi
    have hsz2:(listed.setIfInBounds i true).size=l.length:=by simpa using hsz
    have hul:unl (listed.setIfInBounds i true) l.length=fuel:=by
     have:=G03 (by omega) hiu hlt
     omega
    have hinv:∀φ',φ'=(match o.dst with | some d=>X6 φ d (s6 sv i) | none=>φ)→InvC l sv fr (listed.setIfInBounds i true) φ':=by
     intro φ' hφ
     have hset:∀j,(listed.setIfInBounds i true).getD j false=true↔j=i∨listed.getD j false=true:=by
      intro j
      by_cases hj:j=i
      ·subst hj
       simp only [true_or,iff_true]
       simp [show j < listed.size by omega]
      ·rw [u6 (Ne.symm hj)]
       simp [hj]
     cases hdo:o.dst with
     | none =>
      rw [hdo] at hφ
      have hφ:φ'=φ:=hφ
      subst hφ
      refine ⟨fun j oj d h3 h4 h5=>?_,fun t s h3=>?_,hI.old⟩
      ·rcases (hset j).1 h4 with rfl | h4
       ·rw [ho] at h3;cases h3;rw [hdo] at h5;cases h5
       ·exact hI.put j oj d h3 h4 h5
      ·rcases hI.from' t s h3 with ⟨j,oj,h4,h5,h6⟩ | h4
       ·exact .inl ⟨j,oj,h4,(hset j).2 (.inr h5),h6⟩
       ·exact .inr h4
     | some d0 =>
      rw [hdo] at hφ
      have hφ:φ'=X6 φ d0 (s6 sv i):=hφ
      subst hφ
      refine ⟨fun j oj d h3 h4 h5=>?_,fun t s h3=>?_,fun t s h3 h4=>?_⟩
      ·unfold X6
       rcases (hset j).1 h4 with rfl | h4
       ·rw [ho] at h3;cases h3;rw [hdo] at h5;cases h5;rw [if_pos rfl]
       ·by_cases hdd:d=d0
        ·subst hdd
         have:=C53 b3 h3 ho h5 hdo
         subst this
         rw [if_pos rfl]
        ·rw [if_neg hdd];exact hI.put j oj d h3 h4 h5
      ·unfold X6 at h3
       by_cases hdd:t=d0
       ·rw [if_pos hdd] at h3;cases h3
        exact .inl ⟨i,o,ho,(hset i).2 (.inl rfl),by rw [hdd];exact hdo,rfl⟩
       ·rw [if_neg hdd] at h3
        rcases hI.from' t s h3 with ⟨j,oj,h4,h5,h6⟩ | h4
        ·exact .inl ⟨j,oj,h4,(hset j).2 (.inr h5),h6⟩
        ·exact .inr h4
      ·unfold X6
       have:t≠d0:=fun q=>h4 (by rw [q];exact B12 ho hdo)
       rw [if_neg this];exact hI.old t s h3 h4
    unfold wpOp
    simp only [List.getElem?_toArray,ho]
    rw [if_pos (by simp [Region.wanted,g1])]
    obtain ⟨U,hU,hob'⟩:=hob i o ho D hM hpo
    have htold:=htoldU U hU
    rcases hob' with ⟨ht,hneu⟩ | ⟨new,x,hx,hq⟩
    ·refine .inl (N8 (hneu S G a w (hsf.sub fun t s ht=>htold t s ht)) ?_)
     rintro v w' ⟨hxw2,s,rfl,hv⟩
     have hnE:X7 E i=false:=by rw [←g3];exact ht
     have hDe:(E.filter fun j=>(listed.setIfInBounds i true).getD j false)=D:=by
      rw [hD]
      apply List.filter_congr
      intro j hj
      have:j≠i:=fun q=>by rw [←q,hasN_iff.2 hj] at hnE;cases hnE
      exact u6 (Ne.symm this)
     obtain ⟨d0,hd0⟩:=g4.resolve_left (by rw [ht];simp)
     rw [hd0]
     refine ih (listed.setIfInBounds i true) (X6 φ d0 (s6 sv i)) G _ w' hsz2 hul hcl2 (by rw [hDe];exact hM) (hinv _ (by rw [hd0])) ?_
     rw [hDe]
     exact (hsf.ext hxw2).put (by rw [hn];exact g2 d0 hd0) hv
    ·have hiE:i∈E:=by rw [hE];exact List.mem_map.2 ⟨_,G02 hx,rfl⟩
     have hDe:(E.filter fun j=>(listed.setIfInBounds i true).getD j false)=A25 i D:=by
      rw [hD];exact C52 (by omega) hiu b4 hiE
     have hM2:A25 i D∈M:=by
      have:=List.all_eq_true.1 (List.all_eq_true.1 b7 D hM) i hiE
      rw [hpo] at this
      exact C99 (by simpa using this)
     have hfr:new=true→B76 x.1 φ:=by
      intro hnew
      have hf:∀(xs:Xe),D43 l.toArray sv fr xs=true→(i,new,x)∈xs→I1 x.1 (frBut l.toArray i sv fr)=true:=by
       intro xs
       induction xs with
       | nil=>intro _ h;simp at h
       | cons y r ihx =>
        obtain ⟨e',n',x'⟩:=y
        intro hok hmem
        simp only [D43,J90,K18] at hok
        rcases List.mem_cons.1 hmem with q | q
        ·cases q
         rcases hok.1 with q | q
         ·rw [hnew] at q;simp at q
         ·exact q
        ·exact ihx hok.2 q
      have hfe:=hf xe hfree (G02 hx)
      unfold frBut at hfe
      have hap:∀(a b:Fr),I1 x.1 (a++b)=true→I1 x.1 a=true∧I1 x.1 b=true:=by
       intro a b
       induction a with
       | nil=>intro h;exact ⟨rfl,h⟩
       | cons y r iha =>
        obtain ⟨j,s⟩:=y
        intro h
        simp only [K19,I1,J90] at h ⊢
        exact ⟨⟨h.1,(iha h.2).1⟩,(iha h.2).2⟩
      obtain ⟨hf1,hf2⟩:=hap _ _ hfe
      intro t s hts
      rcases hI.from' t s hts with ⟨j,oj,h4,h5,h6,rfl⟩ | h4
      ·have hmemf:∀(a:List Nat),I1 x.1 (a.map fun j=>(j,s6 sv j))=true→j∈a→(s6 sv j).free x.1=true:=by
        intro a
        induction a with
        | nil=>intro _ h;simp at h
        | cons y r iha =>
         intro hok hmem
         simp only [J95,I1,J90] at hok
         rcases List.mem_cons.1 hmem with rfl | q
         ·exact hok.1
         ·exact iha hok.2 q
       refine hmemf _ hf1 (List.mem_filter.2 ⟨List.mem_range.2 ?_,?_⟩)
       ·simpa using (List.getElem?_eq_some_iff.1 h4).1
       ·have hji:j≠i:=fun q=>by rw [q,hiu] at h5;cases h5
        have hbf:Bef l.toArray j i=false:=by
         cases hb:Bef l.toArray j i
         ·rfl
         ·have:listed.getD i false=true:=Y9 hc j hb (fun o' ho' e he hbd=>hc j o' ho' h5 e he hbd)
          rw [hiu] at this;cases this
        rw [M9 hji,hbf];rfl
      ·exact C96 hf2 t s h4
     obtain ⟨_,hstep⟩:=hq φ htold hfr
     refine .inl (N8 (hstep S G a w hn hsf) ?_)
     rintro v w' ⟨φ',ob'',G',⟨hφ,rfl⟩,hs2⟩
     refine ih (listed.setIfInBounds i true) φ' G' _ w' hsz2 hul hcl2 (by rw [hDe];exact hM2) (hinv φ' hφ) ?_
     rw [hDe]
     refine hs2.weakO (G58 hx ?_)
     intro d hd hid y hy
     have hk:=List.all_eq_true.1 (List.all_eq_true.1 (List.all_eq_true.1 hkeys D hM) _ (G02 hx)) d hd
     simp only [K18,Bool.not_eq_true'] at hk
     rcases hk with (hk | hk) | hk
     ·have:=((hDl i).1 (hasN_iff.1 hk)).2
      rw [hiu] at this;cases this
     ·have:Nat.blt i d=true:=by simpa using hid
      rw [this] at hk;cases hk
     ·rw [hy] at hk
      intro q
      simp only [Bool.not_eq_true'] at hk
      rw [q,Nat.beq_refl] at hk;cases hk
 have hlist0:∀j,(Array.replicate l.length false).getD j false=false:=by
  intro j
  simp only [Array.getD_eq_getD_getElem?]
  rcases Nat.lt_or_ge j l.length with h' | h'
  ·simp [h']
  ·simp [h']
 have hf0:(E.filter fun j=>(Array.replicate l.length false).getD j false)=[]:=by
  rw [List.filter_eq_nil_iff];intro e _;rw [hlist0];simp
 have hu0:unl (Array.replicate l.length false) l.length=l.length:=by
  unfold unl
  have:(List.range l.length).countP (fun i=>!(Array.replicate l.length false).getD i false)=(List.range l.length).length:=by
   rw [List.countP_eq_length];intro i _;rw [hlist0];rfl
  rw [this,K36]
 have:=key l.length (Array.replicate l.length false) (E7 fr) G a _ (by simp) hu0 (fun j o ho hl=>by rw [hlist0] at hl;cases hl) (by rw [hf0];exact C99 b6) ⟨fun j o d _ h4 _=>(by rw [hlist0] at h4;cases h4),fun t s h3=>.inr h3,fun t s h3 _=>h3⟩ (by rw [hf0];exact hs')
 simpa using this
def E45 (P:Program) (nt:Nat) (ops:Array Oper) (K:Fr→Obs→List SV→Xe→Prop):Nat→List Oper→Fr→Obs→List SV→Xe→Prop
 | _,[],fr,ob,sv,xe=>K fr ob sv.reverse xe
 | i,o::l,fr,ob,sv,xe =>
  (turns o.op=false∧∃s d,o.dst=some d∧Neu P o (S2 fr (X4 o.op)) ob (fun s'=>s'=s)∧E45 P nt ops K (i+1) l ((d,s)::fr) ob (s::sv) xe) ∨
  (∃new x s,EffQ P nt ops o (S2 fr (X4 o.op)) new ob x s∧E45 P nt ops K (i+1) l (match o.dst with | some d=>(d,s)::fr | none=>fr) (x::ob) (s::sv) ((i,new,x)::xe))
def A27:List Oper→List SV→Fr→Fr
 | o::l,s::sv,fr=>A27 l sv (match o.dst with | some d=>(d,s)::fr | none=>fr)
 | _,_,fr=>fr
theorem D44:∀{l:List Oper} {sv:List SV} {fr:Fr} {t:Nat} {s:SV},sv.length=l.length→E7 (A27 l sv fr) t=some s→(∃j o,l[j]?=some o∧o.dst=some t∧s=s6 sv j)∨(t∉o3 l∧E7 fr t=some s)
 | [],[],fr,t,s,_,h=>.inr ⟨by simp [o3],h⟩
 | [],_::_,_,_,_,hl,_=>by simp at hl
 | _::_,[],_,_,_,hl,_=>by simp at hl
 | o :: l,s0::sv,fr,t,s,hl,h=>by
  unfold A27 at h
  rcases D44 (by simpa using hl) h with ⟨j,o',h1,h2,h3⟩ | ⟨h1,h2⟩
  ·exact .inl ⟨j+1,o',by simpa using h1,h2,by rw [h3];simp [s6]⟩
  ·cases hd:o.dst with
   | none =>
    rw [hd] at h2
    exact .inr ⟨by unfold o3;rw [hd];exact h1,h2⟩
   | some d =>
    rw [hd] at h2
    have h2:E7 ((d,s0)::fr) t=some s:=h2
    by_cases hdt:d=t
    ·subst hdt
     rw [E4] at h2
     cases h2
     exact .inl ⟨0,o,rfl,hd,rfl⟩
    ·rw [D7 hdt] at h2
     refine .inr ⟨?_,h2⟩
     unfold o3;rw [hd]
     intro q
     rcases List.mem_cons.1 q with q | q
     ·exact hdt q.symm
     ·exact h1 q
def At1 (P:Program) (nt:Nat) (ops:Array Oper) (o:Oper) (i:Nat) (fr:Fr) (ob:Obs) (s:SV) (xe:Xe):Prop :=
 (turns o.op=false∧Neu P o (S2 fr (X4 o.op)) ob (fun s'=>s'=s))∨∃new x,xAt xe i=some (new,x)∧EffQ P nt ops o (S2 fr (X4 o.op)) new ob x s
def obsX (ob:Obs):Xe→Obs
 | []=>ob
 | (_,_,x)::r=>x::obsX ob r
theorem I10 {a b:Xe} {e:Nat} (h:∀p∈a,p.1≠e):xAt (a++b) e=xAt b e:=by
 induction a with
 | nil=>rfl
 | cons y r ih =>
  obtain ⟨i,y⟩:=y
  have h1:i≠e:=h (i,y) (List.mem_cons_self ..)
  show cond (Nat.beq i e) (some y) (xAt (r++b) e)=_
  rw [M9 h1]
  exact ih fun p hp=>h p (List.mem_cons_of_mem _ hp)
theorem E46 {ops:Array Oper} {K:Fr→Obs→List SV→Xe→Prop} {ob0:Obs}:∀{l:List Oper} {i:Nat} {fr:Fr} {ob:Obs} {sv:List SV} {xe:Xe},E45 P nt ops K i l fr ob sv xe→ob=obsX ob0 xe→(∀p∈xe,p.1 < i) →
  ∃sv' xe',sv'.length=l.length∧(∀p∈xe',i≤p.1∧p.1 < i+l.length)∧desc (xe'.map (·.1))=true∧K (A27 l sv' fr) (obsX ob0 (xe'++xe)) (sv.reverse++sv') (xe'++xe) ∧
   ∀j o,l[j]?=some o→∃xa xb,xe'=xa++xb∧(∀p∈xb,p.1 < i+j)∧(∀p∈xa,i+j≤p.1)∧At1 P nt ops o (i+j) (A27 (l.take j) (sv'.take j) fr) (obsX ob0 (xb++xe)) (s6 sv' j) xe'
 | [],i,fr,ob,sv,xe,h,hob,_=>by
  refine ⟨[],[],rfl,by simp,rfl,?_,fun j o ho=>by simp at ho⟩
  rw [K06,K16,←hob];exact h
 | o :: l,i,fr,ob,sv,xe,h,hob,hx=>by
  rcases h with ⟨ht,s,d,hd,hn,hr⟩ | ⟨new,x,s,hq,hr⟩
  ·obtain ⟨sv',xe',h1,h2,h3,h4,h5⟩:=E46 (ob0:=ob0) hr hob (fun p hp=>by have:=hx p hp;omega)
   have hacc:A27 (o::l) (s::sv') fr=A27 l sv' ((d,s)::fr):=by
    show A27 l sv' (match o.dst with | some d=>(d,s)::fr | none=>fr)=_
    rw [hd]
   refine ⟨s::sv',xe',by simp [h1],fun p hp=>by have:=h2 p hp;simp only [J87];omega,h3,?_,?_⟩
   ·rw [hacc]
    simpa using h4
   ·intro j o' ho'
    cases j with
    | zero =>
     simp at ho';subst ho'
     refine ⟨xe',[],by simp,by simp,fun p hp=>by have:=h2 p hp;omega,?_⟩
     rw [K16,←hob]
     exact .inl ⟨ht,hn⟩
    | succ j =>
     obtain ⟨xa,xb,e1,e2,e3,e4⟩:=h5 j o' (by simpa using ho')
     refine ⟨xa,xb,e1,fun p hp=>by have:=e2 p hp;omega,fun p hp=>by have:=e3 p hp;omega,?_⟩
     have e5:A27 ((o::l).take (j+1)) ((s::sv').take (j+1)) fr=A27 (l.take j) (sv'.take j) ((d,s)::fr):=by
      show A27 (l.take j) (sv'.take j) (match o.dst with | some d=>(d,s)::fr | none=>fr)=_
      rw [hd]
     rw [e5,show i+(j+1)=i+1+j by omega,show s6 (s::sv') (j+1)=s6 sv' j by simp [s6]]
     exact e4
  ·obtain ⟨sv',xe',h1,h2,h3,h4,h5⟩:=E46 (ob0:=ob0) hr (by rw [hob];rfl) (fun p hp=>by
    rcases List.mem_cons.1 hp with rfl | hp
    ·exact Nat.lt_succ_self _
    ·have:=hx p hp;omega)
   refine ⟨s::sv',xe'++[(i,new,x)],by simp [h1],?_,?_,?_,?_⟩
   ·intro p hp
    rcases List.mem_append.1 hp with hp | hp
    ·have:=h2 p hp;simp only [J87];omega
    ·simp at hp;subst hp;simp only [J87];omega
   ·have hda:∀(a:List Nat) (b:Nat),desc a=true→(∀x∈a,b < x)→desc (a++[b])=true:=by
     intro a b
     induction a with
     | nil=>intro _ _;rfl
     | cons y r ih =>
      intro h6 h7
      simp only [desc,J90] at h6
      simp only [K19,desc,J90]
      refine ⟨List.all_eq_true.2 fun z hz=>?_,ih h6.2 fun x hx=>h7 x (List.mem_cons_of_mem _ hx)⟩
      rcases List.mem_append.1 hz with hz | hz
      ·exact List.all_eq_true.1 h6.1 z hz
      ·simp at hz;subst hz;simpa using h7 y (List.mem_cons_self ..)
    rw [K00]
    refine hda _ i h3 fun y hy=>?_
    obtain ⟨p,hp,rfl⟩:=List.mem_map.1 hy
    have:=h2 p hp;omega
   ·have e:A27 (o::l) (s::sv') fr=A27 l sv' (match o.dst with | some d=>(d,s)::fr | none=>fr):=rfl
    rw [e]
    simpa using h4
   ·intro j o' ho'
    cases j with
    | zero =>
     simp at ho';subst ho'
     refine ⟨xe'++[(i,new,x)],[],by simp,by simp,?_,?_⟩
     ·intro p hp
      rcases List.mem_append.1 hp with hp | hp
      ·have:=h2 p hp;omega
      ·simp at hp;subst hp;simp
     ·rw [K16,←hob]
      refine .inr ⟨new,x,?_,hq⟩
      rw [I10 (fun p hp=>by have:=h2 p hp;omega)]
      show cond (Nat.beq i (i+0)) _ _=_
      rw [Nat.add_zero,Nat.beq_refl];rfl
    | succ j =>
     obtain ⟨xa,xb,e1,e2,e3,e4⟩:=h5 j o' (by simpa using ho')
     refine ⟨xa,xb++[(i,new,x)],by rw [e1];simp,?_,fun p hp=>by have:=e3 p hp;omega,?_⟩
     ·intro p hp
      rcases List.mem_append.1 hp with hp | hp
      ·have:=e2 p hp;omega
      ·simp at hp;subst hp;simp
     ·have e5:A27 ((o::l).take (j+1)) ((s::sv').take (j+1)) fr=A27 (l.take j) (sv'.take j) (match o.dst with | some d=>(d,s)::fr | none=>fr):=rfl
      rw [e5,show i+(j+1)=i+1+j by omega,show s6 (s::sv') (j+1)=s6 sv' j by simp [s6],K01]
      rcases e4 with e4 | ⟨n',x',e6,e7⟩
      ·exact .inl e4
      ·refine .inr ⟨n',x',?_,e7⟩
       have hxe:∀(a b:Xe) (e:Nat) y,xAt a e=some y→xAt (a++b) e=some y:=by
        intro a b e y
        induction a with
        | nil=>intro h;cases h
        | cons z r ih =>
         obtain ⟨q,z⟩:=z
         intro h
         show cond (Nat.beq q e) (some z) (xAt (r++b) e)=_
         unfold xAt at h
         cases hb:Nat.beq q e
         ·rw [hb] at h;exact ih h
         ·rw [hb] at h;exact h
       exact hxe _ _ _ _ e6
def Rest1 (P:Program) (nt:Nat) (l:List Oper) (M:List (List Nat)) (req:List (Nat × List Nat)) (E:List Nat) (fr0:Fr) (ob0:Obs) (Q:Post) (fr:Fr) (ob:Obs) (sv:List SV) (xe:Xe):Prop :=
 (A26 (xe.map (·.1)) E&&(D43 l.toArray sv fr0 xe&&H48 xe M))=true∧Ob1s P nt l sv xe fr0 ob0 req∧Q .normal fr ob
theorem G59 {ob:Obs}:∀{xe:Xe},desc (xe.map fun p=>p.1)=true→obD xe ob (xe.map fun p=>p.1)=obsX ob xe:=by
 have key:∀(all:Xe) (xe:Xe),(∀p∈xe,xAt all p.1=some p.2)→obD all ob (xe.map (·.1))=obsX ob xe:=by
  intro all xe
  induction xe with
  | nil=>intro _;rfl
  | cons y r ih =>
   intro h
   obtain ⟨i,n,x⟩:=y
   have h1:=h (i,n,x) (List.mem_cons_self ..)
   have h1:xAt all i=some (n,x):=h1
   show (match xAt all i with | some x=>x.2::obD all ob (r.map (fun p:Nat × Bool × (Nat × Ob)=>p.1)) | none=>obD all ob (r.map (fun p:Nat × Bool × (Nat × Ob)=>p.1)))=_
   rw [h1,ih fun p hp=>h p (List.mem_cons_of_mem _ hp)]
   rfl
 intro xe h
 refine key xe xe ?_
 have look:∀(xe:Xe),desc (xe.map (·.1))=true→∀p∈xe,xAt xe p.1=some p.2:=by
  intro xe
  induction xe with
  | nil=>intro _ p hp;simp at hp
  | cons y r ih =>
   intro h p hp
   obtain ⟨i,y⟩:=y
   simp only [J95,desc,J90] at h
   rcases List.mem_cons.1 hp with rfl | hp
   ·show cond (Nat.beq i i) (some y) _=_
    rw [Nat.beq_refl];rfl
   ·have hlt:p.1 < i:=by simpa using List.all_eq_true.1 h.1 p.1 (List.mem_map.2 ⟨p,hp,rfl⟩)
    show cond (Nat.beq i p.1) (some y) (xAt r p.1)=_
    rw [M9 (by omega)]
    exact ih h.2 p hp
 exact look xe h
theorem obD_low {ob:Obs} {xa xb:Xe} {j:Nat} (hd:desc ((xa++xb).map (·.1))=true) (ha:∀p∈xa,j≤p.1) (hb:∀p∈xb,p.1 < j):obD (xa++xb) ob (lexD ((xa++xb).map (·.1)) j)=obsX ob xb:=by
 have e:lexD ((xa++xb).map (·.1)) j=xb.map (·.1):=by
  unfold lexD
  rw [K00,K34,List.filter_eq_nil_iff.2,K16,List.filter_eq_self.2]
  ·intro y hy
   obtain ⟨p,hp,rfl⟩:=List.mem_map.1 hy
   simpa using hb p hp
  ·intro y hy
   obtain ⟨p,hp,rfl⟩:=List.mem_map.1 hy
   have:=ha p hp
   simp;omega
 rw [e]
 have hd2:desc (xb.map (·.1))=true:=by
  have:∀(a b:List Nat),desc (a++b)=true→desc b=true:=by
   intro a b
   induction a with
   | nil=>exact fun h=>h
   | cons y r ih=>intro h;simp only [K19,desc,J90] at h;exact ih h.2
  rw [K00] at hd
  exact this _ _ hd
 rw [←G59 (ob:=ob) hd2]
 have hl:∀(D:List Nat),(∀e∈D,e < j)→obD (xa++xb) ob D=obD xb ob D:=by
  intro D
  induction D with
  | nil=>intro _;rfl
  | cons e D ih =>
   intro h
   have h1:xAt (xa++xb) e=xAt xb e:=I10 fun p hp=>by
    have:=ha p hp
    have:=h e (List.mem_cons_self ..)
    omega
   show (match xAt (xa++xb) e with | some x=>x.2::obD (xa++xb) ob D | none=>obD (xa++xb) ob D)=(match xAt xb e with | some x=>x.2::obD xb ob D | none=>obD xb ob D)
   rw [h1,ih fun e' he'=>h e' (List.mem_cons_of_mem _ he')]
 refine hl _ fun e he=>?_
 obtain ⟨p,hp,rfl⟩:=List.mem_map.1 he
 exact hb p hp
theorem x5 {id:Nat} {l:List Oper} {fr:Fr} {ob:Obs} {Q:Post} (E:List Nat) (M:List (List Nat)) (req:List (Nat × List Nat)) (hm:P.follows .mixedOrders=true)
  (hB:G01 nt l E M req=true) (h:E45 P nt l.toArray (Rest1 P nt l M req E fr ob Q) 0 l fr ob [] []):WpC P nt (.region id l.toArray true) fr ob Q:=by
 obtain ⟨sv,xe,h1,h2,h3,h4,h5⟩:=E46 (ob0:=ob) h rfl (fun p hp=>by simp at hp)
 rw [K06,List.reverse_nil,K16] at h4
 obtain ⟨hc,hreq,hQ⟩:=h4
 simp only [J90] at hc
 have hE:=A68 hc.1
 have hcf:=hB
 unfold G01 at hcf
 simp only [J90] at hcf
 obtain ⟨⟨⟨⟨⟨⟨b1,b2⟩,b3⟩,b4⟩,b5⟩,b6⟩,b7⟩:=hcf
 refine F20 sv xe M req hm h1 (by rw [hE];exact hB) ?_ hc.2.1 hc.2.2 hreq (fr':=A27 l sv fr) (fun t s ht=>D44 h1 ht) (by rw [G59 h3];exact hQ)
 intro i hi
 have ho:l[i]?=some l[i]:=J88 hi
 obtain ⟨xa,xb,e1,e2,e3,e4⟩:=h5 i _ ho
 rw [Nat.zero_add] at e2 e3 e4
 rw [K06] at e4
 have hob:obD xe ob (lexD (xe.map (·.1)) i)=obsX ob xb:=by
  rw [e1] at h3 ⊢
  exact obD_low h3 e3 e2
 have hU:UIn l sv fr l[i] (S2 (A27 (l.take i) (sv.take i) fr) (X4 l[i].op)):=by
  intro t s ht
  have hus:=u5 ht
  refine ⟨hus,?_⟩
  have q2:=List.all_eq_true.1 b2 i (List.mem_range.2 hi)
  simp only [List.getElem?_toArray,ho] at q2
  simp only [J90] at q2
  obtain ⟨q3,q4,q5,q6,q7⟩:=q2
  rcases D44 (by rw [K03,K03];omega) (j6 ht) with ⟨j,o',h6,h7,h8⟩ | ⟨h6,h7⟩
  ·have hj:j < i:=by
    have:=(List.getElem?_eq_some_iff.1 h6).1
    rw [K03] at this;omega
   rw [K05 hj] at h6
   refine .inl ⟨j,o',h6,h7,?_⟩
   rw [h8];unfold s6
   rw [J91,J91,K05 hj]
  ·refine .inr ⟨?_,h7⟩
   intro hin
   have hex:∀(m:List Oper) (t:Nat),t∈o3 m→∃(j:Nat) (o':Oper),m[j]?=some o'∧o'.dst=some t:=by
    intro m t
    induction m with
    | nil=>intro h;simp [o3] at h
    | cons o m ih =>
     intro h
     unfold o3 at h
     cases hd:o.dst with
     | none=>rw [hd] at h;obtain ⟨j,o',h1,h2⟩:=ih h;exact ⟨j+1,o',by simpa using h1,h2⟩
     | some d =>
      rw [hd] at h
      rcases List.mem_cons.1 h with rfl | h
      ·exact ⟨0,o,rfl,hd⟩
      ·obtain ⟨j,o',h1,h2⟩:=ih h;exact ⟨j+1,o',by simpa using h1,h2⟩
   obtain ⟨j,o',h8,h9⟩:=hex l t hin
   have hjl:j < l.length:=(List.getElem?_eq_some_iff.1 h8).1
   have hbf:=List.all_eq_true.1 (List.all_eq_true.1 q5.1 t hus) j (List.mem_range.2 hjl)
   simp only [h8,h9] at hbf
   have hbf:Bef l.toArray i j=true:=by simpa using hbf
   have hlt:=List.all_eq_true.1 q5.2 j (List.mem_range.2 hjl)
   rw [hbf] at hlt
   have hlt:j < i:=by simpa using hlt
   exact h6 (B12 (l:=l.take i) (j:=j) (by rw [K05 hlt];exact h8) h9)
 refine ⟨l[i],_,ho,hU,?_⟩
 rw [hob]
 rcases e4 with ⟨e5,e6⟩ | ⟨n,x,e5,e6⟩
 ·exact .inl ⟨e5,e6⟩
 ·exact .inr ⟨n,x,e5,e6⟩
theorem L8 {ops:Array Oper} {K:Fr→Obs→List SV→Xe→Prop} {i d:Nat} {l:List Oper} {fr:Fr} {ob:Obs} {sv:List SV} {xe:Xe} {op:Op} {ty:TypeId} {pos:String} {af:Array Edge} {gd:Option (Nat × Bool)} {s:SV} (ht:turns op=false)
  (h:Neu P ⟨some d,op,ty,pos,af,gd⟩ (S2 fr (X4 op)) ob (fun s'=>s'=s)) (k:E45 P nt ops K (i+1) l ((d,s)::fr) ob (s::sv) xe):E45 P nt ops K i (⟨some d,op,ty,pos,af,gd⟩::l) fr ob sv xe :=
 .inl ⟨ht,s,d,rfl,h,k⟩
theorem C12 {ops:Array Oper} {K:Fr→Obs→List SV→Xe→Prop} {i al:Nat} {l:List Oper} {fr:Fr} {ob:Obs} {sv:List SV} {xe:Xe} {ty:TypeId} {pos:String} {af:Array Edge} (k:Nat) {e:TypeId} {z:Value} [hz:TyZero P e z] (h2:J8 k ob=true) (hd:Nat.blt al nt=true)
  (kk:E45 P nt ops K (i+1) l ((al,.s (.one (.ref k 0)))::fr) ((k,.box (z.cells.toList.map fun c=>.p (.v c)))::ob) ((.s (.one (.ref k 0)))::sv) ((i,true,(k,.box (z.cells.toList.map fun c=>.p (.v c))))::xe)) :
  E45 P nt ops K i (⟨some al,.alloc e,ty,pos,af,none⟩::l) fr ob sv xe :=
 .inr ⟨true,_,_,I09 h2 hd,kk⟩
theorem A85 {ops:Array Oper} {K:Fr→Obs→List SV→Xe→Prop} {i:Nat} {l:List Oper} {fr:Fr} {ob:Obs} {sv:List SV} {xe:Xe} {op:Op} {ty:TypeId} {pos:String} {af:Array Edge} {x:Nat × Ob} (h:EffU P ⟨none,op,ty,pos,af,none⟩ (S2 fr (X4 op)) ob (x::ob))
  (kk:E45 P nt ops K (i+1) l fr (x::ob) (.any::sv) ((i,false,x)::xe)):E45 P nt ops K i (⟨none,op,ty,pos,af,none⟩::l) fr ob sv xe :=
 .inr ⟨false,x,.any,q_store h,kk⟩
theorem G60 {ops:Array Oper} {l:List Oper} {M:List (List Nat)} {req:List (Nat × List Nat)} {E:List Nat} {fr0:Fr} {ob0:Obs} {Q:Post} {i:Nat} {fr:Fr} {ob:Obs} {sv:List SV} {xe:Xe}
  (hc:(A26 (xe.map (·.1)) E&&(D43 l.toArray sv.reverse fr0 xe&&H48 xe M))=true) (h2:Ob1s P nt l sv.reverse xe fr0 ob0 req) (h3:Q .normal fr ob):E45 P nt ops (Rest1 P nt l M req E fr0 ob0 Q) i [] fr ob sv xe:=⟨hc,h2,h3⟩
theorem G61 {l:List Oper} {sv:List SV} {xe:Xe} {fr:Fr} {ob:Obs}:Ob1s P nt l sv xe fr ob []:=trivial
theorem G3 {l:List Oper} {sv:List SV} {xe:Xe} {fr:Fr} {ob:Obs} {i:Nat} {D:List Nat} {r:List (Nat × List Nat)} {o:Oper} (ho:l[i]?=some o) (ht:turns o.op=false) (h:Neu P o (S2 (C98 l sv fr) (X4 o.op)) (obD xe ob D) (fun s'=>s'=s6 sv i))
  (k:Ob1s P nt l sv xe fr ob r):Ob1s P nt l sv xe fr ob ((i,D)::r):=⟨⟨o,ho,.inl ⟨ht,h⟩⟩,k⟩
theorem E19 {l:List Oper} {sv:List SV} {xe:Xe} {fr:Fr} {ob:Obs} {i:Nat} {D:List Nat} {r:List (Nat × List Nat)} {al k:Nat} {e:TypeId} {z:Value} {ty:TypeId} {pos:String} {af:Array Edge} (ho:l[i]?=some ⟨some al,.alloc e,ty,pos,af,none⟩) [hz:TyZero P e z]
  (hx:xAt xe i=some (true,(k,.box (z.cells.toList.map fun c=>.p (.v c))))) (h2:J8 k (obD xe ob D)=true) (hd:Nat.blt al nt=true) (hs:s6 sv i=.s (.one (.ref k 0)))
  (kk:Ob1s P nt l sv xe fr ob r):Ob1s P nt l sv xe fr ob ((i,D)::r):=⟨⟨_,ho,.inr ⟨true,_,hx,by rw [hs];exact I09 h2 hd⟩⟩,kk⟩
end
end Go.AL
namespace Go.AL
open Go Go.RowKit
set_option linter.unusedVariables false
section
variable {P:Program} {dst:Option Tmp} {ty:TypeId} {pos:String} {af:Array Edge} {gd:Option (Nat × Bool)} {fr:Fr} {ob:Obs}
def C54 (fr:Fr):List Operand→Option (List (Nat × Nat))
 | []=>some []
 | x::r=>match opv fr x with
  | some (.s (.one (.ref k o)))=>(C54 fr r).map ((k,o)::·)
  | _=>none
theorem C55 {S:Ctx} {G:Gh} {a:Act} {w:World} (h:Sim P S fr ob G a w):∀(xs:List Operand) (ps:List (Nat × Nat)),C54 fr xs=some ps→All2 (D62 G) ps (xs.map a.eval)
 | [],ps,h1=>by simp [C54] at h1;subst h1;trivial
 | x::r,ps,h1=>by
  unfold C54 at h1
  split at h1
  ·rename_i k o hx
   cases hr:C54 fr r with
   | none=>rw [hr] at h1;simp at h1
   | some qs =>
    rw [hr] at h1
    simp at h1
    subst h1
    exact ⟨J5 h hx,C55 h r qs hr⟩
  ·cases h1
theorem C56 {f:FuncId} {first cap:List Operand} {nf nc:List (Nat × Nat)} (h1:C54 fr first=some nf) (h2:C54 fr cap=some nc) :
  Neu P ⟨dst,.makeFunc (.func f) first.toArray cap.toArray,ty,pos,af,gd⟩ fr ob (fun s'=>s'=.s (.one (.clo f nf nc))) :=
 G1 fun S G a w h=>by
  refine ⟨.func (.func f) (first.map a.eval).toArray (cap.map a.eval).toArray,?_,_,_,rfl,C55 h first nf h1,C55 h cap nc h2⟩
  simp [execOp,Instr.makeFunc]
abbrev refS (p:Nat × Nat):S1:=.one (.ref p.1 p.2)
theorem E47 {rd:Rd} {G:Gh}:∀{l:List (Nat × Nat)} {us:List Value},All2 (D62 G) l us→All2 (S1.rep rd G) (l.map refS) us
 | [],[],_=>trivial
 | [],_::_,h=>h.elim
 | _::_,[],h=>h.elim
 | _::l,_::us,h=>⟨h.1,E47 h.2⟩
section
variable {nt:Nat} {ops:Array Oper} {rest:List Oper} {Q:Post} {d:Nat}
theorem E48 {f:FuncId} {g:Operand} {xs:List Operand} {ats:Array TypeId} {ty:TypeId} {pos:String} {af:Array Edge} {nf nc:List (Nat × Nat)} {args:List S1} {ks:List Nat} {post:List S1→Obs→Prop}
  (hf:Met P f (nf.map refS++args++nc.map refS) (shF fr) ob ks post) (hg:opv fr g=some (.s (.one (.clo f nf nc)))) (ha:B09 fr xs=some args) (hc:xs.all K3=true) (hd:Nat.blt d nt=true)
  (kk:∀rs ob',post rs ob'→WpL P nt ops rest ((d,resS rs)::K8 ks fr) ob' Q):WpL P nt ops (⟨some d,.call ⟨.value g,xs.toArray,ats⟩,ty,pos,af,none⟩::rest) fr ob Q:=by
 intro S G a w hn h
 obtain ⟨vs,ws,hgv,hvs,hws⟩:=J5 h hg
 have hvals:All2 (S1.rep (F9 (Mut S ob G) w) G) (nf.map refS++args++nc.map refS) (vs++xs.map a.eval++ws):=((E47 hvs).append (A59 h xs args ha hc)).append (E47 hws)
 obtain ⟨gv,hgv2⟩:∃gv:Nat→Value,gv=fun i=>S.sl a (i - 1000000):=⟨_,rfl⟩
 let S':Ctx:={ S with gv:=gv }
 have hhigh:High (shF fr):=fun i s hi=>(x4 fr i s hi).1
 have hfacts0:∀i s,E7 (shF fr) i=some s→s.rep (F9 (Mut S' ob G) w) G (S'.sl a i):=by
  intro i s hi
  obtain ⟨h7,h8⟩:=x4 fr i s hi
  rw [Ctx.sl_ge h7]
  show s.rep _ _ (gv i)
  have e:=congrFun hgv2 i
  rw [e]
  exact h.facts (i - 1000000) s h8
 have hs:Sim P S' (shF fr) ob G a w:={ h with facts:=hfacts0 }
 have hcalls:=hf.2 hhigh S' G a w _ hs hvals
 refine wpList_plain rfl fun K hK=>N8 (K:=fun v w'=>∃rs ob' G',post rs ob'∧A84 (F9 (Mut S' ob' G') w') G' rs v∧Sim P S' (K8 ks (shF fr)) ob' G' a w') ?_ ?_
 ·have he:(execOp a.eval ⟨some d,.call ⟨.value g,xs.toArray,ats⟩,ty,pos,af,none⟩).run P w=.ok (.enter f (vs++xs.map a.eval++ws).toArray) w:=by
   have:=W5 (P:=P) (f:=f) (args:=(vs++xs.map a.eval++ws).toArray) (w:=w) hf.1
   simp only [execOp,resolve,hgv,Deferred.ofValue,Sem.run_bind,Sem.run_pure,Result.andThen_ok,invoke]
   rw [show vs.toArray++Array.map a.eval xs.toArray++ws.toArray=(vs++xs.map a.eval++ws).toArray by simp]
   exact this
  unfold Does
  rw [he]
  refine hcalls.mono ?_
  rintro e w' ⟨v,rs,ob',G',rfl,hpost,hres,hs'⟩
  exact ⟨v,rfl,rs,ob',G',hpost,hres,hs'⟩
 ·rintro v w' ⟨rs,ob',G',hp,hres,hs'⟩
  have hlt:d < S.nt:=by rw [hn];simpa using hd
  have hfacts:∀i s,E7 (K8 ks fr) i=some s→s.rep (F9 (Mut S ob' G') w') G' (S.sl a i):=by
   intro i s hi
   have h7:=hs'.facts (i+1000000) s (by rw [A24];exact E17 hi)
   have h8:1000000≤i+1000000:=Nat.le_add_left _ _
   rw [Ctx.sl_ge h8] at h7
   have h7:s.rep (F9 (Mut S ob' G') w') G' (gv (i+1000000)):=h7
   have e:=congrFun hgv2 (i+1000000)
   simp only [Nat.add_sub_cancel] at e
   rw [e] at h7
   exact h7
  have hsim:Sim P S (K8 ks fr) ob' G' a w':={ hs' with facts:=hfacts }
  exact hK _ _ (kk rs ob' hp S G' _ w' hn (hsim.put hlt hres))
end
theorem B80 {x yl yh:Operand} {t e:TypeId} {bytes ec k:Nat} {α:Type} {c:α→Nat→Cell} {xs:List α} {kl kh:IntKind} {i j:Int} [ht:TySl P t e ec bytes] (hx:opv fr x=some (.s (.one (.mut k)))) (hk:D4 ob k=some (.arr α ec c xs))
  (hyl:opv fr yl=some (K4 (.int kl i))) (hyh:opv fr yh=some (K4 (.int kh j))) (h0:0≤i) (h1:i≤j) (h2:j≤xs.length) :
  Neu P ⟨dst,.slice t x (some yl) (some yh) none,ty,pos,af,gd⟩ fr ob (fun s'=>s'=.s (.one (.msl k ec i.toNat (j.toNat - i.toNat)))) :=
 G1 fun S G a w h=>by
  obtain ⟨hu,_⟩:=J5 h hx
  obtain ⟨b,vs,t',hg,hlen,_⟩:=h.obs k _ hk
  rw [hg] at hu
  refine ⟨sliced (some ⟨b,0,none⟩) i.toNat j.toNat xs.length ec,?_,b,xs.length,xs.length,xs.length - i.toNat,if xs.length=i.toNat then 0 else i.toNat*ec,hg,by omega,?_,by omega,hlen,?_⟩
  ·simp only [execOp,hu,H8 h hyl,H8 h hyh,Option.map_some,Option.map_none]
   refine O1 ?_
   obtain ⟨he1,he2⟩:=ht.elem
   simp only [Instr.sliceAt,Sem.run_bind,run_underlying ht.out.1,Result.andThen_ok]
   rw [run_slice_lh w t (some ⟨b,0,none⟩) xs.length xs.length he1 kl kh i j h0 h1 (by omega),he2,N1 ht.size]
   rfl
  ·unfold sliced;split<;>simp [*,Addr.add_lit]
  ·by_cases hq:xs.length=i.toNat
   ·left;omega
   ·right;rw [if_neg hq]
theorem W1 {x y:Operand} {t e:TypeId} {ec bytes k o n:Nat} {ki:IntKind} {i:Int} [ht:TySl P t e ec bytes] (hx:opv fr x=some (.s (.one (.msl k ec o n))))
  (hy:opv fr y=some (K4 (.int ki i))) (h0:0≤i) (h1:i < n):Neu P ⟨dst,.indexAddr t x y,ty,pos,af,gd⟩ fr ob (fun s'=>s'=.s (.one (.mref k ec (o+i.toNat) 0))) :=
 G1 fun S G a w h=>by
  obtain ⟨b,m,cap,cap',o',hg,hm,hu,_,_,ho⟩:=J5 h hx
  have ho:o'=o*ec:=ho.resolve_left (by omega)
  subst ho
  refine ⟨.pointer (some ⟨b,(o+i.toNat)*ec,none⟩),?_,b,m,cap,hg,rfl⟩
  simp only [execOp,hu,H8 h hy]
  refine O1 ?_
  have hb:0≤i∧i < (n:Int):=⟨h0,h1⟩
  simp [Instr.indexAt,run_underlying ht.out.1,asIntOf,hb,N1 ht.size,Addr.add_lit,K14]
def A38 {κ:Type} [DecidableEq κ]:List (κ × Cell)→κ→Option Cell
 | [],_=>none
 | (k,c)::r,a=>if k=a then some c else A38 r a
class TyMap (P:Program) (t:TypeId) (kt:outParam TypeId) (kd:outParam TypeDesc) (z:outParam Value):Prop where
 out:∃et,P.underlying t=some (.map kt et)∧P.underlying kt=some kd∧(P.info? et).bind (·.zero)=some z∧z.oneCell'=true
theorem I45 (k:Nat) (κ:Type) (kf:κ→Value) {t:TypeId} (hf:(I1 k fr&&J8 k ob)=true) :
  EffV P ⟨dst,.makeMap t none,ty,pos,af,gd⟩ fr ob (.s (.one (.mut k))) fr ((k,.map κ kf [])::ob):=by
 simp only [J90] at hf
 obtain ⟨h1,h2⟩:=hf
 obtain ⟨h4,h5,hp⟩:=Z0 h2
 intro S G a w h
 refine J9 (w':=w.alloc (.map #[] 0)) (v:=.map (some w.heap.size)) ?_ ?_
 ·simp only [execOp,Option.map_none]
  exact O1 rfl
 ·have hxw:Below w.heap.size w (w.alloc (.map #[] 0)):=(Below.refl _ _).alloc (Nat.le_refl _) _
  have hu:∀b,blk (.map (some w.heap.size))=some b→w.heap.size≤b:=by intro b hb;simp [blk] at hb;omega
  have h6:=h.new (o:=.map κ kf []) hp h5 hxw hu ⟨w.heap.size,#[],0,rfl,heap_alloc_new w _,trivial⟩
  rw [m9 h1,h4] at h6
  exact ⟨upd G k (.map (some w.heap.size)),h6,(K7 _ _ _).symm,rfl⟩
theorem D45 {κ:Type} [DecidableEq κ] {kf:κ→Value} {kd:TypeDesc} (hkey:∀a,MapKept.IsKey kd (kf a)) (hinj:∀a b,kf a=kf b→a=b) {rd:Rd} (a:κ):∀(kvs:List (κ × Cell)) (es:List MapEntry) (i:Nat),
  All2 (fun (kv:κ × Cell) (e:MapEntry)=>e.key=kf kv.1∧kv.2.rep rd e.val) kvs es →
  (A38 kvs a=none∧Instr.findNow kd (kf a) es i=some none)∨∃c j v,A38 kvs a=some c∧Instr.findNow kd (kf a) es i=some (some (j,v))∧c.rep rd v
 | [],[],_,_=>.inl ⟨rfl,rfl⟩
 | [],_::_,_,h=>h.elim
 | _::_,[],_,h=>h.elim
 | (k,c)::kvs,e::es,i,h=>by
  obtain ⟨⟨h1,h2⟩,h3⟩:=h
  obtain ⟨r,hr,hiff⟩:=MapKept.sameNow_of_keys (hkey a) (hkey k)
  have hr':Instr.sameNow kd (kf a) e.key=some r:=by rw [h1];exact hr
  by_cases he:k=a
  ·subst he
   have:r=true:=hiff.2 rfl
   subst this
   exact .inr ⟨c,i,e.val,by simp [A38],by simp [Instr.findNow,hr'],h2⟩
  ·have:r=false:=by
    cases r
    ·rfl
    ·exact absurd (hinj _ _ (hiff.1 rfl)).symm he
   subst this
   rcases D45 hkey hinj a kvs es (i+1) h3 with ⟨h4,h5⟩ | ⟨c',j,v,h4,h5,h6⟩
   ·exact .inl ⟨by simp [A38,he,h4],by simp [Instr.findNow,hr',h5]⟩
   ·exact .inr ⟨c',j,v,by simp [A38,he,h4],by simp [Instr.findNow,hr',h5],h6⟩
theorem G62 {x y:Operand} {t kt:TypeId} {kd:TypeDesc} {z:Value} {k:Nat} {κ:Type} [DecidableEq κ] {kf:κ→Value} {kvs:List (κ × Cell)} (a0:κ) {r:Option Cell} [ht:TyMap P t kt kd z] (hx:opv fr x=some (.s (.one (.mut k)))) (hk:D4 ob k=some (.map κ kf kvs))
  (hy:opv fr y=some (K4 (kf a0))) (hkey:∀a,MapKept.IsKey kd (kf a)) (hinj:∀a b,kf a=kf b→a=b) (hr:A38 kvs a0=r) :
  Neu P ⟨dst,.lookup t x y true,ty,pos,af,gd⟩ fr ob (fun s'=>s'=.tup [.one (.p (r.getD (.v z))),.one (.p (.v (.bool r.isSome)))]) :=
 G1 fun S G a w h=>by
  obtain ⟨et,u1,u2,u3,u4⟩:=ht.out
  obtain ⟨hu,_⟩:=J5 h hx
  obtain ⟨b,es,clock,hg,hh,ha⟩:=h.obs k _ hk
  rw [hg] at hu
  subst hr
  rcases D45 hkey hinj a0 kvs es.toList 0 ha with ⟨h4,h5⟩ | ⟨c,j,v,h4,h5,h6⟩
  ·refine ⟨.tuple #[z,.bool false],?_,[z,.bool false],rfl,?_⟩
   ·simp only [execOp,hu,H8 h hy]
    refine O1 ?_
    simp only [Instr.lookup,Sem.run_bind,run_underlying u1,Result.andThen_ok,MapKept.run_getObj_map hh,Sem.run_pure,MapKept.run_checkKey u2 (hkey a0),MapKept.run_findKey u2 h5,R6 u3]
    rfl
   ·rw [h4];exact ⟨⟨rfl,u4⟩,⟨rfl,rfl⟩,trivial⟩
  ·refine ⟨.tuple #[v,.bool true],?_,[v,.bool true],rfl,?_⟩
   ·simp only [execOp,hu,H8 h hy]
    refine O1 ?_
    simp only [Instr.lookup,Sem.run_bind,run_underlying u1,Result.andThen_ok,MapKept.run_getObj_map hh,Sem.run_pure,MapKept.run_checkKey u2 (hkey a0),MapKept.run_findKey u2 h5]
    rfl
   ·rw [h4];exact ⟨h6,⟨rfl,rfl⟩,trivial⟩
theorem J15 {x y v:Operand} {t kt:TypeId} {kd:TypeDesc} {z:Value} {k:Nat} {κ:Type} [DecidableEq κ] {kf:κ→Value} {kvs:List (κ × Cell)} (a0:κ) {c:Cell} [ht:TyMap P t kt kd z] (hx:opv fr x=some (.s (.one (.mut k)))) (hk:D4 ob k=some (.map κ kf kvs))
  (hy:opv fr y=some (K4 (kf a0))) (hv:opv fr v=some (.s (.one (.p c)))) (hc:K3 v=true) (hkey:∀a,MapKept.IsKey kd (kf a)) (hinj:∀a b,kf a=kf b→a=b) (hr:A38 kvs a0=none) :
  Eff P ⟨none,.mapUpdate t x y v,ty,pos,af,gd⟩ fr ob fr ((k,.map κ kf (kvs++[(a0,c)]))::ob):=by
 intro S G a w h
 obtain ⟨et,u1,u2,u3,u4⟩:=ht.out
 obtain ⟨hu,_⟩:=J5 h hx
 obtain ⟨b,es,clock,hg,hh,ha⟩:=h.obs k _ hk
 rw [hg] at hu
 have hrv:c.rep (F9 (Mut S ob G) w) (a.eval v):=V4 h hv hc
 obtain ⟨h5,h6⟩:=MapKept.heap_set (o':=.map (es.push { key:=kf a0,val:=a.eval v,born:=clock }) (clock+1)) hh
 have hf:Instr.findNow kd (kf a0) es.toList 0=some none:=by
  rcases D45 hkey hinj a0 kvs es.toList 0 ha with ⟨_,h5⟩ | ⟨c,j,v,h4,_,_⟩
  ·exact h5
  ·rw [hr] at h4;cases h4
 have he:(execOp a.eval ⟨none,.mapUpdate t x y v,ty,pos,af,gd⟩).run P w=.ok .skip { w with heap:=w.heap.setIfInBounds b (.map (es.push { key:=kf a0,val:=a.eval v,born:=clock }) (clock+1)) }:=by
  simp only [execOp,hu,H8 h hy]
  simp only [Instr.mapUpdate,Sem.run_bind,run_underlying u1,Result.andThen_ok,MapKept.run_getObj_map hh,MapKept.run_checkKey u2 (hkey a0),MapKept.run_findKey u2 hf,MapKept.run_setObj_map _ hh]
  rfl
 unfold Does
 rw [he]
 have hbk:blk (G k)=some b:=by rw [hg];rfl
 refine ⟨G,h.write hk hbk (fun i=>⟨hbk,trivial⟩) (fun i=>⟨hbk,trivial⟩) rfl rfl rfl (by simp) (fun j _ hne=>h6 j hne) ?_⟩
 intro rd hrd
 refine ⟨b,_,_,hg,h5,?_⟩
 rw [Array.toList_push]
 exact (ha.mono fun _ _ ⟨e1,e2⟩=>⟨e1,Cell.rep_mono hrd _ _ e2⟩).append ⟨⟨rfl,Cell.rep_mono hrd _ _ hrv⟩,trivial⟩
abbrev B66 (s:List UInt8):Value:=.string ⟨s.toArray⟩
theorem E49 (a:List UInt8):MapKept.IsKey .string (B66 a):=trivial
theorem E50 (a b:List UInt8) (h:B66 a=B66 b):a=b:=by
 simp only [B66,Value.string.injEq,ByteArray.mk.injEq] at h
 simpa using congrArg Array.toList h
end
end Go.AL
namespace Go.AL
open Go Go.RowKit
set_option linter.unusedVariables false
section
variable {P:Program} {dst:Option Tmp} {ty:TypeId} {pos:String} {af:Array Edge} {gd:Option (Nat × Bool)} {fr:Fr} {ob:Obs}
theorem H49 {x yh ym:Operand} {t e:TypeId} {bytes ec:Nat} {s:SV} {α:Type} {c:α→Nat→Cell} {xs:List α} {kh km:IntKind} {j m:Int} [ht:TySl P t e ec bytes] (hx:opv fr x=some s) (hl:IsList s α ec c xs)
  (hyh:opv fr yh=some (K4 (.int kh j))) (hym:opv fr ym=some (K4 (.int km m))) (h0:0≤j) (h2:j≤xs.length) (hm:m=j) :
  Neu P ⟨dst,.slice t x none (some yh) (some ym),ty,pos,af,gd⟩ fr ob (fun s'=>s'=.s (.one (.full α ec c (xs.take j.toNat)))) :=
 G1 fun S G a w h=>by
  subst hm
  have hr:=Z8 h hx hl
  obtain ⟨ad,cap,hu,hcap,_⟩:=X2 hr
  rw [hu] at hr
  have hp:=C88 (lo:=0) (hi:=m.toNat) hr (by omega) (by omega)
  rw [List.drop_zero,Nat.sub_zero] at hp
  have hform:sliced ad 0 m.toNat m.toNat ec=.slice (if m.toNat=0 then ad else ad.map (·.add 0)) m.toNat m.toNat:=by simp [sliced]
  refine ⟨sliced ad 0 m.toNat m.toNat ec,?_,?_,?_⟩
  ·simp only [execOp,hu,H8 h hyh,H8 h hym,Option.map_some,Option.map_none]
   refine O1 ?_
   obtain ⟨he1,he2⟩:=ht.elem
   simp only [Instr.sliceAt,Sem.run_bind,run_underlying ht.out.1,Result.andThen_ok]
   rw [run_slice_any w t ad xs.length cap he1,he2]
   have hb:(Instr.sliceBounds true xs.length cap none (some (.int kh m)) (some (.int km m))).run P w=.ok (0,m.toNat,m.toNat) w:=by
    have e:(m.toNat:Int)=m:=by omega
    simp only [Instr.sliceBounds,Sem.run_bind,run_sliceBound,Sem.run_pure,Result.andThen_ok]
    rw [run_sliceBound w km m _ _ h0 (by omega)]
    simp only [Result.andThen_ok]
    rw [run_sliceBound w kh m _ _ h0 (by omega)]
    simp
   rw [hb]
   simp only [Result.andThen_ok]
   rw [N1 ht.size]
   rfl
  ·-- the cells are those of the list's beginning
   simp only [Cell.rep] at hp ⊢
   obtain ⟨a',cap',he,⟨h3,h3'⟩,h4,h5⟩:=hp
   have hlen:(xs.take m.toNat).length=m.toNat:=by rw [K03];omega
   rw [hlen] at he
   have hfo:sliced ad 0 m.toNat cap ec=.slice (if cap=0 then ad else ad.map (·.add (0*ec))) m.toNat cap:=by simp [sliced]
   rw [hfo] at he
   injection he with he1 he2 he3
   by_cases hz:m.toNat=0
   ·refine ⟨if m.toNat=0 then ad else ad.map (·.add 0),m.toNat,by rw [hlen,hform],⟨Nat.le_of_eq hlen,fun _=>hz⟩,h4,.inl (hlen.trans hz)⟩
   ·have hcz:cap≠0:=by omega
    rw [if_neg hcz] at he1
    refine ⟨a',m.toNat,?_,⟨Nat.le_of_eq hlen,fun hn=>?_⟩,h4,h5⟩
    ·rw [hlen,hform,if_neg hz,←he1];simp
    ·have:=h3' hn;omega
  ·rw [hform]
   refine ⟨_,by rw [show (xs.take m.toNat).length=m.toNat by rw [K03];omega]⟩
theorem F21 (k:Nat) {x y:Operand} {α:Type} {ec bytes:Nat} {c:α→Nat→Cell} {xs ys:List α} {t e:TypeId} {s:SV} [ht:TySl P t e ec bytes] (hx:opv fr x=some (.s (.one (.full α ec c xs))))
  (hy:opv fr y=some s) (hl:IsList s α ec c ys) (hlen:xs.length+ys.length≤1073741824) (hys:0 < ys.length) (hf:(I1 k fr&&J8 k ob)=true) :
  EffV P ⟨dst,.call ⟨.builtin .append,#[x,y],#[t,t]⟩,ty,pos,af,gd⟩ fr ob (.s (.one (.buf k α ec c (xs++ys)))) fr ((k,.spare (xs++ys).length ec e)::ob):=by
 simp only [J90] at hf
 obtain ⟨hf1,hf2⟩:=hf
 obtain ⟨h4,h5,hp⟩:=Z0 hf2
 intro S G a w h
 obtain ⟨hts,hinfo,hec,hby,hzero⟩:=ht.out
 cases hi:P.info? e with
 | none=>simp [hi] at hinfo
 | some i =>
 simp [hi] at hinfo
 obtain ⟨hsz,hbytes⟩:=hinfo
 cases hz:i.zero with
 | none=>simp [hi,hz] at hzero
 | some z =>
 simp [hi,hz] at hzero
 obtain ⟨hrx,a0,hux⟩:=J5 h hx
 have hry:=Z8 h hy hl
 obtain ⟨ad,cap,vx,hux',hcapx,hlx,hvlx,honex,hvx,hrdx⟩:=W4 hrx
 rw [hux] at hux'
 injection hux' with e1 e2 e3
 subst e1
 obtain ⟨ady,capy,vy,huy,hcapy,hly,hvly,honey,hvy,hrdy⟩:=W4 hry
 obtain ⟨by',oy,hady,hry2⟩:=hrdy.resolve_left (by omega)
 have hbig:(xs.length+ys.length)*bytes≤140737488355328:=by
  have:(xs.length+ys.length)*bytes≤1073741824*4096:=Nat.mul_le_mul hlen hby
  omega
 have hmax:xs.length+ys.length≤maxLen:=by unfold maxLen;omega
 obtain ⟨gc,hgc⟩:∃gc,gc=grownCap w (xs.length+ys.length) xs.length e:=⟨_,rfl⟩
 have hge:=grownCap_ge w (xs.length+ys.length) xs.length e
 have hcm:=grownCap_le_maxLen w (xs.length+ys.length) xs.length e hmax
 rw [←hgc] at hge hcm
 have hrun:(Builtin.append_ #[t,t] ty #[a.eval x,a.eval y]).run P w=.ok (.slice (some ⟨w.heap.size,0,none⟩) (xs.length+ys.length) gc) (w.drew.alloc (.cells (vx.toArray++vy.toArray++Builtin.zeroCells z.cells (gc - (xs.length+ys.length))) e)):=by
  rw [hux,huy,hady]
  rcases hrdx with h0 | ⟨bx,ox,hax,hrx2⟩
  ·have hx0:xs=[]:=List.eq_nil_of_length_eq_zero h0
   subst hx0
   have hvx0:vx=[]:=List.eq_nil_of_length_eq_zero (by rw [hvlx];simp)
   subst hvx0
   cases a0 with
   | none =>
    have hr2:=run_append_nil (P:=P) w t ty e i z hts hi hz ⟨by',oy,none⟩ ys.length capy vy (by rw [hsz];exact hvly) (fun j v hj=>by rw [Addr.add_lit];exact (hry2 j v hj).1) hys (by omega) (by rw [hbytes];simp at hbig;omega)
    simp only [J89,Nat.zero_add] at hgc ⊢
    rw [hgc]
    simpa using hr2
   | some ab =>
    have hr2:=run_append_grow (P:=P) w t ty e i z hts hi hz ab 0 0 [] (by simp) (by simp) ⟨by',oy,none⟩ ys.length capy vy (by rw [hsz];exact hvly) (fun j v hj=>by rw [Addr.add_lit];exact (hry2 j v hj).1) (by omega) (by omega) (growslice_fits (by omega) (by rw [hbytes];simpa using hbig))
    simp only [J89] at hgc ⊢
    rw [hgc]
    simpa using hr2
  ·rw [hax]
   have hr2:=run_append_grow (P:=P) w t ty e i z hts hi hz ⟨bx,ox,none⟩ xs.length xs.length vx (by rw [hsz];exact hvlx) (fun j v hj=>by rw [Addr.add_lit];exact (hrx2 j v hj).1) ⟨by',oy,none⟩ ys.length capy vy (by rw [hsz];exact hvly) (fun j v hj=>by rw [Addr.add_lit];exact (hry2 j v hj).1) (by omega) (by omega) (growslice_fits (by omega) (by rw [hbytes];exact hbig))
   rw [hgc];exact hr2
 obtain ⟨cells,hcells⟩:∃cells,cells=vx.toArray++vy.toArray++Builtin.zeroCells z.cells (gc - (xs.length+ys.length)):=⟨_,rfl⟩
 rw [←hcells] at hrun
 have hlen2:(vx++vy).length=(xs.length+ys.length)*ec:=by rw [J86,hvlx,hvly,K14]
 have hown:(w.drew.alloc (.cells cells e)).ownsRow S.B e ec (.slice (some ⟨w.heap.size,0,none⟩) (xs.length+ys.length) gc) (xs++ys).length (vx++vy):=by
  rw [J86]
  refine ⟨hlen2,.inr ⟨w.heap.size,gc,cells,rfl,h.size,heap_alloc_new w.drew _,hge,hcm,?_,?_⟩⟩
  ·rw [hcells]
   simp only [Array.size_append,List.size_toArray,size_zeroCells,hzero,hvlx,hvly,←K14]
   congr 1
   omega
  ·rw [hcells]
   simp only [Array.toList_append,K01]
   rw [←K01,←hlen2]
   exact List.take_left
 refine J9 (w':=w.drew.alloc (.cells cells e)) (v:=.slice (some ⟨w.heap.size,0,none⟩) (xs.length+ys.length) gc) (by simp [execOp,resolve,invoke,builtin,hrun]) ?_
 have hxw:Below w.heap.size w (w.drew.alloc (.cells cells e)):=⟨rfl,rfl,rfl,by simp,fun k hk=>heap_alloc_old w.drew _ hk⟩
 have hu:∀b,blk (.slice (some ⟨w.heap.size,0,none⟩) (xs.length+ys.length) gc)=some b→w.heap.size≤b:=by intro b hb;simp [blk] at hb;omega
 have hsim:=h.new hp h5 (o:=.spare (xs++ys).length ec e) hxw hu ⟨vx++vy,hown⟩
 rw [m9 hf1,h4] at hsim
 refine ⟨_,hsim,(K7 _ _ _).symm,?_⟩
 refine v8 (c:=c) (xs:=xs++ys) hown hec (by rw [J86];omega) ?_ ?_
 ·intro g hg j zz hj hcell
  simp [blk] at hg
  subst hg
  refine ⟨hcell,fun hm=>?_⟩
  rcases hm with hm | ⟨k',o',hk',hb1,hb2⟩
  ·have:=h.m0 _ j hm;have:=h.size;omega
  ·by_cases hkk:k=k'
   ·subst hkk
    rw [D6] at hk';cases hk'
    simp only at hb2
    omega
   ·rw [B7 hkk] at hk'
    rw [A06 G _ (Ne.symm hkk)] at hb1
    have:=(h.obs k' o' hk').blk_lt _ hb1
    omega
 ·have hrd:∀b i z,F9 (Mut S ob G) w b i z→F9 (Mut S ((k,.spare (xs++ys).length ec e)::ob) (upd G k (.slice (some ⟨w.heap.size,0,none⟩) (xs.length+ys.length) gc))) (w.drew.alloc (.cells cells e)) b i z:=by
   intro b i z hr
   have:=h.rd_new (k:=k) (o:=.spare (xs++ys).length ec e) hxw hu hr
   rwa [h4] at this
  intro m hm j hj
  by_cases hlt:m < xs.length
  ·obtain ⟨zz,hz1,hz2⟩:=hvx m hlt j hj
   refine ⟨zz,?_,?_⟩
   ·rw [K09 (List.getElem?_eq_some_iff.1 hz1).1];exact hz1
   ·rw [K32 hlt];exact Cell.rep_mono hrd _ _ hz2
  ·have hm':m - xs.length < ys.length:=by simp at hm;omega
   obtain ⟨zz,hz1,hz2⟩:=hvy (m - xs.length) hm' j hj
   refine ⟨zz,?_,?_⟩
   ·have hge2:xs.length*ec≤m*ec:=K07 _ (by omega)
    rw [K10 (by rw [hvlx];omega),hvlx]
    have:m*ec+j - xs.length*ec=(m - xs.length)*ec+j:=by rw [Nat.sub_mul];omega
    rw [this];exact hz1
   ·rw [K35 (by omega)];exact Cell.rep_mono hrd _ _ hz2
theorem C13 {x:Operand} {t yt e:TypeId} {ec bytes:Nat} {s:SV} {α:Type} {c:α→Nat→Cell} {xs:List α} [ht:TySl P t e ec bytes] (hx:opv fr x=some s) (hl:IsList s α ec c xs) :
  Neu P ⟨dst,.binOp .eql t x (.const (.slice none 0 0)) yt,ty,pos,af,gd⟩ fr ob (fun s'=>∃b,s'=S6 b∧(b=true→xs=[])):=by
 intro S G a w h
 have hr:=Z8 h hx hl
 obtain ⟨ad,cap,hu,hcap,_⟩:=X2 hr
 refine J9 (v:=.bool ad.isNone) (w':=w) ?_ ⟨Below.refl _ _,S6 ad.isNone,⟨_,rfl,fun hb=>?_⟩,rfl,rfl⟩
 ·have e2:a.eval (.const (.slice none 0 0))=.slice none 0 0:=rfl
  simp only [execOp,hu,e2]
  refine O1 ?_
  simp only [Sem.run_bind]
  rw [show (eqGuard .eql t x (.const (.slice none 0 0)) (.slice ad xs.length cap) (.slice none 0 0)).run P w=.ok () w from rfl]
  simp only [Result.andThen_ok]
  show (binOp .eql t (.slice ad xs.length cap) (.slice none 0 0)).run P w=_
  simp only [binOp,Sem.run_bind,run_equal_slice_nil w t e ad xs.length cap ht.out.1,Result.andThen_ok]
  rfl
 ·cases ad with
  | none =>
   simp only [Cell.rep] at hr
   obtain ⟨a',cap',he,⟨h3,h3'⟩,h4,h5⟩:=hr
   rw [hu] at he
   injection he with e1 e2 e3
   subst e1;subst e3
   have:=h3' rfl
   exact List.eq_nil_of_length_eq_zero (by omega)
  | some _=>simp at hb
end
end Go.AL
namespace Go.AL
open Go Go.RowKit
set_option linter.unusedVariables false
abbrev Mo:=List (List Nat × Obs)
def X5:Mo→List Nat→Option Obs
 | [],_=>none
 | (D',ob)::r,D=>cond (A26 D' D) (some ob) (X5 r D)
abbrev Sv:=List (Nat × SV)
def S8:Sv→Nat→Option SV
 | [],_=>none
 | (i,s)::r,j=>cond (Nat.beq i j) (some s) (S8 r j)
abbrev Ed:=List (Nat × (List Nat × List Nat))
def o7:Ed→Nat→List Nat × List Nat
 | [],_=>([],[])
 | (i,x)::r,e=>cond (Nat.beq i e) x (o7 r e)
def u7 (ks:List Nat) (fr:Fr):Fr:=fr.filter fun p=>!(X7 ks p.1)
theorem getF_dropK {ks:List Nat}:∀{fr:Fr} {t:Nat} {s:SV},E7 (u7 ks fr) t=some s↔t∉ks∧E7 fr t=some s
 | [],t,s=>by simp [u7,E7]
 | (i,x)::r,t,s=>by
  have ih:=getF_dropK (ks:=ks) (fr:=r) (t:=t) (s:=s)
  unfold u7 at ih ⊢
  cases hh:X7 ks i
  ·rw [List.filter_cons_of_pos (by simp [hh])]
   by_cases he:i=t
   ·subst he
    rw [E4,E4]
    have:i∉ks:=fun q=>by rw [hasN_iff.2 q] at hh;cases hh
    simp [this]
   ·rw [D7 he,D7 he];exact ih
  ·rw [List.filter_cons_of_neg (by simp [hh])]
   rw [ih]
   by_cases he:i=t
   ·subst he
    have:i∈ks:=hasN_iff.1 hh
    simp [this]
   ·rw [D7 he]
def E51 (U frc:Fr):Prop:=∀t s,E7 U t=some s→E7 frc t=some s
def E52 (P:Program) (nt:Nat) (o:Oper) (U:Fr) (ks kills:List Nat) (ob ob':Obs) (s:SV):Prop :=
 ∀frc,E51 U frc→(∀k∈ks,∀t x,E7 frc t=some x→t∉kills→x.free k=true)→∀S G a w,S.nt=nt→Sim P S frc ob G a w →
  Does P o a w (fun v w'=>∃G',Sim P S (u7 kills frc) ob' G' a w'∧∀d,o.dst=some d→s.rep (F9 (Mut S ob' G') w') G' v)
def B81 (l:List Oper):Sv→Fr→Fr
 | [],fr=>fr
 | (i,s)::r,fr=>match (l[i]?).bind (·.dst) with
  | some d=>(d,s)::B81 l r fr
  | none=>B81 l r fr
def A28 (l:List Oper) (svs:Sv) (o:Oper):Bool :=
 (X4 o.op).all fun u=>(List.range l.length).all fun j=>match (l[j]?).bind (·.dst) with
  | some d=>!(Nat.beq d u)||(S8 svs j).isSome
  | none=>true
def UIn2 (l:List Oper) (svs:Sv) (fr:Fr) (o:Oper) (U:Fr):Prop :=
 ∀t s,E7 U t=some s→t∈X4 o.op∧((∃j o',l[j]?=some o'∧o'.dst=some t∧S8 svs j=some s)∨(t∉o3 l∧E7 fr t=some s))
def G63 (obT ob:Obs):Prop:=∀k o,D4 obT k=some o→D4 ob k=some o
section
variable {P:Program} {nt:Nat}
theorem E53 {l:List Oper} {fr:Fr}:∀{svs:Sv} {t:Nat} {s:SV},E7 (B81 l svs fr) t=some s→(∃j o,S8 svs j=some s∧l[j]?=some o∧o.dst=some t)∨(E7 fr t=some s∧∀j o,S8 svs j≠none→l[j]?=some o→o.dst≠some t)
 | [],t,s,h=>.inr ⟨h,fun j o hj=>absurd rfl hj⟩
 | (i,x)::r,t,s,h=>by
  unfold B81 at h
  have hlift:(∀d,(l[i]?).bind (·.dst)=some d→d≠t)→E7 (B81 l r fr) t=some s→(∃j o,S8 ((i,x)::r) j=some s∧l[j]?=some o∧o.dst=some t)∨(E7 fr t=some s∧∀j o,S8 ((i,x)::r) j≠none→l[j]?=some o→o.dst≠some t):=by
   intro hd h
   rcases E53 h with ⟨j,o,h1,h2,h3⟩ | ⟨h1,h2⟩
   ·left
    refine ⟨j,o,?_,h2,h3⟩
    have hij:i≠j:=fun e=>by
     subst e
     rw [h2] at hd
     exact hd t (by simpa using h3) rfl
    show cond (Nat.beq i j) _ _=_
    rw [M9 hij];exact h1
   ·right
    refine ⟨h1,fun j o hj ho hdo=>?_⟩
    by_cases hij:i=j
    ·subst hij
     rw [ho] at hd
     exact hd t (by simpa using hdo) rfl
    ·have hj:cond (Nat.beq i j) (some x) (S8 r j)≠none:=hj
     rw [M9 hij] at hj
     exact h2 j o hj ho hdo
  split at h
  ·rename_i d hd
   by_cases hdt:d=t
   ·subst hdt
    rw [E4] at h
    cases h
    cases ho:l[i]? with
    | none=>rw [ho] at hd;cases hd
    | some o =>
     rw [ho] at hd
     exact .inl ⟨i,o,by show cond (Nat.beq i i) _ _=_;rw [Nat.beq_refl];rfl,ho,by simpa using hd⟩
   ·rw [D7 hdt] at h
    exact hlift (fun d' hd'=>by rw [hd] at hd';cases hd';exact hdt) h
  ·rename_i hd
   exact hlift (fun d' hd'=>by rw [hd] at hd';cases hd') h
theorem D00:∀{l:List Oper} {t:Nat},t∈o3 l→∃(j:Nat) (o:Oper),l[j]?=some o∧o.dst=some t
 | [],t,h=>by simp [o3] at h
 | o::l,t,h=>by
  unfold o3 at h
  cases hd:o.dst with
  | none=>rw [hd] at h;obtain ⟨j,o',h1,h2⟩:=D00 h;exact ⟨j+1,o',by simpa using h1,h2⟩
  | some d =>
   rw [hd] at h
   rcases List.mem_cons.1 h with rfl | h
   ·exact ⟨0,o,rfl,hd⟩
   ·obtain ⟨j,o',h1,h2⟩:=D00 h;exact ⟨j+1,o',by simpa using h1,h2⟩
theorem E20 {l:List Oper} {svs:Sv} {fr:Fr} {o:Oper} (h:A28 l svs o=true):UIn2 l svs fr o (S2 (B81 l svs fr) (X4 o.op)):=by
 intro t s ht
 have hus:=u5 ht
 refine ⟨hus,?_⟩
 rcases E53 (j6 ht) with ⟨j,o',h1,h2,h3⟩ | ⟨h1,h2⟩
 ·exact .inl ⟨j,o',h2,h3,h1⟩
 ·refine .inr ⟨fun hin=>?_,h1⟩
  obtain ⟨j,o',h3,h4⟩:=D00 hin
  have:=List.all_eq_true.1 (List.all_eq_true.1 h t hus) j (List.mem_range.2 (List.getElem?_eq_some_iff.1 h3).1)
  rw [h3] at this
  simp only [Option.bind_some,h4,Nat.beq_refl,Bool.not_true,Bool.false_or] at this
  exact h2 j o' (fun e=>by rw [e] at this;cases this) h3 h4
def Task (P:Program) (nt:Nat) (l:List Oper) (fr:Fr) (svs:Sv) (E:List Nat) (ed:Ed) (i:Nat) (ob:Obs) (s:SV) (T:Obs→Prop):Prop :=
 ∃o U,l[i]?=some o∧UIn2 l svs fr o U∧((X7 E i=false∧Neu P o U ob (fun s'=>s'=s))∨(X7 E i=true∧∃ob',E52 P nt o U (o7 ed i).1 (o7 ed i).2 ob ob' s∧T ob'))
def conf2 (nt:Nat) (l:List Oper) (E:List Nat) (Ms:List (List Nat)) (ed:Ed) (tasks:List (Nat × List Nat)):Bool :=
 let ops:=l.toArray
 let n:=l.length
 (l.all fun o=>o.guard.isNone&&match o.dst with | some d=>Nat.blt d nt | none=>true) &&
 ((List.range n).all fun i=>match ops[i]? with
  | some o=>(X7 E i||o.dst.isSome)&&(((X4 o.op).all fun u=>((List.range n).all fun j=>match ops[j]? with
    | some oj=>(match oj.dst with | some d=>!(Nat.beq d u)||Bef ops i j | none=>true)
    | none=>true)&&E.all fun e=>Nat.beq e i||!(X7 (o7 ed e).2 u)||Bef ops e i) &&
   ((o.after.toList.all fun e=>!(Region.binds .any e)||Nat.blt e.on i)&&(Ms.all fun D=>!(B78 ops E i D)||tasks.any fun p=>Nat.beq p.1 i&&A26 p.2 D)))
  | none=>false) &&
 B79 (o3 l)&&desc E&&(E.all fun e=>Nat.blt e n)&&memM Ms []&&(Ms.all fun D=>E.all fun e=>!(B78 ops E e D)||memM Ms (A25 e D))
structure InvK (l:List Oper) (E:List Nat) (svs:Sv) (ed:Ed) (fr:Fr) (listed:Array Bool) (frc:Fr):Prop where
 put:∀j o d s,l[j]?=some o→listed.getD j false=true→o.dst=some d→S8 svs j=some s→(∀e∈E,listed.getD e false=true→d∉(o7 ed e).2)→E7 frc d=some s
 from':∀t s,E7 frc t=some s→(∃j o,l[j]?=some o∧listed.getD j false=true∧o.dst=some t∧S8 svs j=some s)∨E7 fr t=some s
 old:∀t s,E7 fr t=some s→t∉o3 l→(∀e∈E,listed.getD e false=true→t∉(o7 ed e).2)→E7 frc t=some s
def F54 (l:List Oper) (ops:Array Oper) (svs:Sv) (fr:Fr):Ed→Bool
 | []=>true
 | (e,ks,kills)::r=>(ks.all fun k=>((List.range ops.size).all fun j=>Nat.beq j e||Bef ops j e||match (l[j]?).bind (·.dst),S8 svs j with
   | some d,some s=>X7 kills d||s.free k
   | _,_=>true)&&fr.all fun p=>X7 kills p.1||p.2.free k)&&F54 l ops svs fr r
theorem c_core {id:Nat} {l:List Oper} {fr:Fr} {ob0:Obs} {Q:Post} (E:List Nat) (Ms:List (List Nat)) (ed:Ed) (tasks:List (Nat × List Nat)) (svs:Sv) (M:Mo) (hm:P.follows .mixedOrders=true)
  (hB:conf2 nt l E Ms ed tasks=true) (hed:∀e∈E,∃x,(e,x)∈ed∧o7 ed e=x) (hfree:F54 l l.toArray svs fr ed=true) (h0:X5 M []=some ob0)
  (ht:∀p∈tasks,∃ob s,X5 M p.2=some ob∧S8 svs p.1=some s∧Task P nt l fr svs E ed p.1 ob s (fun ob'=>∃obT,X5 M (A25 p.1 p.2)=some obT∧G63 obT ob'))
  {fr':Fr} {obE:Obs} (hobE:X5 M E=some obE) (hfr':∀t s,E7 fr' t=some s→(∀e∈E,t∉(o7 ed e).2)∧((∃j o',l[j]?=some o'∧o'.dst=some t∧S8 svs j=some s)∨(t∉o3 l∧E7 fr t=some s)))
  (hQ:Q .normal fr' obE):WpC P nt (.region id l.toArray true) fr ob0 Q:=by
 intro S G a w hn hs
 unfold conf2 at hB
 simp only [J90] at hB
 obtain ⟨⟨⟨⟨⟨⟨b1,b2⟩,b3⟩,b4⟩,b5⟩,b6⟩,b7⟩:=hB
 have hop:∀i o,l[i]?=some o→o.guard=none∧(∀d,o.dst=some d→d < nt)∧(X7 E i=true∨∃d,o.dst=some d)∧(∀u∈X4 o.op,∀j oj,l[j]?=some oj→oj.dst=some u→Bef l.toArray i j=true) ∧
   (∀u∈X4 o.op,∀e∈E,e≠i→u∈(o7 ed e).2→Bef l.toArray e i=true)∧(∀e∈o.after.toList,Region.binds .any e=true→e.on < i)∧(∀D∈Ms,B78 l.toArray E i D=true→(i,D)∈tasks):=by
  intro i o ho
  have hlt:i < l.length:=(List.getElem?_eq_some_iff.1 ho).1
  have hmem:o∈l:=K02 ho
  have q1:=List.all_eq_true.1 b1 o hmem
  have q2:=List.all_eq_true.1 b2 i (List.mem_range.2 hlt)
  simp only [List.getElem?_toArray,ho] at q2
  simp only [J90] at q1 q2
  obtain ⟨q4,q5,q6,q7⟩:=q2
  refine ⟨by simpa using q1.1,?_,?_,?_,?_,?_,?_⟩
  ·intro d hd
   have:=q1.2
   rw [hd] at this
   simpa using this
  ·rcases (K18 _ _).mp q4 with h | h
   ·exact .inl h
   ·exact .inr (Option.isSome_iff_exists.1 h)
  ·intro u hu j oj hj hd
   have hjlt:j < l.length:=(List.getElem?_eq_some_iff.1 hj).1
   have h5:=List.all_eq_true.1 q5 u hu
   simp only [J90] at h5
   have:=List.all_eq_true.1 h5.1 j (List.mem_range.2 hjlt)
   simp only [hj,hd] at this
   simpa using this
  ·intro u hu e he hei hk
   have h5:=List.all_eq_true.1 q5 u hu
   simp only [J90] at h5
   have:=List.all_eq_true.1 h5.2 e he
   rw [M9 hei,hasN_iff.2 hk] at this
   simpa using this
  ·intro e he hbe
   have:=List.all_eq_true.1 q6 e he
   rw [hbe] at this
   simpa using this
  ·intro D hD hp
   have:=List.all_eq_true.1 q7 D hD
   rw [hp] at this
   simp only [Bool.not_true,Bool.false_or] at this
   obtain ⟨p,hp1,hp2⟩:=List.any_eq_true.1 this
   simp only [J90] at hp2
   have e1:=Nat.eq_of_beq_eq_true hp2.1
   have e2:=A68 hp2.2
   obtain ⟨p1,p2⟩:=p
   simp only at e1 e2
   rw [←e1,←e2];exact hp1
 have hdst:∀(j t:Nat),(l.toArray[j]?).bind (fun o=>o.dst)=some t→t < nt:=by
  intro j t ht
  cases ho:l[j]? with
  | none=>simp [ho] at ht
  | some o=>simp [ho] at ht;exact (hop j o ho).2.1 t ht
 refine wp_region_any hm ?_
 have hxw:Below w.heap.size w { w with drawn:=w.drawn+1 }:=⟨rfl,rfl,rfl,Nat.le_refl _,fun _ _=>rfl⟩
 have key : ∀(fuel:Nat) (listed:Array Bool) (frc:Fr) (ob:Obs) (G:Gh) (a:Act) (w:World),listed.size=l.length→unl listed l.length=fuel→Closed l.toArray listed→(E.filter fun j=>listed.getD j false)∈Ms→X5 M (E.filter fun j=>listed.getD j false)=some ob→InvK l E svs ed fr listed frc→Sim P S frc ob G a w →
   wpAny P .any l.toArray (PostOf P S Q) fuel listed a w:=by
  intro fuel
  induction fuel with
  | zero =>
   intro listed frc ob G a w hsz hu hc hM hob hI hsf
   have hall:∀j,j < l.length→listed.getD j false=true:=by
    intro j hj
    unfold unl at hu
    have:=(List.countP_eq_zero.1 hu) j (List.mem_range.2 hj)
    simpa using this
   have hready:Region.ready .any l.toArray listed=[]:=by
    cases hr:Region.ready .any l.toArray listed with
    | nil=>rfl
    | cons i r =>
     exfalso
     have hi:i∈Region.ready .any l.toArray listed:=by rw [hr];exact List.mem_cons_self ..
     have h3:=P3 hi
     obtain ⟨_,o,ho,_⟩:=mem_ready.1 hi
     rw [List.getElem?_toArray] at ho
     rw [hall i (List.getElem?_eq_some_iff.1 ho).1] at h3;cases h3
   refine ⟨hready,?_⟩
   have hEl:(E.filter fun j=>listed.getD j false)=E:=by
    rw [List.filter_eq_self]
    intro e he
    exact hall e (by simpa using List.all_eq_true.1 b5 e he)
   rw [hEl,hobE] at hob
   cases hob
   refine ⟨fr',obE,G,hQ,hsf.weaken fun t s ht=>?_⟩
   obtain ⟨hk,h3⟩:=hfr' t s ht
   rcases h3 with ⟨j,o,h3,h4,h5⟩ | ⟨h3,h4⟩
   ·exact hI.put j o t s h3 (hall j (List.getElem?_eq_some_iff.1 h3).1) h4 h5 (fun e he _=>hk e he)
   ·exact hI.old t s h4 h3 (fun e he _=>hk e he)
  | succ fuel ih =>
   intro listed frc ob G a w hsz hu hc hM hob hI hsf
   refine ⟨fun h0=>?_,fun i hi=>?_⟩
   ·exfalso
    have hex:∃j,j < l.length∧listed.getD j false=false:=by
     refine Classical.byContradiction fun hno=>?_
     have:unl listed l.length=0:=by
      unfold unl
      refine List.countP_eq_zero.2 fun j hj=>?_
      have hj:=List.mem_range.1 hj
      cases hb:listed.getD j false
      ·exact absurd ⟨j,hj,hb⟩ hno
      ·simp
     omega
    have hmin:∀n,(∃j,j < n∧j < l.length∧listed.getD j false=false)→∃j,j < l.length∧listed.getD j false=false∧∀p,p < j→listed.getD p false=true:=by
     intro n
     induction n with
     | zero=>rintro ⟨j,hj,_⟩;omega
     | succ n ihn =>
      rintro ⟨j,hj,hjl,hjf⟩
      by_cases hlow:∃j',j' < n∧j' < l.length∧listed.getD j' false=false
      ·exact ihn hlow
      ·refine ⟨j,hjl,hjf,fun p hp=>?_⟩
       cases hb:listed.getD p false
       ·exact absurd ⟨p,by omega,by omega,hb⟩ hlow
       ·rfl
    obtain ⟨j,hj1,hj2⟩:=hex
    obtain ⟨j,hjl,hjf,hjp⟩:=hmin (j+1) ⟨j,by omega,hj1,hj2⟩
    have ho:l[j]?=some l[j]:=J88 hjl
    have hjr:j∈Region.ready .any l.toArray listed:=by
     refine mem_ready.2 ⟨?_,l[j],by rw [List.getElem?_toArray];exact ho,fun e he hb=>?_⟩
     ·have hsz2:j < listed.size:=by omega
      simp only [Array.getD_eq_getD_getElem?,Array.getElem?_eq_getElem hsz2] at hjf ⊢
      simpa using hjf
     ·have:=(hop j _ ho).2.2.2.2.2.1 e (Array.mem_toList_iff.2 he) hb
      exact hjp _ this
    rw [h0] at hjr;cases hjr
   ·have hiu:=P3 hi
    obtain ⟨_,o,ho,hall⟩:=mem_ready.1 hi
    rw [List.getElem?_toArray] at ho
    have hlt:i < l.length:=(List.getElem?_eq_some_iff.1 ho).1
    obtain ⟨g1,g2,g4,g5,g6,g7,g8⟩:=hop i o ho
    obtain ⟨D,hD⟩:∃D,D=E.filter fun j=>listed.getD j false:=⟨_,rfl⟩
    rw [←hD] at hM hob
    have hDl:∀e,e∈D↔e∈E∧listed.getD e false=true:=fun e=>by rw [hD,List.mem_filter]
    have hbi:∀j,Bef l.toArray i j=true→listed.getD j false=true:=fun j hj=>Y9 hc i hj (fun o' ho' e he hb=>by
     rw [List.getElem?_toArray,ho] at ho';cases ho'
     exact hall e (Array.mem_toList_iff.1 he) hb)
    have hlb:∀j,listed.getD j false=true→Bef l.toArray j i=true→False:=fun j hj hb=>by
     have:listed.getD i false=true:=Y9 hc j hb (fun o' ho' e he hbd=>hc j o' ho' hj e he hbd)
     rw [hiu] at this;cases this
    have hpo:B78 l.toArray E i D=true:=by
     unfold B78
     simp only [J90,Bool.not_eq_true',List.all_eq_true,K18]
     refine ⟨?_,fun j hj=>?_,fun j hj=>?_⟩
     ·cases hb:X7 D i
      ·rfl
      ·have:=((hDl i).1 (hasN_iff.1 hb)).2
       rw [hiu] at this;cases this
     ·cases hb:Bef l.toArray i j
      ·exact .inl rfl
      ·exact .inr (hasN_iff.2 ((hDl j).2 ⟨hj,hbi j hb⟩))
     ·cases hb:Bef l.toArray j i
      ·rfl
      ·exact (hlb j ((hDl j).1 hj).2 hb).elim
    obtain ⟨ob1,s,hob1,hsv,o1,U,ho1,hU,htask⟩:=ht (i,D) (g8 D hM hpo)
    rw [hob] at hob1;cases hob1
    rw [ho] at ho1;cases ho1
    have hext:E51 U frc:=by
     intro t x hx
     obtain ⟨hus,h3⟩:=hU t x hx
     have hnk:∀e∈E,listed.getD e false=true→t∉(o7 ed e).2:=fun e he hel hk=>by
      by_cases hei:e=i
      ·rw [hei,hiu] at hel;cases hel
      ·exact hlb e hel (g6 t hus e he hei hk)
     rcases h3 with ⟨j,oj,h3,h4,h5⟩ | ⟨h3,h4⟩
     ·exact hI.put j oj t x h3 (hbi j (g5 t hus j oj h3 h4)) h4 h5 hnk
     ·exact hI.old t x h4 h3 hnk
    have hcl2:=P2 hc hi
    have hsz2:(listed.setIfInBounds i true).size=l.length:=by simpa using hsz
    have hul:unl (listed.setIfInBounds i true) l.length=fuel:=by
     have:=G03 (by omega) hiu hlt
     omega
    have hset:∀j,(listed.setIfInBounds i true).getD j false=true↔j=i∨listed.getD j false=true:=by
     intro j
     by_cases hj:j=i
     ·subst hj
      simp only [true_or,iff_true]
      simp [show j < listed.size by omega]
     ·rw [u6 (Ne.symm hj)]
      simp [hj]
    have hinv:∀kills,(i∈E→kills=(o7 ed i).2)→(i∉E→kills=[])→InvK l E svs ed fr (listed.setIfInBounds i true) (match o.dst with | some d=>(d,s)::u7 kills frc | none=>u7 kills frc):=by
     intro kills hk1 hk2
     have hk:∀t,(∀e∈E,(listed.setIfInBounds i true).getD e false=true→t∉(o7 ed e).2)→t∉kills:=by
      intro t h
      by_cases hiE:i∈E
      ·rw [hk1 hiE];exact h i hiE ((hset i).2 (.inl rfl))
      ·rw [hk2 hiE];simp
     have hmono:∀t,(∀e∈E,(listed.setIfInBounds i true).getD e false=true→t∉(o7 ed e).2)→∀e∈E,listed.getD e false=true→t∉(o7 ed e).2:=fun t h e he hel=>h e he ((hset e).2 (.inr hel))
     cases hdo:o.dst with
     | none =>
      refine ⟨fun j oj d x h3 h4 h5 h6 h7=>?_,fun t x h3=>?_,fun t x h3 h4 h5=>?_⟩
      ·rcases (hset j).1 h4 with rfl | h4
       ·rw [ho] at h3;cases h3;rw [hdo] at h5;cases h5
       ·exact getF_dropK.2 ⟨hk d h7,hI.put j oj d x h3 h4 h5 h6 (hmono d h7)⟩
      ·rcases hI.from' t x (getF_dropK.1 h3).2 with ⟨j,oj,h4,h5,h6⟩ | h4
       ·exact .inl ⟨j,oj,h4,(hset j).2 (.inr h5),h6⟩
       ·exact .inr h4
      ·exact getF_dropK.2 ⟨hk t h5,hI.old t x h3 h4 (hmono t h5)⟩
     | some d0 =>
      refine ⟨fun j oj d x h3 h4 h5 h6 h7=>?_,fun t x h3=>?_,fun t x h3 h4 h5=>?_⟩
      ·show E7 ((d0,s)::u7 kills frc) d=some x
       by_cases hij:j=i
       ·subst hij
        rw [ho] at h3;cases h3
        rw [hdo] at h5;cases h5
        rw [E4]
        rw [hsv] at h6;exact h6
       ·have h4:=((hset j).1 h4).resolve_left hij
        have hdd:d0≠d:=fun q=>by
         subst q
         exact hij (C53 b3 h3 ho h5 hdo)
        rw [D7 hdd]
        exact getF_dropK.2 ⟨hk d h7,hI.put j oj d x h3 h4 h5 h6 (hmono d h7)⟩
      ·have h3:E7 ((d0,s)::u7 kills frc) t=some x:=h3
       by_cases hdd:d0=t
       ·subst hdd
        rw [E4] at h3;cases h3
        exact .inl ⟨i,o,ho,(hset i).2 (.inl rfl),hdo,hsv⟩
       ·rw [D7 hdd] at h3
        rcases hI.from' t x (getF_dropK.1 h3).2 with ⟨j,oj,h4,h5,h6⟩ | h4
        ·exact .inl ⟨j,oj,h4,(hset j).2 (.inr h5),h6⟩
        ·exact .inr h4
      ·show E7 ((d0,s)::u7 kills frc) t=some x
       have hdd:d0≠t:=fun q=>h4 (by rw [←q];exact B12 ho hdo)
       rw [D7 hdd]
       exact getF_dropK.2 ⟨hk t h5,hI.old t x h3 h4 (hmono t h5)⟩
    unfold wpOp
    simp only [List.getElem?_toArray,ho]
    rw [if_pos (by simp [Region.wanted,g1])]
    rcases htask with ⟨htn,hneu⟩ | ⟨htn,ob',heff,obT,hobT,hle⟩
    ·have hnE:i∉E:=fun q=>by rw [hasN_iff.2 q] at htn;cases htn
     refine .inl (N8 (hneu S G a w (hsf.weaken fun t x hx=>hext t x hx)) ?_)
     rintro v w' ⟨hxw2,s',rfl,hv⟩
     have hDe:(E.filter fun j=>(listed.setIfInBounds i true).getD j false)=D:=by
      rw [hD]
      apply List.filter_congr
      intro j hj
      have:j≠i:=fun q=>hnE (q ▸ hj)
      exact u6 (Ne.symm this)
     obtain ⟨d0,hd0⟩:=g4.resolve_left (by rw [htn];simp)
     have hi2:=hinv [] (fun q=>absurd q hnE) (fun _=>rfl)
     rw [hd0] at hi2 ⊢
     have hi2:InvK l E svs ed fr (listed.setIfInBounds i true) ((d0,s')::u7 [] frc):=hi2
     have hdk:u7 [] frc=frc:=by unfold u7;exact List.filter_eq_self.2 fun p _=>rfl
     rw [hdk] at hi2
     exact ih (listed.setIfInBounds i true) ((d0,s')::frc) ob G _ w' hsz2 hul hcl2 (by rw [hDe];exact hM) (by rw [hDe];exact hob) hi2 ((hsf.ext hxw2).put (by rw [hn];exact g2 d0 hd0) hv)
    ·have hiE:i∈E:=hasN_iff.1 htn
     have hDe:(E.filter fun j=>(listed.setIfInBounds i true).getD j false)=A25 i D:=by
      rw [hD];exact C52 (by omega) hiu b4 hiE
     have hM2:A25 i D∈Ms:=by
      have:=List.all_eq_true.1 (List.all_eq_true.1 b7 D hM) i hiE
      rw [hpo] at this
      exact C99 (by simpa using this)
     have hfr2:∀k∈(o7 ed i).1,∀t x,E7 frc t=some x→t∉(o7 ed i).2→x.free k=true:=by
      obtain ⟨x0,hx0,hx1⟩:=hed i hiE
      rw [hx1]
      have hf:∀(xs:Ed),F54 l l.toArray svs fr xs=true→(i,x0)∈xs→∀k∈x0.1,((List.range l.toArray.size).all fun j=>Nat.beq j i||Bef l.toArray j i||match (l[j]?).bind (·.dst),S8 svs j with
        | some d,some s=>X7 x0.2 d||s.free k
        | _,_=>true)=true∧(fr.all fun p=>X7 x0.2 p.1||p.2.free k)=true:=by
       intro xs
       induction xs with
       | nil=>intro _ h;simp at h
       | cons y r ihx =>
        obtain ⟨e',ks',kl'⟩:=y
        intro hok hmem
        simp only [F54,J90] at hok
        rcases List.mem_cons.1 hmem with q | q
        ·cases q
         intro k hk
         have:=List.all_eq_true.1 hok.1 k hk
         simpa only [J90] using this
        ·exact ihx hok.2 q
      intro k hk t x hx hnk
      obtain ⟨f1,f2⟩:=hf ed hfree hx0 k hk
      rcases hI.from' t x hx with ⟨j,oj,h4,h5,h6,h7⟩ | h4
      ·have:=List.all_eq_true.1 f1 j (List.mem_range.2 (by simpa using (List.getElem?_eq_some_iff.1 h4).1))
       have hji:j≠i:=fun q=>by rw [q,hiu] at h5;cases h5
       have hbf:Bef l.toArray j i=false:=by
        cases hb:Bef l.toArray j i
        ·rfl
        ·exact (hlb j h5 hb).elim
       rw [M9 hji,hbf,h4] at this
       simp only [Option.bind_some,h6,h7,Bool.false_or,K18] at this
       rcases this with q | q
       ·exact absurd (hasN_iff.1 q) hnk
       ·exact q
      ·have hmem:(t,x)∈fr:=by
        have:∀(fr:Fr),E7 fr t=some x→(t,x)∈fr:=by
         intro fr
         induction fr with
         | nil=>intro h;simp [E7] at h
         | cons y r ihf =>
          obtain ⟨q,z⟩:=y
          intro h
          by_cases hq:q=t
          ·subst hq;rw [E4] at h;cases h;exact List.mem_cons_self ..
          ·rw [D7 hq] at h;exact List.mem_cons_of_mem _ (ihf h)
        exact this fr h4
       have:=List.all_eq_true.1 f2 (t,x) hmem
       simp only [K18] at this
       rcases this with q | q
       ·exact absurd (hasN_iff.1 q) hnk
       ·exact q
     refine .inl (N8 (heff frc hext hfr2 S G a w hn hsf) ?_)
     rintro v w' ⟨G',hs2,hv⟩
     have hi2:=hinv (o7 ed i).2 (fun _=>rfl) (fun q=>absurd hiE q)
     have hs3:=hs2.weakenO hle
     refine ih (listed.setIfInBounds i true) _ obT G' _ w' hsz2 hul hcl2 (by rw [hDe];exact hM2) (by rw [hDe];exact hobT) hi2 ?_
     cases hdo:o.dst with
     | none=>exact hs3
     | some d0 =>
      have hv2:=hv d0 hdo
      have hput:=hs2.put (d:=d0) (by rw [hn];exact g2 d0 hdo) hv2
      exact hput.weakenO hle
 have hlist0:∀j,(Array.replicate l.length false).getD j false=false:=by
  intro j
  simp only [Array.getD_eq_getD_getElem?]
  rcases Nat.lt_or_ge j l.length with h' | h'
  ·simp [h']
  ·simp [h']
 have hf0:(E.filter fun j=>(Array.replicate l.length false).getD j false)=[]:=by
  rw [List.filter_eq_nil_iff];intro e _;rw [hlist0];simp
 have hu0:unl (Array.replicate l.length false) l.length=l.length:=by
  unfold unl
  have:(List.range l.length).countP (fun i=>!(Array.replicate l.length false).getD i false)=(List.range l.length).length:=by
   rw [List.countP_eq_length];intro i _;rw [hlist0];rfl
  rw [this,K36]
 have:=key l.length (Array.replicate l.length false) fr ob0 G a _ (by simp) hu0 (fun j o ho hl=>by rw [hlist0] at hl;cases hl) (by rw [hf0];exact C99 b6) (by rw [hf0];exact h0) ⟨fun j o d s _ h4 _=>(by rw [hlist0] at h4;cases h4),fun t s h3=>.inr h3,fun t s h3 _ _=>h3⟩ (hs.ext hxw)
 simpa using this
end
end Go.AL
namespace Go.AL
open Go Go.RowKit
set_option linter.unusedVariables false
section
variable {P:Program} {nt:Nat}
def B82 (P:Program) (nt:Nat) (l:List Oper) (fr:Fr) (E:List Nat) (ed:Ed) (K:Sv→Mo→Prop):List (Nat × List Nat)→Sv→Mo→Prop
 | [],svs,M=>K svs M
 | (i,D)::ts,svs,M=>∃o ob s,l[i]?=some o∧X5 M D=some ob∧A28 l svs o=true∧(S8 svs i=none∨S8 svs i=some s) ∧
   ((X7 E i=false∧Neu P o (S2 (B81 l svs fr) (X4 o.op)) ob (fun s'=>s'=s)∧B82 P nt l fr E ed K ts ((i,s)::svs) M) ∨
    (X7 E i=true∧∃ob',E52 P nt o (S2 (B81 l svs fr) (X4 o.op)) (o7 ed i).1 (o7 ed i).2 ob ob' s∧X5 M (A25 i D)=none∧B82 P nt l fr E ed K ts ((i,s)::svs) ((A25 i D,ob')::M)))
def B26 (P:Program) (nt:Nat) (l:List Oper) (fr:Fr) (E:List Nat) (ed:Ed) (svs:Sv) (M:Mo):List (Nat × List Nat)→Prop
 | []=>True
 | (i,D)::ts=>(∃o ob s,l[i]?=some o∧X5 M D=some ob∧A28 l svs o=true∧S8 svs i=some s ∧
   ((X7 E i=false∧Neu P o (S2 (B81 l svs fr) (X4 o.op)) ob (fun s'=>s'=s)) ∨
    (X7 E i=true∧∃ob' obT,E52 P nt o (S2 (B81 l svs fr) (X4 o.op)) (o7 ed i).1 (o7 ed i).2 ob ob' s∧X5 M (A25 i D)=some obT∧G63 obT ob')))∧B26 P nt l fr E ed svs M ts
def TaskOk (P:Program) (nt:Nat) (l:List Oper) (fr:Fr) (E:List Nat) (ed:Ed) (svs:Sv) (M:Mo) (p:Nat × List Nat):Prop :=
 ∃ob s,X5 M p.2=some ob∧S8 svs p.1=some s∧Task P nt l fr svs E ed p.1 ob s (fun ob'=>∃obT,X5 M (A25 p.1 p.2)=some obT∧G63 obT ob')
theorem C14 {svs:Sv} {i:Nat} {s:SV} (h:S8 svs i=none∨S8 svs i=some s) {j:Nat} {x:SV} (hj:S8 svs j=some x):S8 ((i,s)::svs) j=some x:=by
 show cond (Nat.beq i j) _ _=_
 by_cases hij:i=j
 ·subst hij
  rw [Nat.beq_refl]
  rcases h with h | h
  ·rw [h] at hj;cases hj
  ·rw [h] at hj;exact hj
 ·rw [M9 hij];exact hj
theorem E54:∀(l:List Nat),A26 l l=true
 | []=>rfl
 | a::l=>by simp [A26,Nat.beq_refl,E54 l]
theorem F55 {M:Mo} {D0:List Nat} {o0:Obs} (h:X5 M D0=none) {D:List Nat} {ob:Obs} (hD:X5 M D=some ob):X5 ((D0,o0)::M) D=some ob:=by
 show cond (A26 D0 D) _ _=_
 cases hs:A26 D0 D
 ·exact hD
 ·rw [A68 hs] at h;rw [h] at hD;cases hD
theorem UIn2.mono {l:List Oper} {svs svs':Sv} {fr:Fr} {o:Oper} {U:Fr} (h:UIn2 l svs fr o U) (hm:∀j x,S8 svs j=some x→S8 svs' j=some x):UIn2 l svs' fr o U:=fun t s ht=>by
 obtain ⟨h1,h2⟩:=h t s ht
 refine ⟨h1,?_⟩
 rcases h2 with ⟨j,o',h3,h4,h5⟩ | h2
 ·exact .inl ⟨j,o',h3,h4,hm j s h5⟩
 ·exact .inr h2
theorem E55 {l:List Oper} {fr:Fr} {E:List Nat} {ed:Ed} {K:Sv→Mo→Prop}:∀{ts:List (Nat × List Nat)} {svs:Sv} {M:Mo},B82 P nt l fr E ed K ts svs M →
  ∃svs' M',(∀j x,S8 svs j=some x→S8 svs' j=some x)∧(∀D ob,X5 M D=some ob→X5 M' D=some ob)∧K svs' M'∧∀p∈ts,TaskOk P nt l fr E ed svs' M' p
 | [],svs,M,h=>⟨svs,M,fun _ _ h=>h,fun _ _ h=>h,h,fun p hp=>by simp at hp⟩
 | (i,D)::ts,svs,M,h=>by
  obtain ⟨o,ob,s,h1,h2,h3,h4,h5⟩:=h
  have hself:S8 ((i,s)::svs) i=some s:=by show cond (Nat.beq i i) _ _=_;rw [Nat.beq_refl];rfl
  rcases h5 with ⟨h6,h7,h8⟩ | ⟨h6,ob',h7,h9,h8⟩
  ·obtain ⟨svs',M',g1,g2,g3,g4⟩:=E55 h8
   refine ⟨svs',M',fun j x hj=>g1 j x (C14 h4 hj),g2,g3,fun p hp=>?_⟩
   rcases List.mem_cons.1 hp with rfl | hp
   ·exact ⟨ob,s,g2 _ _ h2,g1 _ _ hself,o,_,h1,(E20 h3).mono (fun j x hj=>g1 j x (C14 h4 hj)),.inl ⟨h6,h7⟩⟩
   ·exact g4 p hp
  ·obtain ⟨svs',M',g1,g2,g3,g4⟩:=E55 h8
   have hM:X5 ((A25 i D,ob')::M) (A25 i D)=some ob':=by show cond (A26 _ _) _ _=_;rw [E54];rfl
   refine ⟨svs',M',fun j x hj=>g1 j x (C14 h4 hj),fun D' ob2 hD=>g2 _ _ (F55 h9 hD),g3,fun p hp=>?_⟩
   rcases List.mem_cons.1 hp with rfl | hp
   ·exact ⟨ob,s,g2 _ _ (F55 h9 h2),g1 _ _ hself,o,_,h1,(E20 h3).mono (fun j x hj=>g1 j x (C14 h4 hj)),.inr ⟨h6,ob',h7,ob',g2 _ _ hM,fun _ _ h=>h⟩⟩
   ·exact g4 p hp
theorem F56 {l:List Oper} {fr:Fr} {E:List Nat} {ed:Ed} {svs:Sv} {M:Mo}:∀{ts:List (Nat × List Nat)},B26 P nt l fr E ed svs M ts→∀p∈ts,TaskOk P nt l fr E ed svs M p
 | [],_,p,hp=>by simp at hp
 | (i,D)::ts,h,p,hp=>by
  obtain ⟨⟨o,ob,s,h1,h2,h3,h4,h5⟩,h6⟩:=h
  rcases List.mem_cons.1 hp with rfl | hp
  ·rcases h5 with ⟨g1,g2⟩ | ⟨g1,ob',obT,g2,g3,g4⟩
   ·exact ⟨ob,s,h2,h4,o,_,h1,E20 h3,.inl ⟨g1,g2⟩⟩
   ·exact ⟨ob,s,h2,h4,o,_,h1,E20 h3,.inr ⟨g1,ob',g2,obT,g3,g4⟩⟩
  ·exact F56 h6 p hp
def I11 (ed:Ed):List Nat:=ed.flatMap fun p=>p.2.2
def edOk (E:List Nat) (ed:Ed):Bool:=E.all fun e=>ed.any fun p=>Nat.beq p.1 e
theorem E56:∀{ed:Ed} {e:Nat},(ed.any fun p=>Nat.beq p.1 e)=true→(e,o7 ed e)∈ed
 | [],_,h=>by simp at h
 | (i,x)::r,e,h=>by
  by_cases hie:i=e
  ·subst hie
   have:o7 ((i,x)::r) i=x:=by show cond (Nat.beq i i) _ _=_;rw [Nat.beq_refl];rfl
   rw [this];exact List.mem_cons_self ..
  ·have h1:o7 ((i,x)::r) e=o7 r e:=by show cond (Nat.beq i e) _ _=_;rw [M9 hie];rfl
   rw [h1]
   simp only [List.any_cons,M9 hie,Bool.false_or] at h
   exact List.mem_cons_of_mem _ (E56 h)
def Fin2 (P:Program) (nt:Nat) (l:List Oper) (fr:Fr) (E:List Nat) (ed:Ed) (T2:List (Nat × List Nat)) (Q:Post) (svs:Sv) (M:Mo):Prop :=
 (F54 l l.toArray svs fr ed&&(List.range l.length).all fun j=>(S8 svs j).isSome)=true∧B26 P nt l fr E ed svs M T2∧∃obE,X5 M E=some obE∧Q .normal (u7 (I11 ed) (B81 l svs fr)) obE
theorem x6 {id:Nat} {l:List Oper} {fr:Fr} {ob0:Obs} {Q:Post} (E:List Nat) (Ms:List (List Nat)) (ed:Ed) (T1 T2:List (Nat × List Nat)) (hm:P.follows .mixedOrders=true)
  (hB:(conf2 nt l E Ms ed (T1++T2)&&edOk E ed)=true) (h:B82 P nt l fr E ed (Fin2 P nt l fr E ed T2 Q) T1 [] [([],ob0)]):WpC P nt (.region id l.toArray true) fr ob0 Q:=by
 simp only [J90] at hB
 obtain ⟨svs,M,h1,h2,⟨h3,h4,obE,h5,h6⟩,h7⟩:=E55 h
 simp only [J90] at h3
 refine c_core E Ms ed (T1++T2) svs M hm hB.1 (fun e he=>⟨o7 ed e,E56 (List.all_eq_true.1 hB.2 e he),rfl⟩) h3.1 (h2 [] ob0 rfl) (fun p hp=>?_) h5 (fun t s ht=>?_) h6
 ·rcases List.mem_append.1 hp with hp | hp
  ·exact h7 p hp
  ·exact F56 h4 p hp
 ·obtain ⟨hk,h8⟩:=getF_dropK.1 ht
  refine ⟨fun e he hin=>hk ?_,?_⟩
  ·have:=E56 (List.all_eq_true.1 hB.2 e he)
   exact List.mem_flatMap.2 ⟨_,this,hin⟩
  ·rcases E53 h8 with ⟨j,o,g1,g2,g3⟩ | ⟨g1,g2⟩
   ·exact .inl ⟨j,o,g2,g3,g1⟩
   ·refine .inr ⟨fun hin=>?_,g1⟩
    obtain ⟨j,o,g3,g4⟩:=D00 hin
    have:=List.all_eq_true.1 h3.2 j (List.mem_range.2 (List.getElem?_eq_some_iff.1 g3).1)
    exact g2 j o (fun e=>by rw [e] at this;cases this) g3 g4
theorem L1 {l:List Oper} {fr:Fr} {E:List Nat} {ed:Ed} {K:Sv→Mo→Prop} {i:Nat} {D:List Nat} {ts:List (Nat × List Nat)} {svs:Sv} {M:Mo} {o:Oper} {ob:Obs} {s:SV} (ho:l[i]?=some o) (hM:X5 M D=some ob) (hu:A28 l svs o=true)
  (hv:S8 svs i=none) (ht:X7 E i=false) (h:Neu P o (S2 (B81 l svs fr) (X4 o.op)) ob (fun s'=>s'=s)) (k:B82 P nt l fr E ed K ts ((i,s)::svs) M):B82 P nt l fr E ed K ((i,D)::ts) svs M :=
 ⟨o,ob,s,ho,hM,hu,.inl hv,.inl ⟨ht,h,k⟩⟩
theorem B83 {l:List Oper} {fr:Fr} {E:List Nat} {ed:Ed} {K:Sv→Mo→Prop} {i:Nat} {D:List Nat} {ts:List (Nat × List Nat)} {svs:Sv} {M:Mo} {o:Oper} {ob ob':Obs} {s:SV} (ho:l[i]?=some o) (hM:X5 M D=some ob) (hu:A28 l svs o=true)
  (hv:S8 svs i=none) (ht:X7 E i=true) (h:E52 P nt o (S2 (B81 l svs fr) (X4 o.op)) (o7 ed i).1 (o7 ed i).2 ob ob' s) (hn:X5 M (A25 i D)=none) (k:B82 P nt l fr E ed K ts ((i,s)::svs) ((A25 i D,ob')::M)):B82 P nt l fr E ed K ((i,D)::ts) svs M :=
 ⟨o,ob,s,ho,hM,hu,.inl hv,.inr ⟨ht,ob',h,hn,k⟩⟩
theorem w_again {l:List Oper} {fr:Fr} {E:List Nat} {ed:Ed} {K:Sv→Mo→Prop} {i:Nat} {D:List Nat} {ts:List (Nat × List Nat)} {svs:Sv} {M:Mo} {o:Oper} {ob ob':Obs} {s:SV} (ho:l[i]?=some o) (hM:X5 M D=some ob) (hu:A28 l svs o=true)
  (hv:S8 svs i=some s) (ht:X7 E i=true) (h:E52 P nt o (S2 (B81 l svs fr) (X4 o.op)) (o7 ed i).1 (o7 ed i).2 ob ob' s) (hn:X5 M (A25 i D)=none) (k:B82 P nt l fr E ed K ts ((i,s)::svs) ((A25 i D,ob')::M)):B82 P nt l fr E ed K ((i,D)::ts) svs M :=
 ⟨o,ob,s,ho,hM,hu,.inr hv,.inr ⟨ht,ob',h,hn,k⟩⟩
theorem G64 {l:List Oper} {fr:Fr} {E:List Nat} {ed:Ed} {T2:List (Nat × List Nat)} {Q:Post} {svs:Sv} {M:Mo} {obE:Obs} (h1:(F54 l l.toArray svs fr ed&&(List.range l.length).all fun j=>(S8 svs j).isSome)=true) (h2:X5 M E=some obE)
  (h3:B26 P nt l fr E ed svs M T2) (h4:Q .normal (u7 (I11 ed) (B81 l svs fr)) obE):B82 P nt l fr E ed (Fin2 P nt l fr E ed T2 Q) [] svs M:=⟨h1,h3,obE,h2,h4⟩
theorem N6 {l:List Oper} {fr:Fr} {E:List Nat} {ed:Ed} {i:Nat} {D:List Nat} {ts:List (Nat × List Nat)} {svs:Sv} {M:Mo} {o:Oper} {ob:Obs} {s:SV} (ho:l[i]?=some o) (hM:X5 M D=some ob) (hu:A28 l svs o=true)
  (hv:S8 svs i=some s) (ht:X7 E i=false) (h:Neu P o (S2 (B81 l svs fr) (X4 o.op)) ob (fun s'=>s'=s)) (k:B26 P nt l fr E ed svs M ts):B26 P nt l fr E ed svs M ((i,D)::ts) :=
 ⟨⟨o,ob,s,ho,hM,hu,hv,.inl ⟨ht,h⟩⟩,k⟩
theorem x_eff {l:List Oper} {fr:Fr} {E:List Nat} {ed:Ed} {i:Nat} {D:List Nat} {ts:List (Nat × List Nat)} {svs:Sv} {M:Mo} {o:Oper} {ob ob' obT:Obs} {s:SV} (ho:l[i]?=some o) (hM:X5 M D=some ob) (hu:A28 l svs o=true)
  (hv:S8 svs i=some s) (ht:X7 E i=true) (h:E52 P nt o (S2 (B81 l svs fr) (X4 o.op)) (o7 ed i).1 (o7 ed i).2 ob ob' s) (hT:X5 M (A25 i D)=some obT) (hle:G63 obT ob') (k:B26 P nt l fr E ed svs M ts):B26 P nt l fr E ed svs M ((i,D)::ts) :=
 ⟨⟨o,ob,s,ho,hM,hu,hv,.inr ⟨ht,ob',obT,h,hT,hle⟩⟩,k⟩
theorem G65 {l:List Oper} {fr:Fr} {E:List Nat} {ed:Ed} {svs:Sv} {M:Mo}:B26 P nt l fr E ed svs M []:=trivial
def ObIn3 (ob:Obs):List Nat→Obs→Prop
 | _,[]=>True
 | seen,(k,o)::r=>(X7 seen k=true∨D4 ob k=some o)∧ObIn3 ob (k::seen) r
theorem E57 {ob:Obs}:∀{obT:Obs} {seen:List Nat},ObIn3 ob seen obT→∀k o,k∉seen→D4 obT k=some o→D4 ob k=some o
 | [],_,_,k,o,_,hk=>by simp [D4] at hk
 | (k',o')::r,seen,⟨h1,h2⟩,k,o,hs,hk=>by
  by_cases he:k'=k
  ·subst he
   rw [D6] at hk;cases hk
   rcases h1 with h1 | h1
   ·exact absurd (hasN_iff.1 h1) hs
   ·exact h1
  ·rw [B7 he] at hk
   exact E57 h2 k o (fun q=>by
    rcases List.mem_cons.1 q with q | q
    ·exact he q.symm
    ·exact hs q) hk
theorem J16 {obT ob:Obs} (h:ObIn3 ob [] obT):G63 obT ob:=fun k o hk=>E57 h k o (by simp) hk
theorem C57 {U frc:Fr} (hU:E51 U frc) {x:Operand} {s:SV} (h:opv U x=some s):opv frc x=some s:=by
 cases x with
 | tmp t =>
  have h:A05 U t=some s:=h
  obtain ⟨h1,h2⟩:=F48 h
  show A05 frc t=some s
  unfold A05
  have:Nat.blt t 1000000=true:=by simpa using h1
  rw [this];exact hU t s h2
 | _=>exact h
theorem argsU {U frc:Fr} (hU:E51 U frc):∀{xs:List Operand} {ps:List S1},B09 U xs=some ps→B09 frc xs=some ps
 | [],ps,h=>h
 | x :: r,ps,h=>by
  unfold B09 at h ⊢
  cases hx:opv U x with
  | none=>rw [hx] at h;cases h
  | some sv =>
   rw [hx] at h
   cases sv with
   | s s0 =>
    simp only at h
    cases hr:B09 U r with
    | none=>rw [hr] at h;cases h
    | some qs =>
     rw [hr] at h
     rw [C57 hU hx]
     simp only
     rw [argsU hU hr];exact h
   | _=>cases h
theorem I12 {U:Fr} {k:Nat} {e:TypeId} {z:Value} [hz:TyZero P e z] {ty:TypeId} {pos:String} {af:Array Edge} {al:Nat} {ob:Obs} (h2:J8 k ob=true) :
  E52 P nt ⟨some al,.alloc e,ty,pos,af,none⟩ U [k] [] ob ((k,.box (z.cells.toList.map fun c=>.p (.v c)))::ob) (.s (.one (.ref k 0))):=by
 intro frc hU hfree S G a w hn hs
 obtain ⟨h4,h5,hp⟩:=Z0 h2
 refine J9 (w':=w.alloc (.cells z.cells e)) (v:=.pointer (some ⟨w.heap.size,0,none⟩)) ?_ ?_
 ·simp [execOp,Instr.alloc,newVar,newRow,R6 hz.out.1]
 ·have hxw:Below w.heap.size w (w.alloc (.cells z.cells e)):=(Below.refl _ _).alloc (Nat.le_refl _) _
  have hu:∀b,blk (.pointer (some ⟨w.heap.size,0,none⟩))=some b→w.heap.size≤b:=by intro b hb;simp [blk] at hb;omega
  have h6:=hs.new (o:=.box (z.cells.toList.map fun c=>.p (.v c))) hp h5 hxw hu ⟨w.heap.size,z.cells.toList,e,rfl,by rw [Array.toArray_toList];exact heap_alloc_new w _,j7 _ hz.out.2⟩
  rw [h4] at h6
  refine ⟨_,h6.weaken (fun t x ht=>?_),fun d _=>⟨w.heap.size,K7 _ _ _,rfl⟩⟩
  obtain ⟨_,ht⟩:=getF_dropK.1 ht
  rw [O3,ht]
  simp [SV.forget_free (hfree k (by simp) t x ht (by simp))]
theorem r_eff {U:Fr} {op:Op} {ty:TypeId} {pos:String} {af:Array Edge} {ob ob':Obs} (h:∀frc,E51 U frc→Eff P ⟨none,op,ty,pos,af,none⟩ frc ob frc ob'):E52 P nt ⟨none,op,ty,pos,af,none⟩ U [] [] ob ob' .any:=by
 intro frc hU _ S G a w hn hs
 have:=h frc hU S G a w hs
 have hdk:u7 [] frc=frc:=by unfold u7;exact List.filter_eq_self.2 fun p _=>rfl
 have imp:∀(v:Value) (w':World),(∃G',Sim P S frc ob' G' a w')→∃G',Sim P S (u7 [] frc) ob' G' a w'∧∀d,(none:Option Tmp)=some d→SV.rep (F9 (Mut S ob' G') w') G' .any v:=fun v w' ⟨G',h⟩=>⟨G',by rw [hdk];exact h,fun d hd=>by cases hd⟩
 unfold Does at this ⊢
 generalize (execOp a.eval _).run P w=r at *
 cases r with
 | ok n w' =>
  cases n<;>simp only at this ⊢<;>try exact this.elim
  case value v=>exact imp v w' this
  case skip=>exact imp undef w' this
  case enter f args=>exact this.mono fun e w'' ⟨v,he,hv⟩=>⟨v,he,imp v w'' hv⟩
 | halt x w'=>exact this
theorem r_turn {U:Fr} {k:Nat} {kills:List Nat} {o:Oper} {ob ob':Obs} {s:SV} (h:∀frc,E51 U frc→EffV P o frc ob s (Fr.forget k frc) ob'):E52 P nt o U [k] kills ob ob' s:=by
 intro frc hU hfree S G a w hn hs
 have:=h frc hU S G a w hs
 have imp:∀(v:Value) (w':World),(∃G',Sim P S (Fr.forget k frc) ob' G' a w'∧s.rep (F9 (Mut S ob' G') w') G' v)→∃G',Sim P S (u7 kills frc) ob' G' a w'∧∀d,o.dst=some d→s.rep (F9 (Mut S ob' G') w') G' v:=fun v w' ⟨G',h,hr⟩=>⟨G',h.weaken (fun t x ht=>by
  obtain ⟨hk,ht⟩:=getF_dropK.1 ht
  rw [O3,ht]
  simp [SV.forget_free (hfree k (by simp) t x ht hk)]),fun _ _=>hr⟩
 unfold Does at this ⊢
 generalize (execOp a.eval _).run P w=r at *
 cases r with
 | ok n w' =>
  cases n<;>simp only at this ⊢<;>try exact this.elim
  case value v=>exact imp v w' this
  case skip=>exact imp undef w' this
  case enter f args=>exact this.mono fun e w'' ⟨v,he,hv⟩=>⟨v,he,imp v w'' hv⟩
 | halt x w'=>exact this
theorem C35:∀{ks:List Nat} {fr:Fr} {t:Nat} {x:SV},E7 fr t=some x→(∀k∈ks,x.free k=true)→E7 (K8 ks fr) t=some x
 | [],_,_,_,h,_=>h
 | k::ks,fr,t,x,h,hf=>by
  show E7 (K8 ks (Fr.forget k fr)) t=some x
  refine C35 ?_ (fun k' hk'=>hf k' (List.mem_cons_of_mem _ hk'))
  rw [O3,h]
  simp [SV.forget_free (hf k (List.mem_cons_self ..))]
theorem I13 {f:FuncId} {xs:List Operand} {ats:Array TypeId} {d:Nat} {ty:TypeId} {pos:String} {af:Array Edge} {U:Fr} {args:List S1} {ks kills:List Nat} {ob ob':Obs} {rs:List S1}
  (hf:∀gf,Met P f args gf ob ks (fun rs' ob''=>rs'=rs∧ob''=ob')) (ha:B09 U xs=some args) (hc:xs.all K3=true):E52 P nt ⟨some d,.call ⟨.value (.func f),xs.toArray,ats⟩,ty,pos,af,none⟩ U ks kills ob ob' (resS rs):=by
 intro frc hU hfree S G a w hn h
 have hvals:=A59 h xs args (argsU hU ha) hc
 obtain ⟨gv,hgv⟩:∃gv:Nat→Value,gv=fun i=>S.sl a (i - 1000000):=⟨_,rfl⟩
 let S':Ctx:={ S with gv:=gv }
 have hhigh:High (shF frc):=fun i s hi=>(x4 frc i s hi).1
 have hfacts0:∀i s,E7 (shF frc) i=some s→s.rep (F9 (Mut S' ob G) w) G (S'.sl a i):=by
  intro i s hi
  obtain ⟨h7,h8⟩:=x4 frc i s hi
  rw [Ctx.sl_ge h7]
  show s.rep _ _ (gv i)
  have e:=congrFun hgv i
  rw [e]
  exact h.facts (i - 1000000) s h8
 have hs:Sim P S' (shF frc) ob G a w:={ h with facts:=hfacts0 }
 have hcalls:=(hf (shF frc)).2 hhigh S' G a w _ hs hvals
 have he:(execOp a.eval ⟨some d,.call ⟨.value (.func f),xs.toArray,ats⟩,ty,pos,af,none⟩).run P w=.ok (.enter f (xs.map a.eval).toArray) w:=by
  have:=W5 (P:=P) (f:=f) (args:=(xs.map a.eval).toArray) (w:=w) (hf []).1
  have hm:xs.toArray.map a.eval=(xs.map a.eval).toArray:=by simp
  simp only [execOp,resolve,Act.eval,Deferred.ofValue,Sem.run_bind,Sem.run_pure,Result.andThen_ok,invoke]
  rw [show (#[]:Array Value)++Array.map a.eval xs.toArray++#[]=(xs.map a.eval).toArray by rw [←hm];simp]
  exact this
 unfold Does
 rw [he]
 refine hcalls.mono ?_
 rintro e w' ⟨v,rs',ob'',G',rfl,⟨rfl,rfl⟩,hres,hs'⟩
 have hfacts:∀i s,E7 (K8 ks frc) i=some s→s.rep (F9 (Mut S ob'' G') w') G' (S.sl a i):=by
  intro i s hi
  have h7:=hs'.facts (i+1000000) s (by rw [A24];exact E17 hi)
  have h8:1000000≤i+1000000:=Nat.le_add_left _ _
  rw [Ctx.sl_ge h8] at h7
  have h7:s.rep (F9 (Mut S ob'' G') w') G' (gv (i+1000000)):=h7
  have e:=congrFun hgv (i+1000000)
  simp only [Nat.add_sub_cancel] at e
  rw [e] at h7
  exact h7
 have hsim:Sim P S (K8 ks frc) ob'' G' a w':={ hs' with facts:=hfacts }
 refine ⟨v,rfl,G',hsim.weaken (fun t x ht=>?_),fun _ _=>hres⟩
 obtain ⟨hk,ht⟩:=getF_dropK.1 ht
 exact C35 ht (fun k hkk=>hfree k hkk t x ht hk)
end
end Go.AL
namespace Go.AL
open Go Go.RowKit
set_option linter.unusedVariables false
section
variable {P:Program} {nt:Nat} {fr:Fr} {ob:Obs}
theorem J85 (k:Nat) (α:Type) (ec:Nat) (c:α→Nat→Cell) (e:TypeId) {kb o n m:Nat} {ts:List TC} (hb:D4 ob kb=some (.tarr n m ts)) (hts:ts[o]?=some (.p (.v (.slice none 0 0)))) (hf:(I1 k fr&&J8 k ob)=true) :
  Sees P nt fr ob fr ((kb,.tarr n m (ts.set o (.buf k α ec c [])))::(k,.spare 0 ec e)::ob):=by
 simp only [J90] at hf
 obtain ⟨h1,h2⟩:=hf
 obtain ⟨h4,h5,hp⟩:=Z0 h2
 intro S G a w hn h
 have h6:=h.new hp (o:=.spare 0 ec e) (u:=.slice none 0 0) (w1:=w) h5 (Below.refl _ _) (fun b hb=>by simp [blk] at hb) ⟨[],World.ownsRow_nil w _ _ _⟩
 rw [m9 h1,h4] at h6
 have hkb:k≠kb:=fun he=>by rw [he,hb] at h5;cases h5
 have hb':D4 ((k,Ob.spare 0 ec e)::ob) kb=some (.tarr n m ts):=by rw [B7 hkb];exact hb
 obtain ⟨b,vs,t,hg,hl,hh,hlen,ha⟩:=h6.obs kb _ hb'
 have hbk:blk (upd G k (.slice none 0 0) kb)=some b:=by rw [hg];rfl
 refine ⟨_,h6.retell hb' hbk (fun i=>⟨hbk,trivial⟩) (fun i=>⟨hbk,trivial⟩) ?_⟩
 rintro rd ⟨b',vs',t',hg',hl',hh',hlen',ha'⟩
 refine ⟨b',vs',t',hg',hl',hh',by simpa using hlen',J67 o (fun z hz=>?_) ha'⟩
 obtain ⟨z',hz1,hz2⟩:=ha'.get o _ hts
 rw [hz] at hz1;cases hz1
 rw [hz2.1]
 exact ⟨(K7 _ _ _).symm,Q5 α ec c⟩
end
end Go.AL
namespace Go.AL
open Go Go.RowKit
set_option linter.unusedVariables false
def I14 (L:Obs):List Nat:=L.map (·.1)
theorem obs_put {L cur rest:Obs} (h:ObIn cur L) (hr:∀j x,X7 (I14 L) j=false→D4 rest j=some x→D4 cur j=some x):∀j x,D4 (L++rest) j=some x→D4 cur j=some x:=by
 have key:∀(L:Obs) (j:Nat) (x:Ob),D4 (L++rest) j=some x→(D4 L j=some x)∨(X7 (I14 L) j=false∧D4 rest j=some x):=by
  intro L
  induction L with
  | nil=>intro j x hx;exact .inr ⟨rfl,hx⟩
  | cons p r ih =>
   obtain ⟨k,o⟩:=p
   intro j x hx
   have hx:D4 ((k,o)::(r++rest)) j=some x:=hx
   by_cases hk:k=j
   ·subst hk;rw [D6] at hx;left;rw [D6];exact hx
   ·rw [B7 hk] at hx
    rcases ih j x hx with h1 | ⟨h1,h2⟩
    ·left;rw [B7 hk];exact h1
    ·right
     refine ⟨?_,h2⟩
     cases hh:X7 (I14 ((k,o)::r)) j
     ·rfl
     ·rcases List.mem_cons.1 (hasN_iff.1 hh) with q | q
      ·exact absurd q.symm hk
      ·rw [show X7 (I14 r) j=true from hasN_iff.2 q] at h1;cases h1
 intro j x hx
 rcases key L j x hx with h1 | ⟨h1,h2⟩
 ·exact h.spec j x h1
 ·exact hr j x h1 h2
theorem J17 {K:List Nat} {rest:Obs}:∀j x,X7 K j=false→D4 rest j=some x→D4 rest j=some x:=fun _ _ _ h=>h
theorem J18 {K:List Nat} {T rest:Obs} {k:Nat} {o:Ob} (hk:X7 K k=true) (h:∀j x,X7 K j=false→D4 rest j=some x→D4 T j=some x):∀j x,X7 K j=false→D4 rest j=some x→D4 ((k,o)::T) j=some x:=by
 intro j x hj hx
 have:k≠j:=fun e=>by rw [e,hj] at hk;cases hk
 rw [B7 this];exact h j x hj hx
theorem obs_fgt {K:List Nat} {T ob:Obs} (k:Nat) (h:∀j x,X7 K j=false→D4 (Obs.forget k ob) j=some x→D4 T j=some x):∀j x,X7 K j=false→D4 (Obs.forget k ob) j=some x→D4 (Obs.forget k T) j=some x:=by
 intro j x hj hx
 have h1:=h j x hj hx
 rw [Q0,h1]
 have h2:=hx
 rw [←Obs.forget_idem,Q0,hx] at h2
 exact h2
theorem G66 {rest:Obs}:∀{L:Obs} {j:Nat} {x:Ob},D4 (L++rest) j=some x→D4 L j=some x∨D4 rest j=some x
 | [],j,x,hx=>.inr hx
 | (k,o)::r,j,x,hx=>by
  have hx:D4 ((k,o)::(r++rest)) j=some x:=hx
  by_cases hk:k=j
  ·subst hk;rw [D6] at hx;left;rw [D6];exact hx
  ·rw [B7 hk] at hx
   rcases G66 hx with h1 | h1
   ·left;rw [B7 hk];exact h1
   ·exact .inr h1
section
variable {P:Program} {nt:Nat} {fr gf:Fr} {ob:Obs}
theorem J78 (k:Nat) {l:Fr} {L:Obs} (hl:FrLe fr l) (hH:High gf) (ht:Tail gf fr) (hL:ObIn ob L):Sees P nt fr ob (l++Fr.forget k gf) (L++Obs.forget k ob):=by
 intro S G a w hn h
 have hget:∀k' o1,D4 (L++Obs.forget k ob) k'=some o1→∃o0,D4 ob k'=some o0∧(o1=o0∨o1=o0.forget k):=by
  intro k' o1 hk'
  rcases G66 hk' with h1 | h1
  ·exact ⟨o1,hL.spec k' o1 h1,.inl rfl⟩
  ·rw [Q0] at h1
   cases hg:D4 ob k' with
   | none=>rw [hg] at h1;cases h1
   | some o0=>rw [hg] at h1;cases h1;exact ⟨o0,rfl,.inr rfl⟩
 have hrd:∀b i z,F9 (Mut S ob G) w b i z→F9 (Mut S (L++Obs.forget k ob) G) w b i z:=by
  intro b i z hr
  refine ⟨hr.1,fun hm=>hr.2 ?_⟩
  rcases hm with hm | ⟨k',o1,hk',hb⟩
  ·exact .inl hm
  ·obtain ⟨o0,h0,rfl | rfl⟩:=hget k' o1 hk'
   ·exact .inr ⟨k',_,h0,hb⟩
   ·exact .inr ⟨k',o0,h0,Own_forget.1 hb⟩
 refine ⟨G,{ h with old:=?_,dis:=?_,obs:=?_,facts:=?_ }⟩
 ·intro k' o1 b hk' hb
  obtain ⟨o0,h0,_⟩:=hget k' o1 hk'
  exact h.old k' o0 b h0 hb
 ·intro k1 k2 o1 o2 b h1 h2 hb1 hb2
  obtain ⟨oa,ha,_⟩:=hget k1 o1 h1
  obtain ⟨ob',hb',_⟩:=hget k2 o2 h2
  exact h.dis k1 k2 oa ob' b ha hb' hb1 hb2
 ·intro k' o1 hk'
  obtain ⟨o0,h0,rfl | rfl⟩:=hget k' o1 hk'
  ·exact (h.obs k' _ h0).ext hrd (Below.refl _ _)
  ·exact ((h.obs k' o0 h0).ext hrd (Below.refl _ _)).forget (fun _ _=>rfl)
 ·intro i s hi
  rw [A23] at hi
  cases hg:E7 l i with
  | some s0 =>
   rw [hg] at hi
   have hi:some s0=some s:=hi
   cases hi
   obtain ⟨s1,h1,h2⟩:=hl.spec i _ hg
   exact h2.rep (SV.rep_mono hrd (h.facts i s1 h1))
  | none =>
   rw [hg] at hi
   have hi:E7 (Fr.forget k gf) i=some s:=hi
   rw [O3] at hi
   cases hgf:E7 gf i with
   | none=>rw [hgf] at hi;cases hi
   | some s0 =>
    rw [hgf] at hi;cases hi
    exact SV.rep_forget (fun _ _=>rfl) (SV.rep_mono hrd (h.facts i s0 (ht i s0 (hH i s0 hgf) hgf)))
end
end Go.AL
namespace Go.AL
open Go Go.RowKit
set_option linter.unusedVariables false
section
variable {P:Program} {nt:Nat} {fr:Fr} {ob:Obs} {dst:Option Tmp} {ty:TypeId} {pos:String} {af:Array Edge} {gd:Option (Nat × Bool)}
theorem Sim.retold {S:Ctx} {G:Gh} {a:Act} {w:World} (h:Sim P S fr ob G a w) {k:Nat} {o o':Ob} (hk:D4 ob k=some o) (hown:∀b i,Own (G k) o' b i→Own (G k) o b i)
  (ho:∀rd:Rd,ObOk S rd G w (G k) o→ObOk S rd G w (G k) o'):Sim P S fr ((k,o')::ob) G a w:=by
 have hget:∀k' o1,D4 ((k,o')::ob) k'=some o1→∃o0,D4 ob k'=some o0∧∀b i,Own (G k') o1 b i→Own (G k') o0 b i:=by
  intro k' o1 hk'
  by_cases hkk:k'=k
  ·subst hkk;rw [D6] at hk';cases hk';exact ⟨_,hk,hown⟩
  ·rw [B7 (Ne.symm hkk)] at hk';exact ⟨_,hk',fun _ _ ho=>ho⟩
 have hrd:∀b i z,F9 (Mut S ob G) w b i z→F9 (Mut S ((k,o')::ob) G) w b i z:=by
  intro b i z hr
  refine ⟨hr.1,fun hm=>hr.2 ?_⟩
  rcases hm with hm | ⟨k',o1,hk',hb⟩
  ·exact .inl hm
  ·obtain ⟨o0,h0,hi⟩:=hget k' o1 hk'
   exact .inr ⟨k',o0,h0,hi _ _ hb⟩
 refine { h with old:=?_,dis:=?_,obs:=?_,facts:=?_ }
 ·intro k' o1 b hk' hb
  obtain ⟨o0,h0,_⟩:=hget k' o1 hk'
  exact h.old k' o0 b h0 hb
 ·intro k1 k2 o1 o2 b h1 h2 hb1 hb2
  obtain ⟨oa,ha,_⟩:=hget k1 o1 h1
  obtain ⟨ob',hb',_⟩:=hget k2 o2 h2
  exact h.dis k1 k2 oa ob' b ha hb' hb1 hb2
 ·intro k' o1 hk'
  by_cases hkk:k'=k
  ·subst hkk;rw [D6] at hk';cases hk'
   exact ho _ ((h.obs k' _ hk).ext hrd (Below.refl _ _))
  ·rw [B7 (Ne.symm hkk)] at hk'
   exact (h.obs k' o1 hk').ext hrd (Below.refl _ _)
 ·intro i s hi
  exact SV.rep_mono hrd (h.facts i s hi)
theorem J19 (k:Nat) (α:Type) (c:α→Nat→Cell) {t e:TypeId} {ec bytes:Nat} [ht:TySl P t e ec bytes] (hecb:Nat.ble ec 100=true) (hf:(I1 k fr&&J8 k ob)=true) :
  EffV P ⟨dst,.buildSlice t 0 #[],ty,pos,af,gd⟩ fr ob (.s (.one (.mut k))) fr ((k,.grow e α ec c [])::ob):=by
 intro S G a w h
 have h0:=s5 (P:=P) (dst:=dst) (ty:=ty) (pos:=pos) (af:=af) (gd:=gd) (ht:=ht) k (α:=α) (c:=c) (ys:=[]) (parts:=#[]) (n:=0) F1 rfl rfl hecb hf S G a w h
 refine B10 h0 ?_
 rintro v w' ⟨G',hs,hv⟩
 have hk':D4 ((k,Ob.spare ([]:List α).length ec e)::ob) k=some (.spare 0 ec e):=D6 _ _ _
 obtain ⟨vs0,hown0⟩:=hs.obs k _ hk'
 refine ⟨G',((hs.retold (o':=.grow e α ec c []) hk' (fun b i ho=>⟨ho.1,by simp⟩) ?_).weakenO ?_),?_⟩
 ·rintro rd ⟨vs,hown⟩
  exact ⟨vs,hown,by simp,fun i hi=>absurd hi (by simp)⟩
 ·intro k' o' h1
  by_cases hkk:k=k'
  ·subst hkk;rw [D6] at h1 ⊢;exact h1
  ·rw [B7 hkk] at h1 ⊢;rw [B7 hkk];exact h1
 ·exact ⟨hv.1,hv.1 ▸ B75 hown0⟩
theorem Sim.grow_cell {S:Ctx} {G:Gh} {a:Act} {w:World} (h:Sim P S fr ob G a w) {k b n cap i o ec:Nat} {e:TypeId} {α:Type} {c:α→Nat→Cell} {xs:List α} {v:α} (hk:D4 ob k=some (.grow e α ec c xs)) (hg:G k=.slice (some ⟨b,0,none⟩) n cap) (hv:xs[i]?=some v) (ho:o < ec) :
  ∃z,w.cell? ⟨b,i*ec+o,none⟩=some z∧(c v o).rep (F9 (Mut S ob G) w) z:=by
 obtain ⟨vs,hown,_,hc⟩:=h.obs k _ hk
 obtain ⟨hi,rfl⟩:=List.getElem?_eq_some_iff.1 hv
 obtain ⟨z,h1,h2⟩:=hc i hi o ho
 have:=hown.cells (g:=b) (by rw [hg];rfl) (i*ec+o) z h1
 exact ⟨z,by simpa [Addr.add_lit] using this,h2⟩
theorem A29 {x:Operand} {t e:TypeId} {k i o:Nat} {α:Type} {ec:Nat} {c:α→Nat→Cell} {xs:List α} {v:α} [ht:TyOne P t] (hx:opv fr x=some (.s (.one (.mref k ec i o)))) (hk:D4 ob k=some (.grow e α ec c xs)) (hv:xs[i]?=some v)
  (ho:Nat.blt o ec=true):Neu P ⟨dst,.load t x,ty,pos,af,gd⟩ fr ob (fun s'=>s'=.s (.one (.p (c v o)))) :=
 G1 fun S G a w h=>by
  obtain ⟨b,n,cap,hg,hu⟩:=J5 h hx
  obtain ⟨z,hz1,hz2⟩:=h.grow_cell hk hg hv (by simpa using ho)
  refine ⟨z,?_,hz2⟩
  simp only [execOp,hu]
  exact O1 (by simp [Instr.loadAt,Instr.sureAddr,W0 hz1])
theorem I46 {x:Operand} {t e:TypeId} {n k i o:Nat} {α:Type} {ec:Nat} {c:α→Nat→Cell} {xs:List α} {v:α} [ht:TyAgg P t n] (hx:opv fr x=some (.s (.one (.mref k ec i o)))) (hk:D4 ob k=some (.grow e α ec c xs)) (hv:xs[i]?=some v)
  (ho:Nat.ble (o+n) ec=true):Neu P ⟨dst,.load t x,ty,pos,af,gd⟩ fr ob (fun s'=>s'=.s (.agg ((cellsOf c v o n).map .p))) :=
 G1 fun S G a w h=>by
  obtain ⟨b,m,cap,hg,hu⟩:=J5 h hx
  have hle:o+n≤ec:=by simpa using ho
  obtain ⟨vs,hl,hvs⟩:=A81 (R:=fun j z=>w.cell? ⟨b,i*ec+(o+j),none⟩=some z∧(c v (o+j)).rep (F9 (Mut S ob G) w) z) n (fun j hj=>h.grow_cell hk hg hv (by omega))
  refine ⟨.agg vs.toArray,?_,vs,rfl,?_⟩
  ·simp only [execOp,hu]
   refine O1 ?_
   simp [Instr.loadAt,Instr.sureAddr,p6 (ht:=ht) (o:=i*ec+o) hl (fun j z hz=>by rw [Nat.add_assoc];exact (hvs j z hz).1)]
  ·refine A82 (by simp [hl,N2]) fun j t z h1 h2=>?_
   rw [K15] at h1
   cases hc:(cellsOf c v o n)[j]? with
   | none=>simp [hc] at h1
   | some cc =>
    simp [hc] at h1
    obtain ⟨rfl,_⟩:=Y5 c v n o j cc hc
    subst h1
    exact (hvs j z h2).2
theorem ret4 {fn:Func} {t t' t'' t3:Tmp} {s s' s'' s3:S1} {p p' p'' p3:PV} (hr:fn.results=#[.tmp t,.tmp t',.tmp t'',.tmp t3]) (ht:A05 fr t=some (.s s)) (hp:s.pv?=some p) (ht':A05 fr t'=some (.s s')) (hp':s'.pv?=some p')
  (ht'':A05 fr t''=some (.s s'')) (hp'':s''.pv?=some p'') (ht3:A05 fr t3=some (.s s3)) (hp3:s3.pv?=some p3):RetOk P fn fr ob [p,p',p'',p3] :=
 fun S G a w h=>⟨.tuple #[a.tmps.getD t undef,a.tmps.getD t' undef,a.tmps.getD t'' undef,a.tmps.getD t3 undef],by simp [results,hr],[_,_,_,_],rfl,A83 h ht hp,A83 h ht' hp',A83 h ht'' hp'',A83 h ht3 hp3,trivial⟩
theorem rets4 {fn:Func} {t t' t'' t3:Tmp} {s s' s'' s3:S1} (hr:fn.results=#[.tmp t,.tmp t',.tmp t'',.tmp t3]) (ht:A05 fr t=some (.s s)) (ht':A05 fr t'=some (.s s')) (ht'':A05 fr t''=some (.s s'')) (ht3:A05 fr t3=some (.s s3)):RetS P fn fr ob [s,s',s'',s3] :=
 fun S G a w h=>⟨.tuple #[a.tmps.getD t undef,a.tmps.getD t' undef,a.tmps.getD t'' undef,a.tmps.getD t3 undef],by simp [results,hr],[_,_,_,_],rfl,h.slot ht,h.slot ht',h.slot ht'',h.slot ht3,trivial⟩
end
end Go.AL
namespace Go.AL
open Go Go.RowKit
set_option linter.unusedVariables false
section
variable {P:Program} {nt:Nat} {fr:Fr} {ob:Obs} {dst:Option Tmp} {ty:TypeId} {pos:String} {af:Array Edge} {gd:Option (Nat × Bool)}
theorem J20 (k:Nat) (α:Type) (c:α→Nat→Cell) {t e:TypeId} {ec bytes:Nat} [ht:TySl P t e ec bytes] (hk:D4 ob k=none) (hp:Nat.blt k 1000000=true) :
  EffV P ⟨dst,.assign (.const (.slice none 0 0)),t,pos,af,gd⟩ fr ob (.s (.one (.mut k))) (Fr.forget k fr) ((k,.grow e α ec c [])::Obs.forget k ob):=by
 intro S G a w h
 refine J9 (w':=w) (v:=.slice none 0 0) Z ?_
 have h6:=h.new (by simpa using hp) (o:=.grow e α ec c []) (u:=.slice none 0 0) (w1:=w) hk (Below.refl _ _) (fun b hb=>by simp [blk] at hb) ⟨[],World.ownsRow_nil w _ _ _,by simp,fun i hi=>absurd hi (by simp)⟩
 exact ⟨upd G k (.slice none 0 0),h6,(K7 _ _ _).symm,rfl⟩
theorem J21 (k:Nat) (α:Type) (c:α→Nat→Cell) {t e:TypeId} {ec bytes:Nat} [ht:TySl P t e ec bytes] (hecb:Nat.ble ec 100=true) (hk:D4 ob k=none) (hp:Nat.blt k 1000000=true) :
  EffV P ⟨dst,.buildSlice t 0 #[],ty,pos,af,gd⟩ fr ob (.s (.one (.mut k))) (Fr.forget k fr) ((k,.grow e α ec c [])::Obs.forget k ob):=by
 intro S G a w h
 have h0:=E34 (P:=P) (dst:=dst) (ty:=ty) (pos:=pos) (af:=af) (gd:=gd) (ht:=ht) k (α:=α) (c:=c) (ys:=[]) (parts:=#[]) (n:=0) F1 rfl rfl hecb hk (by simpa using hp) S G a w h
 refine B10 h0 ?_
 rintro v w' ⟨G',hs,hv⟩
 have hk':D4 ((k,Ob.spare ([]:List α).length ec e)::Obs.forget k ob) k=some (.spare 0 ec e):=D6 _ _ _
 obtain ⟨vs0,hown0⟩:=hs.obs k _ hk'
 refine ⟨G',((hs.retold (o':=.grow e α ec c []) hk' (fun b i ho=>⟨ho.1,by simp⟩) ?_).weakenO ?_),?_⟩
 ·rintro rd ⟨vs,hown⟩
  exact ⟨vs,hown,by simp,fun i hi=>absurd hi (by simp)⟩
 ·intro k' o' h1
  by_cases hkk:k=k'
  ·subst hkk;rw [D6] at h1 ⊢;exact h1
  ·rw [B7 hkk] at h1 ⊢;rw [B7 hkk];exact h1
 ·exact ⟨hv.1,hv.1 ▸ B75 hown0⟩
theorem tail_drop {gf:Fr} {ks:List Nat} (hk:(ks.all fun k=>Nat.blt k 1000000)=true) (h:Tail gf fr):Tail gf (u7 ks fr):=fun i s hi hg=>by
 refine getF_dropK.2 ⟨fun hin=>?_,h i s hi hg⟩
 have:=List.all_eq_true.1 hk i hin
 have:i < 1000000:=by simpa using this
 omega
end
end Go.AL
namespace Go.AL
open Go Go.RowKit
set_option linter.unusedVariables false
section
variable {P:Program} {nt:Nat} {fr:Fr} {ob:Obs} {dst:Option Tmp} {ty:TypeId} {pos:String} {af:Array Edge} {gd:Option (Nat × Bool)}
theorem Sim.freezeG {S:Ctx} {G:Gh} {a:Act} {w:World} (h:Sim P S fr ob G a w) {k:Nat} {α:Type} {ec:Nat} {c:α→Nat→Cell} {xs:List α} {e:TypeId} (hk:D4 ob k=some (.grow e α ec c xs)) (hec:0 < ec) :
  Sim P S (J66 (SV.freeze k α ec c xs) fr) (J62 (Ob.freeze k α ec c xs) (Obs.drop k ob)) G a w:=by
 have hd:=h.drop k
 obtain ⟨vs,hown,hlen,hc⟩:=h.obs k _ hk
 have hget:∀k' o,D4 (J62 (Ob.freeze k α ec c xs) (Obs.drop k ob)) k'=some o→∃o0,D4 (Obs.drop k ob) k'=some o0∧o=o0.freeze k α ec c xs:=by
  intro k' o hk'
  rw [C09] at hk'
  cases hg':D4 (Obs.drop k ob) k' with
  | none=>simp [hg'] at hk'
  | some o0=>simp [hg'] at hk';exact ⟨o0,rfl,hk'.symm⟩
 have hownf:∀(u:Value) (o:Ob) (b i:Nat),Own u (o.freeze k α ec c xs) b i↔Own u o b i:=by intro u o b i;cases o<;>simp [Own,Ob.freeze]
 have hmut:∀b i,Mut S (J62 (Ob.freeze k α ec c xs) (Obs.drop k ob)) G b i→Mut S (Obs.drop k ob) G b i:=by
  intro b i hm
  rcases hm with hm | ⟨k',o,hk',hb⟩
  ·exact .inl hm
  ·obtain ⟨o0,h0,rfl⟩:=hget k' o hk'
   exact .inr ⟨k',o0,h0,(hownf _ _ _ _).1 hb⟩
 have hrd:∀b i z,F9 (Mut S (Obs.drop k ob) G) w b i z→F9 (Mut S (J62 (Ob.freeze k α ec c xs) (Obs.drop k ob)) G) w b i z:=fun b i z hr=>⟨hr.1,fun hm=>hr.2 (hmut b i hm)⟩
 have hrd0:∀b i z,F9 (Mut S ob G) w b i z→F9 (Mut S (Obs.drop k ob) G) w b i z:=by
  intro b i z hr
  refine ⟨hr.1,fun hm=>hr.2 ?_⟩
  rcases hm with hm | ⟨k',o',hk',hb⟩
  ·exact .inl hm
  ·refine .inr ⟨k',o',?_,hb⟩
   by_cases hkk:k'=k
   ·subst hkk;rw [U8] at hk';cases hk'
   ·rwa [Q1 hkk] at hk'
 have hlist:(Cell.list α ec c xs).rep (F9 (Mut S (J62 (Ob.freeze k α ec c xs) (Obs.drop k ob)) G) w) (G k):=by
  refine v8 hown hec hlen ?_ (fun i hi j hj=>let ⟨z,h1,h2⟩:=hc i hi j hj;⟨z,h1,Cell.rep_mono (fun _ _ _ hr=>hrd _ _ _ (hrd0 _ _ _ hr)) _ _ h2⟩)
  intro g hg j z hj hcell
  refine ⟨hcell,fun hm=>?_⟩
  rcases hmut _ _ hm with hm | ⟨k',o',hk',hb,_⟩
  ·have:=h.m0 _ _ hm
   rcases h.old k _ g hk hg with h1 | h1
   ·omega
   ·exact h.m0io _ _ hm h1.1
  ·by_cases hkk:k'=k
   ·subst hkk;rw [U8] at hk';cases hk'
   ·rw [Q1 hkk] at hk'
    exact hkk (h.dis k' k o' _ g hk' hk hb hg)
 exact { hd with
  old:=fun k' o b hk'=>let ⟨o0,h0,_⟩:=hget k' o hk';hd.old k' o0 b h0
  dis:=fun k1 k2 o1 o2 b h1 h2=>let ⟨oa,ha,_⟩:=hget k1 o1 h1;let ⟨ob',hb',_⟩:=hget k2 o2 h2;hd.dis k1 k2 oa ob' b ha hb'
  obs:=fun k' o hk'=>by
   obtain ⟨o0,h0,rfl⟩:=hget k' o hk'
   have hob:=(hd.obs k' o0 h0).ext hrd (Below.refl _ _)
   cases o0 with
   | box ts=>obtain ⟨b',vs',t',h1,h2,h3⟩:=hob;exact ⟨b',vs',t',h1,h2,h3.map (TC.freeze k α ec c xs) fun _ _=>TC.rep_freeze hlist⟩
   | tbx e ts=>obtain ⟨b',vs',h1,h2,h3⟩:=hob;exact ⟨b',vs',h1,h2,h3.map (TC.freeze k α ec c xs) fun _ _=>TC.rep_freeze hlist⟩
   | tarr n ec' ts=>obtain ⟨b',vs',t',h1,hl,h2,hn,h3⟩:=hob;exact ⟨b',vs',t',h1,hl,h2,by simpa using hn,h3.map (TC.freeze k α ec c xs) fun _ _=>TC.rep_freeze hlist⟩
   | arr=>exact hob
   | spare=>exact hob
   | grow=>exact hob
   | map=>exact hob
   | growA e' α' ec' c' xs' p ts=>obtain ⟨vs,h1,h2,h3,h4,h5,h6⟩:=hob;exact ⟨vs,h1,h2,h3,by simpa using h4,h5,h6.map (TC.freeze k α ec c xs) fun _ _=>TC.rep_freeze hlist⟩
   | growT e' n' ec' ts=>obtain ⟨vs,h1,h2,h3,h4⟩:=hob;exact ⟨vs,h1,h2,by simpa using h3,h4.map (TC.freeze k α ec c xs) fun _ _=>TC.rep_freeze hlist⟩
  facts:=fun i s hi=>by
   rw [D38] at hi
   cases hg':E7 fr i with
   | none=>simp [hg'] at hi
   | some s0 =>
    simp [hg'] at hi;subst hi
    exact SV.rep_freeze hlist (SV.rep_mono hrd (hd.facts i s0 hg')) }
theorem Sees.freezeG {k:Nat} {α:Type} {ec:Nat} {c:α→Nat→Cell} {xs:List α} {e:TypeId} (hk:D4 ob k=some (.grow e α ec c xs)) (hec:Nat.blt 0 ec=true) :
  Sees P nt fr ob (J66 (SV.freeze k α ec c xs) fr) (J62 (Ob.freeze k α ec c xs) (Obs.drop k ob)):=fun S G a w hn h=>⟨G,h.freezeG hk (by simpa using hec)⟩
end
end Go.AL
namespace Go.AL
open Go Go.RowKit
set_option linter.unusedVariables false
section
variable {P:Program} {nt:Nat} {fr:Fr} {ob:Obs}
theorem Sees.fewer {ob':Obs} (ho:∀k o,D4 ob' k=some o→D4 ob k=some o):Sees P nt fr ob fr ob':=fun S G a w hn hs=>⟨G,hs.weakenO ho⟩
end
end Go.AL
namespace Go.AL
open Go Go.RowKit
set_option linter.unusedVariables false
section
variable {P:Program} {nt:Nat} {fr:Fr} {ob:Obs} {dst:Option Tmp} {ty:TypeId} {pos:String} {af:Array Edge} {gd:Option (Nat × Bool)}
end
end Go.AL
namespace Go.AL
open Go Go.RowKit
set_option linter.unusedVariables false
section
variable {P:Program} {fr:Fr} {ob:Obs}
end
end Go.AL
namespace Go.AL
open Go Go.RowKit
set_option linter.unusedVariables false
section
variable {P:Program} {nt:Nat} {fr:Fr} {ob:Obs} {dst:Option Tmp} {ty:TypeId} {pos:String} {af:Array Edge} {gd:Option (Nat × Bool)}
end
end Go.AL
namespace Go.AL
open Go Go.RowKit
set_option linter.unusedVariables false
def TC.refs:TC→List Nat
 | .buf k _ _ _ _=>[k]
 | .ref k _=>[k]
 | .mut k=>[k]
 | .mref k _ _ _=>[k]
 | .msl k _ _ _=>[k]
 | .clo _ nf nc=>nf.map (·.1)++nc.map (·.1)
 | _=>[]
def S1.refs:S1→List Nat
 | .one t=>t.refs
 | .agg ts=>ts.flatMap TC.refs
def SV.refs:SV→List Nat
 | .s x=>x.refs
 | .tup l=>l.flatMap S1.refs
 | _=>[]
def Ob.refs:Ob→List Nat
 | .box ts=>ts.flatMap TC.refs
 | .tbx _ ts=>ts.flatMap TC.refs
 | .tarr _ _ ts=>ts.flatMap TC.refs
 | .growA _ _ _ _ _ _ ts=>ts.flatMap TC.refs
 | .growT _ _ _ ts=>ts.flatMap TC.refs
 | _=>[]
def G04:Fr→List Nat
 | []=>[]
 | (_,s)::r=>s.refs++G04 r
def E58:Obs→List Nat
 | []=>[]
 | (_,o)::r=>o.refs++E58 r
theorem B84 {G G':Gh}:∀{l:List (Nat × Nat)} {us:List Value},(∀k∈l.map (·.1),G' k=G k)→All2 (D62 G) l us→All2 (D62 G') l us
 | [],[],_,_=>trivial
 | [],_::_,_,h=>h.elim
 | _::_,[],_,h=>h.elim
 | p::l,u::us,hk,h=>by
  obtain ⟨⟨b,h1,h2⟩,h3⟩:=h
  exact ⟨⟨b,by rw [hk p.1 (by simp)];exact h1,h2⟩,B84 (fun k hm=>hk k (by simp at hm ⊢;exact .inr hm)) h3⟩
theorem TC.rep_congr {rd:Rd} {G G':Gh}:∀{t:TC} {u:Value},(∀k∈t.refs,G' k=G k)→t.rep rd G u→t.rep rd G' u
 | .p _,_,_,h=>h
 | .eref _ _ _ _ _,_,_,h=>h
 | .any,_,_,h=>h
 | .full _ _ _ _,_,_,h=>h
 | .buf k _ _ _ _,_,hk,h=>⟨by rw [hk k (by simp [TC.refs])];exact h.1,h.2⟩
 | .ref k _,_,hk,h=>by simp only [TC.rep];rw [hk k (by simp [TC.refs])];exact h
 | .mut k,_,hk,h=>by simp only [TC.rep];rw [hk k (by simp [TC.refs])];exact h
 | .mref k _ _ _,_,hk,h=>by simp only [TC.rep];rw [hk k (by simp [TC.refs])];exact h
 | .msl k _ _ _,_,hk,h=>by simp only [TC.rep];rw [hk k (by simp [TC.refs])];exact h
 | .clo _ nf nc,_,hk,⟨vs,ws,h1,h2,h3⟩=>⟨vs,ws,h1,B84 (fun k hm=>hk k (by simp only [TC.refs,List.mem_append];exact .inl hm)) h2,B84 (fun k hm=>hk k (by simp only [TC.refs,List.mem_append];exact .inr hm)) h3⟩
theorem s7 {rd:Rd} {G G':Gh}:∀{ts:List TC} {vs:List Value},(∀k∈ts.flatMap TC.refs,G' k=G k)→All2 (TC.rep rd G) ts vs→All2 (TC.rep rd G') ts vs
 | [],[],_,_=>trivial
 | [],_::_,_,h=>h.elim
 | _::_,[],_,h=>h.elim
 | t::ts,v::vs,hs,h=>⟨TC.rep_congr (fun k hm=>hs k (by rw [List.flatMap_cons];exact List.mem_append.2 (.inl hm))) h.1,s7 (fun k hm=>hs k (by rw [List.flatMap_cons];exact List.mem_append.2 (.inr hm))) h.2⟩
theorem S1.rep_congr {rd:Rd} {G G':Gh}:∀{t:S1} {u:Value},(∀k∈t.refs,G' k=G k)→t.rep rd G u→t.rep rd G' u
 | .one t,u,hs,h=>TC.rep_congr (t:=t) hs h
 | .agg ts,u,hs,⟨vs,h1,h2⟩=>⟨vs,h1,s7 hs h2⟩
theorem D68 {rd:Rd} {G G':Gh}:∀{ts:List S1} {vs:List Value},(∀k∈ts.flatMap S1.refs,G' k=G k)→All2 (S1.rep rd G) ts vs→All2 (S1.rep rd G') ts vs
 | [],[],_,_=>trivial
 | [],_::_,_,h=>h.elim
 | _::_,[],_,h=>h.elim
 | t::ts,v::vs,hs,h=>⟨S1.rep_congr (fun k hm=>hs k (by rw [List.flatMap_cons];exact List.mem_append.2 (.inl hm))) h.1,D68 (fun k hm=>hs k (by rw [List.flatMap_cons];exact List.mem_append.2 (.inr hm))) h.2⟩
theorem SV.rep_congr {rd:Rd} {G G':Gh}:∀{t:SV} {u:Value},(∀k∈t.refs,G' k=G k)→t.rep rd G u→t.rep rd G' u
 | .s t,u,hs,h=>S1.rep_congr (t:=t) hs h
 | .tup ts,u,hs,⟨vs,h1,h2⟩=>⟨vs,h1,D68 hs h2⟩
 | .any,_,_,_=>trivial
 | .un,_,_,h=>h
theorem ObOk.congr {S:Ctx} {rd:Rd} {G G':Gh} {w:World} {u:Value} {o:Ob} (hs:∀k∈o.refs,G' k=G k) (h:ObOk S rd G w u o):ObOk S rd G' w u o:=by
 cases o with
 | box ts=>obtain ⟨b,vs,t,h1,h2,h3⟩:=h;exact ⟨b,vs,t,h1,h2,s7 hs h3⟩
 | tbx e ts=>obtain ⟨b,vs,h1,h2,h3⟩:=h;exact ⟨b,vs,h1,h2,s7 hs h3⟩
 | tarr n ec ts=>obtain ⟨b,vs,t,h1,h2,h3,h4,h5⟩:=h;exact ⟨b,vs,t,h1,h2,h3,h4,s7 hs h5⟩
 | growA e α ec c xs p ts=>obtain ⟨vs,h1,h2,h3,h4,h5,h6⟩:=h;exact ⟨vs,h1,h2,h3,h4,h5,s7 hs h6⟩
 | growT e n ec ts=>obtain ⟨vs,h1,h2,h3,h4⟩:=h;exact ⟨vs,h1,h2,h3,s7 hs h4⟩
 | arr α ec c xs=>exact h
 | map κ kf kvs=>exact h
 | spare n ec e=>exact h
 | grow e α ec c xs=>exact h
theorem E59:∀{fr:Fr} {i:Nat} {s:SV},E7 fr i=some s→∀k∈s.refs,k∈G04 fr
 | [],i,s,h,_,_=>by cases h
 | (j,x)::r,i,s,h,k,hm=>by
  unfold E7 at h
  unfold G04
  cases hb:Nat.beq j i
  ·rw [hb] at h;exact List.mem_append.2 (.inr (E59 h k hm))
  ·rw [hb] at h;cases h;exact List.mem_append.2 (.inl hm)
theorem C58:∀{ob:Obs} {i:Nat} {o:Ob},D4 ob i=some o→∀k∈o.refs,k∈E58 ob
 | [],i,s,h,_,_=>by cases h
 | (j,x)::r,i,s,h,k,hm=>by
  unfold D4 at h
  unfold E58
  cases hb:Nat.beq j i
  ·rw [hb] at h;exact List.mem_append.2 (.inr (C58 h k hm))
  ·rw [hb] at h;cases h;exact List.mem_append.2 (.inl hm)
theorem F57:∀{a b:Obs} {k:Nat},D4 (a++b) k=match D4 a k with | some o=>some o | none=>D4 b k
 | [],b,k=>rfl
 | (j,x)::r,b,k=>by
  show (bif Nat.beq j k then some x else D4 (r++b) k)=(match (bif Nat.beq j k then some x else D4 r k) with | some o=>some o | none=>D4 b k)
  cases Nat.beq j k
  ·exact F57 (a:=r)
  ·rfl
def newOk (rs:List S1) (ob':Obs) (fr:Fr) (ob:Obs):Bool :=
 (rs.flatMap S1.refs++E58 ob').all (fun k=>(D4 ob' k).isSome)&&(G04 fr++E58 ob).all (fun k=>(D4 ob' k).isNone)&&ob.all (fun p=>(D4 ob' p.1).isNone)
theorem G67:∀{ob:Obs} {k:Nat} {o:Ob},D4 ob k=some o→∃p∈ob,p.1=k
 | [],k,o,h=>by cases h
 | (j,x)::r,k,o,h=>by
  unfold D4 at h
  cases hb:Nat.beq j k
  ·rw [hb] at h;obtain ⟨p,h1,h2⟩:=G67 h;exact ⟨p,List.mem_cons_of_mem _ h1,h2⟩
  ·exact ⟨_,List.mem_cons_self,by simpa using hb⟩
theorem A86 {w:World} {B B':Nat} {e:TypeId} {ec n:Nat} {v:Value} {xs:List Value} (hB:B≤B') (h:w.ownsRow B' e ec v n xs):w.ownsRow B e ec v n xs :=
 ⟨h.1,h.2.imp id fun ⟨b,cap,cur,hg,hb,r⟩=>⟨b,cap,cur,hg,Nat.le_trans hB hb,r⟩⟩
theorem ObOk.low {S S':Ctx} {rd:Rd} {G:Gh} {w:World} {u:Value} {o:Ob} (hB:S.B≤S'.B) (h:ObOk S' rd G w u o):ObOk S rd G w u o:=by
 cases o with
 | box ts=>exact h
 | tbx e ts=>exact h
 | tarr n ec ts=>exact h
 | arr α ec c xs=>exact h
 | map κ kf kvs=>exact h
 | spare n ec e=>obtain ⟨vs,h1⟩:=h;exact ⟨vs,A86 hB h1⟩
 | grow e α ec c xs=>obtain ⟨vs,h1,h2⟩:=h;exact ⟨vs,A86 hB h1,h2⟩
 | growA e α ec c xs p ts=>obtain ⟨vs,h1,h2⟩:=h;exact ⟨vs,A86 hB h1,h2⟩
 | growT e n ec ts=>obtain ⟨vs,h1,h2⟩:=h;exact ⟨vs,A86 hB h1,h2⟩
section
variable {P:Program} {nt:Nat} {ops:Array Oper} {rest:List Oper} {fr:Fr} {ob:Obs} {Q:Post} {d:Nat}
theorem l_new {f:FuncId} {xs:List Operand} {ats:Array TypeId} {ty:TypeId} {pos:String} {af:Array Edge} {args:List S1} {ks:List Nat} {post:List S1→Obs→Prop}
  (hf:Met P f args [] [] ks post) (ha:B09 fr xs=some args) (hc:xs.all K3=true) (hst:(args.flatMap S1.refs).isEmpty=true) (hd:Nat.blt d nt=true)
  (kk:∀rs ob',post rs ob'→newOk rs ob' fr ob=true∧WpL P nt ops rest ((d,resS rs)::fr) (ob'++ob) Q):WpL P nt ops (⟨some d,.call ⟨.value (.func f),xs.toArray,ats⟩,ty,pos,af,none⟩::rest) fr ob Q:=by
 intro S G a w hn h
 have hvals:=A59 h xs args ha hc
 let S':Ctx:={ S with w0:=w,M0:=fun b i=>Mut S ob G b i,io:=fun _=>False }
 have hSB:S'.B=w.heap.size:=rfl
 have hhigh:High ([]:Fr):=fun i s hi=>by cases hi
 have hgrd:Grd P (fun _=>False) w:=by
  obtain ⟨wg,h1,h2,h3⟩:=h.grd
  refine ⟨wg,h1,Nat.le_trans h2 h.size,fun j hj=>?_⟩
  obtain ⟨h4,h5⟩:=h3 j hj
  exact ⟨(h.keep j (Nat.lt_of_lt_of_le hj h2) h5).trans h4,fun e=>e⟩
 have hs:Sim P S' [] [] G a w:={ nt:=h.nt,ntb:=h.ntb,defers:=h.defers,os:=rfl,tape:=rfl,output:=rfl,size:=Nat.le_refl _,keep:=fun _ _ _=>rfl,m0:=fun b i hm=>h.mut_lt hm,m0io:=fun _ _ _ e=>e,grd:=hgrd,pin:=h.pin,old:=fun _ _ _ e=>(by cases e),dis:=fun _ _ _ _ _ e=>(by cases e),obs:=fun _ _ e=>(by cases e),facts:=fun _ _ e=>(by cases e) }
 have hrd0:∀b i z,F9 (Mut S ob G) w b i z→F9 (Mut S' [] G) w b i z:=fun b i z hr=>⟨hr.1,fun hm=>hr.2 (by
  rcases hm with hm | ⟨k,o,hk,_⟩
  ·exact hm
  ·cases hk)⟩
 have hcalls:=hf.2 hhigh S' G a w _ hs (hvals.mono fun _ _=>S1.rep_mono hrd0)
 refine wpList_plain rfl fun K hK=>N8 (K:=fun v w'=>∃rs ob' G',post rs ob'∧A84 (F9 (Mut S' ob' G') w') G' rs v∧Sim P S' (K8 ks []) ob' G' a w') ?_ ?_
 ·have he:(execOp a.eval ⟨some d,.call ⟨.value (.func f),xs.toArray,ats⟩,ty,pos,af,none⟩).run P w=.ok (.enter f (xs.map a.eval).toArray) w:=by
   have:=W5 (P:=P) (f:=f) (args:=(xs.map a.eval).toArray) (w:=w) hf.1
   have hm:xs.toArray.map a.eval=(xs.map a.eval).toArray:=by simp
   simp only [execOp,resolve,Act.eval,Deferred.ofValue,Sem.run_bind,Sem.run_pure,Result.andThen_ok,invoke]
   rw [show (#[]:Array Value)++Array.map a.eval xs.toArray++#[]=(xs.map a.eval).toArray by rw [←hm];simp]
   exact this
  unfold Does
  rw [he]
  refine hcalls.mono ?_
  rintro e w' ⟨v,rs,ob',G',rfl,hpost,hres,hs'⟩
  exact ⟨v,rfl,rs,ob',G',hpost,hres,hs'⟩
 ·rintro v w' ⟨rs,ob',G',hp,hres,hs'⟩
  obtain ⟨hnew,hk3⟩:=kk rs ob' hp
  simp only [newOk,J90,List.all_eq_true,List.mem_append] at hnew
  obtain ⟨⟨n1,n2⟩,n3⟩:=hnew
  have hdj:∀{k o},D4 ob k=some o→D4 ob' k=none:=fun {k o} hk=>by
   obtain ⟨p,p1,p2⟩:=G67 hk
   have:=n3 p p1
   rw [p2] at this;simpa using this
  obtain ⟨H,hH⟩:∃H:Gh,H=fun k=>match D4 ob' k with | some _=>G' k | none=>G k:=⟨_,rfl⟩
  have hH1:∀{k},(D4 ob' k).isSome=true→H k=G' k:=fun {k} hk=>by
   rw [hH];dsimp only
   cases hg:D4 ob' k with
   | none=>rw [hg] at hk;cases hk
   | some o=>rfl
  have hH2:∀{k},(D4 ob' k).isNone=true→H k=G k:=fun {k} hk=>by
   rw [hH];dsimp only
   cases hg:D4 ob' k with
   | none=>rfl
   | some o=>rw [hg] at hk;cases hk
  have hlt:d < S.nt:=by rw [hn];simpa using hd
  have hsz:w.heap.size≤w'.heap.size:=hs'.size
  have hkeep:∀k,k < w.heap.size→w'.heap[k]?=w.heap[k]?:=fun k hk=>hs'.keep k hk (fun e=>e)
  have hold:∀k o b,D4 ob' k=some o→blk (G' k)=some b→w.heap.size≤b:=fun k o b h1 h2=>by
   rcases hs'.old k o b h1 h2 with h3 | h3
   ·exact h3
   ·exact h3.1.elim
  have hcase:∀{k o},D4 (ob'++ob) k=some o→(D4 ob' k=some o∧H k=G' k)∨(D4 ob k=some o∧H k=G k):=fun {k o} hk=>by
   rw [F57] at hk
   cases hg:D4 ob' k with
   | some o'=>rw [hg] at hk;exact .inl ⟨hk,hH1 (by rw [hg];rfl)⟩
   | none=>rw [hg] at hk;exact .inr ⟨hk,hH2 (by rw [hg];rfl)⟩
  have hrd1:∀b i z,F9 (Mut S' ob' G') w' b i z→F9 (Mut S (ob'++ob) H) w' b i z:=fun b i z hr=>⟨hr.1,fun hm=>hr.2 (by
   rcases hm with hm | ⟨k,o,hk,hb⟩
   ·exact .inl (.inl hm)
   ·rcases hcase hk with ⟨k1,e⟩ | ⟨k1,e⟩
    ·rw [e] at hb;exact .inr ⟨k,o,k1,hb⟩
    ·rw [e] at hb;exact .inl (.inr ⟨k,o,k1,hb⟩))⟩
  have hrd2:∀b i z,F9 (Mut S ob G) w b i z→F9 (Mut S (ob'++ob) H) w' b i z:=fun b i z hr=>by
   have hlt:b < w.heap.size:=World.block_lt_of_cell? w _ hr.1
   refine ⟨by rw [World.cell?_of_block (w:=w) (a:=⟨b,i,none⟩) (hkeep b hlt)];exact hr.1,fun hm=>?_⟩
   rcases hm with hm | ⟨k,o,hk,hb⟩
   ·exact hr.2 (.inl hm)
   ·rcases hcase hk with ⟨k1,e⟩ | ⟨k1,e⟩
    ·rw [e] at hb;have:=hold k o b k1 hb.1;omega
    ·rw [e] at hb;exact hr.2 (.inr ⟨k,o,k1,hb⟩)
  have hbelow:Below w.heap.size w w':=⟨hs'.os,hs'.tape,hs'.output,hsz,fun k hk=>hkeep k hk⟩
  have hsim:Sim P S fr (ob'++ob) H a w':=by
   refine { nt:=h.nt,ntb:=h.ntb,defers:=h.defers,os:=hs'.os.trans h.os,tape:=hs'.tape.trans h.tape,output:=hs'.output.trans h.output,size:=Nat.le_trans h.size hsz,keep:=fun k hk hio=>(hkeep k (Nat.lt_of_lt_of_le hk h.size)).trans (h.keep k hk hio),m0:=h.m0,m0io:=h.m0io,grd:=h.grd,pin:=fun k hk=>?_,old:=fun k o b h1 h2=>?_,dis:=fun k k' o o' b h1 h2 h3 h4=>?_,obs:=fun k o hk=>?_,facts:=fun i s hi=>?_ }
   ·cases hg:D4 ob' k with
    | some o=>rw [hH1 (by rw [hg];rfl)];exact hs'.pin k hk
    | none=>rw [hH2 (by rw [hg];rfl)];exact h.pin k hk
   ·rcases hcase h1 with ⟨k1,e⟩ | ⟨k1,e⟩
    ·rw [e] at h2;exact .inl (Nat.le_trans h.size (hold k o b k1 h2))
    ·rw [e] at h2;exact h.old k o b k1 h2
   ·rcases hcase h1 with ⟨k1,e1⟩ | ⟨k1,e1⟩<;>rcases hcase h2 with ⟨k2,e2⟩ | ⟨k2,e2⟩<;>rw [e1] at h3<;>rw [e2] at h4
    ·exact hs'.dis k k' o o' b k1 k2 h3 h4
    ·have:=hold k o b k1 h3
     have:=(h.obs k' o' k2).blk_lt _ h4
     omega
    ·have:=hold k' o' b k2 h4
     have:=(h.obs k o k1).blk_lt _ h3
     omega
    ·exact h.dis k k' o o' b k1 k2 h3 h4
   ·rcases hcase hk with ⟨k1,e⟩ | ⟨k1,e⟩
    ·rw [e]
     exact (((hs'.obs k o k1).low (S:=S) (by rw [hSB];exact h.size)).ext hrd1 (Below.refl _ _)).congr fun j hj=>hH1 (n1 j (.inr (C58 k1 j hj)))
    ·rw [e]
     exact ((h.obs k o k1).ext hrd2 hbelow).congr fun j hj=>hH2 (n2 j (.inr (C58 k1 j hj)))
   ·exact SV.rep_congr (fun j hj=>hH2 (n2 j (.inl (E59 hi j hj)))) (SV.rep_mono hrd2 (h.facts i s hi))
  have hres':(resS rs).rep (F9 (Mut S (ob'++ob) H) w') H v:=by
   refine SV.rep_congr (fun j hj=>hH1 (n1 j (.inl ?_))) (SV.rep_mono hrd1 hres)
   revert hj
   match rs with
   | []=>intro hj;cases hj
   | [r]=>intro hj;simpa [resS,SV.refs] using hj
   | r::r2::rest=>intro hj;exact hj
  exact hK _ _ (hk3 S H _ w' hn (hsim.put hlt hres'))
end
end Go.AL
namespace Go.AL
open Go Go.RowKit
set_option linter.unusedVariables false
section
variable {P:Program} {dst:Option Tmp} {ty:TypeId} {pos:String} {af:Array Edge} {gd:Option (Nat × Bool)} {fr:Fr} {ob:Obs}
end
end Go.AL
namespace Go.AL
open Go Go.RowKit
set_option linter.unusedVariables false
section
variable {P:Program} {nt:Nat} {ops:Array Oper} {rest:List Oper} {fr:Fr} {ob:Obs} {Q:Post} {d:Nat}
end
end Go.AL
namespace Go.AL
open Go Go.RowKit
set_option linter.unusedVariables false
section
variable {P:Program} {nt:Nat} {ops:Array Oper}
end
end Go.AL
namespace Go.AL
open Go Go.RowKit
set_option linter.unusedVariables false
section
variable {P:Program} {nt:Nat} {ops:Array Oper} {rest:List Oper} {fr:Fr} {ob:Obs} {K:Fr→Obs→Prop} {d:Nat}
end
end Go.AL
namespace Go.AL
open Go Go.RowKit
set_option linter.unusedVariables false
section
variable {P:Program} {nt:Nat} {fr:Fr} {ob:Obs} {dst:Option Tmp} {ty:TypeId} {pos:String} {af:Array Edge} {gd:Option (Nat × Bool)}
end
end Go.AL
namespace Go.AL
open Go Go.RowKit
set_option linter.unusedVariables false
section
variable {P:Program} {nt:Nat} {fr:Fr} {ob:Obs} {dst:Option Tmp} {ty:TypeId} {pos:String} {af:Array Edge} {gd:Option (Nat × Bool)}
theorem B85 {t e:TypeId} {ec bytes n:Nat} {parts:Array (Nat × Operand)} {α:Type} {c:α→Nat→Cell} {ys:List α} [ht:TySl P t e ec bytes] (hb:F16 fr ec c parts.toList 0 ys) (hn:parts.toList.length=n) (hbig:Nat.ble n 100000=true) (hecb:Nat.ble ec 100=true) :
  Neu P ⟨dst,.buildSlice t n parts,ty,pos,af,gd⟩ fr ob (fun s'=>s'=.s (.one (.full α ec c ys))):=by
 intro S G a w h
 have hec:=ht.out.2.2.1
 have hn':n≤100000:=by simpa using hbig
 have hec':ec≤100:=by simpa using hecb
 have hmul:n*ec≤100000*100:=Nat.mul_le_mul hn' hec'
 obtain ⟨_,_,_,_,hzero⟩:=ht.out
 cases hi:P.info? e with
 | none=>simp [hi] at hzero
 | some i =>
 cases hz:i.zero with
 | none=>simp [hi,hz] at hzero
 | some z =>
 have hzv:(P.info? e).bind (·.zero)=some z:=by simp [hi,hz]
 let cs0:Array Value:=(Array.range (n*ec)).map ((if n*ec=0 then #[] else z.cells)[· % (if n*ec=0 then #[] else z.cells).size]!)
 have hcs0:cs0.size=n*ec:=by simp [cs0]
 obtain ⟨vs,hf,hvl,hyl,hv⟩:=C07 h parts.toList 0 ys cs0 hb (by rw [hcs0,hn,Nat.zero_add])
 simp only [Nat.zero_mul,List.take_zero,K16] at hf
 have hp:(parts.map fun x=>(x.1,a.eval x.2)).toList=parts.toList.map fun x=>(x.1,a.eval x.2):=by simp
 refine J9 (w':=w.alloc (.cells vs.toArray e)) (v:=.slice (some ⟨w.heap.size,0,none⟩) n n) ?_ ?_
 ·simp only [execOp]
  refine O1 ?_
  simp only [Instr.buildSlice,Sem.run_bind,run_underlying ht.out.1,Result.andThen_ok,N1 ht.size]
  rw [if_neg (by omega)]
  by_cases hz0:n*ec=0
  ·simp only [hz0,if_true,Sem.run_bind,Sem.run_pure,Result.andThen_ok]
   have hcs1:cs0=(Array.range 0).map ((#[]:Array Value)[· % (#[]:Array Value).size]!):=by simp only [cs0,hz0,if_true]
   rw [show (parts.map fun (x:Nat × Operand)=>match x with | (i,x)=>(i,a.eval x))=parts.map fun x=>(x.1,a.eval x.2) from rfl,hp,←hcs1,hf]
   simp [newRow]
  ·simp only [if_neg hz0,Sem.run_bind,R6 hzv,Sem.run_pure,Result.andThen_ok]
   have hcs1:cs0=(Array.range (n*ec)).map (z.cells[· % z.cells.size]!):=by simp only [cs0,if_neg hz0]
   rw [show (parts.map fun (x:Nat × Operand)=>match x with | (i,x)=>(i,a.eval x))=parts.map fun x=>(x.1,a.eval x.2) from rfl,hp,←hcs1,hf]
   simp [newRow]
 ·have hxw:Below w.heap.size w (w.alloc (.cells vs.toArray e)):=(Below.refl _ _).alloc (Nat.le_refl _) _
  refine ⟨hxw,_,rfl,?_⟩
  have hyn:ys.length=n:=by rw [hyl,hn]
  refine ⟨?_,some ⟨w.heap.size,0,none⟩,by rw [hyn]⟩
  simp only [Cell.rep]
  refine ⟨some ⟨w.heap.size,0,none⟩,n,by rw [hyn],⟨by omega,by simp⟩,by omega,.inr ⟨w.heap.size,0,rfl,fun m hm j hj=>?_⟩⟩
  obtain ⟨zz,hz1,hz2⟩:=hv m hm j hj
  refine ⟨zz,⟨?_,fun hmut=>?_⟩,hm,Cell.rep_mono (fun _ _ _ hr=>A62 hxw hr) _ _ hz2⟩
  ·rw [Nat.zero_add]
   exact P1 (heap_alloc_new w _) (by simpa using hz1)
  ·have:=h.mut_lt hmut
   omega
theorem A97 {x y:Operand} {α:Type} {ec bytes:Nat} {c:α→Nat→Cell} {xs ys:List α} {t e:TypeId} {s:SV} [ht:TySl P t e ec bytes] (hx:opv fr x=some (.s (.one (.full α ec c xs))))
  (hy:opv fr y=some s) (hl:IsList s α ec c ys) (hlen:xs.length+ys.length≤1073741824) (hys:0 < ys.length) :
  Neu P ⟨dst,.call ⟨.builtin .append,#[x,y],#[t,t]⟩,ty,pos,af,gd⟩ fr ob (fun s'=>s'=C4 α ec c (xs++ys)):=by
 intro S G a w h
 obtain ⟨hts,hinfo,hec,hby,hzero⟩:=ht.out
 cases hi:P.info? e with
 | none=>simp [hi] at hinfo
 | some i =>
 simp [hi] at hinfo
 obtain ⟨hsz,hbytes⟩:=hinfo
 cases hz:i.zero with
 | none=>simp [hi,hz] at hzero
 | some z =>
 simp [hi,hz] at hzero
 obtain ⟨hrx,a0,hux⟩:=J5 h hx
 have hry:=Z8 h hy hl
 obtain ⟨ad,cap,vx,hux',hcapx,hlx,hvlx,honex,hvx,hrdx⟩:=W4 hrx
 rw [hux] at hux'
 injection hux' with e1 e2 e3
 subst e1
 obtain ⟨ady,capy,vy,huy,hcapy,hly,hvly,honey,hvy,hrdy⟩:=W4 hry
 obtain ⟨by',oy,hady,hry2⟩:=hrdy.resolve_left (by omega)
 have hbig:(xs.length+ys.length)*bytes≤140737488355328:=by
  have:(xs.length+ys.length)*bytes≤1073741824*4096:=Nat.mul_le_mul hlen hby
  omega
 have hmax:xs.length+ys.length≤maxLen:=by unfold maxLen;omega
 obtain ⟨gc,hgc⟩:∃gc,gc=grownCap w (xs.length+ys.length) xs.length e:=⟨_,rfl⟩
 have hge:=grownCap_ge w (xs.length+ys.length) xs.length e
 have hcm:=grownCap_le_maxLen w (xs.length+ys.length) xs.length e hmax
 rw [←hgc] at hge hcm
 have hrun:(Builtin.append_ #[t,t] ty #[a.eval x,a.eval y]).run P w=.ok (.slice (some ⟨w.heap.size,0,none⟩) (xs.length+ys.length) gc) (w.drew.alloc (.cells (vx.toArray++vy.toArray++Builtin.zeroCells z.cells (gc - (xs.length+ys.length))) e)):=by
  rw [hux,huy,hady]
  rcases hrdx with h0 | ⟨bx,ox,hax,hrx2⟩
  ·have hx0:xs=[]:=List.eq_nil_of_length_eq_zero h0
   subst hx0
   have hvx0:vx=[]:=List.eq_nil_of_length_eq_zero (by rw [hvlx];simp)
   subst hvx0
   cases a0 with
   | none =>
    have hr2:=run_append_nil (P:=P) w t ty e i z hts hi hz ⟨by',oy,none⟩ ys.length capy vy (by rw [hsz];exact hvly) (fun j v hj=>by rw [Addr.add_lit];exact (hry2 j v hj).1) hys (by omega) (by rw [hbytes];simp at hbig;omega)
    simp only [J89,Nat.zero_add] at hgc ⊢
    rw [hgc]
    simpa using hr2
   | some ab =>
    have hr2:=run_append_grow (P:=P) w t ty e i z hts hi hz ab 0 0 [] (by simp) (by simp) ⟨by',oy,none⟩ ys.length capy vy (by rw [hsz];exact hvly) (fun j v hj=>by rw [Addr.add_lit];exact (hry2 j v hj).1) (by omega) (by omega) (growslice_fits (by omega) (by rw [hbytes];simpa using hbig))
    simp only [J89] at hgc ⊢
    rw [hgc]
    simpa using hr2
  ·rw [hax]
   have hr2:=run_append_grow (P:=P) w t ty e i z hts hi hz ⟨bx,ox,none⟩ xs.length xs.length vx (by rw [hsz];exact hvlx) (fun j v hj=>by rw [Addr.add_lit];exact (hrx2 j v hj).1) ⟨by',oy,none⟩ ys.length capy vy (by rw [hsz];exact hvly) (fun j v hj=>by rw [Addr.add_lit];exact (hry2 j v hj).1) (by omega) (by omega) (growslice_fits (by omega) (by rw [hbytes];exact hbig))
   rw [hgc];exact hr2
 obtain ⟨cells,hcells⟩:∃cells,cells=vx.toArray++vy.toArray++Builtin.zeroCells z.cells (gc - (xs.length+ys.length)):=⟨_,rfl⟩
 rw [←hcells] at hrun
 have hxw:Below w.heap.size w (w.drew.alloc (.cells cells e)):=⟨rfl,rfl,rfl,by simp,fun k hk=>heap_alloc_old w.drew _ hk⟩
 refine J9 (w':=w.drew.alloc (.cells cells e)) (v:=.slice (some ⟨w.heap.size,0,none⟩) (xs.length+ys.length) gc) (by simp [execOp,resolve,invoke,builtin,hrun]) ⟨hxw,_,rfl,?_⟩
 show (Cell.list α ec c (xs++ys)).rep _ _
 simp only [Cell.rep]
 have hget:∀q z,(vx++vy)[q]?=some z→F9 (Mut S ob G) (w.drew.alloc (.cells cells e)) w.heap.size (0+q) z:=by
  intro q zz hq
  refine ⟨?_,fun hmut=>?_⟩
  ·rw [Nat.zero_add]
   refine P1 (heap_alloc_new w.drew _) ?_
   rw [hcells]
   have hlt:=(List.getElem?_eq_some_iff.1 hq).1
   rw [←Array.getElem?_toList]
   simp only [Array.toList_append]
   rw [K09 (by simpa using hlt)]
   exact hq
  ·have:=h.mut_lt hmut
   omega
 refine ⟨some ⟨w.heap.size,0,none⟩,gc,by rw [J86],⟨by rw [J86];omega,by simp⟩,by rw [J86];omega,.inr ⟨w.heap.size,0,rfl,fun m hm j hj=>?_⟩⟩
 by_cases hlt:m < xs.length
 ·obtain ⟨zz,hz1,hz2⟩:=hvx m hlt j hj
  refine ⟨zz,?_,hm,?_⟩
  ·have:=hget (m*ec+j) zz (by rw [K09 (List.getElem?_eq_some_iff.1 hz1).1];exact hz1)
   rwa [show 0+m*ec+j=0+(m*ec+j) by omega]
  ·have e1:(xs++ys)[m]=xs[m]:=by rw [K32 hlt]
   rw [e1]
   exact Cell.rep_mono (fun _ _ _ hr=>A62 hxw hr) _ _ hz2
 ·have hm':m - xs.length < ys.length:=by simp at hm;omega
  obtain ⟨zz,hz1,hz2⟩:=hvy (m - xs.length) hm' j hj
  refine ⟨zz,?_,hm,?_⟩
  ·have hge2:xs.length*ec≤m*ec:=K07 _ (by omega)
   have:=hget (m*ec+j) zz (by
    rw [K10 (by rw [hvlx];omega),hvlx]
    have:m*ec+j - xs.length*ec=(m - xs.length)*ec+j:=by rw [Nat.sub_mul];omega
    rw [this];exact hz1)
   rwa [show 0+m*ec+j=0+(m*ec+j) by omega]
  ·have e1:(xs++ys)[m]=ys[m - xs.length]:=by rw [K35 (by omega)]
   rw [e1]
   exact Cell.rep_mono (fun _ _ _ hr=>A62 hxw hr) _ _ hz2
theorem r_neu {U:Fr} {kills:List Nat} {o:Oper} {ob:Obs} {s:SV} (h:∀frc,E51 U frc→Neu P o frc ob (fun s'=>s'=s)):E52 P nt o U [] kills ob ob s:=by
 intro frc hU hfree S G a w hn hs
 have:=h frc hU S G a w hs
 have imp:∀(v:Value) (w':World),(Below w.heap.size w w'∧∃s',s'=s∧s'.rep (F9 (Mut S ob G) w') G v)→∃G',Sim P S (u7 kills frc) ob G' a w'∧∀d,o.dst=some d→s.rep (F9 (Mut S ob G') w') G' v:=fun v w' ⟨hb,s',he,hr⟩=>⟨G,(hs.ext hb).weaken (fun t x ht=>(getF_dropK.1 ht).2),fun _ _=>he ▸ hr⟩
 unfold Does at this ⊢
 generalize (execOp a.eval _).run P w=r at *
 cases r with
 | ok n w' =>
  cases n<;>simp only at this ⊢<;>try exact this.elim
  case value v=>exact imp v w' this
  case skip=>exact imp undef w' this
  case enter f args=>exact this.mono fun e w'' ⟨v,he,hv⟩=>⟨v,he,imp v w'' hv⟩
 | halt x w'=>exact this
end
end Go.AL
namespace Go.AL
open Go Go.RowKit
set_option linter.unusedVariables false
section
variable {P:Program} {nt:Nat} {fr gf:Fr} {ob:Obs}
theorem TC.forget_comm (k q:Nat) (t:TC):(t.forget q).forget k=(t.forget k).forget q:=by
 cases t with
 | p c=>rfl
 | buf k' α ec c xs=>cases hb:Nat.beq k' k<;>cases hq:Nat.beq k' q<;>simp [TC.forget,hb,hq]
 | ref k' o=>cases hb:Nat.beq k' k<;>cases hq:Nat.beq k' q<;>simp [TC.forget,hb,hq]
 | eref α ec c x o=>rfl
 | «mut» k'=>cases hb:Nat.beq k' k<;>cases hq:Nat.beq k' q<;>simp [TC.forget,hb,hq]
 | mref k' ec i o=>cases hb:Nat.beq k' k<;>cases hq:Nat.beq k' q<;>simp [TC.forget,hb,hq]
 | any=>rfl
 | clo f nf nc=>cases hb:(C29 k nf||C29 k nc)<;>cases hq:(C29 q nf||C29 q nc)<;>simp [TC.forget,hb,hq]
 | msl k' ec o n=>cases hb:Nat.beq k' k<;>cases hq:Nat.beq k' q<;>simp [TC.forget,hb,hq]
 | full α ec c xs=>rfl
theorem S1.forget_comm (k q:Nat) (s:S1):(s.forget q).forget k=(s.forget k).forget q:=by
 cases s with
 | one t=>simp only [S1.forget,TC.forget_comm k q t]
 | agg ts=>simp only [S1.forget,K27];congr 1;exact List.map_congr_left fun t _=>TC.forget_comm k q t
theorem SV.forget_comm (k q:Nat) (s:SV):(s.forget q).forget k=(s.forget k).forget q:=by
 cases s with
 | s x=>simp only [SV.forget,S1.forget_comm k q x]
 | tup l=>simp only [SV.forget,K27];congr 1;exact List.map_congr_left fun t _=>S1.forget_comm k q t
 | any=>rfl
 | un=>rfl
theorem Fr.forget_comm (k q:Nat) (fr:Fr):Fr.forget k (Fr.forget q fr)=Fr.forget q (Fr.forget k fr):=by
 unfold Fr.forget
 rw [K27,K27]
 exact List.map_congr_left fun p _=>by simp only [Function.comp];rw [SV.forget_comm]
end
end Go.AL
namespace Go.AL
open Go Go.RowKit
set_option linter.unusedVariables false
section
variable {P:Program} {nt:Nat} {fr:Fr} {ob:Obs}
def TC.ren (j k:Nat):TC→TC
 | .buf k' α ec c xs=>cond (Nat.beq k' j) (.buf k α ec c xs) (.buf k' α ec c xs)
 | .ref k' off=>cond (Nat.beq k' j) (.ref k off) (.ref k' off)
 | .mut k'=>cond (Nat.beq k' j) (.mut k) (.mut k')
 | .mref k' ec i off=>cond (Nat.beq k' j) (.mref k ec i off) (.mref k' ec i off)
 | .msl k' ec off n=>cond (Nat.beq k' j) (.msl k ec off n) (.msl k' ec off n)
 | t=>t
def Ob.ren (j k:Nat):Ob→Ob
 | .box ts=>.box (ts.map (TC.ren j k))
 | .tbx e ts=>.tbx e (ts.map (TC.ren j k))
 | .tarr n ec ts=>.tarr n ec (ts.map (TC.ren j k))
 | .growA e α ec c xs p ts=>.growA e α ec c xs p (ts.map (TC.ren j k))
 | .growT e n ec ts=>.growT e n ec (ts.map (TC.ren j k))
 | o=>o
theorem J68 {rd:Rd} {G:Gh} {j k:Nat} (hG:G k=G j):∀{t:TC} {u:Value},t.rep rd G u→(t.ren j k).rep rd G u
 | .p c,u,h=>h
 | .buf k' α ec c xs,u,h=>by
  simp only [TC.ren]
  cases hb:Nat.beq k' j
  ·exact h
  ·have e:k'=j:=Nat.eq_of_beq_eq_true hb
   subst e
   simp only [cond,TC.rep];rw [hG];exact h
 | .ref k' off,u,h=>by
  simp only [TC.ren]
  cases hb:Nat.beq k' j
  ·exact h
  ·have e:k'=j:=Nat.eq_of_beq_eq_true hb
   subst e
   simp only [cond,TC.rep];rw [hG];exact h
 | .eref _ _ _ _ _,u,h=>h
 | .mut k',u,h=>by
  simp only [TC.ren]
  cases hb:Nat.beq k' j
  ·exact h
  ·have e:k'=j:=Nat.eq_of_beq_eq_true hb
   subst e
   simp only [cond,TC.rep];rw [hG];exact h
 | .mref k' ec i off,u,h=>by
  simp only [TC.ren]
  cases hb:Nat.beq k' j
  ·exact h
  ·have e:k'=j:=Nat.eq_of_beq_eq_true hb
   subst e
   simp only [cond,TC.rep];rw [hG];exact h
 | .any,u,h=>h
 | .clo _ _ _,_,h=>h
 | .msl k' ec off n,u,h=>by
  simp only [TC.ren]
  cases hb:Nat.beq k' j
  ·exact h
  ·have e:k'=j:=Nat.eq_of_beq_eq_true hb
   subst e
   simp only [cond,TC.rep];rw [hG];exact h
 | .full _ _ _ _,u,h=>h
theorem ObOk.ren {S:Ctx} {rd:Rd} {G:Gh} {w:World} {u:Value} {j k:Nat} {o:Ob} (hG:G k=G j) (h:ObOk S rd G w u o):ObOk S rd G w u (o.ren j k):=by
 cases o with
 | box ts=>obtain ⟨b,vs,t,h1,h2,h3⟩:=h;exact ⟨b,vs,t,h1,h2,h3.map (TC.ren j k) fun _ _=>J68 hG⟩
 | tbx e ts=>obtain ⟨b,vs,h1,h2,h3⟩:=h;exact ⟨b,vs,h1,h2,h3.map (TC.ren j k) fun _ _=>J68 hG⟩
 | tarr n ec ts=>obtain ⟨b,vs,t,h1,hl,h2,hn,h3⟩:=h;exact ⟨b,vs,t,h1,hl,h2,by simpa using hn,h3.map (TC.ren j k) fun _ _=>J68 hG⟩
 | arr α ec c xs=>exact h
 | spare n ec e=>exact h
 | grow e α ec c xs=>exact h
 | map κ kf kvs=>exact h
 | growA e α ec c xs p ts=>obtain ⟨vs,h1,h2,h3,h4,h5,h6⟩:=h;exact ⟨vs,h1,h2,h3,by simpa using h4,h5,h6.map (TC.ren j k) fun _ _=>J68 hG⟩
 | growT e n ec ts=>obtain ⟨vs,h1,h2,h3,h4⟩:=h;exact ⟨vs,h1,h2,by simpa using h3,h4.map (TC.ren j k) fun _ _=>J68 hG⟩
end
end Go.AL
namespace Go.AL
open Go Go.RowKit
set_option linter.unusedVariables false
section
variable {P:Program} {nt:Nat} {fr gf:Fr} {ob:Obs}
theorem TC.free_forget (k:Nat) (t:TC):(t.forget k).free k=true:=by
 cases t with
 | p c=>rfl
 | buf k' α ec c xs=>cases hb:Nat.beq k' k<;>simp [TC.forget,TC.free,hb]
 | ref k' o=>cases hb:Nat.beq k' k<;>simp [TC.forget,TC.free,hb]
 | eref α ec c x o=>rfl
 | «mut» k'=>cases hb:Nat.beq k' k<;>simp [TC.forget,TC.free,hb]
 | mref k' ec i o=>cases hb:Nat.beq k' k<;>simp [TC.forget,TC.free,hb]
 | any=>rfl
 | clo f nf nc =>
  simp only [TC.forget]
  cases hb:(C29 k nf||C29 k nc)
  ·rw [Bool.or_eq_false_iff] at hb;simp [TC.free,hb.1,hb.2]
  ·rfl
 | msl k' ec o n=>cases hb:Nat.beq k' k<;>simp [TC.forget,TC.free,hb]
 | full α ec c xs=>rfl
theorem S1.free_forget (k:Nat) (s:S1):(s.forget k).free k=true:=by
 cases s with
 | one t=>exact TC.free_forget k t
 | agg ts =>
  show (ts.map (TC.forget k)).all (TC.free k)=true
  rw [List.all_map,List.all_eq_true]
  exact fun t _=>TC.free_forget k t
theorem SV.free_forget (k:Nat) (s:SV):(s.forget k).free k=true:=by
 cases s with
 | s x=>exact S1.free_forget k x
 | tup l =>
  show (l.map (S1.forget k)).all (S1.free k)=true
  rw [List.all_map,List.all_eq_true]
  exact fun t _=>S1.free_forget k t
 | any=>rfl
 | un=>rfl
end
end Go.AL
namespace Go.AL
open Go Go.RowKit
set_option linter.unusedVariables false
section
variable {P:Program}
end
end Go.AL
namespace Go.AL
open Go Go.RowKit
set_option linter.unusedVariables false
section
variable {P:Program} {nt:Nat} {fr:Fr} {ob:Obs} {dst:Option Tmp} {ty:TypeId} {pos:String} {af:Array Edge} {gd:Option (Nat × Bool)}
end
end Go.AL
namespace Go.AL
open Go Go.RowKit
set_option linter.unusedVariables false
def Cell.flat:Cell→Bool
 | .v _=>true
 | _=>false
def PV.flat:PV→Bool
 | .one c=>c.flat
 | .agg cs=>cs.all Cell.flat
section
variable {P:Program} {dst:Option Tmp} {ty:TypeId} {pos:String} {af:Array Edge} {gd:Option (Nat × Bool)} {fr fr':Fr} {ob ob':Obs}
end
end Go.AL
namespace Go.AL
open Go Go.RowKit
set_option linter.unusedVariables false
section
variable {P:Program} {nt:Nat} {fr:Fr} {ob:Obs}
end
end Go.AL
namespace Go.AL
open Go Go.RowKit
set_option linter.unusedVariables false
section
variable {P:Program} {nt:Nat} {fr:Fr} {ob:Obs}
end
end Go.AL
