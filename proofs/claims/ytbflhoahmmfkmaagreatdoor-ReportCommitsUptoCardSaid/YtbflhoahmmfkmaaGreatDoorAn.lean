/- The abstract logic, its third part. No project text. -/
import Derived.Test.YtbflhoahmmfkmaaGreatDoorAm
import Derived.Laws.StructEq
import Derived.Laws.Cover3
import Derived.MapKept
import Derived.Lib.AppendZeros
set_option linter.all false
attribute [local semireducible] Go.AL.Neu Go.AL.Eff Go.AL.EffV Go.AL.WpL Go.AL.WpC Go.AL.FnOk Go.AL.LexD Go.AL.Sees Go.AL.RetOk Go.AL.FnIo Go.AL.Met Go.AL.RetS
namespace Go.AL
open Go Go.RowKit
set_option linter.unusedVariables false
variable {P:Program}{nt:Nat}{ops:Array Oper}
def MK(P:Program)(o:Oper)(U:Fr)(ob ob':Obs):Prop :=
 ∀S G a w,Sim P S U ob G a w->Does P o a w (fun _ w'=>∃G',∀fr,Sim P S fr ob G a w->Sim P S fr ob' G' a w')
theorem mL{t:TypeId}{x y:Operand}{k o n:Nat}{D:List TC}{s:S1}{fr:Fr}{ob:Obs}{ty:TypeId}{pos:String}{af:Array Edge}{gd:Option (Nat×Bool)}(V:(P.info? t).map (·.size)=some n)(hx:opv fr x=some (.s (.one (.ref k o))))(W:C5 ob k=some (.box D))(hy:opv fr y=some (.s s))(hc:G7 y=true)
  (X:s.cells.length=n) (J:Nat.ble (o+n) D.length=true):MK P ⟨none,.store t x y,ty,pos,af,gd⟩ fr ob ((k,.box (setTs D o s.cells))::ob):=by
 intro S G a w h;obtain⟨b,Q,C⟩:=F9 h hx;obtain⟨b',A,tt,K,hh,ha⟩:=h.box W;rw[Q]at K;cases K;have hr:(SV.s s).rep (E4 (Mut S ob G) w) G (a.eval y):=M2 h hy hc;have g:=UG hr;have q:(a.eval y).cells.size=n:=by rw[<-X,g.length];simp
 have R:o+n<=D.length:=by simpa using J
 have M:∀u∈(a.eval y).cells.toList,u.oneCell'=true:=by
  intro u C;have:∀(D:List TC) (A:List Value),All2 (TC.rep (E4 (Mut S ob G) w) G) D A->∀u∈A,u.oneCell'=true:=by
   intro D;induction D with
   | nil=>intro A h u C;cases A with | nil=>cases C | cons=>exact h.elim
   | cons t D ih =>
    intro A h u C;cases A with
    | nil=>exact h.elim
    | cons v A =>
     rcases VH.1 C with rfl | C
     ·exact TC.rep_one h.1
     ·exact ih A h.2 u C
  exact this _ _ g u C
 obtain⟨w',O,T,I,N,H,B,F⟩:=b8 (P:=P) (t:=t) (w:=w) (b:=b) (o:=o) (v:=a.eval y) (by rw[V,q]) hh M (by rw[q,<-ha.length];exact R);unfold Does;have he:(execOp a.eval ⟨none,.store t x y,ty,pos,af,gd⟩).run P w=.ok .skip w':=by
  simp[execOp,C,Instr.storeAt,Instr.sureAddr,O]
 rw[he];have E:blk (G k)=some b:=by rw[Q];rfl
 refine⟨G,fun Y Z=>Z.write W E (fun i=>⟨E,trivial⟩) (fun i=>⟨E,trivial⟩) T I N (Nat.le_of_eq H.symm) (fun j _=>B j) ?_⟩;intro rd U;refine⟨b,_,tt,Q,F,?_⟩;have hd:A.drop (o+(a.eval y).cells.size)=A.drop (o+s.cells.length):=by rw[q,X]
 unfold setTs;rw[hd];exact (((ha.take o).append g).append (ha.drop _)).mono fun _ _=>TC.rep_mono U
def Told(U:Fr)(φ:Fa):Prop:=∀t s,E0 U t=some s->φ t=some s
theorem FN{o:Oper}{U:Fr}{ob ob':Obs}{φ:Fa}(h:MK P o U ob ob')(n:o.guard=none)(m:o.dst=none)(q:Told U φ):oO P nt ops o φ ob (fun r b=>r=φ/\b=ob'):=by
 refine⟨n,fun S G a w u e=>oR (h S G a w (e.sub q)) ?_⟩;rintro v w' ⟨G',g⟩;refine⟨φ,ob',G',⟨rfl,rfl⟩,?_⟩;rw[m];refine⟨g [] e.1,fun i s p=>?_⟩;have l:Sim P S [(i,s)] ob G a w:=e.sub fun j t d=>by
  by_cases k:i=j
  ·subst k;rw[D7]at d;cases d;exact p
  ·rw[C6 k]at d;simp[E0]at d
 exact (g _ l).facts i s (by rw[D7])
def AnyC(P:Program)(nt:Nat)(ops:Array Oper)(T:Nat)(U:Fr)(ob ob':Obs)(E:Array Bool->Fa->Prop):Nat->Array Bool->Fa->Prop
 | 0,listed,φ=>(T∈Region.ready .any ops listed->Told U φ)/\T∈Region.ready .any ops listed/\(∀j∈Region.ready .any ops listed,j=T)/\E listed φ
 | fuel+1,listed,φ=>(T∈Region.ready .any ops listed->Told U φ)/\(∃p,p<T/\p∈Region.ready .any ops listed)/\∀i∈Region.ready .any ops listed,i≠T ->
   ∃o s d,ops[i]?=some o/\o.dst=some d/\turns o.op=false/\YieldsN P nt ops o φ ob s/\YieldsN P nt ops o φ ob' s/\AnyC P nt ops T U ob ob' E fuel (listed.setIfInBounds i true) (V8 φ d s)
theorem AnyC.told{T:Nat}{U:Fr}{ob ob':Obs}{E:Array Bool->Fa->Prop}{c:Nat}{b:Array Bool}{φ:Fa}(h:AnyC P nt ops T U ob ob' E c b φ):T∈Region.ready .any ops b->Told U φ:=by
 cases c<;>exact h.1
theorem oT{fr:Fr}{ob:Obs}{dst:Option Tmp}{ty:TypeId}{pos:String}{af:Array Edge}{gd:Option (Nat×Bool)}{c x y:Operand}{b p:Bool}(d:opv fr c=some (O8 b))(hb:b=true)(e:opv fr x=some (O8 p)) :
  Neu P ⟨dst,.pick c x y,ty,pos,af,gd⟩ fr ob (fun f=>f=O8 p) :=
 E3 fun S G a w h=>by
  have:=F2 h d;subst hb;exact⟨.bool p,by simp[execOp,this,asBool,F2 h e],rfl,rfl⟩
theorem xK{fr:Fr}{ob:Obs}{dst:Option Tmp}{ty:TypeId}{pos:String}{af:Array Edge}{gd:Option (Nat×Bool)}{c x y:Operand}{b p:Bool}(d:opv fr c=some (O8 b))(hb:b=false)(e:opv fr y=some (O8 p)) :
  Neu P ⟨dst,.pick c x y,ty,pos,af,gd⟩ fr ob (fun f=>f=O8 p) :=
 E3 fun S G a w h=>by
  have:=F2 h d;subst hb;exact⟨.bool p,by simp[execOp,this,asBool,F2 h e],rfl,rfl⟩
inductive CK | int (k:IntKind) | str | bool
def RN(P:Program)(t:TypeId):Option CK :=
 match P.underlying t with
 | some (.int k)=>some (.int k)
 | some .string=>some .str
 | some .bool=>some .bool
 | _=>none
def sO(P:Program):Nat->List Field->List CK->Bool
 | _,[],[]=>true
 | i,f::fs,k::ks=>f.name != "_"&&(f.offset == i&&((match RN P f.type,k with | some (.int k),.int k'=>decide (k=k') | some .str,.str=>true | some .bool,.bool=>true | _,_=>false)&&sO P (i+1) fs ks))
 | _,_,_=>false
class TyCmp (P:Program) (t:TypeId) (ks:outParam (List CK)):Prop where
 out:P.underlying t=some (.struct (P.fieldsOf t))/\(sO P 0 (P.fieldsOf t).toList ks&&(!P.stoodInHeld t&&!P.eqGuardType P.depth t))=true
def TF:CK->Value->Bool
 | .int k,.int k' _=>decide (k=k')
 | .str,.string _=>true
 | .bool,.bool _=>true
 | _,_=>false
def TA:Value->Value->Bool
 | .int _ a,.int _ b=>a == b
 | .string a,.string b=>a.toList == b.toList
 | .bool a,.bool b=>a == b
 | _,_=>false
def nL:List CK->List Value->Bool
 | [],[]=>true
 | k::ks,v::vs=>TF k v&&nL ks vs
 | _,_=>false
def uS:List Value->List Value->Bool
 | u::us,v::vs=>TA u v&&uS us vs
 | _,_=>true
theorem jS{P:Program}(d:Nat)(a b:List Value):∀(l:List Field) (j:List CK) (i:Nat),sO P i l j=true->i+j.length=a.length->i+j.length=b.length->nL j (a.drop i)=true->nL j (b.drop i)=true ->
  ∀w:World,(Op.eqFields (d+1) a.toArray b.toArray l).run P w=.ok (uS (a.drop i) (b.drop i)) w
 | [],[],i,_,h1,h2,_,_,w=>by
  rw[WU (by simp at h1;omega)];simp[Op.eqFields,uS]
 | [],_::_,_,h,_,_,_,_,_=>by simp[sO]at h
 | _::_,[],_,h,_,_,_,_,_=>by simp[sO]at h
 | f::l,k::j,i,h,h1,h2,h3,h4,w=>by
  simp only[sO,VB,bne_iff_ne,beq_iff_eq]at h;obtain⟨A,p,c,B⟩:=h;have q:i<a.length:=by simp at h1;omega
  have s:i<b.length:=by simp at h2;omega
  rw[VN q]at h3 ⊢;rw[VN s]at h4 ⊢;simp only[nL,VB]at h3 h4;have C:=jS (P:=P) d a b l j (i+1) B (by simp at h1;omega) (by simp at h2;omega) h3.2 h4.2;have g:∀w:World,(part f.type a.toArray f.offset).run P w=.ok a[i] w/\(part f.type b.toArray f.offset).run P w=.ok b[i] w/\(Op.equalIn (d+1) f.type a[i] b[i]).run P w=.ok (TA a[i] b[i]) w:=by
   intro w;have y:a.toArray[f.offset]?=some a[i]:=by rw[p];simp[q]
   have z:b.toArray[f.offset]?=some b[i]:=by rw[p];simp[s]
   have t:=h3.1;have x:=h4.1;unfold RN at c;generalize a[i]=u at *;generalize b[i]=v at *;cases e:P.underlying f.type with
   | none=>rw[e]at c;simp at c
   | some ty =>
    rw[e]at c;cases ty<;>simp only at c<;>try (simp at c;done)
    all_goals (cases k<;>simp only[Bool.false_eq_true,decide_eq_true_eq]at c)
    all_goals (cases u<;>simp only[TF,Bool.false_eq_true,decide_eq_true_eq]at t)
    all_goals (cases v<;>simp only[TF,Bool.false_eq_true,decide_eq_true_eq]at x)
    all_goals try subst t
    all_goals try subst x
    all_goals refine⟨by simp[part,isAgg,run_underlying e,y],by simp[part,isAgg,run_underlying e,z],?_⟩
    ·exact run_equalIn_bool' w _ _ _ _ e
    ·exact run_equalIn_int w _ _ _ _ _ _ e
    ·exact run_equalIn_string w _ _ _ _ e
  simp only[Op.eqFields,Sem.run_bind,Sem.run_ite];rw[A4 A,(g w).1];simp only[Result.andThen_ok];rw[(g w).2.1];simp only[Result.andThen_ok];rw[(g w).2.2];simp only[Result.andThen_ok];cases m:TA a[i] b[i]
  ·simp[uS,m]
  ·simp only[uS,m,Bool.true_and];simpa using C w
theorem oU:∀{a:List CK} {b:List Value},nL a b=true->a.length=b.length
 | [],[],_=>rfl
 | [],_::_,h=>by simp[nL]at h
 | _::_,[],h=>by simp[nL]at h
 | _::a,_::b,h=>by simp only[nL,VB]at h;simp[oU h.2]
variable {dst:Option Tmp}{ty:TypeId}{pos:String}{af:Array Edge}{gd:Option (Nat×Bool)}{fr:Fr}{ob:Obs}
theorem iK{e:Rd}{G:Gh}:∀{a b:List Value},All2 (TC.rep e G) (a.map fun u=>TC.p (.v u)) b->b=a
 | [],[],_=>rfl
 | [],_::_,h=>h.elim
 | _::_,[],h=>h.elim
 | u::a,v::b,h=>by
  obtain⟨⟨c,_⟩,d⟩:=h;rw[iK d,c]
theorem ML{t:TypeId}{b:List CK}{c d:List Value}[ht:TyCmp P t b](h:(nL b c&&nL b d)=true)(w:World):(Op.equalIn 10000 t (.agg c.toArray) (.agg d.toArray)).run P w=.ok (uS c d) w:=by
 obtain⟨f,e⟩:=ht.out;simp only[VB,Bool.not_eq_true']at h e;have i:=oU h.1;have j:=oU h.2;rw[run_equalIn_agg w 9999 t _ _ f e.2.1];have:=jS (P:=P) 9998 c d _ b 0 e.1 (by omega) (by omega) h.1 h.2 w;exact this
theorem IV{t yt:TypeId}{x y:Operand}{d:List CK}(f j:List Value){r:Bool}[ht:TyCmp P t d](D:opv fr x=some (.s (.agg (f.map fun u=>.p (.v u)))))(E:opv fr y=some (.s (.agg (j.map fun u=>.p (.v u)))))
  (c:(G7 x&&G7 y)=true) (B:(nL d f&&nL d j)=true) (C:uS f j=r):Neu P ⟨dst,.binOp .neq t x y yt,ty,pos,af,gd⟩ fr ob (fun F=>F=O8 (!r)) :=
 E3 fun S G a w h=>by
  simp only[VB]at c;obtain⟨H,z,m⟩:=M2 h D c.1;obtain⟨I,A,a2⟩:=M2 h E c.2;obtain rfl:=iK m;obtain rfl:=iK a2;have k:=ht.out.2;simp only[VB,Bool.not_eq_true']at k;refine⟨.bool (!r),?_,rfl,rfl⟩;simp only[execOp,z,A];refine J3 ?_;simp only[Sem.run_bind];rw[run_eqGuard_agg (hm:=k.2.2)];simp only[Result.andThen_ok];rw[run_neq_struct,ML B,C];rfl
theorem Z2{a:Array Bool}{e j:Nat}(h:e≠j):(a.setIfInBounds e true).getD j false=a.getD j false:=by
 simp only[Array.getD_eq_getD_getElem?,Array.getElem?_setIfInBounds_ne h]
def Q9:Op->List Nat
 | .store _ x y=>wX x++wX y
 | .box _ x=>wX x
 | .makeSlice _ x y=>wX x++wX y
 | op=>iI op
def Z8(sv:List SV)(i:Nat):SV:=sv.getD i .any
def jT:List Oper->List SV->Fr->Fr
 | o::l,s::sv,fr=>match o.dst with
  | some d=>(d,s)::jT l sv fr
  | none=>jT l sv fr
 | _,_,fr=>fr
abbrev Xe:=List (Nat×Bool×(Nat×Ob))
def jU:Xe->Nat->Option (Bool×(Nat×Ob))
 | [],_=>none
 | (i,x)::r,e=>cond (Nat.beq i e) (some x) (jU r e)
def gI(a:Xe)(ob:Obs):List Nat->Obs
 | []=>ob
 | e::D=>match jU a e with
  | some x=>x.2::gI a ob D
  | none=>gI a ob D
def v6(e:Nat):List Nat->List Nat
 | []=>[e]
 | d::D=>cond (Nat.blt d e) (e::d::D) (d::v6 e D)
def K7(l:List Nat)(e:Nat):Bool:=l.any (Nat.beq e)
theorem xL{l:List Nat}{e:Nat}:K7 l e=true↔e∈l:=by
 unfold K7;rw[List.any_eq_true];exact⟨fun ⟨x,h,a⟩=>by rw[Nat.eq_of_beq_eq_true a];exact h,fun h=>⟨e,h,Nat.beq_refl e⟩⟩
def dX(ops:Array Oper)(E:List Nat)(i:Nat)(D:List Nat):Bool:=!(K7 D i)&&((E.all fun j=>!(Bef ops i j)||K7 D j)&&D.all fun j=>!(Bef ops j i))
def m7:List Nat->List Nat->Bool
 | [],[]=>true
 | a::l,b::m=>Nat.beq a b&&m7 l m
 | _,_=>false
theorem v7:∀{l m:List Nat},m7 l m=true->l=m
 | [],[],_=>rfl
 | [],_::_,h=>by simp[m7]at h
 | _::_,[],h=>by simp[m7]at h
 | a::l,b::m,h=>by
  simp only[m7,VB]at h;rw[Nat.eq_of_beq_eq_true h.1,v7 h.2]
def IW(M:List (List Nat))(D:List Nat):Bool:=M.any (m7 D)
theorem jV{M:List (List Nat)}{D:List Nat}(h:IW M D=true):D∈M:=by
 obtain⟨x,a,b⟩:=List.any_eq_true.1 h;rw[v7 b];exact a
def BE(E:List Nat)(i:Nat):List Nat:=E.filter fun e=>Nat.blt e i
def desc:List Nat->Bool
 | []=>true
 | a::l=>l.all (fun b=>Nat.blt b a)&&desc l
def V9:List Oper->List Nat
 | []=>[]
 | o::l=>match o.dst with
  | some d=>d::V9 l
  | none=>V9 l
def dY:List Nat->Bool
 | []=>true
 | a::l=>!(K7 l a)&&dY l
def uT(nt:Nat)(l:List Oper)(E:List Nat)(M:List (List Nat))(b:List (Nat×List Nat)):Bool :=
 let ops:=l.toArray;let n:=l.length
 (l.all fun o=>o.guard.isNone&&match o.dst with | some d=>Nat.blt d nt | none=>true) &&
 ((List.range n).all fun i=>match ops[i]? with
  | some o=>(turns o.op == K7 E i)&&((turns o.op||o.dst.isSome)&&(((Q9 o.op).all fun u=>(List.range n).all fun j=>match ops[j]? with
    | some c=>(match c.dst with | some d=>!(Nat.beq d u)||Bef ops i j | none=>true)
    | none=>true) &&
   ((List.range n).all fun j=>!(Bef ops i j)||Nat.blt j i)&&((o.after.toList.all fun e=>!(Region.binds .any e)||Nat.blt e.on i)&&(M.all fun D=>!(dX ops E i D)||(m7 D (BE E i)||b.any fun p=>Nat.beq p.1 i&&m7 p.2 D)))))
  | none=>false) &&
 dY (V9 l)&&desc E&&(E.all fun e=>Nat.blt e n)&&IW M []&&(M.all fun D=>E.all fun e=>!(dX ops E e D)||IW M (v6 e D))
def BF(P:Program)(nt:Nat)(ops:Array Oper)(o:Oper)(U:Fr)(new:Bool)(ob:Obs)(x:Nat×Ob)(s:SV):Prop :=
 ∀φ,Told U φ->(new=true->oS x.1 φ)->oO P nt ops o φ ob (fun b a=>b=(match o.dst with | some d=>V8 φ d s | none=>φ)/\a=x::ob)
theorem MM{ops:Array Oper}{U:Fr}{k:Nat}{e:TypeId}{z:Value}[hz:TyZero P e z]{ty:TypeId}{pos:String}{af:Array Edge}{d:Nat}{ob:Obs}(g:M1 k ob=true)(h:Nat.blt d nt=true) :
  BF P nt ops ⟨some d,.alloc e,ty,pos,af,none⟩ U true ob (k,.box (z.cells.toList.map fun c=>.p (.v c))) (.s (.one (.ref k 0))) :=
 fun φ _ i=>BD (i rfl) g h
theorem MN{ops:Array Oper}{U:Fr}{b:Op}{ty:TypeId}{pos:String}{af:Array Edge}{ob:Obs}{x:Nat×Ob}(h:MK P ⟨none,b,ty,pos,af,none⟩ U ob (x::ob)):BF P nt ops ⟨none,b,ty,pos,af,none⟩ U false ob x .any :=
 fun φ c _=>FN h rfl rfl c
def UIn(l:List Oper)(sv:List SV)(fr:Fr)(o:Oper)(U:Fr):Prop :=
 ∀t s,E0 U t=some s->t∈Q9 o.op/\((∃j a,l[j]?=some a/\a.dst=some t/\s=Z8 sv j)\/(t∉V9 l/\E0 fr t=some s))
def TU(P:Program)(nt:Nat)(l:List Oper)(sv:List SV)(a:Xe)(fr:Fr)(ob:Obs)(i:Nat)(D:List Nat):Prop :=
 ∃o U,l[i]?=some o/\UIn l sv fr o U/\((turns o.op=false/\Neu P o U (gI a ob D) (fun s=>s=Z8 sv i)) \/
  ∃new x,jU a i=some (new,x)/\BF P nt l.toArray o U new (gI a ob D) x (Z8 sv i))
def TV(P:Program)(nt:Nat)(l:List Oper)(sv:List SV)(a:Xe)(fr:Fr)(ob:Obs)(i:Nat)(D:List Nat):Prop :=
 ∃o,l[i]?=some o/\((turns o.op=false/\Neu P o (O6 (jT l sv fr) (Q9 o.op)) (gI a ob D) (fun s=>s=Z8 sv i)) \/
  ∃new x,jU a i=some (new,x)/\BF P nt l.toArray o (O6 (jT l sv fr) (Q9 o.op)) new (gI a ob D) x (Z8 sv i))
def Ob1s(P:Program)(nt:Nat)(l:List Oper)(sv:List SV)(a:Xe)(fr:Fr)(ob:Obs):List (Nat×List Nat)->Prop
 | []=>True
 | (i,D)::r=>TV P nt l sv a fr ob i D/\Ob1s P nt l sv a fr ob r
theorem Ob1s.get{l:List Oper}{sv:List SV}{a:Xe}{fr:Fr}{ob:Obs}:∀{r:List (Nat×List Nat)},Ob1s P nt l sv a fr ob r->∀p∈r,TV P nt l sv a fr ob p.1 p.2
 | [],_,p,hp=>by simp at hp
 | (i,D)::r,h,p,hp=>by
  rcases VH.1 hp with rfl | hp
  ·exact h.1
  ·exact Ob1s.get h.2 p hp
def IX(ops:Array Oper)(e:Nat)(sv:List SV)(fr:Fr):Fr :=
 (((List.range ops.size).filter fun j=>!(Nat.beq j e)&&!(Bef ops j e)).map fun j=>(j,Z8 sv j))++fr
def lL(ops:Array Oper)(sv:List SV)(fr:Fr):Xe->Bool
 | []=>true
 | (e,new,x)::r=>(!new||H4 x.1 (IX ops e sv fr))&&lL ops sv fr r
def BG(a:Xe)(M:List (List Nat)):Bool :=
 M.all fun D=>a.all fun p=>D.all fun e=>K7 D p.1||!(Nat.blt p.1 e)||(match jU a e with | some x=>!(Nat.beq x.2.1 p.2.2.1) | none=>true)
theorem uU{a:Xe}{e:Nat}{x:Bool×(Nat×Ob)}(h:jU a e=some x):(e,x)∈a:=by
 induction a with
 | nil=>cases h
 | cons y r b =>
  obtain⟨i,y⟩:=y;unfold jU at h;cases hb:Nat.beq i e
  ·rw[hb]at h;exact List.mem_cons_of_mem _ (b h)
  ·rw[hb]at h;have h:some y=some x:=h;cases h;rw[Nat.eq_of_beq_eq_true hb];exact List.mem_cons_self ..
theorem xM{b:Xe}{ob:Obs}{e:Nat}{new:Bool}{x:Nat×Ob}(g:jU b e=some (new,x)):∀{D:List Nat},(∀d∈D,e<d->∀y,jU b d=some y->y.2.1≠x.1)->∀k o,C5 (gI b ob (v6 e D)) k=some o->C5 (x::gI b ob D) k=some o
 | [],_,k,o,h=>by
  simp only[v6,gI,g]at h;exact h
 | d :: D,hk,k,o,h=>by
  unfold v6 at h;cases hb:Nat.blt d e
  ·rw[hb]at h;simp only[cond]at h;have q:=xM (ob:=ob) g (D:=D) (fun t n=>hk t (List.mem_cons_of_mem _ n));have u : e <= d:=by
    cases Nat.lt_or_ge d e with
    | inl m => have:Nat.blt d e=true:=by simpa using m
               rw[this]at hb;cases hb
    | inr m=>exact m
   unfold gI at h ⊢;cases j:jU b d with
   | none=>rw[j]at h;exact q k o h
   | some y =>
    rw[j]at h;simp only at h ⊢;obtain⟨s,f,l⟩:=y;obtain⟨r,v⟩:=x;by_cases a:f=k
    ·rw[show ((s,f,l):Bool×(Nat×Ob)).2=(f,l) from rfl]at h ⊢;rw[a,E8]at h;by_cases p:e=d
     ·subst p;rw[j]at g;cases g;rw[a,E8];exact h
     ·have i:=hk d (List.mem_cons_self ..) (by omega) _ j;have i:f≠r:=i;rw[C7 (by omega),a,E8];exact h
    ·rw[show ((s,f,l):Bool×(Nat×Ob)).2=(f,l) from rfl]at h ⊢;rw[C7 a]at h;have:=q k o h;by_cases c:r=k
     ·rw[c,E8]at this ⊢;exact this
     ·rw[C7 c]at this;rw[C7 c,C7 a];exact this
  ·rw[hb]at h;simp only[cond]at h;have:gI b ob (e::d::D)=x::gI b ob (d::D):=by
    show (match jU b e with | some x=>x.2::gI b ob (d::D) | none=>gI b ob (d::D))=_;rw[g]
   rw[this]at h;exact h
theorem iL{e:Nat}{c:Array Bool}(p:e<c.size)(u:c.getD e false=false):∀{E:List Nat},desc E=true->e∈E->E.filter (fun j=>(c.setIfInBounds e true).getD j false)=v6 e (E.filter fun j=>c.getD j false)
 | [],_,he=>by simp at he
 | d::E,hd,he=>by
  simp only[desc,VB]at hd;have k:∀b∈E,b<d:=fun b hb=>by simpa using List.all_eq_true.1 hd.1 b hb
  have m:(c.setIfInBounds e true).getD e false=true:=by simp[p]
  have h:∀j,j≠e->(c.setIfInBounds e true).getD j false=c.getD j false:=fun j z=>Z2 (Ne.symm z);by_cases i:d=e
  ·subst i;rw[List.filter_cons_of_pos (by exact m),List.filter_cons_of_neg (by rw[u];simp)];have:E.filter (fun j=>(c.setIfInBounds d true).getD j false)=E.filter fun j=>c.getD j false:=by
    apply List.filter_congr;intro j z;exact h j (by have:=k j z;omega)
   rw[this];cases B:E.filter fun j=>c.getD j false with
   | nil=>rfl
   | cons a r =>
    have ha:a∈E:=(List.mem_filter.1 (by rw[B];exact List.mem_cons_self ..)).1;have x:Nat.blt a d=true:=by simpa using k a ha
    unfold v6;rw[x];rfl
  ·have n:e∈E:=(VH.1 he).resolve_left (fun q=>i q.symm);have A:=iL p u hd.2 n;have y:Nat.blt d e=false:=by
    have:=k e n;cases hb:Nat.blt d e
    ·rfl
    ·rw[Nat.blt_eq]at hb;omega
   by_cases w:c.getD d false=true
   ·rw[List.filter_cons_of_pos (by rw[h d i];exact w),List.filter_cons_of_pos (by exact w),A];show _=v6 e (d::_)
    conv=>rhs;unfold v6
    rw[y];rfl
   ·rw[List.filter_cons_of_neg (by rw[h d i];exact w),List.filter_cons_of_neg (by exact w),A]
theorem bD:∀{l:List Oper} {j:Nat} {o:Oper} {d:Nat},l[j]?=some o->o.dst=some d->d∈V9 l
 | [],j,o,d,h,_=>by simp at h
 | o'::l,0,o,d,h,hd=>by
  simp at h;subst h;unfold V9;rw[hd];exact List.mem_cons_self ..
 | o'::l,j+1,o,d,h,hd=>by
  have:=bD (l:=l) (j:=j) (by simpa using h) hd;unfold V9;split
  ·exact List.mem_cons_of_mem _ this
  ·exact this
theorem iM:∀{l:List Oper} {i j:Nat} {o a:Oper} {d:Nat},dY (V9 l)=true->l[i]?=some o->l[j]?=some a->o.dst=some d->a.dst=some d->i=j
 | [],i,j,o,a,d,_,h,_,_,_=>by simp at h
 | q::l,0,0,_,_,_,_,_,_,_,_=>rfl
 | q::l,0,j+1,o,a,d,hn,h1,h2,h3,h4=>by
  simp at h1;subst h1;have b:=bD (l:=l) (j:=j) (by simpa using h2) h4;unfold V9 at hn;rw[h3]at hn;simp only[dY,VB,Bool.not_eq_true']at hn;rw[xL.2 b]at hn;exact absurd hn.1 (by simp)
 | q::l,i+1,0,o,a,d,hn,h1,h2,h3,h4=>by
  simp at h2;subst h2;have b:=bD (l:=l) (j:=i) (by simpa using h1) h3;unfold V9 at hn;rw[h4]at hn;simp only[dY,VB,Bool.not_eq_true']at hn;rw[xL.2 b]at hn;exact absurd hn.1 (by simp)
 | q::l,i+1,j+1,o,a,d,hn,h1,h2,h3,h4=>by
  have:dY (V9 l)=true:=by
   unfold V9 at hn;split at hn
   ·simp only[dY,VB]at hn;exact hn.2
   ·exact hn
  exact congrArg (·+1) (iM this (by simpa using h1) (by simpa using h2) h3 h4)
theorem sP:∀{l:List Oper} {sv:List SV} {fr:Fr} {t:Nat} {s:SV},sv.length=l.length->E0 (jT l sv fr) t=some s->(∃j o,l[j]?=some o/\o.dst=some t/\s=Z8 sv j)\/(t∉V9 l/\E0 fr t=some s)
 | [],[],fr,t,s,_,h=>.inr ⟨by simp[V9],h⟩
 | [],_::_,_,_,_,hl,_=>by simp at hl
 | _::_,[],_,_,_,hl,_=>by simp at hl
 | o :: l,k::sv,fr,t,s,hl,h=>by
  have b:E0 (jT l sv fr) t=some s->(∃j g,(o::l)[j]?=some g/\g.dst=some t/\s=Z8 (k::sv) j)\/(t∉V9 l/\E0 fr t=some s):=fun m=>by
   rcases sP (by simpa using hl) m with ⟨j,g,a,e,p⟩ | a
   ·exact .inl ⟨j+1,g,by simpa using a,e,by rw[p];simp[Z8]⟩
   ·exact .inr a
  unfold jT at h;cases f:o.dst with
  | none =>
   rw[f]at h;rcases b h with a | ⟨a,e⟩
   ·exact .inl a
   ·exact .inr ⟨by unfold V9;rw[f];exact a,e⟩
  | some d =>
   rw[f]at h;have h:E0 ((d,k)::jT l sv fr) t=some s:=h;by_cases c:d=t
   ·subst c;rw[D7]at h;cases h;exact .inl ⟨0,o,rfl,f,rfl⟩
   ·rw[C6 c]at h;rcases b h with a | ⟨a,e⟩
    ·exact .inl a
    ·refine .inr ⟨?_,e⟩;unfold V9;rw[f];intro q;rcases VH.1 q with q | q
     ·exact c q.symm
     ·exact a q
theorem SimF.weakO{S:Ctx}{φ:Fa}{ob ob':Obs}{G:Gh}{a:Act}{w:World}(h:SimF P S φ ob G a w)(e:∀k o,C5 ob' k=some o->C5 ob k=some o):SimF P S φ ob' G a w:=by
 refine⟨h.1.weakenO e,fun i s l=>?_⟩;have g:Sim P S [(i,s)] ob G a w:=h.sub fun j t b=>by
  by_cases d:i=j
  ·subst d;rw[D7]at b;cases b;exact l
  ·rw[C6 d]at b;simp[E0]at b
 exact (g.weakenO e).facts i s (D7 _ _ _)
structure InvC (l:List Oper) (sv:List SV) (fr:Fr) (listed:Array Bool) (φ:Fa):Prop where
 put:∀j o d,l[j]?=some o->listed.getD j false=true->o.dst=some d->φ d=some (Z8 sv j)
 from':∀t s,φ t=some s->(∃j o,l[j]?=some o/\listed.getD j false=true/\o.dst=some t/\s=Z8 sv j)\/E0 fr t=some s
 old:∀t s,E0 fr t=some s->t∉V9 l->φ t=some s
def unl(a:Array Bool)(n:Nat):Nat:=(List.range n).countP fun i=>!(a.getD i false)
theorem uV{a:Array Bool}{i:Nat}(k:i<a.size)(l:a.getD i false=false):∀{n:Nat},i<n->unl (a.setIfInBounds i true) n+1=unl a n
 | 0,h=>by omega
 | n+1,h=>by
  unfold unl;rw[XB,List.countP_append,List.countP_append];have f:∀j,j≠i->(a.setIfInBounds i true).getD j false=a.getD j false:=fun j d=>Z2 (Ne.symm d);by_cases c:i<n
  ·have o:=uV k l c;unfold unl at o;have e:List.countP (fun b=>!(a.setIfInBounds i true).getD b false) [n]=List.countP (fun i=>!a.getD i false) [n]:=by
    simp only[List.countP_cons,List.countP_nil,f n (by omega)]
   rw[e];omega
  ·obtain rfl:i=n:=by omega
   have e:List.countP (fun b=>!(a.setIfInBounds i true).getD b false) (List.range i)=List.countP (fun i=>!a.getD i false) (List.range i):=by
    apply List.countP_congr;intro j d;rw[f j (by have:=VL.1 d;omega)]
   rw[e];have m:(a.setIfInBounds i true).getD i false=true:=by simp[k]
   simp only[List.countP_cons,List.countP_nil,m,l];simp
theorem rP{id:Nat}{l:List Oper}{fr:Fr}{ob:Obs}{Q:Post}(sv:List SV)(W:Xe)(M:List (List Nat))(az:List (Nat×List Nat))(hm:P.follows .mixedOrders=true)(cu:sv.length=l.length)
  (hB:uT nt l (W.map (·.1)) M az=true) (h1:∀i,i<l.length->TU P nt l sv W fr ob i (BE (W.map (·.1)) i)) (au:lL l.toArray sv fr W=true) (av:BG W M=true) (h2:Ob1s P nt l sv W fr ob az)
  {fr':Fr} (be:∀t s,E0 fr' t=some s->(∃j o',l[j]?=some o'/\o'.dst=some t/\s=Z8 sv j)\/(t∉V9 l/\E0 fr t=some s)) (hQ:Q .normal fr' (gI W ob (W.map (·.1)))):WpC P nt (.region id l.toArray true) fr ob Q:=by
 intro S G a w hn hs;obtain⟨E,hE⟩:∃E,E=W.map (·.1):=⟨_,rfl⟩
 rw[<-hE]at hB h1 hQ;unfold uT at hB;simp only[VB]at hB;obtain⟨⟨⟨⟨⟨⟨b1,b2⟩,b3⟩,b4⟩,b5⟩,b6⟩,b7⟩:=hB
 have aj:∀i o,l[i]?=some o->o.guard=none/\(∀d,o.dst=some d->d<nt)/\(turns o.op=K7 E i)/\(turns o.op=true\/∃d,o.dst=some d)/\(∀u∈Q9 o.op,∀j oj,l[j]?=some oj->oj.dst=some u->Bef l.toArray i j=true) /\
   (∀j,Bef l.toArray i j=true->j<i)/\(∀e∈o.after.toList,Region.binds .any e=true->e.on<i)/\(∀D∈M,dX l.toArray E i D=true->D=BE E i\/(i,D)∈az):=by
  intro i o C;have ad:i<l.length:=(List.getElem?_eq_some_iff.1 C).1;have N:o∈l:=VZ C;have q1:=List.all_eq_true.1 b1 o N;have q2:=List.all_eq_true.1 b2 i (VL.2 ad);simp only[List.getElem?_toArray,C]at q2;simp only[VB]at q1 q2;obtain⟨q3,q4,q5,q6,q7⟩:=q2;obtain⟨q8,q9⟩:=q5;refine⟨by simpa using q1.1,?_,by simpa using q3,?_,?_,?_,?_,?_⟩
  ·intro d hd;have:=q1.2;rw[hd]at this;simpa using this
  ·rcases (VU _ _).mp q4 with h | h
   ·exact .inl h
   ·exact .inr (Option.isSome_iff_exists.1 h)
  ·intro u hu j oj F hd;have bg:j<l.length:=(List.getElem?_eq_some_iff.1 F).1;have:=List.all_eq_true.1 (List.all_eq_true.1 q8 u hu) j (VL.2 bg);simp only[F,hd]at this;simpa using this
  ·intro j F;rcases Nat.lt_or_ge j l.length with L | L
   ·have:=List.all_eq_true.1 q9 j (VL.2 L);rw[F]at this;simpa using this
   ·-- an operation is behind none that there isn't
    exfalso;obtain⟨o1,bm,e1,cb,bw,hh⟩:=oM F;rw[List.getElem?_toArray,C]at bm;cases bm;have af:=List.all_eq_true.1 q6 e1 cb;have af:e1.on<i:=by rw[bw]at af;simpa using af
    have chain:∀m,m<l.length->∀j,Bef l.toArray m j=true->j<l.length:=by
     intro m;induction m using Nat.strongRecOn with
     | _ m ih =>
      intro co j' cj;obtain⟨o2,bn,e2,cc,bx,ch⟩:=oM cj;rw[List.getElem?_toArray]at bn;have r2:=List.all_eq_true.1 b2 m (VL.2 co);simp only[List.getElem?_toArray,bn]at r2;simp only[VB]at r2;have r6:=List.all_eq_true.1 r2.2.2.2.1 e2 cc;have r6:e2.on<m:=by rw[bx]at r6;simpa using r6
      rcases ch with e3 | ⟨A,B⟩
      ·omega
      ·exact ih e2.on r6 (by omega) j' B
    have:=chain i ad j F;omega
  ·intro e he bz;have:=List.all_eq_true.1 q6 e he;rw[bz]at this;simpa using this
  ·intro D hD hp;have:=List.all_eq_true.1 q7 D hD;rw[hp]at this;simp only[Bool.not_true,Bool.false_or,VU]at this;rcases this with h | h
   ·exact .inl (v7 h)
   ·obtain⟨p,cr,ax⟩:=List.any_eq_true.1 h;simp only[VB]at ax;have e1:=Nat.eq_of_beq_eq_true ax.1;have e2:=v7 ax.2;obtain⟨p1,p2⟩:=p;simp only at e1 e2;rw[<-e1,<-e2];exact .inr cr
 have cq:∀i o,l[i]?=some o->∀D∈M,dX l.toArray E i D=true->∃U,UIn l sv fr o U/\((turns o.op=false/\Neu P o U (gI W ob D) (fun s=>s=Z8 sv i)) \/
   ∃new x,jU W i=some (new,x)/\BF P nt l.toArray o U new (gI W ob D) x (Z8 sv i)):=by
  intro i o C D hD hp;have ad:i<l.length:=(List.getElem?_eq_some_iff.1 C).1;have:TU P nt l sv W fr ob i D:=by
   rcases (aj i o C).2.2.2.2.2.2.2 D hD hp with rfl | h
   ·exact h1 i ad
   ·obtain⟨o',I,h⟩:=h2.get _ h;refine⟨o',_,I,fun t s ht=>⟨Y9 ht,sP cu (T6 ht)⟩,h⟩
  obtain⟨o',U,I,hU,h⟩:=this;rw[C]at I;cases I;exact⟨U,hU,h⟩
 have dc:∀(j t:Nat),(l.toArray[j]?).bind (fun o=>o.dst)=some t->t<nt:=by
  intro j t ht;cases C:l[j]? with
  | none=>simp[C]at ht
  | some o=>simp[C]at ht;exact (aj j o C).2.1 t ht
 refine wp_region_any hm ?_;have cy:Below w.heap.size w { w with drawn:=w.drawn+1 }:=⟨rfl,rfl,rfl,Nat.le_refl _,fun _ _=>rfl⟩
 have cs:SimF P S (E0 fr) ob G a { w with drawn:=w.drawn+1 }:=(RL.2 hs).ext cy
 have db : ∀(J:Nat) (k:Array Bool) (φ:Fa) (G:Gh) (a:Act) (w:World),k.size=l.length->unl k l.length=J->Closed l.toArray k->(E.filter fun j=>k.getD j false)∈M->InvC l sv fr k φ->SimF P S φ (gI W ob (E.filter fun j=>k.getD j false)) G a w ->
   wpAny P .any l.toArray (PostOf P S Q) J k a w:=by
  intro J;induction J with
  | zero =>
   intro k φ G a w bq hu hc hM hI T;have K:∀j,j<l.length->k.getD j false=true:=by
    intro j F;unfold unl at hu;have:=(List.countP_eq_zero.1 hu) j (VL.2 F);simpa using this
   have ak:Region.ready .any l.toArray k=[]:=by
    cases hr:Region.ready .any l.toArray k with
    | nil=>rfl
    | cons i r =>
     exfalso;have hi:i∈Region.ready .any l.toArray k:=by rw[hr];exact List.mem_cons_self ..
     have A:=Q1 hi;obtain⟨_,o,C,_⟩:=mem_ready.1 hi;rw[List.getElem?_toArray]at C;rw[K i (List.getElem?_eq_some_iff.1 C).1]at A;cases A
   refine⟨ak,?_⟩;have bt:(E.filter fun j=>k.getD j false)=E:=by
    rw[List.filter_eq_self];intro e he;exact K e (by simpa using List.all_eq_true.1 b5 e he)
   rw[bt]at T;refine⟨fr',gI W ob E,G,hQ,.inl (RL.1 ⟨T.1,fun t s ht=>T.2 t s ?_⟩)⟩;rcases be t s ht with ⟨j,o,A,B,rfl⟩ | ⟨A,B⟩
   ·exact hI.put j o t A (K j (List.getElem?_eq_some_iff.1 A).1) B
   ·exact hI.old t s B A
  | succ J ih =>
   intro k φ G a w bq hu hc hM hI T;refine⟨fun h0=>?_,fun i hi=>?_⟩
   ·-- some operation is ready
    exfalso;have cd:∃j,j<l.length/\k.getD j false=false:=by
     refine Classical.byContradiction fun cp=>?_;have:unl k l.length=0:=by
      unfold unl;refine List.countP_eq_zero.2 fun j F=>?_;have F:=VL.1 F;cases hb:k.getD j false
      ·exact absurd ⟨j,F,hb⟩ cp
      ·simp
     omega
    have bi:∀n,(∃j,j<n/\j<l.length/\k.getD j false=false)->∃j,j<l.length/\k.getD j false=false/\∀p,p<j->k.getD p false=true:=by
     intro n;induction n with
     | zero=>rintro⟨j,F,_⟩;omega
     | succ n cz =>
      rintro⟨j,F,L,ai⟩;by_cases ap:∃j',j'<n/\j'<l.length/\k.getD j' false=false
      ·exact cz ap
      ·refine⟨j,L,ai,fun p hp=>?_⟩;cases hb:k.getD p false
       ·exact absurd ⟨p,by omega,by omega,hb⟩ ap
       ·rfl
    obtain⟨j,ck,cl⟩:=cd;obtain⟨j,L,ai,cn⟩:=bi (j+1) ⟨j,by omega,ck,cl⟩;have C:l[j]?=some l[j]:=VA L;have bh:j∈Region.ready .any l.toArray k:=by
     refine mem_ready.2 ⟨?_,l[j],by rw[List.getElem?_toArray];exact C,fun e he hb=>?_⟩
     ·have ab:j<k.size:=by omega
      simp only[Array.getD_eq_getD_getElem?,Array.getElem?_eq_getElem ab]at ai ⊢;simpa using ai
     ·have:=(aj j _ C).2.2.2.2.2.2.1 e (Array.mem_toList_iff.2 he) hb;exact cn _ this
    rw[h0]at bh;cases bh
   ·have Y:=Q1 hi;obtain⟨_,o,C,K⟩:=mem_ready.1 hi;rw[List.getElem?_toArray]at C;have ad:i<l.length:=(List.getElem?_eq_some_iff.1 C).1;obtain⟨g1,g2,g3,g4,g5,g6,g7,g8⟩:=aj i o C;obtain⟨D,hD⟩:∃D,D=E.filter fun j=>k.getD j false:=⟨_,rfl⟩
    rw[<-hD]at hM T;have ah:∀e,e∈D↔e∈E/\k.getD e false=true:=fun e=>by rw[hD,List.mem_filter]
    have ba:∀j,Bef l.toArray i j=true->k.getD j false=true:=fun j F=>Y1 hc i F (fun o' I e he hb=>by
     rw[List.getElem?_toArray,C]at I;cases I
     exact K e (Array.mem_toList_iff.1 he) hb)
    have bp:dX l.toArray E i D=true:=by
     unfold dX;simp only[VB,Bool.not_eq_true',List.all_eq_true,VU];refine⟨?_,fun j F=>?_,fun j F=>?_⟩
     ·cases hb:K7 D i
      ·rfl
      ·have:=((ah i).1 (xL.1 hb)).2;rw[Y]at this;cases this
     ·cases hb:Bef l.toArray i j
      ·exact .inl rfl
      ·exact .inr (xL.2 ((ah j).2 ⟨F,ba j hb⟩))
     ·cases hb:Bef l.toArray j i
      ·rfl
      ·have L:=((ah j).1 F).2;have:k.getD i false=true:=Y1 hc j hb (fun o' I e he aq=>hc j o' I L e he aq);rw[Y]at this;cases this
    have al:∀U,UIn l sv fr o U->Told U φ:=by
     intro U hU t s ht;obtain⟨cx,A⟩:=hU t s ht;rcases A with ⟨j,oj,A,B,rfl⟩ | ⟨A,B⟩
     ·exact hI.put j oj t A (ba j (g5 t cx j oj A B)) B
     ·exact hI.old t s B A
    have an:=T8 hc hi;have ab:(k.setIfInBounds i true).size=l.length:=by simpa using bq
    have br:unl (k.setIfInBounds i true) l.length=J:=by
     have:=uV (by omega) Y ad;omega
    have ao:∀φ',φ'=(match o.dst with | some d=>V8 φ d (Z8 sv i) | none=>φ)->InvC l sv fr (k.setIfInBounds i true) φ':=by
     intro φ' hφ;have R:∀j,(k.setIfInBounds i true).getD j false=true↔j=i\/k.getD j false=true:=by
      intro j;by_cases F:j=i
      ·subst F;simp only[true_or,iff_true];simp[show j<k.size by omega]
      ·rw[Z2 (Ne.symm F)];simp[F]
     cases X:o.dst with
     | none =>
      rw[X]at hφ;have hφ:φ'=φ:=hφ;subst hφ;refine⟨fun j oj d A B V=>?_,fun t s A=>?_,hI.old⟩
      ·rcases (R j).1 B with rfl | B
       ·rw[C]at A;cases A;rw[X]at V;cases V
       ·exact hI.put j oj d A B V
      ·rcases hI.from' t s A with ⟨j,oj,B,V,h6⟩ | B
       ·exact .inl ⟨j,oj,B,(R j).2 (.inr V),h6⟩
       ·exact .inr B
     | some d0 =>
      rw[X]at hφ;have hφ:φ'=V8 φ d0 (Z8 sv i):=hφ;subst hφ;refine⟨fun j oj d A B V=>?_,fun t s A=>?_,fun t s A B=>?_⟩
      ·unfold V8;rcases (R j).1 B with rfl | B
       ·rw[C]at A;cases A;rw[X]at V;cases V;rw[A4 rfl]
       ·by_cases ac:d=d0
        ·subst ac;have:=iM b3 A C V X;subst this;rw[A4 rfl]
        ·rw[A5 ac];exact hI.put j oj d A B V
      ·unfold V8 at A;by_cases ac:t=d0
       ·rw[A4 ac]at A;cases A;exact .inl ⟨i,o,C,(R i).2 (.inl rfl),by rw[ac];exact X,rfl⟩
       ·rw[A5 ac]at A;rcases hI.from' t s A with ⟨j,oj,B,V,h6⟩ | B
        ·exact .inl ⟨j,oj,B,(R j).2 (.inr V),h6⟩
        ·exact .inr B
      ·unfold V8;have:t≠d0:=fun q=>B (by rw[q];exact bD C X);rw[A5 this];exact hI.old t s A B
    unfold wpOp;simp only[List.getElem?_toArray,C];rw[A4 (by simp[Region.wanted,g1])];obtain⟨U,hU,bo⟩:=cq i o C D hM bp;have ag:=al U hU;rcases bo with ⟨ht,bk⟩ | ⟨new,x,hx,hq⟩
    ·refine .inl (J7 (bk S G a w (T.sub fun t s ht=>ag t s ht)) ?_);rintro v w' ⟨bs,s,rfl,hv⟩;have bj:K7 E i=false:=by rw[<-g3];exact ht
     have ae:(E.filter fun j=>(k.setIfInBounds i true).getD j false)=D:=by
      rw[hD];apply List.filter_congr;intro j F;have:j≠i:=fun q=>by rw[<-q,xL.2 F]at bj;cases bj
      exact Z2 (Ne.symm this)
     obtain⟨d0,ar⟩:=g4.resolve_left (by rw[ht];simp);rw[ar];refine ih (k.setIfInBounds i true) (V8 φ d0 (Z8 sv i)) G _ w' ab br an (by rw[ae];exact hM) (ao _ (by rw[ar])) ?_;rw[ae];exact (T.ext bs).put (by rw[hn];exact g2 d0 ar) hv
    ·have bf:i∈E:=by rw[hE];exact VT.2 ⟨_,uU hx,rfl⟩
     have ae:(E.filter fun j=>(k.setIfInBounds i true).getD j false)=v6 i D:=by
      rw[hD];exact iL (by omega) Y b4 bf
     have bu:v6 i D∈M:=by
      have:=List.all_eq_true.1 (List.all_eq_true.1 b7 D hM) i bf;rw[bp]at this;exact jV (by simpa using this)
     have cg:new=true->oS x.1 φ:=by
      intro bl;have hf:∀(xs:Xe),lL l.toArray sv fr xs=true->(i,new,x)∈xs->H4 x.1 (IX l.toArray i sv fr)=true:=by
       intro xs;induction xs with
       | nil=>intro _ h;simp at h
       | cons y r da =>
        obtain⟨e',n',x'⟩:=y;intro Z N;simp only[lL,VB,VU]at Z;rcases VH.1 N with q | q
        ·cases q;rcases Z.1 with q | q
         ·rw[bl]at q;simp at q
         ·exact q
        ·exact da Z.2 q
      have bd:=hf W au (uU hx);unfold IX at bd;have bv:∀(a b:Fr),H4 x.1 (a++b)=true->H4 x.1 a=true/\H4 x.1 b=true:=by
       intro a b;induction a with
       | nil=>intro h;exact⟨rfl,h⟩
       | cons y r am =>
        obtain⟨j,s⟩:=y;intro h;simp only[WE,H4,VB]at h ⊢;exact⟨⟨h.1,(am h.2).1⟩,(am h.2).2⟩
      obtain⟨ce,cf⟩:=bv _ _ bd;intro t s cv;rcases hI.from' t s cv with ⟨j,oj,B,V,h6,rfl⟩ | B
      ·have aw:∀(a:List Nat),H4 x.1 (a.map fun j=>(j,Z8 sv j))=true->j∈a->(Z8 sv j).free x.1=true:=by
        intro a;induction a with
        | nil=>intro _ h;simp at h
        | cons y r am =>
         intro Z N;simp only[VR,H4,VB]at Z;rcases VH.1 N with rfl | q
         ·exact Z.1
         ·exact am Z.2 q
       refine aw _ ce (List.mem_filter.2 ⟨VL.2 ?_,?_⟩)
       ·simpa using (List.getElem?_eq_some_iff.1 B).1
       ·have cm:j≠i:=fun q=>by rw[q,Y]at V;cases V
        have ca:Bef l.toArray j i=false:=by
         cases hb:Bef l.toArray j i
         ·rfl
         ·have:k.getD i false=true:=Y1 hc j hb (fun o' I e he aq=>hc j o' I V e he aq);rw[Y]at this;cases this
        rw[R3 cm,ca];rfl
      ·exact xJ cf t s B
     obtain⟨_,ay⟩:=hq φ ag cg;refine .inl (J7 (ay S G a w hn T) ?_);rintro v w' ⟨φ',dd,G',⟨hφ,rfl⟩,ct⟩;refine ih (k.setIfInBounds i true) φ' G' _ w' ab br an (by rw[ae];exact bu) (ao φ' hφ) ?_;rw[ae];refine ct.weakO (xM hx ?_);intro d hd ci y hy;have hk:=List.all_eq_true.1 (List.all_eq_true.1 (List.all_eq_true.1 av D hM) _ (uU hx)) d hd;simp only[VU,Bool.not_eq_true']at hk;rcases hk with (hk | hk) | hk
     ·have:=((ah i).1 (xL.1 hk)).2;rw[Y]at this;cases this
     ·have:Nat.blt i d=true:=by simpa using ci
      rw[this]at hk;cases hk
     ·rw[hy]at hk;intro q;simp only[Bool.not_eq_true']at hk;rw[q,Nat.beq_refl]at hk;cases hk
 have H:∀j,(Array.replicate l.length false).getD j false=false:=by
  intro j;simp only[Array.getD_eq_getD_getElem?];rcases Nat.lt_or_ge j l.length with h' | h'
  ·simp[h']
  ·simp[h']
 have bc:(E.filter fun j=>(Array.replicate l.length false).getD j false)=[]:=by
  rw[List.filter_eq_nil_iff];intro e _;rw[H];simp
 have cw:unl (Array.replicate l.length false) l.length=l.length:=by
  unfold unl;have:(List.range l.length).countP (fun i=>!(Array.replicate l.length false).getD i false)=(List.range l.length).length:=by
   rw[List.countP_eq_length];intro i _;rw[H];rfl
  rw[this,WI]
 have:=db l.length (Array.replicate l.length false) (E0 fr) G a _ (by simp) cw (fun j o C hl=>by rw[H]at hl;cases hl) (by rw[bc];exact jV b6) ⟨fun j o d _ B _=>(by rw[H]at B;cases B),fun t s A=>.inr A,fun t s A _=>A⟩ (by rw[bc];exact cs);simpa using this
def oV(P:Program)(nt:Nat)(ops:Array Oper)(K:Fr->Obs->List SV->Xe->Prop):Nat->List Oper->Fr->Obs->List SV->Xe->Prop
 | _,[],fr,ob,sv,xe=>K fr ob sv.reverse xe
 | i,o::l,fr,ob,sv,xe =>
  (turns o.op=false/\∃s d,o.dst=some d/\Neu P o (O6 fr (Q9 o.op)) ob (fun a=>a=s)/\oV P nt ops K (i+1) l ((d,s)::fr) ob (s::sv) xe) \/
  (∃new x s,BF P nt ops o (O6 fr (Q9 o.op)) new ob x s/\oV P nt ops K (i+1) l (match o.dst with | some d=>(d,s)::fr | none=>fr) (x::ob) (s::sv) ((i,new,x)::xe))
def m8:List Oper->List SV->Fr->Fr
 | o::l,s::sv,fr=>m8 l sv (match o.dst with | some d=>(d,s)::fr | none=>fr)
 | _,_,fr=>fr
theorem lM:∀{l:List Oper} {sv:List SV} {fr:Fr} {t:Nat} {s:SV},sv.length=l.length->E0 (m8 l sv fr) t=some s->(∃j o,l[j]?=some o/\o.dst=some t/\s=Z8 sv j)\/(t∉V9 l/\E0 fr t=some s)
 | [],[],fr,t,s,_,h=>.inr ⟨by simp[V9],h⟩
 | [],_::_,_,_,_,hl,_=>by simp at hl
 | _::_,[],_,_,_,hl,_=>by simp at hl
 | o :: l,s0::sv,fr,t,s,hl,h=>by
  unfold m8 at h;rcases lM (by simpa using hl) h with ⟨j,g,e,a,f⟩ | ⟨e,a⟩
  ·exact .inl ⟨j+1,g,by simpa using e,a,by rw[f];simp[Z8]⟩
  ·cases c:o.dst with
   | none =>
    rw[c]at a;exact .inr ⟨by unfold V9;rw[c];exact e,a⟩
   | some d =>
    rw[c]at a;have a:E0 ((d,s0)::fr) t=some s:=a;by_cases b:d=t
    ·subst b;rw[D7]at a;cases a;exact .inl ⟨0,o,rfl,c,rfl⟩
    ·rw[C6 b]at a;refine .inr ⟨?_,a⟩;unfold V9;rw[c];intro q;rcases VH.1 q with q | q
     ·exact b q.symm
     ·exact e q
def UB(P:Program)(nt:Nat)(ops:Array Oper)(o:Oper)(i:Nat)(fr:Fr)(ob:Obs)(s:SV)(b:Xe):Prop :=
 (turns o.op=false/\Neu P o (O6 fr (Q9 o.op)) ob (fun a=>a=s))\/∃new x,jU b i=some (new,x)/\BF P nt ops o (O6 fr (Q9 o.op)) new ob x s
def xN(ob:Obs):Xe->Obs
 | []=>ob
 | (_,_,x)::r=>x::xN ob r
theorem ED{a b:Xe}{e:Nat}(h:∀p∈a,p.1≠e):jU (a++b) e=jU b e:=by
 induction a with
 | nil=>rfl
 | cons y r f =>
  obtain⟨i,y⟩:=y;have c:i≠e:=h (i,y) (List.mem_cons_self ..);show cond (Nat.beq i e) (some y) (jU (r++b) e)=_;rw[R3 c];exact f fun p d=>h p (List.mem_cons_of_mem _ d)
theorem oW{ops:Array Oper}{K:Fr->Obs->List SV->Xe->Prop}{ob0:Obs}:∀{l:List Oper} {i:Nat} {fr:Fr} {ob:Obs} {sv:List SV} {u:Xe},oV P nt ops K i l fr ob sv u->ob=xN ob0 u->(∀p∈u,p.1<i) ->
  ∃c g,c.length=l.length/\(∀p∈g,i<=p.1/\p.1<i+l.length)/\desc (g.map (·.1))=true/\K (m8 l c fr) (xN ob0 (g++u)) (sv.reverse++c) (g++u) /\
   ∀j o,l[j]?=some o->∃B w,g=B++w/\(∀p∈w,p.1<i+j)/\(∀p∈B,i+j<=p.1)/\UB P nt ops o (i+j) (m8 (l.take j) (c.take j) fr) (xN ob0 (w++u)) (Z8 c j) g
 | [],i,fr,ob,sv,u,h,hob,_=>by
  refine⟨[],[],rfl,by simp,rfl,?_,fun j o Y=>by simp at Y⟩;rw[WL,WF,<-hob];exact h
 | o :: l,i,fr,ob,sv,u,h,hob,E=>by
  rcases h with ⟨Z,s,d,W,X,R⟩ | ⟨new,x,s,hq,R⟩
  ·obtain⟨c,g,J,v,L,M,N⟩:=oW (ob0:=ob0) R hob (fun p f=>by have:=E p f;omega);have D:m8 (o::l) (s::c) fr=m8 l c ((d,s)::fr):=by
    show m8 l c (match o.dst with | some d=>(d,s)::fr | none=>fr)=_;rw[W]
   refine⟨s::c,g,by simp[J],fun p f=>by have:=v p f;simp only[VD];omega,L,?_,?_⟩
   ·rw[D];simpa using M
   ·intro j U m;cases j with
    | zero =>
     simp at m;subst m;refine⟨g,[],by simp,by simp,fun p f=>by have:=v p f;omega,?_⟩;rw[WF,<-hob];exact .inl ⟨Z,X⟩
    | succ j =>
     obtain⟨B,w,F,G,H,C⟩:=N j U (by simpa using m);refine⟨B,w,F,fun p f=>by have:=G p f;omega,fun p f=>by have:=H p f;omega,?_⟩;have I:m8 ((o::l).take (j+1)) ((s::c).take (j+1)) fr=m8 (l.take j) (c.take j) ((d,s)::fr):=by
      show m8 (l.take j) (c.take j) (match o.dst with | some d=>(d,s)::fr | none=>fr)=_;rw[W]
     rw[I,show i+(j+1)=i+1+j by omega,show Z8 (s::c) (j+1)=Z8 c j by simp[Z8]];exact C
  ·obtain⟨c,g,J,v,L,M,N⟩:=oW (ob0:=ob0) R (by rw[hob];rfl) (fun p f=>by
    rcases VH.1 f with rfl | f
    ·exact Nat.lt_succ_self _
    ·have:=E p f;omega)
   refine⟨s::c,g++[(i,new,x)],by simp[J],?_,?_,?_,?_⟩
   ·intro p f;rcases VG.1 f with f | f
    ·have:=v p f;simp only[VD];omega
    ·simp at f;subst f;simp only[VD];omega
   ·have Q:∀(a:List Nat) (b:Nat),desc a=true->(∀x∈a,b<x)->desc (a++[b])=true:=by
     intro a b;induction a with
     | nil=>intro _ _;rfl
     | cons y r T =>
      intro O V;simp only[desc,VB]at O;simp only[WE,desc,VB];refine⟨List.all_eq_true.2 fun z A=>?_,T O.2 fun x E=>V x (List.mem_cons_of_mem _ E)⟩;rcases VG.1 A with A | A
      ·exact List.all_eq_true.1 O.1 z A
      ·simp at A;subst A;simpa using V y (List.mem_cons_self ..)
    rw[WC];refine Q _ i L fun y hy=>?_;obtain⟨p,f,rfl⟩:=VT.1 hy;have:=v p f;omega
   ·have e:m8 (o::l) (s::c) fr=m8 l c (match o.dst with | some d=>(d,s)::fr | none=>fr):=rfl;rw[e];simpa using M
   ·intro j U m;cases j with
    | zero =>
     simp at m;subst m;refine⟨g++[(i,new,x)],[],by simp,by simp,?_,?_⟩
     ·intro p f;rcases VG.1 f with f | f
      ·have:=v p f;omega
      ·simp at f;subst f;simp
     ·rw[WF,<-hob];refine .inr ⟨new,x,?_,hq⟩;rw[ED (fun p f=>by have:=v p f;omega)];show cond (Nat.beq i (i+0)) _ _=_;rw[Nat.add_zero,Nat.beq_refl];rfl
    | succ j =>
     obtain⟨B,w,F,G,H,C⟩:=N j U (by simpa using m);refine⟨B,w++[(i,new,x)],by rw[F];simp,?_,fun p f=>by have:=H p f;omega,?_⟩
     ·intro p f;rcases VG.1 f with f | f
      ·have:=G p f;omega
      ·simp at f;subst f;simp
     ·have I:m8 ((o::l).take (j+1)) ((s::c).take (j+1)) fr=m8 (l.take j) (c.take j) (match o.dst with | some d=>(d,s)::fr | none=>fr):=rfl;rw[I,show i+(j+1)=i+1+j by omega,show Z8 (s::c) (j+1)=Z8 c j by simp[Z8],VV];rcases C with C | ⟨n',x',e6,e7⟩
      ·exact .inl C
      ·refine .inr ⟨n',x',?_,e7⟩;have S:∀(a b:Xe) (e:Nat) y,jU a e=some y->jU (a++b) e=some y:=by
        intro a b e y;induction a with
        | nil=>intro h;cases h
        | cons z r T =>
         obtain⟨q,z⟩:=z;intro h;show cond (Nat.beq q e) (some z) (jU (r++b) e)=_;unfold jU at h;cases hb:Nat.beq q e
         ·rw[hb]at h;exact T h
         ·rw[hb]at h;exact h
       exact S _ _ _ _ e6
def OB(P:Program)(nt:Nat)(l:List Oper)(M:List (List Nat))(d:List (Nat×List Nat))(E:List Nat)(b:Fr)(ob0:Obs)(Q:Post)(fr:Fr)(ob:Obs)(sv:List SV)(c:Xe):Prop :=
 (m7 (c.map (·.1)) E&&(lL l.toArray sv b c&&BG c M))=true/\Ob1s P nt l sv c b ob0 d/\Q .normal fr ob
theorem xO{ob:Obs}:∀{a:Xe},desc (a.map fun p=>p.1)=true->gI a ob (a.map fun p=>p.1)=xN ob a:=by
 have g:∀(b:Xe) (a:Xe),(∀p∈a,jU b p.1=some p.2)->gI b ob (a.map (·.1))=xN ob a:=by
  intro b a;induction a with
  | nil=>intro _;rfl
  | cons y r f =>
   intro h;obtain⟨i,n,x⟩:=y;have e:=h (i,n,x) (List.mem_cons_self ..);have e:jU b i=some (n,x):=e;show (match jU b i with | some x=>x.2::gI b ob (r.map (fun p:Nat×Bool×(Nat×Ob)=>p.1)) | none=>gI b ob (r.map (fun p:Nat×Bool×(Nat×Ob)=>p.1)))=_;rw[e,f fun p c=>h p (List.mem_cons_of_mem _ c)];rfl
 intro a h;refine g a a ?_;have d:∀(a:Xe),desc (a.map (·.1))=true->∀p∈a,jU a p.1=some p.2:=by
  intro a;induction a with
  | nil=>intro _ p c;simp at c
  | cons y r f =>
   intro h p c;obtain⟨i,y⟩:=y;simp only[VR,desc,VB]at h;rcases VH.1 c with rfl | c
   ·show cond (Nat.beq i i) (some y) _=_;rw[Nat.beq_refl];rfl
   ·have j:p.1<i:=by simpa using List.all_eq_true.1 h.1 p.1 (VT.2 ⟨p,c,rfl⟩)
    show cond (Nat.beq i p.1) (some y) (jU r p.1)=_;rw[R3 (by omega)];exact f h.2 p c
 exact d a h
theorem MO{ob:Obs}{d c:Xe}{j:Nat}(n:desc ((d++c).map (·.1))=true)(ha:∀p∈d,j<=p.1)(hb:∀p∈c,p.1<j):gI (d++c) ob (BE ((d++c).map (·.1)) j)=xN ob c:=by
 have e:BE ((d++c).map (·.1)) j=c.map (·.1):=by
  unfold BE;rw[WC,WW,List.filter_eq_nil_iff.2,WF,List.filter_eq_self.2]
  ·intro y k;obtain⟨p,f,rfl⟩:=VT.1 k;simpa using hb p f
  ·intro y k;obtain⟨p,f,rfl⟩:=VT.1 k;have:=ha p f;simp;omega
 rw[e];have g:desc (c.map (·.1))=true:=by
  have:∀(a b:List Nat),desc (a++b)=true->desc b=true:=by
   intro a b;induction a with
   | nil=>exact fun h=>h
   | cons y r l=>intro h;simp only[WE,desc,VB]at h;exact l h.2
  rw[WC]at n;exact this _ _ n
 rw[<-xO (ob:=ob) g];have t:∀(D:List Nat),(∀e∈D,e<j)->gI (d++c) ob D=gI c ob D:=by
  intro D;induction D with
  | nil=>intro _;rfl
  | cons e D l =>
   intro h;have q:jU (d++c) e=jU c e:=ED fun p f=>by
    have:=ha p f;have:=h e (List.mem_cons_self ..);omega
   show (match jU (d++c) e with | some x=>x.2::gI (d++c) ob D | none=>gI (d++c) ob D)=(match jU c e with | some x=>x.2::gI c ob D | none=>gI c ob D)
   rw[q,l fun o i=>h o (List.mem_cons_of_mem _ i)]
 refine t _ fun e s=>?_;obtain⟨p,f,rfl⟩:=VT.1 s;exact hb p f
theorem jW{id:Nat}{l:List Oper}{fr:Fr}{ob:Obs}{Q:Post}(E:List Nat)(M:List (List Nat))(k:List (Nat×List Nat))(hm:P.follows .mixedOrders=true)
  (W:uT nt l E M k=true) (h:oV P nt l.toArray (OB P nt l M k E fr ob Q) 0 l fr ob [] []):WpC P nt (.region id l.toArray true) fr ob Q:=by
 obtain⟨sv,R,q,z,G,U,h5⟩:=oW (ob0:=ob) h rfl (fun p hp=>by simp at hp);rw[WL,List.reverse_nil,WF]at U;obtain⟨A,w,hQ⟩:=U;simp only[VB]at A;have hE:=v7 A.1;have f:=W;unfold uT at f;simp only[VB]at f;obtain⟨⟨⟨⟨⟨⟨b1,b2⟩,b3⟩,b4⟩,b5⟩,b6⟩,b7⟩:=f;refine rP sv R M k hm q (by rw[hE];exact W) ?_ A.2.1 A.2.2 w (fr':=m8 l sv fr) (fun t s B=>lM q B) (by rw[xO G];exact hQ);intro i X;have K:l[i]?=some l[i]:=VA X;obtain⟨xa,xb,e1,S,T,C⟩:=h5 i _ K;rw[Nat.zero_add]at S T C;rw[WL]at C;have L:gI R ob (BE (R.map (·.1)) i)=xN ob xb:=by
  rw[e1]at G ⊢;exact MO G T S
 have hU:UIn l sv fr l[i] (O6 (m8 (l.take i) (sv.take i) fr) (Q9 l[i].op)):=by
  intro t s B;have y:=Y9 B;refine⟨y,?_⟩;have N:=List.all_eq_true.1 b2 i (VL.2 X);simp only[List.getElem?_toArray,K]at N;simp only[VB]at N;obtain⟨q3,q4,q5,q6,q7⟩:=N;rcases lM (by rw[VM,VM];omega) (T6 B) with ⟨j,c,h6,h7,u⟩ | ⟨h6,h7⟩
  ·have Y:j<i:=by
    have:=(List.getElem?_eq_some_iff.1 h6).1;rw[VM]at this;omega
   rw[WH Y]at h6;refine .inl ⟨j,c,h6,h7,?_⟩;rw[u];unfold Z8;rw[VK,VK,WH Y]
  ·refine .inr ⟨?_,h7⟩;intro J;have I:∀(m:List Oper) (t:Nat),t∈V9 m->∃(j:Nat) (c:Oper),m[j]?=some c/\c.dst=some t:=by
    intro m t;induction m with
    | nil=>intro h;simp[V9]at h
    | cons o m Z =>
     intro h;unfold V9 at h;cases H:o.dst with
     | none=>rw[H]at h;obtain⟨j,c,q,z⟩:=Z h;exact⟨j+1,c,by simpa using q,z⟩
     | some d =>
      rw[H]at h;rcases VH.1 h with rfl | h
      ·exact⟨0,o,rfl,H⟩
      ·obtain⟨j,c,q,z⟩:=Z h;exact⟨j+1,c,by simpa using q,z⟩
   obtain⟨j,c,u,V⟩:=I l t J;have v:j<l.length:=(List.getElem?_eq_some_iff.1 u).1;have a:=List.all_eq_true.1 (List.all_eq_true.1 q5.1 t y) j (VL.2 v);simp only[u,V]at a;have a:Bef l.toArray i j=true:=by simpa using a
   have b:=List.all_eq_true.1 q5.2 j (VL.2 v);rw[a]at b;have b:j<i:=by simpa using b
   exact h6 (bD (l:=l.take i) (j:=j) (by rw[WH b];exact u) V)
 refine⟨l[i],_,K,hU,?_⟩;rw[L];rcases C with ⟨D,F⟩ | ⟨n,x,D,F⟩
 ·exact .inl ⟨D,F⟩
 ·exact .inr ⟨n,x,D,F⟩
theorem p9{ops:Array Oper}{K:Fr->Obs->List SV->Xe->Prop}{i d:Nat}{l:List Oper}{fr:Fr}{ob:Obs}{sv:List SV}{b:Xe}{a:Op}{ty:TypeId}{pos:String}{af:Array Edge}{gd:Option (Nat×Bool)}{s:SV}(c:turns a=false)
  (h:Neu P ⟨some d,a,ty,pos,af,gd⟩ (O6 fr (Q9 a)) ob (fun e=>e=s)) (k:oV P nt ops K (i+1) l ((d,s)::fr) ob (s::sv) b):oV P nt ops K i (⟨some d,a,ty,pos,af,gd⟩::l) fr ob sv b :=
 .inl ⟨c,s,d,rfl,h,k⟩
theorem EE{ops:Array Oper}{K:Fr->Obs->List SV->Xe->Prop}{i d:Nat}{l:List Oper}{fr:Fr}{ob:Obs}{sv:List SV}{g:Xe}{ty:TypeId}{pos:String}{af:Array Edge}(k:Nat){e:TypeId}{z:Value}[hz:TyZero P e z](h:M1 k ob=true)(j:Nat.blt d nt=true)
  (m:oV P nt ops K (i+1) l ((d,.s (.one (.ref k 0)))::fr) ((k,.box (z.cells.toList.map fun c=>.p (.v c)))::ob) ((.s (.one (.ref k 0)))::sv) ((i,true,(k,.box (z.cells.toList.map fun c=>.p (.v c))))::g)) :
  oV P nt ops K i (⟨some d,.alloc e,ty,pos,af,none⟩::l) fr ob sv g :=
 .inr ⟨true,_,_,MM h j,m⟩
theorem EF{ops:Array Oper}{K:Fr->Obs->List SV->Xe->Prop}{i:Nat}{l:List Oper}{fr:Fr}{ob:Obs}{sv:List SV}{c:Xe}{b:Op}{ty:TypeId}{pos:String}{af:Array Edge}{x:Nat×Ob}(h:MK P ⟨none,b,ty,pos,af,none⟩ (O6 fr (Q9 b)) ob (x::ob))
  (d:oV P nt ops K (i+1) l fr (x::ob) (.any::sv) ((i,false,x)::c)):oV P nt ops K i (⟨none,b,ty,pos,af,none⟩::l) fr ob sv c :=
 .inr ⟨false,x,.any,MN h,d⟩
theorem OC{ops:Array Oper}{l:List Oper}{M:List (List Nat)}{d:List (Nat×List Nat)}{E:List Nat}{b:Fr}{c:Obs}{Q:Post}{i:Nat}{fr:Fr}{ob:Obs}{sv:List SV}{e:Xe}
  (h:(m7 (e.map (·.1)) E&&(lL l.toArray sv.reverse b e&&BG e M))=true) (f:Ob1s P nt l sv.reverse e b c d) (g:Q .normal fr ob):oV P nt ops (OB P nt l M d E b c Q) i [] fr ob sv e:=⟨h,f,g⟩
theorem OD{l:List Oper}{sv:List SV}{a:Xe}{fr:Fr}{ob:Obs}:Ob1s P nt l sv a fr ob []:=trivial
theorem r5{l:List Oper}{sv:List SV}{a:Xe}{fr:Fr}{ob:Obs}{i:Nat}{D:List Nat}{r:List (Nat×List Nat)}{o:Oper}(b:l[i]?=some o)(c:turns o.op=false)(h:Neu P o (O6 (jT l sv fr) (Q9 o.op)) (gI a ob D) (fun d=>d=Z8 sv i))
  (k:Ob1s P nt l sv a fr ob r):Ob1s P nt l sv a fr ob ((i,D)::r):=⟨⟨o,b,.inl ⟨c,h⟩⟩,k⟩
section
variable {P:Program}{dst:Option Tmp}{ty:TypeId}{pos:String}{af:Array Edge}{gd:Option (Nat×Bool)}{fr:Fr}{ob:Obs}
def iN(fr:Fr):List Operand->Option (List (Nat×Nat))
 | []=>some []
 | x::r=>match opv fr x with
  | some (.s (.one (.ref k o)))=>(iN fr r).map ((k,o)::·)
  | _=>none
theorem iO{S:Ctx}{G:Gh}{a:Act}{w:World}(h:Sim P S fr ob G a w):∀(c:List Operand) (ps:List (Nat×Nat)),iN fr c=some ps->All2 (mJ G) ps (c.map a.eval)
 | [],ps,h1=>by simp[iN]at h1;subst h1;trivial
 | x::r,ps,h1=>by
  unfold iN at h1;split at h1
  ·rename_i k o d;cases b:iN fr r with
   | none=>rw[b]at h1;simp at h1
   | some e =>
    rw[b]at h1;simp at h1;subst h1;exact⟨F9 h d,iO h r e b⟩
  ·cases h1
theorem oX{f:FuncId}{first b:List Operand}{g d:List (Nat×Nat)}(i:iN fr first=some g)(j:iN fr b=some d) :
  Neu P ⟨dst,.makeFunc (.func f) first.toArray b.toArray,ty,pos,af,gd⟩ fr ob (fun p=>p=.s (.one (.clo f g d))) :=
 E3 fun S G a w h=>by
  refine⟨.func (.func f) (first.map a.eval).toArray (b.map a.eval).toArray,?_,_,_,rfl,iO h first g i,iO h b d j⟩;simp[execOp,Instr.makeFunc]
abbrev IY(p:Nat×Nat):S1:=.one (.ref p.1 p.2)
theorem oY{b:Rd}{G:Gh}:∀{l:List (Nat×Nat)} {a:List Value},All2 (mJ G) l a->All2 (S1.rep b G) (l.map IY) a
 | [],[],_=>trivial
 | [],_::_,h=>h.elim
 | _::_,[],h=>h.elim
 | _::l,_::a,h=>⟨h.1,oY h.2⟩
section
variable {nt:Nat}{ops:Array Oper}{rest:List Oper}{Q:Post}{d:Nat}
theorem BH{f:FuncId}{g:Operand}{q:List Operand}{J:Array TypeId}{ty:TypeId}{pos:String}{af:Array Edge}{Z Y:List (Nat×Nat)}{args:List S1}{N:List Nat}{m:List S1->Obs->Prop}
  (hf:Met P f (Z.map IY++args++Y.map IY) (fH fr) ob N m) (hg:opv fr g=some (.s (.one (.clo f Z Y)))) (ha:gG fr q=some args) (hc:q.all G7=true) (hd:Nat.blt d nt=true)
  (kk:∀rs ob',m rs ob'->WpL P nt ops rest ((d,xF rs)::C9 N fr) ob' Q):WpL P nt ops (⟨some d,.call ⟨.value g,q.toArray,J⟩,ty,pos,af,none⟩::rest) fr ob Q:=by
 intro S G a w hn h;obtain⟨O,R,U,W,X⟩:=F9 h hg;have H:All2 (S1.rep (E4 (Mut S ob G) w) G) (Z.map IY++args++Y.map IY) (O++q.map a.eval++R):=((oY W).append (j4 h q args ha hc)).append (oY X);obtain⟨I,C⟩:∃I:Nat->Value,I=fun i=>S.sl a (i-1000000):=⟨_,rfl⟩
 let S':Ctx:={ S with gv:=I }
 have E:High (fH fr):=fun i s L=>(c5 fr i s L).1;have b:∀i s,E0 (fH fr) i=some s->s.rep (E4 (Mut S' ob G) w) G (S'.sl a i):=by
  intro i s L;obtain⟨D,T⟩:=c5 fr i s L;rw[Ctx.sl_ge D];show s.rep _ _ (I i);have e:=congrFun C i;rw[e];exact h.facts (i-1000000) s T
 have hs:Sim P S' (fH fr) ob G a w:={ h with facts:=b }
 have x:=hf.2 E S' G a w _ hs H;refine wpList_plain rfl fun K hK=>J7 (K:=fun v w'=>∃rs ob' G',m rs ob'/\X3 (E4 (Mut S' ob' G') w') G' rs v/\Sim P S' (C9 N (fH fr)) ob' G' a w') ?_ ?_
 ·have he:(execOp a.eval ⟨some d,.call ⟨.value g,q.toArray,J⟩,ty,pos,af,none⟩).run P w=.ok (.enter f (O++q.map a.eval++R).toArray) w:=by
   have:=N8 (P:=P) (f:=f) (args:=(O++q.map a.eval++R).toArray) (w:=w) hf.1;simp only[execOp,resolve,U,Deferred.ofValue,Sem.run_bind,Sem.run_pure,Result.andThen_ok,invoke];rw[show O.toArray++Array.map a.eval q.toArray++R.toArray=(O++q.map a.eval++R).toArray by simp];exact this
  unfold Does;rw[he];refine x.mono ?_;rintro e w' ⟨v,rs,ob',G',rfl,F,j,B⟩;exact⟨v,rfl,rs,ob',G',F,j,B⟩
 ·rintro v w' ⟨rs,ob',G',hp,j,B⟩;have V:d<S.nt:=by rw[hn];simpa using hd
  have z:∀i s,E0 (C9 N fr) i=some s->s.rep (E4 (Mut S ob' G') w') G' (S.sl a i):=by
   intro i s L;have D:=B.facts (i+1000000) s (by rw[m6];exact nW L);have T:1000000<=i+1000000:=Nat.le_add_left _ _;rw[Ctx.sl_ge T]at D;have D:s.rep (E4 (Mut S ob' G') w') G' (I (i+1000000)):=D;have e:=congrFun C (i+1000000);simp only[Nat.add_sub_cancel]at e;rw[e]at D;exact D
  have M:Sim P S (C9 N fr) ob' G' a w':={ B with facts:=z }
  exact hK _ _ (kk rs ob' hp S G' _ w' hn (M.put V j))
end
def L5{κ:Type}[DecidableEq κ]:List (κ×Cell)->κ->Option Cell
 | [],_=>none
 | (k,c)::r,a=>if k=a then some c else L5 r a
class TyMap (P:Program) (t:TypeId) (kt:outParam TypeId) (kd:outParam TypeDesc) (z:outParam Value):Prop where
 out:∃et,P.underlying t=some (.map kt et)/\P.underlying kt=some kd/\(P.info? et).bind (·.zero)=some z/\z.oneCell'=true
theorem sQ(k:Nat)(κ:Type)(i:κ->Value){t:TypeId}(g:(H4 k fr&&M1 k ob)=true) :
  EffV P ⟨dst,.makeMap t none,ty,pos,af,gd⟩ fr ob (.s (.one (.mut k))) fr ((k,.map κ i [])::ob):=by
 simp only[VB]at g;obtain⟨j,q⟩:=g;obtain⟨r,x,z⟩:=R5 q;intro S G a w h;refine G3 (w':=w.alloc (.map #[] 0)) (v:=.map (some w.heap.size)) ?_ ?_
 ·simp only[execOp,Option.map_none];exact J3 rfl
 ·have d:Below w.heap.size w (w.alloc (.map #[] 0)):=(Below.refl _ _).alloc (Nat.le_refl _) _;have A:∀b,blk (.map (some w.heap.size))=some b->w.heap.size<=b:=by intro b hb;simp[blk]at hb;omega
  have f:=h.new (o:=.map κ i []) z x d A ⟨w.heap.size,#[],0,rfl,heap_alloc_new w _,trivial⟩;rw[R4 j,r]at f;exact⟨upd G k (.map (some w.heap.size)),f,(G6 _ _ _).symm,rfl⟩
theorem lN{κ:Type}[DecidableEq κ]{q:κ->Value}{w:TypeDesc}(d:∀a,MapKept.IsKey w (q a))(o:∀a b,q a=q b->a=b){B:Rd}(a:κ):∀(f:List (κ×Cell)) (t:List MapEntry) (i:Nat),
  All2 (fun (A:κ×Cell) (e:MapEntry)=>e.key=q A.1/\A.2.rep B e.val) f t ->
  (L5 f a=none/\Instr.findNow w (q a) t i=some none)\/∃c j v,L5 f a=some c/\Instr.findNow w (q a) t i=some (some (j,v))/\c.rep B v
 | [],[],_,_=>.inl ⟨rfl,rfl⟩
 | [],_::_,_,h=>h.elim
 | _::_,[],_,h=>h.elim
 | (k,c)::f,e::t,i,h=>by
  obtain⟨⟨C,D⟩,E⟩:=h;obtain⟨r,F,g⟩:=MapKept.sameNow_of_keys (d a) (d k);have p:Instr.sameNow w (q a) e.key=some r:=by rw[C];exact F
  by_cases u:k=a
  ·subst u;have:r=true:=g.2 rfl;subst this;exact .inr ⟨c,i,e.val,by simp[L5],by simp[Instr.findNow,p],D⟩
  ·have:r=false:=by
    cases r
    ·rfl
    ·exact absurd (o _ _ (g.1 rfl)).symm u
   subst this;rcases lN d o a f t (i+1) E with ⟨x,z⟩ | ⟨c',j,v,x,z,h6⟩
   ·exact .inl ⟨by simp[L5,u,x],by simp[Instr.findNow,p,z]⟩
   ·exact .inr ⟨c',j,v,by simp[L5,u,x],by simp[Instr.findNow,p,z],h6⟩
theorem oZ{x y:Operand}{t O:TypeId}{H:TypeDesc}{z:Value}{k:Nat}{κ:Type}[DecidableEq κ]{i:κ->Value}{f:List (κ×Cell)}(a0:κ){r:Option Cell}[ht:TyMap P t O H z](N:opv fr x=some (.s (.one (.mut k))))(L:C5 ob k=some (.map κ i f))
  (F:opv fr y=some (H6 (i a0))) (d:∀a,MapKept.IsKey H (i a)) (g:∀a b,i a=i b->a=b) (M:L5 f a0=r) :
  Neu P ⟨dst,.lookup t x y true,ty,pos,af,gd⟩ fr ob (fun Q=>Q=.tup [.one (.p (r.getD (.v z))),.one (.p (.v (.bool r.isSome)))]) :=
 E3 fun S G a w h=>by
  obtain⟨U,I,q,R,T⟩:=ht.out;obtain⟨D,_⟩:=F9 h N;obtain⟨b,J,A,K,E,ha⟩:=h.obs k _ L;rw[K]at D;subst M;rcases lN d g a0 f J.toList 0 ha with ⟨B,C⟩ | ⟨c,j,v,B,C,h6⟩
  ·refine⟨.tuple #[z,.bool false],?_,[z,.bool false],rfl,?_⟩
   ·simp only[execOp,D,F2 h F];refine J3 ?_;simp only[Instr.lookup,Sem.run_bind,run_underlying I,Result.andThen_ok,MapKept.run_getObj_map E,Sem.run_pure,MapKept.run_checkKey q (d a0),MapKept.run_findKey q C,J4 R];rfl
   ·rw[B];exact⟨⟨rfl,T⟩,⟨rfl,rfl⟩,trivial⟩
  ·refine⟨.tuple #[v,.bool true],?_,[v,.bool true],rfl,?_⟩
   ·simp only[execOp,D,F2 h F];refine J3 ?_;simp only[Instr.lookup,Sem.run_bind,run_underlying I,Result.andThen_ok,MapKept.run_getObj_map E,Sem.run_pure,MapKept.run_checkKey q (d a0),MapKept.run_findKey q C];rfl
   ·rw[B];exact⟨h6,⟨rfl,rfl⟩,trivial⟩
theorem IZ{x y v:Operand}{t kt:TypeId}{K:TypeDesc}{z:Value}{k:Nat}{κ:Type}[DecidableEq κ]{g:κ->Value}{l:List (κ×Cell)}(a0:κ){c:Cell}[ht:TyMap P t kt K z](Z:opv fr x=some (.s (.one (.mut k))))(L:C5 ob k=some (.map κ g l))
  (hy:opv fr y=some (H6 (g a0))) (Y:opv fr v=some (.s (.one (.p c)))) (T:G7 v=true) (q:∀a,MapKept.IsKey K (g a)) (B:∀a b,g a=g b->a=b) (X:L5 l a0=none) :
  Eff P ⟨none,.mapUpdate t x y v,ty,pos,af,gd⟩ fr ob fr ((k,.map κ g (l++[(a0,c)]))::ob):=by
 intro S G a w h;obtain⟨et,u1,N,u3,u4⟩:=ht.out;obtain⟨M,_⟩:=F9 h Z;obtain⟨b,D,f,F,H,ha⟩:=h.obs k _ L;rw[F]at M;have J:c.rep (E4 (Mut S ob G) w) (a.eval v):=M2 h Y T;obtain⟨E,R⟩:=MapKept.heap_set (o':=.map (D.push { key:=g a0,val:=a.eval v,born:=f }) (f+1)) H;have W:Instr.findNow K (g a0) D.toList 0=some none:=by
  rcases lN q B a0 l D.toList 0 ha with ⟨_,E⟩ | ⟨c,j,v,h4,_,_⟩
  ·exact E
  ·rw[X]at h4;cases h4
 have V:(execOp a.eval ⟨none,.mapUpdate t x y v,ty,pos,af,gd⟩).run P w=.ok .skip { w with heap:=w.heap.setIfInBounds b (.map (D.push { key:=g a0,val:=a.eval v,born:=f }) (f+1)) }:=by
  simp only[execOp,M,F2 h hy];simp only[Instr.mapUpdate,Sem.run_bind,run_underlying u1,Result.andThen_ok,MapKept.run_getObj_map H,MapKept.run_checkKey N (q a0),MapKept.run_findKey N W,MapKept.run_setObj_map _ H];rfl
 unfold Does;rw[V];have A:blk (G k)=some b:=by rw[F];rfl
 refine⟨G,h.write L A (fun i=>⟨A,trivial⟩) (fun i=>⟨A,trivial⟩) rfl rfl rfl (by simp) (fun j _ I=>R j I) ?_⟩;intro rd C;refine⟨b,_,_,F,E,?_⟩;rw[Array.toList_push];exact (ha.mono fun _ _ ⟨O,Q⟩=>⟨O,Cell.rep_mono C _ _ Q⟩).append ⟨⟨rfl,Cell.rep_mono C _ _ J⟩,trivial⟩
abbrev iP(s:List UInt8):Value:=.string ⟨s.toArray⟩
theorem dZ(a:List UInt8):MapKept.IsKey .string (iP a):=trivial
theorem eC(a b:List UInt8)(h:iP a=iP b):a=b:=by
 simp only[iP,Value.string.injEq,ByteArray.mk.injEq]at h;simpa using congrArg Array.toList h
end
abbrev Mo:=List (List Nat×Obs)
def S2:Mo->List Nat->Option Obs
 | [],_=>none
 | (D',ob)::r,D=>cond (m7 D' D) (some ob) (S2 r D)
abbrev Sv:=List (Nat×SV)
def N6:Sv->Nat->Option SV
 | [],_=>none
 | (i,s)::r,j=>cond (Nat.beq i j) (some s) (N6 r j)
abbrev Ed:=List (Nat×(List Nat×List Nat))
def g9:Ed->Nat->List Nat×List Nat
 | [],_=>([],[])
 | (i,x)::r,e=>cond (Nat.beq i e) x (g9 r e)
def Z3(ks:List Nat)(fr:Fr):Fr:=fr.filter fun p=>!(K7 ks p.1)
theorem BI{ks:List Nat}:∀{fr:Fr} {t:Nat} {s:SV},E0 (Z3 ks fr) t=some s↔t∉ks/\E0 fr t=some s
 | [],t,s=>by simp[Z3,E0]
 | (i,x)::r,t,s=>by
  have c:=BI (ks:=ks) (fr:=r) (t:=t) (s:=s);unfold Z3 at c ⊢;cases b:K7 ks i
  ·rw[List.filter_cons_of_pos (by simp[b])];by_cases a:i=t
   ·subst a;rw[D7,D7];have:i∉ks:=fun q=>by rw[xL.2 q]at b;cases b
    simp[this]
   ·rw[C6 a,C6 a];exact c
  ·rw[List.filter_cons_of_neg (by simp[b])];rw[c];by_cases a:i=t
   ·subst a;have:i∈ks:=xL.1 b;simp[this]
   ·rw[C6 a]
def xP(U a:Fr):Prop:=∀t s,E0 U t=some s->E0 a t=some s
def FO(P:Program)(nt:Nat)(o:Oper)(U:Fr)(e b:List Nat)(ob ob':Obs)(s:SV):Prop :=
 ∀c,xP U c->(∀k∈e,∀t x,E0 c t=some x->t∉b->x.free k=true)->∀S G a w,S.nt=nt->Sim P S c ob G a w ->
  Does P o a w (fun v w'=>∃G',Sim P S (Z3 b c) ob' G' a w'/\∀d,o.dst=some d->s.rep (E4 (Mut S ob' G') w') G' v)
def fW(l:List Oper):Sv->Fr->Fr
 | [],fr=>fr
 | (i,s)::r,fr=>match (l[i]?).bind (·.dst) with
  | some d=>(d,s)::fW l r fr
  | none=>fW l r fr
def bE(l:List Oper)(c:Sv)(o:Oper):Bool :=
 (Q9 o.op).all fun u=>(List.range l.length).all fun j=>match (l[j]?).bind (·.dst) with
  | some d=>!(Nat.beq d u)||(N6 c j).isSome
  | none=>true
def UIn2(l:List Oper)(a:Sv)(fr:Fr)(o:Oper)(U:Fr):Prop :=
 ∀t s,E0 U t=some s->t∈Q9 o.op/\((∃j b,l[j]?=some b/\b.dst=some t/\N6 a j=some s)\/(t∉V9 l/\E0 fr t=some s))
def JA(a ob:Obs):Prop:=∀k o,C5 a k=some o->C5 ob k=some o
theorem pA{l:List Oper}{fr:Fr}:∀{m:Sv} {t:Nat} {s:SV},E0 (fW l m fr) t=some s->(∃j o,N6 m j=some s/\l[j]?=some o/\o.dst=some t)\/(E0 fr t=some s/\∀j o,N6 m j≠none->l[j]?=some o->o.dst≠some t)
 | [],t,s,h=>.inr ⟨h,fun j o p=>absurd rfl p⟩
 | (i,x)::r,t,s,h=>by
  unfold fW at h;have f:(∀d,(l[i]?).bind (·.dst)=some d->d≠t)->E0 (fW l r fr) t=some s->(∃j o,N6 ((i,x)::r) j=some s/\l[j]?=some o/\o.dst=some t)\/(E0 fr t=some s/\∀j o,N6 ((i,x)::r) j≠none->l[j]?=some o->o.dst≠some t):=by
   intro a h;rcases pA h with ⟨j,o,w,v,y⟩ | ⟨w,v⟩
   ·left;refine⟨j,o,?_,v,y⟩;have g:i≠j:=fun e=>by
     subst e;rw[v]at a;exact a t (by simpa using y) rfl
    show cond (Nat.beq i j) _ _=_;rw[R3 g];exact w
   ·right;refine⟨w,fun j o p q u=>?_⟩;by_cases g:i=j
    ·subst g;rw[q]at a;exact a t (by simpa using u) rfl
    ·have p:cond (Nat.beq i j) (some x) (N6 r j)≠none:=p;rw[R3 g]at p;exact v j o p q u
  split at h
  ·rename_i d a;by_cases k:d=t
   ·subst k;rw[D7]at h;cases h;cases q:l[i]? with
    | none=>rw[q]at a;cases a
    | some o =>
     rw[q]at a;exact .inl ⟨i,o,by show cond (Nat.beq i i) _ _=_;rw[Nat.beq_refl];rfl,q,by simpa using a⟩
   ·rw[C6 k]at h;exact f (fun z c=>by rw[a]at c;cases c;exact k) h
  ·rename_i a;exact f (fun z c=>by rw[a]at c;cases c) h
theorem jX:∀{l:List Oper} {t:Nat},t∈V9 l->∃(j:Nat) (o:Oper),l[j]?=some o/\o.dst=some t
 | [],t,h=>by simp[V9]at h
 | o::l,t,h=>by
  unfold V9 at h;cases c:o.dst with
  | none=>rw[c]at h;obtain⟨j,e,a,b⟩:=jX h;exact⟨j+1,e,by simpa using a,b⟩
  | some d =>
   rw[c]at h;rcases VH.1 h with rfl | h
   ·exact⟨0,o,rfl,c⟩
   ·obtain⟨j,e,a,b⟩:=jX h;exact⟨j+1,e,by simpa using a,b⟩
theorem nX{l:List Oper}{a:Sv}{fr:Fr}{o:Oper}(h:bE l a o=true):UIn2 l a fr o (O6 (fW l a fr) (Q9 o.op)):=by
 intro t s p;have c:=Y9 p;refine⟨c,?_⟩;rcases pA (T6 p) with ⟨j,k,d,f,b⟩ | ⟨d,f⟩
 ·exact .inl ⟨j,k,f,b,d⟩
 ·refine .inr ⟨fun g=>?_,d⟩;obtain⟨j,k,b,m⟩:=jX g;have:=List.all_eq_true.1 (List.all_eq_true.1 h t c) j (VL.2 (List.getElem?_eq_some_iff.1 b).1);rw[b]at this;simp only[Option.bind_some,m,Nat.beq_refl,Bool.not_true,Bool.false_or]at this;exact f j k (fun e=>by rw[e]at this;cases this) b m
def Task(P:Program)(nt:Nat)(l:List Oper)(fr:Fr)(a:Sv)(E:List Nat)(b:Ed)(i:Nat)(ob:Obs)(s:SV)(T:Obs->Prop):Prop :=
 ∃o U,l[i]?=some o/\UIn2 l a fr o U/\((K7 E i=false/\Neu P o U ob (fun c=>c=s))\/(K7 E i=true/\∃ob',FO P nt o U (g9 b i).1 (g9 b i).2 ob ob' s/\T ob'))
def JB(nt:Nat)(l:List Oper)(E:List Nat)(Ms:List (List Nat))(c:Ed)(b:List (Nat×List Nat)):Bool :=
 let ops:=l.toArray;let n:=l.length
 (l.all fun o=>o.guard.isNone&&match o.dst with | some d=>Nat.blt d nt | none=>true) &&
 ((List.range n).all fun i=>match ops[i]? with
  | some o=>(K7 E i||o.dst.isSome)&&(((Q9 o.op).all fun u=>((List.range n).all fun j=>match ops[j]? with
    | some f=>(match f.dst with | some d=>!(Nat.beq d u)||Bef ops i j | none=>true)
    | none=>true)&&E.all fun e=>Nat.beq e i||!(K7 (g9 c e).2 u)||Bef ops e i) &&
   ((o.after.toList.all fun e=>!(Region.binds .any e)||Nat.blt e.on i)&&(Ms.all fun D=>!(dX ops E i D)||b.any fun p=>Nat.beq p.1 i&&m7 p.2 D)))
  | none=>false) &&
 dY (V9 l)&&desc E&&(E.all fun e=>Nat.blt e n)&&IW Ms []&&(Ms.all fun D=>E.all fun e=>!(dX ops E e D)||IW Ms (v6 e D))
structure InvK (l:List Oper) (E:List Nat) (svs:Sv) (ed:Ed) (fr:Fr) (listed:Array Bool) (frc:Fr):Prop where
 put:∀j o d s,l[j]?=some o->listed.getD j false=true->o.dst=some d->N6 svs j=some s->(∀e∈E,listed.getD e false=true->d∉(g9 ed e).2)->E0 frc d=some s
 from':∀t s,E0 frc t=some s->(∃j o,l[j]?=some o/\listed.getD j false=true/\o.dst=some t/\N6 svs j=some s)\/E0 fr t=some s
 old:∀t s,E0 fr t=some s->t∉V9 l->(∀e∈E,listed.getD e false=true->t∉(g9 ed e).2)->E0 frc t=some s
def gJ(l:List Oper)(ops:Array Oper)(c:Sv)(fr:Fr):Ed->Bool
 | []=>true
 | (e,ks,kills)::r=>(ks.all fun k=>((List.range ops.size).all fun j=>Nat.beq j e||Bef ops j e||match (l[j]?).bind (·.dst),N6 c j with
   | some d,some s=>K7 kills d||s.free k
   | _,_=>true)&&fr.all fun p=>K7 kills p.1||p.2.free k)&&gJ l ops c fr r
theorem OX{id:Nat}{l:List Oper}{fr:Fr}{bl:Obs}{Q:Post}(E:List Nat)(Ms:List (List Nat))(T:Ed)(ae:List (Nat×List Nat))(X:Sv)(M:Mo)(hm:P.follows .mixedOrders=true)
  (hB:JB nt l E Ms T ae=true) (co:∀e∈E,∃x,(e,x)∈T/\g9 T e=x) (bc:gJ l l.toArray X fr T=true) (h0:S2 M []=some bl)
  (ht:∀p∈ae,∃ob s,S2 M p.2=some ob/\N6 X p.1=some s/\Task P nt l fr X E T p.1 ob s (fun ob'=>∃au,S2 M (v6 p.1 p.2)=some au/\JA au ob'))
  {fr':Fr} {bm:Obs} (bz:S2 M E=some bm) (bq:∀t s,E0 fr' t=some s->(∀e∈E,t∉(g9 T e).2)/\((∃j o',l[j]?=some o'/\o'.dst=some t/\N6 X j=some s)\/(t∉V9 l/\E0 fr t=some s)))
  (hQ:Q .normal fr' bm):WpC P nt (.region id l.toArray true) fr bl Q:=by
 intro S G a w hn hs;unfold JB at hB;simp only[VB]at hB;obtain⟨⟨⟨⟨⟨⟨b1,b2⟩,b3⟩,b4⟩,b5⟩,b6⟩,b7⟩:=hB
 have bi:∀i o,l[i]?=some o->o.guard=none/\(∀d,o.dst=some d->d<nt)/\(K7 E i=true\/∃d,o.dst=some d)/\(∀u∈Q9 o.op,∀j oj,l[j]?=some oj->oj.dst=some u->Bef l.toArray i j=true) /\
   (∀u∈Q9 o.op,∀e∈E,e≠i->u∈(g9 T e).2->Bef l.toArray e i=true)/\(∀e∈o.after.toList,Region.binds .any e=true->e.on<i)/\(∀D∈Ms,dX l.toArray E i D=true->(i,D)∈ae):=by
  intro i o J;have bg:i<l.length:=(List.getElem?_eq_some_iff.1 J).1;have ac:o∈l:=VZ J;have q1:=List.all_eq_true.1 b1 o ac;have q2:=List.all_eq_true.1 b2 i (VL.2 bg);simp only[List.getElem?_toArray,J]at q2;simp only[VB]at q1 q2;obtain⟨q4,q5,q6,q7⟩:=q2;refine⟨by simpa using q1.1,?_,?_,?_,?_,?_,?_⟩
  ·intro d hd;have:=q1.2;rw[hd]at this;simpa using this
  ·rcases (VU _ _).mp q4 with h | h
   ·exact .inl h
   ·exact .inr (Option.isSome_iff_exists.1 h)
  ·intro u hu j oj K hd;have bs:j<l.length:=(List.getElem?_eq_some_iff.1 K).1;have I:=List.all_eq_true.1 q5 u hu;simp only[VB]at I;have:=List.all_eq_true.1 I.1 j (VL.2 bs);simp only[K,hd]at this;simpa using this
  ·intro u hu e V ao hk;have I:=List.all_eq_true.1 q5 u hu;simp only[VB]at I;have:=List.all_eq_true.1 I.2 e V;rw[R3 ao,xL.2 hk]at this;simpa using this
  ·intro e V cl;have:=List.all_eq_true.1 q6 e V;rw[cl]at this;simpa using this
  ·intro D hD hp;have:=List.all_eq_true.1 q7 D hD;rw[hp]at this;simp only[Bool.not_true,Bool.false_or]at this;obtain⟨p,cx,bj⟩:=List.any_eq_true.1 this;simp only[VB]at bj;have e1:=Nat.eq_of_beq_eq_true bj.1;have e2:=v7 bj.2;obtain⟨p1,p2⟩:=p;simp only at e1 e2;rw[<-e1,<-e2];exact cx
 have di:∀(j t:Nat),(l.toArray[j]?).bind (fun o=>o.dst)=some t->t<nt:=by
  intro j t ht;cases J:l[j]? with
  | none=>simp[J]at ht
  | some o=>simp[J]at ht;exact (bi j o J).2.1 t ht
 refine wp_region_any hm ?_;have dd:Below w.heap.size w { w with drawn:=w.drawn+1 }:=⟨rfl,rfl,rfl,Nat.le_refl _,fun _ _=>rfl⟩
 have dh : ∀(R:Nat) (A:Array Bool) (H:Fr) (ob:Obs) (G:Gh) (a:Act) (w:World),A.size=l.length->unl A l.length=R->Closed l.toArray A->(E.filter fun j=>A.getD j false)∈Ms->S2 M (E.filter fun j=>A.getD j false)=some ob->InvK l E X T fr A H->Sim P S H ob G a w ->
   wpAny P .any l.toArray (PostOf P S Q) R A a w:=by
  intro R;induction R with
  | zero =>
   intro A H ob G a w ce hu hc hM ai hI am;have Y:∀j,j<l.length->A.getD j false=true:=by
    intro j K;unfold unl at hu;have:=(List.countP_eq_zero.1 hu) j (VL.2 K);simpa using this
   have ar:Region.ready .any l.toArray A=[]:=by
    cases hr:Region.ready .any l.toArray A with
    | nil=>rfl
    | cons i r =>
     exfalso;have hi:i∈Region.ready .any l.toArray A:=by rw[hr];exact List.mem_cons_self ..
     have B:=Q1 hi;obtain⟨_,o,J,_⟩:=mem_ready.1 hi;rw[List.getElem?_toArray]at J;rw[Y i (List.getElem?_eq_some_iff.1 J).1]at B;cases B
   refine⟨ar,?_⟩;have ci:(E.filter fun j=>A.getD j false)=E:=by
    rw[List.filter_eq_self];intro e V;exact Y e (by simpa using List.all_eq_true.1 b5 e V)
   rw[ci,bz]at ai;cases ai;refine⟨fr',bm,G,hQ,.inl (am.weaken fun t s ht=>?_)⟩;obtain⟨hk,B⟩:=bq t s ht;rcases B with ⟨j,o,B,F,I⟩ | ⟨B,F⟩
   ·exact hI.put j o t s B (Y j (List.getElem?_eq_some_iff.1 B).1) F I (fun e V _=>hk e V)
   ·exact hI.old t s F B (fun e V _=>hk e V)
  | succ R ih =>
   intro A H ob G a w ce hu hc hM ai hI am;refine⟨fun h0=>?_,fun i hi=>?_⟩
   ·exfalso;have cp:∃j,j<l.length/\A.getD j false=false:=by
     refine Classical.byContradiction fun cw=>?_;have:unl A l.length=0:=by
      unfold unl;refine List.countP_eq_zero.2 fun j K=>?_;have K:=VL.1 K;cases hb:A.getD j false
      ·exact absurd ⟨j,K,hb⟩ cw
      ·simp
     omega
    have bu:∀n,(∃j,j<n/\j<l.length/\A.getD j false=false)->∃j,j<l.length/\A.getD j false=false/\∀p,p<j->A.getD p false=true:=by
     intro n;induction n with
     | zero=>rintro⟨j,K,_⟩;omega
     | succ n df =>
      rintro⟨j,K,be,ap⟩;by_cases ay:∃j',j'<n/\j'<l.length/\A.getD j' false=false
      ·exact df ay
      ·refine⟨j,be,ap,fun p hp=>?_⟩;cases hb:A.getD p false
       ·exact absurd ⟨p,by omega,by omega,hb⟩ ay
       ·rfl
    obtain⟨j,cq,cr⟩:=cp;obtain⟨j,be,ap,ct⟩:=bu (j+1) ⟨j,by omega,cq,cr⟩;have J:l[j]?=some l[j]:=VA be;have bt:j∈Region.ready .any l.toArray A:=by
     refine mem_ready.2 ⟨?_,l[j],by rw[List.getElem?_toArray];exact J,fun e V hb=>?_⟩
     ·have af:j<A.size:=by omega
      simp only[Array.getD_eq_getD_getElem?,Array.getElem?_eq_getElem af]at ap ⊢;simpa using ap
     ·have:=(bi j _ J).2.2.2.2.2.1 e (Array.mem_toList_iff.2 V) hb;exact ct _ this
    rw[h0]at bt;cases bt
   ·have ah:=Q1 hi;obtain⟨_,o,J,Y⟩:=mem_ready.1 hi;rw[List.getElem?_toArray]at J;have bg:i<l.length:=(List.getElem?_eq_some_iff.1 J).1;obtain⟨g1,g2,g4,g5,g6,g7,g8⟩:=bi i o J;obtain⟨D,hD⟩:∃D,D=E.filter fun j=>A.getD j false:=⟨_,rfl⟩
    rw[<-hD]at hM ai;have ba:∀e,e∈D↔e∈E/\A.getD e false=true:=fun e=>by rw[hD,List.mem_filter]
    have bn:∀j,Bef l.toArray i j=true->A.getD j false=true:=fun j K=>Y1 hc i K (fun o' aq e V hb=>by
     rw[List.getElem?_toArray,J]at aq;cases aq
     exact Y e (Array.mem_toList_iff.1 V) hb)
    have bf:∀j,A.getD j false=true->Bef l.toArray j i=true->False:=fun j K hb=>by
     have:A.getD i false=true:=Y1 hc j hb (fun o' aq e V ck=>hc j o' aq K e V ck);rw[ah]at this;cases this
    have ca:dX l.toArray E i D=true:=by
     unfold dX;simp only[VB,Bool.not_eq_true',List.all_eq_true,VU];refine⟨?_,fun j K=>?_,fun j K=>?_⟩
     ·cases hb:K7 D i
      ·rfl
      ·have:=((ba i).1 (xL.1 hb)).2;rw[ah]at this;cases this
     ·cases hb:Bef l.toArray i j
      ·exact .inl rfl
      ·exact .inr (xL.2 ((ba j).2 ⟨K,bn j hb⟩))
     ·cases hb:Bef l.toArray j i
      ·rfl
      ·exact (bf j ((ba j).1 K).2 hb).elim
    obtain⟨dl,s,az,cd,o1,U,bx,hU,bk⟩:=ht (i,D) (g8 D hM ca);rw[ai]at az;cases az;rw[J]at bx;cases bx;have aw:xP U H:=by
     intro t x hx;obtain⟨cg,B⟩:=hU t x hx;have al:∀e∈E,A.getD e false=true->t∉(g9 T e).2:=fun e V ak hk=>by
      by_cases ao:e=i
      ·rw[ao,ah]at ak;cases ak
      ·exact bf e ak (g6 t cg e V ao hk)
     rcases B with ⟨j,oj,B,F,I⟩ | ⟨B,F⟩
     ·exact hI.put j oj t x B (bn j (g5 t cg j oj B F)) F I al
     ·exact hI.old t x F B al
    have av:=T8 hc hi;have af:(A.setIfInBounds i true).size=l.length:=by simpa using ce
    have cf:unl (A.setIfInBounds i true) l.length=R:=by
     have:=uV (by omega) ah bg;omega
    have N:∀j,(A.setIfInBounds i true).getD j false=true↔j=i\/A.getD j false=true:=by
     intro j;by_cases K:j=i
     ·subst K;simp only[true_or,iff_true];simp[show j<A.size by omega]
     ·rw[Z2 (Ne.symm K)];simp[K]
    have ax:∀C,(i∈E->C=(g9 T i).2)->(i∉E->C=[])->InvK l E X T fr (A.setIfInBounds i true) (match o.dst with | some d=>(d,s)::Z3 C H | none=>Z3 C H):=by
     intro C cu cv;have hk:∀t,(∀e∈E,(A.setIfInBounds i true).getD e false=true->t∉(g9 T e).2)->t∉C:=by
      intro t h;by_cases ab:i∈E
      ·rw[cu ab];exact h i ab ((N i).2 (.inl rfl))
      ·rw[cv ab];simp
     have W:∀t,(∀e∈E,(A.setIfInBounds i true).getD e false=true->t∉(g9 T e).2)->∀e∈E,A.getD e false=true->t∉(g9 T e).2:=fun t h e V ak=>h e V ((N e).2 (.inr ak));cases Z:o.dst with
     | none =>
      refine⟨fun j oj d x B F I h6 h7=>?_,fun t x B=>?_,fun t x B F I=>?_⟩
      ·rcases (N j).1 F with rfl | F
       ·rw[J]at B;cases B;rw[Z]at I;cases I
       ·exact BI.2 ⟨hk d h7,hI.put j oj d x B F I h6 (W d h7)⟩
      ·rcases hI.from' t x (BI.1 B).2 with ⟨j,oj,F,I,h6⟩ | F
       ·exact .inl ⟨j,oj,F,(N j).2 (.inr I),h6⟩
       ·exact .inr F
      ·exact BI.2 ⟨hk t I,hI.old t x B F (W t I)⟩
     | some d0 =>
      refine⟨fun j oj d x B F I h6 h7=>?_,fun t x B=>?_,fun t x B F I=>?_⟩
      ·show E0 ((d0,s)::Z3 C H) d=some x;by_cases bd:j=i
       ·subst bd;rw[J]at B;cases B;rw[Z]at I;cases I;rw[D7];rw[cd]at h6;exact h6
       ·have F:=((N j).1 F).resolve_left bd;have ag:d0≠d:=fun q=>by
         subst q;exact bd (iM b3 B J I Z)
        rw[C6 ag];exact BI.2 ⟨hk d h7,hI.put j oj d x B F I h6 (W d h7)⟩
      ·have B:E0 ((d0,s)::Z3 C H) t=some x:=B;by_cases ag:d0=t
       ·subst ag;rw[D7]at B;cases B;exact .inl ⟨i,o,J,(N i).2 (.inl rfl),Z,cd⟩
       ·rw[C6 ag]at B;rcases hI.from' t x (BI.1 B).2 with ⟨j,oj,F,I,h6⟩ | F
        ·exact .inl ⟨j,oj,F,(N j).2 (.inr I),h6⟩
        ·exact .inr F
      ·show E0 ((d0,s)::Z3 C H) t=some x;have ag:d0≠t:=fun q=>F (by rw[<-q];exact bD J Z);rw[C6 ag];exact BI.2 ⟨hk t I,hI.old t x B F (W t I)⟩
    unfold wpOp;simp only[List.getElem?_toArray,J];rw[A4 (by simp[Region.wanted,g1])];rcases bk with ⟨an,bw⟩ | ⟨an,ob',heff,au,hobT,hle⟩
    ·have bv:i∉E:=fun q=>by rw[xL.2 q]at an;cases an
     refine .inl (J7 (bw S G a w (am.weaken fun t x hx=>aw t x hx)) ?_);rintro v w' ⟨ch,s',rfl,hv⟩;have aj:(E.filter fun j=>(A.setIfInBounds i true).getD j false)=D:=by
      rw[hD];apply List.filter_congr;intro j K;have:j≠i:=fun q=>bv (q ▸ K);exact Z2 (Ne.symm this)
     obtain⟨d0,bo⟩:=g4.resolve_left (by rw[an];simp);have ad:=ax [] (fun q=>absurd q bv) (fun _=>rfl);rw[bo]at ad ⊢;have ad:InvK l E X T fr (A.setIfInBounds i true) ((d0,s')::Z3 [] H):=ad;have cn:Z3 [] H=H:=by unfold Z3;exact List.filter_eq_self.2 fun p _=>rfl
     rw[cn]at ad;exact ih (A.setIfInBounds i true) ((d0,s')::H) ob G _ w' af cf av (by rw[aj];exact hM) (by rw[aj];exact ai) ad ((am.ext ch).put (by rw[hn];exact g2 d0 bo) hv)
    ·have ab:i∈E:=xL.1 an;have aj:(E.filter fun j=>(A.setIfInBounds i true).getD j false)=v6 i D:=by
      rw[hD];exact iL (by omega) ah b4 ab
     have cj:v6 i D∈Ms:=by
      have:=List.all_eq_true.1 (List.all_eq_true.1 b7 D hM) i ab;rw[ca]at this;exact jV (by simpa using this)
     have br:∀k∈(g9 T i).1,∀t x,E0 H t=some x->t∉(g9 T i).2->x.free k=true:=by
      obtain⟨x0,db,dc⟩:=co i ab;rw[dc]
      have hf:∀(xs:Ed),gJ l l.toArray X fr xs=true->(i,x0)∈xs->∀k∈x0.1,((List.range l.toArray.size).all fun j=>Nat.beq j i||Bef l.toArray j i||match (l[j]?).bind (·.dst),N6 X j with
        | some d,some s=>K7 x0.2 d||s.free k
        | _,_=>true)=true/\(fr.all fun p=>K7 x0.2 p.1||p.2.free k)=true:=by
       intro xs;induction xs with
       | nil=>intro _ h;simp at h
       | cons y r dg =>
        obtain⟨e',dk,dj⟩:=y;intro bh ac;simp only[gJ,VB]at bh;rcases VH.1 ac with q | q
        ·cases q;intro k hk;have:=List.all_eq_true.1 bh.1 k hk;simpa only[VB] using this
        ·exact dg bh.2 q
      intro k hk t x hx al;obtain⟨f1,f2⟩:=hf T bc db k hk;rcases hI.from' t x hx with ⟨j,oj,F,I,h6,h7⟩ | F
      ·have:=List.all_eq_true.1 f1 j (VL.2 (by simpa using (List.getElem?_eq_some_iff.1 F).1));have cs:j≠i:=fun q=>by rw[q,ah]at I;cases I
       have cm:Bef l.toArray j i=false:=by
        cases hb:Bef l.toArray j i
        ·rfl
        ·exact (bf j I hb).elim
       rw[R3 cs,cm,F]at this;simp only[Option.bind_some,h6,h7,Bool.false_or,VU]at this;rcases this with q | q
       ·exact absurd (xL.1 q) al
       ·exact q
      ·have ac:(t,x)∈fr:=by
        have:∀(fr:Fr),E0 fr t=some x->(t,x)∈fr:=by
         intro fr;induction fr with
         | nil=>intro h;simp[E0]at h
         | cons y r de =>
          obtain⟨q,z⟩:=y;intro h;by_cases hq:q=t
          ·subst hq;rw[D7]at h;cases h;exact List.mem_cons_self ..
          ·rw[C6 hq]at h;exact List.mem_cons_of_mem _ (de h)
        exact this fr F
       have:=List.all_eq_true.1 f2 (t,x) ac;simp only[VU]at this;rcases this with q | q
       ·exact absurd (xL.1 q) al
       ·exact q
     refine .inl (J7 (heff H aw br S G a w hn am) ?_);rintro v w' ⟨G',cc,hv⟩;have ad:=ax (g9 T i).2 (fun _=>rfl) (fun q=>absurd ab q);have cy:=cc.weakenO hle;refine ih (A.setIfInBounds i true) _ au G' _ w' af cf av (by rw[aj];exact cj) (by rw[aj];exact hobT) ad ?_;cases Z:o.dst with
     | none=>exact cy
     | some d0 =>
      have da:=hv d0 Z;have cb:=cc.put (d:=d0) (by rw[hn];exact g2 d0 Z) da;exact cb.weakenO hle
 have L:∀j,(Array.replicate l.length false).getD j false=false:=by
  intro j;simp only[Array.getD_eq_getD_getElem?];rcases Nat.lt_or_ge j l.length with h' | h'
  ·simp[h']
  ·simp[h']
 have bp:(E.filter fun j=>(Array.replicate l.length false).getD j false)=[]:=by
  rw[List.filter_eq_nil_iff];intro e _;rw[L];simp
 have cz:unl (Array.replicate l.length false) l.length=l.length:=by
  unfold unl;have:(List.range l.length).countP (fun i=>!(Array.replicate l.length false).getD i false)=(List.range l.length).length:=by
   rw[List.countP_eq_length];intro i _;rw[L];rfl
  rw[this,WI]
 have:=dh l.length (Array.replicate l.length false) fr bl G a _ (by simp) cz (fun j o J hl=>by rw[L]at hl;cases hl) (by rw[bp];exact jV b6) (by rw[bp];exact h0) ⟨fun j o d s _ F _=>(by rw[L]at F;cases F),fun t s B=>.inr B,fun t s B _ _=>B⟩ (hs.ext dd);simpa using this
def gK(P:Program)(nt:Nat)(l:List Oper)(fr:Fr)(E:List Nat)(a:Ed)(K:Sv->Mo->Prop):List (Nat×List Nat)->Sv->Mo->Prop
 | [],svs,M=>K svs M
 | (i,D)::ts,svs,M=>∃o ob s,l[i]?=some o/\S2 M D=some ob/\bE l svs o=true/\(N6 svs i=none\/N6 svs i=some s) /\
   ((K7 E i=false/\Neu P o (O6 (fW l svs fr) (Q9 o.op)) ob (fun b=>b=s)/\gK P nt l fr E a K ts ((i,s)::svs) M) \/
    (K7 E i=true/\∃ob',FO P nt o (O6 (fW l svs fr) (Q9 o.op)) (g9 a i).1 (g9 a i).2 ob ob' s/\S2 M (v6 i D)=none/\gK P nt l fr E a K ts ((i,s)::svs) ((v6 i D,ob')::M)))
def eD(P:Program)(nt:Nat)(l:List Oper)(fr:Fr)(E:List Nat)(c:Ed)(a:Sv)(M:Mo):List (Nat×List Nat)->Prop
 | []=>True
 | (i,D)::ts=>(∃o ob s,l[i]?=some o/\S2 M D=some ob/\bE l a o=true/\N6 a i=some s /\
   ((K7 E i=false/\Neu P o (O6 (fW l a fr) (Q9 o.op)) ob (fun d=>d=s)) \/
    (K7 E i=true/\∃ob' b,FO P nt o (O6 (fW l a fr) (Q9 o.op)) (g9 c i).1 (g9 c i).2 ob ob' s/\S2 M (v6 i D)=some b/\JA b ob')))/\eD P nt l fr E c a M ts
def JC(P:Program)(nt:Nat)(l:List Oper)(fr:Fr)(E:List Nat)(c:Ed)(b:Sv)(M:Mo)(p:Nat×List Nat):Prop :=
 ∃ob s,S2 M p.2=some ob/\N6 b p.1=some s/\Task P nt l fr b E c p.1 ob s (fun ob'=>∃a,S2 M (v6 p.1 p.2)=some a/\JA a ob')
theorem fI{a:Sv}{i:Nat}{s:SV}(h:N6 a i=none\/N6 a i=some s){j:Nat}{x:SV}(c:N6 a j=some x):N6 ((i,s)::a) j=some x:=by
 show cond (Nat.beq i j) _ _=_;by_cases b:i=j
 ·subst b;rw[Nat.beq_refl];rcases h with h | h
  ·rw[h]at c;cases c
  ·rw[h]at c;exact c
 ·rw[R3 b];exact c
theorem pB:∀(l:List Nat),m7 l l=true
 | []=>rfl
 | a::l=>by simp[m7,Nat.beq_refl,pB l]
theorem sR{M:Mo}{D0:List Nat}{c:Obs}(h:S2 M D0=none){D:List Nat}{ob:Obs}(a:S2 M D=some ob):S2 ((D0,c)::M) D=some ob:=by
 show cond (m7 D0 D) _ _=_;cases b:m7 D0 D
 ·exact a
 ·rw[v7 b]at h;rw[h]at a;cases a
theorem UIn2.mono{l:List Oper}{b a:Sv}{fr:Fr}{o:Oper}{U:Fr}(h:UIn2 l b fr o U)(k:∀j x,N6 b j=some x->N6 a j=some x):UIn2 l a fr o U:=fun t s m=>by
 obtain⟨d,c⟩:=h t s m;refine⟨d,?_⟩;rcases c with ⟨j,o',e,f,g⟩ | c
 ·exact .inl ⟨j,o',e,f,k j s g⟩
 ·exact .inr c
theorem pC{l:List Oper}{fr:Fr}{E:List Nat}{y:Ed}{K:Sv->Mo->Prop}:∀{w:List (Nat×List Nat)} {b:Sv} {M:Mo},gK P nt l fr E y K w b M ->
  ∃a M',(∀j x,N6 b j=some x->N6 a j=some x)/\(∀D ob,S2 M D=some ob->S2 M' D=some ob)/\K a M'/\∀p∈w,JC P nt l fr E y a M' p
 | [],b,M,h=>⟨b,M,fun _ _ h=>h,fun _ _ h=>h,h,fun p d=>by simp at d⟩
 | (i,D)::w,b,M,h=>by
  obtain⟨o,ob,s,z,A,B,g,C⟩:=h;have c:N6 ((i,s)::b) i=some s:=by show cond (Nat.beq i i) _ _=_;rw[Nat.beq_refl];rfl
  rcases C with ⟨t,u,v⟩ | ⟨t,ob',u,h9,v⟩
  ·obtain⟨a,M',g1,f,k,q⟩:=pC v;refine⟨a,M',fun j x e=>g1 j x (fI g e),f,k,fun p d=>?_⟩;rcases VH.1 d with rfl | d
   ·exact⟨ob,s,f _ _ A,g1 _ _ c,o,_,z,(nX B).mono (fun j x e=>g1 j x (fI g e)),.inl ⟨t,u⟩⟩
   ·exact q p d
  ·obtain⟨a,M',g1,f,k,q⟩:=pC v;have G:S2 ((v6 i D,ob')::M) (v6 i D)=some ob':=by show cond (m7 _ _) _ _=_;rw[pB];rfl
   refine⟨a,M',fun j x e=>g1 j x (fI g e),fun D' H F=>f _ _ (sR h9 F),k,fun p d=>?_⟩;rcases VH.1 d with rfl | d
   ·exact⟨ob,s,f _ _ (sR h9 A),g1 _ _ c,o,_,z,(nX B).mono (fun j x e=>g1 j x (fI g e)),.inr ⟨t,ob',u,ob',f _ _ G,fun _ _ h=>h⟩⟩
   ·exact q p d
theorem sS{l:List Oper}{fr:Fr}{E:List Nat}{d:Ed}{a:Sv}{M:Mo}:∀{c:List (Nat×List Nat)},eD P nt l fr E d a M c->∀p∈c,JC P nt l fr E d a M p
 | [],_,p,hp=>by simp at hp
 | (i,D)::c,h,p,hp=>by
  obtain⟨⟨o,ob,s,e,f,g,j,k⟩,m⟩:=h;rcases VH.1 hp with rfl | hp
  ·rcases k with ⟨g1,b⟩ | ⟨g1,ob',obT,b,g3,g4⟩
   ·exact⟨ob,s,f,j,o,_,e,nX g,.inl ⟨g1,b⟩⟩
   ·exact⟨ob,s,f,j,o,_,e,nX g,.inr ⟨g1,ob',b,obT,g3,g4⟩⟩
  ·exact sS m p hp
def uW(a:Ed):List Nat:=a.flatMap fun p=>p.2.2
def TG(E:List Nat)(a:Ed):Bool:=E.all fun e=>a.any fun p=>Nat.beq p.1 e
theorem pD:∀{b:Ed} {e:Nat},(b.any fun p=>Nat.beq p.1 e)=true->(e,g9 b e)∈b
 | [],_,h=>by simp at h
 | (i,x)::r,e,h=>by
  by_cases a:i=e
  ·subst a;have:g9 ((i,x)::r) i=x:=by show cond (Nat.beq i i) _ _=_;rw[Nat.beq_refl];rfl
   rw[this];exact List.mem_cons_self ..
  ·have c:g9 ((i,x)::r) e=g9 r e:=by show cond (Nat.beq i e) _ _=_;rw[R3 a];rfl
   rw[c];simp only[List.any_cons,R3 a,Bool.false_or]at h;exact List.mem_cons_of_mem _ (pD h)
def OY(P:Program)(nt:Nat)(l:List Oper)(fr:Fr)(E:List Nat)(d:Ed)(T2:List (Nat×List Nat))(Q:Post)(b:Sv)(M:Mo):Prop :=
 (gJ l l.toArray b fr d&&(List.range l.length).all fun j=>(N6 b j).isSome)=true/\eD P nt l fr E d b M T2/\∃c,S2 M E=some c/\Q .normal (Z3 (uW d) (fW l b fr)) c
theorem bV{id:Nat}{l:List Oper}{fr:Fr}{b:Obs}{Q:Post}(E:List Nat)(Ms:List (List Nat))(c:Ed)(T1 T2:List (Nat×List Nat))(I:P.follows .mixedOrders=true)
  (q:(JB nt l E Ms c (T1++T2)&&TG E c)=true) (h:gK P nt l fr E c (OY P nt l fr E c T2 Q) T1 [] [([],b)]):WpC P nt (.region id l.toArray true) fr b Q:=by
 simp only[VB]at q;obtain⟨y,M,L,A,⟨v,B,K,C,D⟩,F⟩:=pC h;simp only[VB]at v;refine OX E Ms c (T1++T2) y M I q.1 (fun e w=>⟨g9 c e,pD (List.all_eq_true.1 q.2 e w),rfl⟩) v.1 (A [] b rfl) (fun p f=>?_) C (fun t s J=>?_) D
 ·rcases VG.1 f with f | f
  ·exact F p f
  ·exact sS B p f
 ·obtain⟨H,G⟩:=BI.1 J;refine⟨fun e w a=>H ?_,?_⟩
  ·have:=pD (List.all_eq_true.1 q.2 e w);exact List.mem_flatMap.2 ⟨_,this,a⟩
  ·rcases pA G with ⟨j,o,g1,u,k⟩ | ⟨g1,u⟩
   ·exact .inl ⟨j,o,u,k,g1⟩
   ·refine .inr ⟨fun a=>?_,g1⟩;obtain⟨j,o,k,z⟩:=jX a;have:=List.all_eq_true.1 v.2 j (VL.2 (List.getElem?_eq_some_iff.1 k).1);exact u j o (fun e=>by rw[e]at this;cases this) k z
theorem J0{l:List Oper}{fr:Fr}{E:List Nat}{b:Ed}{K:Sv->Mo->Prop}{i:Nat}{D:List Nat}{c:List (Nat×List Nat)}{a:Sv}{M:Mo}{o:Oper}{ob:Obs}{s:SV}(e:l[i]?=some o)(d:S2 M D=some ob)(g:bE l a o=true)
  (j:N6 a i=none) (f:K7 E i=false) (h:Neu P o (O6 (fW l a fr) (Q9 o.op)) ob (fun m=>m=s)) (k:gK P nt l fr E b K c ((i,s)::a) M):gK P nt l fr E b K ((i,D)::c) a M :=
 ⟨o,ob,s,e,d,g,.inl j,.inl ⟨f,h,k⟩⟩
theorem sT{l:List Oper}{fr:Fr}{E:List Nat}{b:Ed}{K:Sv->Mo->Prop}{i:Nat}{D:List Nat}{c:List (Nat×List Nat)}{a:Sv}{M:Mo}{o:Oper}{ob ob':Obs}{s:SV}(f:l[i]?=some o)(d:S2 M D=some ob)(j:bE l a o=true)
  (m:N6 a i=none) (g:K7 E i=true) (h:FO P nt o (O6 (fW l a fr) (Q9 o.op)) (g9 b i).1 (g9 b i).2 ob ob' s) (e:S2 M (v6 i D)=none) (k:gK P nt l fr E b K c ((i,s)::a) ((v6 i D,ob')::M)):gK P nt l fr E b K ((i,D)::c) a M :=
 ⟨o,ob,s,f,d,j,.inl m,.inr ⟨g,ob',h,e,k⟩⟩
theorem JD{l:List Oper}{fr:Fr}{E:List Nat}{d:Ed}{T2:List (Nat×List Nat)}{Q:Post}{b:Sv}{M:Mo}{c:Obs}(f:(gJ l l.toArray b fr d&&(List.range l.length).all fun j=>(N6 b j).isSome)=true)(g:S2 M E=some c)
  (h:eD P nt l fr E d b M T2) (k:Q .normal (Z3 (uW d) (fW l b fr)) c):gK P nt l fr E d (OY P nt l fr E d T2 Q) [] b M:=⟨f,h,c,g,k⟩
theorem xQ{l:List Oper}{fr:Fr}{E:List Nat}{b:Ed}{i:Nat}{D:List Nat}{c:List (Nat×List Nat)}{a:Sv}{M:Mo}{o:Oper}{ob:Obs}{s:SV}(e:l[i]?=some o)(d:S2 M D=some ob)(g:bE l a o=true)
  (j:N6 a i=some s) (f:K7 E i=false) (h:Neu P o (O6 (fW l a fr) (Q9 o.op)) ob (fun m=>m=s)) (k:eD P nt l fr E b a M c):eD P nt l fr E b a M ((i,D)::c) :=
 ⟨⟨o,ob,s,e,d,g,j,.inl ⟨f,h⟩⟩,k⟩
theorem JE{l:List Oper}{fr:Fr}{E:List Nat}{b:Ed}{a:Sv}{M:Mo}:eD P nt l fr E b a M []:=trivial
theorem nM{U a:Fr}(d:xP U a){x:Operand}{s:SV}(h:opv U x=some s):opv a x=some s:=by
 cases x with
 | tmp t =>
  have h:aG U t=some s:=h;obtain⟨b,c⟩:=sC h;show aG a t=some s;unfold aG;have:Nat.blt t 1000000=true:=by simpa using b
  rw[this];exact d t s c
 | _=>exact h
theorem xR{U:Fr}{j:Op}{ty:TypeId}{pos:String}{af:Array Edge}{ob ob':Obs}(h:∀b,xP U b->Eff P ⟨none,j,ty,pos,af,none⟩ b ob b ob'):FO P nt ⟨none,j,ty,pos,af,none⟩ U [] [] ob ob' .any:=by
 intro b k _ S G a w s o;have:=h b k S G a w o;have g:Z3 [] b=b:=by unfold Z3;exact List.filter_eq_self.2 fun p _=>rfl
 have c:∀(v:Value) (w':World),(∃G',Sim P S b ob' G' a w')->∃G',Sim P S (Z3 [] b) ob' G' a w'/\∀d,(none:Option Tmp)=some d->SV.rep (E4 (Mut S ob' G') w') G' .any v:=fun v w' ⟨G',h⟩=>⟨G',by rw[g];exact h,fun d l=>by cases l⟩
 unfold Does at this ⊢;generalize (execOp a.eval _).run P w=r at *;cases r with
 | ok n w' =>
  cases n<;>simp only at this ⊢<;>try exact this.elim
  case value v=>exact c v w' this
  case skip=>exact c undef w' this
  case enter f args=>exact this.mono fun e i ⟨v,m,q⟩=>⟨v,m,c v i q⟩
 | halt x w'=>exact this
theorem OZ{U:Fr}{k:Nat}{c:List Nat}{o:Oper}{ob ob':Obs}{s:SV}(h:∀b,xP U b->EffV P o b ob s (Fr.forget k b) ob'):FO P nt o U [k] c ob ob' s:=by
 intro b m g S G a w B z;have:=h b m S G a w z
 have i:∀(v:Value) (w':World),(∃G',Sim P S (Fr.forget k b) ob' G' a w'/\s.rep (E4 (Mut S ob' G') w') G' v)->∃G',Sim P S (Z3 c b) ob' G' a w'/\∀d,o.dst=some d->s.rep (E4 (Mut S ob' G') w') G' v:=fun v w' ⟨G',h,y⟩=>⟨G',h.weaken (fun t x j=>by
  obtain⟨q,j⟩:=BI.1 j;rw[N0,j]
  simp[SV.forget_free (g k (by simp) t x j q)]),fun _ _=>y⟩
 unfold Does at this ⊢;generalize (execOp a.eval _).run P w=r at *;cases r with
 | ok n w' =>
  cases n<;>simp only at this ⊢<;>try exact this.elim
  case value v=>exact i v w' this
  case skip=>exact i undef w' this
  case enter f args=>exact this.mono fun e l ⟨v,p,A⟩=>⟨v,p,i v l A⟩
 | halt x w'=>exact this
def EG(L:Obs):List Nat:=L.map (·.1)
theorem M3{L c rest:Obs}(h:ObIn c L)(g:∀j x,K7 (EG L) j=false->C5 rest j=some x->C5 c j=some x):∀j x,C5 (L++rest) j=some x->C5 c j=some x:=by
 have e:∀(L:Obs) (j:Nat) (x:Ob),C5 (L++rest) j=some x->(C5 L j=some x)\/(K7 (EG L) j=false/\C5 rest j=some x):=by
  intro L;induction L with
  | nil=>intro j x a;exact .inr ⟨rfl,a⟩
  | cons p r l =>
   obtain⟨k,o⟩:=p;intro j x a;have a:C5 ((k,o)::(r++rest)) j=some x:=a;by_cases d:k=j
   ·subst d;rw[E8]at a;left;rw[E8];exact a
   ·rw[C7 d]at a;rcases l j x a with b | ⟨b,h2⟩
    ·left;rw[C7 d];exact b
    ·right;refine⟨?_,h2⟩;cases f:K7 (EG ((k,o)::r)) j
     ·rfl
     ·rcases VH.1 (xL.1 f) with q | q
      ·exact absurd q.symm d
      ·rw[show K7 (EG r) j=true from xL.2 q]at b;cases b
 intro j x a;rcases e L j x a with b | ⟨b,h2⟩
 ·exact h.spec j x b
 ·exact g j x b h2
theorem J6{K:List Nat}{rest:Obs}:∀j x,K7 K j=false->C5 rest j=some x->C5 rest j=some x:=fun _ _ _ h=>h
theorem N2{K:List Nat}{T rest:Obs}{k:Nat}{o:Ob}(b:K7 K k=true)(h:∀j x,K7 K j=false->C5 rest j=some x->C5 T j=some x):∀j x,K7 K j=false->C5 rest j=some x->C5 ((k,o)::T) j=some x:=by
 intro j x a c;have:k≠j:=fun e=>by rw[e,a]at b;cases b
 rw[C7 this];exact h j x a c
theorem jY{K:List Nat}{T ob:Obs}(k:Nat)(h:∀j x,K7 K j=false->C5 (Obs.forget k ob) j=some x->C5 T j=some x):∀j x,K7 K j=false->C5 (Obs.forget k ob) j=some x->C5 (Obs.forget k T) j=some x:=by
 intro j x d a;have c:=h j x d a;rw[J8,c];have b:=a;rw[<-Obs.forget_idem,J8,a]at b;exact b
theorem xS{rest:Obs}:∀{L:Obs} {j:Nat} {x:Ob},C5 (L++rest) j=some x->C5 L j=some x\/C5 rest j=some x
 | [],j,x,a=>.inr a
 | (k,o)::r,j,x,a=>by
  have a:C5 ((k,o)::(r++rest)) j=some x:=a;by_cases c:k=j
  ·subst c;rw[E8]at a;left;rw[E8];exact a
  ·rw[C7 c]at a;rcases xS a with b | b
   ·left;rw[C7 c];exact b
   ·exact .inr b
section
variable {P:Program}{nt:Nat}{fr gf:Fr}{ob:Obs}
theorem UJ(k:Nat){l:Fr}{L:Obs}(N:FrLe fr l)(K:High gf)(O:Tail gf fr)(M:ObIn ob L):Sees P nt fr ob (l++Fr.forget k gf) (L++Obs.forget k ob):=by
 intro S G a w T h;have c:∀d m,C5 (L++Obs.forget k ob) d=some m->∃u,C5 ob d=some u/\(m=u\/m=u.forget k):=by
  intro d m j;rcases xS j with q | q
  ·exact⟨m,M.spec d m q,.inl rfl⟩
  ·rw[J8]at q;cases B:C5 ob d with
   | none=>rw[B]at q;cases q
   | some u=>rw[B]at q;cases q;exact⟨u,rfl,.inr rfl⟩
 have y:∀b i z,E4 (Mut S ob G) w b i z->E4 (Mut S (L++Obs.forget k ob) G) w b i z:=by
  intro b i z J;refine⟨J.1,fun I=>J.2 ?_⟩;rcases I with I | ⟨d,m,j,hb⟩
  ·exact .inl I
  ·obtain⟨u,A,rfl | rfl⟩:=c d m j
   ·exact .inr ⟨d,_,A,hb⟩
   ·exact .inr ⟨d,u,A,OP.1 hb⟩
 refine⟨G,{ h with old:=?_,dis:=?_,obs:=?_,facts:=?_ }⟩
 ·intro d m b j hb;obtain⟨u,A,_⟩:=c d m j;exact h.old d u b A hb
 ·intro k1 k2 m Q b q D F H;obtain⟨R,ha,_⟩:=c k1 m q;obtain⟨ob',E,_⟩:=c k2 Q D;exact h.dis k1 k2 R ob' b ha E F H
 ·intro d m j;obtain⟨u,A,rfl | rfl⟩:=c d m j
  ·exact (h.obs d _ A).ext y (Below.refl _ _)
  ·exact ((h.obs d u A).ext y (Below.refl _ _)).forget (fun _ _=>rfl)
 ·intro i s p;rw[l9]at p;cases B:E0 l i with
  | some C =>
   rw[B]at p;have p:some C=some s:=p;cases p;obtain⟨s1,q,D⟩:=N.spec i _ B;exact D.rep (SV.rep_mono y (h.facts i s1 q))
  | none =>
   rw[B]at p;have p:E0 (Fr.forget k gf) i=some s:=p;rw[N0]at p;cases v:E0 gf i with
   | none=>rw[v]at p;cases p
   | some C =>
    rw[v]at p;cases p;exact SV.rep_forget (fun _ _=>rfl) (SV.rep_mono y (h.facts i C (O i C (K i C v) v)))
end
theorem Sim.retold{S:Ctx}{G:Gh}{a:Act}{w:World}(h:Sim P S fr ob G a w){k:Nat}{o o':Ob}(E:C5 ob k=some o)(q:∀b i,Own (G k) o' b i->Own (G k) o b i)
  (D:∀H:Rd,ObOk S H G w (G k) o->ObOk S H G w (G k) o'):Sim P S fr ((k,o')::ob) G a w:=by
 have f:∀d j,C5 ((k,o')::ob) d=some j->∃p,C5 ob d=some p/\∀b i,Own (G d) j b i->Own (G d) p b i:=by
  intro d j c;by_cases g:d=k
  ·subst g;rw[E8]at c;cases c;exact⟨_,E,q⟩
  ·rw[C7 (Ne.symm g)]at c;exact⟨_,c,fun _ _ D=>D⟩
 have m:∀b i z,E4 (Mut S ob G) w b i z->E4 (Mut S ((k,o')::ob) G) w b i z:=by
  intro b i z F;refine⟨F.1,fun C=>F.2 ?_⟩;rcases C with C | ⟨d,j,c,hb⟩
  ·exact .inl C
  ·obtain⟨p,u,B⟩:=f d j c;exact .inr ⟨d,p,u,B _ _ hb⟩
 refine { h with old:=?_,dis:=?_,obs:=?_,facts:=?_ }
 ·intro d j b c hb;obtain⟨p,u,_⟩:=f d j c;exact h.old d p b u hb
 ·intro k1 k2 j K b I J y A;obtain⟨L,ha,_⟩:=f k1 j I;obtain⟨ob',v,_⟩:=f k2 K J;exact h.dis k1 k2 L ob' b ha v y A
 ·intro d j c;by_cases g:d=k
  ·subst g;rw[E8]at c;cases c;exact D _ ((h.obs d _ E).ext m (Below.refl _ _))
  ·rw[C7 (Ne.symm g)]at c;exact (h.obs d j c).ext m (Below.refl _ _)
 ·intro i s B;exact SV.rep_mono m (h.facts i s B)
theorem Sim.grow_cell{S:Ctx}{G:Gh}{a:Act}{w:World}(h:Sim P S fr ob G a w){k b n j i o f:Nat}{e:TypeId}{α:Type}{c:α->Nat->Cell}{m:List α}{v:α}(A:C5 ob k=some (.grow e α f c m))(x:G k=.slice (some ⟨b,0,none⟩) n j)(C:m[i]?=some v)(B:o<f) :
  ∃z,w.cell? ⟨b,i*f+o,none⟩=some z/\(c v o).rep (E4 (Mut S ob G) w) z:=by
 obtain⟨D,d,_,u⟩:=h.obs k _ A;obtain⟨y,rfl⟩:=List.getElem?_eq_some_iff.1 C;obtain⟨z,q,t⟩:=u i y o B;have:=d.cells (g:=b) (by rw[x];rfl) (i*f+o) z q;exact⟨z,by simpa[Addr.add_lit] using this,t⟩
theorem S3{x:Operand}{t e:TypeId}{k i o:Nat}{α:Type}{ec:Nat}{c:α->Nat->Cell}{xs:List α}{v:α}[ht:TyOne P t](E:opv fr x=some (.s (.one (.mref k ec i o))))(A:C5 ob k=some (.grow e α ec c xs))(D:xs[i]?=some v)
  (B:Nat.blt o ec=true):Neu P ⟨dst,.load t x,ty,pos,af,gd⟩ fr ob (fun F=>F=.s (.one (.p (c v o)))) :=
 E3 fun S G a w h=>by
  obtain⟨b,n,u,y,C⟩:=F9 h E;obtain⟨z,j,q⟩:=h.grow_cell A y D (by simpa using B);refine⟨z,?_,q⟩;simp only[execOp,C];exact J3 (by simp[Instr.loadAt,Instr.sureAddr,P3 j])
theorem fJ{x:Operand}{t e:TypeId}{n k i o:Nat}{α:Type}{q:Nat}{c:α->Nat->Cell}{D:List α}{v:α}[ht:TyAgg P t n](O:opv fr x=some (.s (.one (.mref k q i o))))(J:C5 ob k=some (.grow e α q c D))(N:D[i]?=some v)
  (L:Nat.ble (o+n) q=true):Neu P ⟨dst,.load t x,ty,pos,af,gd⟩ fr ob (fun T=>T=.s (.agg ((cellsOf c v o n).map .p))) :=
 E3 fun S G a w h=>by
  obtain⟨b,m,E,I,M⟩:=F9 h O;have K:o+n<=q:=by simpa using L
  obtain⟨C,B,u⟩:=y3 (R:=fun j z=>w.cell? ⟨b,i*q+(o+j),none⟩=some z/\(c v (o+j)).rep (E4 (Mut S ob G) w) z) n (fun j U=>h.grow_cell J I N (by omega));refine⟨.agg C.toArray,?_,C,rfl,?_⟩
  ·simp only[execOp,M];refine J3 ?_;simp[Instr.loadAt,Instr.sureAddr,X2 (ht:=ht) (o:=i*q+o) B (fun j z Q=>by rw[Nat.add_assoc];exact (u j z Q).1)]
  ·refine dQ (by simp[B,N1]) fun j t z y H=>?_;rw[WK]at y;cases A:(cellsOf c v o n)[j]? with
   | none=>simp[A]at y
   | some F =>
    simp[A]at y;obtain⟨rfl,_⟩:=Q8 c v n o j F A;subst y;exact (u j z H).2
theorem tail_drop{gf:Fr}{ks:List Nat}(d:(ks.all fun k=>Nat.blt k 1000000)=true)(h:Tail gf fr):Tail gf (Z3 ks fr):=fun i s c b=>by
 refine BI.2 ⟨fun a=>?_,h i s c b⟩;have:=List.all_eq_true.1 d i a;have:i<1000000:=by simpa using this
 omega
theorem Sim.freezeG{S:Ctx}{G:Gh}{a:Act}{w:World}(h:Sim P S fr ob G a w){k:Nat}{α:Type}{ec:Nat}{c:α->Nat->Cell}{xs:List α}{e:TypeId}(hk:C5 ob k=some (.grow e α ec c xs))(ac:0<ec) :
  Sim P S (UM (SV.freeze k α ec c xs) fr) (UH (Ob.freeze k α ec c xs) (Obs.drop k ob)) G a w:=by
 have T:=h.drop k;obtain⟨Y,V,U,hc⟩:=h.obs k _ hk;have v:∀q o,C5 (UH (Ob.freeze k α ec c xs) (Obs.drop k ob)) q=some o->∃E,C5 (Obs.drop k ob) q=some E/\o=E.freeze k α ec c xs:=by
  intro q o d;rw[getO_mapO]at d;cases C:C5 (Obs.drop k ob) q with
  | none=>simp[C]at d
  | some E=>simp[C]at d;exact⟨E,rfl,d.symm⟩
 have K:∀(u:Value) (o:Ob) (b i:Nat),Own u (o.freeze k α ec c xs) b i↔Own u o b i:=by intro u o b i;cases o<;>simp[Own,Ob.freeze]
 have I:∀b i,Mut S (UH (Ob.freeze k α ec c xs) (Obs.drop k ob)) G b i->Mut S (Obs.drop k ob) G b i:=by
  intro b i A;rcases A with A | ⟨q,o,d,hb⟩
  ·exact .inl A
  ·obtain⟨E,R,rfl⟩:=v q o d;exact .inr ⟨q,E,R,(K _ _ _ _).1 hb⟩
 have M:∀b i z,E4 (Mut S (Obs.drop k ob) G) w b i z->E4 (Mut S (UH (Ob.freeze k α ec c xs) (Obs.drop k ob)) G) w b i z:=fun b i z L=>⟨L.1,fun A=>L.2 (I b i A)⟩
 have W:∀b i z,E4 (Mut S ob G) w b i z->E4 (Mut S (Obs.drop k ob) G) w b i z:=by
  intro b i z L;refine⟨L.1,fun A=>L.2 ?_⟩;rcases A with A | ⟨q,o',d,hb⟩
  ·exact .inl A
  ·refine .inr ⟨q,o',?_,hb⟩;by_cases D:q=k
   ·subst D;rw[L0]at d;cases d
   ·rwa[K3 D]at d
 have f:(Cell.list α ec c xs).rep (E4 (Mut S (UH (Ob.freeze k α ec c xs) (Obs.drop k ob)) G) w) (G k):=by
  refine bR V ac U ?_ (fun i N j hj=>let ⟨z,y,B⟩:=hc i N j hj;⟨z,y,Cell.rep_mono (fun _ _ _ L=>M _ _ _ (W _ _ _ L)) _ _ B⟩);intro g hg j z hj J;refine⟨J,fun A=>?_⟩;rcases I _ _ A with A | ⟨q,o',d,hb,_⟩
  ·have:=h.m0 _ _ A;rcases h.old k _ g hk hg with y | y
   ·omega
   ·exact h.m0io _ _ A y.1
  ·by_cases D:q=k
   ·subst D;rw[L0]at d;cases d
   ·rw[K3 D]at d;exact D (h.dis q k o' _ g d hk hb hg)
 exact { T with
  old:=fun q o b d=>let ⟨E,R,_⟩:=v q o d;T.old q E b R
  dis:=fun k1 k2 o1 o2 b y B=>let ⟨oa,ha,_⟩:=v k1 o1 y;let ⟨ob',ab,_⟩:=v k2 o2 B;T.dis k1 k2 oa ob' b ha ab
  obs:=fun q o d=>by
   obtain⟨E,R,rfl⟩:=v q o d;have m:=(T.obs q E R).ext M (Below.refl _ _);cases E with
   | box X=>obtain⟨O,F,t',y,B,H⟩:=m;exact⟨O,F,t',y,B,H.map (TC.freeze k α ec c xs) fun _ _=>TC.rep_freeze f⟩
   | tbx e X=>obtain⟨O,F,y,B,H⟩:=m;exact⟨O,F,y,B,H.map (TC.freeze k α ec c xs) fun _ _=>TC.rep_freeze f⟩
   | tarr n Q X=>obtain⟨O,F,t',y,hl,B,hn,H⟩:=m;exact⟨O,F,t',y,hl,B,by simpa using hn,H.map (TC.freeze k α ec c xs) fun _ _=>TC.rep_freeze f⟩
   | arr=>exact m
   | spare=>exact m
   | grow=>exact m
   | map=>exact m
   | growA e' α' Q c' ad p X=>obtain⟨Y,y,B,H,Z,h5,h6⟩:=m;exact⟨Y,y,B,H,by simpa using Z,h5,h6.map (TC.freeze k α ec c xs) fun _ _=>TC.rep_freeze f⟩
   | growT e' n' Q X=>obtain⟨Y,y,B,H,Z⟩:=m;exact⟨Y,y,B,by simpa using H,Z.map (TC.freeze k α ec c xs) fun _ _=>TC.rep_freeze f⟩
  facts:=fun i s N=>by
   rw[fF]at N;cases C:E0 fr i with
   | none=>simp[C]at N
   | some s0 =>
    simp[C]at N;subst N
    exact SV.rep_freeze f (SV.rep_mono M (T.facts i s0 C)) }
theorem Sees.freezeG{k:Nat}{α:Type}{ec:Nat}{c:α->Nat->Cell}{xs:List α}{e:TypeId}(d:C5 ob k=some (.grow e α ec c xs))(b:Nat.blt 0 ec=true) :
  Sees P nt fr ob (UM (SV.freeze k α ec c xs) fr) (UH (Ob.freeze k α ec c xs) (Obs.drop k ob)):=fun S G a w f h=>⟨G,h.freezeG d (by simpa using b)⟩
theorem Sees.fewer{ob':Obs}(b:∀k o,C5 ob' k=some o->C5 ob k=some o):Sees P nt fr ob fr ob':=fun S G a w d c=>⟨G,c.weakenO b⟩
theorem UP(k:Nat)(α:Type)(A:Nat)(c:α->Nat->Cell)(e:TypeId){kb o:Nat}{q:List TC}(hb:C5 ob kb=some (.box q))(H:q[o]?=some (.p (.v (.slice none 0 0))))(K:(H4 k fr&&M1 k ob)=true) :
  Sees P nt fr ob fr ((kb,.box (q.set o (.mut k)))::(k,.grow e α A c [])::ob):=by
 simp only[VB]at K;obtain⟨M,N⟩:=K;obtain⟨O,B,U⟩:=R5 N;intro S G a w Y h;have C:=h.new U (o:=.grow e α A c []) (u:=.slice none 0 0) (w1:=w) B (Below.refl _ _) (fun b hb=>by simp[blk]at hb) ⟨[],World.ownsRow_nil w _ _ _,by simp,fun i T=>absurd T (by simp)⟩;rw[R4 M,O]at C;have F:k≠kb:=fun Q=>by rw[Q,hb]at B;cases B
 have j:C5 ((k,Ob.grow e α A c [])::ob) kb=some (.box q):=by rw[C7 F];exact hb
 obtain⟨b,vs,t,R,X,ha⟩:=C.obs kb _ j;have d:blk (upd G k (.slice none 0 0) kb)=some b:=by rw[R];rfl
 refine⟨_,C.retell j d (fun i=>⟨d,trivial⟩) (fun i=>⟨d,trivial⟩) ?_⟩;rintro Z ⟨L,J,W,D,E,f⟩;refine⟨L,J,W,D,E,UK o (fun z V=>?_) f⟩;obtain⟨z',n,I⟩:=f.get o _ H;rw[V]at n;cases n;rw[I.1];exact⟨(G6 _ _ _).symm,rfl⟩
theorem xU{c:Rd}{G:Gh}:∀{b:List TC} {a:List Value},All2 (TC.rep c G) b a->∀u∈a,u.oneCell'=true
 | [],[],_,u,hu=>by cases hu
 | t::b,v::a,h,u,hu=>by
  rcases VH.1 hu with rfl | hu
  ·exact TC.rep_one h.1
  ·exact xU h.2 u hu
def TC.refs:TC->List Nat
 | .buf k _ _ _ _=>[k]
 | .ref k _=>[k]
 | .mut k=>[k]
 | .mref k _ _ _=>[k]
 | .msl k _ _ _=>[k]
 | .clo _ d a=>d.map (·.1)++a.map (·.1)
 | .ifc _ k _=>[k]
 | _=>[]
def S1.refs:S1->List Nat
 | .one t=>t.refs
 | .agg b=>b.flatMap TC.refs
def SV.refs:SV->List Nat
 | .s x=>x.refs
 | .tup l=>l.flatMap S1.refs
 | _=>[]
def Ob.refs:Ob->List Nat
 | .box c=>c.flatMap TC.refs
 | .tbx _ c=>c.flatMap TC.refs
 | .tarr _ _ c=>c.flatMap TC.refs
 | .growA _ _ _ _ _ _ c=>c.flatMap TC.refs
 | .growT _ _ _ c=>c.flatMap TC.refs
 | _=>[]
def uX:Fr->List Nat
 | []=>[]
 | (_,s)::r=>s.refs++uX r
def pE:Obs->List Nat
 | []=>[]
 | (_,o)::r=>o.refs++pE r
theorem eE{G G':Gh}:∀{l:List (Nat×Nat)} {a:List Value},(∀k∈l.map (·.1),G' k=G k)->All2 (mJ G) l a->All2 (mJ G') l a
 | [],[],_,_=>trivial
 | [],_::_,_,h=>h.elim
 | _::_,[],_,h=>h.elim
 | p::l,u::a,hk,h=>by
  obtain⟨⟨b,d,e⟩,f⟩:=h;exact⟨⟨b,by rw[hk p.1 (by simp)];exact d,e⟩,eE (fun k c=>hk k (by simp at c ⊢;exact .inr c)) f⟩
theorem TC.rep_congr{g:Rd}{G G':Gh}:∀{t:TC} {u:Value},(∀k∈t.refs,G' k=G k)->t.rep g G u->t.rep g G' u
 | .p _,_,_,h=>h
 | .eref _ _ _ _ _,_,_,h=>h
 | .any,_,_,h=>h
 | .full _ _ _ _,_,_,h=>h
 | .ifc _ k _,_,hk,h=>by simp only[TC.rep];rw[hk k (by simp[TC.refs])];exact h
 | .fnc _ _,_,_,h=>h
 | .fncE _ _ _ _ _,_,_,h=>h
 | .buf k _ _ _ _,_,hk,h=>⟨by rw[hk k (by simp[TC.refs])];exact h.1,h.2⟩
 | .ref k _,_,hk,h=>by simp only[TC.rep];rw[hk k (by simp[TC.refs])];exact h
 | .mut k,_,hk,h=>by simp only[TC.rep];rw[hk k (by simp[TC.refs])];exact h
 | .mref k _ _ _,_,hk,h=>by simp only[TC.rep];rw[hk k (by simp[TC.refs])];exact h
 | .msl k _ _ _,_,hk,h=>by simp only[TC.rep];rw[hk k (by simp[TC.refs])];exact h
 | .clo _ nf nc,_,hk,⟨vs,ws,h1,h2,h3⟩=>⟨vs,ws,h1,eE (fun k d=>hk k (by simp only[TC.refs,VG];exact .inl d)) h2,eE (fun k d=>hk k (by simp only[TC.refs,VG];exact .inr d)) h3⟩
theorem Y3{d:Rd}{G G':Gh}:∀{a:List TC} {c:List Value},(∀k∈a.flatMap TC.refs,G' k=G k)->All2 (TC.rep d G) a c->All2 (TC.rep d G') a c
 | [],[],_,_=>trivial
 | [],_::_,_,h=>h.elim
 | _::_,[],_,h=>h.elim
 | t::a,v::c,hs,h=>⟨TC.rep_congr (fun k b=>hs k (by rw[List.flatMap_cons];exact VG.2 (.inl b))) h.1,Y3 (fun k b=>hs k (by rw[List.flatMap_cons];exact VG.2 (.inr b))) h.2⟩
theorem S1.rep_congr{b:Rd}{G G':Gh}:∀{t:S1} {u:Value},(∀k∈t.refs,G' k=G k)->t.rep b G u->t.rep b G' u
 | .one t,u,hs,h=>TC.rep_congr (t:=t) hs h
 | .agg ts,u,hs,⟨vs,h1,h2⟩=>⟨vs,h1,Y3 hs h2⟩
theorem mM{d:Rd}{G G':Gh}:∀{a:List S1} {c:List Value},(∀k∈a.flatMap S1.refs,G' k=G k)->All2 (S1.rep d G) a c->All2 (S1.rep d G') a c
 | [],[],_,_=>trivial
 | [],_::_,_,h=>h.elim
 | _::_,[],_,h=>h.elim
 | t::a,v::c,hs,h=>⟨S1.rep_congr (fun k b=>hs k (by rw[List.flatMap_cons];exact VG.2 (.inl b))) h.1,mM (fun k b=>hs k (by rw[List.flatMap_cons];exact VG.2 (.inr b))) h.2⟩
theorem SV.rep_congr{b:Rd}{G G':Gh}:∀{t:SV} {u:Value},(∀k∈t.refs,G' k=G k)->t.rep b G u->t.rep b G' u
 | .s t,u,hs,h=>S1.rep_congr (t:=t) hs h
 | .tup ts,u,hs,⟨vs,h1,h2⟩=>⟨vs,h1,mM hs h2⟩
 | .any,_,_,_=>trivial
 | .un,_,_,h=>h
theorem ObOk.congr{S:Ctx}{r:Rd}{G G':Gh}{w:World}{u:Value}{o:Ob}(l:∀k∈o.refs,G' k=G k)(h:ObOk S r G w u o):ObOk S r G' w u o:=by
 cases o with
 | box m=>obtain⟨b,g,t,a,d,f⟩:=h;exact⟨b,g,t,a,d,Y3 l f⟩
 | tbx e m=>obtain⟨b,g,a,d,f⟩:=h;exact⟨b,g,a,d,Y3 l f⟩
 | tarr n i m=>obtain⟨b,g,t,a,d,f,j,q⟩:=h;exact⟨b,g,t,a,d,f,j,Y3 l q⟩
 | growA e α i c s p m=>obtain⟨g,a,d,f,j,q,v⟩:=h;exact⟨g,a,d,f,j,q,Y3 l v⟩
 | growT e n i m=>obtain⟨g,a,d,f,j⟩:=h;exact⟨g,a,d,f,Y3 l j⟩
 | arr α i c s=>exact h
 | map κ y x=>exact h
 | spare n i e=>exact h
 | grow e α i c s=>exact h
theorem pF:∀{fr:Fr} {i:Nat} {s:SV},E0 fr i=some s->∀k∈s.refs,k∈uX fr
 | [],i,s,h,_,_=>by cases h
 | (j,x)::r,i,s,h,k,hm=>by
  unfold E0 at h;unfold uX;cases hb:Nat.beq j i
  ·rw[hb]at h;exact VG.2 (.inr (pF h k hm))
  ·rw[hb]at h;cases h;exact VG.2 (.inl hm)
theorem iQ:∀{ob:Obs} {i:Nat} {o:Ob},C5 ob i=some o->∀k∈o.refs,k∈pE ob
 | [],i,s,h,_,_=>by cases h
 | (j,x)::r,i,s,h,k,hm=>by
  unfold C5 at h;unfold pE;cases hb:Nat.beq j i
  ·rw[hb]at h;exact VG.2 (.inr (iQ h k hm))
  ·rw[hb]at h;cases h;exact VG.2 (.inl hm)
theorem sU:∀{a b:Obs} {k:Nat},C5 (a++b) k=match C5 a k with | some o=>some o | none=>C5 b k
 | [],b,k=>rfl
 | (j,x)::r,b,k=>by
  show (bif Nat.beq j k then some x else C5 (r++b) k)=(match (bif Nat.beq j k then some x else C5 r k) with | some o=>some o | none=>C5 b k)
  cases Nat.beq j k
  ·exact sU (a:=r)
  ·rfl
def OE(b:List S1)(ob':Obs)(fr:Fr)(ob:Obs):Bool :=
 (b.flatMap S1.refs++pE ob').all (fun k=>(C5 ob' k).isSome)&&(uX fr++pE ob).all (fun k=>(C5 ob' k).isNone)&&ob.all (fun p=>(C5 ob' p.1).isNone)
theorem xV:∀{ob:Obs} {k:Nat} {o:Ob},C5 ob k=some o->∃p∈ob,p.1=k
 | [],k,o,h=>by cases h
 | (j,x)::r,k,o,h=>by
  unfold C5 at h;cases hb:Nat.beq j k
  ·rw[hb]at h;obtain⟨p,a,b⟩:=xV h;exact⟨p,List.mem_cons_of_mem _ a,b⟩
  ·exact⟨_,List.mem_cons_self,by simpa using hb⟩
theorem y5{w:World}{B B':Nat}{e:TypeId}{d n:Nat}{v:Value}{f:List Value}(g:B<=B')(h:w.ownsRow B' e d v n f):w.ownsRow B e d v n f :=
 ⟨h.1,h.2.imp id fun ⟨b,a,c,i,hb,r⟩=>⟨b,a,c,i,Nat.le_trans g hb,r⟩⟩
theorem ObOk.low{S S':Ctx}{j:Rd}{G:Gh}{w:World}{u:Value}{o:Ob}(g:S.B<=S'.B)(h:ObOk S' j G w u o):ObOk S j G w u o:=by
 cases o with
 | box i=>exact h
 | tbx e i=>exact h
 | tarr n d i=>exact h
 | arr α d c k=>exact h
 | map κ m l=>exact h
 | spare n d e=>obtain⟨b,a⟩:=h;exact⟨b,y5 g a⟩
 | grow e α d c k=>obtain⟨b,a,f⟩:=h;exact⟨b,y5 g a,f⟩
 | growA e α d c k p i=>obtain⟨b,a,f⟩:=h;exact⟨b,y5 g a,f⟩
 | growT e n d i=>obtain⟨b,a,f⟩:=h;exact⟨b,y5 g a,f⟩
variable {rest:List Oper}{Q:Post}{d:Nat}
theorem bF{f:FuncId}{xs:List Operand}{ak:Array TypeId}{ty:TypeId}{pos:String}{af:Array Edge}{args:List S1}{ks:List Nat}{U:List S1->Obs->Prop}
  (hf:Met P f args [] [] ks U) (ha:gG fr xs=some args) (hc:xs.all G7=true) (av:(args.flatMap S1.refs).isEmpty=true) (hd:Nat.blt d nt=true)
  (kk:∀rs ob',U rs ob'->OE rs ob' fr ob=true/\WpL P nt ops rest ((d,xF rs)::fr) (ob'++ob) Q):WpL P nt ops (⟨some d,.call ⟨.value (.func f),xs.toArray,ak⟩,ty,pos,af,none⟩::rest) fr ob Q:=by
 intro S G a w hn h;have aj:=j4 h xs args ha hc;let S':Ctx:={ S with w0:=w,M0:=fun b i=>Mut S ob G b i,io:=fun _=>False }
 have ap:S'.B=w.heap.size:=rfl;have ae:High ([]:Fr):=fun i s hi=>by cases hi
 have al:Grd P (fun _=>False) w:=by
  obtain⟨wg,h1,M,O⟩:=h.grd;refine⟨wg,h1,Nat.le_trans M h.size,fun j F=>?_⟩;obtain⟨h4,h5⟩:=O j F;exact⟨(h.keep j (Nat.lt_of_lt_of_le F M) h5).trans h4,fun e=>e⟩
 have hs:Sim P S' [] [] G a w:={ nt:=h.nt,ntb:=h.ntb,defers:=h.defers,os:=rfl,tape:=rfl,output:=rfl,size:=Nat.le_refl _,keep:=fun _ _ _=>rfl,m0:=fun b i J=>h.mut_lt J,m0io:=fun _ _ _ e=>e,grd:=al,pin:=h.pin,old:=fun _ _ _ e=>(by cases e),dis:=fun _ _ _ _ _ e=>(by cases e),obs:=fun _ _ e=>(by cases e),facts:=fun _ _ e=>(by cases e) }
 have am:∀b i z,E4 (Mut S ob G) w b i z->E4 (Mut S' [] G) w b i z:=fun b i z V=>⟨V.1,fun J=>V.2 (by
  rcases J with J | ⟨k,o,q,_⟩
  ·exact J
  ·cases q)⟩
 have Z:=hf.2 ae S' G a w _ hs (aj.mono fun _ _=>S1.rep_mono am);refine wpList_plain rfl fun K hK=>J7 (K:=fun v w'=>∃rs ob' G',U rs ob'/\X3 (E4 (Mut S' ob' G') w') G' rs v/\Sim P S' (C9 ks []) ob' G' a w') ?_ ?_
 ·have he:(execOp a.eval ⟨some d,.call ⟨.value (.func f),xs.toArray,ak⟩,ty,pos,af,none⟩).run P w=.ok (.enter f (xs.map a.eval).toArray) w:=by
   have:=N8 (P:=P) (f:=f) (args:=(xs.map a.eval).toArray) (w:=w) hf.1;have J:xs.toArray.map a.eval=(xs.map a.eval).toArray:=by simp
   simp only[execOp,resolve,Act.eval,Deferred.ofValue,Sem.run_bind,Sem.run_pure,Result.andThen_ok,invoke];rw[show (#[]:Array Value)++Array.map a.eval xs.toArray++#[]=(xs.map a.eval).toArray by rw[<-J];simp];exact this
  unfold Does;rw[he];refine Z.mono ?_;rintro e w' ⟨v,rs,ob',G',rfl,ah,T,C⟩;exact⟨v,rfl,rs,ob',G',ah,T,C⟩
 ·rintro v w' ⟨rs,ob',G',hp,T,C⟩;obtain⟨ab,ar⟩:=kk rs ob' hp;simp only[OE,VB,List.all_eq_true,VG]at ab;obtain⟨⟨n1,n2⟩,n3⟩:=ab;have au:∀{k o},C5 ob k=some o->C5 ob' k=none:=fun {k o} q=>by
   obtain⟨p,p1,p2⟩:=xV q;have:=n3 p p1;rw[p2]at this;simpa using this
  obtain⟨H,hH⟩:∃H:Gh,H=fun k=>match C5 ob' k with | some _=>G' k | none=>G k:=⟨_,rfl⟩
  have W:∀{k},(C5 ob' k).isSome=true->H k=G' k:=fun {k} q=>by
   rw[hH];dsimp only;cases R:C5 ob' k with
   | none=>rw[R]at q;cases q
   | some o=>rfl
  have X:∀{k},(C5 ob' k).isNone=true->H k=G k:=fun {k} q=>by
   rw[hH];dsimp only;cases R:C5 ob' k with
   | none=>rfl
   | some o=>rw[R]at q;cases q
  have ag:d<S.nt:=by rw[hn];simpa using hd
  have ao:w.heap.size<=w'.heap.size:=C.size;have I:∀k,k<w.heap.size->w'.heap[k]?=w.heap[k]?:=fun k q=>C.keep k q (fun e=>e);have L:∀k o b,C5 ob' k=some o->blk (G' k)=some b->w.heap.size<=b:=fun k o b h1 M=>by
   rcases C.old k o b h1 M with O | O
   ·exact O
   ·exact O.1.elim
  have D:∀{k o},C5 (ob'++ob) k=some o->(C5 ob' k=some o/\H k=G' k)\/(C5 ob k=some o/\H k=G k):=fun {k o} q=>by
   rw[sU]at q;cases R:C5 ob' k with
   | some o'=>rw[R]at q;exact .inl ⟨q,W (by rw[R];rfl)⟩
   | none=>rw[R]at q;exact .inr ⟨q,X (by rw[R];rfl)⟩
  have ac:∀b i z,E4 (Mut S' ob' G') w' b i z->E4 (Mut S (ob'++ob) H) w' b i z:=fun b i z V=>⟨V.1,fun J=>V.2 (by
   rcases J with J | ⟨k,o,q,hb⟩
   ·exact .inl (.inl J)
   ·rcases D q with ⟨k1,e⟩ | ⟨k1,e⟩
    ·rw[e]at hb;exact .inr ⟨k,o,k1,hb⟩
    ·rw[e]at hb;exact .inl (.inr ⟨k,o,k1,hb⟩))⟩
  have ad:∀b i z,E4 (Mut S ob G) w b i z->E4 (Mut S (ob'++ob) H) w' b i z:=fun b i z V=>by
   have ag:b<w.heap.size:=World.block_lt_of_cell? w _ V.1;refine⟨by rw[World.cell?_of_block (w:=w) (a:=⟨b,i,none⟩) (I b ag)];exact V.1,fun J=>?_⟩;rcases J with J | ⟨k,o,q,hb⟩
   ·exact V.2 (.inl J)
   ·rcases D q with ⟨k1,e⟩ | ⟨k1,e⟩
    ·rw[e]at hb;have:=L k o b k1 hb.1;omega
    ·rw[e]at hb;exact V.2 (.inr ⟨k,o,k1,hb⟩)
  have Y:Below w.heap.size w w':=⟨C.os,C.tape,C.output,ao,fun k q=>I k q⟩
  have an:Sim P S fr (ob'++ob) H a w':=by
   refine { nt:=h.nt,ntb:=h.ntb,defers:=h.defers,os:=C.os.trans h.os,tape:=C.tape.trans h.tape,output:=C.output.trans h.output,size:=Nat.le_trans h.size ao,keep:=fun k q aq=>(I k (Nat.lt_of_lt_of_le q h.size)).trans (h.keep k q aq),m0:=h.m0,m0io:=h.m0io,grd:=h.grd,pin:=fun k q=>?_,old:=fun k o b h1 M=>?_,dis:=fun k k' o o' b h1 M O h4=>?_,obs:=fun k o q=>?_,facts:=fun i s hi=>?_ }
   ·cases R:C5 ob' k with
    | some o=>rw[W (by rw[R];rfl)];exact C.pin k q
    | none=>rw[X (by rw[R];rfl)];exact h.pin k q
   ·rcases D h1 with ⟨k1,e⟩ | ⟨k1,e⟩
    ·rw[e]at M;exact .inl (Nat.le_trans h.size (L k o b k1 M))
    ·rw[e]at M;exact h.old k o b k1 M
   ·rcases D h1 with ⟨k1,e1⟩ | ⟨k1,e1⟩<;>rcases D M with ⟨k2,e2⟩ | ⟨k2,e2⟩<;>rw[e1]at O<;>rw[e2]at h4
    ·exact C.dis k k' o o' b k1 k2 O h4
    ·have:=L k o b k1 O;have:=(h.obs k' o' k2).blk_lt _ h4;omega
    ·have:=L k' o' b k2 h4;have:=(h.obs k o k1).blk_lt _ O;omega
    ·exact h.dis k k' o o' b k1 k2 O h4
   ·rcases D q with ⟨k1,e⟩ | ⟨k1,e⟩
    ·rw[e];exact (((C.obs k o k1).low (S:=S) (by rw[ap];exact h.size)).ext ac (Below.refl _ _)).congr fun j F=>W (n1 j (.inr (iQ k1 j F)))
    ·rw[e];exact ((h.obs k o k1).ext ad Y).congr fun j F=>X (n2 j (.inr (iQ k1 j F)))
   ·exact SV.rep_congr (fun j F=>X (n2 j (.inl (pF hi j F)))) (SV.rep_mono ad (h.facts i s hi))
  have ai:(xF rs).rep (E4 (Mut S (ob'++ob) H) w') H v:=by
   refine SV.rep_congr (fun j F=>W (n1 j (.inl ?_))) (SV.rep_mono ac T);revert F
   match rs with
   | []=>intro F;cases F
   | [r]=>intro F;simpa[xF,SV.refs] using F
   | r::r2::rest=>intro F;exact F
  exact hK _ _ (ar S H _ w' hn (an.put ag ai))
def JF(P:Program)(nt:Nat)(ops:Array Oper)(o:Oper)(φ:Fa)(ob:Obs)(K:Fa->Obs->Prop):Prop :=
 Wanted ops φ o true/\∀S G a w,S.nt=nt->SimF P S φ ob G a w->Does P o a w (fun v w'=>∃b ob' G',K b ob'/\SimF P S b ob' G' (a.put o.dst v) w')
def JG(P:Program)(nt:Nat)(ops:Array Oper)(T i:Nat)(φ:Fa)(ob:Obs)(K:Fa->Obs->Prop):Prop :=
 ∃o,ops[i]?=some o/\cond (tn T i o) (JF P nt ops o φ ob K) (∃s d,o.dst=some d/\YieldsN P nt ops o φ ob s/\K (V8 φ d s) ob)
def dF(P:Program)(nt:Nat)(ops:Array Oper)(T:Nat)(K:Fa->Obs->Prop):Nat->Array Bool->Fa->Obs->Prop
 | 0,listed,φ,ob=>Region.ready .any ops listed=[]/\K φ ob
 | fuel+1,listed,φ,ob=>(Region.ready .any ops listed=[]->K φ ob)/\∀i∈Region.ready .any ops listed,JG P nt ops T i φ ob (dF P nt ops T K fuel (listed.setIfInBounds i true))
theorem y6{T:Nat}{K:Fa->Obs->Prop}{S:Ctx}{Q:Exit->Act->World->Prop}(q:S.nt=nt)(f:∀(j t:Nat),(ops[j]?).bind (fun o=>o.dst)=some t->t<nt)(x:∀φ ob G a w,K φ ob->SimF P S φ ob G a w->Q .normal a w) :
  ∀(e:Nat) (g:Array Bool) (φ:Fa) (ob:Obs) (G:Gh) (a:Act) (w:World),dF P nt ops T K e g φ ob->SimF P S φ ob G a w->wpAny P .any ops Q e g a w
 | 0,_,φ,ob,G,a,w,h,hs=>⟨h.1,x φ ob G a w h.2 hs⟩
 | e+1,g,φ,ob,G,a,w,h,hs=>by
  refine⟨fun L=>x φ ob G a w (h.1 L) hs,fun i E=>?_⟩;obtain⟨o,N,c⟩:=h.2 i E;unfold wpOp;simp only[N];cases I:tn T i o with
  | true =>
   rw[I]at c;obtain⟨M,c⟩:=c;rw[A4 (bB q hs M f)];refine .inl (J7 (c S G a w q hs) ?_);rintro v w' ⟨V,ob',G',k,F⟩;exact y6 q f x e _ V ob' G' _ w' k F
  | false =>
   rw[I]at c;obtain⟨s,d,C,⟨W,z,A,U⟩,k⟩:=c;rw[C]at z;cases z;rcases U with ⟨H,J,D,B⟩ | ⟨H,rfl⟩
   ·rw[bB q hs H f,A4 rfl];refine .inl (J7 (B S G a w (hs.sub fun i s E=>(D i s E).1)) ?_);rintro v w' ⟨R,X,rfl,O⟩;rw[C];exact y6 q f x e _ _ ob G _ w' k ((hs.ext R).put (by rw[q];exact A) O)
   ·rw[bB q hs H f,A5 (by simp),C];exact y6 q f x e _ _ ob G _ w k (hs.put (by rw[q];exact A) rfl)
theorem pG{T:Nat}{K:Fa->Obs->Prop}:∀(c:Nat) (b:Array Bool) (φ:Fa) (ob:Obs),b.getD T false=true->rO P nt ops K c b φ ob->dF P nt ops T K c b φ ob
 | 0,_,_,_,_,h=>h
 | c+1,b,φ,ob,hT,h=>by
  refine⟨h.1,fun i A=>?_⟩;obtain⟨o,F,j⟩:=h.2 i A;have q:i≠T:=fun e=>by subst e;have:=Q1 A;rw[hT]at this;cases this
  have k:(b.setIfInBounds i true).getD T false=true:=by
   simp only[Array.getD_eq_getD_getElem?]at hT ⊢
   rwa[Array.getElem?_setIfInBounds_ne q]
  refine⟨o,F,?_⟩;have I:tn T i o=turns o.op:=by unfold tn;rw[R3 q];rfl
  rw[I];cases y:turns o.op with
  | true =>
   rw[y]at j;refine⟨by unfold Wanted;rw[j.1],fun S G a w E H=>?_⟩;have l:=j.2 S G a w E H;unfold Does at l ⊢;have m:∀v w',(∃p ob' G',rO P nt ops K c (b.setIfInBounds i true) p ob'/\SimF P S p ob' G' (a.put o.dst v) w')->(∃p ob' G',dF P nt ops T K c (b.setIfInBounds i true) p ob'/\SimF P S p ob' G' (a.put o.dst v) w'):=by
    rintro v w' ⟨p,ob',G',B,z⟩;exact⟨_,ob',G',pG c _ _ _ k B,z⟩
   generalize (execOp a.eval o).run P w=r at *;cases r with
   | ok n w' =>
    cases n<;>simp only at l ⊢<;>try exact l.elim
    case value v=>exact m _ _ l
    case skip=>exact m _ _ l
    case enter f args=>exact l.mono fun e M ⟨v,C,J⟩=>⟨v,C,m _ _ J⟩
   | halt x w'=>exact l
  | false =>
   rw[y]at j;obtain⟨s,d,l,L,HK⟩:=j;exact⟨s,d,l,L,pG c _ _ _ k HK⟩
theorem xW{T:Nat}{K:Fa->Obs->Prop}{i d:Nat}{w:Oper}{s:SV}(hi:ops[i]?=some w)(V:tn T i w=false)(F:w.dst=some d) :
  ∀(c:Nat) (b:Array Bool) (φ:Fa) (ob:Obs),Closed ops b ->
   (∀j l,ops[j]?=some l->j≠i->b.getD j true=false->tn T j l=true->Bef ops j i=true) ->
   (∀j l,ops[j]?=some l->j≠i->b.getD j true=false->tn T j l=false->(∃e∈l.after.toList,Region.binds .any e=true/\e.on=i)\/aK ops w l=true) ->
   i∈Region.ready .any ops b->YieldsN P nt ops w φ ob s ->
   dF P nt ops T K c (b.setIfInBounds i true) (V8 φ d s) ob->dF P nt ops T K (c+1) b φ ob:=by
 have q:∀(c:Nat) (b:Array Bool) (φ:Fa) (ob:Obs),YieldsN P nt ops w φ ob s->dF P nt ops T K c (b.setIfInBounds i true) (V8 φ d s) ob->JG P nt ops T i φ ob (dF P nt ops T K c (b.setIfInBounds i true)):=by
  intro c b φ ob D H;exact⟨w,hi,by rw[V];exact⟨s,d,F,D,H⟩⟩
 intro c;induction c with
 | zero =>
  intro b φ ob Q N O A D H;refine⟨fun h=>(by rw[h]at A;cases A),fun j I=>?_⟩;by_cases f:j=i
  ·subst f;exact q 0 b φ ob D H
  ·have:=ready_mono I f;rw[H.1]at this;cases this
 | succ c ih =>
  intro b φ ob Q N O A D H;refine⟨fun h=>(by rw[h]at A;cases A),fun j I=>?_⟩;by_cases f:j=i
  ·subst f;exact q (c+1) b φ ob D H
  ·obtain⟨g,l,p,u⟩:=mem_ready.1 I;have v:=Q1 A;cases t:tn T j l with
   | true =>
    have hb:=N j l p f g t;have:=Y1 Q j hb (fun o Y e R x=>by rw[p]at Y;cases Y;exact u e (Array.mem_toList_iff.1 R) x);rw[v]at this;cases this
   | false =>
    have E:aK ops w l=true:=by
     rcases O j l p f g t with ⟨e,R,x,U⟩ | h
     ·have:=u e (Array.mem_toList_iff.1 R) x;rw[U]at this;have L:b.getD i false=true:=this;rw[v]at L;cases L
     ·exact h
    obtain⟨o',J,r⟩:=H.2 j (ready_mono I f);rw[p]at J;cases J;rw[t]at r;obtain⟨sj,X,G,W,HK⟩:=r;simp only[aK,F,G,VB,Bool.not_eq_true',List.contains_eq_mem,decide_eq_false_iff_not]at E;obtain⟨⟨Z,L⟩,M⟩:=E;have M:d≠X:=fun e=>by subst e;simp at M
    refine⟨l,p,by
     rw[t];refine⟨sj,X,G,W.unput Z,?_⟩;refine ih (b.setIfInBounds j true) _ ob (T8 Q I) ?_ ?_ (ready_mono A (Ne.symm f)) (D.put L) ?_
     ·intro k ok S z C B;refine N k ok S z ?_ B;by_cases m:j=k
      ·subst m;exact g
      ·rwa[getD_set_ne true m]at C
     ·intro k ok S z C B;refine O k ok S z ?_ B;by_cases m:j=k
      ·subst m;exact g
      ·rwa[getD_set_ne true m]at C
     ·rw[Array.setIfInBounds_comm _ _ f,<-sJ M]
      exact HK⟩
theorem sV{T c:Nat}{K:Fa->Obs->Prop}{E:Fr->Obs->Prop}:∀(l:List Oper) (k:Nat) (b:Array Bool) (fr:Fr) (ob:Obs),(∀j,j<l.length->l[j]?=ops[k+j]?)->Closed ops b->uR ops T l.length k b=true ->
  (∀fr ob,Closed ops (xH l.length k b)->E fr ob->dF P nt ops T K c (xH l.length k b) (E0 fr) ob)->LexD P nt ops E l fr ob->dF P nt ops T K (c+l.length) b (E0 fr) ob
 | [],k,b,fr,ob,hl,hc,hB,hE,h=>hE fr ob hc h
 | o::l,k,b,fr,ob,hl,hc,hB,hE,h=>by
  have D:ops[k]?=some o:=by simpa using (hl 0 (by simp)).symm
  simp only[VD,uR,D,VB,Bool.not_eq_true']at hB;obtain⟨⟨⟨L,v⟩,I⟩,x⟩:=hB;have w:k∈Region.ready .any ops b:=by simpa using L
  have z:∀j,j<l.length->l[j]?=ops[k+1+j]?:=fun j J=>by have:=hl (j+1) (by simpa using J);simpa[Nat.add_assoc,Nat.add_comm 1 j] using this
  have M:turns o.op=false:=by
   cases C:turns o.op
   ·rfl
   ·simp[tn,C]at v
  simp only[LexD]at h;rw[M]at h;simp only[cond]at h;obtain⟨s,d,G,N,F⟩:=h;have t:∀j q,ops[j]?=some q->j≠k->b.getD j true=false->cond (tn T j q) (Bef ops j k) (q.after.toList.any (fun e=>Region.binds .any e&&Nat.beq e.on k)||aK ops o q)=true:=by
   intro j q f g p;have A:j<ops.size:=(Array.getElem?_eq_some_iff.1 f).1;have:=List.all_eq_true.1 I j (VL.2 A);rw[R3 g,p,f]at this;simp only[Bool.false_or]at this;exact this
  show dF P nt ops T K (c+(l.length+1)) b (E0 fr) ob;rw[<-Nat.add_assoc];refine xW D v G (c+l.length) b _ ob hc ?_ ?_ w N ?_
  ·intro j q f g p u;have:=t j q f g p;rw[u]at this;exact this
  ·intro j q f g p u;have:=t j q f g p;rw[u]at this;simp only[cond,VU,List.any_eq_true,VB]at this;rcases this with ⟨e,H,hb,B⟩ | h
   ·exact .inl ⟨e,H,hb,Nat.eq_of_beq_eq_true B⟩
   ·exact .inr h
  ·rw[<-dU];exact sV l (k+1) _ _ ob z (T8 hc w) x hE F
theorem pH{id:Nat}{l:List Oper}(n:Nat){C:Oper}{fr:Fr}{ob:Obs}{Q:Post}(hm:P.follows .mixedOrders=true)(H:IU nt l n=true)(hc:l[n]?=some C)
  (h:LexD P nt l.toArray (fun fr ob=>JF P nt l.toArray C (E0 fr) ob (fun φ' ob'=>∃fr',φ'=E0 fr'/\LexD P nt l.toArray (fun fr ob=>Q .normal fr ob) (l.drop (n+1)) fr' ob')) (l.take n) fr ob):WpC P nt (.region id l.toArray true) fr ob Q:=by
 intro S G a w N T;unfold IU at H;simp only[VB]at H;obtain⟨⟨⟨⟨⟨⟨⟨b1,b2⟩,b3⟩,b4⟩,b5⟩,b6⟩,D⟩,E⟩:=H;have ab:n+1<=l.length:=Nat.le_of_ble_eq_true b3;have c:(l.take n).length=n:=Nat.eq_of_beq_eq_true b4;have u:∀(j t:Nat),(l.toArray[j]?).bind (fun o=>o.dst)=some t->t<nt:=by
  intro j t V;cases A:l.toArray[j]? with
  | none=>simp[A]at V
  | some o =>
   simp[A]at V;have z:o∈l:=by
    rw[List.getElem?_toArray]at A;exact VZ A
   have:=List.all_eq_true.1 b2 o (by simpa using z);rw[V]at this;simpa using this
 refine wp_region_any hm ?_;have I:Closed l.toArray (Array.replicate l.length false):=by
  intro j o A M;simp only[Array.getD_eq_getD_getElem?]at M;rcases Nat.lt_or_ge j l.length with F | F
  ·simp[F]at M
  ·simp[F]at M
 have R:l.toArray[n]?=some C:=by rw[List.getElem?_toArray];exact hc
 have B:tn n n C=true:=by unfold tn;rw[Nat.beq_refl];rfl
 have W:dF P nt l.toArray n (fun φ ob=>∃fr',φ=E0 fr'/\Q .normal fr' ob) ((l.drop (n+1)).length+1+(l.take n).length) (Array.replicate l.length false) (E0 fr) ob:=by
  refine sV (l.take n) 0 _ fr ob (fun j Z=>?_) I (by rw[c];exact b1) (fun fr ob f Y=>?_) h
  ·rw[Nat.zero_add,List.getElem?_toArray,WH (by rw[c]at Z;exact Z)]
  ·rw[c]at f ⊢;have X:n∈Region.ready .any l.toArray (xH n 0 (Array.replicate l.length false)):=by simpa using b6
   have q:=T8 f X;refine⟨fun J=>(by rw[J]at X;cases X),fun j L=>?_⟩;have K:j=n:=Nat.eq_of_beq_eq_true (List.all_eq_true.1 b5 j L);subst K;refine⟨C,R,?_⟩;rw[B];refine⟨Y.1,fun S G a w N T=>oR (Y.2 S G a w N T) ?_⟩;rintro v w' ⟨φ',ob',G',⟨fr',rfl,hL⟩,p⟩;exact⟨_,ob',G',pG _ _ _ _ D (jQ (l.drop (j+1)) (j+1) _ fr' ob' (fun i=>by rw[WD,List.getElem?_toArray]) q E hL),p⟩
 have hx:Below w.heap.size w { w with drawn:=w.drawn+1 }:=⟨rfl,rfl,rfl,Nat.le_refl _,fun _ _=>rfl⟩
 have p:SimF P S (E0 fr) ob G a { w with drawn:=w.drawn+1 }:=(RL.2 T).ext hx;have:=y6 (Q:=PostOf P S Q) N u (fun φ ob' G' a' w' ⟨fr',J,hq⟩ U=>⟨fr',ob',G',hq,.inl (RL.1 (J ▸ U))⟩) _ _ _ ob G a _ W p;have k:(l.drop (n+1)).length+1+(l.take n).length=l.length:=by rw[WA,c];omega
 rw[k]at this;simpa using this
theorem FP{a:Op}{ty:TypeId}{pos:String}{af:Array Edge}{d j t:Nat}{b x:Bool}{fr:Fr}{ob:Obs}{K:Fa->Obs->Prop}(c:(ops[j]?).bind (·.dst)=some t)(f:E0 fr t=some (.s (.one (.p (.v (.bool x))))))(hb:x=b)
  (h:oO P nt ops ⟨some d,a,ty,pos,af,none⟩ (E0 fr) ob K):JF P nt ops ⟨some d,a,ty,pos,af,some (j,b)⟩ (E0 fr) ob K :=
 ⟨⟨t,_,c,f,by have:=Wants.val (b:=b) x;rwa[show (x == b)=true by simp[hb]]at this⟩,h.2⟩
variable {K:Fr->Obs->Prop}
theorem PA{a:Op}{ty:TypeId}{pos:String}{af:Array Edge}{j t:Nat}{b x:Bool}(A:(ops[j]?).bind (·.dst)=some t)(D:E0 fr t=some (.s (.one (.p (.v (.bool x))))))(hb:x=b)(B:turns a=false)
  (k:LexD P nt ops K (⟨some d,a,ty,pos,af,none⟩::rest) fr ob):LexD P nt ops K (⟨some d,a,ty,pos,af,some (j,b)⟩::rest) fr ob:=by
 simp only[LexD,B,cond]at k ⊢;obtain⟨s,e,z,⟨u,f,g,E⟩,y⟩:=k;have C:Wanted ops (E0 fr) (⟨some d,a,ty,pos,af,some (j,b)⟩:Oper) true:=⟨t,_,A,D,by have:=Wants.val (b:=b) x;rwa[show (x == b)=true by simp[hb]]at this⟩
 rcases E with ⟨_,c,h,w⟩ | ⟨hw2,_⟩
 ·exact⟨s,e,z,⟨u,f,g,.inl ⟨C,c,fun i q m=>⟨(h i q m).1,VG.2 (.inr (by
   have:=(h i q m).2;unfold uses at this
   simpa[oN] using this))⟩,w⟩⟩,y⟩
 ·unfold Wanted at hw2;cases hw2
theorem xX{x:Operand}{t e q:TypeId}{v d k y n:Nat}{D:List TC}(B:opv fr x=some (.s (.one (.mut k))))(A:C5 ob k=some (.growT q n y D))[ht:TySl P t e v d] :
  Neu P ⟨dst,.call ⟨.builtin .len,#[x],#[t]⟩,ty,pos,af,gd⟩ fr ob (fun C=>C=D1 n) :=
 E3 fun S G a w h=>by
  refine⟨.int .i64 n,?_,rfl,rfl⟩;obtain⟨j,_⟩:=F9 h B;obtain⟨E,f,_⟩:=h.obs k _ A;rcases f.2 with ⟨p,z⟩ | ⟨g,cap,cur,p,_⟩
  ·rw[p]at j;simp[execOp,resolve,invoke,builtin,j,Builtin.len_,run_underlying ht.out.1,goInt,z]
  ·rw[p]at j;simp[execOp,resolve,invoke,builtin,j,Builtin.len_,run_underlying ht.out.1,goInt]
theorem eF{x y:Operand}{t e v:TypeId}{j b k n:Nat}{I:List TC}{F:IntKind}{i:Int}[ht:TySl P t e j b](D:opv fr x=some (.s (.one (.mut k))))(C:C5 ob k=some (.growT v n j I))
  (E:opv fr y=some (H6 (.int F i))) (z:0<=i) (B:i<n):Neu P ⟨dst,.indexAddr t x y,ty,pos,af,gd⟩ fr ob (fun H=>H=.s (.one (.mref k j i.toNat 0))) :=
 E3 fun S G a w h=>by
  obtain⟨q,_⟩:=F9 h D;obtain⟨K,c,_⟩:=h.obs k _ C;rcases c.2 with ⟨l,J⟩ | ⟨g,cap,cur,l,_⟩
  ·omega
  ·rw[l]at q;refine⟨.pointer (some ⟨g,i.toNat*j,none⟩),?_,g,n,cap,l,rfl⟩;simp only[execOp,q,F2 h E];refine J3 ?_;have hb:0<=i/\i<(n:Int):=⟨z,B⟩
   simp[Instr.indexAt,run_underlying ht.out.1,asIntOf,hb,I1 ht.size,Addr.add_lit]
theorem sW{x:Operand}{t e:TypeId}{k q o n:Nat}{i:Nat}{v:List TC}{s:TC}[ht:TyOne P t](F:opv fr x=some (.s (.one (.mref k i q o))))(B:C5 ob k=some (.growT e n i v))(E:v[q*i+o]?=some s) :
  Neu P ⟨dst,.load t x,ty,pos,af,gd⟩ fr ob (fun H=>H=.s (.one s)) :=
 E3 fun S G a w h=>by
  obtain⟨b,m,y,A,D⟩:=F9 h F;obtain⟨I,j,_,C,ha⟩:=h.obs k _ B;obtain⟨z,p,u⟩:=ha.get _ s E;have:=j.cells (g:=b) (by rw[A];rfl) (q*i+o) z p;refine⟨z,?_,u⟩;simp only[execOp,D];refine J3 ?_;have c:w.cell? ⟨b,q*i+o,none⟩=some z:=by simpa[Addr.add_lit] using this
  simp[Instr.loadAt,Instr.sureAddr,P3 (ht:=ht) c]
theorem bW{x y:Operand}{k k2 n m:Nat}{H D:Nat}{ts us:List TC}{t e:TypeId}[ht:TySl P t e H D](hx:opv fr x=some (.s (.one (.mut k))))(W:C5 ob k=some (.growT e n H ts))
  (hy:opv fr y=some (.s (.one (.mut k2)))) (X:C5 ob k2=some (.tarr m H us)) (J:n+m<=1073741824) (hp:Nat.blt k 1000000=true) :
  EffV P ⟨dst,.call ⟨.builtin .append,#[x,y],#[t,t]⟩,ty,pos,af,gd⟩ fr ob (.s (.one (.mut k))) (Fr.forget k fr) ((k,.growT e (n+m) H ((ts++us).map (TC.forget k)))::Obs.forget k ob):=by
 intro S G a w h;have ah:=ht.out.2.2.1;obtain⟨ab,_⟩:=F9 h hx;obtain⟨O,_⟩:=F9 h hy;obtain⟨b2,vs,t2,U,ai,V,N,E⟩:=h.obs k2 _ X;rw[U]at O;have ac:vs.length=m*H:=by rw[<-E.length,N]
 obtain⟨ws,C,_,ae,ag⟩:=h.obs k _ W;obtain⟨v',w',L,A,f,q,Q⟩:=aI (P:=P) (ty:=ty) S.B ht C h.size (u:=a.eval y) (ad:=some ⟨b2,0,none⟩) (m:=m) (c:=m) (news:=vs) O (by intro h;cases h) (Nat.le_refl _) ac
  (fun b o hb j z hz=>by
   injection hb with hb;injection hb with e1 e2;subst e1;subst e2
   rw[Lib.cell_of_heap V]
   simpa using hz)
  (.inr ⟨b2,0,rfl⟩) (xU E) J
 have I:(G k).ownBlock=blk (G k):=b9 (W6 C);have F:∀b i z,E4 (Mut S ob G) w b i z->w'.cell? ⟨b,i,none⟩=some z:=by
  intro b i z Z;have Y:b<w.heap.size:=World.block_lt_of_cell? w _ Z.1;by_cases hb:blk (G k)=some b
  ·exact absurd (Or.inr ⟨k,_,W,hb,trivial⟩) Z.2
  ·rw[World.cell?_of_block (w:=w) (a:=⟨b,i,none⟩) (f.block b Y (by rw[I];exact fun e=>hb e.symm))];exact Z.1
 have M:=h.turn (o':=.growT e (n+m) H ((ts++us).map (TC.forget k))) (u':=v') (by simpa using hp) W f.os f.tape f.output f.size (fun j hj hb=>f.block j hj (by rw[I];exact fun e=>hb e.symm)) F q
  (by
   intro b i hb ho;rcases q b ho.1 with h1 | h1
   ·exact⟨h1,trivial⟩
   ·omega)
  (fun rd K G' R=>by
   refine⟨_,A,by omega,by rw[VW,VF,ae,N,WG],?_⟩
   exact ((ag.append E).mono fun _ _=>TC.rep_mono K).map (TC.forget k) fun _ _=>TC.rep_forget R)
 exact G3 (w':=w') (v:=v') (by simp[execOp,resolve,invoke,builtin,ab,L]) ⟨upd G k v',M,(G6 _ _ _).symm,dW A⟩
section
variable {P:Program}{nt:Nat}{fr gf:Fr}{ob:Obs}
theorem TC.forget_comm(k q:Nat)(t:TC):(t.forget q).forget k=(t.forget k).forget q:=by
 cases t with
 | p c=>rfl
 | buf a α d c l=>cases hb:Nat.beq a k<;>cases b:Nat.beq a q<;>simp[TC.forget,hb,b]
 | ref a o=>cases hb:Nat.beq a k<;>cases b:Nat.beq a q<;>simp[TC.forget,hb,b]
 | eref α d c x o=>rfl
 | «mut» a=>cases hb:Nat.beq a k<;>cases b:Nat.beq a q<;>simp[TC.forget,hb,b]
 | mref a d i o=>cases hb:Nat.beq a k<;>cases b:Nat.beq a q<;>simp[TC.forget,hb,b]
 | any=>rfl
 | clo f j h=>cases hb:(fV k j||fV k h)<;>cases b:(fV q j||fV q h)<;>simp[TC.forget,hb,b]
 | msl a d o n=>cases hb:Nat.beq a k<;>cases b:Nat.beq a q<;>simp[TC.forget,hb,b]
 | ifc t a o=>cases hb:Nat.beq a k<;>cases b:Nat.beq a q<;>simp[TC.forget,hb,b]
 | fnc f m=>rfl
 | fncE f α d c x=>rfl
 | full α d c l=>rfl
theorem S1.forget_comm(k q:Nat)(s:S1):(s.forget q).forget k=(s.forget k).forget q:=by
 cases s with
 | one t=>simp only[S1.forget,TC.forget_comm k q t]
 | agg a=>simp only[S1.forget,WV];congr 1;exact List.map_congr_left fun t _=>TC.forget_comm k q t
theorem SV.forget_comm(k q:Nat)(s:SV):(s.forget q).forget k=(s.forget k).forget q:=by
 cases s with
 | s x=>simp only[SV.forget,S1.forget_comm k q x]
 | tup l=>simp only[SV.forget,WV];congr 1;exact List.map_congr_left fun t _=>S1.forget_comm k q t
 | any=>rfl
 | un=>rfl
theorem Fr.forget_comm(k q:Nat)(fr:Fr):Fr.forget k (Fr.forget q fr)=Fr.forget q (Fr.forget k fr):=by
 unfold Fr.forget;rw[WV,WV];exact List.map_congr_left fun p _=>by simp only[Function.comp];rw[SV.forget_comm]
theorem bX(k:Nat):∀(a:List Nat) (fr:Fr),C9 a (Fr.forget k fr)=Fr.forget k (C9 a fr)
 | [],fr=>rfl
 | q::a,fr=>by
  show C9 a (Fr.forget q (Fr.forget k fr))=Fr.forget k (C9 a (Fr.forget q fr));rw[Fr.forget_comm q k,bX k a]
theorem j9{k:Nat}:∀{a:List Nat} {fr:Fr},K7 a k=true->Fr.forget k (C9 a fr)=C9 a fr
 | [],fr,h=>by cases h
 | q::a,fr,h=>by
  show Fr.forget k (C9 a (Fr.forget q fr))=C9 a (Fr.forget q fr);by_cases b:k=q
  ·subst b;rw[bX,Fr.forget_idem]
  ·have c:K7 a k=true:=by
    rw[xL]at h ⊢;rcases VH.1 h with h | h
    ·exact absurd h b
    ·exact h
   exact j9 c
theorem N9{a:List Nat}(k:Nat)(b:K7 a k=true)(h:Tail (C9 a gf) fr):Tail (C9 a gf) (Fr.forget k fr):=by
 have:=E1 k h
 rwa[j9 b]at this
theorem H8:∀{ks:List Nat} {gf:Fr},High gf->High (C9 ks gf)
 | [],gf,h=>h
 | k::ks,gf,h=>H8 (ks:=ks) (xI (k:=k) h)
theorem jZ:∀{ks:List Nat} {gf:Fr} {i:Nat} {s:SV},E0 (C9 ks gf) i=some s->∃c,E0 gf i=some c/\∀(b:Rd) (G:Gh) (u:Value),c.rep b G u->s.rep b G u
 | [],gf,i,s,h=>⟨s,h,fun _ _ _ h=>h⟩
 | k::ks,gf,i,s,h=>by
  obtain⟨s1,a,e⟩:=jZ (ks:=ks) (gf:=Fr.forget k gf) h;rw[N0]at a;cases d:E0 gf i with
  | none=>rw[d]at a;cases a
  | some c =>
   rw[d]at a;cases a;exact⟨c,rfl,fun b G u f=>e b G u (SV.rep_forget (G':=G) (fun _ _=>rfl) f)⟩
end
def TC.ren(j k:Nat):TC->TC
 | .buf a α d c g=>cond (Nat.beq a j) (.buf k α d c g) (.buf a α d c g)
 | .ref a off=>cond (Nat.beq a j) (.ref k off) (.ref a off)
 | .mut a=>cond (Nat.beq a j) (.mut k) (.mut a)
 | .mref a d i off=>cond (Nat.beq a j) (.mref k d i off) (.mref a d i off)
 | .msl a d off n=>cond (Nat.beq a j) (.msl k d off n) (.msl a d off n)
 | .ifc t a off=>cond (Nat.beq a j) (.ifc t k off) (.ifc t a off)
 | t=>t
def Ob.ren(j k:Nat):Ob->Ob
 | .box d=>.box (d.map (TC.ren j k))
 | .tbx e d=>.tbx e (d.map (TC.ren j k))
 | .tarr n f d=>.tarr n f (d.map (TC.ren j k))
 | .growA e α f c h p d=>.growA e α f c h p (d.map (TC.ren j k))
 | .growT e n f d=>.growT e n f (d.map (TC.ren j k))
 | o=>o
theorem UL{g:Rd}{G:Gh}{j k:Nat}(d:G k=G j):∀{t:TC} {u:Value},t.rep g G u->(t.ren j k).rep g G u
 | .p c,u,h=>h
 | .buf k' α ec c xs,u,h=>by
  simp only[TC.ren];cases hb:Nat.beq k' j
  ·exact h
  ·have e:k'=j:=Nat.eq_of_beq_eq_true hb;subst e;simp only[cond,TC.rep];rw[d];exact h
 | .ref k' off,u,h=>by
  simp only[TC.ren];cases hb:Nat.beq k' j
  ·exact h
  ·have e:k'=j:=Nat.eq_of_beq_eq_true hb;subst e;simp only[cond,TC.rep];rw[d];exact h
 | .eref _ _ _ _ _,u,h=>h
 | .mut k',u,h=>by
  simp only[TC.ren];cases hb:Nat.beq k' j
  ·exact h
  ·have e:k'=j:=Nat.eq_of_beq_eq_true hb;subst e;simp only[cond,TC.rep];rw[d];exact h
 | .mref k' ec i off,u,h=>by
  simp only[TC.ren];cases hb:Nat.beq k' j
  ·exact h
  ·have e:k'=j:=Nat.eq_of_beq_eq_true hb;subst e;simp only[cond,TC.rep];rw[d];exact h
 | .any,u,h=>h
 | .clo _ _ _,_,h=>h
 | .msl k' ec off n,u,h=>by
  simp only[TC.ren];cases hb:Nat.beq k' j
  ·exact h
  ·have e:k'=j:=Nat.eq_of_beq_eq_true hb;subst e;simp only[cond,TC.rep];rw[d];exact h
 | .full _ _ _ _,u,h=>h
 | .ifc t k' off,u,h=>by
  simp only[TC.ren];cases hb:Nat.beq k' j
  ·exact h
  ·have e:k'=j:=Nat.eq_of_beq_eq_true hb;subst e;simp only[cond,TC.rep];rw[d];exact h
 | .fnc _ _,u,h=>h
 | .fncE _ _ _ _ _,u,h=>h
theorem ObOk.ren{S:Ctx}{r:Rd}{G:Gh}{w:World}{u:Value}{j k:Nat}{o:Ob}(l:G k=G j)(h:ObOk S r G w u o):ObOk S r G w u (o.ren j k):=by
 cases o with
 | box m=>obtain⟨b,g,t,a,d,f⟩:=h;exact⟨b,g,t,a,d,f.map (TC.ren j k) fun _ _=>UL l⟩
 | tbx e m=>obtain⟨b,g,a,d,f⟩:=h;exact⟨b,g,a,d,f.map (TC.ren j k) fun _ _=>UL l⟩
 | tarr n i m=>obtain⟨b,g,t,a,y,d,z,f⟩:=h;exact⟨b,g,t,a,y,d,by simpa using z,f.map (TC.ren j k) fun _ _=>UL l⟩
 | arr α i c s=>exact h
 | spare n i e=>exact h
 | grow e α i c s=>exact h
 | map κ B A=>exact h
 | growA e α i c s p m=>obtain⟨g,a,d,f,q,v,x⟩:=h;exact⟨g,a,d,f,by simpa using q,v,x.map (TC.ren j k) fun _ _=>UL l⟩
 | growT e n i m=>obtain⟨g,a,d,f,q⟩:=h;exact⟨g,a,d,by simpa using f,q.map (TC.ren j k) fun _ _=>UL l⟩
section
variable {P:Program}{nt:Nat}{fr gf:Fr}{ob:Obs}
theorem TC.free_forget(k:Nat)(t:TC):(t.forget k).free k=true:=by
 cases t with
 | p c=>rfl
 | buf a α b c h=>cases hb:Nat.beq a k<;>simp[TC.forget,TC.free,hb]
 | ref a o=>cases hb:Nat.beq a k<;>simp[TC.forget,TC.free,hb]
 | eref α b c x o=>rfl
 | «mut» a=>cases hb:Nat.beq a k<;>simp[TC.forget,TC.free,hb]
 | mref a b i o=>cases hb:Nat.beq a k<;>simp[TC.forget,TC.free,hb]
 | any=>rfl
 | clo f g d =>
  simp only[TC.forget];cases hb:(fV k g||fV k d)
  ·rw[WT]at hb;simp[TC.free,hb.1,hb.2]
  ·rfl
 | msl a b o n=>cases hb:Nat.beq a k<;>simp[TC.forget,TC.free,hb]
 | ifc t a o=>cases hb:Nat.beq a k<;>simp[TC.forget,TC.free,hb]
 | fnc f j=>rfl
 | fncE f α b c x=>rfl
 | full α b c h=>rfl
theorem S1.free_forget(k:Nat)(s:S1):(s.forget k).free k=true:=by
 cases s with
 | one t=>exact TC.free_forget k t
 | agg b =>
  show (b.map (TC.forget k)).all (TC.free k)=true;rw[List.all_map,List.all_eq_true];exact fun t _=>TC.free_forget k t
theorem SV.free_forget(k:Nat)(s:SV):(s.forget k).free k=true:=by
 cases s with
 | s x=>exact S1.free_forget k x
 | tup l =>
  show (l.map (S1.forget k)).all (S1.free k)=true;rw[List.all_map,List.all_eq_true];exact fun t _=>S1.free_forget k t
 | any=>rfl
 | un=>rfl
theorem l0{k:Nat}{a:List Nat}{gf:Fr}(b:K7 a k=true):∀p∈C9 a gf,p.2.free k=true:=by
 rw[<-j9 b];intro p c;obtain⟨q,_,rfl⟩:=VT.1 c;exact SV.free_forget k q.2
theorem sX{l:List Oper}{ops:Array Oper}{a:Sv}{fr gf:Fr}:∀{b:Ed},gJ l ops a fr b=true->(∀e∈b,∀k∈e.2.1,∀p∈gf,p.2.free k=true)->gJ l ops a (fr++gf) b=true
 | [],_,_=>rfl
 | (e,ks,kills)::r,h,hg=>by
  simp only[gJ,VB]at h ⊢;refine⟨?_,sX h.2 fun f g=>hg f (List.mem_cons_of_mem _ g)⟩;rw[List.all_eq_true]at h ⊢;intro k d;have c:=h.1 k d;rw[VB]at c ⊢;refine⟨c.1,?_⟩;rw[WY,VB];refine⟨c.2,List.all_eq_true.2 fun p i=>?_⟩;rw[hg (e,ks,kills) (List.mem_cons_self ..) k d p i,Bool.or_true]
theorem PB{ks:List Nat}{l:List Oper}{E:List Nat}{c:Ed}{T2:List (Nat×List Nat)}{Q:Post}{b:Sv}{M:Mo}{d:Obs}(g:(c.all fun e=>e.2.1.all (K7 ks))=true)(f:(gJ l l.toArray b fr c&&(List.range l.length).all fun j=>(N6 b j).isSome)=true)(h:S2 M E=some d)
  (q:eD P nt l (fr++C9 ks gf) E c b M T2) (t:Q .normal (Z3 (uW c) (fW l b (fr++C9 ks gf))) d):gK P nt l (fr++C9 ks gf) E c (OY P nt l (fr++C9 ks gf) E c T2 Q) [] b M:=by
 rw[VB]at f;refine JD ?_ h q t;rw[VB];refine⟨sX f.1 fun e u k v p w=>?_,f.2⟩;exact l0 (List.all_eq_true.1 (List.all_eq_true.1 g e u) k v) p w
end
def Cell.flat:Cell->Bool
 | .v _=>true
 | _=>false
def PV.flat:PV->Bool
 | .one c=>c.flat
 | .agg b=>b.all Cell.flat
theorem bY{x y:Code}{Q2 Q3:Post}(fr':Fr)(ob':Obs)(b:WpC P nt x fr ob (aZ (fun f o=>Sees P nt f o fr' ob') Q3))(k:WpC P nt y fr' ob' Q2):WpC P nt x fr ob (aZ (fun f o=>WpC P nt y f o Q2) Q3) :=
 b.mono fun e f o a=>by
  cases e with
  | normal=>exact I7 a k
  | _=>exact a
theorem pI{x y:Code}{Q2 Q3:Post}{X:Type}(E:X->Fr×Obs)(I:X->Prop)(d:WpC P nt x fr ob (aZ (fun f o=>∃v,I v/\Sees P nt f o (E v).1 (E v).2) Q3))(k:∀v,I v->WpC P nt y (E v).1 (E v).2 Q2):WpC P nt x fr ob (aZ (fun f o=>WpC P nt y f o Q2) Q3) :=
 d.mono fun e f o a=>by
  cases e with
  | normal=>obtain⟨v,c,b⟩:=a;exact I7 b (k v c)
  | _=>exact a
theorem bZ{x Y:Operand}{k:Nat}{α:Type}{d D:Nat}{c:α->Nat->Cell}{C:List α}{t e:TypeId}{X:IntKind}{j:Int}[ht:TySl P t e d D](hx:opv fr x=some (.s (.one (.mut k))))(hk:C5 ob k=some (.grow e α d c C))
  (O:opv fr Y=some (H6 (.int X j))) (Z:0<=j) (h2:j<=C.length) (hp:Nat.blt k 1000000=true) :
  EffV P ⟨dst,.slice t x none (some Y) none,ty,pos,af,gd⟩ fr ob (.s (.one (.mut k))) (Fr.forget k fr) ((k,.grow e α d c (C.take j.toNat))::Obs.forget k ob):=by
 intro S G a w h;obtain⟨N,ac⟩:=F9 h hx;obtain⟨ws,A,ab,U⟩:=h.obs k _ hk;have R:j.toNat<=C.length:=by omega
 have T:j.toNat*d<=C.length*d:=VQ _ R;obtain⟨F,L,f,p⟩:∃F,(execOp a.eval ⟨dst,.slice t x none (some Y) none,ty,pos,af,gd⟩).run P w=.ok (.value F) w/\blk F=blk (G k)/\w.ownsRow S.B e d F j.toNat (ws.take (j.toNat*d)):=by
  obtain⟨H,I⟩:=ht.elem;rcases A.2 with ⟨J,ae⟩ | ⟨g,cap,cur,J,hbg,hgh,hnc,hcm,hcs,htake⟩
  ·refine⟨.slice none 0 0,?_,by rw[J],?_⟩
   ·simp only[execOp,N,J,F2 h O,Option.map_some,Option.map_none];refine J3 ?_;simp only[Instr.sliceAt,Sem.run_bind,run_underlying ht.out.1,Result.andThen_ok];rw[run_slice_h w t none 0 0 H X j Z (by omega),I,I1 ht.size];have Q:j.toNat=0:=by omega
    simp[sliced,Q]
   ·have Q:j.toNat=0:=by omega
    rw[Q];simp only[Nat.zero_mul,List.take_zero];exact World.ownsRow_nil w _ _ _
  ·refine⟨.slice (some ⟨g,0,none⟩) j.toNat cap,?_,by rw[J];rfl,?_⟩
   ·simp only[execOp,N,J,F2 h O,Option.map_some,Option.map_none];refine J3 ?_;simp only[Instr.sliceAt,Sem.run_bind,run_underlying ht.out.1,Result.andThen_ok];rw[run_slice_h w t (some ⟨g,0,none⟩) C.length cap H X j Z (by omega),I,I1 ht.size];simp[sliced,Addr.add_lit]
   ·refine⟨by rw[VM,A.1];omega,.inr ⟨g,cap,cur,rfl,hbg,hgh,by omega,hcm,hcs,?_⟩⟩;rw[<-htake,List.take_take,Nat.min_eq_left T]
 have M:=h.turn (o':=.grow e α d c (C.take j.toNat)) (u':=F) (w1:=w) (by simpa using hp) hk rfl rfl rfl (Nat.le_refl _) (fun _ _ _=>rfl) (fun b i z hr=>hr.1)
  (fun b hb=>.inl (by rw[<-f];exact hb)) (fun b i hb ho=>⟨by rw[<-f];exact ho.1,trivial⟩)
  (fun rd K G' ad=>by
   have E:(C.take j.toNat).length=j.toNat:=by rw[VM];omega
   refine⟨ws.take (j.toNat*d),by rw[E];exact p,by rw[E];omega,?_⟩;intro i hi q hq;rw[E]at hi;obtain⟨z,V,W⟩:=U i (by omega) q hq;refine⟨z,?_,?_⟩
   ·have:(i+1)*d<=j.toNat*d:=VQ _ hi;rw[WG,Nat.one_mul]at this;rw[List.getElem?_take,A4 (by omega)];exact V
   ·rw[List.getElem_take];exact Cell.rep_mono K _ _ W)
 exact G3 (w':=w) (v:=F) L ⟨upd G k F,M,(G6 _ _ _).symm,dW p⟩
abbrev JH(T:TypeId)(e:Int):List PanicEntry:=[{ v:=.iface T (.int .i64 e),recovered:=false }]
def OF(P:Program)(T:TypeId)(fn:Func)(f:List Nat)(gf:Fr)(b:List S1->Obs->Prop)(d:Int->Obs->Prop):Post
 | .normal,fr,ob | .ret,fr,ob=>∃g ob',RetS P fn fr ob g/\Tail (C9 f gf) fr/\(∀k o,C5 ob' k=some o->C5 ob k=some o)/\b g ob'
 | .panic ch,fr,ob=>∃e ob',ch=JH T e/\Tail (C9 f gf) fr/\(∀k o,C5 ob' k=some o->C5 ob k=some o)/\d e ob'
 | _,_,_=>False
def MetX(P:Program)(T:TypeId)(f:FuncId)(g:List S1)(gf:Fr)(ob:Obs)(l:List Nat)(h:List S1->Obs->Prop)(j:Int->Obs->Prop):Prop :=
 Callable P f/\(High gf->∀S G a w (b:List Value),Sim P S gf ob G a w->All2 (S1.rep (E4 (Mut S ob G) w) G) g b ->
  Calls P f b.toArray w (fun e w'=>(∃v m ob' G',e=.returned v/\h m ob'/\X3 (E4 (Mut S ob' G') w') G' m v/\Sim P S (C9 l gf) ob' G' a w') \/
   ∃c ob' G',e=.panicked (JH T c)/\j c ob'/\Sim P S (C9 l gf) ob' G' a w'))
variable {T:TypeId}
theorem MetX.intro{f:FuncId}{fn:Func}{c:Code}{args:List S1}{gf:Fr}{F:List Nat}{A:List S1->Obs->Prop}{J:Int->Obs->Prop}(hf:P.funcs[f]?=some fn)(I:(fn.name == "runtime.NumGoroutine")=false)(hb:fn.body=some c)(R:Nat.ble args.length fn.ntmps=true)(ad:Nat.ble fn.ntmps 1000000=true)
  (h6:WpC P fn.ntmps c (j3 0 args++gf) ob (OF P T fn F gf A J)):MetX P T f args gf ob F A J:=by
 refine⟨⟨fn,hf,I,by simp[hb]⟩,fun H S G a w q h B=>?_⟩;have ag:q.length=args.length:=B.length.symm;have af:args.length<=fn.ntmps:=by simpa using R
 have ac:fn.ntmps<=1000000:=by simpa using ad
 let S':Ctx:={ S with nt:=fn.ntmps,df:=[] }
 have hs:Sim P S' (j3 0 args++gf) ob G { tmps:=q.toArray++Array.replicate (fn.ntmps-q.toArray.size) undef,defers:=[] } w:=by
  refine { h with nt:=by simp[S'];omega,ntb:=ac,defers:=rfl,facts:=?_ };intro i s y;rw[l9]at y;cases C:E0 (j3 0 args) i with
  | some Y =>
   rw[C]at y;have y:some Y=some s:=y;cases y;obtain⟨_,p,V,rfl⟩:=iJ 0 args i _ C;obtain⟨u,hu,hr⟩:=B.get (i-0) p V;have ab:i<q.length:=(List.getElem?_eq_some_iff.1 hu).1;have Q:(q.toArray++Array.replicate (fn.ntmps-q.toArray.size) undef).getD i undef=u:=by
    rw[Array.getD_eq_getD_getElem?,Array.getElem?_append_left (by simpa using ab)];simpa using congrArg (fun x=>x.getD undef) hu
   rw[Ctx.sl_lt (by omega),Q];exact hr
  | none =>
   rw[C]at y;have y:E0 gf i=some s:=y;have h7:=H i s y;have N:=h.facts i s y;rw[Ctx.sl_ge h7]at N ⊢;exact N
 refine r7 hf hb (wp_mono (h6 S' _ _ w rfl hs) ?_);rintro e K w' ⟨fr',ob',G',hq,m⟩;have E:∀(L:List Deferred) (w':World),Sim P { S' with df:=L } fr' ob' G' K w'->∀j:Obs,Tail (C9 F gf) fr'->(∀k o,C5 j k=some o->C5 ob' k=some o)->Sim P S (C9 F gf) j G' a w':=by
  intro L w' m j C M
  have X:=(m.weaken (fr':=C9 F gf) (fun i s y=>by
   obtain⟨Y,h0⟩:=c6 y
   exact C i s (H i Y h0) y)).weakenO M
  refine { X with nt:=h.nt,ntb:=h.ntb,defers:=h.defers,facts:=fun i s y=>?_ };obtain⟨Y,h0⟩:=c6 y;have h7:=H i Y h0;have N:=X.facts i s y;rw[Ctx.sl_ge h7]at N ⊢;exact N
 have fin:(∃rs j,RetS P fn fr' ob' rs/\Tail (C9 F gf) fr'/\(∀k o,C5 j k=some o->C5 ob' k=some o)/\A rs j)->∀L w',Sim P { S' with df:=L } fr' ob' G' K w'->∃v,(results fn K.tmps).run P w'=.ok v w'/\((∃Z rs ob' G',Ending.returned v=.returned Z/\A rs ob'/\X3 (E4 (Mut S ob' G') w') G' rs Z/\Sim P S (C9 F gf) ob' G' a w')\/∃c ob' G',Ending.returned v=.panicked (JH T c)/\J c ob'/\Sim P S (C9 F gf) ob' G' a w'):=by
  rintro⟨rs,j,hr,C,M,V⟩ L w' m;obtain⟨v,hv,W⟩:=hr _ G' K w' m;have U:∀b i,Mut S' j G' b i->Mut S' ob' G' b i:=by
   rintro b i (hm | ⟨k,o,hk,ae⟩)
   ·exact .inl hm
   ·exact .inr ⟨k,o,M k o hk,ae⟩
  exact⟨v,hv,.inl ⟨v,rs,j,G',rfl,V,SV.rep_mono (fun b i z hz=>⟨hz.1,fun hm=>hz.2 (U b i hm)⟩) W,E L w' m j C M⟩⟩
 cases e with
 | normal=>exact m.leave rfl (fin hq)
 | ret=>exact m.leave rfl (fin hq)
 | panic ch =>
  obtain⟨c,j,rfl,C,M,V⟩:=hq;have m:=m.resolve_right fun h=>nomatch h.1;show LeavesInM Fence.wide 0 P fn K.tmps _ K.defers _ w';rw[m.defers];exact .inr ⟨c,j,G',rfl,V,E [] w' m j C M⟩
 | _=>exact hq.elim
section
variable {P:Program}{dst:Option Tmp}{ty:TypeId}{pos:String}{af:Array Edge}{gd:Option (Nat×Bool)}{fr:Fr}{ob:Obs}
def S8{κ:Type}[DecidableEq κ]:List (κ×Cell)->κ->Cell->List (κ×Cell)
 | [],a,c=>[(a,c)]
 | (k,x)::r,a,c=>if k=a then (k,c)::r else (k,x)::S8 r a c
theorem mN{κ:Type}[DecidableEq κ]{a:κ}{c:Cell}:∀{b:List (κ×Cell)},L5 b a=none->S8 b a c=b++[(a,c)]
 | [],_=>rfl
 | (k,x)::r,h=>by
  unfold L5 at h;unfold S8;split at h
  ·cases h
  ·rename_i d;rw[A5 d,mN h];rfl
theorem xY{κ:Type}[DecidableEq κ]{g:κ->Value}{A:TypeDesc}(f:∀a,MapKept.IsKey A (g a))(l:∀a b,g a=g b->a=b){B:Rd}(a:κ){c:Cell}{u:Value}(D:c.rep B u):∀(d:List (κ×Cell)) (n:List MapEntry) (i:Nat),
  All2 (fun (q:κ×Cell) (e:MapEntry)=>e.key=g q.1/\q.2.rep B e.val) d n->L5 d a≠none ->
  ∃p v e,Instr.findNow A (g a) n i=some (some (i+p,v))/\n[p]?=some e/\e.key=g a/\All2 (fun (q:κ×Cell) (e:MapEntry)=>e.key=g q.1/\q.2.rep B e.val) (S8 d a c) (n.modify p fun e=>{ e with key:=g a,val:=u })
 | [],[],_,_,h=>absurd rfl h
 | [],_::_,_,h,_=>h.elim
 | _::_,[],_,h,_=>h.elim
 | (k,x)::d,e::n,i,h,hn=>by
  obtain⟨⟨w,G⟩,C⟩:=h;obtain⟨r,L,j⟩:=MapKept.sameNow_of_keys (f a) (f k);have o:Instr.sameNow A (g a) e.key=some r:=by rw[w];exact L
  by_cases t:k=a
  ·subst t;have:r=true:=j.2 rfl;subst this;refine⟨0,e.val,e,by simp[Instr.findNow,o],rfl,w,?_⟩;unfold S8;rw[A4 rfl];exact⟨⟨rfl,D⟩,C⟩
  ·have:r=false:=by
    cases r
    ·rfl
    ·exact absurd (l _ _ (j.1 rfl)).symm t
   subst this;have z:L5 d a≠none:=by
    intro F;apply hn;unfold L5;rw[A5 t];exact F
   obtain⟨p,v,E,H,I,J,K⟩:=xY f l a D d n (i+1) C z;refine⟨p+1,v,E,?_,by simpa using I,J,?_⟩
   ·simp only[Instr.findNow,o,H];rw[show i+1+p=i+(p+1) by omega]
   ·unfold S8;rw[A5 t];exact⟨⟨w,G⟩,K⟩
theorem xZ{x y v:Operand}{t kt:TypeId}{X:TypeDesc}{z:Value}{k:Nat}{κ:Type}[DecidableEq κ]{q:κ->Value}{A:List (κ×Cell)}(a0:κ){c:Cell}[ht:TyMap P t kt X z](V:opv fr x=some (.s (.one (.mut k))))(J:C5 ob k=some (.map κ q A))
  (W:opv fr y=some (H6 (q a0))) (T:opv fr v=some (.s (.one (.p c)))) (Q:G7 v=true) (f:∀a,MapKept.IsKey X (q a)) (B:∀a b,q a=q b->a=b) :
  Eff P ⟨none,.mapUpdate t x y v,ty,pos,af,gd⟩ fr ob fr ((k,.map κ q (S8 A a0 c))::ob):=by
 cases L:L5 A a0 with
 | none=>rw[mN L];exact IZ a0 V J W T Q f B L
 | some c0 =>
  intro S G a w h;obtain⟨et,u1,Y,u3,u4⟩:=ht.out;obtain⟨R,_⟩:=F9 h V;obtain⟨b,E,l,H,I,ha⟩:=h.obs k _ J;rw[H]at R;have N:c.rep (E4 (Mut S ob G) w) (a.eval v):=M2 h T Q;obtain⟨p,v0,e,O,h5,h6,h7⟩:=xY f B a0 N A E.toList 0 ha (by rw[L];simp);rw[Nat.zero_add]at O;have F:(E[p]?.map (·.key)).getD (q a0)=q a0:=by
   rw[<-Array.getElem?_toList,h5];exact h6
  obtain⟨g5,g6⟩:=MapKept.heap_set (o':=.map (E.modify p fun e=>{ e with key:=q a0,val:=a.eval v }) l) I;have he:(execOp a.eval ⟨none,.mapUpdate t x y v,ty,pos,af,gd⟩).run P w=.ok .skip { w with heap:=w.heap.setIfInBounds b (.map (E.modify p fun e=>{ e with key:=q a0,val:=a.eval v }) l) }:=by
   simp only[execOp,R,F2 h W];simp only[Instr.mapUpdate,Sem.run_bind,run_underlying u1,Result.andThen_ok,MapKept.run_getObj_map I,MapKept.run_checkKey Y (f a0),MapKept.run_findKey Y O,F,MapKept.run_keyThatStays (f a0),MapKept.run_setObj_map _ I];rfl
  unfold Does;rw[he];have C:blk (G k)=some b:=by rw[H];rfl
  refine⟨G,h.write J C (fun i=>⟨C,trivial⟩) (fun i=>⟨C,trivial⟩) rfl rfl rfl (by simp) (fun j _ K=>g6 j K) ?_⟩;intro rd M;refine⟨b,_,_,H,g5,?_⟩;rw[Array.toList_modify];exact h7.mono fun _ _ ⟨Z,e2⟩=>⟨Z,Cell.rep_mono M _ _ e2⟩
theorem EH{x y:Operand}{t yt:TypeId}{l m:List UInt8}(a:opv fr x=some (P4 l))(c:opv fr y=some (P4 m)):Neu P ⟨dst,.binOp .geq t x y yt,ty,pos,af,gd⟩ fr ob (fun d=>d=O8 (!Op.bytesLess l m)) :=
 i6 a c (fun _=>rfl) (fun w=>by simp[binOp,Op.stringOp]) rfl
theorem yA{f:FuncId}{first:List Operand}{cs:List Cell}(g:aJ fr first=some (cs.map PV.one))(i:first.all G7=true) :
  Neu P ⟨dst,.makeFunc (.func f) first.toArray #[],ty,pos,af,gd⟩ fr ob (fun p=>p=.s (.one (.fnc f cs))) :=
 E3 fun S G a w h=>by
  have j:=u7 h first _ g i
  refine⟨.func (.func f) (first.map a.eval).toArray #[],?_,_,rfl,?_⟩
  ·simp[execOp,Instr.makeFunc]
  ·have d:∀{cs:List Cell} {b:List Value},All2 (PV.rep (E4 (Mut S ob G) w)) (cs.map PV.one) b->All2 (Cell.rep (E4 (Mut S ob G) w)) cs b:=by
    intro cs;induction cs with
    | nil=>intro b h;cases b;trivial;exact h.elim
    | cons c cs l =>
     intro b h;cases b with
     | nil=>exact h.elim
     | cons u b=>exact⟨h.1,l h.2⟩
   exact d j
theorem EI{b:Rd}:∀{a:List Cell} {c:List Value},All2 (Cell.rep b) a c->All2 (PV.rep b) (a.map PV.one) c
 | [],[],_=>trivial
 | [],_::_,h=>h.elim
 | _::_,[],h=>h.elim
 | _::_,_::_,h=>⟨h.1,EI h.2⟩
theorem MP{f:FuncId}{g:Operand}{j:Array Operand}{q:Array TypeId}{B:List Cell}{ps F:List PV}(E:FnOk P f (B.map PV.one++ps) (fun r=>r=F))(J:opv fr g=some (.s (.one (.fnc f B))))(ha:aJ fr j.toList=some ps)(H:j.toList.all G7=true) :
  Neu P ⟨dst,.call ⟨.value g,j,q⟩,ty,pos,af,gd⟩ fr ob (fun N=>N=sG F):=by
 intro S G a w h;obtain⟨z,C,D⟩:=F9 h J;have x:All2 (PV.rep (E4 (Mut S ob G) w)) (B.map PV.one++ps) (z++j.toList.map a.eval):=(EI D).append (u7 h j.toList ps ha H);have m:=E.2 w (Mut S ob G) _ h.grdW (fun b i K=>h.mut_lt K) x;unfold Does;have I:(execOp a.eval ⟨dst,.call ⟨.value g,j,q⟩,ty,pos,af,gd⟩).run P w=.ok (.enter f (z++j.toList.map a.eval).toArray) w:=by
  have:=N8 (P:=P) (f:=f) (args:=(z++j.toList.map a.eval).toArray) (w:=w) E.1;simp only[execOp,resolve,C,Deferred.ofValue,Sem.run_bind,Sem.run_pure,Result.andThen_ok,invoke];rw[show z.toArray++Array.map a.eval j++#[]=(z++j.toList.map a.eval).toArray by simp];exact this
 rw[I];refine m.mono ?_;rintro e w' ⟨v,M,rfl,rfl,L,hb⟩;exact⟨v,rfl,hb,_,rfl,L.sv⟩
theorem uY{f:FuncId}{g:Operand}{d:Array Operand}{m:Array TypeId}{ps rs:List PV}(q:FnOk P f ps (fun r=>r=rs))(z:opv fr g=some (H6 (.func (.func f) #[] #[])))(ha:aJ fr d.toList=some ps)(s:d.toList.all G7=true) :
  Neu P ⟨dst,.call ⟨.value g,d,m⟩,ty,pos,af,gd⟩ fr ob (fun E=>E=sG rs):=by
 intro S G a w h;have p:=F2 h z;have j:=q.2 w (Mut S ob G) _ h.grdW (fun b i B=>h.mut_lt B) (u7 h d.toList ps ha s);unfold Does;have x:(execOp a.eval ⟨dst,.call ⟨.value g,d,m⟩,ty,pos,af,gd⟩).run P w=.ok (.enter f (d.toList.map a.eval).toArray) w:=by
  have:=N8 (P:=P) (f:=f) (args:=(d.toList.map a.eval).toArray) (w:=w) q.1;simp only[execOp,resolve,p,Deferred.ofValue,Sem.run_bind,Sem.run_pure,Result.andThen_ok,invoke];rw[show (#[]:Array Value)++Array.map a.eval d++#[]=(d.toList.map a.eval).toArray by obtain⟨l⟩:=d;simp];exact this
 rw[x];refine j.mono ?_;rintro e w' ⟨v,D,rfl,rfl,C,hb⟩;exact⟨v,rfl,hb,_,rfl,C.sv⟩
theorem MQ{nt:Nat}{Q:Post}{x y:Code}(h:WpC P nt y fr ob Q):WpC P nt (.cond (.const (.bool false)) x y) fr ob Q:=by
 intro S G a w e f;exact wp_cond_split (c:=.const (.bool false)) (t:=false) rfl (fun h=>by cases h) (fun _=>h S G a w e f)
theorem cA{x:Operand}{T:TypeId}{k off:Nat}(l:opv fr x=some (.s (.one (.ref k off))))(d:P.concrete T=true) :
  Neu P ⟨dst,.makeInterface T x,ty,pos,af,gd⟩ fr ob (fun q=>q=.s (.one (.ifc T k off))) :=
 E3 fun S G a w h=>by
  obtain⟨b,g,j⟩:=F9 h l;refine⟨.iface T (.pointer (some ⟨b,off,none⟩)),?_,b,g,rfl⟩;simp only[execOp,j];exact J3 (run_makeInterface w T _ d)
theorem iR{x:Operand}{T:TypeId}{v:Value}(d:opv fr x=some (H6 v))(b:P.concrete T=true) :
  Neu P ⟨dst,.makeInterface T x,ty,pos,af,gd⟩ fr ob (fun g=>g=H6 (.iface T v)) :=
 E3 fun S G a w h=>by
  refine⟨.iface T v,?_,rfl,rfl⟩;simp only[execOp,F2 h d];exact J3 (run_makeInterface w T _ b)
theorem mO{x:Operand}{j T:TypeId}{k:IntKind}{v:Value}[ht:TyInt P T k](d:opv fr x=some (H6 (.iface T v)))(b:v.oneCell'=true) :
  Neu P ⟨dst,.typeAssert x j T false,ty,pos,af,gd⟩ fr ob (fun g=>g=H6 v) :=
 E3 fun S G a w h=>by
  refine⟨v,?_,rfl,b⟩;simp only[execOp,F2 h d];refine J3 ?_;simp[Instr.typeAssert,run_underlying ht.out]
section
variable {nt:Nat}{ops:Array Oper}{rest:List Oper}{Q:Post}{d:Nat}
theorem aL{f:FuncId}{x:Operand}{m:String}{j:List Operand}{O:Array TypeId}{ty:TypeId}{pos:String}{af:Array Edge}{T:TypeId}{k off:Nat}{g:List S1}{W:List Nat}{C:List S1->Obs->Prop}
  (hI:∀(a:Addr) (vs:Array Value) (w:World),(callMethod (.iface T (.pointer (some a))) m vs).run P w=.ok (.enter f (#[.pointer (some a)]++vs)) w)
  (hf:Met P f (.one (.ref k off)::g) (fH fr) ob W C) (hx:opv fr x=some (.s (.one (.ifc T k off)))) (ha:gG fr j=some g) (hc:j.all G7=true) (hd:Nat.blt d nt=true)
  (kk:∀H ob',C H ob'->WpL P nt ops rest ((d,xF H)::C9 W fr) ob' Q):WpL P nt ops (⟨some d,.call ⟨.invoke x m,j.toArray,O⟩,ty,pos,af,none⟩::rest) fr ob Q:=by
 intro S G a w hn h;obtain⟨b,Y,ab⟩:=F9 h hx;have M:All2 (S1.rep (E4 (Mut S ob G) w) G) (.one (.ref k off)::g) (.pointer (some ⟨b,off,none⟩)::j.map a.eval):=⟨⟨b,Y,rfl⟩,j4 h j g ha hc⟩
 obtain⟨N,R⟩:∃N:Nat->Value,N=fun i=>S.sl a (i-1000000):=⟨_,rfl⟩
 let S':Ctx:={ S with gv:=N }
 have J:High (fH fr):=fun i s U=>(c5 fr i s U).1;have q:∀i s,E0 (fH fr) i=some s->s.rep (E4 (Mut S' ob G) w) G (S'.sl a i):=by
  intro i s U;obtain⟨I,X⟩:=c5 fr i s U;rw[Ctx.sl_ge I];show s.rep _ _ (N i);have e:=congrFun R i;rw[e];exact h.facts (i-1000000) s X
 have hs:Sim P S' (fH fr) ob G a w:={ h with facts:=q }
 have D:=hf.2 J S' G a w _ hs M;refine wpList_plain rfl fun K hK=>J7 (K:=fun v w'=>∃H ob' G',C H ob'/\X3 (E4 (Mut S' ob' G') w') G' H v/\Sim P S' (C9 W (fH fr)) ob' G' a w') ?_ ?_
 ·have he:(execOp a.eval ⟨some d,.call ⟨.invoke x m,j.toArray,O⟩,ty,pos,af,none⟩).run P w=.ok (.enter f (.pointer (some ⟨b,off,none⟩)::j.map a.eval).toArray) w:=by
   have:=hI ⟨b,off,none⟩ (j.map a.eval).toArray w;have e1:(#[a.eval x]++Array.map a.eval j.toArray)[0]?=some (a.eval x):=by simp
   have e2:(#[a.eval x]++Array.map a.eval j.toArray).extract 1 (#[a.eval x]++Array.map a.eval j.toArray).size=(j.map a.eval).toArray:=by
    apply Array.ext';simp[WB]
   simp only[execOp,resolve,Sem.run_bind,Sem.run_pure,Result.andThen_ok,invoke,e1,e2];rw[ab,this]
   congr 2
   simp
  unfold Does;rw[he];refine D.mono ?_;rintro e w' ⟨v,H,ob',G',rfl,L,B,F⟩;exact⟨v,rfl,H,ob',G',L,B,F⟩
 ·rintro v w' ⟨H,ob',G',hp,B,F⟩;have Z:d<S.nt:=by rw[hn];simpa using hd
  have E:∀i s,E0 (C9 W fr) i=some s->s.rep (E4 (Mut S ob' G') w') G' (S.sl a i):=by
   intro i s U;have I:=F.facts (i+1000000) s (by rw[m6];exact nW U);have X:1000000<=i+1000000:=Nat.le_add_left _ _;rw[Ctx.sl_ge X]at I;have I:s.rep (E4 (Mut S ob' G') w') G' (N (i+1000000)):=I;have e:=congrFun R (i+1000000);simp only[Nat.add_sub_cancel]at e;rw[e]at I;exact I
  have V:Sim P S (C9 W fr) ob' G' a w':={ F with facts:=E }
  exact hK _ _ (kk H ob' hp S G' _ w' hn (V.put Z B))
end
end
theorem sY{x:Operand}{t e:TypeId}{f d:Nat}(j:opv fr x=some (H6 (.slice none 0 0)))[ht:TySl P t e f d] :
  Neu P ⟨dst,.call ⟨.builtin .cap,#[x],#[t]⟩,ty,pos,af,gd⟩ fr ob (fun k=>k=D1 0) :=
 E3 fun S G a w h=>by
  refine⟨.int .i64 0,?_,rfl,rfl⟩;have g:=F2 h j;simp[execOp,resolve,invoke,builtin,g,Builtin.cap_,run_underlying ht.out.1,goInt]
theorem rQ{x k:Operand}{t e:TypeId}{b m:Nat}{j:IntKind}[ht:TySl P t e m b](p:opv fr x=some (H6 (.slice none 0 0)))(g:opv fr k=some (H6 (.int j 0))) :
  Neu P ⟨dst,.slice t x none (some k) none,ty,pos,af,gd⟩ fr ob (fun q=>q=H6 (.slice none 0 0)) :=
 E3 fun S G a w h=>by
  refine⟨.slice none 0 0,?_,rfl,rfl⟩;have o:=F2 h p;simp only[execOp,o,F2 h g,Option.map_some,Option.map_none];refine J3 ?_;obtain⟨d,f⟩:=ht.elem;simp only[Instr.sliceAt,Sem.run_bind,run_underlying ht.out.1,Result.andThen_ok];rw[run_slice_h w t none 0 0 d j 0 (by omega) (by omega),f,I1 ht.size];simp[sliced]
theorem UW(t k:Nat)(α:Type)(j:Nat)(c:α->Nat->Cell)(e:TypeId)(D:E0 fr t=some (H6 (.slice none 0 0)))(q:(H4 k fr&&M1 k ob)=true) :
  Sees P nt fr ob ((t,.s (.one (.mut k)))::fr) ((k,.grow e α j c [])::ob):=by
 simp only[VB]at q;obtain⟨x,z⟩:=q;obtain⟨A,B,C⟩:=R5 z;intro S G a w E h;have f:=h.new C (o:=.grow e α j c []) (u:=.slice none 0 0) (w1:=w) B (Below.refl _ _) (fun b hb=>by simp[blk]at hb) ⟨[],World.ownsRow_nil w _ _ _,by simp,fun i d=>absurd d (by simp)⟩;rw[R4 x,A]at f;refine⟨upd G k (.slice none 0 0),{ f with facts:=fun i s d=>?_ }⟩;by_cases p:t=i
 ·subst p;rw[D7]at d;cases d;have v:=(h.facts t _ D).1;refine⟨?_,?_⟩
  ·rw[v];exact (G6 _ _ _).symm
  ·rw[v];rfl
 ·rw[C6 p]at d;exact f.facts i s d
theorem JI{β:Type}{b:Nat}{a:β->Nat->Cell}{i:Nat}{x:Operand}{r:List (Nat×Operand)}{ys:List (List β)}(g:opv fr x=some (H6 (.slice none 0 0)))(f:G7 x=true)(h:nK fr 1 (fun (l:List β) _=>.list β b a l) r (i+1) ys) :
  nK fr 1 (fun (l:List β) _=>.list β b a l) ((i,x)::r) i ([]::ys) :=
 ⟨rfl,f,_,[],ys,g,rfl,fun j G d ha=>by
  cases d with
  | nil=>exact ha.elim
  | cons u d =>
   cases d with
   | cons _ _=>exact ha.2.elim
   | nil =>
    refine⟨?_,trivial⟩;have:u=.slice none 0 0:=ha.1.1;rw[this]
    exact J2 β b a,rfl,h⟩
class TyArr (P:Program) (t:TypeId) (e:outParam TypeId) (n:outParam Nat) (es:outParam Nat):Prop where
 out:P.underlying t=some (.array n e)/\(P.info? e).map (·.size)=some es
theorem bG{x y:Operand}{t e:TypeId}{n c k off:Nat}{v:IntKind}{i:Int}[ht:TyArr P t e n c](q:opv fr x=some (.s (.one (.ref k off))))(u:opv fr y=some (H6 (.int v i)))(g:0<=i)(j:i<n) :
  Neu P ⟨dst,.indexAddr t x y,ty,pos,af,gd⟩ fr ob (fun z=>z=.s (.one (.ref k (off+i.toNat*c)))) :=
 E3 fun S G a w h=>by
  obtain⟨b,l,m⟩:=F9 h q;refine⟨.pointer (some ⟨b,off+i.toNat*c,none⟩),?_,b,l,rfl⟩;simp only[execOp,m,F2 h u];refine J3 ?_;have hb:0<=i/\i<(n:Int):=⟨g,j⟩
  simp[Instr.indexAt,Instr.sureAddr,run_underlying ht.out.1,asIntOf,hb,I1 ht.out.2,Addr.add_lit]
theorem pJ{f g:Nat->Option (Nat×Nat)}:∀(ps:List (Nat×Value)) (a:Array Value),(∀p∈ps,f p.1=g p.1)->Instr.fill f a ps=Instr.fill g a ps
 | [],_,_=>rfl
 | (i,v)::r,a,h=>by
  have b:f i=g i:=h (i,v) List.mem_cons_self;unfold Instr.fill;rw[b];cases g i with
  | none=>rfl
  | some q =>
   obtain⟨off,d⟩:=q;dsimp only;split
   ·rfl
   ·exact pJ r _ fun p c=>h p (List.mem_cons_of_mem _ c)
theorem pK{fr:Fr}{a:List (Nat×Nat)}:∀{ps:List (Nat×Operand)} {c b:List TC},y4 fr a ps c=some b->∀p∈ps,p.1<a.length
 | [],_,_,_,p,hp=>by cases hp
 | (i,x)::r,c,b,h,p,hp=>by
  simp only[y4]at h;split at h
  ·rename_i off e s f j;have g:i<a.length:=(List.getElem?_eq_some_iff.1 f).1;rcases VH.1 hp with rfl | hp
   ·exact g
   ·cases d:(Nat.beq s.cells.length e&&G7 x&&Nat.ble (off+e) c.length)
    ·rw[d]at h;cases h
    ·rw[d]at h;exact pK h p hp
  ·cases h
class TyArrZ (P:Program) (t:TypeId) (zs:outParam (List Value)) (offs:outParam (List (Nat×Nat))):Prop where
 out:∃n e es z,P.underlying t=some (.array n e)/\(P.info? t).bind (·.zero)=some z/\z.cells.toList=zs/\zs.all (·.oneCell')=true/\(P.info? e).map (·.size)=some es/\offs=(List.range n).map fun i=>(i*es,es)
theorem BJ{t:TypeId}{D:List Value}{j:List (Nat×Nat)}{f:Array (Nat×Operand)}{B:List TC}[ht:TyArrZ P t D j](hb:y4 fr j f.toList (D.map fun c=>.p (.v c))=some B) :
  Neu P ⟨dst,.build t f,ty,pos,af,gd⟩ fr ob (fun Q=>Q=.s (.agg B)) :=
 E3 fun S G a w h=>by
  obtain⟨n,e,C,z,E,F,H,I,J,K⟩:=ht.out;obtain⟨k,N,M⟩:=oJ h j f.toList _ B z.cells hb (by rw[H];exact T7 _ I);refine⟨.agg k,?_,k.toList,by simp,M⟩;have y:=pK hb;have m:Instr.fill (fun i=>some (i*C,C)) z.cells (f.toList.map fun x=>(x.1,a.eval x.2))=some k:=by
   rw[<-N];refine pJ _ _ fun p A=>?_;obtain⟨q,O,rfl⟩:=VT.1 A;have r:=y q O;rw[K]at r ⊢;rw[VW,WI]at r;simp[r]
  simp only[execOp];refine J3 ?_;have A:(f.map fun x=>(x.1,a.eval x.2)).toList=f.toList.map fun x=>(x.1,a.eval x.2):=by simp
  simp only[Instr.build,Sem.run_bind,J4 F,Result.andThen_ok,run_underlying E,I1 J];rw[show (f.map fun (x:Nat×Operand)=>match x with | (i,x)=>(i,a.eval x))=f.map fun x=>(x.1,a.eval x.2) from rfl,A,m];rfl
theorem PC{x:Operand}{e:TypeId}{c:Cell}(B:opv fr x=some (.s (.one (.p c))))(q:G7 x=true) :
  Neu P ⟨dst,.box e x,ty,pos,af,gd⟩ fr ob (fun C=>C=.s (.one (.eref Unit 1 (fun _ _=>c) () 0))):=by
 intro S G a w h;have A:(SV.s (.one (.p c))).rep (E4 (Mut S ob G) w) G (a.eval x):=M2 h B q;have g:c.rep (E4 (Mut S ob G) w) (a.eval x):=A;have m:=Cell.rep_one g;have d:(a.eval x).cells=#[a.eval x]:=by
  generalize a.eval x=u at m;cases u<;>first | rfl | simp[Value.oneCell']at m
 have k:Below w.heap.size w (w.alloc (.cells (a.eval x).cells e)):=(Below.refl _ _).alloc (Nat.le_refl _) _;refine G3 (w':=w.alloc (.cells (a.eval x).cells e)) (v:=.pointer (some ⟨w.heap.size,0,none⟩)) ?_ ⟨k,_,rfl,w.heap.size,0,rfl,?_⟩
 ·simp[execOp,Instr.box,newVar,newRow]
 ·intro j D;obtain rfl:j=0:=by omega
  refine⟨a.eval x,⟨?_,fun z=>absurd (h.mut_lt z) (Nat.lt_irrefl _)⟩,Cell.rep_mono (fun _ _ _ y=>bA k y) _ _ g⟩;exact cell_of_heap (heap_alloc_new w _) (by simp[d])
theorem PD{x:Operand}{e:TypeId}{s:S1}{d:List Cell}(E:opv fr x=some (.s s))(y:G7 x=true)(C:dS s.cells=some d) :
  Neu P ⟨dst,.box e x,ty,pos,af,gd⟩ fr ob (fun F=>F=.s (.one (.eref Unit d.length (fun _ j=>d.getD j (.v undef)) () 0))):=by
 intro S G a w h;have D:(SV.s s).rep (E4 (Mut S ob G) w) G (a.eval x):=M2 h E y;have k:=t7 C (UG D);have g:Below w.heap.size w (w.alloc (.cells (a.eval x).cells e)):=(Below.refl _ _).alloc (Nat.le_refl _) _;refine G3 (w':=w.alloc (.cells (a.eval x).cells e)) (v:=.pointer (some ⟨w.heap.size,0,none⟩)) ?_ ⟨g,_,rfl,w.heap.size,0,rfl,?_⟩
 ·simp[execOp,Instr.box,newVar,newRow]
 ·intro j u;obtain⟨z,m,q⟩:=k.get j _ (VA u);refine⟨z,⟨cell_of_heap (heap_alloc_new w _) (by rw[Nat.zero_add];simpa using m),fun B=>absurd (h.mut_lt B) (Nat.lt_irrefl _)⟩,?_⟩;show (d.getD j (.v undef)).rep _ z;rw[show d.getD j (.v undef)=d[j] by simp[VK,u]];exact Cell.rep_mono (fun _ _ _ A=>bA g A) _ _ q
theorem eG{f:FuncId}{x:Operand}{α:Type}{d:Nat}{c:α->Nat->Cell}{v:α}(j:opv fr x=some (.s (.one (.eref α d c v 0)))) :
  Neu P ⟨dst,.makeFunc (.func f) #[] #[x],ty,pos,af,gd⟩ fr ob (fun l=>l=.s (.one (.fncE f α d c v))) :=
 E3 fun S G a w h=>by
  obtain⟨b,o,i,g⟩:=F9 h j;refine⟨.func (.func f) #[] #[a.eval x],?_,b,o,?_,g⟩
  ·simp[execOp,Instr.makeFunc]
  ·rw[i];rfl
theorem nY{f:FuncId}{g:Operand}{m:Array Operand}{H:Array TypeId}{α:Type}{O:Nat}{c:α->Nat->Cell}{v:α}{args:List S1}{N:Cell}
  (U:Met P f (args++[.one (.eref α O c v 0)]) [] [] [] (fun V ob'=>V=[.one (.p N)]/\ob'=[])) (hg:opv fr g=some (.s (.one (.fncE f α O c v)))) (ha:gG fr m.toList=some args) (hc:m.toList.all G7=true) :
  Neu P ⟨dst,.call ⟨.value g,m,H⟩,ty,pos,af,gd⟩ fr ob (fun s'=>s'=.s (.one (.p N))):=by
 intro S G a w h;obtain⟨b,o,Q,R⟩:=F9 h hg;have F:=j4 h m.toList args ha hc;have x:All2 (S1.rep (E4 (Mut S ob G) w) G) (args++[.one (.eref α O c v 0)]) (m.toList.map a.eval++[Value.pointer (some ⟨b,o,none⟩)]):=F.append ⟨⟨b,o,rfl,R⟩,trivial⟩;let S':Ctx:={ S with w0:=w,M0:=fun b i=>Mut S ob G b i,io:=fun _=>False }
 have B:High ([]:Fr):=fun i s hi=>by cases hi
 have I:Grd P (fun _=>False) w:=by
  obtain⟨wg,X,T,Y⟩:=h.grd;refine⟨wg,X,Nat.le_trans T h.size,fun j M=>?_⟩;obtain⟨Z,h5⟩:=Y j M;exact⟨(h.keep j (Nat.lt_of_lt_of_le M T) h5).trans Z,fun e=>e⟩
 have hs:Sim P S' [] [] G a w:={ nt:=h.nt,ntb:=h.ntb,defers:=h.defers,os:=rfl,tape:=rfl,output:=rfl,size:=Nat.le_refl _,keep:=fun _ _ _=>rfl,m0:=fun b i C=>h.mut_lt C,m0io:=fun _ _ _ e=>e,grd:=I,pin:=h.pin,old:=fun _ _ _ e=>(by cases e),dis:=fun _ _ _ _ _ e=>(by cases e),obs:=fun _ _ e=>(by cases e),facts:=fun _ _ e=>(by cases e) }
 have K:∀b i z,E4 (Mut S ob G) w b i z->E4 (Mut S' [] G) w b i z:=fun b i z J=>⟨J.1,fun C=>J.2 (by
  rcases C with C | ⟨k,o,hk,_⟩
  ·exact C
  ·cases hk)⟩
 have q:=U.2 B S' G a w _ hs (x.mono fun _ _=>S1.rep_mono K);unfold Does;have he:(execOp a.eval ⟨dst,.call ⟨.value g,m,H⟩,ty,pos,af,gd⟩).run P w=.ok (.enter f (m.toList.map a.eval++[Value.pointer (some ⟨b,o,none⟩)]).toArray) w:=by
  have:=N8 (P:=P) (f:=f) (args:=(m.toList.map a.eval++[Value.pointer (some ⟨b,o,none⟩)]).toArray) (w:=w) U.1;simp only[execOp,resolve,Q,Deferred.ofValue,Sem.run_bind,Sem.run_pure,Result.andThen_ok,invoke];rw[show (#[]:Array Value)++Array.map a.eval m++#[Value.pointer (some ⟨b,o,none⟩)]=(m.toList.map a.eval++[Value.pointer (some ⟨b,o,none⟩)]).toArray by obtain⟨l⟩:=m;simp];exact this
 rw[he];refine q.mono ?_;rintro e w' ⟨W,V,ob',G',rfl,⟨rfl,rfl⟩,L,d⟩;refine⟨W,rfl,⟨d.os,d.tape,d.output,d.size,fun j M=>d.keep j M (fun e=>e)⟩,_,rfl,?_⟩;have D:N.rep (E4 (Mut S' [] G') w') W:=L;refine Cell.rep_mono (fun b i z J=>⟨J.1,fun C=>J.2 (.inl C)⟩) _ _ D
theorem RetOk.s1{fn:Func}{c:Cell}(h:RetOk P fn fr ob [.one c]):RetS P fn fr ob [.one (.p c)]:=fun S G a w f=>let ⟨v,b,d⟩:=h S G a w f;⟨v,b,d.sv⟩
theorem RetOk.s2{fn:Func}{c b:Cell}(h:RetOk P fn fr ob [.one c,.one b]):RetS P fn fr ob [.one (.p c),.one (.p b)]:=fun S G a w g=>let ⟨v,d,f⟩:=h S G a w g;⟨v,d,f.sv⟩
theorem FQ(k:Nat){x y:Operand}{t tn e:TypeId}{f q:Nat}{z:Value}{kn:IntKind}{n:Nat}[ht:TySl P t e f q][hn:TyInt P tn kn][hz:TyZero P e z](hx:opv fr x=some (H6 (.slice none 0 0)))(hy:opv fr y=some (H6 (.int .i64 n)))(h0:0<n)(J:n<=1048576)
  (hk:C5 ob k=none) (hp:Nat.blt k 1000000=true) :
  EffV P ⟨dst,.call ⟨.builtin .append,#[x,y],#[t,tn]⟩,ty,pos,af,gd⟩ fr ob (.s (.one (.mut k))) (Fr.forget k fr) ((k,.grow e Unit f (fun _ j=>.v (z.cells.getD j undef)) (List.replicate n ()))::Obs.forget k ob):=by
 intro S G a w h;have Z:=ht.out.2.2.1;cases E:P.info? e with
 | none=>have:=hz.out.1;simp[E]at this
 | some i =>
 have O:i.zero=some z:=by have:=hz.out.1;simpa[E] using this
 have V:i.size=f/\i.bytes=q:=by have:=ht.out.2.1;simpa[E] using this
 have Y:=ht.out.2.2.2.1;have C:z.cells.size=f:=by have:=ht.out.2.2.2.2;simpa[E,O] using this
 have ae:n*i.bytes<=1048576*4096:=Nat.mul_le_mul J (by rw[V.2];exact Y);have A:=Lib.run_append_nil_zeros w t tn ty e i z .i64 kn ht.out.1 hn.out E O n h0 (by rw[V.1];exact Z) (by omega) (by omega);obtain⟨D,ab⟩:∃D,D=grownCap w n 0 e:=⟨_,rfl⟩
 have N:=grownCap_ge w n 0 e;have K:=grownCap_le_maxLen w n 0 e (by unfold maxLen;omega);rw[<-ab]at A N K;obtain⟨I,F⟩:∃I,I=Builtin.zeroCells z.cells n++Builtin.zeroCells z.cells (D-n):=⟨_,rfl⟩
 rw[<-F]at A;obtain⟨X,H⟩:∃X,X=(Builtin.zeroCells z.cells n).toList:=⟨_,rfl⟩
 have W:X.length=n*f:=by rw[H,Array.length_toList,size_zeroCells,C]
 have U:(w.drew.alloc (.cells I e)).ownsRow S.B e f (.slice (some ⟨w.heap.size,0,none⟩) n D) n X:=by
  refine⟨W,.inr ⟨w.heap.size,D,I,rfl,h.size,heap_alloc_new w.drew _,N,K,?_,?_⟩⟩
  ·rw[F,Array.size_append,size_zeroCells,size_zeroCells,C,<-WG]
   congr 1
   omega
  ·rw[F,Array.toList_append,<-H,<-W];exact List.take_left
 have ad:Below w.heap.size w (w.drew.alloc (.cells I e)):=⟨rfl,rfl,rfl,by simp,fun k hk=>heap_alloc_old w.drew _ hk⟩
 have hu:∀b,blk (.slice (some ⟨w.heap.size,0,none⟩) n D)=some b->w.heap.size<=b:=by intro b hb;simp[blk]at hb;omega
 refine G3 (w':=w.drew.alloc (.cells I e)) (v:=.slice (some ⟨w.heap.size,0,none⟩) n D) (by simp[execOp,resolve,invoke,builtin,F2 h hx,F2 h hy,A]) ?_;refine⟨upd G k (.slice (some ⟨w.heap.size,0,none⟩) n D),h.new (by simpa using hp) hk (o:=.grow e Unit f (fun _ j=>.v (z.cells.getD j undef)) (List.replicate n ())) ad hu ?_,(G6 _ _ _).symm,rfl⟩;refine⟨X,by rw[VX];exact U,by rw[VX];omega,fun i E j hj=>?_⟩;rw[VX]at E;have ac:i*f+j<n*f:=by
  have:(i+1)*f<=n*f:=VQ _ E;rw[WG,Nat.one_mul]at this;omega
 have T:(i*f+j) % f=j:=by rw[Nat.add_comm,Nat.add_mul_mod_self_right];exact Nat.mod_eq_of_lt hj
 have Q:j<z.cells.size:=by rw[C];exact hj
 have M:z.cells.getD j undef=z.cells[j]:=by rw[Array.getD_eq_getD_getElem?,Array.getElem?_eq_getElem Q];rfl
 refine⟨z.cells.getD j undef,?_,rfl,?_⟩
 ·rw[H,M];simp only[Builtin.zeroCells,Array.toList_map,Array.toList_range,WK,C];rw[List.getElem?_range ac,Option.map_some,T,getElem!_pos z.cells j Q]
 ·rw[M];exact List.all_eq_true.1 hz.out.2 _ (by simp)
theorem UZ{k:Nat}{e:TypeId}{α:Type}(β:Type){f:Nat}{c:α->Nat->Cell}(j:β->Nat->Cell)(m:C5 ob k=some (.grow e α f c [])):Sees P nt fr ob fr ((k,.grow e β f j [])::ob):=by
 intro S G a w q h;refine⟨G,h.retold (o':=.grow e β f j []) m (fun b i n=>⟨n.1,trivial⟩) ?_⟩;rintro s ⟨p,d,_,_⟩;exact⟨p,d,by simp,fun i l=>absurd l (by simp)⟩
theorem US(kb o:Nat){m:List TC}{t0:TC}{c:Cell}(hb:C5 ob kb=some (.box m))(k:m[o]?=some t0)(s:t0.pure?=some c):Sees P nt fr ob fr ((kb,.box (m.set o (.p c)))::ob):=by
 intro S G a w A h;obtain⟨b,C,t,r,y,ha⟩:=h.obs kb _ hb;have d:blk (G kb)=some b:=by rw[r];rfl
 refine⟨_,h.retell hb d (fun i=>⟨d,trivial⟩) (fun i=>⟨d,trivial⟩) ?_⟩;rintro B ⟨q,n,v,g,j,e⟩;refine⟨q,n,v,g,j,UK o (fun z u=>?_) e⟩;obtain⟨D,f,l⟩:=e.get o _ k;rw[u]at f;cases f;exact UO s l
theorem FR(k:Nat){t e:TypeId}{A H n:Nat}{f:Array (Nat×Operand)}{α:Type}{c:α->Nat->Cell}{ys:List α}[ht:TySl P t e A H](hb:nK fr A c f.toList 0 ys)(Y:f.toList.length=n)(M:Nat.ble n 100000=true)(Q:Nat.ble A 100=true)
  (hk:C5 ob k=none) (I:Nat.blt k 1000000=true):EffV P ⟨dst,.buildSlice t n f,ty,pos,af,gd⟩ fr ob (.s (.one (.mut k))) (Fr.forget k fr) ((k,.grow e α A c ys)::Obs.forget k ob):=by
 intro S G a w h;have I:k<1000000:=by simpa using I
 have Z:n<=100000:=by simpa using M
 have O:A<=100:=by simpa using Q
 have ah:n*A<=100000*100:=Nat.mul_le_mul Z O;obtain⟨_,_,_,_,D⟩:=ht.out;cases X:P.info? e with
 | none=>simp[X]at D
 | some i =>
 cases hz:i.zero with
 | none=>simp[X,hz]at D
 | some z =>
 have ag:(P.info? e).bind (·.zero)=some z:=by simp[X,hz]
 let q:Array Value:=(Array.range (n*A)).map ((if n*A=0 then #[] else z.cells)[· % (if n*A=0 then #[] else z.cells).size]!);have N:q.size=n*A:=by simp[q]
 obtain⟨K,W,ab,ac,hv⟩:=fE h f.toList 0 ys q hb (by rw[N,Y,Nat.zero_add]);simp only[Nat.zero_mul,List.take_zero,WF]at W;have hp:(f.map fun x=>(x.1,a.eval x.2)).toList=f.toList.map fun x=>(x.1,a.eval x.2):=by simp
 have E:ys.length=n:=by rw[ac,Y]
 refine G3 (w':=w.alloc (.cells K.toArray e)) (v:=.slice (some ⟨w.heap.size,0,none⟩) n n) ?_ ?_
 ·simp only[execOp];refine J3 ?_;simp only[Instr.buildSlice,Sem.run_bind,run_underlying ht.out.1,Result.andThen_ok,I1 ht.size];rw[A5 (by omega)];by_cases F:n*A=0
  ·simp only[F,if_true,Sem.run_bind,Sem.run_pure,Result.andThen_ok];have C:q=(Array.range 0).map ((#[]:Array Value)[· % (#[]:Array Value).size]!):=by simp only[q,F,if_true]
   rw[show (f.map fun (x:Nat×Operand)=>match x with | (i,x)=>(i,a.eval x))=f.map fun x=>(x.1,a.eval x.2) from rfl,hp,<-C,W];simp[newRow]
  ·simp only[A5 F,Sem.run_bind,J4 ag,Sem.run_pure,Result.andThen_ok];have C:q=(Array.range (n*A)).map (z.cells[· % z.cells.size]!):=by simp only[q,A5 F]
   rw[show (f.map fun (x:Nat×Operand)=>match x with | (i,x)=>(i,a.eval x))=f.map fun x=>(x.1,a.eval x.2) from rfl,hp,<-C,W];simp[newRow]
 ·have V:Below w.heap.size w (w.alloc (.cells K.toArray e)):=(Below.refl _ _).alloc (Nat.le_refl _) _;have hu:∀b,blk (.slice (some ⟨w.heap.size,0,none⟩) n n)=some b->w.heap.size<=b:=by intro b hb;simp[blk]at hb;omega
  have J:K.length=n*A:=by rw[ab,Y]
  have T:(w.alloc (.cells K.toArray e)).ownsRow S.B e A (.slice (some ⟨w.heap.size,0,none⟩) n n) ys.length K :=
   ⟨by rw[J,E],.inr ⟨w.heap.size,n,K.toArray,by rw[E],h.size,heap_alloc_new w _,by rw[E];exact Nat.le_refl _,by unfold maxLen;omega,by simpa using J,by rw[E,<-J];simp⟩⟩
  have U:=h.new I hk (o:=.grow e α A c ys) V hu ⟨K,T,by omega,fun m hm j hj=>by
   obtain⟨zz,ad,ae⟩:=hv m hm j hj
   exact⟨zz,ad,Cell.rep_mono (fun _ _ _ hr=>h.rd_new V hu hr) _ _ ae⟩⟩
  exact⟨_,U,(G6 _ _ _).symm,rfl⟩
theorem MetX.introH{f:FuncId}{fn:Func}{c:Code}{a:List S1}{gf:Fr}{ks:List Nat}{d:List S1->Obs->Prop}{h:Int->Obs->Prop}(j:P.funcs[f]?=some fn)(b:(fn.name == "runtime.NumGoroutine")=false)(hb:fn.body=some c)(g:Nat.ble a.length fn.ntmps=true)(i:Nat.ble fn.ntmps 1000000=true)
  (k:High gf->WpC P fn.ntmps c (j3 0 a++gf) ob (OF P T fn ks gf d h)):MetX P T f a gf ob ks d h :=
 ⟨⟨fn,j,b,by simp[hb]⟩,fun e=>(MetX.intro j b hb g i (k e)).2 e⟩
def RO(P:Program)(f:List PanicEntry)(h d:List Deferred)(w w':World):Prop :=
 ∀(fn:Func) (b:Array Value) (R:Ending->World->Prop),LeavesInM Fence.wide 0 P fn b R d .returning w'->LeavesInM Fence.wide 0 P fn b R h (.panicking f) w
def RP(P:Program)(S:Ctx)(Q:Post)(e:Exit)(a:Act)(w:World):Prop :=
 PostOf P S Q e a w\/∃d fr ob G b w',e=.panic d/\a.defers=b/\Q .ret fr ob/\Sim P { S with df:=b } fr ob G a w'/\RO P d b S.df w w'
def RawC(P:Program)(nt:Nat)(c:Code)(fr:Fr)(ob:Obs)(Q:Post):Prop :=
 ∀S G a w,S.nt=nt->Sim P S fr ob G a w->c.wp P (RP P S Q) a w
theorem RawC.of{c:Code}(h:WpC P nt c fr ob Q):RawC P nt c fr ob Q:=fun S G a w b e=>wp_mono (h S G a w b e) fun _ _ _ d=>.inl d
theorem FS(k:Nat){t e:TypeId}{q J:Nat}{x:Operand}{s:S1}[ht:TySl P t e q J](hx:opv fr x=some (.s s))(hc:G7 x=true)(V:s.cells.length=q)(O:Nat.ble q 100=true)
  (hk:C5 ob k=none) (N:Nat.blt k 1000000=true):EffV P ⟨dst,.buildSlice t 1 #[(0,x)],ty,pos,af,gd⟩ fr ob (.s (.one (.mut k))) (Fr.forget k fr) ((k,.growT e 1 q (s.cells.map (TC.forget k)))::Obs.forget k ob):=by
 intro S G a w h;have N:k<1000000:=by simpa using N
 have ad:=ht.out.2.2.1;have ac:q<=100:=by simpa using O
 obtain⟨_,_,_,_,F⟩:=ht.out;cases Y:P.info? e with
 | none=>simp[Y]at F
 | some i =>
 cases hz:i.zero with
 | none=>simp[Y,hz]at F
 | some z =>
 have Z:(P.info? e).bind (·.zero)=some z:=by simp[Y,hz]
 have D:=UG (s:=s) (M2 h hx hc);have E:(a.eval x).cells.size=q:=by rw[<-V,D.length];simp
 let C:Array Value:=(Array.range (1*q)).map (z.cells[· % z.cells.size]!);have ab:C.size=q:=by simp[C]
 have K:Instr.fill (fun i=>some (i*q,q)) C [(0,a.eval x)]=some (a.eval x).cells.toList.toArray:=by
  have M:(a.eval x).cells.zipIdx.foldl (fun cs (x:Value×Nat)=>cs.setIfInBounds (0*q+x.2) x.1) C=(C.toList.take (0*q)++(a.eval x).cells.toList++C.toList.drop (0*q+(a.eval x).cells.toList.length)).toArray:=by
   rw[<-Array.foldl_toList,Array.toList_zipIdx];have:=dR (0*q) (a.eval x).cells.toList 0 C (by simp;omega);simpa using this
  simp only[Instr.fill,E,ne_eq,not_true_eq_false,decide_false,Bool.false_or,decide_eq_true_eq];rw[A5 (by omega),M];have:C.toList.drop (0*q+(a.eval x).cells.toList.length)=[]:=by rw[List.drop_eq_nil_iff];simp;omega
  rw[this];simp
 refine G3 (w':=w.alloc (.cells (a.eval x).cells.toList.toArray e)) (v:=.slice (some ⟨w.heap.size,0,none⟩) 1 1) ?_ ?_
 ·simp only[execOp];refine J3 ?_;simp only[Instr.buildSlice,Sem.run_bind,run_underlying ht.out.1,Result.andThen_ok,I1 ht.size];rw[A5 (by omega)];rw[A5 (by omega)];simp only[Sem.run_bind,J4 Z,Sem.run_pure,Result.andThen_ok];have hp:(#[(0,x)]:Array (Nat×Operand)).map (fun (x:Nat×Operand)=>match x with | (i,x)=>(i,a.eval x))=#[(0,a.eval x)]:=by simp
  rw[hp];have H:Instr.fill (fun i=>some (i*q,q)) ((Array.range (1*q)).map (z.cells[· % z.cells.size]!)) (#[(0,a.eval x)]:Array (Nat×Value)).toList=some (a.eval x).cells.toList.toArray:=K;rw[H];simp[newRow]
 ·have X:Below w.heap.size w (w.alloc (.cells (a.eval x).cells.toList.toArray e)):=(Below.refl _ _).alloc (Nat.le_refl _) _;have hu:∀b,blk (.slice (some ⟨w.heap.size,0,none⟩) 1 1)=some b->w.heap.size<=b:=by intro b hb;simp[blk]at hb;omega
  have W:(a.eval x).cells.toList.length=q:=by simpa using E
  have Q:(w.alloc (.cells (a.eval x).cells.toList.toArray e)).ownsRow S.B e q (.slice (some ⟨w.heap.size,0,none⟩) 1 1) 1 (a.eval x).cells.toList :=
   ⟨by rw[W,Nat.one_mul],.inr ⟨w.heap.size,1,(a.eval x).cells.toList.toArray,rfl,h.size,heap_alloc_new w _,Nat.le_refl _,by unfold maxLen;omega,by simpa using E,by rw[Nat.one_mul,<-W];exact VJ⟩⟩
  have U:=h.new N hk (o:=.growT e 1 q (s.cells.map (TC.forget k))) (u:=.slice (some ⟨w.heap.size,0,none⟩) 1 1) X hu (by
   refine⟨(a.eval x).cells.toList,Q,by omega,by rw[VW,V,Nat.one_mul],?_⟩;have h1:All2 (TC.rep (E4 (Mut S ((k,Ob.growT e 1 q (s.cells.map (TC.forget k)))::Obs.forget k ob) (upd G k (.slice (some ⟨w.heap.size,0,none⟩) 1 1))) (w.alloc (.cells (a.eval x).cells.toList.toArray e))) G) s.cells (a.eval x).cells.toList :=
    D.mono fun _ _=>TC.rep_mono (fun _ _ _ hr=>h.rd_new X hu hr)
   exact h1.map (TC.forget k) (fun _ _=>TC.rep_forget (G':=upd G k (.slice (some ⟨w.heap.size,0,none⟩) 1 1)) (fun j hj=>Y8 G _ hj)))
  exact⟨_,U,(G6 _ _ _).symm,rfl⟩
theorem pL(k:Nat){t e:TypeId}{q F:Nat}{x:Operand}{s:S1}[ht:TySl P t e q F](hx:opv fr x=some (.s s))(hc:G7 x=true)(Q:s.cells.length=q)(M:Nat.ble q 100=true)
  (hk:C5 ob k=none) (K:Nat.blt k 1000000=true):EffV P ⟨dst,.buildSlice t 1 #[(0,x)],ty,pos,af,gd⟩ fr ob (.s (.one (.mut k))) (Fr.forget k fr) ((k,.tarr 1 q (s.cells.map (TC.forget k)))::Obs.forget k ob):=by
 intro S G a w h;have K:k<1000000:=by simpa using K
 have ab:=ht.out.2.2.1;have W:q<=100:=by simpa using M
 obtain⟨_,_,_,_,D⟩:=ht.out;cases T:P.info? e with
 | none=>simp[T]at D
 | some i =>
 cases Y:i.zero with
 | none=>simp[T,Y]at D
 | some z =>
 have U:(P.info? e).bind (·.zero)=some z:=by simp[T,Y]
 have C:=UG (s:=s) (M2 h hx hc);have N:(a.eval x).cells.size=q:=by rw[<-Q,C.length];simp
 let B:Array Value:=(Array.range (1*q)).map (z.cells[· % z.cells.size]!);have V:B.size=q:=by simp[B]
 have H:Instr.fill (fun i=>some (i*q,q)) B [(0,a.eval x)]=some (a.eval x).cells.toList.toArray:=by
  have J:(a.eval x).cells.zipIdx.foldl (fun Z (x:Value×Nat)=>Z.setIfInBounds (0*q+x.2) x.1) B=(B.toList.take (0*q)++(a.eval x).cells.toList++B.toList.drop (0*q+(a.eval x).cells.toList.length)).toArray:=by
   rw[<-Array.foldl_toList,Array.toList_zipIdx];have:=dR (0*q) (a.eval x).cells.toList 0 B (by simp;omega);simpa using this
  simp only[Instr.fill,N,ne_eq,not_true_eq_false,decide_false,Bool.false_or,decide_eq_true_eq];rw[A5 (by omega),J];have:B.toList.drop (0*q+(a.eval x).cells.toList.length)=[]:=by rw[List.drop_eq_nil_iff];simp;omega
  rw[this];simp
 refine G3 (w':=w.alloc (.cells (a.eval x).cells.toList.toArray e)) (v:=.slice (some ⟨w.heap.size,0,none⟩) 1 1) ?_ ?_
 ·simp only[execOp];refine J3 ?_;simp only[Instr.buildSlice,Sem.run_bind,run_underlying ht.out.1,Result.andThen_ok,I1 ht.size];rw[A5 (by omega)];rw[A5 (by omega)];simp only[Sem.run_bind,J4 U,Sem.run_pure,Result.andThen_ok];have hp:(#[(0,x)]:Array (Nat×Operand)).map (fun (x:Nat×Operand)=>match x with | (i,x)=>(i,a.eval x))=#[(0,a.eval x)]:=by simp
  rw[hp];have E:Instr.fill (fun i=>some (i*q,q)) ((Array.range (1*q)).map (z.cells[· % z.cells.size]!)) (#[(0,a.eval x)]:Array (Nat×Value)).toList=some (a.eval x).cells.toList.toArray:=H;rw[E];simp[newRow]
 ·have R:Below w.heap.size w (w.alloc (.cells (a.eval x).cells.toList.toArray e)):=(Below.refl _ _).alloc (Nat.le_refl _) _;have X:∀b,blk (.slice (some ⟨w.heap.size,0,none⟩) 1 1)=some b->w.heap.size<=b:=by intro b hb;simp[blk]at hb;omega
  have O:=h.new K hk (o:=.tarr 1 q (s.cells.map (TC.forget k))) (u:=.slice (some ⟨w.heap.size,0,none⟩) 1 1) R X (by
   refine⟨w.heap.size,(a.eval x).cells.toList,e,rfl,by omega,heap_alloc_new w _,by rw[VW,Q,Nat.one_mul],?_⟩;have h1:All2 (TC.rep (E4 (Mut S ((k,Ob.tarr 1 q (s.cells.map (TC.forget k)))::Obs.forget k ob) (upd G k (.slice (some ⟨w.heap.size,0,none⟩) 1 1))) (w.alloc (.cells (a.eval x).cells.toList.toArray e))) G) s.cells (a.eval x).cells.toList :=
    C.mono fun _ _=>TC.rep_mono (fun _ _ _ hr=>h.rd_new R X hr)
   exact h1.map (TC.forget k) (fun _ _=>TC.rep_forget (G':=upd G k (.slice (some ⟨w.heap.size,0,none⟩) 1 1)) (fun j hj=>Y8 G _ hj)))
  exact⟨_,O,(G6 _ _ _).symm,rfl⟩
theorem MR(k:Nat){t e:TypeId}{A F:Nat}{x y:Operand}{kx ky:IntKind}{n:Int}(α:Type)(c:α->Nat->Cell)(D:α){z:Value}[ht:TySl P t e A F][hzz:TyZero P e z]
  (hx:opv fr x=some (H6 (.int kx n))) (hy:opv fr y=some (H6 (.int ky n))) (h0:0<=n) (hn:n<=1073741824)
  (ah:∀rd:Rd,All2 (Cell.rep rd) (cellsOf c D 0 A) z.cells.toList) (hf:(H4 k fr&&M1 k ob)=true) :
  EffV P ⟨dst,.makeSlice t x y,ty,pos,af,gd⟩ fr ob (.s (.one (.mut k))) fr ((k,.grow e α A c (List.replicate n.toNat D))::ob):=by
 simp only[VB]at hf;obtain⟨U,V⟩:=hf;obtain⟨Y,hk,Z⟩:=R5 V;have W:=R4 U;have hz:((P.info? e).bind (·.zero)).map (fun z=>z.cells.toList)=some z.cells.toList:=by rw[hzz.out.1];rfl
 intro S G a w h;obtain⟨ac,f,ak,aj,q⟩:=ht.out;cases M:P.info? e with
 | none=>simp[M]at f
 | some i =>
 simp[M]at f;obtain⟨ab,T⟩:=f;cases J:i.zero with
 | none=>simp[M,J]at q
 | some z2 =>
 simp[M,J]at q hz;have K:(i.bytes:Int)*n<=281474976710656:=by
  have h1:(i.bytes:Int)<=4096:=by omega
  have h2:(i.bytes:Int)*n<=4096*1073741824:=by
   have:i.bytes*n.toNat<=4096*1073741824:=Nat.mul_le_mul (by omega) (by omega);have h3:((i.bytes*n.toNat:Nat):Int)<=((4096*1073741824:Nat):Int):=by exact_mod_cast this
   rw[Int.natCast_mul]at h3;have h4:(n.toNat:Int)=n:=by omega
   rw[h4]at h3;omega
  omega
 have hr:=run_make (P:=P) w t e i z2 ac M J kx ky n n h0 (Int.le_refl _) K (by omega);rw[ab]at hr;obtain⟨C,I⟩:∃C,C=madeCells z2.cells (n.toNat*A):=⟨_,rfl⟩
 have H:C.size=n.toNat*A:=by rw[I];exact size_madeCells _ _
 rw[<-I]at hr;refine G3 (w':=w.alloc (.cells C e)) (v:=.slice (some ⟨w.heap.size,0,none⟩) n.toNat n.toNat) ?_ ?_
 ·simp only[execOp,F2 h hx,F2 h hy];exact J3 hr
 ·have ag:Below w.heap.size w (w.alloc (.cells C e)):=(Below.refl _ _).alloc (Nat.le_refl _) _;have hu:∀b,blk (.slice (some ⟨w.heap.size,0,none⟩) n.toNat n.toNat)=some b->w.heap.size<=b:=by intro b hb;simp[blk]at hb;omega
  have Q:(List.replicate n.toNat D).length=n.toNat:=VX;have O:(w.alloc (.cells C e)).ownsRow S.B e A (.slice (some ⟨w.heap.size,0,none⟩) n.toNat n.toNat) (List.replicate n.toNat D).length C.toList:=by
   rw[Q];exact⟨by simpa using H,.inr ⟨w.heap.size,n.toNat,C,rfl,h.size,heap_alloc_new w _,Nat.le_refl _,by unfold maxLen;omega,H,(by rw[<-H];exact VJ)⟩⟩
  have E:=h.new Z hk (o:=.grow e α A c (List.replicate n.toNat D)) (u:=.slice (some ⟨w.heap.size,0,none⟩) n.toNat n.toNat) ag hu ⟨C.toList,O,by rw[Q];omega,fun m hm j hj=>by
   have X:m<n.toNat:=by simpa using hm
   have ai:=ah (E4 (Mut S ((k,Ob.grow e α A c (List.replicate n.toNat D))::Obs.forget k ob) (upd G k (.slice (some ⟨w.heap.size,0,none⟩) n.toNat n.toNat))) (w.alloc (.cells C e)));have L:(cellsOf c D 0 A)[j]?=some (c D j):=by
    have N:j<(cellsOf c D 0 A).length:=by rw[N1];exact hj
    rw[VA N];have:=Q8 c D A 0 j _ (VA N);rw[this.1,Nat.zero_add]
   obtain⟨u,ad,ae⟩:=ai.get j _ L;refine⟨u,?_,by simpa using ae⟩;rw[Array.getElem?_toList,I,gE q X hj,<-Array.getElem?_toList,hz]
   exact ad⟩
  rw[W,Y]at E;exact⟨_,E,(G6 _ _ _).symm,rfl⟩
def FreeKs(a:List Nat)(fr:Fr):Prop:=∀k,K7 a k=true->H4 k fr=true
theorem FreeKs.nil{a:List Nat}:FreeKs a []:=fun _ _=>rfl
theorem FreeKs.cons{a:List Nat}{i:Nat}{s:SV}{fr:Fr}(c:∀k,K7 a k=true->s.free k=true)(d:FreeKs a fr):FreeKs a ((i,s)::fr):=fun k b=>by
 simp only[H4,VB];exact⟨c k b,d k b⟩
theorem iS{k:Nat}:∀{F:Fr},(∀p∈F,p.2.free k=true)->H4 k F=true
 | [],_=>rfl
 | (i,s)::r,h=>by
  simp only[H4,VB];exact⟨h (i,s) (List.mem_cons_self ..),iS fun p a=>h p (List.mem_cons_of_mem _ a)⟩
theorem FreeKs.gf{ks K:List Nat}{gf:Fr}(h:∀k,K7 ks k=true->K7 K k=true):FreeKs ks (C9 K gf):=fun k a=>iS (l0 (h k a))
theorem FreeKs.eq:∀{a:List Nat} {fr:Fr},FreeKs a fr->C9 a fr=fr
 | [],_,_=>rfl
 | k::a,fr,h=>by
  show C9 a (Fr.forget k fr)=fr;rw[R4 (h k (xL.2 (List.mem_cons_self ..)))];exact FreeKs.eq fun j b=>h j (xL.2 (List.mem_cons_of_mem _ (xL.1 b)))
theorem nN(k:Nat):∀(K:List Nat) (fr:Fr),K7 K k=true->C9 K (Fr.forget k fr)=C9 K fr:=fun K fr h=>by rw[bX,j9 h]
theorem gL:∀{ks K:List Nat} {fr:Fr},(∀k,K7 ks k=true->K7 K k=true)->C9 K (C9 ks fr)=C9 K fr
 | [],_,_,_=>rfl
 | k::ks,K,fr,h=>by
  show C9 K (C9 ks (Fr.forget k fr))=_;rw[gL (ks:=ks) fun j a=>h j (xL.2 (List.mem_cons_of_mem _ (xL.1 a)))];exact nN k K fr (h k (xL.2 (List.mem_cons_self ..)))
theorem Met.more{f:FuncId}{b:List S1}{gf:Fr}{l K:List Nat}{c:List S1->Obs->Prop}(h:Met P f b gf ob l c)(y:∀k,K7 l k=true->K7 K k=true):Met P f b gf ob K c :=
 ⟨h.1,fun x S G a w d z ha=>(h.2 x S G a w d z ha).mono fun e w' ⟨v,A,ob',G',p,q,r,g⟩=>by
  refine⟨v,A,ob',G',p,q,r,{ g with facts:=fun i s j=>?_ }⟩;rw[<-gL y]at j;obtain⟨B,t,u⟩:=jZ j
  exact u _ _ _ (g.facts i B t)⟩
theorem Met.conv{f:FuncId}{g:List S1}{gf:Fr}{u:List Nat}{j d:List S1->Obs->Prop}(h:Met P f g gf ob u j)(E:∀p ob',j p ob'->∃c,d p c/\∀k o,C5 c k=some o->C5 ob' k=some o):Met P f g gf ob u d :=
 ⟨h.1,fun D S G a w q F ha=>(h.2 D S G a w q F ha).mono fun e w' ⟨v,p,ob',G',y,A,B,C⟩=>by
  obtain⟨c,H,x⟩:=E p ob' A;refine⟨v,p,c,G',y,H,SV.rep_mono (fun b i z t=>⟨t.1,fun s=>t.2 ?_⟩) B,C.weakenO x⟩;rcases s with s | ⟨k,o,hk,ho⟩
  ·exact .inl s
  ·exact .inr ⟨k,o,x k o hk,ho⟩⟩
theorem ResRep.sAll{b:Rd}{G:Gh}{a:List PV}{v:Value}(h:ResRep b a v):X3 b G (a.map PV.s1) v:=by
 match a,h with
 | [p],h=>exact PV.rep_s1 h
 | [],⟨us,h1,h2⟩=>exact⟨us,h1,h2.map PV.s1 fun _ _=>PV.rep_s1⟩
 | _::_::_,⟨us,h1,h2⟩=>exact⟨us,h1,h2.map PV.s1 fun _ _=>PV.rep_s1⟩
theorem RetOk.sAll{fn:Func}{ps:List PV}(h:RetOk P fn fr ob ps):RetS P fn fr ob (ps.map PV.s1):=fun S G a w d=>let ⟨v,b,c⟩:=h S G a w d;⟨v,b,c.sAll⟩
end Go.AL
