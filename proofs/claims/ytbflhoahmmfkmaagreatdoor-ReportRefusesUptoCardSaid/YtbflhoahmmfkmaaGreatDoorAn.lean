/- The abstract logic, its third part. No project text. -/
import Derived.Test.YtbflhoahmmfkmaaGreatDoorAm
import Derived.Laws.StructEq
import Derived.Laws.Cover3
import Derived.MapKept
import Derived.Lib.AppendZeros
set_option linter.all false
attribute [local semireducible] Go.AL.Neu Go.AL.Eff Go.AL.EffV Go.AL.WpL Go.AL.WpC Go.AL.FnOk Go.AL.LexD Go.AL.Sees Go.AL.RetOk Go.AL.FnIo Go.AL.Met Go.AL.RetS
namespace Go.AL
open Go Go.RowKit
set_option linter.unusedVariables false
variable {P:Program}{nt:Nat}{ops:Array Oper}
def zZ(P:Program)(o:Oper)(U:Fr)(ob ob':Obs):Prop :=
 ∀S G a w,Sim P S U ob G a w->Does P o a w (fun _ w'=>∃G',∀fr,Sim P S fr ob G a w->Sim P S fr ob' G' a w')
theorem fR{t:TypeId}{x y:Operand}{k o n:Nat}{D:List TC}{s:S1}{fr:Fr}{ob:Obs}{ty:TypeId}{pos:String}{af:Array Edge}{gd:Option (Nat×Bool)}(V:(P.info? t).map (·.size)=some n)(hx:opv fr x=some (.s (.one (.ref k o))))(W:C2 ob k=some (.box D))(hy:opv fr y=some (.s s))(hc:F8 y=true)
  (X:s.cells.length=n) (J:Nat.ble (o+n) D.length=true):zZ P ⟨none,.store t x y,ty,pos,af,gd⟩ fr ob ((k,.box (setTs D o s.cells))::ob):=by
 intro S G a w h;obtain⟨b,Q,C⟩:=F1 h hx;obtain⟨b',A,tt,K,hh,ha⟩:=h.box W;rw[Q]at K;cases K;have hr:(SV.s s).rep (D1 (Mut S ob G) w) G (a.eval y):=K0 h hy hc;have g:=GY hr;have q:(a.eval y).cells.size=n:=by rw[<-X,g.length];simp
 have R:o+n<=D.length:=by simpa using J
 have M:∀u∈(a.eval y).cells.toList,u.oneCell'=true:=by
  intro u C;have:∀(D:List TC) (A:List Value),All2 (TC.rep (D1 (Mut S ob G) w) G) D A->∀u∈A,u.oneCell'=true:=by
   intro D;induction D with
   | nil=>intro A h u C;cases A with | nil=>cases C | cons=>exact h.elim
   | cons t D ih =>
    intro A h u C;cases A with
    | nil=>exact h.elim
    | cons v A =>
     rcases HZ.1 C with rfl | C
     ·exact TC.rep_one h.1
     ·exact ih A h.2 u C
  exact this _ _ g u C
 obtain⟨w',O,T,I,N,H,B,F⟩:=S9 (P:=P) (t:=t) (w:=w) (b:=b) (o:=o) (v:=a.eval y) (by rw[V,q]) hh M (by rw[q,<-ha.length];exact R);unfold Does;have he:(execOp a.eval ⟨none,.store t x y,ty,pos,af,gd⟩).run P w=.ok .skip w':=by
  simp[execOp,C,Instr.storeAt,Instr.sureAddr,O]
 rw[he];have E:blk (G k)=some b:=by rw[Q];rfl
 refine⟨G,fun Y Z=>Z.write W E (fun i=>⟨E,trivial⟩) (fun i=>⟨E,trivial⟩) T I N (Nat.le_of_eq H.symm) (fun j _=>B j) ?_⟩;intro rd U;refine⟨b,_,tt,Q,F,?_⟩;have hd:A.drop (o+(a.eval y).cells.size)=A.drop (o+s.cells.length):=by rw[q,X]
 unfold setTs;rw[hd];exact (((ha.take o).append g).append (ha.drop _)).mono fun _ _=>TC.rep_mono U
def Told(U:Fr)(φ:Fa):Prop:=∀t s,C8 U t=some s->φ t=some s
theorem vD{o:Oper}{U:Fr}{ob ob':Obs}{φ:Fa}(h:zZ P o U ob ob')(n:o.guard=none)(m:o.dst=none)(q:Told U φ):iB P nt ops o φ ob (fun r b=>r=φ/\b=ob'):=by
 refine⟨n,fun S G a w u e=>iE (h S G a w (e.sub q)) ?_⟩;rintro v w' ⟨G',g⟩;refine⟨φ,ob',G',⟨rfl,rfl⟩,?_⟩;rw[m];refine⟨g [] e.1,fun i s p=>?_⟩;have l:Sim P S [(i,s)] ob G a w:=e.sub fun j t d=>by
  by_cases k:i=j
  ·subst k;rw[C7]at d;cases d;exact p
  ·rw[C0 k]at d;simp[C8]at d
 exact (g _ l).facts i s (by rw[C7])
def AnyC(P:Program)(nt:Nat)(ops:Array Oper)(T:Nat)(U:Fr)(ob ob':Obs)(E:Array Bool->Fa->Prop):Nat->Array Bool->Fa->Prop
 | 0,listed,φ=>(T∈Region.ready .any ops listed->Told U φ)/\T∈Region.ready .any ops listed/\(∀j∈Region.ready .any ops listed,j=T)/\E listed φ
 | fuel+1,listed,φ=>(T∈Region.ready .any ops listed->Told U φ)/\(∃p,p<T/\p∈Region.ready .any ops listed)/\∀i∈Region.ready .any ops listed,i≠T ->
   ∃o s d,ops[i]?=some o/\o.dst=some d/\turns o.op=false/\YieldsN P nt ops o φ ob s/\YieldsN P nt ops o φ ob' s/\AnyC P nt ops T U ob ob' E fuel (listed.setIfInBounds i true) (P7 φ d s)
theorem AnyC.told{T:Nat}{U:Fr}{ob ob':Obs}{E:Array Bool->Fa->Prop}{c:Nat}{b:Array Bool}{φ:Fa}(h:AnyC P nt ops T U ob ob' E c b φ):T∈Region.ready .any ops b->Told U φ:=by
 cases c<;>exact h.1
theorem xN{fr:Fr}{ob:Obs}{dst:Option Tmp}{ty:TypeId}{pos:String}{af:Array Edge}{gd:Option (Nat×Bool)}{c x y:Operand}{b p:Bool}(d:opv fr c=some (O4 b))(hb:b=true)(e:opv fr x=some (O4 p)) :
  Neu P ⟨dst,.pick c x y,ty,pos,af,gd⟩ fr ob (fun f=>f=O4 p) :=
 D4 fun S G a w h=>by
  have:=E8 h d;subst hb;exact⟨.bool p,by simp[execOp,this,asBool,E8 h e],rfl,rfl⟩
inductive CK | int (k:IntKind) | str | bool
def EW(P:Program)(t:TypeId):Option CK :=
 match P.underlying t with
 | some (.int k)=>some (.int k)
 | some .string=>some .str
 | some .bool=>some .bool
 | _=>none
def lF(P:Program):Nat->List Field->List CK->Bool
 | _,[],[]=>true
 | i,f::fs,k::ks=>f.name != "_"&&(f.offset == i&&((match EW P f.type,k with | some (.int k),.int k'=>decide (k=k') | some .str,.str=>true | some .bool,.bool=>true | _,_=>false)&&lF P (i+1) fs ks))
 | _,_,_=>false
class TyCmp (P:Program) (t:TypeId) (ks:outParam (List CK)):Prop where
 out:P.underlying t=some (.struct (P.fieldsOf t))/\(lF P 0 (P.fieldsOf t).toList ks&&(!P.stoodInHeld t&&!P.eqGuardType P.depth t))=true
def GH:CK->Value->Bool
 | .int k,.int k' _=>decide (k=k')
 | .str,.string _=>true
 | .bool,.bool _=>true
 | _,_=>false
def GD:Value->Value->Bool
 | .int _ a,.int _ b=>a == b
 | .string a,.string b=>a.toList == b.toList
 | .bool a,.bool b=>a == b
 | _,_=>false
def gH:List CK->List Value->Bool
 | [],[]=>true
 | k::ks,v::vs=>GH k v&&gH ks vs
 | _,_=>false
def mS:List Value->List Value->Bool
 | u::us,v::vs=>GD u v&&mS us vs
 | _,_=>true
theorem dH{P:Program}(d:Nat)(a b:List Value):∀(l:List Field) (j:List CK) (i:Nat),lF P i l j=true->i+j.length=a.length->i+j.length=b.length->gH j (a.drop i)=true->gH j (b.drop i)=true ->
  ∀w:World,(Op.eqFields (d+1) a.toArray b.toArray l).run P w=.ok (mS (a.drop i) (b.drop i)) w
 | [],[],i,_,h1,h2,_,_,w=>by
  rw[JK (by simp at h1;omega)];simp[Op.eqFields,mS]
 | [],_::_,_,h,_,_,_,_,_=>by simp[lF]at h
 | _::_,[],_,h,_,_,_,_,_=>by simp[lF]at h
 | f::l,k::j,i,h,h1,h2,h3,h4,w=>by
  simp only[lF,HR,bne_iff_ne,beq_iff_eq]at h;obtain⟨A,p,c,B⟩:=h;have q:i<a.length:=by simp at h1;omega
  have s:i<b.length:=by simp at h2;omega
  rw[IB q]at h3 ⊢;rw[IB s]at h4 ⊢;simp only[gH,HR]at h3 h4;have C:=dH (P:=P) d a b l j (i+1) B (by simp at h1;omega) (by simp at h2;omega) h3.2 h4.2;have g:∀w:World,(part f.type a.toArray f.offset).run P w=.ok a[i] w/\(part f.type b.toArray f.offset).run P w=.ok b[i] w/\(Op.equalIn (d+1) f.type a[i] b[i]).run P w=.ok (GD a[i] b[i]) w:=by
   intro w;have y:a.toArray[f.offset]?=some a[i]:=by rw[p];simp[q]
   have z:b.toArray[f.offset]?=some b[i]:=by rw[p];simp[s]
   have t:=h3.1;have x:=h4.1;unfold EW at c;generalize a[i]=u at *;generalize b[i]=v at *;cases e:P.underlying f.type with
   | none=>rw[e]at c;simp at c
   | some ty =>
    rw[e]at c;cases ty<;>simp only at c<;>try (simp at c;done)
    all_goals (cases k<;>simp only[Bool.false_eq_true,decide_eq_true_eq]at c)
    all_goals (cases u<;>simp only[GH,Bool.false_eq_true,decide_eq_true_eq]at t)
    all_goals (cases v<;>simp only[GH,Bool.false_eq_true,decide_eq_true_eq]at x)
    all_goals try subst t
    all_goals try subst x
    all_goals refine⟨by simp[part,isAgg,run_underlying e,y],by simp[part,isAgg,run_underlying e,z],?_⟩
    ·exact run_equalIn_bool' w _ _ _ _ e
    ·exact run_equalIn_int w _ _ _ _ _ _ e
    ·exact run_equalIn_string w _ _ _ _ e
  simp only[Op.eqFields,Sem.run_bind,Sem.run_ite];rw[A4 A,(g w).1];simp only[Result.andThen_ok];rw[(g w).2.1];simp only[Result.andThen_ok];rw[(g w).2.2];simp only[Result.andThen_ok];cases m:GD a[i] b[i]
  ·simp[mS,m]
  ·simp only[mS,m,Bool.true_and];simpa using C w
theorem iG:∀{a:List CK} {b:List Value},gH a b=true->a.length=b.length
 | [],[],_=>rfl
 | [],_::_,h=>by simp[gH]at h
 | _::_,[],h=>by simp[gH]at h
 | _::a,_::b,h=>by simp only[gH,HR]at h;simp[iG h.2]
variable {dst:Option Tmp}{ty:TypeId}{pos:String}{af:Array Edge}{gd:Option (Nat×Bool)}{fr:Fr}{ob:Obs}
theorem cA{e:Rd}{G:Gh}:∀{a b:List Value},All2 (TC.rep e G) (a.map fun u=>TC.p (.v u)) b->b=a
 | [],[],_=>rfl
 | [],_::_,h=>h.elim
 | _::_,[],h=>h.elim
 | u::a,v::b,h=>by
  obtain⟨⟨c,_⟩,d⟩:=h;rw[cA d,c]
theorem AA{t:TypeId}{b:List CK}{c d:List Value}[ht:TyCmp P t b](h:(gH b c&&gH b d)=true)(w:World):(Op.equalIn 10000 t (.agg c.toArray) (.agg d.toArray)).run P w=.ok (mS c d) w:=by
 obtain⟨f,e⟩:=ht.out;simp only[HR,Bool.not_eq_true']at h e;have i:=iG h.1;have j:=iG h.2;rw[run_equalIn_agg w 9999 t _ _ f e.2.1];have:=dH (P:=P) 9998 c d _ b 0 e.1 (by omega) (by omega) h.1 h.2 w;exact this
theorem xO{t yt:TypeId}{x y:Operand}{d:List CK}(f j:List Value){r:Bool}[ht:TyCmp P t d](D:opv fr x=some (.s (.agg (f.map fun u=>.p (.v u)))))(E:opv fr y=some (.s (.agg (j.map fun u=>.p (.v u)))))
  (c:(F8 x&&F8 y)=true) (B:(gH d f&&gH d j)=true) (C:mS f j=r):Neu P ⟨dst,.binOp .neq t x y yt,ty,pos,af,gd⟩ fr ob (fun F=>F=O4 (!r)) :=
 D4 fun S G a w h=>by
  simp only[HR]at c;obtain⟨H,z,m⟩:=K0 h D c.1;obtain⟨I,A,a2⟩:=K0 h E c.2;obtain rfl:=cA m;obtain rfl:=cA a2;have k:=ht.out.2;simp only[HR,Bool.not_eq_true']at k;refine⟨.bool (!r),?_,rfl,rfl⟩;simp only[execOp,z,A];refine I6 ?_;simp only[Sem.run_bind];rw[run_eqGuard_agg (hm:=k.2.2)];simp only[Result.andThen_ok];rw[run_neq_struct,AA B,C];rfl
theorem Z7{a:Array Bool}{e j:Nat}(h:e≠j):(a.setIfInBounds e true).getD j false=a.getD j false:=by
 simp only[Array.getD_eq_getD_getElem?,Array.getElem?_setIfInBounds_ne h]
def Z8:Op->List Nat
 | .store _ x y=>oL x++oL y
 | .box _ x=>oL x
 | .makeSlice _ x y=>oL x++oL y
 | op=>bY op
def S5(sv:List SV)(i:Nat):SV:=sv.getD i .any
def dI:List Oper->List SV->Fr->Fr
 | o::l,s::sv,fr=>match o.dst with
  | some d=>(d,s)::dI l sv fr
  | none=>dI l sv fr
 | _,_,fr=>fr
abbrev Xe:=List (Nat×Bool×(Nat×Ob))
def dJ:Xe->Nat->Option (Bool×(Nat×Ob))
 | [],_=>none
 | (i,x)::r,e=>cond (Nat.beq i e) (some x) (dJ r e)
def bE(a:Xe)(ob:Obs):List Nat->Obs
 | []=>ob
 | e::D=>match dJ a e with
  | some x=>x.2::bE a ob D
  | none=>bE a ob D
def iH(e:Nat):List Nat->List Nat
 | []=>[e]
 | d::D=>cond (Nat.blt d e) (e::d::D) (d::iH e D)
def N2(l:List Nat)(e:Nat):Bool:=l.any (Nat.beq e)
theorem oZ{l:List Nat}{e:Nat}:N2 l e=true↔e∈l:=by
 unfold N2;rw[List.any_eq_true];exact⟨fun ⟨x,h,a⟩=>by rw[Nat.eq_of_beq_eq_true a];exact h,fun h=>⟨e,h,Nat.beq_refl e⟩⟩
def lG(ops:Array Oper)(E:List Nat)(i:Nat)(D:List Nat):Bool:=!(N2 D i)&&((E.all fun j=>!(Bef ops i j)||N2 D j)&&D.all fun j=>!(Bef ops j i))
def bF:List Nat->List Nat->Bool
 | [],[]=>true
 | a::l,b::m=>Nat.beq a b&&bF l m
 | _,_=>false
theorem x3:∀{l m:List Nat},bF l m=true->l=m
 | [],[],_=>rfl
 | [],_::_,h=>by simp[bF]at h
 | _::_,[],h=>by simp[bF]at h
 | a::l,b::m,h=>by
  simp only[bF,HR]at h;rw[Nat.eq_of_beq_eq_true h.1,x3 h.2]
def CH(M:List (List Nat))(D:List Nat):Bool:=M.any (bF D)
theorem pA{M:List (List Nat)}{D:List Nat}(h:CH M D=true):D∈M:=by
 obtain⟨x,a,b⟩:=List.any_eq_true.1 h;rw[x3 b];exact a
def rY(E:List Nat)(i:Nat):List Nat:=E.filter fun e=>Nat.blt e i
def desc:List Nat->Bool
 | []=>true
 | a::l=>l.all (fun b=>Nat.blt b a)&&desc l
def U0:List Oper->List Nat
 | []=>[]
 | o::l=>match o.dst with
  | some d=>d::U0 l
  | none=>U0 l
def cC:List Nat->Bool
 | []=>true
 | a::l=>!(N2 l a)&&cC l
def mT(nt:Nat)(l:List Oper)(E:List Nat)(M:List (List Nat))(b:List (Nat×List Nat)):Bool :=
 let ops:=l.toArray;let n:=l.length
 (l.all fun o=>o.guard.isNone&&match o.dst with | some d=>Nat.blt d nt | none=>true) &&
 ((List.range n).all fun i=>match ops[i]? with
  | some o=>(turns o.op == N2 E i)&&((turns o.op||o.dst.isSome)&&(((Z8 o.op).all fun u=>(List.range n).all fun j=>match ops[j]? with
    | some c=>(match c.dst with | some d=>!(Nat.beq d u)||Bef ops i j | none=>true)
    | none=>true) &&
   ((List.range n).all fun j=>!(Bef ops i j)||Nat.blt j i)&&((o.after.toList.all fun e=>!(Region.binds .any e)||Nat.blt e.on i)&&(M.all fun D=>!(lG ops E i D)||(bF D (rY E i)||b.any fun p=>Nat.beq p.1 i&&bF p.2 D)))))
  | none=>false) &&
 cC (U0 l)&&desc E&&(E.all fun e=>Nat.blt e n)&&CH M []&&(M.all fun D=>E.all fun e=>!(lG ops E e D)||CH M (iH e D))
def rZ(P:Program)(nt:Nat)(ops:Array Oper)(o:Oper)(U:Fr)(new:Bool)(ob:Obs)(x:Nat×Ob)(s:SV):Prop :=
 ∀φ,Told U φ->(new=true->iF x.1 φ)->iB P nt ops o φ ob (fun b a=>b=(match o.dst with | some d=>P7 φ d s | none=>φ)/\a=x::ob)
theorem AB{ops:Array Oper}{U:Fr}{k:Nat}{e:TypeId}{z:Value}[hz:TyZero P e z]{ty:TypeId}{pos:String}{af:Array Edge}{d:Nat}{ob:Obs}(g:L2 k ob=true)(h:Nat.blt d nt=true) :
  rZ P nt ops ⟨some d,.alloc e,ty,pos,af,none⟩ U true ob (k,.box (z.cells.toList.map fun c=>.p (.v c))) (.s (.one (.ref k 0))) :=
 fun φ _ i=>rX (i rfl) g h
theorem AC{ops:Array Oper}{U:Fr}{b:Op}{ty:TypeId}{pos:String}{af:Array Edge}{ob:Obs}{x:Nat×Ob}(h:zZ P ⟨none,b,ty,pos,af,none⟩ U ob (x::ob)):rZ P nt ops ⟨none,b,ty,pos,af,none⟩ U false ob x .any :=
 fun φ c _=>vD h rfl rfl c
def UIn(l:List Oper)(sv:List SV)(fr:Fr)(o:Oper)(U:Fr):Prop :=
 ∀t s,C8 U t=some s->t∈Z8 o.op/\((∃j a,l[j]?=some a/\a.dst=some t/\s=S5 sv j)\/(t∉U0 l/\C8 fr t=some s))
def GP(P:Program)(nt:Nat)(l:List Oper)(sv:List SV)(a:Xe)(fr:Fr)(ob:Obs)(i:Nat)(D:List Nat):Prop :=
 ∃o U,l[i]?=some o/\UIn l sv fr o U/\((turns o.op=false/\Neu P o U (bE a ob D) (fun s=>s=S5 sv i)) \/
  ∃new x,dJ a i=some (new,x)/\rZ P nt l.toArray o U new (bE a ob D) x (S5 sv i))
def GQ(P:Program)(nt:Nat)(l:List Oper)(sv:List SV)(a:Xe)(fr:Fr)(ob:Obs)(i:Nat)(D:List Nat):Prop :=
 ∃o,l[i]?=some o/\((turns o.op=false/\Neu P o (O3 (dI l sv fr) (Z8 o.op)) (bE a ob D) (fun s=>s=S5 sv i)) \/
  ∃new x,dJ a i=some (new,x)/\rZ P nt l.toArray o (O3 (dI l sv fr) (Z8 o.op)) new (bE a ob D) x (S5 sv i))
def Ob1s(P:Program)(nt:Nat)(l:List Oper)(sv:List SV)(a:Xe)(fr:Fr)(ob:Obs):List (Nat×List Nat)->Prop
 | []=>True
 | (i,D)::r=>GQ P nt l sv a fr ob i D/\Ob1s P nt l sv a fr ob r
theorem Ob1s.get{l:List Oper}{sv:List SV}{a:Xe}{fr:Fr}{ob:Obs}:∀{r:List (Nat×List Nat)},Ob1s P nt l sv a fr ob r->∀p∈r,GQ P nt l sv a fr ob p.1 p.2
 | [],_,p,hp=>by simp at hp
 | (i,D)::r,h,p,hp=>by
  rcases HZ.1 hp with rfl | hp
  ·exact h.1
  ·exact Ob1s.get h.2 p hp
def xP(ops:Array Oper)(e:Nat)(sv:List SV)(fr:Fr):Fr :=
 (((List.range ops.size).filter fun j=>!(Nat.beq j e)&&!(Bef ops j e)).map fun j=>(j,S5 sv j))++fr
def eX(ops:Array Oper)(sv:List SV)(fr:Fr):Xe->Bool
 | []=>true
 | (e,new,x)::r=>(!new||H3 x.1 (xP ops e sv fr))&&eX ops sv fr r
def sA(a:Xe)(M:List (List Nat)):Bool :=
 M.all fun D=>a.all fun p=>D.all fun e=>N2 D p.1||!(Nat.blt p.1 e)||(match dJ a e with | some x=>!(Nat.beq x.2.1 p.2.2.1) | none=>true)
theorem mU{a:Xe}{e:Nat}{x:Bool×(Nat×Ob)}(h:dJ a e=some x):(e,x)∈a:=by
 induction a with
 | nil=>cases h
 | cons y r b =>
  obtain⟨i,y⟩:=y;unfold dJ at h;cases hb:Nat.beq i e
  ·rw[hb]at h;exact List.mem_cons_of_mem _ (b h)
  ·rw[hb]at h;have h:some y=some x:=h;cases h;rw[Nat.eq_of_beq_eq_true hb];exact List.mem_cons_self ..
theorem pB{b:Xe}{ob:Obs}{e:Nat}{new:Bool}{x:Nat×Ob}(g:dJ b e=some (new,x)):∀{D:List Nat},(∀d∈D,e<d->∀y,dJ b d=some y->y.2.1≠x.1)->∀k o,C2 (bE b ob (iH e D)) k=some o->C2 (x::bE b ob D) k=some o
 | [],_,k,o,h=>by
  simp only[iH,bE,g]at h;exact h
 | d :: D,hk,k,o,h=>by
  unfold iH at h;cases hb:Nat.blt d e
  ·rw[hb]at h;simp only[cond]at h;have q:=pB (ob:=ob) g (D:=D) (fun t n=>hk t (List.mem_cons_of_mem _ n));have u : e <= d:=by
    cases Nat.lt_or_ge d e with
    | inl m => have:Nat.blt d e=true:=by simpa using m
               rw[this]at hb;cases hb
    | inr m=>exact m
   unfold bE at h ⊢;cases j:dJ b d with
   | none=>rw[j]at h;exact q k o h
   | some y =>
    rw[j]at h;simp only at h ⊢;obtain⟨s,f,l⟩:=y;obtain⟨r,v⟩:=x;by_cases a:f=k
    ·rw[show ((s,f,l):Bool×(Nat×Ob)).2=(f,l) from rfl]at h ⊢;rw[a,E3]at h;by_cases p:e=d
     ·subst p;rw[j]at g;cases g;rw[a,E3];exact h
     ·have i:=hk d (List.mem_cons_self ..) (by omega) _ j;have i:f≠r:=i;rw[C4 (by omega),a,E3];exact h
    ·rw[show ((s,f,l):Bool×(Nat×Ob)).2=(f,l) from rfl]at h ⊢;rw[C4 a]at h;have:=q k o h;by_cases c:r=k
     ·rw[c,E3]at this ⊢;exact this
     ·rw[C4 c]at this;rw[C4 c,C4 a];exact this
  ·rw[hb]at h;simp only[cond]at h;have:bE b ob (e::d::D)=x::bE b ob (d::D):=by
    show (match dJ b e with | some x=>x.2::bE b ob (d::D) | none=>bE b ob (d::D))=_;rw[g]
   rw[this]at h;exact h
theorem iI{e:Nat}{c:Array Bool}(p:e<c.size)(u:c.getD e false=false):∀{E:List Nat},desc E=true->e∈E->E.filter (fun j=>(c.setIfInBounds e true).getD j false)=iH e (E.filter fun j=>c.getD j false)
 | [],_,he=>by simp at he
 | d::E,hd,he=>by
  simp only[desc,HR]at hd;have k:∀b∈E,b<d:=fun b hb=>by simpa using List.all_eq_true.1 hd.1 b hb
  have m:(c.setIfInBounds e true).getD e false=true:=by simp[p]
  have h:∀j,j≠e->(c.setIfInBounds e true).getD j false=c.getD j false:=fun j z=>Z7 (Ne.symm z);by_cases i:d=e
  ·subst i;rw[List.filter_cons_of_pos (by exact m),List.filter_cons_of_neg (by rw[u];simp)];have:E.filter (fun j=>(c.setIfInBounds d true).getD j false)=E.filter fun j=>c.getD j false:=by
    apply List.filter_congr;intro j z;exact h j (by have:=k j z;omega)
   rw[this];cases B:E.filter fun j=>c.getD j false with
   | nil=>rfl
   | cons a r =>
    have ha:a∈E:=(List.mem_filter.1 (by rw[B];exact List.mem_cons_self ..)).1;have x:Nat.blt a d=true:=by simpa using k a ha
    unfold iH;rw[x];rfl
  ·have n:e∈E:=(HZ.1 he).resolve_left (fun q=>i q.symm);have A:=iI p u hd.2 n;have y:Nat.blt d e=false:=by
    have:=k e n;cases hb:Nat.blt d e
    ·rfl
    ·rw[Nat.blt_eq]at hb;omega
   by_cases w:c.getD d false=true
   ·rw[List.filter_cons_of_pos (by rw[h d i];exact w),List.filter_cons_of_pos (by exact w),A];show _=iH e (d::_)
    conv=>rhs;unfold iH
    rw[y];rfl
   ·rw[List.filter_cons_of_neg (by rw[h d i];exact w),List.filter_cons_of_neg (by exact w),A]
theorem x4:∀{l:List Oper} {j:Nat} {o:Oper} {d:Nat},l[j]?=some o->o.dst=some d->d∈U0 l
 | [],j,o,d,h,_=>by simp at h
 | o'::l,0,o,d,h,hd=>by
  simp at h;subst h;unfold U0;rw[hd];exact List.mem_cons_self ..
 | o'::l,j+1,o,d,h,hd=>by
  have:=x4 (l:=l) (j:=j) (by simpa using h) hd;unfold U0;split
  ·exact List.mem_cons_of_mem _ this
  ·exact this
theorem iJ:∀{l:List Oper} {i j:Nat} {o a:Oper} {d:Nat},cC (U0 l)=true->l[i]?=some o->l[j]?=some a->o.dst=some d->a.dst=some d->i=j
 | [],i,j,o,a,d,_,h,_,_,_=>by simp at h
 | q::l,0,0,_,_,_,_,_,_,_,_=>rfl
 | q::l,0,j+1,o,a,d,hn,h1,h2,h3,h4=>by
  simp at h1;subst h1;have b:=x4 (l:=l) (j:=j) (by simpa using h2) h4;unfold U0 at hn;rw[h3]at hn;simp only[cC,HR,Bool.not_eq_true']at hn;rw[oZ.2 b]at hn;exact absurd hn.1 (by simp)
 | q::l,i+1,0,o,a,d,hn,h1,h2,h3,h4=>by
  simp at h2;subst h2;have b:=x4 (l:=l) (j:=i) (by simpa using h1) h3;unfold U0 at hn;rw[h4]at hn;simp only[cC,HR,Bool.not_eq_true']at hn;rw[oZ.2 b]at hn;exact absurd hn.1 (by simp)
 | q::l,i+1,j+1,o,a,d,hn,h1,h2,h3,h4=>by
  have:cC (U0 l)=true:=by
   unfold U0 at hn;split at hn
   ·simp only[cC,HR]at hn;exact hn.2
   ·exact hn
  exact congrArg (·+1) (iJ this (by simpa using h1) (by simpa using h2) h3 h4)
theorem lH:∀{l:List Oper} {sv:List SV} {fr:Fr} {t:Nat} {s:SV},sv.length=l.length->C8 (dI l sv fr) t=some s->(∃j o,l[j]?=some o/\o.dst=some t/\s=S5 sv j)\/(t∉U0 l/\C8 fr t=some s)
 | [],[],fr,t,s,_,h=>.inr ⟨by simp[U0],h⟩
 | [],_::_,_,_,_,hl,_=>by simp at hl
 | _::_,[],_,_,_,hl,_=>by simp at hl
 | o :: l,k::sv,fr,t,s,hl,h=>by
  have b:C8 (dI l sv fr) t=some s->(∃j g,(o::l)[j]?=some g/\g.dst=some t/\s=S5 (k::sv) j)\/(t∉U0 l/\C8 fr t=some s):=fun m=>by
   rcases lH (by simpa using hl) m with ⟨j,g,a,e,p⟩ | a
   ·exact .inl ⟨j+1,g,by simpa using a,e,by rw[p];simp[S5]⟩
   ·exact .inr a
  unfold dI at h;cases f:o.dst with
  | none =>
   rw[f]at h;rcases b h with a | ⟨a,e⟩
   ·exact .inl a
   ·exact .inr ⟨by unfold U0;rw[f];exact a,e⟩
  | some d =>
   rw[f]at h;have h:C8 ((d,k)::dI l sv fr) t=some s:=h;by_cases c:d=t
   ·subst c;rw[C7]at h;cases h;exact .inl ⟨0,o,rfl,f,rfl⟩
   ·rw[C0 c]at h;rcases b h with a | ⟨a,e⟩
    ·exact .inl a
    ·refine .inr ⟨?_,e⟩;unfold U0;rw[f];intro q;rcases HZ.1 q with q | q
     ·exact c q.symm
     ·exact a q
theorem SimF.weakO{S:Ctx}{φ:Fa}{ob ob':Obs}{G:Gh}{a:Act}{w:World}(h:SimF P S φ ob G a w)(e:∀k o,C2 ob' k=some o->C2 ob k=some o):SimF P S φ ob' G a w:=by
 refine⟨h.1.weakenO e,fun i s l=>?_⟩;have g:Sim P S [(i,s)] ob G a w:=h.sub fun j t b=>by
  by_cases d:i=j
  ·subst d;rw[C7]at b;cases b;exact l
  ·rw[C0 d]at b;simp[C8]at b
 exact (g.weakenO e).facts i s (C7 _ _ _)
structure InvC (l:List Oper) (sv:List SV) (fr:Fr) (listed:Array Bool) (φ:Fa):Prop where
 put:∀j o d,l[j]?=some o->listed.getD j false=true->o.dst=some d->φ d=some (S5 sv j)
 from':∀t s,φ t=some s->(∃j o,l[j]?=some o/\listed.getD j false=true/\o.dst=some t/\s=S5 sv j)\/C8 fr t=some s
 old:∀t s,C8 fr t=some s->t∉U0 l->φ t=some s
def unl(a:Array Bool)(n:Nat):Nat:=(List.range n).countP fun i=>!(a.getD i false)
theorem tZ{a:Array Bool}{i:Nat}(k:i<a.size)(l:a.getD i false=false):∀{n:Nat},i<n->unl (a.setIfInBounds i true) n+1=unl a n
 | 0,h=>by omega
 | n+1,h=>by
  unfold unl;rw[JR,List.countP_append,List.countP_append];have f:∀j,j≠i->(a.setIfInBounds i true).getD j false=a.getD j false:=fun j d=>Z7 (Ne.symm d);by_cases c:i<n
  ·have o:=tZ k l c;unfold unl at o;have e:List.countP (fun b=>!(a.setIfInBounds i true).getD b false) [n]=List.countP (fun i=>!a.getD i false) [n]:=by
    simp only[List.countP_cons,List.countP_nil,f n (by omega)]
   rw[e];omega
  ·obtain rfl:i=n:=by omega
   have e:List.countP (fun b=>!(a.setIfInBounds i true).getD b false) (List.range i)=List.countP (fun i=>!a.getD i false) (List.range i):=by
    apply List.countP_congr;intro j d;rw[f j (by have:=IA.1 d;omega)]
   rw[e];have m:(a.setIfInBounds i true).getD i false=true:=by simp[k]
   simp only[List.countP_cons,List.countP_nil,m,l];simp
theorem kJ{id:Nat}{l:List Oper}{fr:Fr}{ob:Obs}{Q:Post}(sv:List SV)(W:Xe)(M:List (List Nat))(ay:List (Nat×List Nat))(hm:P.follows .mixedOrders=true)(cs:sv.length=l.length)
  (hB:mT nt l (W.map (·.1)) M ay=true) (h1:∀i,i<l.length->GP P nt l sv W fr ob i (rY (W.map (·.1)) i)) (ar:eX l.toArray sv fr W=true) (au:sA W M=true) (h2:Ob1s P nt l sv W fr ob ay)
  {fr':Fr} (bc:∀t s,C8 fr' t=some s->(∃j o',l[j]?=some o'/\o'.dst=some t/\s=S5 sv j)\/(t∉U0 l/\C8 fr t=some s)) (hQ:Q .normal fr' (bE W ob (W.map (·.1)))):WpC P nt (.region id l.toArray true) fr ob Q:=by
 intro S G a w hn hs;obtain⟨E,hE⟩:∃E,E=W.map (·.1):=⟨_,rfl⟩
 rw[<-hE]at hB h1 hQ;unfold mT at hB;simp only[HR]at hB;obtain⟨⟨⟨⟨⟨⟨b1,b2⟩,b3⟩,b4⟩,b5⟩,b6⟩,b7⟩:=hB
 have ai:∀i o,l[i]?=some o->o.guard=none/\(∀d,o.dst=some d->d<nt)/\(turns o.op=N2 E i)/\(turns o.op=true\/∃d,o.dst=some d)/\(∀u∈Z8 o.op,∀j oj,l[j]?=some oj->oj.dst=some u->Bef l.toArray i j=true) /\
   (∀j,Bef l.toArray i j=true->j<i)/\(∀e∈o.after.toList,Region.binds .any e=true->e.on<i)/\(∀D∈M,lG l.toArray E i D=true->D=rY E i\/(i,D)∈ay):=by
  intro i o C;have ac:i<l.length:=(List.getElem?_eq_some_iff.1 C).1;have N:o∈l:=IP C;have q1:=List.all_eq_true.1 b1 o N;have q2:=List.all_eq_true.1 b2 i (IA.2 ac);simp only[List.getElem?_toArray,C]at q2;simp only[HR]at q1 q2;obtain⟨q3,q4,q5,q6,q7⟩:=q2;obtain⟨q8,q9⟩:=q5;refine⟨by simpa using q1.1,?_,by simpa using q3,?_,?_,?_,?_,?_⟩
  ·intro d hd;have:=q1.2;rw[hd]at this;simpa using this
  ·rcases (IH _ _).mp q4 with h | h
   ·exact .inl h
   ·exact .inr (Option.isSome_iff_exists.1 h)
  ·intro u hu j oj F hd;have be:j<l.length:=(List.getElem?_eq_some_iff.1 F).1;have:=List.all_eq_true.1 (List.all_eq_true.1 q8 u hu) j (IA.2 be);simp only[F,hd]at this;simpa using this
  ·intro j F;rcases Nat.lt_or_ge j l.length with L | L
   ·have:=List.all_eq_true.1 q9 j (IA.2 L);rw[F]at this;simpa using this
   ·-- an operation is behind none that there isn't
    exfalso;obtain⟨o1,bk,e1,bz,bu,hh⟩:=hJ F;rw[List.getElem?_toArray,C]at bk;cases bk;have ae:=List.all_eq_true.1 q6 e1 bz;have ae:e1.on<i:=by rw[bu]at ae;simpa using ae
    have chain:∀m,m<l.length->∀j,Bef l.toArray m j=true->j<l.length:=by
     intro m;induction m using Nat.strongRecOn with
     | _ m ih =>
      intro cm j' ch;obtain⟨o2,bl,e2,ca,bv,cf⟩:=hJ ch;rw[List.getElem?_toArray]at bl;have r2:=List.all_eq_true.1 b2 m (IA.2 cm);simp only[List.getElem?_toArray,bl]at r2;simp only[HR]at r2;have r6:=List.all_eq_true.1 r2.2.2.2.1 e2 ca;have r6:e2.on<m:=by rw[bv]at r6;simpa using r6
      rcases cf with e3 | ⟨A,B⟩
      ·omega
      ·exact ih e2.on r6 (by omega) j' B
    have:=chain i ac j F;omega
  ·intro e he bw;have:=List.all_eq_true.1 q6 e he;rw[bw]at this;simpa using this
  ·intro D hD hp;have:=List.all_eq_true.1 q7 D hD;rw[hp]at this;simp only[Bool.not_true,Bool.false_or,IH]at this;rcases this with h | h
   ·exact .inl (x3 h)
   ·obtain⟨p,cp,aw⟩:=List.any_eq_true.1 h;simp only[HR]at aw;have e1:=Nat.eq_of_beq_eq_true aw.1;have e2:=x3 aw.2;obtain⟨p1,p2⟩:=p;simp only at e1 e2;rw[<-e1,<-e2];exact .inr cp
 have co:∀i o,l[i]?=some o->∀D∈M,lG l.toArray E i D=true->∃U,UIn l sv fr o U/\((turns o.op=false/\Neu P o U (bE W ob D) (fun s=>s=S5 sv i)) \/
   ∃new x,dJ W i=some (new,x)/\rZ P nt l.toArray o U new (bE W ob D) x (S5 sv i)):=by
  intro i o C D hD hp;have ac:i<l.length:=(List.getElem?_eq_some_iff.1 C).1;have:GP P nt l sv W fr ob i D:=by
   rcases (ai i o C).2.2.2.2.2.2.2 D hD hp with rfl | h
   ·exact h1 i ac
   ·obtain⟨o',I,h⟩:=h2.get _ h;refine⟨o',_,I,fun t s ht=>⟨U3 ht,lH cs (Q6 ht)⟩,h⟩
  obtain⟨o',U,I,hU,h⟩:=this;rw[C]at I;cases I;exact⟨U,hU,h⟩
 have da:∀(j t:Nat),(l.toArray[j]?).bind (fun o=>o.dst)=some t->t<nt:=by
  intro j t ht;cases C:l[j]? with
  | none=>simp[C]at ht
  | some o=>simp[C]at ht;exact (ai j o C).2.1 t ht
 refine wp_region_any hm ?_;have cw:Below w.heap.size w { w with drawn:=w.drawn+1 }:=⟨rfl,rfl,rfl,Nat.le_refl _,fun _ _=>rfl⟩
 have cq:SimF P S (C8 fr) ob G a { w with drawn:=w.drawn+1 }:=(ET.2 hs).ext cw
 have cz : ∀(J:Nat) (k:Array Bool) (φ:Fa) (G:Gh) (a:Act) (w:World),k.size=l.length->unl k l.length=J->Closed l.toArray k->(E.filter fun j=>k.getD j false)∈M->InvC l sv fr k φ->SimF P S φ (bE W ob (E.filter fun j=>k.getD j false)) G a w ->
   wpAny P .any l.toArray (PostOf P S Q) J k a w:=by
  intro J;induction J with
  | zero =>
   intro k φ G a w bo hu hc hM hI T;have K:∀j,j<l.length->k.getD j false=true:=by
    intro j F;unfold unl at hu;have:=(List.countP_eq_zero.1 hu) j (IA.2 F);simpa using this
   have aj:Region.ready .any l.toArray k=[]:=by
    cases hr:Region.ready .any l.toArray k with
    | nil=>rfl
    | cons i r =>
     exfalso;have hi:i∈Region.ready .any l.toArray k:=by rw[hr];exact List.mem_cons_self ..
     have A:=T5 hi;obtain⟨_,o,C,_⟩:=mem_ready.1 hi;rw[List.getElem?_toArray]at C;rw[K i (List.getElem?_eq_some_iff.1 C).1]at A;cases A
   refine⟨aj,?_⟩;have br:(E.filter fun j=>k.getD j false)=E:=by
    rw[List.filter_eq_self];intro e he;exact K e (by simpa using List.all_eq_true.1 b5 e he)
   rw[br]at T;refine⟨fr',bE W ob E,G,hQ,.inl (ET.1 ⟨T.1,fun t s ht=>T.2 t s ?_⟩)⟩;rcases bc t s ht with ⟨j,o,A,B,rfl⟩ | ⟨A,B⟩
   ·exact hI.put j o t A (K j (List.getElem?_eq_some_iff.1 A).1) B
   ·exact hI.old t s B A
  | succ J ih =>
   intro k φ G a w bo hu hc hM hI T;refine⟨fun h0=>?_,fun i hi=>?_⟩
   ·-- some operation is ready
    exfalso;have cb:∃j,j<l.length/\k.getD j false=false:=by
     refine Classical.byContradiction fun cn=>?_;have:unl k l.length=0:=by
      unfold unl;refine List.countP_eq_zero.2 fun j F=>?_;have F:=IA.1 F;cases hb:k.getD j false
      ·exact absurd ⟨j,F,hb⟩ cn
      ·simp
     omega
    have bg:∀n,(∃j,j<n/\j<l.length/\k.getD j false=false)->∃j,j<l.length/\k.getD j false=false/\∀p,p<j->k.getD p false=true:=by
     intro n;induction n with
     | zero=>rintro⟨j,F,_⟩;omega
     | succ n cx =>
      rintro⟨j,F,L,ah⟩;by_cases ao:∃j',j'<n/\j'<l.length/\k.getD j' false=false
      ·exact cx ao
      ·refine⟨j,L,ah,fun p hp=>?_⟩;cases hb:k.getD p false
       ·exact absurd ⟨p,by omega,by omega,hb⟩ ao
       ·rfl
    obtain⟨j,ci,cj⟩:=cb;obtain⟨j,L,ah,cl⟩:=bg (j+1) ⟨j,by omega,ci,cj⟩;have C:l[j]?=some l[j]:=HQ L;have bf:j∈Region.ready .any l.toArray k:=by
     refine mem_ready.2 ⟨?_,l[j],by rw[List.getElem?_toArray];exact C,fun e he hb=>?_⟩
     ·have aa:j<k.size:=by omega
      simp only[Array.getD_eq_getD_getElem?,Array.getElem?_eq_getElem aa]at ah ⊢;simpa using ah
     ·have:=(ai j _ C).2.2.2.2.2.2.1 e (Array.mem_toList_iff.2 he) hb;exact cl _ this
    rw[h0]at bf;cases bf
   ·have Y:=T5 hi;obtain⟨_,o,C,K⟩:=mem_ready.1 hi;rw[List.getElem?_toArray]at C;have ac:i<l.length:=(List.getElem?_eq_some_iff.1 C).1;obtain⟨g1,g2,g3,g4,g5,g6,g7,g8⟩:=ai i o C;obtain⟨D,hD⟩:∃D,D=E.filter fun j=>k.getD j false:=⟨_,rfl⟩
    rw[<-hD]at hM T;have ag:∀e,e∈D↔e∈E/\k.getD e false=true:=fun e=>by rw[hD,List.mem_filter]
    have az:∀j,Bef l.toArray i j=true->k.getD j false=true:=fun j F=>Y7 hc i F (fun o' I e he hb=>by
     rw[List.getElem?_toArray,C]at I;cases I
     exact K e (Array.mem_toList_iff.1 he) hb)
    have bn:lG l.toArray E i D=true:=by
     unfold lG;simp only[HR,Bool.not_eq_true',List.all_eq_true,IH];refine⟨?_,fun j F=>?_,fun j F=>?_⟩
     ·cases hb:N2 D i
      ·rfl
      ·have:=((ag i).1 (oZ.1 hb)).2;rw[Y]at this;cases this
     ·cases hb:Bef l.toArray i j
      ·exact .inl rfl
      ·exact .inr (oZ.2 ((ag j).2 ⟨F,az j hb⟩))
     ·cases hb:Bef l.toArray j i
      ·rfl
      ·have L:=((ag j).1 F).2;have:k.getD i false=true:=Y7 hc j hb (fun o' I e he ap=>hc j o' I L e he ap);rw[Y]at this;cases this
    have ak:∀U,UIn l sv fr o U->Told U φ:=by
     intro U hU t s ht;obtain⟨cv,A⟩:=hU t s ht;rcases A with ⟨j,oj,A,B,rfl⟩ | ⟨A,B⟩
     ·exact hI.put j oj t A (az j (g5 t cv j oj A B)) B
     ·exact hI.old t s B A
    have am:=Q8 hc hi;have aa:(k.setIfInBounds i true).size=l.length:=by simpa using bo
    have bp:unl (k.setIfInBounds i true) l.length=J:=by
     have:=tZ (by omega) Y ac;omega
    have an:∀φ',φ'=(match o.dst with | some d=>P7 φ d (S5 sv i) | none=>φ)->InvC l sv fr (k.setIfInBounds i true) φ':=by
     intro φ' hφ;have R:∀j,(k.setIfInBounds i true).getD j false=true↔j=i\/k.getD j false=true:=by
      intro j;by_cases F:j=i
      ·subst F;simp only[true_or,iff_true];simp[show j<k.size by omega]
      ·rw[Z7 (Ne.symm F)];simp[F]
     cases X:o.dst with
     | none =>
      rw[X]at hφ;have hφ:φ'=φ:=hφ;subst hφ;refine⟨fun j oj d A B V=>?_,fun t s A=>?_,hI.old⟩
      ·rcases (R j).1 B with rfl | B
       ·rw[C]at A;cases A;rw[X]at V;cases V
       ·exact hI.put j oj d A B V
      ·rcases hI.from' t s A with ⟨j,oj,B,V,h6⟩ | B
       ·exact .inl ⟨j,oj,B,(R j).2 (.inr V),h6⟩
       ·exact .inr B
     | some d0 =>
      rw[X]at hφ;have hφ:φ'=P7 φ d0 (S5 sv i):=hφ;subst hφ;refine⟨fun j oj d A B V=>?_,fun t s A=>?_,fun t s A B=>?_⟩
      ·unfold P7;rcases (R j).1 B with rfl | B
       ·rw[C]at A;cases A;rw[X]at V;cases V;rw[A4 rfl]
       ·by_cases ab:d=d0
        ·subst ab;have:=iJ b3 A C V X;subst this;rw[A4 rfl]
        ·rw[A5 ab];exact hI.put j oj d A B V
      ·unfold P7 at A;by_cases ab:t=d0
       ·rw[A4 ab]at A;cases A;exact .inl ⟨i,o,C,(R i).2 (.inl rfl),by rw[ab];exact X,rfl⟩
       ·rw[A5 ab]at A;rcases hI.from' t s A with ⟨j,oj,B,V,h6⟩ | B
        ·exact .inl ⟨j,oj,B,(R j).2 (.inr V),h6⟩
        ·exact .inr B
      ·unfold P7;have:t≠d0:=fun q=>B (by rw[q];exact x4 C X);rw[A5 this];exact hI.old t s A B
    unfold wpOp;simp only[List.getElem?_toArray,C];rw[A4 (by simp[Region.wanted,g1])];obtain⟨U,hU,bm⟩:=co i o C D hM bn;have af:=ak U hU;rcases bm with ⟨ht,bi⟩ | ⟨new,x,hx,hq⟩
    ·refine .inl (J5 (bi S G a w (T.sub fun t s ht=>af t s ht)) ?_);rintro v w' ⟨bq,s,rfl,hv⟩;have bh:N2 E i=false:=by rw[<-g3];exact ht
     have ad:(E.filter fun j=>(k.setIfInBounds i true).getD j false)=D:=by
      rw[hD];apply List.filter_congr;intro j F;have:j≠i:=fun q=>by rw[<-q,oZ.2 F]at bh;cases bh
      exact Z7 (Ne.symm this)
     obtain⟨d0,aq⟩:=g4.resolve_left (by rw[ht];simp);rw[aq];refine ih (k.setIfInBounds i true) (P7 φ d0 (S5 sv i)) G _ w' aa bp am (by rw[ad];exact hM) (an _ (by rw[aq])) ?_;rw[ad];exact (T.ext bq).put (by rw[hn];exact g2 d0 aq) hv
    ·have bd:i∈E:=by rw[hE];exact IQ.2 ⟨_,mU hx,rfl⟩
     have ad:(E.filter fun j=>(k.setIfInBounds i true).getD j false)=iH i D:=by
      rw[hD];exact iI (by omega) Y b4 bd
     have bs:iH i D∈M:=by
      have:=List.all_eq_true.1 (List.all_eq_true.1 b7 D hM) i bd;rw[bn]at this;exact pA (by simpa using this)
     have ce:new=true->iF x.1 φ:=by
      intro bj;have hf:∀(xs:Xe),eX l.toArray sv fr xs=true->(i,new,x)∈xs->H3 x.1 (xP l.toArray i sv fr)=true:=by
       intro xs;induction xs with
       | nil=>intro _ h;simp at h
       | cons y r cy =>
        obtain⟨e',n',x'⟩:=y;intro Z N;simp only[eX,HR,IH]at Z;rcases HZ.1 N with q | q
        ·cases q;rcases Z.1 with q | q
         ·rw[bj]at q;simp at q
         ·exact q
        ·exact cy Z.2 q
      have bb:=hf W ar (mU hx);unfold xP at bb;have bt:∀(a b:Fr),H3 x.1 (a++b)=true->H3 x.1 a=true/\H3 x.1 b=true:=by
       intro a b;induction a with
       | nil=>intro h;exact⟨rfl,h⟩
       | cons y r al =>
        obtain⟨j,s⟩:=y;intro h;simp only[IR,H3,HR]at h ⊢;exact⟨⟨h.1,(al h.2).1⟩,(al h.2).2⟩
      obtain⟨cc,cd⟩:=bt _ _ bb;intro t s ct;rcases hI.from' t s ct with ⟨j,oj,B,V,h6,rfl⟩ | B
      ·have av:∀(a:List Nat),H3 x.1 (a.map fun j=>(j,S5 sv j))=true->j∈a->(S5 sv j).free x.1=true:=by
        intro a;induction a with
        | nil=>intro _ h;simp at h
        | cons y r al =>
         intro Z N;simp only[IC,H3,HR]at Z;rcases HZ.1 N with rfl | q
         ·exact Z.1
         ·exact al Z.2 q
       refine av _ cc (List.mem_filter.2 ⟨IA.2 ?_,?_⟩)
       ·simpa using (List.getElem?_eq_some_iff.1 B).1
       ·have ck:j≠i:=fun q=>by rw[q,Y]at V;cases V
        have bx:Bef l.toArray j i=false:=by
         cases hb:Bef l.toArray j i
         ·rfl
         ·have:k.getD i false=true:=Y7 hc j hb (fun o' I e he ap=>hc j o' I V e he ap);rw[Y]at this;cases this
        rw[W7 ck,bx];rfl
      ·exact oY cd t s B
     obtain⟨_,ax⟩:=hq φ af ce;refine .inl (J5 (ax S G a w hn T) ?_);rintro v w' ⟨φ',db,G',⟨hφ,rfl⟩,cr⟩;refine ih (k.setIfInBounds i true) φ' G' _ w' aa bp am (by rw[ad];exact bs) (an φ' hφ) ?_;rw[ad];refine cr.weakO (pB hx ?_);intro d hd cg y hy;have hk:=List.all_eq_true.1 (List.all_eq_true.1 (List.all_eq_true.1 au D hM) _ (mU hx)) d hd;simp only[IH,Bool.not_eq_true']at hk;rcases hk with (hk | hk) | hk
     ·have:=((ag i).1 (oZ.1 hk)).2;rw[Y]at this;cases this
     ·have:Nat.blt i d=true:=by simpa using cg
      rw[this]at hk;cases hk
     ·rw[hy]at hk;intro q;simp only[Bool.not_eq_true']at hk;rw[q,Nat.beq_refl]at hk;cases hk
 have H:∀j,(Array.replicate l.length false).getD j false=false:=by
  intro j;simp only[Array.getD_eq_getD_getElem?];rcases Nat.lt_or_ge j l.length with h' | h'
  ·simp[h']
  ·simp[h']
 have ba:(E.filter fun j=>(Array.replicate l.length false).getD j false)=[]:=by
  rw[List.filter_eq_nil_iff];intro e _;rw[H];simp
 have cu:unl (Array.replicate l.length false) l.length=l.length:=by
  unfold unl;have:(List.range l.length).countP (fun i=>!(Array.replicate l.length false).getD i false)=(List.range l.length).length:=by
   rw[List.countP_eq_length];intro i _;rw[H];rfl
  rw[this,IW]
 have:=cz l.length (Array.replicate l.length false) (C8 fr) G a _ (by simp) cu (fun j o C hl=>by rw[H]at hl;cases hl) (by rw[ba];exact pA b6) ⟨fun j o d _ B _=>(by rw[H]at B;cases B),fun t s A=>.inr A,fun t s A _=>A⟩ (by rw[ba];exact cq);simpa using this
def iK(P:Program)(nt:Nat)(ops:Array Oper)(K:Fr->Obs->List SV->Xe->Prop):Nat->List Oper->Fr->Obs->List SV->Xe->Prop
 | _,[],fr,ob,sv,xe=>K fr ob sv.reverse xe
 | i,o::l,fr,ob,sv,xe =>
  (turns o.op=false/\∃s d,o.dst=some d/\Neu P o (O3 fr (Z8 o.op)) ob (fun a=>a=s)/\iK P nt ops K (i+1) l ((d,s)::fr) ob (s::sv) xe) \/
  (∃new x s,rZ P nt ops o (O3 fr (Z8 o.op)) new ob x s/\iK P nt ops K (i+1) l (match o.dst with | some d=>(d,s)::fr | none=>fr) (x::ob) (s::sv) ((i,new,x)::xe))
def V2:List Oper->List SV->Fr->Fr
 | o::l,s::sv,fr=>V2 l sv (match o.dst with | some d=>(d,s)::fr | none=>fr)
 | _,_,fr=>fr
theorem eY:∀{l:List Oper} {sv:List SV} {fr:Fr} {t:Nat} {s:SV},sv.length=l.length->C8 (V2 l sv fr) t=some s->(∃j o,l[j]?=some o/\o.dst=some t/\s=S5 sv j)\/(t∉U0 l/\C8 fr t=some s)
 | [],[],fr,t,s,_,h=>.inr ⟨by simp[U0],h⟩
 | [],_::_,_,_,_,hl,_=>by simp at hl
 | _::_,[],_,_,_,hl,_=>by simp at hl
 | o :: l,s0::sv,fr,t,s,hl,h=>by
  unfold V2 at h;rcases eY (by simpa using hl) h with ⟨j,g,e,a,f⟩ | ⟨e,a⟩
  ·exact .inl ⟨j+1,g,by simpa using e,a,by rw[f];simp[S5]⟩
  ·cases c:o.dst with
   | none =>
    rw[c]at a;exact .inr ⟨by unfold U0;rw[c];exact e,a⟩
   | some d =>
    rw[c]at a;have a:C8 ((d,s0)::fr) t=some s:=a;by_cases b:d=t
    ·subst b;rw[C7]at a;cases a;exact .inl ⟨0,o,rfl,c,rfl⟩
    ·rw[C0 b]at a;refine .inr ⟨?_,a⟩;unfold U0;rw[c];intro q;rcases HZ.1 q with q | q
     ·exact b q.symm
     ·exact e q
def GV(P:Program)(nt:Nat)(ops:Array Oper)(o:Oper)(i:Nat)(fr:Fr)(ob:Obs)(s:SV)(b:Xe):Prop :=
 (turns o.op=false/\Neu P o (O3 fr (Z8 o.op)) ob (fun a=>a=s))\/∃new x,dJ b i=some (new,x)/\rZ P nt ops o (O3 fr (Z8 o.op)) new ob x s
def pC(ob:Obs):Xe->Obs
 | []=>ob
 | (_,_,x)::r=>x::pC ob r
theorem uA{a b:Xe}{e:Nat}(h:∀p∈a,p.1≠e):dJ (a++b) e=dJ b e:=by
 induction a with
 | nil=>rfl
 | cons y r f =>
  obtain⟨i,y⟩:=y;have c:i≠e:=h (i,y) (List.mem_cons_self ..);show cond (Nat.beq i e) (some y) (dJ (r++b) e)=_;rw[W7 c];exact f fun p d=>h p (List.mem_cons_of_mem _ d)
theorem iL{ops:Array Oper}{K:Fr->Obs->List SV->Xe->Prop}{ob0:Obs}:∀{l:List Oper} {i:Nat} {fr:Fr} {ob:Obs} {sv:List SV} {u:Xe},iK P nt ops K i l fr ob sv u->ob=pC ob0 u->(∀p∈u,p.1<i) ->
  ∃c g,c.length=l.length/\(∀p∈g,i<=p.1/\p.1<i+l.length)/\desc (g.map (·.1))=true/\K (V2 l c fr) (pC ob0 (g++u)) (sv.reverse++c) (g++u) /\
   ∀j o,l[j]?=some o->∃B w,g=B++w/\(∀p∈w,p.1<i+j)/\(∀p∈B,i+j<=p.1)/\GV P nt ops o (i+j) (V2 (l.take j) (c.take j) fr) (pC ob0 (w++u)) (S5 c j) g
 | [],i,fr,ob,sv,u,h,hob,_=>by
  refine⟨[],[],rfl,by simp,rfl,?_,fun j o Y=>by simp at Y⟩;rw[JC,JA,<-hob];exact h
 | o :: l,i,fr,ob,sv,u,h,hob,E=>by
  rcases h with ⟨Z,s,d,W,X,R⟩ | ⟨new,x,s,hq,R⟩
  ·obtain⟨c,g,J,v,L,M,N⟩:=iL (ob0:=ob0) R hob (fun p f=>by have:=E p f;omega);have D:V2 (o::l) (s::c) fr=V2 l c ((d,s)::fr):=by
    show V2 l c (match o.dst with | some d=>(d,s)::fr | none=>fr)=_;rw[W]
   refine⟨s::c,g,by simp[J],fun p f=>by have:=v p f;simp only[HU];omega,L,?_,?_⟩
   ·rw[D];simpa using M
   ·intro j U m;cases j with
    | zero =>
     simp at m;subst m;refine⟨g,[],by simp,by simp,fun p f=>by have:=v p f;omega,?_⟩;rw[JA,<-hob];exact .inl ⟨Z,X⟩
    | succ j =>
     obtain⟨B,w,F,G,H,C⟩:=N j U (by simpa using m);refine⟨B,w,F,fun p f=>by have:=G p f;omega,fun p f=>by have:=H p f;omega,?_⟩;have I:V2 ((o::l).take (j+1)) ((s::c).take (j+1)) fr=V2 (l.take j) (c.take j) ((d,s)::fr):=by
      show V2 (l.take j) (c.take j) (match o.dst with | some d=>(d,s)::fr | none=>fr)=_;rw[W]
     rw[I,show i+(j+1)=i+1+j by omega,show S5 (s::c) (j+1)=S5 c j by simp[S5]];exact C
  ·obtain⟨c,g,J,v,L,M,N⟩:=iL (ob0:=ob0) R (by rw[hob];rfl) (fun p f=>by
    rcases HZ.1 f with rfl | f
    ·exact Nat.lt_succ_self _
    ·have:=E p f;omega)
   refine⟨s::c,g++[(i,new,x)],by simp[J],?_,?_,?_,?_⟩
   ·intro p f;rcases HV.1 f with f | f
    ·have:=v p f;simp only[HU];omega
    ·simp at f;subst f;simp only[HU];omega
   ·have Q:∀(a:List Nat) (b:Nat),desc a=true->(∀x∈a,b<x)->desc (a++[b])=true:=by
     intro a b;induction a with
     | nil=>intro _ _;rfl
     | cons y r T =>
      intro O V;simp only[desc,HR]at O;simp only[IR,desc,HR];refine⟨List.all_eq_true.2 fun z A=>?_,T O.2 fun x E=>V x (List.mem_cons_of_mem _ E)⟩;rcases HV.1 A with A | A
      ·exact List.all_eq_true.1 O.1 z A
      ·simp at A;subst A;simpa using V y (List.mem_cons_self ..)
    rw[JI];refine Q _ i L fun y hy=>?_;obtain⟨p,f,rfl⟩:=IQ.1 hy;have:=v p f;omega
   ·have e:V2 (o::l) (s::c) fr=V2 l c (match o.dst with | some d=>(d,s)::fr | none=>fr):=rfl;rw[e];simpa using M
   ·intro j U m;cases j with
    | zero =>
     simp at m;subst m;refine⟨g++[(i,new,x)],[],by simp,by simp,?_,?_⟩
     ·intro p f;rcases HV.1 f with f | f
      ·have:=v p f;omega
      ·simp at f;subst f;simp
     ·rw[JA,<-hob];refine .inr ⟨new,x,?_,hq⟩;rw[uA (fun p f=>by have:=v p f;omega)];show cond (Nat.beq i (i+0)) _ _=_;rw[Nat.add_zero,Nat.beq_refl];rfl
    | succ j =>
     obtain⟨B,w,F,G,H,C⟩:=N j U (by simpa using m);refine⟨B,w++[(i,new,x)],by rw[F];simp,?_,fun p f=>by have:=H p f;omega,?_⟩
     ·intro p f;rcases HV.1 f with f | f
      ·have:=G p f;omega
      ·simp at f;subst f;simp
     ·have I:V2 ((o::l).take (j+1)) ((s::c).take (j+1)) fr=V2 (l.take j) (c.take j) (match o.dst with | some d=>(d,s)::fr | none=>fr):=rfl;rw[I,show i+(j+1)=i+1+j by omega,show S5 (s::c) (j+1)=S5 c j by simp[S5],IL];rcases C with C | ⟨n',x',e6,e7⟩
      ·exact .inl C
      ·refine .inr ⟨n',x',?_,e7⟩;have S:∀(a b:Xe) (e:Nat) y,dJ a e=some y->dJ (a++b) e=some y:=by
        intro a b e y;induction a with
        | nil=>intro h;cases h
        | cons z r T =>
         obtain⟨q,z⟩:=z;intro h;show cond (Nat.beq q e) (some z) (dJ (r++b) e)=_;unfold dJ at h;cases hb:Nat.beq q e
         ·rw[hb]at h;exact T h
         ·rw[hb]at h;exact h
       exact S _ _ _ _ e6
def BK(P:Program)(nt:Nat)(l:List Oper)(M:List (List Nat))(d:List (Nat×List Nat))(E:List Nat)(b:Fr)(ob0:Obs)(Q:Post)(fr:Fr)(ob:Obs)(sv:List SV)(c:Xe):Prop :=
 (bF (c.map (·.1)) E&&(eX l.toArray sv b c&&sA c M))=true/\Ob1s P nt l sv c b ob0 d/\Q .normal fr ob
theorem pD{ob:Obs}:∀{a:Xe},desc (a.map fun p=>p.1)=true->bE a ob (a.map fun p=>p.1)=pC ob a:=by
 have g:∀(b:Xe) (a:Xe),(∀p∈a,dJ b p.1=some p.2)->bE b ob (a.map (·.1))=pC ob a:=by
  intro b a;induction a with
  | nil=>intro _;rfl
  | cons y r f =>
   intro h;obtain⟨i,n,x⟩:=y;have e:=h (i,n,x) (List.mem_cons_self ..);have e:dJ b i=some (n,x):=e;show (match dJ b i with | some x=>x.2::bE b ob (r.map (fun p:Nat×Bool×(Nat×Ob)=>p.1)) | none=>bE b ob (r.map (fun p:Nat×Bool×(Nat×Ob)=>p.1)))=_;rw[e,f fun p c=>h p (List.mem_cons_of_mem _ c)];rfl
 intro a h;refine g a a ?_;have d:∀(a:Xe),desc (a.map (·.1))=true->∀p∈a,dJ a p.1=some p.2:=by
  intro a;induction a with
  | nil=>intro _ p c;simp at c
  | cons y r f =>
   intro h p c;obtain⟨i,y⟩:=y;simp only[IC,desc,HR]at h;rcases HZ.1 c with rfl | c
   ·show cond (Nat.beq i i) (some y) _=_;rw[Nat.beq_refl];rfl
   ·have j:p.1<i:=by simpa using List.all_eq_true.1 h.1 p.1 (IQ.2 ⟨p,c,rfl⟩)
    show cond (Nat.beq i p.1) (some y) (dJ r p.1)=_;rw[W7 (by omega)];exact f h.2 p c
 exact d a h
theorem AD{ob:Obs}{d c:Xe}{j:Nat}(n:desc ((d++c).map (·.1))=true)(ha:∀p∈d,j<=p.1)(hb:∀p∈c,p.1<j):bE (d++c) ob (rY ((d++c).map (·.1)) j)=pC ob c:=by
 have e:rY ((d++c).map (·.1)) j=c.map (·.1):=by
  unfold rY;rw[JI,List.filter_append,List.filter_eq_nil_iff.2,JA,List.filter_eq_self.2]
  ·intro y k;obtain⟨p,f,rfl⟩:=IQ.1 k;simpa using hb p f
  ·intro y k;obtain⟨p,f,rfl⟩:=IQ.1 k;have:=ha p f;simp;omega
 rw[e];have g:desc (c.map (·.1))=true:=by
  have:∀(a b:List Nat),desc (a++b)=true->desc b=true:=by
   intro a b;induction a with
   | nil=>exact fun h=>h
   | cons y r l=>intro h;simp only[IR,desc,HR]at h;exact l h.2
  rw[JI]at n;exact this _ _ n
 rw[<-pD (ob:=ob) g];have t:∀(D:List Nat),(∀e∈D,e<j)->bE (d++c) ob D=bE c ob D:=by
  intro D;induction D with
  | nil=>intro _;rfl
  | cons e D l =>
   intro h;have q:dJ (d++c) e=dJ c e:=uA fun p f=>by
    have:=ha p f;have:=h e (List.mem_cons_self ..);omega
   show (match dJ (d++c) e with | some x=>x.2::bE (d++c) ob D | none=>bE (d++c) ob D)=(match dJ c e with | some x=>x.2::bE c ob D | none=>bE c ob D)
   rw[q,l fun o i=>h o (List.mem_cons_of_mem _ i)]
 refine t _ fun e s=>?_;obtain⟨p,f,rfl⟩:=IQ.1 s;exact hb p f
theorem dK{id:Nat}{l:List Oper}{fr:Fr}{ob:Obs}{Q:Post}(E:List Nat)(M:List (List Nat))(k:List (Nat×List Nat))(hm:P.follows .mixedOrders=true)
  (W:mT nt l E M k=true) (h:iK P nt l.toArray (BK P nt l M k E fr ob Q) 0 l fr ob [] []):WpC P nt (.region id l.toArray true) fr ob Q:=by
 obtain⟨sv,R,q,z,G,U,h5⟩:=iL (ob0:=ob) h rfl (fun p hp=>by simp at hp);rw[JC,List.reverse_nil,JA]at U;obtain⟨A,w,hQ⟩:=U;simp only[HR]at A;have hE:=x3 A.1;have f:=W;unfold mT at f;simp only[HR]at f;obtain⟨⟨⟨⟨⟨⟨b1,b2⟩,b3⟩,b4⟩,b5⟩,b6⟩,b7⟩:=f;refine kJ sv R M k hm q (by rw[hE];exact W) ?_ A.2.1 A.2.2 w (fr':=V2 l sv fr) (fun t s B=>eY q B) (by rw[pD G];exact hQ);intro i X;have K:l[i]?=some l[i]:=HQ X;obtain⟨xa,xb,e1,S,T,C⟩:=h5 i _ K;rw[Nat.zero_add]at S T C;rw[JC]at C;have L:bE R ob (rY (R.map (·.1)) i)=pC ob xb:=by
  rw[e1]at G ⊢;exact AD G T S
 have hU:UIn l sv fr l[i] (O3 (V2 (l.take i) (sv.take i) fr) (Z8 l[i].op)):=by
  intro t s B;have y:=U3 B;refine⟨y,?_⟩;have N:=List.all_eq_true.1 b2 i (IA.2 X);simp only[List.getElem?_toArray,K]at N;simp only[HR]at N;obtain⟨q3,q4,q5,q6,q7⟩:=N;rcases eY (by rw[IF,IF];omega) (Q6 B) with ⟨j,c,h6,h7,u⟩ | ⟨h6,h7⟩
  ·have Y:j<i:=by
    have:=(List.getElem?_eq_some_iff.1 h6).1;rw[IF]at this;omega
   rw[ID Y]at h6;refine .inl ⟨j,c,h6,h7,?_⟩;rw[u];unfold S5;rw[HY,HY,ID Y]
  ·refine .inr ⟨?_,h7⟩;intro J;have I:∀(m:List Oper) (t:Nat),t∈U0 m->∃(j:Nat) (c:Oper),m[j]?=some c/\c.dst=some t:=by
    intro m t;induction m with
    | nil=>intro h;simp[U0]at h
    | cons o m Z =>
     intro h;unfold U0 at h;cases H:o.dst with
     | none=>rw[H]at h;obtain⟨j,c,q,z⟩:=Z h;exact⟨j+1,c,by simpa using q,z⟩
     | some d =>
      rw[H]at h;rcases HZ.1 h with rfl | h
      ·exact⟨0,o,rfl,H⟩
      ·obtain⟨j,c,q,z⟩:=Z h;exact⟨j+1,c,by simpa using q,z⟩
   obtain⟨j,c,u,V⟩:=I l t J;have v:j<l.length:=(List.getElem?_eq_some_iff.1 u).1;have a:=List.all_eq_true.1 (List.all_eq_true.1 q5.1 t y) j (IA.2 v);simp only[u,V]at a;have a:Bef l.toArray i j=true:=by simpa using a
   have b:=List.all_eq_true.1 q5.2 j (IA.2 v);rw[a]at b;have b:j<i:=by simpa using b
   exact h6 (x4 (l:=l.take i) (j:=j) (by rw[ID b];exact u) V)
 refine⟨l[i],_,K,hU,?_⟩;rw[L];rcases C with ⟨D,F⟩ | ⟨n,x,D,F⟩
 ·exact .inl ⟨D,F⟩
 ·exact .inr ⟨n,x,D,F⟩
theorem X4{ops:Array Oper}{K:Fr->Obs->List SV->Xe->Prop}{i d:Nat}{l:List Oper}{fr:Fr}{ob:Obs}{sv:List SV}{b:Xe}{a:Op}{ty:TypeId}{pos:String}{af:Array Edge}{gd:Option (Nat×Bool)}{s:SV}(c:turns a=false)
  (h:Neu P ⟨some d,a,ty,pos,af,gd⟩ (O3 fr (Z8 a)) ob (fun e=>e=s)) (k:iK P nt ops K (i+1) l ((d,s)::fr) ob (s::sv) b):iK P nt ops K i (⟨some d,a,ty,pos,af,gd⟩::l) fr ob sv b :=
 .inl ⟨c,s,d,rfl,h,k⟩
theorem uB{ops:Array Oper}{K:Fr->Obs->List SV->Xe->Prop}{i d:Nat}{l:List Oper}{fr:Fr}{ob:Obs}{sv:List SV}{g:Xe}{ty:TypeId}{pos:String}{af:Array Edge}(k:Nat){e:TypeId}{z:Value}[hz:TyZero P e z](h:L2 k ob=true)(j:Nat.blt d nt=true)
  (m:iK P nt ops K (i+1) l ((d,.s (.one (.ref k 0)))::fr) ((k,.box (z.cells.toList.map fun c=>.p (.v c)))::ob) ((.s (.one (.ref k 0)))::sv) ((i,true,(k,.box (z.cells.toList.map fun c=>.p (.v c))))::g)) :
  iK P nt ops K i (⟨some d,.alloc e,ty,pos,af,none⟩::l) fr ob sv g :=
 .inr ⟨true,_,_,AB h j,m⟩
theorem uC{ops:Array Oper}{K:Fr->Obs->List SV->Xe->Prop}{i:Nat}{l:List Oper}{fr:Fr}{ob:Obs}{sv:List SV}{c:Xe}{b:Op}{ty:TypeId}{pos:String}{af:Array Edge}{x:Nat×Ob}(h:zZ P ⟨none,b,ty,pos,af,none⟩ (O3 fr (Z8 b)) ob (x::ob))
  (d:iK P nt ops K (i+1) l fr (x::ob) (.any::sv) ((i,false,x)::c)):iK P nt ops K i (⟨none,b,ty,pos,af,none⟩::l) fr ob sv c :=
 .inr ⟨false,x,.any,AC h,d⟩
theorem BL{ops:Array Oper}{l:List Oper}{M:List (List Nat)}{d:List (Nat×List Nat)}{E:List Nat}{b:Fr}{c:Obs}{Q:Post}{i:Nat}{fr:Fr}{ob:Obs}{sv:List SV}{e:Xe}
  (h:(bF (e.map (·.1)) E&&(eX l.toArray sv.reverse b e&&sA e M))=true) (f:Ob1s P nt l sv.reverse e b c d) (g:Q .normal fr ob):iK P nt ops (BK P nt l M d E b c Q) i [] fr ob sv e:=⟨h,f,g⟩
theorem BM{l:List Oper}{sv:List SV}{a:Xe}{fr:Fr}{ob:Obs}:Ob1s P nt l sv a fr ob []:=trivial
theorem X5{l:List Oper}{sv:List SV}{a:Xe}{fr:Fr}{ob:Obs}{i:Nat}{D:List Nat}{r:List (Nat×List Nat)}{o:Oper}(b:l[i]?=some o)(c:turns o.op=false)(h:Neu P o (O3 (dI l sv fr) (Z8 o.op)) (bE a ob D) (fun d=>d=S5 sv i))
  (k:Ob1s P nt l sv a fr ob r):Ob1s P nt l sv a fr ob ((i,D)::r):=⟨⟨o,b,.inl ⟨c,h⟩⟩,k⟩
section
variable {P:Program}{dst:Option Tmp}{ty:TypeId}{pos:String}{af:Array Edge}{gd:Option (Nat×Bool)}{fr:Fr}{ob:Obs}
def cD(fr:Fr):List Operand->Option (List (Nat×Nat))
 | []=>some []
 | x::r=>match opv fr x with
  | some (.s (.one (.ref k o)))=>(cD fr r).map ((k,o)::·)
  | _=>none
theorem cE{S:Ctx}{G:Gh}{a:Act}{w:World}(h:Sim P S fr ob G a w):∀(c:List Operand) (ps:List (Nat×Nat)),cD fr c=some ps->All2 (fM G) ps (c.map a.eval)
 | [],ps,h1=>by simp[cD]at h1;subst h1;trivial
 | x::r,ps,h1=>by
  unfold cD at h1;split at h1
  ·rename_i k o d;cases b:cD fr r with
   | none=>rw[b]at h1;simp at h1
   | some e =>
    rw[b]at h1;simp at h1;subst h1;exact⟨F1 h d,cE h r e b⟩
  ·cases h1
theorem sB{f:FuncId}{first b:List Operand}{g d:List (Nat×Nat)}(i:cD fr first=some g)(j:cD fr b=some d) :
  Neu P ⟨dst,.makeFunc (.func f) first.toArray b.toArray,ty,pos,af,gd⟩ fr ob (fun p=>p=.s (.one (.clo f g d))) :=
 D4 fun S G a w h=>by
  refine⟨.func (.func f) (first.map a.eval).toArray (b.map a.eval).toArray,?_,_,_,rfl,cE h first g i,cE h b d j⟩;simp[execOp,Instr.makeFunc]
abbrev xQ(p:Nat×Nat):S1:=.one (.ref p.1 p.2)
theorem iM{b:Rd}{G:Gh}:∀{l:List (Nat×Nat)} {a:List Value},All2 (fM G) l a->All2 (S1.rep b G) (l.map xQ) a
 | [],[],_=>trivial
 | [],_::_,h=>h.elim
 | _::_,[],h=>h.elim
 | _::l,_::a,h=>⟨h.1,iM h.2⟩
section
variable {nt:Nat}{ops:Array Oper}{rest:List Oper}{Q:Post}{d:Nat}
theorem CI{f:FuncId}{g:Operand}{q:List Operand}{J:Array TypeId}{ty:TypeId}{pos:String}{af:Array Edge}{Z Y:List (Nat×Nat)}{args:List S1}{N:List Nat}{m:List S1->Obs->Prop}
  (hf:Met P f (Z.map xQ++args++Y.map xQ) (dD fr) ob N m) (hg:opv fr g=some (.s (.one (.clo f Z Y)))) (ha:dE fr q=some args) (hc:q.all F8=true) (hd:Nat.blt d nt=true)
  (kk:∀rs ob',m rs ob'->WpL P nt ops rest ((d,rV rs)::C5 N fr) ob' Q):WpL P nt ops (⟨some d,.call ⟨.value g,q.toArray,J⟩,ty,pos,af,none⟩::rest) fr ob Q:=by
 intro S G a w hn h;obtain⟨O,R,U,W,X⟩:=F1 h hg;have H:All2 (S1.rep (D1 (Mut S ob G) w) G) (Z.map xQ++args++Y.map xQ) (O++q.map a.eval++R):=((iM W).append (Y4 h q args ha hc)).append (iM X);obtain⟨I,C⟩:∃I:Nat->Value,I=fun i=>S.sl a (i-1000000):=⟨_,rfl⟩
 let S':Ctx:={ S with gv:=I }
 have E:High (dD fr):=fun i s L=>(Y9 fr i s L).1;have b:∀i s,C8 (dD fr) i=some s->s.rep (D1 (Mut S' ob G) w) G (S'.sl a i):=by
  intro i s L;obtain⟨D,T⟩:=Y9 fr i s L;rw[Ctx.sl_ge D];show s.rep _ _ (I i);have e:=congrFun C i;rw[e];exact h.facts (i-1000000) s T
 have hs:Sim P S' (dD fr) ob G a w:={ h with facts:=b }
 have x:=hf.2 E S' G a w _ hs H;refine wpList_plain rfl fun K hK=>J5 (K:=fun v w'=>∃rs ob' G',m rs ob'/\T3 (D1 (Mut S' ob' G') w') G' rs v/\Sim P S' (C5 N (dD fr)) ob' G' a w') ?_ ?_
 ·have he:(execOp a.eval ⟨some d,.call ⟨.value g,q.toArray,J⟩,ty,pos,af,none⟩).run P w=.ok (.enter f (O++q.map a.eval++R).toArray) w:=by
   have:=M1 (P:=P) (f:=f) (args:=(O++q.map a.eval++R).toArray) (w:=w) hf.1;simp only[execOp,resolve,U,Deferred.ofValue,Sem.run_bind,Sem.run_pure,Result.andThen_ok,invoke];rw[show O.toArray++Array.map a.eval q.toArray++R.toArray=(O++q.map a.eval++R).toArray by simp];exact this
  unfold Does;rw[he];refine x.mono ?_;rintro e w' ⟨v,rs,ob',G',rfl,F,j,B⟩;exact⟨v,rfl,rs,ob',G',F,j,B⟩
 ·rintro v w' ⟨rs,ob',G',hp,j,B⟩;have V:d<S.nt:=by rw[hn];simpa using hd
  have z:∀i s,C8 (C5 N fr) i=some s->s.rep (D1 (Mut S ob' G') w') G' (S.sl a i):=by
   intro i s L;have D:=B.facts (i+1000000) s (by rw[Z6];exact mQ L);have T:1000000<=i+1000000:=Nat.le_add_left _ _;rw[Ctx.sl_ge T]at D;have D:s.rep (D1 (Mut S ob' G') w') G' (I (i+1000000)):=D;have e:=congrFun C (i+1000000);simp only[Nat.add_sub_cancel]at e;rw[e]at D;exact D
  have M:Sim P S (C5 N fr) ob' G' a w':={ B with facts:=z }
  exact hK _ _ (kk rs ob' hp S G' _ w' hn (M.put V j))
end
def J6{κ:Type}[DecidableEq κ]:List (κ×Cell)->κ->Option Cell
 | [],_=>none
 | (k,c)::r,a=>if k=a then some c else J6 r a
class TyMap (P:Program) (t:TypeId) (kt:outParam TypeId) (kd:outParam TypeDesc) (z:outParam Value):Prop where
 out:∃et,P.underlying t=some (.map kt et)/\P.underlying kt=some kd/\(P.info? et).bind (·.zero)=some z/\z.oneCell'=true
theorem vE(k:Nat)(κ:Type)(i:κ->Value){t:TypeId}(g:(H3 k fr&&L2 k ob)=true) :
  EffV P ⟨dst,.makeMap t none,ty,pos,af,gd⟩ fr ob (.s (.one (.mut k))) fr ((k,.map κ i [])::ob):=by
 simp only[HR]at g;obtain⟨j,q⟩:=g;obtain⟨r,x,z⟩:=T2 q;intro S G a w h;refine F2 (w':=w.alloc (.map #[] 0)) (v:=.map (some w.heap.size)) ?_ ?_
 ·simp only[execOp,Option.map_none];exact I6 rfl
 ·have d:Below w.heap.size w (w.alloc (.map #[] 0)):=(Below.refl _ _).alloc (Nat.le_refl _) _;have A:∀b,blk (.map (some w.heap.size))=some b->w.heap.size<=b:=by intro b hb;simp[blk]at hb;omega
  have f:=h.new (o:=.map κ i []) z x d A ⟨w.heap.size,#[],0,rfl,heap_alloc_new w _,trivial⟩;rw[T1 j,r]at f;exact⟨upd G k (.map (some w.heap.size)),f,(F7 _ _ _).symm,rfl⟩
theorem eZ{κ:Type}[DecidableEq κ]{q:κ->Value}{w:TypeDesc}(d:∀a,MapKept.IsKey w (q a))(o:∀a b,q a=q b->a=b){B:Rd}(a:κ):∀(f:List (κ×Cell)) (t:List MapEntry) (i:Nat),
  All2 (fun (A:κ×Cell) (e:MapEntry)=>e.key=q A.1/\A.2.rep B e.val) f t ->
  (J6 f a=none/\Instr.findNow w (q a) t i=some none)\/∃c j v,J6 f a=some c/\Instr.findNow w (q a) t i=some (some (j,v))/\c.rep B v
 | [],[],_,_=>.inl ⟨rfl,rfl⟩
 | [],_::_,_,h=>h.elim
 | _::_,[],_,h=>h.elim
 | (k,c)::f,e::t,i,h=>by
  obtain⟨⟨C,D⟩,E⟩:=h;obtain⟨r,F,g⟩:=MapKept.sameNow_of_keys (d a) (d k);have p:Instr.sameNow w (q a) e.key=some r:=by rw[C];exact F
  by_cases u:k=a
  ·subst u;have:r=true:=g.2 rfl;subst this;exact .inr ⟨c,i,e.val,by simp[J6],by simp[Instr.findNow,p],D⟩
  ·have:r=false:=by
    cases r
    ·rfl
    ·exact absurd (o _ _ (g.1 rfl)).symm u
   subst this;rcases eZ d o a f t (i+1) E with ⟨x,z⟩ | ⟨c',j,v,x,z,h6⟩
   ·exact .inl ⟨by simp[J6,u,x],by simp[Instr.findNow,p,z]⟩
   ·exact .inr ⟨c',j,v,by simp[J6,u,x],by simp[Instr.findNow,p,z],h6⟩
theorem xR{x y:Operand}{t O:TypeId}{H:TypeDesc}{z:Value}{k:Nat}{κ:Type}[DecidableEq κ]{i:κ->Value}{f:List (κ×Cell)}(a0:κ){r:Option Cell}[ht:TyMap P t O H z](N:opv fr x=some (.s (.one (.mut k))))(L:C2 ob k=some (.map κ i f))
  (F:opv fr y=some (H5 (i a0))) (d:∀a,MapKept.IsKey H (i a)) (g:∀a b,i a=i b->a=b) (M:J6 f a0=r) :
  Neu P ⟨dst,.lookup t x y true,ty,pos,af,gd⟩ fr ob (fun Q=>Q=.tup [.one (.p (r.getD (.v z))),.one (.p (.v (.bool r.isSome)))]) :=
 D4 fun S G a w h=>by
  obtain⟨U,I,q,R,T⟩:=ht.out;obtain⟨D,_⟩:=F1 h N;obtain⟨b,J,A,K,E,ha⟩:=h.obs k _ L;rw[K]at D;subst M;rcases eZ d g a0 f J.toList 0 ha with ⟨B,C⟩ | ⟨c,j,v,B,C,h6⟩
  ·refine⟨.tuple #[z,.bool false],?_,[z,.bool false],rfl,?_⟩
   ·simp only[execOp,D,E8 h F];refine I6 ?_;simp only[Instr.lookup,Sem.run_bind,run_underlying I,Result.andThen_ok,MapKept.run_getObj_map E,Sem.run_pure,MapKept.run_checkKey q (d a0),MapKept.run_findKey q C,K1 R];rfl
   ·rw[B];exact⟨⟨rfl,T⟩,⟨rfl,rfl⟩,trivial⟩
  ·refine⟨.tuple #[v,.bool true],?_,[v,.bool true],rfl,?_⟩
   ·simp only[execOp,D,E8 h F];refine I6 ?_;simp only[Instr.lookup,Sem.run_bind,run_underlying I,Result.andThen_ok,MapKept.run_getObj_map E,Sem.run_pure,MapKept.run_checkKey q (d a0),MapKept.run_findKey q C];rfl
   ·rw[B];exact⟨h6,⟨rfl,rfl⟩,trivial⟩
theorem xS{x y v:Operand}{t kt:TypeId}{K:TypeDesc}{z:Value}{k:Nat}{κ:Type}[DecidableEq κ]{g:κ->Value}{l:List (κ×Cell)}(a0:κ){c:Cell}[ht:TyMap P t kt K z](Z:opv fr x=some (.s (.one (.mut k))))(L:C2 ob k=some (.map κ g l))
  (hy:opv fr y=some (H5 (g a0))) (Y:opv fr v=some (.s (.one (.p c)))) (T:F8 v=true) (q:∀a,MapKept.IsKey K (g a)) (B:∀a b,g a=g b->a=b) (X:J6 l a0=none) :
  Eff P ⟨none,.mapUpdate t x y v,ty,pos,af,gd⟩ fr ob fr ((k,.map κ g (l++[(a0,c)]))::ob):=by
 intro S G a w h;obtain⟨et,u1,N,u3,u4⟩:=ht.out;obtain⟨M,_⟩:=F1 h Z;obtain⟨b,D,f,F,H,ha⟩:=h.obs k _ L;rw[F]at M;have J:c.rep (D1 (Mut S ob G) w) (a.eval v):=K0 h Y T;obtain⟨E,R⟩:=MapKept.heap_set (o':=.map (D.push { key:=g a0,val:=a.eval v,born:=f }) (f+1)) H;have W:Instr.findNow K (g a0) D.toList 0=some none:=by
  rcases eZ q B a0 l D.toList 0 ha with ⟨_,E⟩ | ⟨c,j,v,h4,_,_⟩
  ·exact E
  ·rw[X]at h4;cases h4
 have V:(execOp a.eval ⟨none,.mapUpdate t x y v,ty,pos,af,gd⟩).run P w=.ok .skip { w with heap:=w.heap.setIfInBounds b (.map (D.push { key:=g a0,val:=a.eval v,born:=f }) (f+1)) }:=by
  simp only[execOp,M,E8 h hy];simp only[Instr.mapUpdate,Sem.run_bind,run_underlying u1,Result.andThen_ok,MapKept.run_getObj_map H,MapKept.run_checkKey N (q a0),MapKept.run_findKey N W,MapKept.run_setObj_map _ H];rfl
 unfold Does;rw[V];have A:blk (G k)=some b:=by rw[F];rfl
 refine⟨G,h.write L A (fun i=>⟨A,trivial⟩) (fun i=>⟨A,trivial⟩) rfl rfl rfl (by simp) (fun j _ I=>R j I) ?_⟩;intro rd C;refine⟨b,_,_,F,E,?_⟩;rw[Array.toList_push];exact (ha.mono fun _ _ ⟨O,Q⟩=>⟨O,Cell.rep_mono C _ _ Q⟩).append ⟨⟨rfl,Cell.rep_mono C _ _ J⟩,trivial⟩
abbrev mV(s:List UInt8):Value:=.string ⟨s.toArray⟩
theorem pE(a:List UInt8):MapKept.IsKey .string (mV a):=trivial
theorem pF(a b:List UInt8)(h:mV a=mV b):a=b:=by
 simp only[mV,Value.string.injEq,ByteArray.mk.injEq]at h;simpa using congrArg Array.toList h
end
abbrev Sv:=List (Nat×SV)
def lI:Sv->Nat->Option SV
 | [],_=>none
 | (i,s)::r,j=>cond (Nat.beq i j) (some s) (lI r j)
abbrev Ed:=List (Nat×(List Nat×List Nat))
def CJ:Ed->Nat->List Nat×List Nat
 | [],_=>([],[])
 | (i,x)::r,e=>cond (Nat.beq i e) x (CJ r e)
def uD(ks:List Nat)(fr:Fr):Fr:=fr.filter fun p=>!(N2 ks p.1)
theorem sC{ks:List Nat}:∀{fr:Fr} {t:Nat} {s:SV},C8 (uD ks fr) t=some s↔t∉ks/\C8 fr t=some s
 | [],t,s=>by simp[uD,C8]
 | (i,x)::r,t,s=>by
  have c:=sC (ks:=ks) (fr:=r) (t:=t) (s:=s);unfold uD at c ⊢;cases b:N2 ks i
  ·rw[List.filter_cons_of_pos (by simp[b])];by_cases a:i=t
   ·subst a;rw[C7,C7];have:i∉ks:=fun q=>by rw[oZ.2 q]at b;cases b
    simp[this]
   ·rw[C0 a,C0 a];exact c
  ·rw[List.filter_cons_of_neg (by simp[b])];rw[c];by_cases a:i=t
   ·subst a;have:i∈ks:=oZ.1 b;simp[this]
   ·rw[C0 a]
def UIn2(l:List Oper)(a:Sv)(fr:Fr)(o:Oper)(U:Fr):Prop :=
 ∀t s,C8 U t=some s->t∈Z8 o.op/\((∃j b,l[j]?=some b/\b.dst=some t/\lI a j=some s)\/(t∉U0 l/\C8 fr t=some s))
structure InvK (l:List Oper) (E:List Nat) (svs:Sv) (ed:Ed) (fr:Fr) (listed:Array Bool) (frc:Fr):Prop where
 put:∀j o d s,l[j]?=some o->listed.getD j false=true->o.dst=some d->lI svs j=some s->(∀e∈E,listed.getD e false=true->d∉(CJ ed e).2)->C8 frc d=some s
 from':∀t s,C8 frc t=some s->(∃j o,l[j]?=some o/\listed.getD j false=true/\o.dst=some t/\lI svs j=some s)\/C8 fr t=some s
 old:∀t s,C8 fr t=some s->t∉U0 l->(∀e∈E,listed.getD e false=true->t∉(CJ ed e).2)->C8 frc t=some s
theorem UIn2.mono{l:List Oper}{b a:Sv}{fr:Fr}{o:Oper}{U:Fr}(h:UIn2 l b fr o U)(k:∀j x,lI b j=some x->lI a j=some x):UIn2 l a fr o U:=fun t s m=>by
 obtain⟨d,c⟩:=h t s m;refine⟨d,?_⟩;rcases c with ⟨j,o',e,f,g⟩ | c
 ·exact .inl ⟨j,o',e,f,k j s g⟩
 ·exact .inr c
def uE(L:Obs):List Nat:=L.map (·.1)
theorem o6{L c rest:Obs}(h:ObIn c L)(g:∀j x,N2 (uE L) j=false->C2 rest j=some x->C2 c j=some x):∀j x,C2 (L++rest) j=some x->C2 c j=some x:=by
 have e:∀(L:Obs) (j:Nat) (x:Ob),C2 (L++rest) j=some x->(C2 L j=some x)\/(N2 (uE L) j=false/\C2 rest j=some x):=by
  intro L;induction L with
  | nil=>intro j x a;exact .inr ⟨rfl,a⟩
  | cons p r l =>
   obtain⟨k,o⟩:=p;intro j x a;have a:C2 ((k,o)::(r++rest)) j=some x:=a;by_cases d:k=j
   ·subst d;rw[E3]at a;left;rw[E3];exact a
   ·rw[C4 d]at a;rcases l j x a with b | ⟨b,h2⟩
    ·left;rw[C4 d];exact b
    ·right;refine⟨?_,h2⟩;cases f:N2 (uE ((k,o)::r)) j
     ·rfl
     ·rcases HZ.1 (oZ.1 f) with q | q
      ·exact absurd q.symm d
      ·rw[show N2 (uE r) j=true from oZ.2 q]at b;cases b
 intro j x a;rcases e L j x a with b | ⟨b,h2⟩
 ·exact h.spec j x b
 ·exact g j x b h2
theorem Z0{K:List Nat}{rest:Obs}:∀j x,N2 K j=false->C2 rest j=some x->C2 rest j=some x:=fun _ _ _ h=>h
theorem l7{K:List Nat}{T rest:Obs}{k:Nat}{o:Ob}(b:N2 K k=true)(h:∀j x,N2 K j=false->C2 rest j=some x->C2 T j=some x):∀j x,N2 K j=false->C2 rest j=some x->C2 ((k,o)::T) j=some x:=by
 intro j x a c;have:k≠j:=fun e=>by rw[e,a]at b;cases b
 rw[C4 this];exact h j x a c
theorem Sim.grow_cell{S:Ctx}{G:Gh}{a:Act}{w:World}(h:Sim P S fr ob G a w){k b n j i o f:Nat}{e:TypeId}{α:Type}{c:α->Nat->Cell}{m:List α}{v:α}(A:C2 ob k=some (.grow e α f c m))(x:G k=.slice (some ⟨b,0,none⟩) n j)(C:m[i]?=some v)(B:o<f) :
  ∃z,w.cell? ⟨b,i*f+o,none⟩=some z/\(c v o).rep (D1 (Mut S ob G) w) z:=by
 obtain⟨D,d,_,u⟩:=h.obs k _ A;obtain⟨y,rfl⟩:=List.getElem?_eq_some_iff.1 C;obtain⟨z,q,t⟩:=u i y o B;have:=d.cells (g:=b) (by rw[x];rfl) (i*f+o) z q;exact⟨z,by simpa[Addr.add_lit] using this,t⟩
theorem iN{x:Operand}{t e:TypeId}{k i o:Nat}{α:Type}{ec:Nat}{c:α->Nat->Cell}{xs:List α}{v:α}[ht:TyOne P t](E:opv fr x=some (.s (.one (.mref k ec i o))))(A:C2 ob k=some (.grow e α ec c xs))(D:xs[i]?=some v)
  (B:Nat.blt o ec=true):Neu P ⟨dst,.load t x,ty,pos,af,gd⟩ fr ob (fun F=>F=.s (.one (.p (c v o)))) :=
 D4 fun S G a w h=>by
  obtain⟨b,n,u,y,C⟩:=F1 h E;obtain⟨z,j,q⟩:=h.grow_cell A y D (by simpa using B);refine⟨z,?_,q⟩;simp only[execOp,C];exact I6 (by simp[Instr.loadAt,Instr.sureAddr,L3 j])
theorem tail_drop{gf:Fr}{b:List Nat}(e:(b.all fun k=>Nat.blt k 1000000)=true)(h:Tail gf fr):Tail gf (uD b fr):=fun i s d c=>by
 refine sC.2 ⟨fun a=>?_,h i s d c⟩;have:=List.all_eq_true.1 e i a;have:i<1000000:=by simpa using this
 omega
theorem Sim.freezeG{S:Ctx}{G:Gh}{a:Act}{w:World}(h:Sim P S fr ob G a w){k:Nat}{α:Type}{ec:Nat}{c:α->Nat->Cell}{xs:List α}{e:TypeId}(hk:C2 ob k=some (.grow e α ec c xs))(ab:0<ec) :
  Sim P S (HD (SV.freeze k α ec c xs) fr) (HA (Ob.freeze k α ec c xs) (Obs.drop k ob)) G a w:=by
 have T:=h.drop k;obtain⟨Y,V,U,hc⟩:=h.obs k _ hk;have v:∀q o,C2 (HA (Ob.freeze k α ec c xs) (Obs.drop k ob)) q=some o->∃E,C2 (Obs.drop k ob) q=some E/\o=E.freeze k α ec c xs:=by
  intro q o d;rw[eU]at d;cases C:C2 (Obs.drop k ob) q with
  | none=>simp[C]at d
  | some E=>simp[C]at d;exact⟨E,rfl,d.symm⟩
 have K:∀(u:Value) (o:Ob) (b i:Nat),Own u (o.freeze k α ec c xs) b i↔Own u o b i:=by intro u o b i;cases o<;>simp[Own,Ob.freeze]
 have I:∀b i,Mut S (HA (Ob.freeze k α ec c xs) (Obs.drop k ob)) G b i->Mut S (Obs.drop k ob) G b i:=by
  intro b i A;rcases A with A | ⟨q,o,d,hb⟩
  ·exact .inl A
  ·obtain⟨E,R,rfl⟩:=v q o d;exact .inr ⟨q,E,R,(K _ _ _ _).1 hb⟩
 have M:∀b i z,D1 (Mut S (Obs.drop k ob) G) w b i z->D1 (Mut S (HA (Ob.freeze k α ec c xs) (Obs.drop k ob)) G) w b i z:=fun b i z L=>⟨L.1,fun A=>L.2 (I b i A)⟩
 have W:∀b i z,D1 (Mut S ob G) w b i z->D1 (Mut S (Obs.drop k ob) G) w b i z:=by
  intro b i z L;refine⟨L.1,fun A=>L.2 ?_⟩;rcases A with A | ⟨q,o',d,hb⟩
  ·exact .inl A
  ·refine .inr ⟨q,o',?_,hb⟩;by_cases D:q=k
   ·subst D;rw[I5]at d;cases d
   ·rwa[I0 D]at d
 have f:(Cell.list α ec c xs).rep (D1 (Mut S (HA (Ob.freeze k α ec c xs) (Obs.drop k ob)) G) w) (G k):=by
  refine cU V ab U ?_ (fun i N j hj=>let ⟨z,y,B⟩:=hc i N j hj;⟨z,y,Cell.rep_mono (fun _ _ _ L=>M _ _ _ (W _ _ _ L)) _ _ B⟩);intro g hg j z hj J;refine⟨J,fun A=>?_⟩;rcases I _ _ A with A | ⟨q,o',d,hb,_⟩
  ·have:=h.m0 _ _ A;rcases h.old k _ g hk hg with y | y
   ·omega
   ·exact h.m0io _ _ A y.1
  ·by_cases D:q=k
   ·subst D;rw[I5]at d;cases d
   ·rw[I0 D]at d;exact D (h.dis q k o' _ g d hk hb hg)
 exact { T with
  old:=fun q o b d=>let ⟨E,R,_⟩:=v q o d;T.old q E b R
  dis:=fun k1 k2 o1 o2 b y B=>let ⟨oa,ha,_⟩:=v k1 o1 y;let ⟨ob',aa,_⟩:=v k2 o2 B;T.dis k1 k2 oa ob' b ha aa
  obs:=fun q o d=>by
   obtain⟨E,R,rfl⟩:=v q o d;have m:=(T.obs q E R).ext M (Below.refl _ _);cases E with
   | box X=>obtain⟨O,F,t',y,B,H⟩:=m;exact⟨O,F,t',y,B,H.map (TC.freeze k α ec c xs) fun _ _=>TC.rep_freeze f⟩
   | tbx e X=>obtain⟨O,F,y,B,H⟩:=m;exact⟨O,F,y,B,H.map (TC.freeze k α ec c xs) fun _ _=>TC.rep_freeze f⟩
   | tarr n Q X=>obtain⟨O,F,t',y,hl,B,hn,H⟩:=m;exact⟨O,F,t',y,hl,B,by simpa using hn,H.map (TC.freeze k α ec c xs) fun _ _=>TC.rep_freeze f⟩
   | arr=>exact m
   | spare=>exact m
   | grow=>exact m
   | map=>exact m
   | growA e' α' Q c' ac p X=>obtain⟨Y,y,B,H,Z,h5,h6⟩:=m;exact⟨Y,y,B,H,by simpa using Z,h5,h6.map (TC.freeze k α ec c xs) fun _ _=>TC.rep_freeze f⟩
   | growT e' n' Q X=>obtain⟨Y,y,B,H,Z⟩:=m;exact⟨Y,y,B,by simpa using H,Z.map (TC.freeze k α ec c xs) fun _ _=>TC.rep_freeze f⟩
  facts:=fun i s N=>by
   rw[eT]at N;cases C:C8 fr i with
   | none=>simp[C]at N
   | some s0 =>
    simp[C]at N;subst N
    exact SV.rep_freeze f (SV.rep_mono M (T.facts i s0 C)) }
theorem Sees.freezeG{k:Nat}{α:Type}{ec:Nat}{c:α->Nat->Cell}{xs:List α}{e:TypeId}(d:C2 ob k=some (.grow e α ec c xs))(b:Nat.blt 0 ec=true) :
  Sees P nt fr ob (HD (SV.freeze k α ec c xs) fr) (HA (Ob.freeze k α ec c xs) (Obs.drop k ob)):=fun S G a w f h=>⟨G,h.freezeG d (by simpa using b)⟩
theorem Sees.fewer{ob':Obs}(b:∀k o,C2 ob' k=some o->C2 ob k=some o):Sees P nt fr ob fr ob':=fun S G a w d c=>⟨G,c.weakenO b⟩
theorem pG{c:Rd}{G:Gh}:∀{b:List TC} {a:List Value},All2 (TC.rep c G) b a->∀u∈a,u.oneCell'=true
 | [],[],_,u,hu=>by cases hu
 | t::b,v::a,h,u,hu=>by
  rcases HZ.1 hu with rfl | hu
  ·exact TC.rep_one h.1
  ·exact pG h.2 u hu
def TC.refs:TC->List Nat
 | .buf k _ _ _ _=>[k]
 | .ref k _=>[k]
 | .mut k=>[k]
 | .mref k _ _ _=>[k]
 | .msl k _ _ _=>[k]
 | .clo _ d a=>d.map (·.1)++a.map (·.1)
 | .ifc _ k _=>[k]
 | _=>[]
def S1.refs:S1->List Nat
 | .one t=>t.refs
 | .agg b=>b.flatMap TC.refs
def SV.refs:SV->List Nat
 | .s x=>x.refs
 | .tup l=>l.flatMap S1.refs
 | _=>[]
def Ob.refs:Ob->List Nat
 | .box c=>c.flatMap TC.refs
 | .tbx _ c=>c.flatMap TC.refs
 | .tarr _ _ c=>c.flatMap TC.refs
 | .growA _ _ _ _ _ _ c=>c.flatMap TC.refs
 | .growT _ _ _ c=>c.flatMap TC.refs
 | _=>[]
def mW:Fr->List Nat
 | []=>[]
 | (_,s)::r=>s.refs++mW r
def iO:Obs->List Nat
 | []=>[]
 | (_,o)::r=>o.refs++iO r
theorem x5{G G':Gh}:∀{l:List (Nat×Nat)} {a:List Value},(∀k∈l.map (·.1),G' k=G k)->All2 (fM G) l a->All2 (fM G') l a
 | [],[],_,_=>trivial
 | [],_::_,_,h=>h.elim
 | _::_,[],_,h=>h.elim
 | p::l,u::a,hk,h=>by
  obtain⟨⟨b,d,e⟩,f⟩:=h;exact⟨⟨b,by rw[hk p.1 (by simp)];exact d,e⟩,x5 (fun k c=>hk k (by simp at c ⊢;exact .inr c)) f⟩
theorem TC.rep_congr{g:Rd}{G G':Gh}:∀{t:TC} {u:Value},(∀k∈t.refs,G' k=G k)->t.rep g G u->t.rep g G' u
 | .p _,_,_,h=>h
 | .eref _ _ _ _ _,_,_,h=>h
 | .any,_,_,h=>h
 | .full _ _ _ _,_,_,h=>h
 | .ifc _ k _,_,hk,h=>by simp only[TC.rep];rw[hk k (by simp[TC.refs])];exact h
 | .fnc _ _,_,_,h=>h
 | .fncE _ _ _ _ _,_,_,h=>h
 | .buf k _ _ _ _,_,hk,h=>⟨by rw[hk k (by simp[TC.refs])];exact h.1,h.2⟩
 | .ref k _,_,hk,h=>by simp only[TC.rep];rw[hk k (by simp[TC.refs])];exact h
 | .mut k,_,hk,h=>by simp only[TC.rep];rw[hk k (by simp[TC.refs])];exact h
 | .mref k _ _ _,_,hk,h=>by simp only[TC.rep];rw[hk k (by simp[TC.refs])];exact h
 | .msl k _ _ _,_,hk,h=>by simp only[TC.rep];rw[hk k (by simp[TC.refs])];exact h
 | .clo _ nf nc,_,hk,⟨vs,ws,h1,h2,h3⟩=>⟨vs,ws,h1,x5 (fun k d=>hk k (by simp only[TC.refs,HV];exact .inl d)) h2,x5 (fun k d=>hk k (by simp only[TC.refs,HV];exact .inr d)) h3⟩
theorem Q9{d:Rd}{G G':Gh}:∀{a:List TC} {c:List Value},(∀k∈a.flatMap TC.refs,G' k=G k)->All2 (TC.rep d G) a c->All2 (TC.rep d G') a c
 | [],[],_,_=>trivial
 | [],_::_,_,h=>h.elim
 | _::_,[],_,h=>h.elim
 | t::a,v::c,hs,h=>⟨TC.rep_congr (fun k b=>hs k (by rw[List.flatMap_cons];exact HV.2 (.inl b))) h.1,Q9 (fun k b=>hs k (by rw[List.flatMap_cons];exact HV.2 (.inr b))) h.2⟩
theorem S1.rep_congr{b:Rd}{G G':Gh}:∀{t:S1} {u:Value},(∀k∈t.refs,G' k=G k)->t.rep b G u->t.rep b G' u
 | .one t,u,hs,h=>TC.rep_congr (t:=t) hs h
 | .agg ts,u,hs,⟨vs,h1,h2⟩=>⟨vs,h1,Q9 hs h2⟩
theorem fS{d:Rd}{G G':Gh}:∀{a:List S1} {c:List Value},(∀k∈a.flatMap S1.refs,G' k=G k)->All2 (S1.rep d G) a c->All2 (S1.rep d G') a c
 | [],[],_,_=>trivial
 | [],_::_,_,h=>h.elim
 | _::_,[],_,h=>h.elim
 | t::a,v::c,hs,h=>⟨S1.rep_congr (fun k b=>hs k (by rw[List.flatMap_cons];exact HV.2 (.inl b))) h.1,fS (fun k b=>hs k (by rw[List.flatMap_cons];exact HV.2 (.inr b))) h.2⟩
theorem SV.rep_congr{b:Rd}{G G':Gh}:∀{t:SV} {u:Value},(∀k∈t.refs,G' k=G k)->t.rep b G u->t.rep b G' u
 | .s t,u,hs,h=>S1.rep_congr (t:=t) hs h
 | .tup ts,u,hs,⟨vs,h1,h2⟩=>⟨vs,h1,fS hs h2⟩
 | .any,_,_,_=>trivial
 | .un,_,_,h=>h
theorem ObOk.congr{S:Ctx}{r:Rd}{G G':Gh}{w:World}{u:Value}{o:Ob}(l:∀k∈o.refs,G' k=G k)(h:ObOk S r G w u o):ObOk S r G' w u o:=by
 cases o with
 | box m=>obtain⟨b,g,t,a,d,f⟩:=h;exact⟨b,g,t,a,d,Q9 l f⟩
 | tbx e m=>obtain⟨b,g,a,d,f⟩:=h;exact⟨b,g,a,d,Q9 l f⟩
 | tarr n i m=>obtain⟨b,g,t,a,d,f,j,q⟩:=h;exact⟨b,g,t,a,d,f,j,Q9 l q⟩
 | growA e α i c s p m=>obtain⟨g,a,d,f,j,q,v⟩:=h;exact⟨g,a,d,f,j,q,Q9 l v⟩
 | growT e n i m=>obtain⟨g,a,d,f,j⟩:=h;exact⟨g,a,d,f,Q9 l j⟩
 | arr α i c s=>exact h
 | map κ y x=>exact h
 | spare n i e=>exact h
 | grow e α i c s=>exact h
theorem iP:∀{fr:Fr} {i:Nat} {s:SV},C8 fr i=some s->∀k∈s.refs,k∈mW fr
 | [],i,s,h,_,_=>by cases h
 | (j,x)::r,i,s,h,k,hm=>by
  unfold C8 at h;unfold mW;cases hb:Nat.beq j i
  ·rw[hb]at h;exact HV.2 (.inr (iP h k hm))
  ·rw[hb]at h;cases h;exact HV.2 (.inl hm)
theorem cF:∀{ob:Obs} {i:Nat} {o:Ob},C2 ob i=some o->∀k∈o.refs,k∈iO ob
 | [],i,s,h,_,_=>by cases h
 | (j,x)::r,i,s,h,k,hm=>by
  unfold C2 at h;unfold iO;cases hb:Nat.beq j i
  ·rw[hb]at h;exact HV.2 (.inr (cF h k hm))
  ·rw[hb]at h;cases h;exact HV.2 (.inl hm)
theorem lJ:∀{a b:Obs} {k:Nat},C2 (a++b) k=match C2 a k with | some o=>some o | none=>C2 b k
 | [],b,k=>rfl
 | (j,x)::r,b,k=>by
  show (bif Nat.beq j k then some x else C2 (r++b) k)=(match (bif Nat.beq j k then some x else C2 r k) with | some o=>some o | none=>C2 b k)
  cases Nat.beq j k
  ·exact lJ (a:=r)
  ·rfl
def BN(b:List S1)(ob':Obs)(fr:Fr)(ob:Obs):Bool :=
 (b.flatMap S1.refs++iO ob').all (fun k=>(C2 ob' k).isSome)&&(mW fr++iO ob).all (fun k=>(C2 ob' k).isNone)&&ob.all (fun p=>(C2 ob' p.1).isNone)
theorem pH:∀{ob:Obs} {k:Nat} {o:Ob},C2 ob k=some o->∃p∈ob,p.1=k
 | [],k,o,h=>by cases h
 | (j,x)::r,k,o,h=>by
  unfold C2 at h;cases hb:Nat.beq j k
  ·rw[hb]at h;obtain⟨p,a,b⟩:=pH h;exact⟨p,List.mem_cons_of_mem _ a,b⟩
  ·exact⟨_,List.mem_cons_self,by simpa using hb⟩
theorem Z9{w:World}{B B':Nat}{e:TypeId}{d n:Nat}{v:Value}{f:List Value}(g:B<=B')(h:w.ownsRow B' e d v n f):w.ownsRow B e d v n f :=
 ⟨h.1,h.2.imp id fun ⟨b,a,c,i,hb,r⟩=>⟨b,a,c,i,Nat.le_trans g hb,r⟩⟩
theorem ObOk.low{S S':Ctx}{j:Rd}{G:Gh}{w:World}{u:Value}{o:Ob}(g:S.B<=S'.B)(h:ObOk S' j G w u o):ObOk S j G w u o:=by
 cases o with
 | box i=>exact h
 | tbx e i=>exact h
 | tarr n d i=>exact h
 | arr α d c k=>exact h
 | map κ m l=>exact h
 | spare n d e=>obtain⟨b,a⟩:=h;exact⟨b,Z9 g a⟩
 | grow e α d c k=>obtain⟨b,a,f⟩:=h;exact⟨b,Z9 g a,f⟩
 | growA e α d c k p i=>obtain⟨b,a,f⟩:=h;exact⟨b,Z9 g a,f⟩
 | growT e n d i=>obtain⟨b,a,f⟩:=h;exact⟨b,Z9 g a,f⟩
variable {rest:List Oper}{Q:Post}{d:Nat}
theorem lK{f:FuncId}{xs:List Operand}{aj:Array TypeId}{ty:TypeId}{pos:String}{af:Array Edge}{args:List S1}{ks:List Nat}{U:List S1->Obs->Prop}
  (hf:Met P f args [] [] ks U) (ha:dE fr xs=some args) (hc:xs.all F8=true) (au:(args.flatMap S1.refs).isEmpty=true) (hd:Nat.blt d nt=true)
  (kk:∀rs ob',U rs ob'->BN rs ob' fr ob=true/\WpL P nt ops rest ((d,rV rs)::fr) (ob'++ob) Q):WpL P nt ops (⟨some d,.call ⟨.value (.func f),xs.toArray,aj⟩,ty,pos,af,none⟩::rest) fr ob Q:=by
 intro S G a w hn h;have ai:=Y4 h xs args ha hc;let S':Ctx:={ S with w0:=w,M0:=fun b i=>Mut S ob G b i,io:=fun _=>False }
 have ao:S'.B=w.heap.size:=rfl;have ad:High ([]:Fr):=fun i s hi=>by cases hi
 have ak:Grd P (fun _=>False) w:=by
  obtain⟨wg,h1,M,O⟩:=h.grd;refine⟨wg,h1,Nat.le_trans M h.size,fun j F=>?_⟩;obtain⟨h4,h5⟩:=O j F;exact⟨(h.keep j (Nat.lt_of_lt_of_le F M) h5).trans h4,fun e=>e⟩
 have hs:Sim P S' [] [] G a w:={ nt:=h.nt,ntb:=h.ntb,defers:=h.defers,os:=rfl,tape:=rfl,output:=rfl,size:=Nat.le_refl _,keep:=fun _ _ _=>rfl,m0:=fun b i J=>h.mut_lt J,m0io:=fun _ _ _ e=>e,grd:=ak,pin:=h.pin,old:=fun _ _ _ e=>(by cases e),dis:=fun _ _ _ _ _ e=>(by cases e),obs:=fun _ _ e=>(by cases e),facts:=fun _ _ e=>(by cases e) }
 have al:∀b i z,D1 (Mut S ob G) w b i z->D1 (Mut S' [] G) w b i z:=fun b i z V=>⟨V.1,fun J=>V.2 (by
  rcases J with J | ⟨k,o,q,_⟩
  ·exact J
  ·cases q)⟩
 have Z:=hf.2 ad S' G a w _ hs (ai.mono fun _ _=>S1.rep_mono al);refine wpList_plain rfl fun K hK=>J5 (K:=fun v w'=>∃rs ob' G',U rs ob'/\T3 (D1 (Mut S' ob' G') w') G' rs v/\Sim P S' (C5 ks []) ob' G' a w') ?_ ?_
 ·have he:(execOp a.eval ⟨some d,.call ⟨.value (.func f),xs.toArray,aj⟩,ty,pos,af,none⟩).run P w=.ok (.enter f (xs.map a.eval).toArray) w:=by
   have:=M1 (P:=P) (f:=f) (args:=(xs.map a.eval).toArray) (w:=w) hf.1;have J:xs.toArray.map a.eval=(xs.map a.eval).toArray:=by simp
   simp only[execOp,resolve,Act.eval,Deferred.ofValue,Sem.run_bind,Sem.run_pure,Result.andThen_ok,invoke];rw[show (#[]:Array Value)++Array.map a.eval xs.toArray++#[]=(xs.map a.eval).toArray by rw[<-J];simp];exact this
  unfold Does;rw[he];refine Z.mono ?_;rintro e w' ⟨v,rs,ob',G',rfl,ag,T,C⟩;exact⟨v,rfl,rs,ob',G',ag,T,C⟩
 ·rintro v w' ⟨rs,ob',G',hp,T,C⟩;obtain⟨aa,aq⟩:=kk rs ob' hp;simp only[BN,HR,List.all_eq_true,HV]at aa;obtain⟨⟨n1,n2⟩,n3⟩:=aa;have ar:∀{k o},C2 ob k=some o->C2 ob' k=none:=fun {k o} q=>by
   obtain⟨p,p1,p2⟩:=pH q;have:=n3 p p1;rw[p2]at this;simpa using this
  obtain⟨H,hH⟩:∃H:Gh,H=fun k=>match C2 ob' k with | some _=>G' k | none=>G k:=⟨_,rfl⟩
  have W:∀{k},(C2 ob' k).isSome=true->H k=G' k:=fun {k} q=>by
   rw[hH];dsimp only;cases R:C2 ob' k with
   | none=>rw[R]at q;cases q
   | some o=>rfl
  have X:∀{k},(C2 ob' k).isNone=true->H k=G k:=fun {k} q=>by
   rw[hH];dsimp only;cases R:C2 ob' k with
   | none=>rfl
   | some o=>rw[R]at q;cases q
  have ae:d<S.nt:=by rw[hn];simpa using hd
  have an:w.heap.size<=w'.heap.size:=C.size;have I:∀k,k<w.heap.size->w'.heap[k]?=w.heap[k]?:=fun k q=>C.keep k q (fun e=>e);have L:∀k o b,C2 ob' k=some o->blk (G' k)=some b->w.heap.size<=b:=fun k o b h1 M=>by
   rcases C.old k o b h1 M with O | O
   ·exact O
   ·exact O.1.elim
  have D:∀{k o},C2 (ob'++ob) k=some o->(C2 ob' k=some o/\H k=G' k)\/(C2 ob k=some o/\H k=G k):=fun {k o} q=>by
   rw[lJ]at q;cases R:C2 ob' k with
   | some o'=>rw[R]at q;exact .inl ⟨q,W (by rw[R];rfl)⟩
   | none=>rw[R]at q;exact .inr ⟨q,X (by rw[R];rfl)⟩
  have ab:∀b i z,D1 (Mut S' ob' G') w' b i z->D1 (Mut S (ob'++ob) H) w' b i z:=fun b i z V=>⟨V.1,fun J=>V.2 (by
   rcases J with J | ⟨k,o,q,hb⟩
   ·exact .inl (.inl J)
   ·rcases D q with ⟨k1,e⟩ | ⟨k1,e⟩
    ·rw[e]at hb;exact .inr ⟨k,o,k1,hb⟩
    ·rw[e]at hb;exact .inl (.inr ⟨k,o,k1,hb⟩))⟩
  have ac:∀b i z,D1 (Mut S ob G) w b i z->D1 (Mut S (ob'++ob) H) w' b i z:=fun b i z V=>by
   have ae:b<w.heap.size:=World.block_lt_of_cell? w _ V.1;refine⟨by rw[World.cell?_of_block (w:=w) (a:=⟨b,i,none⟩) (I b ae)];exact V.1,fun J=>?_⟩;rcases J with J | ⟨k,o,q,hb⟩
   ·exact V.2 (.inl J)
   ·rcases D q with ⟨k1,e⟩ | ⟨k1,e⟩
    ·rw[e]at hb;have:=L k o b k1 hb.1;omega
    ·rw[e]at hb;exact V.2 (.inr ⟨k,o,k1,hb⟩)
  have Y:Below w.heap.size w w':=⟨C.os,C.tape,C.output,an,fun k q=>I k q⟩
  have am:Sim P S fr (ob'++ob) H a w':=by
   refine { nt:=h.nt,ntb:=h.ntb,defers:=h.defers,os:=C.os.trans h.os,tape:=C.tape.trans h.tape,output:=C.output.trans h.output,size:=Nat.le_trans h.size an,keep:=fun k q ap=>(I k (Nat.lt_of_lt_of_le q h.size)).trans (h.keep k q ap),m0:=h.m0,m0io:=h.m0io,grd:=h.grd,pin:=fun k q=>?_,old:=fun k o b h1 M=>?_,dis:=fun k k' o o' b h1 M O h4=>?_,obs:=fun k o q=>?_,facts:=fun i s hi=>?_ }
   ·cases R:C2 ob' k with
    | some o=>rw[W (by rw[R];rfl)];exact C.pin k q
    | none=>rw[X (by rw[R];rfl)];exact h.pin k q
   ·rcases D h1 with ⟨k1,e⟩ | ⟨k1,e⟩
    ·rw[e]at M;exact .inl (Nat.le_trans h.size (L k o b k1 M))
    ·rw[e]at M;exact h.old k o b k1 M
   ·rcases D h1 with ⟨k1,e1⟩ | ⟨k1,e1⟩<;>rcases D M with ⟨k2,e2⟩ | ⟨k2,e2⟩<;>rw[e1]at O<;>rw[e2]at h4
    ·exact C.dis k k' o o' b k1 k2 O h4
    ·have:=L k o b k1 O;have:=(h.obs k' o' k2).blk_lt _ h4;omega
    ·have:=L k' o' b k2 h4;have:=(h.obs k o k1).blk_lt _ O;omega
    ·exact h.dis k k' o o' b k1 k2 O h4
   ·rcases D q with ⟨k1,e⟩ | ⟨k1,e⟩
    ·rw[e];exact (((C.obs k o k1).low (S:=S) (by rw[ao];exact h.size)).ext ab (Below.refl _ _)).congr fun j F=>W (n1 j (.inr (cF k1 j F)))
    ·rw[e];exact ((h.obs k o k1).ext ac Y).congr fun j F=>X (n2 j (.inr (cF k1 j F)))
   ·exact SV.rep_congr (fun j F=>X (n2 j (.inl (iP hi j F)))) (SV.rep_mono ac (h.facts i s hi))
  have ah:(rV rs).rep (D1 (Mut S (ob'++ob) H) w') H v:=by
   refine SV.rep_congr (fun j F=>W (n1 j (.inl ?_))) (SV.rep_mono ab T);revert F
   match rs with
   | []=>intro F;cases F
   | [r]=>intro F;simpa[rV,SV.refs] using F
   | r::r2::rest=>intro F;exact F
  exact hK _ _ (aq S H _ w' hn (am.put ae ah))
def xT(P:Program)(nt:Nat)(ops:Array Oper)(o:Oper)(φ:Fa)(ob:Obs)(K:Fa->Obs->Prop):Prop :=
 Wanted ops φ o true/\∀S G a w,S.nt=nt->SimF P S φ ob G a w->Does P o a w (fun v w'=>∃b ob' G',K b ob'/\SimF P S b ob' G' (a.put o.dst v) w')
def xU(P:Program)(nt:Nat)(ops:Array Oper)(T i:Nat)(φ:Fa)(ob:Obs)(K:Fa->Obs->Prop):Prop :=
 ∃o,ops[i]?=some o/\cond (tn T i o) (xT P nt ops o φ ob K) (∃s d,o.dst=some d/\YieldsN P nt ops o φ ob s/\K (P7 φ d s) ob)
def s8(P:Program)(nt:Nat)(ops:Array Oper)(T:Nat)(K:Fa->Obs->Prop):Nat->Array Bool->Fa->Obs->Prop
 | 0,listed,φ,ob=>Region.ready .any ops listed=[]/\K φ ob
 | fuel+1,listed,φ,ob=>(Region.ready .any ops listed=[]->K φ ob)/\∀i∈Region.ready .any ops listed,xU P nt ops T i φ ob (s8 P nt ops T K fuel (listed.setIfInBounds i true))
theorem a7{T:Nat}{K:Fa->Obs->Prop}{S:Ctx}{Q:Exit->Act->World->Prop}(q:S.nt=nt)(f:∀(j t:Nat),(ops[j]?).bind (fun o=>o.dst)=some t->t<nt)(x:∀φ ob G a w,K φ ob->SimF P S φ ob G a w->Q .normal a w) :
  ∀(e:Nat) (g:Array Bool) (φ:Fa) (ob:Obs) (G:Gh) (a:Act) (w:World),s8 P nt ops T K e g φ ob->SimF P S φ ob G a w->wpAny P .any ops Q e g a w
 | 0,_,φ,ob,G,a,w,h,hs=>⟨h.1,x φ ob G a w h.2 hs⟩
 | e+1,g,φ,ob,G,a,w,h,hs=>by
  refine⟨fun L=>x φ ob G a w (h.1 L) hs,fun i E=>?_⟩;obtain⟨o,N,c⟩:=h.2 i E;unfold wpOp;simp only[N];cases I:tn T i o with
  | true =>
   rw[I]at c;obtain⟨M,c⟩:=c;rw[A4 (l6 q hs M f)];refine .inl (J5 (c S G a w q hs) ?_);rintro v w' ⟨V,ob',G',k,F⟩;exact a7 q f x e _ V ob' G' _ w' k F
  | false =>
   rw[I]at c;obtain⟨s,d,C,⟨W,z,A,U⟩,k⟩:=c;rw[C]at z;cases z;rcases U with ⟨H,J,D,B⟩ | ⟨H,rfl⟩
   ·rw[l6 q hs H f,A4 rfl];refine .inl (J5 (B S G a w (hs.sub fun i s E=>(D i s E).1)) ?_);rintro v w' ⟨R,X,rfl,O⟩;rw[C];exact a7 q f x e _ _ ob G _ w' k ((hs.ext R).put (by rw[q];exact A) O)
   ·rw[l6 q hs H f,A5 (by simp),C];exact a7 q f x e _ _ ob G _ w k (hs.put (by rw[q];exact A) rfl)
theorem iQ{T:Nat}{K:Fa->Obs->Prop}:∀(c:Nat) (b:Array Bool) (φ:Fa) (ob:Obs),b.getD T false=true->kI P nt ops K c b φ ob->s8 P nt ops T K c b φ ob
 | 0,_,_,_,_,h=>h
 | c+1,b,φ,ob,hT,h=>by
  refine⟨h.1,fun i A=>?_⟩;obtain⟨o,F,j⟩:=h.2 i A;have q:i≠T:=fun e=>by subst e;have:=T5 A;rw[hT]at this;cases this
  have k:(b.setIfInBounds i true).getD T false=true:=by
   simp only[Array.getD_eq_getD_getElem?]at hT ⊢
   rwa[Array.getElem?_setIfInBounds_ne q]
  refine⟨o,F,?_⟩;have I:tn T i o=turns o.op:=by unfold tn;rw[W7 q];rfl
  rw[I];cases y:turns o.op with
  | true =>
   rw[y]at j;refine⟨by unfold Wanted;rw[j.1],fun S G a w E H=>?_⟩;have l:=j.2 S G a w E H;unfold Does at l ⊢;have m:∀v w',(∃p ob' G',kI P nt ops K c (b.setIfInBounds i true) p ob'/\SimF P S p ob' G' (a.put o.dst v) w')->(∃p ob' G',s8 P nt ops T K c (b.setIfInBounds i true) p ob'/\SimF P S p ob' G' (a.put o.dst v) w'):=by
    rintro v w' ⟨p,ob',G',B,z⟩;exact⟨_,ob',G',iQ c _ _ _ k B,z⟩
   generalize (execOp a.eval o).run P w=r at *;cases r with
   | ok n w' =>
    cases n<;>simp only at l ⊢<;>try exact l.elim
    case value v=>exact m _ _ l
    case skip=>exact m _ _ l
    case enter f args=>exact l.mono fun e M ⟨v,C,J⟩=>⟨v,C,m _ _ J⟩
   | halt x w'=>exact l
  | false =>
   rw[y]at j;obtain⟨s,d,l,L,HK⟩:=j;exact⟨s,d,l,L,iQ c _ _ _ k HK⟩
theorem pI{T:Nat}{K:Fa->Obs->Prop}{i d:Nat}{w:Oper}{s:SV}(hi:ops[i]?=some w)(V:tn T i w=false)(F:w.dst=some d) :
  ∀(c:Nat) (b:Array Bool) (φ:Fa) (ob:Obs),Closed ops b ->
   (∀j l,ops[j]?=some l->j≠i->b.getD j true=false->tn T j l=true->Bef ops j i=true) ->
   (∀j l,ops[j]?=some l->j≠i->b.getD j true=false->tn T j l=false->(∃e∈l.after.toList,Region.binds .any e=true/\e.on=i)\/i8 ops w l=true) ->
   i∈Region.ready .any ops b->YieldsN P nt ops w φ ob s ->
   s8 P nt ops T K c (b.setIfInBounds i true) (P7 φ d s) ob->s8 P nt ops T K (c+1) b φ ob:=by
 have q:∀(c:Nat) (b:Array Bool) (φ:Fa) (ob:Obs),YieldsN P nt ops w φ ob s->s8 P nt ops T K c (b.setIfInBounds i true) (P7 φ d s) ob->xU P nt ops T i φ ob (s8 P nt ops T K c (b.setIfInBounds i true)):=by
  intro c b φ ob D H;exact⟨w,hi,by rw[V];exact⟨s,d,F,D,H⟩⟩
 intro c;induction c with
 | zero =>
  intro b φ ob Q N O A D H;refine⟨fun h=>(by rw[h]at A;cases A),fun j I=>?_⟩;by_cases f:j=i
  ·subst f;exact q 0 b φ ob D H
  ·have:=ready_mono I f;rw[H.1]at this;cases this
 | succ c ih =>
  intro b φ ob Q N O A D H;refine⟨fun h=>(by rw[h]at A;cases A),fun j I=>?_⟩;by_cases f:j=i
  ·subst f;exact q (c+1) b φ ob D H
  ·obtain⟨g,l,p,u⟩:=mem_ready.1 I;have v:=T5 A;cases t:tn T j l with
   | true =>
    have hb:=N j l p f g t;have:=Y7 Q j hb (fun o Y e R x=>by rw[p]at Y;cases Y;exact u e (Array.mem_toList_iff.1 R) x);rw[v]at this;cases this
   | false =>
    have E:i8 ops w l=true:=by
     rcases O j l p f g t with ⟨e,R,x,U⟩ | h
     ·have:=u e (Array.mem_toList_iff.1 R) x;rw[U]at this;have L:b.getD i false=true:=this;rw[v]at L;cases L
     ·exact h
    obtain⟨o',J,r⟩:=H.2 j (ready_mono I f);rw[p]at J;cases J;rw[t]at r;obtain⟨sj,X,G,W,HK⟩:=r;simp only[i8,F,G,HR,Bool.not_eq_true',List.contains_eq_mem,decide_eq_false_iff_not]at E;obtain⟨⟨Z,L⟩,M⟩:=E;have M:d≠X:=fun e=>by subst e;simp at M
    refine⟨l,p,by
     rw[t];refine⟨sj,X,G,W.unput Z,?_⟩;refine ih (b.setIfInBounds j true) _ ob (Q8 Q I) ?_ ?_ (ready_mono A (Ne.symm f)) (D.put L) ?_
     ·intro k ok S z C B;refine N k ok S z ?_ B;by_cases m:j=k
      ·subst m;exact g
      ·rwa[getD_set_ne true m]at C
     ·intro k ok S z C B;refine O k ok S z ?_ B;by_cases m:j=k
      ·subst m;exact g
      ·rwa[getD_set_ne true m]at C
     ·rw[Array.setIfInBounds_comm _ _ f,<-lB M]
      exact HK⟩
theorem lL{T c:Nat}{K:Fa->Obs->Prop}{E:Fr->Obs->Prop}:∀(l:List Oper) (k:Nat) (b:Array Bool) (fr:Fr) (ob:Obs),(∀j,j<l.length->l[j]?=ops[k+j]?)->Closed ops b->mR ops T l.length k b=true ->
  (∀fr ob,Closed ops (oW l.length k b)->E fr ob->s8 P nt ops T K c (oW l.length k b) (C8 fr) ob)->LexD P nt ops E l fr ob->s8 P nt ops T K (c+l.length) b (C8 fr) ob
 | [],k,b,fr,ob,hl,hc,hB,hE,h=>hE fr ob hc h
 | o::l,k,b,fr,ob,hl,hc,hB,hE,h=>by
  have D:ops[k]?=some o:=by simpa using (hl 0 (by simp)).symm
  simp only[HU,mR,D,HR,Bool.not_eq_true']at hB;obtain⟨⟨⟨L,v⟩,I⟩,x⟩:=hB;have w:k∈Region.ready .any ops b:=by simpa using L
  have z:∀j,j<l.length->l[j]?=ops[k+1+j]?:=fun j J=>by have:=hl (j+1) (by simpa using J);simpa[Nat.add_assoc,Nat.add_comm 1 j] using this
  have M:turns o.op=false:=by
   cases C:turns o.op
   ·rfl
   ·simp[tn,C]at v
  simp only[LexD]at h;rw[M]at h;simp only[cond]at h;obtain⟨s,d,G,N,F⟩:=h;have t:∀j q,ops[j]?=some q->j≠k->b.getD j true=false->cond (tn T j q) (Bef ops j k) (q.after.toList.any (fun e=>Region.binds .any e&&Nat.beq e.on k)||i8 ops o q)=true:=by
   intro j q f g p;have A:j<ops.size:=(Array.getElem?_eq_some_iff.1 f).1;have:=List.all_eq_true.1 I j (IA.2 A);rw[W7 g,p,f]at this;simp only[Bool.false_or]at this;exact this
  show s8 P nt ops T K (c+(l.length+1)) b (C8 fr) ob;rw[<-Nat.add_assoc];refine pI D v G (c+l.length) b _ ob hc ?_ ?_ w N ?_
  ·intro j q f g p u;have:=t j q f g p;rw[u]at this;exact this
  ·intro j q f g p u;have:=t j q f g p;rw[u]at this;simp only[cond,IH,List.any_eq_true,HR]at this;rcases this with ⟨e,H,hb,B⟩ | h
   ·exact .inl ⟨e,H,hb,Nat.eq_of_beq_eq_true B⟩
   ·exact .inr h
  ·rw[<-w8];exact lL l (k+1) _ _ ob z (Q8 hc w) x hE F
theorem iR{id:Nat}{l:List Oper}(n:Nat){C:Oper}{fr:Fr}{ob:Obs}{Q:Post}(hm:P.follows .mixedOrders=true)(H:xM nt l n=true)(hc:l[n]?=some C)
  (h:LexD P nt l.toArray (fun fr ob=>xT P nt l.toArray C (C8 fr) ob (fun φ' ob'=>∃fr',φ'=C8 fr'/\LexD P nt l.toArray (fun fr ob=>Q .normal fr ob) (l.drop (n+1)) fr' ob')) (l.take n) fr ob):WpC P nt (.region id l.toArray true) fr ob Q:=by
 intro S G a w N T;unfold xM at H;simp only[HR]at H;obtain⟨⟨⟨⟨⟨⟨⟨b1,b2⟩,b3⟩,b4⟩,b5⟩,b6⟩,D⟩,E⟩:=H;have aa:n+1<=l.length:=Nat.le_of_ble_eq_true b3;have c:(l.take n).length=n:=Nat.eq_of_beq_eq_true b4;have u:∀(j t:Nat),(l.toArray[j]?).bind (fun o=>o.dst)=some t->t<nt:=by
  intro j t V;cases A:l.toArray[j]? with
  | none=>simp[A]at V
  | some o =>
   simp[A]at V;have z:o∈l:=by
    rw[List.getElem?_toArray]at A;exact IP A
   have:=List.all_eq_true.1 b2 o (by simpa using z);rw[V]at this;simpa using this
 refine wp_region_any hm ?_;have I:Closed l.toArray (Array.replicate l.length false):=by
  intro j o A M;simp only[Array.getD_eq_getD_getElem?]at M;rcases Nat.lt_or_ge j l.length with F | F
  ·simp[F]at M
  ·simp[F]at M
 have R:l.toArray[n]?=some C:=by rw[List.getElem?_toArray];exact hc
 have B:tn n n C=true:=by unfold tn;rw[Nat.beq_refl];rfl
 have W:s8 P nt l.toArray n (fun φ ob=>∃fr',φ=C8 fr'/\Q .normal fr' ob) ((l.drop (n+1)).length+1+(l.take n).length) (Array.replicate l.length false) (C8 fr) ob:=by
  refine lL (l.take n) 0 _ fr ob (fun j Z=>?_) I (by rw[c];exact b1) (fun fr ob f Y=>?_) h
  ·rw[Nat.zero_add,List.getElem?_toArray,ID (by rw[c]at Z;exact Z)]
  ·rw[c]at f ⊢;have X:n∈Region.ready .any l.toArray (oW n 0 (Array.replicate l.length false)):=by simpa using b6
   have q:=Q8 f X;refine⟨fun J=>(by rw[J]at X;cases X),fun j L=>?_⟩;have K:j=n:=Nat.eq_of_beq_eq_true (List.all_eq_true.1 b5 j L);subst K;refine⟨C,R,?_⟩;rw[B];refine⟨Y.1,fun S G a w N T=>iE (Y.2 S G a w N T) ?_⟩;rintro v w' ⟨φ',ob',G',⟨fr',rfl,hL⟩,p⟩;exact⟨_,ob',G',iQ _ _ _ _ D (dA (l.drop (j+1)) (j+1) _ fr' ob' (fun i=>by rw[IE,List.getElem?_toArray]) q E hL),p⟩
 have hx:Below w.heap.size w { w with drawn:=w.drawn+1 }:=⟨rfl,rfl,rfl,Nat.le_refl _,fun _ _=>rfl⟩
 have p:SimF P S (C8 fr) ob G a { w with drawn:=w.drawn+1 }:=(ET.2 T).ext hx;have:=a7 (Q:=PostOf P S Q) N u (fun φ ob' G' a' w' ⟨fr',J,hq⟩ U=>⟨fr',ob',G',hq,.inl (ET.1 (J ▸ U))⟩) _ _ _ ob G a _ W p;have k:(l.drop (n+1)).length+1+(l.take n).length=l.length:=by rw[JB,c];omega
 rw[k]at this;simpa using this
theorem vF{a:Op}{ty:TypeId}{pos:String}{af:Array Edge}{d j t:Nat}{b x:Bool}{fr:Fr}{ob:Obs}{K:Fa->Obs->Prop}(c:(ops[j]?).bind (·.dst)=some t)(f:C8 fr t=some (.s (.one (.p (.v (.bool x))))))(hb:x=b)
  (h:iB P nt ops ⟨some d,a,ty,pos,af,none⟩ (C8 fr) ob K):xT P nt ops ⟨some d,a,ty,pos,af,some (j,b)⟩ (C8 fr) ob K :=
 ⟨⟨t,_,c,f,by have:=Wants.val (b:=b) x;rwa[show (x == b)=true by simp[hb]]at this⟩,h.2⟩
variable {K:Fr->Obs->Prop}
theorem CL{a:Op}{ty:TypeId}{pos:String}{af:Array Edge}{j t:Nat}{b x:Bool}(A:(ops[j]?).bind (·.dst)=some t)(D:C8 fr t=some (.s (.one (.p (.v (.bool x))))))(hb:x=b)(B:turns a=false)
  (k:LexD P nt ops K (⟨some d,a,ty,pos,af,none⟩::rest) fr ob):LexD P nt ops K (⟨some d,a,ty,pos,af,some (j,b)⟩::rest) fr ob:=by
 simp only[LexD,B,cond]at k ⊢;obtain⟨s,e,z,⟨u,f,g,E⟩,y⟩:=k;have C:Wanted ops (C8 fr) (⟨some d,a,ty,pos,af,some (j,b)⟩:Oper) true:=⟨t,_,A,D,by have:=Wants.val (b:=b) x;rwa[show (x == b)=true by simp[hb]]at this⟩
 rcases E with ⟨_,c,h,w⟩ | ⟨hw2,_⟩
 ·exact⟨s,e,z,⟨u,f,g,.inl ⟨C,c,fun i q m=>⟨(h i q m).1,HV.2 (.inr (by
   have:=(h i q m).2;unfold uses at this
   simpa[iA] using this))⟩,w⟩⟩,y⟩
 ·unfold Wanted at hw2;cases hw2
theorem pJ{x:Operand}{t e q:TypeId}{v d k y n:Nat}{D:List TC}(B:opv fr x=some (.s (.one (.mut k))))(A:C2 ob k=some (.growT q n y D))[ht:TySl P t e v d] :
  Neu P ⟨dst,.call ⟨.builtin .len,#[x],#[t]⟩,ty,pos,af,gd⟩ fr ob (fun C=>C=D5 n) :=
 D4 fun S G a w h=>by
  refine⟨.int .i64 n,?_,rfl,rfl⟩;obtain⟨j,_⟩:=F1 h B;obtain⟨E,f,_⟩:=h.obs k _ A;rcases f.2 with ⟨p,z⟩ | ⟨g,cap,cur,p,_⟩
  ·rw[p]at j;simp[execOp,resolve,invoke,builtin,j,Builtin.len_,run_underlying ht.out.1,goInt,z]
  ·rw[p]at j;simp[execOp,resolve,invoke,builtin,j,Builtin.len_,run_underlying ht.out.1,goInt]
theorem x6{x y:Operand}{t e v:TypeId}{j b k n:Nat}{I:List TC}{F:IntKind}{i:Int}[ht:TySl P t e j b](D:opv fr x=some (.s (.one (.mut k))))(C:C2 ob k=some (.growT v n j I))
  (E:opv fr y=some (H5 (.int F i))) (z:0<=i) (B:i<n):Neu P ⟨dst,.indexAddr t x y,ty,pos,af,gd⟩ fr ob (fun H=>H=.s (.one (.mref k j i.toNat 0))) :=
 D4 fun S G a w h=>by
  obtain⟨q,_⟩:=F1 h D;obtain⟨K,c,_⟩:=h.obs k _ C;rcases c.2 with ⟨l,J⟩ | ⟨g,cap,cur,l,_⟩
  ·omega
  ·rw[l]at q;refine⟨.pointer (some ⟨g,i.toNat*j,none⟩),?_,g,n,cap,l,rfl⟩;simp only[execOp,q,E8 h E];refine I6 ?_;have hb:0<=i/\i<(n:Int):=⟨z,B⟩
   simp[Instr.indexAt,run_underlying ht.out.1,asIntOf,hb,H6 ht.size,Addr.add_lit]
theorem lM{x:Operand}{t e:TypeId}{k q o n:Nat}{i:Nat}{v:List TC}{s:TC}[ht:TyOne P t](F:opv fr x=some (.s (.one (.mref k i q o))))(B:C2 ob k=some (.growT e n i v))(E:v[q*i+o]?=some s) :
  Neu P ⟨dst,.load t x,ty,pos,af,gd⟩ fr ob (fun H=>H=.s (.one s)) :=
 D4 fun S G a w h=>by
  obtain⟨b,m,y,A,D⟩:=F1 h F;obtain⟨I,j,_,C,ha⟩:=h.obs k _ B;obtain⟨z,p,u⟩:=ha.get _ s E;have:=j.cells (g:=b) (by rw[A];rfl) (q*i+o) z p;refine⟨z,?_,u⟩;simp only[execOp,D];refine I6 ?_;have c:w.cell? ⟨b,q*i+o,none⟩=some z:=by simpa[Addr.add_lit] using this
  simp[Instr.loadAt,Instr.sureAddr,L3 (ht:=ht) c]
theorem o7{x y:Operand}{k k2 n m:Nat}{H D:Nat}{ts us:List TC}{t e:TypeId}[ht:TySl P t e H D](hx:opv fr x=some (.s (.one (.mut k))))(W:C2 ob k=some (.growT e n H ts))
  (hy:opv fr y=some (.s (.one (.mut k2)))) (X:C2 ob k2=some (.tarr m H us)) (J:n+m<=1073741824) (hp:Nat.blt k 1000000=true) :
  EffV P ⟨dst,.call ⟨.builtin .append,#[x,y],#[t,t]⟩,ty,pos,af,gd⟩ fr ob (.s (.one (.mut k))) (Fr.forget k fr) ((k,.growT e (n+m) H ((ts++us).map (TC.forget k)))::Obs.forget k ob):=by
 intro S G a w h;have ag:=ht.out.2.2.1;obtain⟨aa,_⟩:=F1 h hx;obtain⟨O,_⟩:=F1 h hy;obtain⟨b2,vs,t2,U,ah,V,N,E⟩:=h.obs k2 _ X;rw[U]at O;have ab:vs.length=m*H:=by rw[<-E.length,N]
 obtain⟨ws,C,_,ac,ae⟩:=h.obs k _ W;obtain⟨v',w',L,A,f,q,Q⟩:=i6 (P:=P) (ty:=ty) S.B ht C h.size (u:=a.eval y) (ad:=some ⟨b2,0,none⟩) (m:=m) (c:=m) (news:=vs) O (by intro h;cases h) (Nat.le_refl _) ab
  (fun b o hb j z hz=>by
   injection hb with hb;injection hb with e1 e2;subst e1;subst e2
   rw[Lib.cell_of_heap V]
   simpa using hz)
  (.inr ⟨b2,0,rfl⟩) (pG E) J
 have I:(G k).ownBlock=blk (G k):=T0 (P8 C);have F:∀b i z,D1 (Mut S ob G) w b i z->w'.cell? ⟨b,i,none⟩=some z:=by
  intro b i z Z;have Y:b<w.heap.size:=World.block_lt_of_cell? w _ Z.1;by_cases hb:blk (G k)=some b
  ·exact absurd (Or.inr ⟨k,_,W,hb,trivial⟩) Z.2
  ·rw[World.cell?_of_block (w:=w) (a:=⟨b,i,none⟩) (f.block b Y (by rw[I];exact fun e=>hb e.symm))];exact Z.1
 have M:=h.turn (o':=.growT e (n+m) H ((ts++us).map (TC.forget k))) (u':=v') (by simpa using hp) W f.os f.tape f.output f.size (fun j hj hb=>f.block j hj (by rw[I];exact fun e=>hb e.symm)) F q
  (by
   intro b i hb ho;rcases q b ho.1 with h1 | h1
   ·exact⟨h1,trivial⟩
   ·omega)
  (fun rd K G' R=>by
   refine⟨_,A,by omega,by rw[IX,HW,ac,N,IU],?_⟩
   exact ((ae.append E).mono fun _ _=>TC.rep_mono K).map (TC.forget k) fun _ _=>TC.rep_forget R)
 exact F2 (w':=w') (v:=v') (by simp[execOp,resolve,invoke,builtin,aa,L]) ⟨upd G k v',M,(F7 _ _ _).symm,x2 A⟩
section
variable {P:Program}{nt:Nat}{fr gf:Fr}{ob:Obs}
theorem TC.forget_comm(k q:Nat)(t:TC):(t.forget q).forget k=(t.forget k).forget q:=by
 cases t with
 | p c=>rfl
 | buf a α d c l=>cases hb:Nat.beq a k<;>cases b:Nat.beq a q<;>simp[TC.forget,hb,b]
 | ref a o=>cases hb:Nat.beq a k<;>cases b:Nat.beq a q<;>simp[TC.forget,hb,b]
 | eref α d c x o=>rfl
 | «mut» a=>cases hb:Nat.beq a k<;>cases b:Nat.beq a q<;>simp[TC.forget,hb,b]
 | mref a d i o=>cases hb:Nat.beq a k<;>cases b:Nat.beq a q<;>simp[TC.forget,hb,b]
 | any=>rfl
 | clo f j h=>cases hb:(aX k j||aX k h)<;>cases b:(aX q j||aX q h)<;>simp[TC.forget,hb,b]
 | msl a d o n=>cases hb:Nat.beq a k<;>cases b:Nat.beq a q<;>simp[TC.forget,hb,b]
 | ifc t a o=>cases hb:Nat.beq a k<;>cases b:Nat.beq a q<;>simp[TC.forget,hb,b]
 | fnc f m=>rfl
 | fncE f α d c x=>rfl
 | full α d c l=>rfl
theorem S1.forget_comm(k q:Nat)(s:S1):(s.forget q).forget k=(s.forget k).forget q:=by
 cases s with
 | one t=>simp only[S1.forget,TC.forget_comm k q t]
 | agg a=>simp only[S1.forget,JD];congr 1;exact List.map_congr_left fun t _=>TC.forget_comm k q t
theorem SV.forget_comm(k q:Nat)(s:SV):(s.forget q).forget k=(s.forget k).forget q:=by
 cases s with
 | s x=>simp only[SV.forget,S1.forget_comm k q x]
 | tup l=>simp only[SV.forget,JD];congr 1;exact List.map_congr_left fun t _=>S1.forget_comm k q t
 | any=>rfl
 | un=>rfl
theorem Fr.forget_comm(k q:Nat)(fr:Fr):Fr.forget k (Fr.forget q fr)=Fr.forget q (Fr.forget k fr):=by
 unfold Fr.forget;rw[JD,JD];exact List.map_congr_left fun p _=>by simp only[Function.comp];rw[SV.forget_comm]
theorem o8(k:Nat):∀(a:List Nat) (fr:Fr),C5 a (Fr.forget k fr)=Fr.forget k (C5 a fr)
 | [],fr=>rfl
 | q::a,fr=>by
  show C5 a (Fr.forget q (Fr.forget k fr))=Fr.forget k (C5 a (Fr.forget q fr));rw[Fr.forget_comm q k,o8 k a]
theorem U7{k:Nat}:∀{a:List Nat} {fr:Fr},N2 a k=true->Fr.forget k (C5 a fr)=C5 a fr
 | [],fr,h=>by cases h
 | q::a,fr,h=>by
  show Fr.forget k (C5 a (Fr.forget q fr))=C5 a (Fr.forget q fr);by_cases b:k=q
  ·subst b;rw[o8,Fr.forget_idem]
  ·have c:N2 a k=true:=by
    rw[oZ]at h ⊢;rcases HZ.1 h with h | h
    ·exact absurd h b
    ·exact h
   exact U7 c
theorem o9{a:List Nat}(k:Nat)(b:N2 a k=true)(h:Tail (C5 a gf) fr):Tail (C5 a gf) (Fr.forget k fr):=by
 have:=H4 k h
 rwa[U7 b]at this
theorem N5:∀{ks:List Nat} {gf:Fr},High gf->High (C5 ks gf)
 | [],gf,h=>h
 | k::ks,gf,h=>N5 (ks:=ks) (oX (k:=k) h)
theorem dL:∀{ks:List Nat} {gf:Fr} {i:Nat} {s:SV},C8 (C5 ks gf) i=some s->∃c,C8 gf i=some c/\∀(b:Rd) (G:Gh) (u:Value),c.rep b G u->s.rep b G u
 | [],gf,i,s,h=>⟨s,h,fun _ _ _ h=>h⟩
 | k::ks,gf,i,s,h=>by
  obtain⟨s1,a,e⟩:=dL (ks:=ks) (gf:=Fr.forget k gf) h;rw[L5]at a;cases d:C8 gf i with
  | none=>rw[d]at a;cases a
  | some c =>
   rw[d]at a;cases a;exact⟨c,rfl,fun b G u f=>e b G u (SV.rep_forget (G':=G) (fun _ _=>rfl) f)⟩
end
def TC.ren(j k:Nat):TC->TC
 | .buf a α d c g=>cond (Nat.beq a j) (.buf k α d c g) (.buf a α d c g)
 | .ref a off=>cond (Nat.beq a j) (.ref k off) (.ref a off)
 | .mut a=>cond (Nat.beq a j) (.mut k) (.mut a)
 | .mref a d i off=>cond (Nat.beq a j) (.mref k d i off) (.mref a d i off)
 | .msl a d off n=>cond (Nat.beq a j) (.msl k d off n) (.msl a d off n)
 | .ifc t a off=>cond (Nat.beq a j) (.ifc t k off) (.ifc t a off)
 | t=>t
def Ob.ren(j k:Nat):Ob->Ob
 | .box d=>.box (d.map (TC.ren j k))
 | .tbx e d=>.tbx e (d.map (TC.ren j k))
 | .tarr n f d=>.tarr n f (d.map (TC.ren j k))
 | .growA e α f c h p d=>.growA e α f c h p (d.map (TC.ren j k))
 | .growT e n f d=>.growT e n f (d.map (TC.ren j k))
 | o=>o
theorem HC{g:Rd}{G:Gh}{j k:Nat}(d:G k=G j):∀{t:TC} {u:Value},t.rep g G u->(t.ren j k).rep g G u
 | .p c,u,h=>h
 | .buf k' α ec c xs,u,h=>by
  simp only[TC.ren];cases hb:Nat.beq k' j
  ·exact h
  ·have e:k'=j:=Nat.eq_of_beq_eq_true hb;subst e;simp only[cond,TC.rep];rw[d];exact h
 | .ref k' off,u,h=>by
  simp only[TC.ren];cases hb:Nat.beq k' j
  ·exact h
  ·have e:k'=j:=Nat.eq_of_beq_eq_true hb;subst e;simp only[cond,TC.rep];rw[d];exact h
 | .eref _ _ _ _ _,u,h=>h
 | .mut k',u,h=>by
  simp only[TC.ren];cases hb:Nat.beq k' j
  ·exact h
  ·have e:k'=j:=Nat.eq_of_beq_eq_true hb;subst e;simp only[cond,TC.rep];rw[d];exact h
 | .mref k' ec i off,u,h=>by
  simp only[TC.ren];cases hb:Nat.beq k' j
  ·exact h
  ·have e:k'=j:=Nat.eq_of_beq_eq_true hb;subst e;simp only[cond,TC.rep];rw[d];exact h
 | .any,u,h=>h
 | .clo _ _ _,_,h=>h
 | .msl k' ec off n,u,h=>by
  simp only[TC.ren];cases hb:Nat.beq k' j
  ·exact h
  ·have e:k'=j:=Nat.eq_of_beq_eq_true hb;subst e;simp only[cond,TC.rep];rw[d];exact h
 | .full _ _ _ _,u,h=>h
 | .ifc t k' off,u,h=>by
  simp only[TC.ren];cases hb:Nat.beq k' j
  ·exact h
  ·have e:k'=j:=Nat.eq_of_beq_eq_true hb;subst e;simp only[cond,TC.rep];rw[d];exact h
 | .fnc _ _,u,h=>h
 | .fncE _ _ _ _ _,u,h=>h
theorem ObOk.ren{S:Ctx}{r:Rd}{G:Gh}{w:World}{u:Value}{j k:Nat}{o:Ob}(l:G k=G j)(h:ObOk S r G w u o):ObOk S r G w u (o.ren j k):=by
 cases o with
 | box m=>obtain⟨b,g,t,a,d,f⟩:=h;exact⟨b,g,t,a,d,f.map (TC.ren j k) fun _ _=>HC l⟩
 | tbx e m=>obtain⟨b,g,a,d,f⟩:=h;exact⟨b,g,a,d,f.map (TC.ren j k) fun _ _=>HC l⟩
 | tarr n i m=>obtain⟨b,g,t,a,y,d,z,f⟩:=h;exact⟨b,g,t,a,y,d,by simpa using z,f.map (TC.ren j k) fun _ _=>HC l⟩
 | arr α i c s=>exact h
 | spare n i e=>exact h
 | grow e α i c s=>exact h
 | map κ B A=>exact h
 | growA e α i c s p m=>obtain⟨g,a,d,f,q,v,x⟩:=h;exact⟨g,a,d,f,by simpa using q,v,x.map (TC.ren j k) fun _ _=>HC l⟩
 | growT e n i m=>obtain⟨g,a,d,f,q⟩:=h;exact⟨g,a,d,by simpa using f,q.map (TC.ren j k) fun _ _=>HC l⟩
section
variable {P:Program}{nt:Nat}{fr gf:Fr}{ob:Obs}
theorem TC.free_forget(k:Nat)(t:TC):(t.forget k).free k=true:=by
 cases t with
 | p c=>rfl
 | buf a α b c h=>cases hb:Nat.beq a k<;>simp[TC.forget,TC.free,hb]
 | ref a o=>cases hb:Nat.beq a k<;>simp[TC.forget,TC.free,hb]
 | eref α b c x o=>rfl
 | «mut» a=>cases hb:Nat.beq a k<;>simp[TC.forget,TC.free,hb]
 | mref a b i o=>cases hb:Nat.beq a k<;>simp[TC.forget,TC.free,hb]
 | any=>rfl
 | clo f g d =>
  simp only[TC.forget];cases hb:(aX k g||aX k d)
  ·rw[IZ]at hb;simp[TC.free,hb.1,hb.2]
  ·rfl
 | msl a b o n=>cases hb:Nat.beq a k<;>simp[TC.forget,TC.free,hb]
 | ifc t a o=>cases hb:Nat.beq a k<;>simp[TC.forget,TC.free,hb]
 | fnc f j=>rfl
 | fncE f α b c x=>rfl
 | full α b c h=>rfl
theorem S1.free_forget(k:Nat)(s:S1):(s.forget k).free k=true:=by
 cases s with
 | one t=>exact TC.free_forget k t
 | agg b =>
  show (b.map (TC.forget k)).all (TC.free k)=true;rw[List.all_map,List.all_eq_true];exact fun t _=>TC.free_forget k t
theorem SV.free_forget(k:Nat)(s:SV):(s.forget k).free k=true:=by
 cases s with
 | s x=>exact S1.free_forget k x
 | tup l =>
  show (l.map (S1.forget k)).all (S1.free k)=true;rw[List.all_map,List.all_eq_true];exact fun t _=>S1.free_forget k t
 | any=>rfl
 | un=>rfl
theorem kK{k:Nat}{a:List Nat}{gf:Fr}(b:N2 a k=true):∀p∈C5 a gf,p.2.free k=true:=by
 rw[<-U7 b];intro p c;obtain⟨q,_,rfl⟩:=IQ.1 c;exact SV.free_forget k q.2
end
def Cell.flat:Cell->Bool
 | .v _=>true
 | _=>false
def PV.flat:PV->Bool
 | .one c=>c.flat
 | .agg b=>b.all Cell.flat
theorem aK{x y:Code}{Q2 Q3:Post}(fr':Fr)(ob':Obs)(b:WpC P nt x fr ob (j9 (fun f o=>Sees P nt f o fr' ob') Q3))(k:WpC P nt y fr' ob' Q2):WpC P nt x fr ob (j9 (fun f o=>WpC P nt y f o Q2) Q3) :=
 b.mono fun e f o a=>by
  cases e with
  | normal=>exact Q7 a k
  | _=>exact a
theorem xV{x y:Code}{Q2 Q3:Post}{X:Type}(E:X->Fr×Obs)(I:X->Prop)(d:WpC P nt x fr ob (j9 (fun f o=>∃v,I v/\Sees P nt f o (E v).1 (E v).2) Q3))(k:∀v,I v->WpC P nt y (E v).1 (E v).2 Q2):WpC P nt x fr ob (j9 (fun f o=>WpC P nt y f o Q2) Q3) :=
 d.mono fun e f o a=>by
  cases e with
  | normal=>obtain⟨v,c,b⟩:=a;exact Q7 b (k v c)
  | _=>exact a
theorem mX{x Y:Operand}{k:Nat}{α:Type}{d D:Nat}{c:α->Nat->Cell}{C:List α}{t e:TypeId}{X:IntKind}{j:Int}[ht:TySl P t e d D](hx:opv fr x=some (.s (.one (.mut k))))(hk:C2 ob k=some (.grow e α d c C))
  (O:opv fr Y=some (H5 (.int X j))) (Z:0<=j) (h2:j<=C.length) (hp:Nat.blt k 1000000=true) :
  EffV P ⟨dst,.slice t x none (some Y) none,ty,pos,af,gd⟩ fr ob (.s (.one (.mut k))) (Fr.forget k fr) ((k,.grow e α d c (C.take j.toNat))::Obs.forget k ob):=by
 intro S G a w h;obtain⟨N,ab⟩:=F1 h hx;obtain⟨ws,A,aa,U⟩:=h.obs k _ hk;have R:j.toNat<=C.length:=by omega
 have T:j.toNat*d<=C.length*d:=IG _ R;obtain⟨F,L,f,p⟩:∃F,(execOp a.eval ⟨dst,.slice t x none (some Y) none,ty,pos,af,gd⟩).run P w=.ok (.value F) w/\blk F=blk (G k)/\w.ownsRow S.B e d F j.toNat (ws.take (j.toNat*d)):=by
  obtain⟨H,I⟩:=ht.elem;rcases A.2 with ⟨J,ad⟩ | ⟨g,cap,cur,J,hbg,hgh,hnc,hcm,hcs,htake⟩
  ·refine⟨.slice none 0 0,?_,by rw[J],?_⟩
   ·simp only[execOp,N,J,E8 h O,Option.map_some,Option.map_none];refine I6 ?_;simp only[Instr.sliceAt,Sem.run_bind,run_underlying ht.out.1,Result.andThen_ok];rw[run_slice_h w t none 0 0 H X j Z (by omega),I,H6 ht.size];have Q:j.toNat=0:=by omega
    simp[sliced,Q]
   ·have Q:j.toNat=0:=by omega
    rw[Q];simp only[Nat.zero_mul,List.take_zero];exact World.ownsRow_nil w _ _ _
  ·refine⟨.slice (some ⟨g,0,none⟩) j.toNat cap,?_,by rw[J];rfl,?_⟩
   ·simp only[execOp,N,J,E8 h O,Option.map_some,Option.map_none];refine I6 ?_;simp only[Instr.sliceAt,Sem.run_bind,run_underlying ht.out.1,Result.andThen_ok];rw[run_slice_h w t (some ⟨g,0,none⟩) C.length cap H X j Z (by omega),I,H6 ht.size];simp[sliced,Addr.add_lit]
   ·refine⟨by rw[IF,A.1];omega,.inr ⟨g,cap,cur,rfl,hbg,hgh,by omega,hcm,hcs,?_⟩⟩;rw[<-htake,List.take_take,Nat.min_eq_left T]
 have M:=h.turn (o':=.grow e α d c (C.take j.toNat)) (u':=F) (w1:=w) (by simpa using hp) hk rfl rfl rfl (Nat.le_refl _) (fun _ _ _=>rfl) (fun b i z hr=>hr.1)
  (fun b hb=>.inl (by rw[<-f];exact hb)) (fun b i hb ho=>⟨by rw[<-f];exact ho.1,trivial⟩)
  (fun rd K G' ac=>by
   have E:(C.take j.toNat).length=j.toNat:=by rw[IF];omega
   refine⟨ws.take (j.toNat*d),by rw[E];exact p,by rw[E];omega,?_⟩;intro i hi q hq;rw[E]at hi;obtain⟨z,V,W⟩:=U i (by omega) q hq;refine⟨z,?_,?_⟩
   ·have:(i+1)*d<=j.toNat*d:=IG _ hi;rw[IU,Nat.one_mul]at this;rw[List.getElem?_take,A4 (by omega)];exact V
   ·rw[List.getElem_take];exact Cell.rep_mono K _ _ W)
 exact F2 (w':=w) (v:=F) L ⟨upd G k F,M,(F7 _ _ _).symm,x2 p⟩
abbrev xW(T:TypeId)(e:Int):List PanicEntry:=[{ v:=.iface T (.int .i64 e),recovered:=false }]
def BO(P:Program)(T:TypeId)(fn:Func)(f:List Nat)(gf:Fr)(b:List S1->Obs->Prop)(d:Int->Obs->Prop):Post
 | .normal,fr,ob | .ret,fr,ob=>∃g ob',RetS P fn fr ob g/\Tail (C5 f gf) fr/\(∀k o,C2 ob' k=some o->C2 ob k=some o)/\b g ob'
 | .panic ch,fr,ob=>∃e ob',ch=xW T e/\Tail (C5 f gf) fr/\(∀k o,C2 ob' k=some o->C2 ob k=some o)/\d e ob'
 | _,_,_=>False
def MetX(P:Program)(T:TypeId)(f:FuncId)(g:List S1)(gf:Fr)(ob:Obs)(l:List Nat)(h:List S1->Obs->Prop)(j:Int->Obs->Prop):Prop :=
 Callable P f/\(High gf->∀S G a w (b:List Value),Sim P S gf ob G a w->All2 (S1.rep (D1 (Mut S ob G) w) G) g b ->
  Calls P f b.toArray w (fun e w'=>(∃v m ob' G',e=.returned v/\h m ob'/\T3 (D1 (Mut S ob' G') w') G' m v/\Sim P S (C5 l gf) ob' G' a w') \/
   ∃c ob' G',e=.panicked (xW T c)/\j c ob'/\Sim P S (C5 l gf) ob' G' a w'))
variable {T:TypeId}
theorem MetX.intro{f:FuncId}{fn:Func}{c:Code}{args:List S1}{gf:Fr}{F:List Nat}{A:List S1->Obs->Prop}{J:Int->Obs->Prop}(hf:P.funcs[f]?=some fn)(I:(fn.name == "runtime.NumGoroutine")=false)(hb:fn.body=some c)(R:Nat.ble args.length fn.ntmps=true)(ac:Nat.ble fn.ntmps 1000000=true)
  (h6:WpC P fn.ntmps c (U4 0 args++gf) ob (BO P T fn F gf A J)):MetX P T f args gf ob F A J:=by
 refine⟨⟨fn,hf,I,by simp[hb]⟩,fun H S G a w q h B=>?_⟩;have af:q.length=args.length:=B.length.symm;have ae:args.length<=fn.ntmps:=by simpa using R
 have ab:fn.ntmps<=1000000:=by simpa using ac
 let S':Ctx:={ S with nt:=fn.ntmps,df:=[] }
 have hs:Sim P S' (U4 0 args++gf) ob G { tmps:=q.toArray++Array.replicate (fn.ntmps-q.toArray.size) undef,defers:=[] } w:=by
  refine { h with nt:=by simp[S'];omega,ntb:=ab,defers:=rfl,facts:=?_ };intro i s y;rw[Z5]at y;cases C:C8 (U4 0 args) i with
  | some Y =>
   rw[C]at y;have y:some Y=some s:=y;cases y;obtain⟨_,p,V,rfl⟩:=bZ 0 args i _ C;obtain⟨u,hu,hr⟩:=B.get (i-0) p V;have aa:i<q.length:=(List.getElem?_eq_some_iff.1 hu).1;have Q:(q.toArray++Array.replicate (fn.ntmps-q.toArray.size) undef).getD i undef=u:=by
    rw[Array.getD_eq_getD_getElem?,Array.getElem?_append_left (by simpa using aa)];simpa using congrArg (fun x=>x.getD undef) hu
   rw[Ctx.sl_lt (by omega),Q];exact hr
  | none =>
   rw[C]at y;have y:C8 gf i=some s:=y;have h7:=H i s y;have N:=h.facts i s y;rw[Ctx.sl_ge h7]at N ⊢;exact N
 refine X7 hf hb (wp_mono (h6 S' _ _ w rfl hs) ?_);rintro e K w' ⟨fr',ob',G',hq,m⟩;have E:∀(L:List Deferred) (w':World),Sim P { S' with df:=L } fr' ob' G' K w'->∀j:Obs,Tail (C5 F gf) fr'->(∀k o,C2 j k=some o->C2 ob' k=some o)->Sim P S (C5 F gf) j G' a w':=by
  intro L w' m j C M
  have X:=(m.weaken (fr':=C5 F gf) (fun i s y=>by
   obtain⟨Y,h0⟩:=T4 y
   exact C i s (H i Y h0) y)).weakenO M
  refine { X with nt:=h.nt,ntb:=h.ntb,defers:=h.defers,facts:=fun i s y=>?_ };obtain⟨Y,h0⟩:=T4 y;have h7:=H i Y h0;have N:=X.facts i s y;rw[Ctx.sl_ge h7]at N ⊢;exact N
 have fin:(∃rs j,RetS P fn fr' ob' rs/\Tail (C5 F gf) fr'/\(∀k o,C2 j k=some o->C2 ob' k=some o)/\A rs j)->∀L w',Sim P { S' with df:=L } fr' ob' G' K w'->∃v,(results fn K.tmps).run P w'=.ok v w'/\((∃Z rs ob' G',Ending.returned v=.returned Z/\A rs ob'/\T3 (D1 (Mut S ob' G') w') G' rs Z/\Sim P S (C5 F gf) ob' G' a w')\/∃c ob' G',Ending.returned v=.panicked (xW T c)/\J c ob'/\Sim P S (C5 F gf) ob' G' a w'):=by
  rintro⟨rs,j,hr,C,M,V⟩ L w' m;obtain⟨v,hv,W⟩:=hr _ G' K w' m;have U:∀b i,Mut S' j G' b i->Mut S' ob' G' b i:=by
   rintro b i (hm | ⟨k,o,hk,ad⟩)
   ·exact .inl hm
   ·exact .inr ⟨k,o,M k o hk,ad⟩
  exact⟨v,hv,.inl ⟨v,rs,j,G',rfl,V,SV.rep_mono (fun b i z hz=>⟨hz.1,fun hm=>hz.2 (U b i hm)⟩) W,E L w' m j C M⟩⟩
 cases e with
 | normal=>exact m.leave rfl (fin hq)
 | ret=>exact m.leave rfl (fin hq)
 | panic ch =>
  obtain⟨c,j,rfl,C,M,V⟩:=hq;have m:=m.resolve_right fun h=>nomatch h.1;show LeavesInM Fence.wide 0 P fn K.tmps _ K.defers _ w';rw[m.defers];exact .inr ⟨c,j,G',rfl,V,E [] w' m j C M⟩
 | _=>exact hq.elim
section
variable {P:Program}{dst:Option Tmp}{ty:TypeId}{pos:String}{af:Array Edge}{gd:Option (Nat×Bool)}{fr:Fr}{ob:Obs}
def O0{κ:Type}[DecidableEq κ]:List (κ×Cell)->κ->Cell->List (κ×Cell)
 | [],a,c=>[(a,c)]
 | (k,x)::r,a,c=>if k=a then (k,c)::r else (k,x)::O0 r a c
theorem fT{κ:Type}[DecidableEq κ]{a:κ}{c:Cell}:∀{b:List (κ×Cell)},J6 b a=none->O0 b a c=b++[(a,c)]
 | [],_=>rfl
 | (k,x)::r,h=>by
  unfold J6 at h;unfold O0;split at h
  ·cases h
  ·rename_i d;rw[A5 d,fT h];rfl
theorem pK{κ:Type}[DecidableEq κ]{g:κ->Value}{A:TypeDesc}(f:∀a,MapKept.IsKey A (g a))(l:∀a b,g a=g b->a=b){B:Rd}(a:κ){c:Cell}{u:Value}(D:c.rep B u):∀(d:List (κ×Cell)) (n:List MapEntry) (i:Nat),
  All2 (fun (q:κ×Cell) (e:MapEntry)=>e.key=g q.1/\q.2.rep B e.val) d n->J6 d a≠none ->
  ∃p v e,Instr.findNow A (g a) n i=some (some (i+p,v))/\n[p]?=some e/\e.key=g a/\All2 (fun (q:κ×Cell) (e:MapEntry)=>e.key=g q.1/\q.2.rep B e.val) (O0 d a c) (n.modify p fun e=>{ e with key:=g a,val:=u })
 | [],[],_,_,h=>absurd rfl h
 | [],_::_,_,h,_=>h.elim
 | _::_,[],_,h,_=>h.elim
 | (k,x)::d,e::n,i,h,hn=>by
  obtain⟨⟨w,G⟩,C⟩:=h;obtain⟨r,L,j⟩:=MapKept.sameNow_of_keys (f a) (f k);have o:Instr.sameNow A (g a) e.key=some r:=by rw[w];exact L
  by_cases t:k=a
  ·subst t;have:r=true:=j.2 rfl;subst this;refine⟨0,e.val,e,by simp[Instr.findNow,o],rfl,w,?_⟩;unfold O0;rw[A4 rfl];exact⟨⟨rfl,D⟩,C⟩
  ·have:r=false:=by
    cases r
    ·rfl
    ·exact absurd (l _ _ (j.1 rfl)).symm t
   subst this;have z:J6 d a≠none:=by
    intro F;apply hn;unfold J6;rw[A5 t];exact F
   obtain⟨p,v,E,H,I,J,K⟩:=pK f l a D d n (i+1) C z;refine⟨p+1,v,E,?_,by simpa using I,J,?_⟩
   ·simp only[Instr.findNow,o,H];rw[show i+1+p=i+(p+1) by omega]
   ·unfold O0;rw[A5 t];exact⟨⟨w,G⟩,K⟩
theorem xX{x y v:Operand}{t kt:TypeId}{X:TypeDesc}{z:Value}{k:Nat}{κ:Type}[DecidableEq κ]{q:κ->Value}{A:List (κ×Cell)}(a0:κ){c:Cell}[ht:TyMap P t kt X z](V:opv fr x=some (.s (.one (.mut k))))(J:C2 ob k=some (.map κ q A))
  (W:opv fr y=some (H5 (q a0))) (T:opv fr v=some (.s (.one (.p c)))) (Q:F8 v=true) (f:∀a,MapKept.IsKey X (q a)) (B:∀a b,q a=q b->a=b) :
  Eff P ⟨none,.mapUpdate t x y v,ty,pos,af,gd⟩ fr ob fr ((k,.map κ q (O0 A a0 c))::ob):=by
 cases L:J6 A a0 with
 | none=>rw[fT L];exact xS a0 V J W T Q f B L
 | some c0 =>
  intro S G a w h;obtain⟨et,u1,Y,u3,u4⟩:=ht.out;obtain⟨R,_⟩:=F1 h V;obtain⟨b,E,l,H,I,ha⟩:=h.obs k _ J;rw[H]at R;have N:c.rep (D1 (Mut S ob G) w) (a.eval v):=K0 h T Q;obtain⟨p,v0,e,O,h5,h6,h7⟩:=pK f B a0 N A E.toList 0 ha (by rw[L];simp);rw[Nat.zero_add]at O;have F:(E[p]?.map (·.key)).getD (q a0)=q a0:=by
   rw[<-Array.getElem?_toList,h5];exact h6
  obtain⟨g5,g6⟩:=MapKept.heap_set (o':=.map (E.modify p fun e=>{ e with key:=q a0,val:=a.eval v }) l) I;have he:(execOp a.eval ⟨none,.mapUpdate t x y v,ty,pos,af,gd⟩).run P w=.ok .skip { w with heap:=w.heap.setIfInBounds b (.map (E.modify p fun e=>{ e with key:=q a0,val:=a.eval v }) l) }:=by
   simp only[execOp,R,E8 h W];simp only[Instr.mapUpdate,Sem.run_bind,run_underlying u1,Result.andThen_ok,MapKept.run_getObj_map I,MapKept.run_checkKey Y (f a0),MapKept.run_findKey Y O,F,MapKept.run_keyThatStays (f a0),MapKept.run_setObj_map _ I];rfl
  unfold Does;rw[he];have C:blk (G k)=some b:=by rw[H];rfl
  refine⟨G,h.write J C (fun i=>⟨C,trivial⟩) (fun i=>⟨C,trivial⟩) rfl rfl rfl (by simp) (fun j _ K=>g6 j K) ?_⟩;intro rd M;refine⟨b,_,_,H,g5,?_⟩;rw[Array.toList_modify];exact h7.mono fun _ _ ⟨Z,e2⟩=>⟨Z,Cell.rep_mono M _ _ e2⟩
theorem mY{x y:Operand}{t yt:TypeId}{l m:List UInt8}(a:opv fr x=some (L6 l))(c:opv fr y=some (L6 m)):Neu P ⟨dst,.binOp .geq t x y yt,ty,pos,af,gd⟩ fr ob (fun d=>d=O4 (!Op.bytesLess l m)) :=
 V0 a c (fun _=>rfl) (fun w=>by simp[binOp,Op.stringOp]) rfl
theorem uF{f:FuncId}{g:Operand}{d:Array Operand}{m:Array TypeId}{ps rs:List PV}(q:FnOk P f ps (fun r=>r=rs))(z:opv fr g=some (H5 (.func (.func f) #[] #[])))(ha:w7 fr d.toList=some ps)(s:d.toList.all F8=true) :
  Neu P ⟨dst,.call ⟨.value g,d,m⟩,ty,pos,af,gd⟩ fr ob (fun E=>E=oQ rs):=by
 intro S G a w h;have p:=E8 h z;have j:=q.2 w (Mut S ob G) _ h.grdW (fun b i B=>h.mut_lt B) (bW h d.toList ps ha s);unfold Does;have x:(execOp a.eval ⟨dst,.call ⟨.value g,d,m⟩,ty,pos,af,gd⟩).run P w=.ok (.enter f (d.toList.map a.eval).toArray) w:=by
  have:=M1 (P:=P) (f:=f) (args:=(d.toList.map a.eval).toArray) (w:=w) q.1;simp only[execOp,resolve,p,Deferred.ofValue,Sem.run_bind,Sem.run_pure,Result.andThen_ok,invoke];rw[show (#[]:Array Value)++Array.map a.eval d++#[]=(d.toList.map a.eval).toArray by obtain⟨l⟩:=d;simp];exact this
 rw[x];refine j.mono ?_;rintro e w' ⟨v,D,rfl,rfl,C,hb⟩;exact⟨v,rfl,hb,_,rfl,C.sv⟩
section
variable {nt:Nat}{ops:Array Oper}{rest:List Oper}{Q:Post}{d:Nat}
end
end
class TyArr (P:Program) (t:TypeId) (e:outParam TypeId) (n:outParam Nat) (es:outParam Nat):Prop where
 out:P.underlying t=some (.array n e)/\(P.info? e).map (·.size)=some es
class TyArrZ (P:Program) (t:TypeId) (zs:outParam (List Value)) (offs:outParam (List (Nat×Nat))):Prop where
 out:∃n e es z,P.underlying t=some (.array n e)/\(P.info? t).bind (·.zero)=some z/\z.cells.toList=zs/\zs.all (·.oneCell')=true/\(P.info? e).map (·.size)=some es/\offs=(List.range n).map fun i=>(i*es,es)
theorem CM{x:Operand}{e:TypeId}{s:S1}{d:List Cell}(E:opv fr x=some (.s s))(y:F8 x=true)(C:v8 s.cells=some d) :
  Neu P ⟨dst,.box e x,ty,pos,af,gd⟩ fr ob (fun F=>F=.s (.one (.eref Unit d.length (fun _ j=>d.getD j (.v undef)) () 0))):=by
 intro S G a w h;have D:(SV.s s).rep (D1 (Mut S ob G) w) G (a.eval x):=K0 h E y;have k:=Y3 C (GY D);have g:Below w.heap.size w (w.alloc (.cells (a.eval x).cells e)):=(Below.refl _ _).alloc (Nat.le_refl _) _;refine F2 (w':=w.alloc (.cells (a.eval x).cells e)) (v:=.pointer (some ⟨w.heap.size,0,none⟩)) ?_ ⟨g,_,rfl,w.heap.size,0,rfl,?_⟩
 ·simp[execOp,Instr.box,newVar,newRow]
 ·intro j u;obtain⟨z,m,q⟩:=k.get j _ (HQ u);refine⟨z,⟨cell_of_heap (heap_alloc_new w _) (by rw[Nat.zero_add];simpa using m),fun B=>absurd (h.mut_lt B) (Nat.lt_irrefl _)⟩,?_⟩;show (d.getD j (.v undef)).rep _ z;rw[show d.getD j (.v undef)=d[j] by simp[HY,u]];exact Cell.rep_mono (fun _ _ _ A=>u9 g A) _ _ q
theorem pL{f:FuncId}{x:Operand}{α:Type}{d:Nat}{c:α->Nat->Cell}{v:α}(j:opv fr x=some (.s (.one (.eref α d c v 0)))) :
  Neu P ⟨dst,.makeFunc (.func f) #[] #[x],ty,pos,af,gd⟩ fr ob (fun l=>l=.s (.one (.fncE f α d c v))) :=
 D4 fun S G a w h=>by
  obtain⟨b,o,i,g⟩:=F1 h j;refine⟨.func (.func f) #[] #[a.eval x],?_,b,o,?_,g⟩
  ·simp[execOp,Instr.makeFunc]
  ·rw[i];rfl
theorem AE{f:FuncId}{g:Operand}{m:Array Operand}{H:Array TypeId}{α:Type}{O:Nat}{c:α->Nat->Cell}{v:α}{args:List S1}{N:Cell}
  (U:Met P f (args++[.one (.eref α O c v 0)]) [] [] [] (fun V ob'=>V=[.one (.p N)]/\ob'=[])) (hg:opv fr g=some (.s (.one (.fncE f α O c v)))) (ha:dE fr m.toList=some args) (hc:m.toList.all F8=true) :
  Neu P ⟨dst,.call ⟨.value g,m,H⟩,ty,pos,af,gd⟩ fr ob (fun s'=>s'=.s (.one (.p N))):=by
 intro S G a w h;obtain⟨b,o,Q,R⟩:=F1 h hg;have F:=Y4 h m.toList args ha hc;have x:All2 (S1.rep (D1 (Mut S ob G) w) G) (args++[.one (.eref α O c v 0)]) (m.toList.map a.eval++[Value.pointer (some ⟨b,o,none⟩)]):=F.append ⟨⟨b,o,rfl,R⟩,trivial⟩;let S':Ctx:={ S with w0:=w,M0:=fun b i=>Mut S ob G b i,io:=fun _=>False }
 have B:High ([]:Fr):=fun i s hi=>by cases hi
 have I:Grd P (fun _=>False) w:=by
  obtain⟨wg,X,T,Y⟩:=h.grd;refine⟨wg,X,Nat.le_trans T h.size,fun j M=>?_⟩;obtain⟨Z,h5⟩:=Y j M;exact⟨(h.keep j (Nat.lt_of_lt_of_le M T) h5).trans Z,fun e=>e⟩
 have hs:Sim P S' [] [] G a w:={ nt:=h.nt,ntb:=h.ntb,defers:=h.defers,os:=rfl,tape:=rfl,output:=rfl,size:=Nat.le_refl _,keep:=fun _ _ _=>rfl,m0:=fun b i C=>h.mut_lt C,m0io:=fun _ _ _ e=>e,grd:=I,pin:=h.pin,old:=fun _ _ _ e=>(by cases e),dis:=fun _ _ _ _ _ e=>(by cases e),obs:=fun _ _ e=>(by cases e),facts:=fun _ _ e=>(by cases e) }
 have K:∀b i z,D1 (Mut S ob G) w b i z->D1 (Mut S' [] G) w b i z:=fun b i z J=>⟨J.1,fun C=>J.2 (by
  rcases C with C | ⟨k,o,hk,_⟩
  ·exact C
  ·cases hk)⟩
 have q:=U.2 B S' G a w _ hs (x.mono fun _ _=>S1.rep_mono K);unfold Does;have he:(execOp a.eval ⟨dst,.call ⟨.value g,m,H⟩,ty,pos,af,gd⟩).run P w=.ok (.enter f (m.toList.map a.eval++[Value.pointer (some ⟨b,o,none⟩)]).toArray) w:=by
  have:=M1 (P:=P) (f:=f) (args:=(m.toList.map a.eval++[Value.pointer (some ⟨b,o,none⟩)]).toArray) (w:=w) U.1;simp only[execOp,resolve,Q,Deferred.ofValue,Sem.run_bind,Sem.run_pure,Result.andThen_ok,invoke];rw[show (#[]:Array Value)++Array.map a.eval m++#[Value.pointer (some ⟨b,o,none⟩)]=(m.toList.map a.eval++[Value.pointer (some ⟨b,o,none⟩)]).toArray by obtain⟨l⟩:=m;simp];exact this
 rw[he];refine q.mono ?_;rintro e w' ⟨W,V,ob',G',rfl,⟨rfl,rfl⟩,L,d⟩;refine⟨W,rfl,⟨d.os,d.tape,d.output,d.size,fun j M=>d.keep j M (fun e=>e)⟩,_,rfl,?_⟩;have D:N.rep (D1 (Mut S' [] G') w') W:=L;refine Cell.rep_mono (fun b i z J=>⟨J.1,fun C=>J.2 (.inl C)⟩) _ _ D
theorem RetOk.s1{fn:Func}{c:Cell}(h:RetOk P fn fr ob [.one c]):RetS P fn fr ob [.one (.p c)]:=fun S G a w f=>let ⟨v,b,d⟩:=h S G a w f;⟨v,b,d.sv⟩
theorem RetOk.s2{fn:Func}{c b:Cell}(h:RetOk P fn fr ob [.one c,.one b]):RetS P fn fr ob [.one (.p c),.one (.p b)]:=fun S G a w g=>let ⟨v,d,f⟩:=h S G a w g;⟨v,d,f.sv⟩
theorem vG(k:Nat){t e:TypeId}{A H n:Nat}{f:Array (Nat×Operand)}{α:Type}{c:α->Nat->Cell}{ys:List α}[ht:TySl P t e A H](hb:oP fr A c f.toList 0 ys)(Y:f.toList.length=n)(M:Nat.ble n 100000=true)(Q:Nat.ble A 100=true)
  (hk:C2 ob k=none) (I:Nat.blt k 1000000=true):EffV P ⟨dst,.buildSlice t n f,ty,pos,af,gd⟩ fr ob (.s (.one (.mut k))) (Fr.forget k fr) ((k,.grow e α A c ys)::Obs.forget k ob):=by
 intro S G a w h;have I:k<1000000:=by simpa using I
 have Z:n<=100000:=by simpa using M
 have O:A<=100:=by simpa using Q
 have ag:n*A<=100000*100:=Nat.mul_le_mul Z O;obtain⟨_,_,_,_,D⟩:=ht.out;cases X:P.info? e with
 | none=>simp[X]at D
 | some i =>
 cases hz:i.zero with
 | none=>simp[X,hz]at D
 | some z =>
 have ae:(P.info? e).bind (·.zero)=some z:=by simp[X,hz]
 let q:Array Value:=(Array.range (n*A)).map ((if n*A=0 then #[] else z.cells)[· % (if n*A=0 then #[] else z.cells).size]!);have N:q.size=n*A:=by simp[q]
 obtain⟨K,W,aa,ab,hv⟩:=eR h f.toList 0 ys q hb (by rw[N,Y,Nat.zero_add]);simp only[Nat.zero_mul,List.take_zero,JA]at W;have hp:(f.map fun x=>(x.1,a.eval x.2)).toList=f.toList.map fun x=>(x.1,a.eval x.2):=by simp
 have E:ys.length=n:=by rw[ab,Y]
 refine F2 (w':=w.alloc (.cells K.toArray e)) (v:=.slice (some ⟨w.heap.size,0,none⟩) n n) ?_ ?_
 ·simp only[execOp];refine I6 ?_;simp only[Instr.buildSlice,Sem.run_bind,run_underlying ht.out.1,Result.andThen_ok,H6 ht.size];rw[A5 (by omega)];by_cases F:n*A=0
  ·simp only[F,if_true,Sem.run_bind,Sem.run_pure,Result.andThen_ok];have C:q=(Array.range 0).map ((#[]:Array Value)[· % (#[]:Array Value).size]!):=by simp only[q,F,if_true]
   rw[show (f.map fun (x:Nat×Operand)=>match x with | (i,x)=>(i,a.eval x))=f.map fun x=>(x.1,a.eval x.2) from rfl,hp,<-C,W];simp[newRow]
  ·simp only[A5 F,Sem.run_bind,K1 ae,Sem.run_pure,Result.andThen_ok];have C:q=(Array.range (n*A)).map (z.cells[· % z.cells.size]!):=by simp only[q,A5 F]
   rw[show (f.map fun (x:Nat×Operand)=>match x with | (i,x)=>(i,a.eval x))=f.map fun x=>(x.1,a.eval x.2) from rfl,hp,<-C,W];simp[newRow]
 ·have V:Below w.heap.size w (w.alloc (.cells K.toArray e)):=(Below.refl _ _).alloc (Nat.le_refl _) _;have hu:∀b,blk (.slice (some ⟨w.heap.size,0,none⟩) n n)=some b->w.heap.size<=b:=by intro b hb;simp[blk]at hb;omega
  have J:K.length=n*A:=by rw[aa,Y]
  have T:(w.alloc (.cells K.toArray e)).ownsRow S.B e A (.slice (some ⟨w.heap.size,0,none⟩) n n) ys.length K :=
   ⟨by rw[J,E],.inr ⟨w.heap.size,n,K.toArray,by rw[E],h.size,heap_alloc_new w _,by rw[E];exact Nat.le_refl _,by unfold maxLen;omega,by simpa using J,by rw[E,<-J];simp⟩⟩
  have U:=h.new I hk (o:=.grow e α A c ys) V hu ⟨K,T,by omega,fun m hm j hj=>by
   obtain⟨zz,ac,ad⟩:=hv m hm j hj
   exact⟨zz,ac,Cell.rep_mono (fun _ _ _ hr=>h.rd_new V hu hr) _ _ ad⟩⟩
  exact⟨_,U,(F7 _ _ _).symm,rfl⟩
theorem MetX.introH{f:FuncId}{fn:Func}{c:Code}{a:List S1}{gf:Fr}{k:List Nat}{d:List S1->Obs->Prop}{h:Int->Obs->Prop}(j:P.funcs[f]?=some fn)(b:(fn.name == "runtime.NumGoroutine")=false)(hb:fn.body=some c)(g:Nat.ble a.length fn.ntmps=true)(i:Nat.ble fn.ntmps 1000000=true)
  (l:High gf->WpC P fn.ntmps c (U4 0 a++gf) ob (BO P T fn k gf d h)):MetX P T f a gf ob k d h :=
 ⟨⟨fn,j,b,by simp[hb]⟩,fun e=>(MetX.intro j b hb g i (l e)).2 e⟩
def EX(P:Program)(f:List PanicEntry)(h d:List Deferred)(w w':World):Prop :=
 ∀(fn:Func) (b:Array Value) (R:Ending->World->Prop),LeavesInM Fence.wide 0 P fn b R d .returning w'->LeavesInM Fence.wide 0 P fn b R h (.panicking f) w
def EY(P:Program)(S:Ctx)(Q:Post)(e:Exit)(a:Act)(w:World):Prop :=
 PostOf P S Q e a w\/∃d fr ob G b w',e=.panic d/\a.defers=b/\Q .ret fr ob/\Sim P { S with df:=b } fr ob G a w'/\EX P d b S.df w w'
def RawC(P:Program)(nt:Nat)(c:Code)(fr:Fr)(ob:Obs)(Q:Post):Prop :=
 ∀S G a w,S.nt=nt->Sim P S fr ob G a w->c.wp P (EY P S Q) a w
theorem RawC.of{c:Code}(h:WpC P nt c fr ob Q):RawC P nt c fr ob Q:=fun S G a w b e=>wp_mono (h S G a w b e) fun _ _ _ d=>.inl d
theorem vH(k:Nat){t e:TypeId}{q J:Nat}{x:Operand}{s:S1}[ht:TySl P t e q J](hx:opv fr x=some (.s s))(hc:F8 x=true)(V:s.cells.length=q)(O:Nat.ble q 100=true)
  (hk:C2 ob k=none) (N:Nat.blt k 1000000=true):EffV P ⟨dst,.buildSlice t 1 #[(0,x)],ty,pos,af,gd⟩ fr ob (.s (.one (.mut k))) (Fr.forget k fr) ((k,.growT e 1 q (s.cells.map (TC.forget k)))::Obs.forget k ob):=by
 intro S G a w h;have N:k<1000000:=by simpa using N
 have ac:=ht.out.2.2.1;have ab:q<=100:=by simpa using O
 obtain⟨_,_,_,_,F⟩:=ht.out;cases Y:P.info? e with
 | none=>simp[Y]at F
 | some i =>
 cases hz:i.zero with
 | none=>simp[Y,hz]at F
 | some z =>
 have Z:(P.info? e).bind (·.zero)=some z:=by simp[Y,hz]
 have D:=GY (s:=s) (K0 h hx hc);have E:(a.eval x).cells.size=q:=by rw[<-V,D.length];simp
 let C:Array Value:=(Array.range (1*q)).map (z.cells[· % z.cells.size]!);have aa:C.size=q:=by simp[C]
 have K:Instr.fill (fun i=>some (i*q,q)) C [(0,a.eval x)]=some (a.eval x).cells.toList.toArray:=by
  have M:(a.eval x).cells.zipIdx.foldl (fun cs (x:Value×Nat)=>cs.setIfInBounds (0*q+x.2) x.1) C=(C.toList.take (0*q)++(a.eval x).cells.toList++C.toList.drop (0*q+(a.eval x).cells.toList.length)).toArray:=by
   rw[<-Array.foldl_toList,Array.toList_zipIdx];have:=v7 (0*q) (a.eval x).cells.toList 0 C (by simp;omega);simpa using this
  simp only[Instr.fill,E,ne_eq,not_true_eq_false,decide_false,Bool.false_or,decide_eq_true_eq];rw[A5 (by omega),M];have:C.toList.drop (0*q+(a.eval x).cells.toList.length)=[]:=by rw[List.drop_eq_nil_iff];simp;omega
  rw[this];simp
 refine F2 (w':=w.alloc (.cells (a.eval x).cells.toList.toArray e)) (v:=.slice (some ⟨w.heap.size,0,none⟩) 1 1) ?_ ?_
 ·simp only[execOp];refine I6 ?_;simp only[Instr.buildSlice,Sem.run_bind,run_underlying ht.out.1,Result.andThen_ok,H6 ht.size];rw[A5 (by omega)];rw[A5 (by omega)];simp only[Sem.run_bind,K1 Z,Sem.run_pure,Result.andThen_ok];have hp:(#[(0,x)]:Array (Nat×Operand)).map (fun (x:Nat×Operand)=>match x with | (i,x)=>(i,a.eval x))=#[(0,a.eval x)]:=by simp
  rw[hp];have H:Instr.fill (fun i=>some (i*q,q)) ((Array.range (1*q)).map (z.cells[· % z.cells.size]!)) (#[(0,a.eval x)]:Array (Nat×Value)).toList=some (a.eval x).cells.toList.toArray:=K;rw[H];simp[newRow]
 ·have X:Below w.heap.size w (w.alloc (.cells (a.eval x).cells.toList.toArray e)):=(Below.refl _ _).alloc (Nat.le_refl _) _;have hu:∀b,blk (.slice (some ⟨w.heap.size,0,none⟩) 1 1)=some b->w.heap.size<=b:=by intro b hb;simp[blk]at hb;omega
  have W:(a.eval x).cells.toList.length=q:=by simpa using E
  have Q:(w.alloc (.cells (a.eval x).cells.toList.toArray e)).ownsRow S.B e q (.slice (some ⟨w.heap.size,0,none⟩) 1 1) 1 (a.eval x).cells.toList :=
   ⟨by rw[W,Nat.one_mul],.inr ⟨w.heap.size,1,(a.eval x).cells.toList.toArray,rfl,h.size,heap_alloc_new w _,Nat.le_refl _,by unfold maxLen;omega,by simpa using E,by rw[Nat.one_mul,<-W];exact HX⟩⟩
  have U:=h.new N hk (o:=.growT e 1 q (s.cells.map (TC.forget k))) (u:=.slice (some ⟨w.heap.size,0,none⟩) 1 1) X hu (by
   refine⟨(a.eval x).cells.toList,Q,by omega,by rw[IX,V,Nat.one_mul],?_⟩;have h1:All2 (TC.rep (D1 (Mut S ((k,Ob.growT e 1 q (s.cells.map (TC.forget k)))::Obs.forget k ob) (upd G k (.slice (some ⟨w.heap.size,0,none⟩) 1 1))) (w.alloc (.cells (a.eval x).cells.toList.toArray e))) G) s.cells (a.eval x).cells.toList :=
    D.mono fun _ _=>TC.rep_mono (fun _ _ _ hr=>h.rd_new X hu hr)
   exact h1.map (TC.forget k) (fun _ _=>TC.rep_forget (G':=upd G k (.slice (some ⟨w.heap.size,0,none⟩) 1 1)) (fun j hj=>U2 G _ hj)))
  exact⟨_,U,(F7 _ _ _).symm,rfl⟩
theorem iS(k:Nat){t e:TypeId}{q F:Nat}{x:Operand}{s:S1}[ht:TySl P t e q F](hx:opv fr x=some (.s s))(hc:F8 x=true)(Q:s.cells.length=q)(M:Nat.ble q 100=true)
  (hk:C2 ob k=none) (K:Nat.blt k 1000000=true):EffV P ⟨dst,.buildSlice t 1 #[(0,x)],ty,pos,af,gd⟩ fr ob (.s (.one (.mut k))) (Fr.forget k fr) ((k,.tarr 1 q (s.cells.map (TC.forget k)))::Obs.forget k ob):=by
 intro S G a w h;have K:k<1000000:=by simpa using K
 have aa:=ht.out.2.2.1;have W:q<=100:=by simpa using M
 obtain⟨_,_,_,_,D⟩:=ht.out;cases T:P.info? e with
 | none=>simp[T]at D
 | some i =>
 cases Y:i.zero with
 | none=>simp[T,Y]at D
 | some z =>
 have U:(P.info? e).bind (·.zero)=some z:=by simp[T,Y]
 have C:=GY (s:=s) (K0 h hx hc);have N:(a.eval x).cells.size=q:=by rw[<-Q,C.length];simp
 let B:Array Value:=(Array.range (1*q)).map (z.cells[· % z.cells.size]!);have V:B.size=q:=by simp[B]
 have H:Instr.fill (fun i=>some (i*q,q)) B [(0,a.eval x)]=some (a.eval x).cells.toList.toArray:=by
  have J:(a.eval x).cells.zipIdx.foldl (fun Z (x:Value×Nat)=>Z.setIfInBounds (0*q+x.2) x.1) B=(B.toList.take (0*q)++(a.eval x).cells.toList++B.toList.drop (0*q+(a.eval x).cells.toList.length)).toArray:=by
   rw[<-Array.foldl_toList,Array.toList_zipIdx];have:=v7 (0*q) (a.eval x).cells.toList 0 B (by simp;omega);simpa using this
  simp only[Instr.fill,N,ne_eq,not_true_eq_false,decide_false,Bool.false_or,decide_eq_true_eq];rw[A5 (by omega),J];have:B.toList.drop (0*q+(a.eval x).cells.toList.length)=[]:=by rw[List.drop_eq_nil_iff];simp;omega
  rw[this];simp
 refine F2 (w':=w.alloc (.cells (a.eval x).cells.toList.toArray e)) (v:=.slice (some ⟨w.heap.size,0,none⟩) 1 1) ?_ ?_
 ·simp only[execOp];refine I6 ?_;simp only[Instr.buildSlice,Sem.run_bind,run_underlying ht.out.1,Result.andThen_ok,H6 ht.size];rw[A5 (by omega)];rw[A5 (by omega)];simp only[Sem.run_bind,K1 U,Sem.run_pure,Result.andThen_ok];have hp:(#[(0,x)]:Array (Nat×Operand)).map (fun (x:Nat×Operand)=>match x with | (i,x)=>(i,a.eval x))=#[(0,a.eval x)]:=by simp
  rw[hp];have E:Instr.fill (fun i=>some (i*q,q)) ((Array.range (1*q)).map (z.cells[· % z.cells.size]!)) (#[(0,a.eval x)]:Array (Nat×Value)).toList=some (a.eval x).cells.toList.toArray:=H;rw[E];simp[newRow]
 ·have R:Below w.heap.size w (w.alloc (.cells (a.eval x).cells.toList.toArray e)):=(Below.refl _ _).alloc (Nat.le_refl _) _;have X:∀b,blk (.slice (some ⟨w.heap.size,0,none⟩) 1 1)=some b->w.heap.size<=b:=by intro b hb;simp[blk]at hb;omega
  have O:=h.new K hk (o:=.tarr 1 q (s.cells.map (TC.forget k))) (u:=.slice (some ⟨w.heap.size,0,none⟩) 1 1) R X (by
   refine⟨w.heap.size,(a.eval x).cells.toList,e,rfl,by omega,heap_alloc_new w _,by rw[IX,Q,Nat.one_mul],?_⟩;have h1:All2 (TC.rep (D1 (Mut S ((k,Ob.tarr 1 q (s.cells.map (TC.forget k)))::Obs.forget k ob) (upd G k (.slice (some ⟨w.heap.size,0,none⟩) 1 1))) (w.alloc (.cells (a.eval x).cells.toList.toArray e))) G) s.cells (a.eval x).cells.toList :=
    C.mono fun _ _=>TC.rep_mono (fun _ _ _ hr=>h.rd_new R X hr)
   exact h1.map (TC.forget k) (fun _ _=>TC.rep_forget (G':=upd G k (.slice (some ⟨w.heap.size,0,none⟩) 1 1)) (fun j hj=>U2 G _ hj)))
  exact⟨_,O,(F7 _ _ _).symm,rfl⟩
theorem AF(k:Nat){t e:TypeId}{A F:Nat}{x y:Operand}{kx ky:IntKind}{n:Int}(α:Type)(c:α->Nat->Cell)(D:α){z:Value}[ht:TySl P t e A F][hzz:TyZero P e z]
  (hx:opv fr x=some (H5 (.int kx n))) (hy:opv fr y=some (H5 (.int ky n))) (h0:0<=n) (hn:n<=1073741824)
  (ag:∀rd:Rd,All2 (Cell.rep rd) (cellsOf c D 0 A) z.cells.toList) (hf:(H3 k fr&&L2 k ob)=true) :
  EffV P ⟨dst,.makeSlice t x y,ty,pos,af,gd⟩ fr ob (.s (.one (.mut k))) fr ((k,.grow e α A c (List.replicate n.toNat D))::ob):=by
 simp only[HR]at hf;obtain⟨U,V⟩:=hf;obtain⟨Y,hk,Z⟩:=T2 V;have W:=T1 U;have hz:((P.info? e).bind (·.zero)).map (fun z=>z.cells.toList)=some z.cells.toList:=by rw[hzz.out.1];rfl
 intro S G a w h;obtain⟨ab,f,aj,ai,q⟩:=ht.out;cases M:P.info? e with
 | none=>simp[M]at f
 | some i =>
 simp[M]at f;obtain⟨aa,T⟩:=f;cases J:i.zero with
 | none=>simp[M,J]at q
 | some z2 =>
 simp[M,J]at q hz;have K:(i.bytes:Int)*n<=281474976710656:=by
  have h1:(i.bytes:Int)<=4096:=by omega
  have h2:(i.bytes:Int)*n<=4096*1073741824:=by
   have:i.bytes*n.toNat<=4096*1073741824:=Nat.mul_le_mul (by omega) (by omega);have h3:((i.bytes*n.toNat:Nat):Int)<=((4096*1073741824:Nat):Int):=by exact_mod_cast this
   rw[Int.natCast_mul]at h3;have h4:(n.toNat:Int)=n:=by omega
   rw[h4]at h3;omega
  omega
 have hr:=run_make (P:=P) w t e i z2 ab M J kx ky n n h0 (Int.le_refl _) K (by omega);rw[aa]at hr;obtain⟨C,I⟩:∃C,C=madeCells z2.cells (n.toNat*A):=⟨_,rfl⟩
 have H:C.size=n.toNat*A:=by rw[I];exact size_madeCells _ _
 rw[<-I]at hr;refine F2 (w':=w.alloc (.cells C e)) (v:=.slice (some ⟨w.heap.size,0,none⟩) n.toNat n.toNat) ?_ ?_
 ·simp only[execOp,E8 h hx,E8 h hy];exact I6 hr
 ·have ae:Below w.heap.size w (w.alloc (.cells C e)):=(Below.refl _ _).alloc (Nat.le_refl _) _;have hu:∀b,blk (.slice (some ⟨w.heap.size,0,none⟩) n.toNat n.toNat)=some b->w.heap.size<=b:=by intro b hb;simp[blk]at hb;omega
  have Q:(List.replicate n.toNat D).length=n.toNat:=IN;have O:(w.alloc (.cells C e)).ownsRow S.B e A (.slice (some ⟨w.heap.size,0,none⟩) n.toNat n.toNat) (List.replicate n.toNat D).length C.toList:=by
   rw[Q];exact⟨by simpa using H,.inr ⟨w.heap.size,n.toNat,C,rfl,h.size,heap_alloc_new w _,Nat.le_refl _,by unfold maxLen;omega,H,(by rw[<-H];exact HX)⟩⟩
  have E:=h.new Z hk (o:=.grow e α A c (List.replicate n.toNat D)) (u:=.slice (some ⟨w.heap.size,0,none⟩) n.toNat n.toNat) ae hu ⟨C.toList,O,by rw[Q];omega,fun m hm j hj=>by
   have X:m<n.toNat:=by simpa using hm
   have ah:=ag (D1 (Mut S ((k,Ob.grow e α A c (List.replicate n.toNat D))::Obs.forget k ob) (upd G k (.slice (some ⟨w.heap.size,0,none⟩) n.toNat n.toNat))) (w.alloc (.cells C e)));have L:(cellsOf c D 0 A)[j]?=some (c D j):=by
    have N:j<(cellsOf c D 0 A).length:=by rw[K9];exact hj
    rw[HQ N];have:=O5 c D A 0 j _ (HQ N);rw[this.1,Nat.zero_add]
   obtain⟨u,ac,ad⟩:=ah.get j _ L;refine⟨u,?_,by simpa using ad⟩;rw[Array.getElem?_toList,I,bB q X hj,<-Array.getElem?_toList,hz]
   exact ac⟩
  rw[W,Y]at E;exact⟨_,E,(F7 _ _ _).symm,rfl⟩
def FreeKs(a:List Nat)(fr:Fr):Prop:=∀k,N2 a k=true->H3 k fr=true
theorem FreeKs.nil{a:List Nat}:FreeKs a []:=fun _ _=>rfl
theorem FreeKs.cons{a:List Nat}{i:Nat}{s:SV}{fr:Fr}(c:∀k,N2 a k=true->s.free k=true)(d:FreeKs a fr):FreeKs a ((i,s)::fr):=fun k b=>by
 simp only[H3,HR];exact⟨c k b,d k b⟩
theorem iT{k:Nat}:∀{F:Fr},(∀p∈F,p.2.free k=true)->H3 k F=true
 | [],_=>rfl
 | (i,s)::r,h=>by
  simp only[H3,HR];exact⟨h (i,s) (List.mem_cons_self ..),iT fun p a=>h p (List.mem_cons_of_mem _ a)⟩
theorem FreeKs.gf{ks K:List Nat}{gf:Fr}(h:∀k,N2 ks k=true->N2 K k=true):FreeKs ks (C5 K gf):=fun k a=>iT (kK (h k a))
theorem FreeKs.eq:∀{a:List Nat} {fr:Fr},FreeKs a fr->C5 a fr=fr
 | [],_,_=>rfl
 | k::a,fr,h=>by
  show C5 a (Fr.forget k fr)=fr;rw[T1 (h k (oZ.2 (List.mem_cons_self ..)))];exact FreeKs.eq fun j b=>h j (oZ.2 (List.mem_cons_of_mem _ (oZ.1 b)))
theorem gI(k:Nat):∀(K:List Nat) (fr:Fr),N2 K k=true->C5 K (Fr.forget k fr)=C5 K fr:=fun K fr h=>by rw[o8,U7 h]
theorem bG:∀{ks K:List Nat} {fr:Fr},(∀k,N2 ks k=true->N2 K k=true)->C5 K (C5 ks fr)=C5 K fr
 | [],_,_,_=>rfl
 | k::ks,K,fr,h=>by
  show C5 K (C5 ks (Fr.forget k fr))=_;rw[bG (ks:=ks) fun j a=>h j (oZ.2 (List.mem_cons_of_mem _ (oZ.1 a)))];exact gI k K fr (h k (oZ.2 (List.mem_cons_self ..)))
theorem Met.more{f:FuncId}{b:List S1}{gf:Fr}{l K:List Nat}{c:List S1->Obs->Prop}(h:Met P f b gf ob l c)(y:∀k,N2 l k=true->N2 K k=true):Met P f b gf ob K c :=
 ⟨h.1,fun x S G a w d z ha=>(h.2 x S G a w d z ha).mono fun e w' ⟨v,A,ob',G',p,q,r,g⟩=>by
  refine⟨v,A,ob',G',p,q,r,{ g with facts:=fun i s j=>?_ }⟩;rw[<-bG y]at j;obtain⟨B,t,u⟩:=dL j
  exact u _ _ _ (g.facts i B t)⟩
theorem Met.conv{f:FuncId}{g:List S1}{gf:Fr}{u:List Nat}{j d:List S1->Obs->Prop}(h:Met P f g gf ob u j)(E:∀p ob',j p ob'->∃c,d p c/\∀k o,C2 c k=some o->C2 ob' k=some o):Met P f g gf ob u d :=
 ⟨h.1,fun D S G a w q F ha=>(h.2 D S G a w q F ha).mono fun e w' ⟨v,p,ob',G',y,A,B,C⟩=>by
  obtain⟨c,H,x⟩:=E p ob' A;refine⟨v,p,c,G',y,H,SV.rep_mono (fun b i z t=>⟨t.1,fun s=>t.2 ?_⟩) B,C.weakenO x⟩;rcases s with s | ⟨k,o,hk,ho⟩
  ·exact .inl s
  ·exact .inr ⟨k,o,x k o hk,ho⟩⟩
theorem ResRep.sAll{b:Rd}{G:Gh}{a:List PV}{v:Value}(h:ResRep b a v):T3 b G (a.map PV.s1) v:=by
 match a,h with
 | [p],h=>exact PV.rep_s1 h
 | [],⟨us,h1,h2⟩=>exact⟨us,h1,h2.map PV.s1 fun _ _=>PV.rep_s1⟩
 | _::_::_,⟨us,h1,h2⟩=>exact⟨us,h1,h2.map PV.s1 fun _ _=>PV.rep_s1⟩
theorem RetOk.sAll{fn:Func}{ps:List PV}(h:RetOk P fn fr ob ps):RetS P fn fr ob (ps.map PV.s1):=fun S G a w d=>let ⟨v,b,c⟩:=h S G a w d;⟨v,b,c.sAll⟩
theorem HG{P:Program}{f:FuncId}{α:Type}{d:Nat}{c:α->Nat->Cell}{ps:List PV}{a:List PV->Prop}(h:FnOk P f (.one (.list α d c [])::ps) a):FnOk P f (.one (.v (.slice none 0 0))::ps) a :=
 ⟨h.1,fun w M b j g ha=>match b,ha with
  | _::_,⟨h1,h2⟩=>h.2 w M _ j g ⟨by obtain⟨rfl,_⟩:=h1;exact I7 α d c,h2⟩⟩
end Go.AL
