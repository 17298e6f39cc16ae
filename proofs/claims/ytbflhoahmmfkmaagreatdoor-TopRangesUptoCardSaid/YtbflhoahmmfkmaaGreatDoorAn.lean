/- The abstract logic, its third part. No project text. -/
import Derived.Test.YtbflhoahmmfkmaaGreatDoorAm
import Derived.Laws.StructEq
import Derived.Laws.Cover3
import Derived.MapKept
import Derived.Lib.AppendZeros
set_option linter.all false
attribute [local semireducible] Go.AL.Neu Go.AL.Eff Go.AL.EffV Go.AL.WpL Go.AL.WpC Go.AL.FnOk Go.AL.LexD Go.AL.Sees Go.AL.RetOk Go.AL.FnIo Go.AL.Met Go.AL.RetS
namespace Go.AL
open Go Go.RowKit
set_option linter.unusedVariables false
variable {P:Program}{nt:Nat}{ops:Array Oper}
def OL(P:Program)(o:Oper)(U:Fr)(ob ob':Obs):Prop :=
 ∀S G a w,Sim P S U ob G a w->Does P o a w (fun _ w'=>∃G',∀fr,Sim P S fr ob G a w->Sim P S fr ob' G' a w')
theorem bB{t:TypeId}{x y:Operand}{k o n:Nat}{D:List TC}{s:S1}{fr:Fr}{ob:Obs}{ty:TypeId}{pos:String}{af:Array Edge}{gd:Option (Nat×Bool)}(V:(P.info? t).map (·.size)=some n)(hx:opv fr x=some (.s (.one (.ref k o))))(W:C5 ob k=some (.box D))(hy:opv fr y=some (.s s))(hc:H9 y=true)
  (X:s.cells.length=n) (J:Nat.ble (o+n) D.length=true):OL P ⟨none,.store t x y,ty,pos,af,gd⟩ fr ob ((k,.box (setTs D o s.cells))::ob):=by
 intro S G a w h;obtain⟨b,Q,C⟩:=H0 h hx;obtain⟨b',A,tt,K,hh,ha⟩:=h.box W;rw[Q]at K;cases K;have hr:(SV.s s).rep (F2 (Mut S ob G) w) G (a.eval y):=O8 h hy hc;have g:=VX hr;have q:(a.eval y).cells.size=n:=by rw[<-X,g.length];simp
 have R:o+n<=D.length:=by simpa using J
 have M:∀u∈(a.eval y).cells.toList,u.oneCell'=true:=by
  intro u C;have:∀(D:List TC) (A:List Value),All2 (TC.rep (F2 (Mut S ob G) w) G) D A->∀u∈A,u.oneCell'=true:=by
   intro D;induction D with
   | nil=>intro A h u C;cases A with | nil=>cases C | cons=>exact h.elim
   | cons t D ih =>
    intro A h u C;cases A with
    | nil=>exact h.elim
    | cons v A =>
     rcases XB.1 C with rfl | C
     ·exact TC.rep_one h.1
     ·exact ih A h.2 u C
  exact this _ _ g u C
 obtain⟨w',O,T,I,N,H,B,F⟩:=Y4 (P:=P) (t:=t) (w:=w) (b:=b) (o:=o) (v:=a.eval y) (by rw[V,q]) hh M (by rw[q,<-ha.length];exact R);unfold Does;have he:(execOp a.eval ⟨none,.store t x y,ty,pos,af,gd⟩).run P w=.ok .skip w':=by
  simp[execOp,C,Instr.storeAt,Instr.sureAddr,O]
 rw[he];have E:blk (G k)=some b:=by rw[Q];rfl
 refine⟨G,fun Y Z=>Z.write W E (fun i=>⟨E,trivial⟩) (fun i=>⟨E,trivial⟩) T I N (Nat.le_of_eq H.symm) (fun j _=>B j) ?_⟩;intro rd U;refine⟨b,_,tt,Q,F,?_⟩;have hd:A.drop (o+(a.eval y).cells.size)=A.drop (o+s.cells.length):=by rw[q,X]
 unfold setTs;rw[hd];exact (((ha.take o).append g).append (ha.drop _)).mono fun _ _=>TC.rep_mono U
def Told(U:Fr)(φ:Fa):Prop:=∀t s,E6 U t=some s->φ t=some s
theorem HZ{o:Oper}{U:Fr}{ob ob':Obs}{φ:Fa}(h:OL P o U ob ob')(n:o.guard=none)(m:o.dst=none)(q:Told U φ):qH P nt ops o φ ob (fun r b=>r=φ/\b=ob'):=by
 refine⟨n,fun S G a w u e=>qJ (h S G a w (e.sub q)) ?_⟩;rintro v w' ⟨G',g⟩;refine⟨φ,ob',G',⟨rfl,rfl⟩,?_⟩;rw[m];refine⟨g [] e.1,fun i s p=>?_⟩;have l:Sim P S [(i,s)] ob G a w:=e.sub fun j t d=>by
  by_cases k:i=j
  ·subst k;rw[E5]at d;cases d;exact p
  ·rw[D3 k]at d;simp[E6]at d
 exact (g _ l).facts i s (by rw[E5])
def AnyC(P:Program)(nt:Nat)(ops:Array Oper)(T:Nat)(U:Fr)(ob ob':Obs)(E:Array Bool->Fa->Prop):Nat->Array Bool->Fa->Prop
 | 0,listed,φ=>(T∈Region.ready .any ops listed->Told U φ)/\T∈Region.ready .any ops listed/\(∀j∈Region.ready .any ops listed,j=T)/\E listed φ
 | fuel+1,listed,φ=>(T∈Region.ready .any ops listed->Told U φ)/\(∃p,p<T/\p∈Region.ready .any ops listed)/\∀i∈Region.ready .any ops listed,i≠T ->
   ∃o s d,ops[i]?=some o/\o.dst=some d/\turns o.op=false/\YieldsN P nt ops o φ ob s/\YieldsN P nt ops o φ ob' s/\AnyC P nt ops T U ob ob' E fuel (listed.setIfInBounds i true) (Z0 φ d s)
theorem AnyC.told{T:Nat}{U:Fr}{ob ob':Obs}{E:Array Bool->Fa->Prop}{c:Nat}{b:Array Bool}{φ:Fa}(h:AnyC P nt ops T U ob ob' E c b φ):T∈Region.ready .any ops b->Told U φ:=by
 cases c<;>exact h.1
theorem m7{fr:Fr}{ob:Obs}{dst:Option Tmp}{ty:TypeId}{pos:String}{af:Array Edge}{gd:Option (Nat×Bool)}{c x y:Operand}{b p:Bool}(d:opv fr c=some (R6 b))(hb:b=true)(e:opv fr x=some (R6 p)) :
  Neu P ⟨dst,.pick c x y,ty,pos,af,gd⟩ fr ob (fun f=>f=R6 p) :=
 E9 fun S G a w h=>by
  have:=G2 h d;subst hb;exact⟨.bool p,by simp[execOp,this,asBool,G2 h e],rfl,rfl⟩
theorem P0{fr:Fr}{ob:Obs}{dst:Option Tmp}{ty:TypeId}{pos:String}{af:Array Edge}{gd:Option (Nat×Bool)}{c x y:Operand}{b p:Bool}(d:opv fr c=some (R6 b))(hb:b=false)(e:opv fr y=some (R6 p)) :
  Neu P ⟨dst,.pick c x y,ty,pos,af,gd⟩ fr ob (fun f=>f=R6 p) :=
 E9 fun S G a w h=>by
  have:=G2 h d;subst hb;exact⟨.bool p,by simp[execOp,this,asBool,G2 h e],rfl,rfl⟩
theorem TJ{P:Program}{fn:Func}{fr:Fr}{ob:Obs}{t E u:Tmp}{k n:Nat}{tt:TypeId}{z:List TC}{A:List Cell}{D q:S1}{C j:PV}[TyAgg P tt n](L:fn.results=#[.cell t tt,.tmp E,.tmp u])(M:o4 fr t=some (.s (.one (.ref k 0))))(I:C5 ob k=some (.box z))(J:z.length=n)(K:aD z=some A)
  (y:o4 fr E=some (.s D)) (v:D.pv?=some C) (i:o4 fr u=some (.s q)) (d:q.pv?=some j):RetOk P fn fr ob [.agg A,C,j] :=
 fun S G a w h=>by
  obtain⟨b,N,B,F,H⟩:=CT h (tt:=tt) M I J K;rw[Array.getD_eq_getD_getElem?]at B;exact⟨_,by simp[results,L,B,asAddr,F],[_,_,_],rfl,H,y5 h y v,y5 h i d,trivial⟩
inductive CK | int (k:IntKind) | str | bool
def TK(P:Program)(t:TypeId):Option CK :=
 match P.underlying t with
 | some (.int k)=>some (.int k)
 | some .string=>some .str
 | some .bool=>some .bool
 | _=>none
def uK(P:Program):Nat->List Field->List CK->Bool
 | _,[],[]=>true
 | i,f::fs,k::ks=>f.name != "_"&&(f.offset == i&&((match TK P f.type,k with | some (.int k),.int k'=>decide (k=k') | some .str,.str=>true | some .bool,.bool=>true | _,_=>false)&&uK P (i+1) fs ks))
 | _,_,_=>false
class TyCmp (P:Program) (t:TypeId) (ks:outParam (List CK)):Prop where
 out:P.underlying t=some (.struct (P.fieldsOf t))/\(uK P 0 (P.fieldsOf t).toList ks&&(!P.stoodInHeld t&&!P.eqGuardType P.depth t))=true
def UW:CK->Value->Bool
 | .int k,.int k' _=>decide (k=k')
 | .str,.string _=>true
 | .bool,.bool _=>true
 | _,_=>false
def US:Value->Value->Bool
 | .int _ a,.int _ b=>a == b
 | .string a,.string b=>a.toList == b.toList
 | .bool a,.bool b=>a == b
 | _,_=>false
def pD:List CK->List Value->Bool
 | [],[]=>true
 | k::ks,v::vs=>UW k v&&pD ks vs
 | _,_=>false
def xD:List Value->List Value->Bool
 | u::us,v::vs=>US u v&&xD us vs
 | _,_=>true
theorem kU{P:Program}(d:Nat)(a b:List Value):∀(l:List Field) (j:List CK) (i:Nat),uK P i l j=true->i+j.length=a.length->i+j.length=b.length->pD j (a.drop i)=true->pD j (b.drop i)=true ->
  ∀w:World,(Op.eqFields (d+1) a.toArray b.toArray l).run P w=.ok (xD (a.drop i) (b.drop i)) w
 | [],[],i,_,h1,h2,_,_,w=>by
  rw[XO (by simp at h1;omega)];simp[Op.eqFields,xD]
 | [],_::_,_,h,_,_,_,_,_=>by simp[uK]at h
 | _::_,[],_,h,_,_,_,_,_=>by simp[uK]at h
 | f::l,k::j,i,h,h1,h2,h3,h4,w=>by
  simp only[uK,WU,bne_iff_ne,beq_iff_eq]at h;obtain⟨A,p,c,B⟩:=h;have q:i<a.length:=by simp at h1;omega
  have s:i<b.length:=by simp at h2;omega
  rw[XA q]at h3 ⊢;rw[XA s]at h4 ⊢;simp only[pD,WU]at h3 h4;have C:=kU (P:=P) d a b l j (i+1) B (by simp at h1;omega) (by simp at h2;omega) h3.2 h4.2;have g:∀w:World,(part f.type a.toArray f.offset).run P w=.ok a[i] w/\(part f.type b.toArray f.offset).run P w=.ok b[i] w/\(Op.equalIn (d+1) f.type a[i] b[i]).run P w=.ok (US a[i] b[i]) w:=by
   intro w;have y:a.toArray[f.offset]?=some a[i]:=by rw[p];simp[q]
   have z:b.toArray[f.offset]?=some b[i]:=by rw[p];simp[s]
   have t:=h3.1;have x:=h4.1;unfold TK at c;generalize a[i]=u at *;generalize b[i]=v at *;cases e:P.underlying f.type with
   | none=>rw[e]at c;simp at c
   | some ty =>
    rw[e]at c;cases ty<;>simp only at c<;>try (simp at c;done)
    all_goals (cases k<;>simp only[Bool.false_eq_true,decide_eq_true_eq]at c)
    all_goals (cases u<;>simp only[UW,Bool.false_eq_true,decide_eq_true_eq]at t)
    all_goals (cases v<;>simp only[UW,Bool.false_eq_true,decide_eq_true_eq]at x)
    all_goals try subst t
    all_goals try subst x
    all_goals refine⟨by simp[part,isAgg,run_underlying e,y],by simp[part,isAgg,run_underlying e,z],?_⟩
    ·exact run_equalIn_bool' w _ _ _ _ e
    ·exact run_equalIn_int w _ _ _ _ _ _ e
    ·exact run_equalIn_string w _ _ _ _ e
  simp only[Op.eqFields,Sem.run_bind,Sem.run_ite];rw[A4 A,(g w).1];simp only[Result.andThen_ok];rw[(g w).2.1];simp only[Result.andThen_ok];rw[(g w).2.2];simp only[Result.andThen_ok];cases m:US a[i] b[i]
  ·simp[xD,m]
  ·simp only[xD,m,Bool.true_and];simpa using C w
theorem qL:∀{a:List CK} {b:List Value},pD a b=true->a.length=b.length
 | [],[],_=>rfl
 | [],_::_,h=>by simp[pD]at h
 | _::_,[],h=>by simp[pD]at h
 | _::a,_::b,h=>by simp only[pD,WU]at h;simp[qL h.2]
variable {dst:Option Tmp}{ty:TypeId}{pos:String}{af:Array Edge}{gd:Option (Nat×Bool)}{fr:Fr}{ob:Obs}
theorem jC{e:Rd}{G:Gh}:∀{a b:List Value},All2 (TC.rep e G) (a.map fun u=>TC.p (.v u)) b->b=a
 | [],[],_=>rfl
 | [],_::_,h=>h.elim
 | _::_,[],h=>h.elim
 | u::a,v::b,h=>by
  obtain⟨⟨c,_⟩,d⟩:=h;rw[jC d,c]
theorem OM{t:TypeId}{b:List CK}{c d:List Value}[ht:TyCmp P t b](h:(pD b c&&pD b d)=true)(w:World):(Op.equalIn 10000 t (.agg c.toArray) (.agg d.toArray)).run P w=.ok (xD c d) w:=by
 obtain⟨f,e⟩:=ht.out;simp only[WU,Bool.not_eq_true']at h e;have i:=qL h.1;have j:=qL h.2;rw[run_equalIn_agg w 9999 t _ _ f e.2.1];have:=kU (P:=P) 9998 c d _ b 0 e.1 (by omega) (by omega) h.1 h.2 w;exact this
theorem LM{t yt:TypeId}{x y:Operand}{d:List CK}(f j:List Value){r:Bool}[ht:TyCmp P t d](D:opv fr x=some (.s (.agg (f.map fun u=>.p (.v u)))))(E:opv fr y=some (.s (.agg (j.map fun u=>.p (.v u)))))
  (c:(H9 x&&H9 y)=true) (B:(pD d f&&pD d j)=true) (C:xD f j=r):Neu P ⟨dst,.binOp .neq t x y yt,ty,pos,af,gd⟩ fr ob (fun F=>F=R6 (!r)) :=
 E9 fun S G a w h=>by
  simp only[WU]at c;obtain⟨H,z,m⟩:=O8 h D c.1;obtain⟨I,A,a2⟩:=O8 h E c.2;obtain rfl:=jC m;obtain rfl:=jC a2;have k:=ht.out.2;simp only[WU,Bool.not_eq_true']at k;refine⟨.bool (!r),?_,rfl,rfl⟩;simp only[execOp,z,A];refine L2 ?_;simp only[Sem.run_bind];rw[run_eqGuard_agg (hm:=k.2.2)];simp only[Result.andThen_ok];rw[run_neq_struct,OM B,C];rfl
theorem j3{a:Array Bool}{e j:Nat}(h:e≠j):(a.setIfInBounds e true).getD j false=a.getD j false:=by
 simp only[Array.getD_eq_getD_getElem?,Array.getElem?_setIfInBounds_ne h]
def T7:Op->List Nat
 | .store _ x y=>yY x++yY y
 | .box _ x=>yY x
 | .makeSlice _ x y=>yY x++yY y
 | op=>jA op
def l4(sv:List SV)(i:Nat):SV:=sv.getD i .any
def kV:List Oper->List SV->Fr->Fr
 | o::l,s::sv,fr=>match o.dst with
  | some d=>(d,s)::kV l sv fr
  | none=>kV l sv fr
 | _,_,fr=>fr
abbrev Xe:=List (Nat×Bool×(Nat×Ob))
def kW:Xe->Nat->Option (Bool×(Nat×Ob))
 | [],_=>none
 | (i,x)::r,e=>cond (Nat.beq i e) (some x) (kW r e)
def iF(a:Xe)(ob:Obs):List Nat->Obs
 | []=>ob
 | e::D=>match kW a e with
  | some x=>x.2::iF a ob D
  | none=>iF a ob D
def aH(e:Nat):List Nat->List Nat
 | []=>[e]
 | d::D=>cond (Nat.blt d e) (e::d::D) (d::aH e D)
def N3(l:List Nat)(e:Nat):Bool:=l.any (Nat.beq e)
theorem zK{l:List Nat}{e:Nat}:N3 l e=true↔e∈l:=by
 unfold N3;rw[List.any_eq_true];exact⟨fun ⟨x,h,a⟩=>by rw[Nat.eq_of_beq_eq_true a];exact h,fun h=>⟨e,h,Nat.beq_refl e⟩⟩
def fE(ops:Array Oper)(E:List Nat)(i:Nat)(D:List Nat):Bool:=!(N3 D i)&&((E.all fun j=>!(Bef ops i j)||N3 D j)&&D.all fun j=>!(Bef ops j i))
def t7:List Nat->List Nat->Bool
 | [],[]=>true
 | a::l,b::m=>Nat.beq a b&&t7 l m
 | _,_=>false
theorem aI:∀{l m:List Nat},t7 l m=true->l=m
 | [],[],_=>rfl
 | [],_::_,h=>by simp[t7]at h
 | _::_,[],h=>by simp[t7]at h
 | a::l,b::m,h=>by
  simp only[t7,WU]at h;rw[Nat.eq_of_beq_eq_true h.1,aI h.2]
def LN(M:List (List Nat))(D:List Nat):Bool:=M.any (t7 D)
theorem kX{M:List (List Nat)}{D:List Nat}(h:LN M D=true):D∈M:=by
 obtain⟨x,a,b⟩:=List.any_eq_true.1 h;rw[aI b];exact a
def CZ(E:List Nat)(i:Nat):List Nat:=E.filter fun e=>Nat.blt e i
def desc:List Nat->Bool
 | []=>true
 | a::l=>l.all (fun b=>Nat.blt b a)&&desc l
def Z1:List Oper->List Nat
 | []=>[]
 | o::l=>match o.dst with
  | some d=>d::Z1 l
  | none=>Z1 l
def fF:List Nat->Bool
 | []=>true
 | a::l=>!(N3 l a)&&fF l
def xE(nt:Nat)(l:List Oper)(E:List Nat)(M:List (List Nat))(b:List (Nat×List Nat)):Bool :=
 let ops:=l.toArray;let n:=l.length
 (l.all fun o=>o.guard.isNone&&match o.dst with | some d=>Nat.blt d nt | none=>true) &&
 ((List.range n).all fun i=>match ops[i]? with
  | some o=>(turns o.op == N3 E i)&&((turns o.op||o.dst.isSome)&&(((T7 o.op).all fun u=>(List.range n).all fun j=>match ops[j]? with
    | some c=>(match c.dst with | some d=>!(Nat.beq d u)||Bef ops i j | none=>true)
    | none=>true) &&
   ((List.range n).all fun j=>!(Bef ops i j)||Nat.blt j i)&&((o.after.toList.all fun e=>!(Region.binds .any e)||Nat.blt e.on i)&&(M.all fun D=>!(fE ops E i D)||(t7 D (CZ E i)||b.any fun p=>Nat.beq p.1 i&&t7 p.2 D)))))
  | none=>false) &&
 fF (Z1 l)&&desc E&&(E.all fun e=>Nat.blt e n)&&LN M []&&(M.all fun D=>E.all fun e=>!(fE ops E e D)||LN M (aH e D))
def DA(P:Program)(nt:Nat)(ops:Array Oper)(o:Oper)(U:Fr)(new:Bool)(ob:Obs)(x:Nat×Ob)(s:SV):Prop :=
 ∀φ,Told U φ->(new=true->qK x.1 φ)->qH P nt ops o φ ob (fun b a=>b=(match o.dst with | some d=>Z0 φ d s | none=>φ)/\a=x::ob)
theorem ON{ops:Array Oper}{U:Fr}{k:Nat}{e:TypeId}{z:Value}[hz:TyZero P e z]{ty:TypeId}{pos:String}{af:Array Edge}{d:Nat}{ob:Obs}(g:M9 k ob=true)(h:Nat.blt d nt=true) :
  DA P nt ops ⟨some d,.alloc e,ty,pos,af,none⟩ U true ob (k,.box (z.cells.toList.map fun c=>.p (.v c))) (.s (.one (.ref k 0))) :=
 fun φ _ i=>CY (i rfl) g h
theorem OO{ops:Array Oper}{U:Fr}{b:Op}{ty:TypeId}{pos:String}{af:Array Edge}{ob:Obs}{x:Nat×Ob}(h:OL P ⟨none,b,ty,pos,af,none⟩ U ob (x::ob)):DA P nt ops ⟨none,b,ty,pos,af,none⟩ U false ob x .any :=
 fun φ c _=>HZ h rfl rfl c
def UIn(l:List Oper)(sv:List SV)(fr:Fr)(o:Oper)(U:Fr):Prop :=
 ∀t s,E6 U t=some s->t∈T7 o.op/\((∃j a,l[j]?=some a/\a.dst=some t/\s=l4 sv j)\/(t∉Z1 l/\E6 fr t=some s))
def VN(P:Program)(nt:Nat)(l:List Oper)(sv:List SV)(a:Xe)(fr:Fr)(ob:Obs)(i:Nat)(D:List Nat):Prop :=
 ∃o U,l[i]?=some o/\UIn l sv fr o U/\((turns o.op=false/\Neu P o U (iF a ob D) (fun s=>s=l4 sv i)) \/
  ∃new x,kW a i=some (new,x)/\DA P nt l.toArray o U new (iF a ob D) x (l4 sv i))
def VO(P:Program)(nt:Nat)(l:List Oper)(sv:List SV)(a:Xe)(fr:Fr)(ob:Obs)(i:Nat)(D:List Nat):Prop :=
 ∃o,l[i]?=some o/\((turns o.op=false/\Neu P o (R4 (kV l sv fr) (T7 o.op)) (iF a ob D) (fun s=>s=l4 sv i)) \/
  ∃new x,kW a i=some (new,x)/\DA P nt l.toArray o (R4 (kV l sv fr) (T7 o.op)) new (iF a ob D) x (l4 sv i))
def Ob1s(P:Program)(nt:Nat)(l:List Oper)(sv:List SV)(a:Xe)(fr:Fr)(ob:Obs):List (Nat×List Nat)->Prop
 | []=>True
 | (i,D)::r=>VO P nt l sv a fr ob i D/\Ob1s P nt l sv a fr ob r
theorem Ob1s.get{l:List Oper}{sv:List SV}{a:Xe}{fr:Fr}{ob:Obs}:∀{r:List (Nat×List Nat)},Ob1s P nt l sv a fr ob r->∀p∈r,VO P nt l sv a fr ob p.1 p.2
 | [],_,p,hp=>by simp at hp
 | (i,D)::r,h,p,hp=>by
  rcases XB.1 hp with rfl | hp
  ·exact h.1
  ·exact Ob1s.get h.2 p hp
def LO(ops:Array Oper)(e:Nat)(sv:List SV)(fr:Fr):Fr :=
 (((List.range ops.size).filter fun j=>!(Nat.beq j e)&&!(Bef ops j e)).map fun j=>(j,l4 sv j))++fr
def mT(ops:Array Oper)(sv:List SV)(fr:Fr):Xe->Bool
 | []=>true
 | (e,new,x)::r=>(!new||I2 x.1 (LO ops e sv fr))&&mT ops sv fr r
def DB(a:Xe)(M:List (List Nat)):Bool :=
 M.all fun D=>a.all fun p=>D.all fun e=>N3 D p.1||!(Nat.blt p.1 e)||(match kW a e with | some x=>!(Nat.beq x.2.1 p.2.2.1) | none=>true)
theorem xF{a:Xe}{e:Nat}{x:Bool×(Nat×Ob)}(h:kW a e=some x):(e,x)∈a:=by
 induction a with
 | nil=>cases h
 | cons y r b =>
  obtain⟨i,y⟩:=y;unfold kW at h;cases hb:Nat.beq i e
  ·rw[hb]at h;exact List.mem_cons_of_mem _ (b h)
  ·rw[hb]at h;have h:some y=some x:=h;cases h;rw[Nat.eq_of_beq_eq_true hb];exact List.mem_cons_self ..
theorem zL{b:Xe}{ob:Obs}{e:Nat}{new:Bool}{x:Nat×Ob}(g:kW b e=some (new,x)):∀{D:List Nat},(∀d∈D,e<d->∀y,kW b d=some y->y.2.1≠x.1)->∀k o,C5 (iF b ob (aH e D)) k=some o->C5 (x::iF b ob D) k=some o
 | [],_,k,o,h=>by
  simp only[aH,iF,g]at h;exact h
 | d :: D,hk,k,o,h=>by
  unfold aH at h;cases hb:Nat.blt d e
  ·rw[hb]at h;simp only[cond]at h;have q:=zL (ob:=ob) g (D:=D) (fun t n=>hk t (List.mem_cons_of_mem _ n));have u : e <= d:=by
    cases Nat.lt_or_ge d e with
    | inl m => have:Nat.blt d e=true:=by simpa using m
               rw[this]at hb;cases hb
    | inr m=>exact m
   unfold iF at h ⊢;cases j:kW b d with
   | none=>rw[j]at h;exact q k o h
   | some y =>
    rw[j]at h;simp only at h ⊢;obtain⟨s,f,l⟩:=y;obtain⟨r,v⟩:=x;by_cases a:f=k
    ·rw[show ((s,f,l):Bool×(Nat×Ob)).2=(f,l) from rfl]at h ⊢;rw[a,F4]at h;by_cases p:e=d
     ·subst p;rw[j]at g;cases g;rw[a,F4];exact h
     ·have i:=hk d (List.mem_cons_self ..) (by omega) _ j;have i:f≠r:=i;rw[C8 (by omega),a,F4];exact h
    ·rw[show ((s,f,l):Bool×(Nat×Ob)).2=(f,l) from rfl]at h ⊢;rw[C8 a]at h;have:=q k o h;by_cases c:r=k
     ·rw[c,F4]at this ⊢;exact this
     ·rw[C8 c]at this;rw[C8 c,C8 a];exact this
  ·rw[hb]at h;simp only[cond]at h;have:iF b ob (e::d::D)=x::iF b ob (d::D):=by
    show (match kW b e with | some x=>x.2::iF b ob (d::D) | none=>iF b ob (d::D))=_;rw[g]
   rw[this]at h;exact h
theorem jD{e:Nat}{c:Array Bool}(p:e<c.size)(u:c.getD e false=false):∀{E:List Nat},desc E=true->e∈E->E.filter (fun j=>(c.setIfInBounds e true).getD j false)=aH e (E.filter fun j=>c.getD j false)
 | [],_,he=>by simp at he
 | d::E,hd,he=>by
  simp only[desc,WU]at hd;have k:∀b∈E,b<d:=fun b hb=>by simpa using List.all_eq_true.1 hd.1 b hb
  have m:(c.setIfInBounds e true).getD e false=true:=by simp[p]
  have h:∀j,j≠e->(c.setIfInBounds e true).getD j false=c.getD j false:=fun j z=>j3 (Ne.symm z);by_cases i:d=e
  ·subst i;rw[List.filter_cons_of_pos (by exact m),List.filter_cons_of_neg (by rw[u];simp)];have:E.filter (fun j=>(c.setIfInBounds d true).getD j false)=E.filter fun j=>c.getD j false:=by
    apply List.filter_congr;intro j z;exact h j (by have:=k j z;omega)
   rw[this];cases B:E.filter fun j=>c.getD j false with
   | nil=>rfl
   | cons a r =>
    have ha:a∈E:=(List.mem_filter.1 (by rw[B];exact List.mem_cons_self ..)).1;have x:Nat.blt a d=true:=by simpa using k a ha
    unfold aH;rw[x];rfl
  ·have n:e∈E:=(XB.1 he).resolve_left (fun q=>i q.symm);have A:=jD p u hd.2 n;have y:Nat.blt d e=false:=by
    have:=k e n;cases hb:Nat.blt d e
    ·rfl
    ·rw[Nat.blt_eq]at hb;omega
   by_cases w:c.getD d false=true
   ·rw[List.filter_cons_of_pos (by rw[h d i];exact w),List.filter_cons_of_pos (by exact w),A];show _=aH e (d::_)
    conv=>rhs;unfold aH
    rw[y];rfl
   ·rw[List.filter_cons_of_neg (by rw[h d i];exact w),List.filter_cons_of_neg (by exact w),A]
theorem cU:∀{l:List Oper} {j:Nat} {o:Oper} {d:Nat},l[j]?=some o->o.dst=some d->d∈Z1 l
 | [],j,o,d,h,_=>by simp at h
 | o'::l,0,o,d,h,hd=>by
  simp at h;subst h;unfold Z1;rw[hd];exact List.mem_cons_self ..
 | o'::l,j+1,o,d,h,hd=>by
  have:=cU (l:=l) (j:=j) (by simpa using h) hd;unfold Z1;split
  ·exact List.mem_cons_of_mem _ this
  ·exact this
theorem jE:∀{l:List Oper} {i j:Nat} {o a:Oper} {d:Nat},fF (Z1 l)=true->l[i]?=some o->l[j]?=some a->o.dst=some d->a.dst=some d->i=j
 | [],i,j,o,a,d,_,h,_,_,_=>by simp at h
 | q::l,0,0,_,_,_,_,_,_,_,_=>rfl
 | q::l,0,j+1,o,a,d,hn,h1,h2,h3,h4=>by
  simp at h1;subst h1;have b:=cU (l:=l) (j:=j) (by simpa using h2) h4;unfold Z1 at hn;rw[h3]at hn;simp only[fF,WU,Bool.not_eq_true']at hn;rw[zK.2 b]at hn;exact absurd hn.1 (by simp)
 | q::l,i+1,0,o,a,d,hn,h1,h2,h3,h4=>by
  simp at h2;subst h2;have b:=cU (l:=l) (j:=i) (by simpa using h1) h3;unfold Z1 at hn;rw[h4]at hn;simp only[fF,WU,Bool.not_eq_true']at hn;rw[zK.2 b]at hn;exact absurd hn.1 (by simp)
 | q::l,i+1,j+1,o,a,d,hn,h1,h2,h3,h4=>by
  have:fF (Z1 l)=true:=by
   unfold Z1 at hn;split at hn
   ·simp only[fF,WU]at hn;exact hn.2
   ·exact hn
  exact congrArg (·+1) (jE this (by simpa using h1) (by simpa using h2) h3 h4)
theorem uL:∀{l:List Oper} {sv:List SV} {fr:Fr} {t:Nat} {s:SV},sv.length=l.length->E6 (kV l sv fr) t=some s->(∃j o,l[j]?=some o/\o.dst=some t/\s=l4 sv j)\/(t∉Z1 l/\E6 fr t=some s)
 | [],[],fr,t,s,_,h=>.inr ⟨by simp[Z1],h⟩
 | [],_::_,_,_,_,hl,_=>by simp at hl
 | _::_,[],_,_,_,hl,_=>by simp at hl
 | o :: l,k::sv,fr,t,s,hl,h=>by
  have b:E6 (kV l sv fr) t=some s->(∃j g,(o::l)[j]?=some g/\g.dst=some t/\s=l4 (k::sv) j)\/(t∉Z1 l/\E6 fr t=some s):=fun m=>by
   rcases uL (by simpa using hl) m with ⟨j,g,a,e,p⟩ | a
   ·exact .inl ⟨j+1,g,by simpa using a,e,by rw[p];simp[l4]⟩
   ·exact .inr a
  unfold kV at h;cases f:o.dst with
  | none =>
   rw[f]at h;rcases b h with a | ⟨a,e⟩
   ·exact .inl a
   ·exact .inr ⟨by unfold Z1;rw[f];exact a,e⟩
  | some d =>
   rw[f]at h;have h:E6 ((d,k)::kV l sv fr) t=some s:=h;by_cases c:d=t
   ·subst c;rw[E5]at h;cases h;exact .inl ⟨0,o,rfl,f,rfl⟩
   ·rw[D3 c]at h;rcases b h with a | ⟨a,e⟩
    ·exact .inl a
    ·refine .inr ⟨?_,e⟩;unfold Z1;rw[f];intro q;rcases XB.1 q with q | q
     ·exact c q.symm
     ·exact a q
theorem SimF.weakO{S:Ctx}{φ:Fa}{ob ob':Obs}{G:Gh}{a:Act}{w:World}(h:SimF P S φ ob G a w)(e:∀k o,C5 ob' k=some o->C5 ob k=some o):SimF P S φ ob' G a w:=by
 refine⟨h.1.weakenO e,fun i s l=>?_⟩;have g:Sim P S [(i,s)] ob G a w:=h.sub fun j t b=>by
  by_cases d:i=j
  ·subst d;rw[E5]at b;cases b;exact l
  ·rw[D3 d]at b;simp[E6]at b
 exact (g.weakenO e).facts i s (E5 _ _ _)
structure InvC (l:List Oper) (sv:List SV) (fr:Fr) (listed:Array Bool) (φ:Fa):Prop where
 put:∀j o d,l[j]?=some o->listed.getD j false=true->o.dst=some d->φ d=some (l4 sv j)
 from':∀t s,φ t=some s->(∃j o,l[j]?=some o/\listed.getD j false=true/\o.dst=some t/\s=l4 sv j)\/E6 fr t=some s
 old:∀t s,E6 fr t=some s->t∉Z1 l->φ t=some s
def unl(a:Array Bool)(n:Nat):Nat:=(List.range n).countP fun i=>!(a.getD i false)
theorem xG{a:Array Bool}{i:Nat}(k:i<a.size)(l:a.getD i false=false):∀{n:Nat},i<n->unl (a.setIfInBounds i true) n+1=unl a n
 | 0,h=>by omega
 | n+1,h=>by
  unfold unl;rw[YR,List.countP_append,List.countP_append];have f:∀j,j≠i->(a.setIfInBounds i true).getD j false=a.getD j false:=fun j d=>j3 (Ne.symm d);by_cases c:i<n
  ·have o:=xG k l c;unfold unl at o;have e:List.countP (fun b=>!(a.setIfInBounds i true).getD b false) [n]=List.countP (fun i=>!a.getD i false) [n]:=by
    simp only[List.countP_cons,List.countP_nil,f n (by omega)]
   rw[e];omega
  ·obtain rfl:i=n:=by omega
   have e:List.countP (fun b=>!(a.setIfInBounds i true).getD b false) (List.range i)=List.countP (fun i=>!a.getD i false) (List.range i):=by
    apply List.countP_congr;intro j d;rw[f j (by have:=XE.1 d;omega)]
   rw[e];have m:(a.setIfInBounds i true).getD i false=true:=by simp[k]
   simp only[List.countP_cons,List.countP_nil,m,l];simp
theorem tP{id:Nat}{l:List Oper}{fr:Fr}{ob:Obs}{Q:Post}(sv:List SV)(W:Xe)(M:List (List Nat))(az:List (Nat×List Nat))(hm:P.follows .mixedOrders=true)(cu:sv.length=l.length)
  (hB:xE nt l (W.map (·.1)) M az=true) (h1:∀i,i<l.length->VN P nt l sv W fr ob i (CZ (W.map (·.1)) i)) (au:mT l.toArray sv fr W=true) (av:DB W M=true) (h2:Ob1s P nt l sv W fr ob az)
  {fr':Fr} (be:∀t s,E6 fr' t=some s->(∃j o',l[j]?=some o'/\o'.dst=some t/\s=l4 sv j)\/(t∉Z1 l/\E6 fr t=some s)) (hQ:Q .normal fr' (iF W ob (W.map (·.1)))):WpC P nt (.region id l.toArray true) fr ob Q:=by
 intro S G a w hn hs;obtain⟨E,hE⟩:∃E,E=W.map (·.1):=⟨_,rfl⟩
 rw[<-hE]at hB h1 hQ;unfold xE at hB;simp only[WU]at hB;obtain⟨⟨⟨⟨⟨⟨b1,b2⟩,b3⟩,b4⟩,b5⟩,b6⟩,b7⟩:=hB
 have aj:∀i o,l[i]?=some o->o.guard=none/\(∀d,o.dst=some d->d<nt)/\(turns o.op=N3 E i)/\(turns o.op=true\/∃d,o.dst=some d)/\(∀u∈T7 o.op,∀j oj,l[j]?=some oj->oj.dst=some u->Bef l.toArray i j=true) /\
   (∀j,Bef l.toArray i j=true->j<i)/\(∀e∈o.after.toList,Region.binds .any e=true->e.on<i)/\(∀D∈M,fE l.toArray E i D=true->D=CZ E i\/(i,D)∈az):=by
  intro i o C;have ad:i<l.length:=(List.getElem?_eq_some_iff.1 C).1;have N:o∈l:=XL C;have q1:=List.all_eq_true.1 b1 o N;have q2:=List.all_eq_true.1 b2 i (XE.2 ad);simp only[List.getElem?_toArray,C]at q2;simp only[WU]at q1 q2;obtain⟨q3,q4,q5,q6,q7⟩:=q2;obtain⟨q8,q9⟩:=q5;refine⟨by simpa using q1.1,?_,by simpa using q3,?_,?_,?_,?_,?_⟩
  ·intro d hd;have:=q1.2;rw[hd]at this;simpa using this
  ·rcases (XR _ _).mp q4 with h | h
   ·exact .inl h
   ·exact .inr (Option.isSome_iff_exists.1 h)
  ·intro u hu j oj F hd;have bg:j<l.length:=(List.getElem?_eq_some_iff.1 F).1;have:=List.all_eq_true.1 (List.all_eq_true.1 q8 u hu) j (XE.2 bg);simp only[F,hd]at this;simpa using this
  ·intro j F;rcases Nat.lt_or_ge j l.length with L | L
   ·have:=List.all_eq_true.1 q9 j (XE.2 L);rw[F]at this;simpa using this
   ·-- an operation is behind none that there isn't
    exfalso;obtain⟨o1,bm,e1,cb,bw,hh⟩:=qF F;rw[List.getElem?_toArray,C]at bm;cases bm;have af:=List.all_eq_true.1 q6 e1 cb;have af:e1.on<i:=by rw[bw]at af;simpa using af
    have chain:∀m,m<l.length->∀j,Bef l.toArray m j=true->j<l.length:=by
     intro m;induction m using Nat.strongRecOn with
     | _ m ih =>
      intro co j' cj;obtain⟨o2,bn,e2,cc,bx,ch⟩:=qF cj;rw[List.getElem?_toArray]at bn;have r2:=List.all_eq_true.1 b2 m (XE.2 co);simp only[List.getElem?_toArray,bn]at r2;simp only[WU]at r2;have r6:=List.all_eq_true.1 r2.2.2.2.1 e2 cc;have r6:e2.on<m:=by rw[bx]at r6;simpa using r6
      rcases ch with e3 | ⟨A,B⟩
      ·omega
      ·exact ih e2.on r6 (by omega) j' B
    have:=chain i ad j F;omega
  ·intro e he bz;have:=List.all_eq_true.1 q6 e he;rw[bz]at this;simpa using this
  ·intro D hD hp;have:=List.all_eq_true.1 q7 D hD;rw[hp]at this;simp only[Bool.not_true,Bool.false_or,XR]at this;rcases this with h | h
   ·exact .inl (aI h)
   ·obtain⟨p,cr,ax⟩:=List.any_eq_true.1 h;simp only[WU]at ax;have e1:=Nat.eq_of_beq_eq_true ax.1;have e2:=aI ax.2;obtain⟨p1,p2⟩:=p;simp only at e1 e2;rw[<-e1,<-e2];exact .inr cr
 have cq:∀i o,l[i]?=some o->∀D∈M,fE l.toArray E i D=true->∃U,UIn l sv fr o U/\((turns o.op=false/\Neu P o U (iF W ob D) (fun s=>s=l4 sv i)) \/
   ∃new x,kW W i=some (new,x)/\DA P nt l.toArray o U new (iF W ob D) x (l4 sv i)):=by
  intro i o C D hD hp;have ad:i<l.length:=(List.getElem?_eq_some_iff.1 C).1;have:VN P nt l sv W fr ob i D:=by
   rcases (aj i o C).2.2.2.2.2.2.2 D hD hp with rfl | h
   ·exact h1 i ad
   ·obtain⟨o',I,h⟩:=h2.get _ h;refine⟨o',_,I,fun t s ht=>⟨i8 ht,uL cu (W7 ht)⟩,h⟩
  obtain⟨o',U,I,hU,h⟩:=this;rw[C]at I;cases I;exact⟨U,hU,h⟩
 have dc:∀(j t:Nat),(l.toArray[j]?).bind (fun o=>o.dst)=some t->t<nt:=by
  intro j t ht;cases C:l[j]? with
  | none=>simp[C]at ht
  | some o=>simp[C]at ht;exact (aj j o C).2.1 t ht
 refine wp_region_any hm ?_;have cy:Below w.heap.size w { w with drawn:=w.drawn+1 }:=⟨rfl,rfl,rfl,Nat.le_refl _,fun _ _=>rfl⟩
 have cs:SimF P S (E6 fr) ob G a { w with drawn:=w.drawn+1 }:=(TE.2 hs).ext cy
 have db : ∀(J:Nat) (k:Array Bool) (φ:Fa) (G:Gh) (a:Act) (w:World),k.size=l.length->unl k l.length=J->Closed l.toArray k->(E.filter fun j=>k.getD j false)∈M->InvC l sv fr k φ->SimF P S φ (iF W ob (E.filter fun j=>k.getD j false)) G a w ->
   wpAny P .any l.toArray (PostOf P S Q) J k a w:=by
  intro J;induction J with
  | zero =>
   intro k φ G a w bq hu hc hM hI T;have K:∀j,j<l.length->k.getD j false=true:=by
    intro j F;unfold unl at hu;have:=(List.countP_eq_zero.1 hu) j (XE.2 F);simpa using this
   have ak:Region.ready .any l.toArray k=[]:=by
    cases hr:Region.ready .any l.toArray k with
    | nil=>rfl
    | cons i r =>
     exfalso;have hi:i∈Region.ready .any l.toArray k:=by rw[hr];exact List.mem_cons_self ..
     have A:=T0 hi;obtain⟨_,o,C,_⟩:=mem_ready.1 hi;rw[List.getElem?_toArray]at C;rw[K i (List.getElem?_eq_some_iff.1 C).1]at A;cases A
   refine⟨ak,?_⟩;have bt:(E.filter fun j=>k.getD j false)=E:=by
    rw[List.filter_eq_self];intro e he;exact K e (by simpa using List.all_eq_true.1 b5 e he)
   rw[bt]at T;refine⟨fr',iF W ob E,G,hQ,.inl (TE.1 ⟨T.1,fun t s ht=>T.2 t s ?_⟩)⟩;rcases be t s ht with ⟨j,o,A,B,rfl⟩ | ⟨A,B⟩
   ·exact hI.put j o t A (K j (List.getElem?_eq_some_iff.1 A).1) B
   ·exact hI.old t s B A
  | succ J ih =>
   intro k φ G a w bq hu hc hM hI T;refine⟨fun h0=>?_,fun i hi=>?_⟩
   ·-- some operation is ready
    exfalso;have cd:∃j,j<l.length/\k.getD j false=false:=by
     refine Classical.byContradiction fun cp=>?_;have:unl k l.length=0:=by
      unfold unl;refine List.countP_eq_zero.2 fun j F=>?_;have F:=XE.1 F;cases hb:k.getD j false
      ·exact absurd ⟨j,F,hb⟩ cp
      ·simp
     omega
    have bi:∀n,(∃j,j<n/\j<l.length/\k.getD j false=false)->∃j,j<l.length/\k.getD j false=false/\∀p,p<j->k.getD p false=true:=by
     intro n;induction n with
     | zero=>rintro⟨j,F,_⟩;omega
     | succ n cz =>
      rintro⟨j,F,L,ai⟩;by_cases ap:∃j',j'<n/\j'<l.length/\k.getD j' false=false
      ·exact cz ap
      ·refine⟨j,L,ai,fun p hp=>?_⟩;cases hb:k.getD p false
       ·exact absurd ⟨p,by omega,by omega,hb⟩ ap
       ·rfl
    obtain⟨j,ck,cl⟩:=cd;obtain⟨j,L,ai,cn⟩:=bi (j+1) ⟨j,by omega,ck,cl⟩;have C:l[j]?=some l[j]:=WT L;have bh:j∈Region.ready .any l.toArray k:=by
     refine mem_ready.2 ⟨?_,l[j],by rw[List.getElem?_toArray];exact C,fun e he hb=>?_⟩
     ·have ab:j<k.size:=by omega
      simp only[Array.getD_eq_getD_getElem?,Array.getElem?_eq_getElem ab]at ai ⊢;simpa using ai
     ·have:=(aj j _ C).2.2.2.2.2.2.1 e (Array.mem_toList_iff.2 he) hb;exact cn _ this
    rw[h0]at bh;cases bh
   ·have Y:=T0 hi;obtain⟨_,o,C,K⟩:=mem_ready.1 hi;rw[List.getElem?_toArray]at C;have ad:i<l.length:=(List.getElem?_eq_some_iff.1 C).1;obtain⟨g1,g2,g3,g4,g5,g6,g7,g8⟩:=aj i o C;obtain⟨D,hD⟩:∃D,D=E.filter fun j=>k.getD j false:=⟨_,rfl⟩
    rw[<-hD]at hM T;have ah:∀e,e∈D↔e∈E/\k.getD e false=true:=fun e=>by rw[hD,List.mem_filter]
    have ba:∀j,Bef l.toArray i j=true->k.getD j false=true:=fun j F=>d6 hc i F (fun o' I e he hb=>by
     rw[List.getElem?_toArray,C]at I;cases I
     exact K e (Array.mem_toList_iff.1 he) hb)
    have bp:fE l.toArray E i D=true:=by
     unfold fE;simp only[WU,Bool.not_eq_true',List.all_eq_true,XR];refine⟨?_,fun j F=>?_,fun j F=>?_⟩
     ·cases hb:N3 D i
      ·rfl
      ·have:=((ah i).1 (zK.1 hb)).2;rw[Y]at this;cases this
     ·cases hb:Bef l.toArray i j
      ·exact .inl rfl
      ·exact .inr (zK.2 ((ah j).2 ⟨F,ba j hb⟩))
     ·cases hb:Bef l.toArray j i
      ·rfl
      ·have L:=((ah j).1 F).2;have:k.getD i false=true:=d6 hc j hb (fun o' I e he aq=>hc j o' I L e he aq);rw[Y]at this;cases this
    have al:∀U,UIn l sv fr o U->Told U φ:=by
     intro U hU t s ht;obtain⟨cx,A⟩:=hU t s ht;rcases A with ⟨j,oj,A,B,rfl⟩ | ⟨A,B⟩
     ·exact hI.put j oj t A (ba j (g5 t cx j oj A B)) B
     ·exact hI.old t s B A
    have an:=W9 hc hi;have ab:(k.setIfInBounds i true).size=l.length:=by simpa using bq
    have br:unl (k.setIfInBounds i true) l.length=J:=by
     have:=xG (by omega) Y ad;omega
    have ao:∀φ',φ'=(match o.dst with | some d=>Z0 φ d (l4 sv i) | none=>φ)->InvC l sv fr (k.setIfInBounds i true) φ':=by
     intro φ' hφ;have R:∀j,(k.setIfInBounds i true).getD j false=true↔j=i\/k.getD j false=true:=by
      intro j;by_cases F:j=i
      ·subst F;simp only[true_or,iff_true];simp[show j<k.size by omega]
      ·rw[j3 (Ne.symm F)];simp[F]
     cases X:o.dst with
     | none =>
      rw[X]at hφ;have hφ:φ'=φ:=hφ;subst hφ;refine⟨fun j oj d A B V=>?_,fun t s A=>?_,hI.old⟩
      ·rcases (R j).1 B with rfl | B
       ·rw[C]at A;cases A;rw[X]at V;cases V
       ·exact hI.put j oj d A B V
      ·rcases hI.from' t s A with ⟨j,oj,B,V,h6⟩ | B
       ·exact .inl ⟨j,oj,B,(R j).2 (.inr V),h6⟩
       ·exact .inr B
     | some d0 =>
      rw[X]at hφ;have hφ:φ'=Z0 φ d0 (l4 sv i):=hφ;subst hφ;refine⟨fun j oj d A B V=>?_,fun t s A=>?_,fun t s A B=>?_⟩
      ·unfold Z0;rcases (R j).1 B with rfl | B
       ·rw[C]at A;cases A;rw[X]at V;cases V;rw[A4 rfl]
       ·by_cases ac:d=d0
        ·subst ac;have:=jE b3 A C V X;subst this;rw[A4 rfl]
        ·rw[A5 ac];exact hI.put j oj d A B V
      ·unfold Z0 at A;by_cases ac:t=d0
       ·rw[A4 ac]at A;cases A;exact .inl ⟨i,o,C,(R i).2 (.inl rfl),by rw[ac];exact X,rfl⟩
       ·rw[A5 ac]at A;rcases hI.from' t s A with ⟨j,oj,B,V,h6⟩ | B
        ·exact .inl ⟨j,oj,B,(R j).2 (.inr V),h6⟩
        ·exact .inr B
      ·unfold Z0;have:t≠d0:=fun q=>B (by rw[q];exact cU C X);rw[A5 this];exact hI.old t s A B
    unfold wpOp;simp only[List.getElem?_toArray,C];rw[A4 (by simp[Region.wanted,g1])];obtain⟨U,hU,bo⟩:=cq i o C D hM bp;have ag:=al U hU;rcases bo with ⟨ht,bk⟩ | ⟨new,x,hx,hq⟩
    ·refine .inl (M2 (bk S G a w (T.sub fun t s ht=>ag t s ht)) ?_);rintro v w' ⟨bs,s,rfl,hv⟩;have bj:N3 E i=false:=by rw[<-g3];exact ht
     have ae:(E.filter fun j=>(k.setIfInBounds i true).getD j false)=D:=by
      rw[hD];apply List.filter_congr;intro j F;have:j≠i:=fun q=>by rw[<-q,zK.2 F]at bj;cases bj
      exact j3 (Ne.symm this)
     obtain⟨d0,ar⟩:=g4.resolve_left (by rw[ht];simp);rw[ar];refine ih (k.setIfInBounds i true) (Z0 φ d0 (l4 sv i)) G _ w' ab br an (by rw[ae];exact hM) (ao _ (by rw[ar])) ?_;rw[ae];exact (T.ext bs).put (by rw[hn];exact g2 d0 ar) hv
    ·have bf:i∈E:=by rw[hE];exact XU.2 ⟨_,xF hx,rfl⟩
     have ae:(E.filter fun j=>(k.setIfInBounds i true).getD j false)=aH i D:=by
      rw[hD];exact jD (by omega) Y b4 bf
     have bu:aH i D∈M:=by
      have:=List.all_eq_true.1 (List.all_eq_true.1 b7 D hM) i bf;rw[bp]at this;exact kX (by simpa using this)
     have cg:new=true->qK x.1 φ:=by
      intro bl;have hf:∀(xs:Xe),mT l.toArray sv fr xs=true->(i,new,x)∈xs->I2 x.1 (LO l.toArray i sv fr)=true:=by
       intro xs;induction xs with
       | nil=>intro _ h;simp at h
       | cons y r da =>
        obtain⟨e',n',x'⟩:=y;intro Z N;simp only[mT,WU,XR]at Z;rcases XB.1 N with q | q
        ·cases q;rcases Z.1 with q | q
         ·rw[bl]at q;simp at q
         ·exact q
        ·exact da Z.2 q
      have bd:=hf W au (xF hx);unfold LO at bd;have bv:∀(a b:Fr),I2 x.1 (a++b)=true->I2 x.1 a=true/\I2 x.1 b=true:=by
       intro a b;induction a with
       | nil=>intro h;exact⟨rfl,h⟩
       | cons y r am =>
        obtain⟨j,s⟩:=y;intro h;simp only[XQ,I2,WU]at h ⊢;exact⟨⟨h.1,(am h.2).1⟩,(am h.2).2⟩
      obtain⟨ce,cf⟩:=bv _ _ bd;intro t s cv;rcases hI.from' t s cv with ⟨j,oj,B,V,h6,rfl⟩ | B
      ·have aw:∀(a:List Nat),I2 x.1 (a.map fun j=>(j,l4 sv j))=true->j∈a->(l4 sv j).free x.1=true:=by
        intro a;induction a with
        | nil=>intro _ h;simp at h
        | cons y r am =>
         intro Z N;simp only[XK,I2,WU]at Z;rcases XB.1 N with rfl | q
         ·exact Z.1
         ·exact am Z.2 q
       refine aw _ ce (List.mem_filter.2 ⟨XE.2 ?_,?_⟩)
       ·simpa using (List.getElem?_eq_some_iff.1 B).1
       ·have cm:j≠i:=fun q=>by rw[q,Y]at V;cases V
        have ca:Bef l.toArray j i=false:=by
         cases hb:Bef l.toArray j i
         ·rfl
         ·have:k.getD i false=true:=d6 hc j hb (fun o' I e he aq=>hc j o' I V e he aq);rw[Y]at this;cases this
        rw[U0 cm,ca];rfl
      ·exact zJ cf t s B
     obtain⟨_,ay⟩:=hq φ ag cg;refine .inl (M2 (ay S G a w hn T) ?_);rintro v w' ⟨φ',dd,G',⟨hφ,rfl⟩,ct⟩;refine ih (k.setIfInBounds i true) φ' G' _ w' ab br an (by rw[ae];exact bu) (ao φ' hφ) ?_;rw[ae];refine ct.weakO (zL hx ?_);intro d hd ci y hy;have hk:=List.all_eq_true.1 (List.all_eq_true.1 (List.all_eq_true.1 av D hM) _ (xF hx)) d hd;simp only[XR,Bool.not_eq_true']at hk;rcases hk with (hk | hk) | hk
     ·have:=((ah i).1 (zK.1 hk)).2;rw[Y]at this;cases this
     ·have:Nat.blt i d=true:=by simpa using ci
      rw[this]at hk;cases hk
     ·rw[hy]at hk;intro q;simp only[Bool.not_eq_true']at hk;rw[q,Nat.beq_refl]at hk;cases hk
 have H:∀j,(Array.replicate l.length false).getD j false=false:=by
  intro j;simp only[Array.getD_eq_getD_getElem?];rcases Nat.lt_or_ge j l.length with h' | h'
  ·simp[h']
  ·simp[h']
 have bc:(E.filter fun j=>(Array.replicate l.length false).getD j false)=[]:=by
  rw[List.filter_eq_nil_iff];intro e _;rw[H];simp
 have cw:unl (Array.replicate l.length false) l.length=l.length:=by
  unfold unl;have:(List.range l.length).countP (fun i=>!(Array.replicate l.length false).getD i false)=(List.range l.length).length:=by
   rw[List.countP_eq_length];intro i _;rw[H];rfl
  rw[this,YG]
 have:=db l.length (Array.replicate l.length false) (E6 fr) G a _ (by simp) cw (fun j o C hl=>by rw[H]at hl;cases hl) (by rw[bc];exact kX b6) ⟨fun j o d _ B _=>(by rw[H]at B;cases B),fun t s A=>.inr A,fun t s A _=>A⟩ (by rw[bc];exact cs);simpa using this
def qM(P:Program)(nt:Nat)(ops:Array Oper)(K:Fr->Obs->List SV->Xe->Prop):Nat->List Oper->Fr->Obs->List SV->Xe->Prop
 | _,[],fr,ob,sv,xe=>K fr ob sv.reverse xe
 | i,o::l,fr,ob,sv,xe =>
  (turns o.op=false/\∃s d,o.dst=some d/\Neu P o (R4 fr (T7 o.op)) ob (fun a=>a=s)/\qM P nt ops K (i+1) l ((d,s)::fr) ob (s::sv) xe) \/
  (∃new x s,DA P nt ops o (R4 fr (T7 o.op)) new ob x s/\qM P nt ops K (i+1) l (match o.dst with | some d=>(d,s)::fr | none=>fr) (x::ob) (s::sv) ((i,new,x)::xe))
def t8:List Oper->List SV->Fr->Fr
 | o::l,s::sv,fr=>t8 l sv (match o.dst with | some d=>(d,s)::fr | none=>fr)
 | _,_,fr=>fr
theorem mU:∀{l:List Oper} {sv:List SV} {fr:Fr} {t:Nat} {s:SV},sv.length=l.length->E6 (t8 l sv fr) t=some s->(∃j o,l[j]?=some o/\o.dst=some t/\s=l4 sv j)\/(t∉Z1 l/\E6 fr t=some s)
 | [],[],fr,t,s,_,h=>.inr ⟨by simp[Z1],h⟩
 | [],_::_,_,_,_,hl,_=>by simp at hl
 | _::_,[],_,_,_,hl,_=>by simp at hl
 | o :: l,s0::sv,fr,t,s,hl,h=>by
  unfold t8 at h;rcases mU (by simpa using hl) h with ⟨j,g,e,a,f⟩ | ⟨e,a⟩
  ·exact .inl ⟨j+1,g,by simpa using e,a,by rw[f];simp[l4]⟩
  ·cases c:o.dst with
   | none =>
    rw[c]at a;exact .inr ⟨by unfold Z1;rw[c];exact e,a⟩
   | some d =>
    rw[c]at a;have a:E6 ((d,s0)::fr) t=some s:=a;by_cases b:d=t
    ·subst b;rw[E5]at a;cases a;exact .inl ⟨0,o,rfl,c,rfl⟩
    ·rw[D3 b]at a;refine .inr ⟨?_,a⟩;unfold Z1;rw[c];intro q;rcases XB.1 q with q | q
     ·exact b q.symm
     ·exact e q
def VS(P:Program)(nt:Nat)(ops:Array Oper)(o:Oper)(i:Nat)(fr:Fr)(ob:Obs)(s:SV)(b:Xe):Prop :=
 (turns o.op=false/\Neu P o (R4 fr (T7 o.op)) ob (fun a=>a=s))\/∃new x,kW b i=some (new,x)/\DA P nt ops o (R4 fr (T7 o.op)) new ob x s
def zM(ob:Obs):Xe->Obs
 | []=>ob
 | (_,_,x)::r=>x::zM ob r
theorem FX{a b:Xe}{e:Nat}(h:∀p∈a,p.1≠e):kW (a++b) e=kW b e:=by
 induction a with
 | nil=>rfl
 | cons y r f =>
  obtain⟨i,y⟩:=y;have c:i≠e:=h (i,y) (List.mem_cons_self ..);show cond (Nat.beq i e) (some y) (kW (r++b) e)=_;rw[U0 c];exact f fun p d=>h p (List.mem_cons_of_mem _ d)
theorem qN{ops:Array Oper}{K:Fr->Obs->List SV->Xe->Prop}{ob0:Obs}:∀{l:List Oper} {i:Nat} {fr:Fr} {ob:Obs} {sv:List SV} {u:Xe},qM P nt ops K i l fr ob sv u->ob=zM ob0 u->(∀p∈u,p.1<i) ->
  ∃c g,c.length=l.length/\(∀p∈g,i<=p.1/\p.1<i+l.length)/\desc (g.map (·.1))=true/\K (t8 l c fr) (zM ob0 (g++u)) (sv.reverse++c) (g++u) /\
   ∀j o,l[j]?=some o->∃B w,g=B++w/\(∀p∈w,p.1<i+j)/\(∀p∈B,i+j<=p.1)/\VS P nt ops o (i+j) (t8 (l.take j) (c.take j) fr) (zM ob0 (w++u)) (l4 c j) g
 | [],i,fr,ob,sv,u,h,hob,_=>by
  refine⟨[],[],rfl,by simp,rfl,?_,fun j o Y=>by simp at Y⟩;rw[YB,YD,<-hob];exact h
 | o :: l,i,fr,ob,sv,u,h,hob,E=>by
  rcases h with ⟨Z,s,d,W,X,R⟩ | ⟨new,x,s,hq,R⟩
  ·obtain⟨c,g,J,v,L,M,N⟩:=qN (ob0:=ob0) R hob (fun p f=>by have:=E p f;omega);have D:t8 (o::l) (s::c) fr=t8 l c ((d,s)::fr):=by
    show t8 l c (match o.dst with | some d=>(d,s)::fr | none=>fr)=_;rw[W]
   refine⟨s::c,g,by simp[J],fun p f=>by have:=v p f;simp only[WW];omega,L,?_,?_⟩
   ·rw[D];simpa using M
   ·intro j U m;cases j with
    | zero =>
     simp at m;subst m;refine⟨g,[],by simp,by simp,fun p f=>by have:=v p f;omega,?_⟩;rw[YD,<-hob];exact .inl ⟨Z,X⟩
    | succ j =>
     obtain⟨B,w,F,G,H,C⟩:=N j U (by simpa using m);refine⟨B,w,F,fun p f=>by have:=G p f;omega,fun p f=>by have:=H p f;omega,?_⟩;have I:t8 ((o::l).take (j+1)) ((s::c).take (j+1)) fr=t8 (l.take j) (c.take j) ((d,s)::fr):=by
      show t8 (l.take j) (c.take j) (match o.dst with | some d=>(d,s)::fr | none=>fr)=_;rw[W]
     rw[I,show i+(j+1)=i+1+j by omega,show l4 (s::c) (j+1)=l4 c j by simp[l4]];exact C
  ·obtain⟨c,g,J,v,L,M,N⟩:=qN (ob0:=ob0) R (by rw[hob];rfl) (fun p f=>by
    rcases XB.1 f with rfl | f
    ·exact Nat.lt_succ_self _
    ·have:=E p f;omega)
   refine⟨s::c,g++[(i,new,x)],by simp[J],?_,?_,?_,?_⟩
   ·intro p f;rcases WZ.1 f with f | f
    ·have:=v p f;simp only[WW];omega
    ·simp at f;subst f;simp only[WW];omega
   ·have Q:∀(a:List Nat) (b:Nat),desc a=true->(∀x∈a,b<x)->desc (a++[b])=true:=by
     intro a b;induction a with
     | nil=>intro _ _;rfl
     | cons y r T =>
      intro O V;simp only[desc,WU]at O;simp only[XQ,desc,WU];refine⟨List.all_eq_true.2 fun z A=>?_,T O.2 fun x E=>V x (List.mem_cons_of_mem _ E)⟩;rcases WZ.1 A with A | A
      ·exact List.all_eq_true.1 O.1 z A
      ·simp at A;subst A;simpa using V y (List.mem_cons_self ..)
    rw[YC];refine Q _ i L fun y hy=>?_;obtain⟨p,f,rfl⟩:=XU.1 hy;have:=v p f;omega
   ·have e:t8 (o::l) (s::c) fr=t8 l c (match o.dst with | some d=>(d,s)::fr | none=>fr):=rfl;rw[e];simpa using M
   ·intro j U m;cases j with
    | zero =>
     simp at m;subst m;refine⟨g++[(i,new,x)],[],by simp,by simp,?_,?_⟩
     ·intro p f;rcases WZ.1 f with f | f
      ·have:=v p f;omega
      ·simp at f;subst f;simp
     ·rw[YD,<-hob];refine .inr ⟨new,x,?_,hq⟩;rw[FX (fun p f=>by have:=v p f;omega)];show cond (Nat.beq i (i+0)) _ _=_;rw[Nat.add_zero,Nat.beq_refl];rfl
    | succ j =>
     obtain⟨B,w,F,G,H,C⟩:=N j U (by simpa using m);refine⟨B,w++[(i,new,x)],by rw[F];simp,?_,fun p f=>by have:=H p f;omega,?_⟩
     ·intro p f;rcases WZ.1 f with f | f
      ·have:=G p f;omega
      ·simp at f;subst f;simp
     ·have I:t8 ((o::l).take (j+1)) ((s::c).take (j+1)) fr=t8 (l.take j) (c.take j) (match o.dst with | some d=>(d,s)::fr | none=>fr):=rfl;rw[I,show i+(j+1)=i+1+j by omega,show l4 (s::c) (j+1)=l4 c j by simp[l4],XH];rcases C with C | ⟨n',x',e6,e7⟩
      ·exact .inl C
      ·refine .inr ⟨n',x',?_,e7⟩;have S:∀(a b:Xe) (e:Nat) y,kW a e=some y->kW (a++b) e=some y:=by
        intro a b e y;induction a with
        | nil=>intro h;cases h
        | cons z r T =>
         obtain⟨q,z⟩:=z;intro h;show cond (Nat.beq q e) (some z) (kW (r++b) e)=_;unfold kW at h;cases hb:Nat.beq q e
         ·rw[hb]at h;exact T h
         ·rw[hb]at h;exact h
       exact S _ _ _ _ e6
def QA(P:Program)(nt:Nat)(l:List Oper)(M:List (List Nat))(d:List (Nat×List Nat))(E:List Nat)(b:Fr)(ob0:Obs)(Q:Post)(fr:Fr)(ob:Obs)(sv:List SV)(c:Xe):Prop :=
 (t7 (c.map (·.1)) E&&(mT l.toArray sv b c&&DB c M))=true/\Ob1s P nt l sv c b ob0 d/\Q .normal fr ob
theorem zN{ob:Obs}:∀{a:Xe},desc (a.map fun p=>p.1)=true->iF a ob (a.map fun p=>p.1)=zM ob a:=by
 have g:∀(b:Xe) (a:Xe),(∀p∈a,kW b p.1=some p.2)->iF b ob (a.map (·.1))=zM ob a:=by
  intro b a;induction a with
  | nil=>intro _;rfl
  | cons y r f =>
   intro h;obtain⟨i,n,x⟩:=y;have e:=h (i,n,x) (List.mem_cons_self ..);have e:kW b i=some (n,x):=e;show (match kW b i with | some x=>x.2::iF b ob (r.map (fun p:Nat×Bool×(Nat×Ob)=>p.1)) | none=>iF b ob (r.map (fun p:Nat×Bool×(Nat×Ob)=>p.1)))=_;rw[e,f fun p c=>h p (List.mem_cons_of_mem _ c)];rfl
 intro a h;refine g a a ?_;have d:∀(a:Xe),desc (a.map (·.1))=true->∀p∈a,kW a p.1=some p.2:=by
  intro a;induction a with
  | nil=>intro _ p c;simp at c
  | cons y r f =>
   intro h p c;obtain⟨i,y⟩:=y;simp only[XK,desc,WU]at h;rcases XB.1 c with rfl | c
   ·show cond (Nat.beq i i) (some y) _=_;rw[Nat.beq_refl];rfl
   ·have j:p.1<i:=by simpa using List.all_eq_true.1 h.1 p.1 (XU.2 ⟨p,c,rfl⟩)
    show cond (Nat.beq i p.1) (some y) (kW r p.1)=_;rw[U0 (by omega)];exact f h.2 p c
 exact d a h
theorem OP{ob:Obs}{d c:Xe}{j:Nat}(n:desc ((d++c).map (·.1))=true)(ha:∀p∈d,j<=p.1)(hb:∀p∈c,p.1<j):iF (d++c) ob (CZ ((d++c).map (·.1)) j)=zM ob c:=by
 have e:CZ ((d++c).map (·.1)) j=c.map (·.1):=by
  unfold CZ;rw[YC,List.filter_append,List.filter_eq_nil_iff.2,YD,List.filter_eq_self.2]
  ·intro y k;obtain⟨p,f,rfl⟩:=XU.1 k;simpa using hb p f
  ·intro y k;obtain⟨p,f,rfl⟩:=XU.1 k;have:=ha p f;simp;omega
 rw[e];have g:desc (c.map (·.1))=true:=by
  have:∀(a b:List Nat),desc (a++b)=true->desc b=true:=by
   intro a b;induction a with
   | nil=>exact fun h=>h
   | cons y r l=>intro h;simp only[XQ,desc,WU]at h;exact l h.2
  rw[YC]at n;exact this _ _ n
 rw[<-zN (ob:=ob) g];have t:∀(D:List Nat),(∀e∈D,e<j)->iF (d++c) ob D=iF c ob D:=by
  intro D;induction D with
  | nil=>intro _;rfl
  | cons e D l =>
   intro h;have q:kW (d++c) e=kW c e:=FX fun p f=>by
    have:=ha p f;have:=h e (List.mem_cons_self ..);omega
   show (match kW (d++c) e with | some x=>x.2::iF (d++c) ob D | none=>iF (d++c) ob D)=(match kW c e with | some x=>x.2::iF c ob D | none=>iF c ob D)
   rw[q,l fun o i=>h o (List.mem_cons_of_mem _ i)]
 refine t _ fun e s=>?_;obtain⟨p,f,rfl⟩:=XU.1 s;exact hb p f
theorem dH{id:Nat}{l:List Oper}{fr:Fr}{ob:Obs}{Q:Post}(E:List Nat)(M:List (List Nat))(k:List (Nat×List Nat))(hm:P.follows .mixedOrders=true)
  (W:xE nt l E M k=true) (h:qM P nt l.toArray (QA P nt l M k E fr ob Q) 0 l fr ob [] []):WpC P nt (.region id l.toArray true) fr ob Q:=by
 obtain⟨sv,R,q,z,G,U,h5⟩:=qN (ob0:=ob) h rfl (fun p hp=>by simp at hp);rw[YB,List.reverse_nil,YD]at U;obtain⟨A,w,hQ⟩:=U;simp only[WU]at A;have hE:=aI A.1;have f:=W;unfold xE at f;simp only[WU]at f;obtain⟨⟨⟨⟨⟨⟨b1,b2⟩,b3⟩,b4⟩,b5⟩,b6⟩,b7⟩:=f;refine tP sv R M k hm q (by rw[hE];exact W) ?_ A.2.1 A.2.2 w (fr':=t8 l sv fr) (fun t s B=>mU q B) (by rw[zN G];exact hQ);intro i X;have K:l[i]?=some l[i]:=WT X;obtain⟨xa,xb,e1,S,T,C⟩:=h5 i _ K;rw[Nat.zero_add]at S T C;rw[YB]at C;have L:iF R ob (CZ (R.map (·.1)) i)=zM ob xb:=by
  rw[e1]at G ⊢;exact OP G T S
 have hU:UIn l sv fr l[i] (R4 (t8 (l.take i) (sv.take i) fr) (T7 l[i].op)):=by
  intro t s B;have y:=i8 B;refine⟨y,?_⟩;have N:=List.all_eq_true.1 b2 i (XE.2 X);simp only[List.getElem?_toArray,K]at N;simp only[WU]at N;obtain⟨q3,q4,q5,q6,q7⟩:=N;rcases mU (by rw[XG,XG];omega) (W7 B) with ⟨j,c,h6,h7,u⟩ | ⟨h6,h7⟩
  ·have Y:j<i:=by
    have:=(List.getElem?_eq_some_iff.1 h6).1;rw[XG]at this;omega
   rw[YF Y]at h6;refine .inl ⟨j,c,h6,h7,?_⟩;rw[u];unfold l4;rw[XC,XC,YF Y]
  ·refine .inr ⟨?_,h7⟩;intro J;have I:∀(m:List Oper) (t:Nat),t∈Z1 m->∃(j:Nat) (c:Oper),m[j]?=some c/\c.dst=some t:=by
    intro m t;induction m with
    | nil=>intro h;simp[Z1]at h
    | cons o m Z =>
     intro h;unfold Z1 at h;cases H:o.dst with
     | none=>rw[H]at h;obtain⟨j,c,q,z⟩:=Z h;exact⟨j+1,c,by simpa using q,z⟩
     | some d =>
      rw[H]at h;rcases XB.1 h with rfl | h
      ·exact⟨0,o,rfl,H⟩
      ·obtain⟨j,c,q,z⟩:=Z h;exact⟨j+1,c,by simpa using q,z⟩
   obtain⟨j,c,u,V⟩:=I l t J;have v:j<l.length:=(List.getElem?_eq_some_iff.1 u).1;have a:=List.all_eq_true.1 (List.all_eq_true.1 q5.1 t y) j (XE.2 v);simp only[u,V]at a;have a:Bef l.toArray i j=true:=by simpa using a
   have b:=List.all_eq_true.1 q5.2 j (XE.2 v);rw[a]at b;have b:j<i:=by simpa using b
   exact h6 (cU (l:=l.take i) (j:=j) (by rw[YF b];exact u) V)
 refine⟨l[i],_,K,hU,?_⟩;rw[L];rcases C with ⟨D,F⟩ | ⟨n,x,D,F⟩
 ·exact .inl ⟨D,F⟩
 ·exact .inr ⟨n,x,D,F⟩
theorem V6{ops:Array Oper}{K:Fr->Obs->List SV->Xe->Prop}{i d:Nat}{l:List Oper}{fr:Fr}{ob:Obs}{sv:List SV}{b:Xe}{a:Op}{ty:TypeId}{pos:String}{af:Array Edge}{gd:Option (Nat×Bool)}{s:SV}(c:turns a=false)
  (h:Neu P ⟨some d,a,ty,pos,af,gd⟩ (R4 fr (T7 a)) ob (fun e=>e=s)) (k:qM P nt ops K (i+1) l ((d,s)::fr) ob (s::sv) b):qM P nt ops K i (⟨some d,a,ty,pos,af,gd⟩::l) fr ob sv b :=
 .inl ⟨c,s,d,rfl,h,k⟩
theorem FY{ops:Array Oper}{K:Fr->Obs->List SV->Xe->Prop}{i d:Nat}{l:List Oper}{fr:Fr}{ob:Obs}{sv:List SV}{g:Xe}{ty:TypeId}{pos:String}{af:Array Edge}(k:Nat){e:TypeId}{z:Value}[hz:TyZero P e z](h:M9 k ob=true)(j:Nat.blt d nt=true)
  (m:qM P nt ops K (i+1) l ((d,.s (.one (.ref k 0)))::fr) ((k,.box (z.cells.toList.map fun c=>.p (.v c)))::ob) ((.s (.one (.ref k 0)))::sv) ((i,true,(k,.box (z.cells.toList.map fun c=>.p (.v c))))::g)) :
  qM P nt ops K i (⟨some d,.alloc e,ty,pos,af,none⟩::l) fr ob sv g :=
 .inr ⟨true,_,_,ON h j,m⟩
theorem pO{ops:Array Oper}{K:Fr->Obs->List SV->Xe->Prop}{i:Nat}{l:List Oper}{fr:Fr}{ob:Obs}{sv:List SV}{c:Xe}{b:Op}{ty:TypeId}{pos:String}{af:Array Edge}{x:Nat×Ob}(h:OL P ⟨none,b,ty,pos,af,none⟩ (R4 fr (T7 b)) ob (x::ob))
  (d:qM P nt ops K (i+1) l fr (x::ob) (.any::sv) ((i,false,x)::c)):qM P nt ops K i (⟨none,b,ty,pos,af,none⟩::l) fr ob sv c :=
 .inr ⟨false,x,.any,OO h,d⟩
theorem LP{ops:Array Oper}{l:List Oper}{M:List (List Nat)}{d:List (Nat×List Nat)}{E:List Nat}{b:Fr}{c:Obs}{Q:Post}{i:Nat}{fr:Fr}{ob:Obs}{sv:List SV}{e:Xe}
  (h:(t7 (e.map (·.1)) E&&(mT l.toArray sv.reverse b e&&DB e M))=true) (f:Ob1s P nt l sv.reverse e b c d) (g:Q .normal fr ob):qM P nt ops (QA P nt l M d E b c Q) i [] fr ob sv e:=⟨h,f,g⟩
theorem LQ{l:List Oper}{sv:List SV}{a:Xe}{fr:Fr}{ob:Obs}:Ob1s P nt l sv a fr ob []:=trivial
theorem j4{l:List Oper}{sv:List SV}{a:Xe}{fr:Fr}{ob:Obs}{i:Nat}{D:List Nat}{r:List (Nat×List Nat)}{o:Oper}(b:l[i]?=some o)(c:turns o.op=false)(h:Neu P o (R4 (kV l sv fr) (T7 o.op)) (iF a ob D) (fun d=>d=l4 sv i))
  (k:Ob1s P nt l sv a fr ob r):Ob1s P nt l sv a fr ob ((i,D)::r):=⟨⟨o,b,.inl ⟨c,h⟩⟩,k⟩
section
variable {P:Program}{dst:Option Tmp}{ty:TypeId}{pos:String}{af:Array Edge}{gd:Option (Nat×Bool)}{fr:Fr}{ob:Obs}
def jF(fr:Fr):List Operand->Option (List (Nat×Nat))
 | []=>some []
 | x::r=>match opv fr x with
  | some (.s (.one (.ref k o)))=>(jF fr r).map ((k,o)::·)
  | _=>none
theorem jG{S:Ctx}{G:Gh}{a:Act}{w:World}(h:Sim P S fr ob G a w):∀(c:List Operand) (ps:List (Nat×Nat)),jF fr c=some ps->All2 (nZ G) ps (c.map a.eval)
 | [],ps,h1=>by simp[jF]at h1;subst h1;trivial
 | x::r,ps,h1=>by
  unfold jF at h1;split at h1
  ·rename_i k o d;cases b:jF fr r with
   | none=>rw[b]at h1;simp at h1
   | some e =>
    rw[b]at h1;simp at h1;subst h1;exact⟨H0 h d,jG h r e b⟩
  ·cases h1
theorem dI{f:FuncId}{first b:List Operand}{g d:List (Nat×Nat)}(i:jF fr first=some g)(j:jF fr b=some d) :
  Neu P ⟨dst,.makeFunc (.func f) first.toArray b.toArray,ty,pos,af,gd⟩ fr ob (fun p=>p=.s (.one (.clo f g d))) :=
 E9 fun S G a w h=>by
  refine⟨.func (.func f) (first.map a.eval).toArray (b.map a.eval).toArray,?_,_,_,rfl,jG h first g i,jG h b d j⟩;simp[execOp,Instr.makeFunc]
abbrev LR(p:Nat×Nat):S1:=.one (.ref p.1 p.2)
theorem qO{b:Rd}{G:Gh}:∀{l:List (Nat×Nat)} {a:List Value},All2 (nZ G) l a->All2 (S1.rep b G) (l.map LR) a
 | [],[],_=>trivial
 | [],_::_,h=>h.elim
 | _::_,[],h=>h.elim
 | _::l,_::a,h=>⟨h.1,qO h.2⟩
section
variable {nt:Nat}{ops:Array Oper}{rest:List Oper}{Q:Post}{d:Nat}
theorem jH{f:FuncId}{g:Operand}{q:List Operand}{J:Array TypeId}{ty:TypeId}{pos:String}{af:Array Edge}{Z Y:List (Nat×Nat)}{args:List S1}{N:List Nat}{m:List S1->Obs->Prop}
  (hf:Met P f (Z.map LR++args++Y.map LR) (eL fr) ob N m) (hg:opv fr g=some (.s (.one (.clo f Z Y)))) (ha:bA fr q=some args) (hc:q.all H9=true) (hd:Nat.blt d nt=true)
  (kk:∀rs ob',m rs ob'->WpL P nt ops rest ((d,pC rs)::D2 N fr) ob' Q):WpL P nt ops (⟨some d,.call ⟨.value g,q.toArray,J⟩,ty,pos,af,none⟩::rest) fr ob Q:=by
 intro S G a w hn h;obtain⟨O,R,U,W,X⟩:=H0 h hg;have H:All2 (S1.rep (F2 (Mut S ob G) w) G) (Z.map LR++args++Y.map LR) (O++q.map a.eval++R):=((qO W).append (p6 h q args ha hc)).append (qO X);obtain⟨I,C⟩:∃I:Nat->Value,I=fun i=>S.sl a (i-1000000):=⟨_,rfl⟩
 let S':Ctx:={ S with gv:=I }
 have E:High (eL fr):=fun i s L=>(X0 fr i s L).1;have b:∀i s,E6 (eL fr) i=some s->s.rep (F2 (Mut S' ob G) w) G (S'.sl a i):=by
  intro i s L;obtain⟨D,T⟩:=X0 fr i s L;rw[Ctx.sl_ge D];show s.rep _ _ (I i);have e:=congrFun C i;rw[e];exact h.facts (i-1000000) s T
 have hs:Sim P S' (eL fr) ob G a w:={ h with facts:=b }
 have x:=hf.2 E S' G a w _ hs H;refine wpList_plain rfl fun K hK=>M2 (K:=fun v w'=>∃rs ob' G',m rs ob'/\b9 (F2 (Mut S' ob' G') w') G' rs v/\Sim P S' (D2 N (eL fr)) ob' G' a w') ?_ ?_
 ·have he:(execOp a.eval ⟨some d,.call ⟨.value g,q.toArray,J⟩,ty,pos,af,none⟩).run P w=.ok (.enter f (O++q.map a.eval++R).toArray) w:=by
   have:=Q4 (P:=P) (f:=f) (args:=(O++q.map a.eval++R).toArray) (w:=w) hf.1;simp only[execOp,resolve,U,Deferred.ofValue,Sem.run_bind,Sem.run_pure,Result.andThen_ok,invoke];rw[show O.toArray++Array.map a.eval q.toArray++R.toArray=(O++q.map a.eval++R).toArray by simp];exact this
  unfold Does;rw[he];refine x.mono ?_;rintro e w' ⟨v,rs,ob',G',rfl,F,j,B⟩;exact⟨v,rfl,rs,ob',G',F,j,B⟩
 ·rintro v w' ⟨rs,ob',G',hp,j,B⟩;have V:d<S.nt:=by rw[hn];simpa using hd
  have z:∀i s,E6 (D2 N fr) i=some s->s.rep (F2 (Mut S ob' G') w') G' (S.sl a i):=by
   intro i s L;have D:=B.facts (i+1000000) s (by rw[j2];exact kT L);have T:1000000<=i+1000000:=Nat.le_add_left _ _;rw[Ctx.sl_ge T]at D;have D:s.rep (F2 (Mut S ob' G') w') G' (I (i+1000000)):=D;have e:=congrFun C (i+1000000);simp only[Nat.add_sub_cancel]at e;rw[e]at D;exact D
  have M:Sim P S (D2 N fr) ob' G' a w':={ B with facts:=z }
  exact hK _ _ (kk rs ob' hp S G' _ w' hn (M.put V j))
end
theorem fG{x F E:Operand}{t e:TypeId}{f g k:Nat}{α:Type}{c:α->Nat->Cell}{d:List α}{D C:IntKind}{i j:Int}[ht:TySl P t e g f](L:opv fr x=some (.s (.one (.mut k))))(J:C5 ob k=some (.arr α g c d))
  (z:opv fr F=some (J0 (.int D i))) (y:opv fr E=some (J0 (.int C j))) (H:0<=i) (I:i<=j) (N:j<=d.length) :
  Neu P ⟨dst,.slice t x (some F) (some E) none,ty,pos,af,gd⟩ fr ob (fun M=>M=.s (.one (.msl k g i.toNat (j.toNat-i.toNat)))) :=
 E9 fun S G a w h=>by
  obtain⟨B,_⟩:=H0 h L;obtain⟨b,Q,O,A,p,_⟩:=h.obs k _ J;rw[A]at B;refine⟨sliced (some ⟨b,0,none⟩) i.toNat j.toNat d.length g,?_,b,d.length,d.length,d.length-i.toNat,if d.length=i.toNat then 0 else i.toNat*g,A,by omega,?_,by omega,p,?_⟩
  ·simp only[execOp,B,G2 h z,G2 h y,Option.map_some,Option.map_none];refine L2 ?_;obtain⟨q,v⟩:=ht.elem;simp only[Instr.sliceAt,Sem.run_bind,run_underlying ht.out.1,Result.andThen_ok];rw[run_slice_lh w t (some ⟨b,0,none⟩) d.length d.length q D C i j H I (by omega),v,J4 ht.size];rfl
  ·unfold sliced;split<;>simp[*,Addr.add_lit]
  ·by_cases K:d.length=i.toNat
   ·left;omega
   ·right;rw[A5 K]
theorem S3{x y:Operand}{t e:TypeId}{g c k o n:Nat}{F:IntKind}{i:Int}[ht:TySl P t e g c](D:opv fr x=some (.s (.one (.msl k g o n))))
  (E:opv fr y=some (J0 (.int F i))) (v:0<=i) (z:i<n):Neu P ⟨dst,.indexAddr t x y,ty,pos,af,gd⟩ fr ob (fun I=>I=.s (.one (.mref k g (o+i.toNat) 0))) :=
 E9 fun S G a w h=>by
  obtain⟨b,m,j,u,H,B,J,C,_,_,q⟩:=H0 h D;have q:H=o*g:=q.resolve_left (by omega);subst q;refine⟨.pointer (some ⟨b,(o+i.toNat)*g,none⟩),?_,b,m,j,B,rfl⟩;simp only[execOp,C,G2 h E];refine L2 ?_;have hb:0<=i/\i<(n:Int):=⟨v,z⟩
  simp[Instr.indexAt,run_underlying ht.out.1,asIntOf,hb,J4 ht.size,Addr.add_lit,XV]
def L6{κ:Type}[DecidableEq κ]:List (κ×Cell)->κ->Option Cell
 | [],_=>none
 | (k,c)::r,a=>if k=a then some c else L6 r a
class TyMap (P:Program) (t:TypeId) (kt:outParam TypeId) (kd:outParam TypeDesc) (z:outParam Value):Prop where
 out:∃et,P.underlying t=some (.map kt et)/\P.underlying kt=some kd/\(P.info? et).bind (·.zero)=some z/\z.oneCell'=true
theorem mV(k:Nat)(κ:Type)(i:κ->Value){t:TypeId}(g:(I2 k fr&&M9 k ob)=true) :
  EffV P ⟨dst,.makeMap t none,ty,pos,af,gd⟩ fr ob (.s (.one (.mut k))) fr ((k,.map κ i [])::ob):=by
 simp only[WU]at g;obtain⟨j,q⟩:=g;obtain⟨r,x,z⟩:=S9 q;intro S G a w h;refine H8 (w':=w.alloc (.map #[] 0)) (v:=.map (some w.heap.size)) ?_ ?_
 ·simp only[execOp,Option.map_none];exact L2 rfl
 ·have d:Below w.heap.size w (w.alloc (.map #[] 0)):=(Below.refl _ _).alloc (Nat.le_refl _) _;have A:∀b,blk (.map (some w.heap.size))=some b->w.heap.size<=b:=by intro b hb;simp[blk]at hb;omega
  have f:=h.new (o:=.map κ i []) z x d A ⟨w.heap.size,#[],0,rfl,heap_alloc_new w _,trivial⟩;rw[S8 j,r]at f;exact⟨upd G k (.map (some w.heap.size)),f,(H7 _ _ _).symm,rfl⟩
theorem mW{κ:Type}[DecidableEq κ]{q:κ->Value}{w:TypeDesc}(d:∀a,MapKept.IsKey w (q a))(o:∀a b,q a=q b->a=b){B:Rd}(a:κ):∀(f:List (κ×Cell)) (t:List MapEntry) (i:Nat),
  All2 (fun (A:κ×Cell) (e:MapEntry)=>e.key=q A.1/\A.2.rep B e.val) f t ->
  (L6 f a=none/\Instr.findNow w (q a) t i=some none)\/∃c j v,L6 f a=some c/\Instr.findNow w (q a) t i=some (some (j,v))/\c.rep B v
 | [],[],_,_=>.inl ⟨rfl,rfl⟩
 | [],_::_,_,h=>h.elim
 | _::_,[],_,h=>h.elim
 | (k,c)::f,e::t,i,h=>by
  obtain⟨⟨C,D⟩,E⟩:=h;obtain⟨r,F,g⟩:=MapKept.sameNow_of_keys (d a) (d k);have p:Instr.sameNow w (q a) e.key=some r:=by rw[C];exact F
  by_cases u:k=a
  ·subst u;have:r=true:=g.2 rfl;subst this;exact .inr ⟨c,i,e.val,by simp[L6],by simp[Instr.findNow,p],D⟩
  ·have:r=false:=by
    cases r
    ·rfl
    ·exact absurd (o _ _ (g.1 rfl)).symm u
   subst this;rcases mW d o a f t (i+1) E with ⟨x,z⟩ | ⟨c',j,v,x,z,h6⟩
   ·exact .inl ⟨by simp[L6,u,x],by simp[Instr.findNow,p,z]⟩
   ·exact .inr ⟨c',j,v,by simp[L6,u,x],by simp[Instr.findNow,p,z],h6⟩
theorem fH{x y:Operand}{t O:TypeId}{H:TypeDesc}{z:Value}{k:Nat}{κ:Type}[DecidableEq κ]{i:κ->Value}{f:List (κ×Cell)}(a0:κ){r:Option Cell}[ht:TyMap P t O H z](N:opv fr x=some (.s (.one (.mut k))))(L:C5 ob k=some (.map κ i f))
  (F:opv fr y=some (J0 (i a0))) (d:∀a,MapKept.IsKey H (i a)) (g:∀a b,i a=i b->a=b) (M:L6 f a0=r) :
  Neu P ⟨dst,.lookup t x y true,ty,pos,af,gd⟩ fr ob (fun Q=>Q=.tup [.one (.p (r.getD (.v z))),.one (.p (.v (.bool r.isSome)))]) :=
 E9 fun S G a w h=>by
  obtain⟨U,I,q,R,T⟩:=ht.out;obtain⟨D,_⟩:=H0 h N;obtain⟨b,J,A,K,E,ha⟩:=h.obs k _ L;rw[K]at D;subst M;rcases mW d g a0 f J.toList 0 ha with ⟨B,C⟩ | ⟨c,j,v,B,C,h6⟩
  ·refine⟨.tuple #[z,.bool false],?_,[z,.bool false],rfl,?_⟩
   ·simp only[execOp,D,G2 h F];refine L2 ?_;simp only[Instr.lookup,Sem.run_bind,run_underlying I,Result.andThen_ok,MapKept.run_getObj_map E,Sem.run_pure,MapKept.run_checkKey q (d a0),MapKept.run_findKey q C,P3 R];rfl
   ·rw[B];exact⟨⟨rfl,T⟩,⟨rfl,rfl⟩,trivial⟩
  ·refine⟨.tuple #[v,.bool true],?_,[v,.bool true],rfl,?_⟩
   ·simp only[execOp,D,G2 h F];refine L2 ?_;simp only[Instr.lookup,Sem.run_bind,run_underlying I,Result.andThen_ok,MapKept.run_getObj_map E,Sem.run_pure,MapKept.run_checkKey q (d a0),MapKept.run_findKey q C];rfl
   ·rw[B];exact⟨h6,⟨rfl,rfl⟩,trivial⟩
theorem qP{x y v:Operand}{t kt:TypeId}{K:TypeDesc}{z:Value}{k:Nat}{κ:Type}[DecidableEq κ]{g:κ->Value}{l:List (κ×Cell)}(a0:κ){c:Cell}[ht:TyMap P t kt K z](Z:opv fr x=some (.s (.one (.mut k))))(L:C5 ob k=some (.map κ g l))
  (hy:opv fr y=some (J0 (g a0))) (Y:opv fr v=some (.s (.one (.p c)))) (T:H9 v=true) (q:∀a,MapKept.IsKey K (g a)) (B:∀a b,g a=g b->a=b) (X:L6 l a0=none) :
  Eff P ⟨none,.mapUpdate t x y v,ty,pos,af,gd⟩ fr ob fr ((k,.map κ g (l++[(a0,c)]))::ob):=by
 intro S G a w h;obtain⟨et,u1,N,u3,u4⟩:=ht.out;obtain⟨M,_⟩:=H0 h Z;obtain⟨b,D,f,F,H,ha⟩:=h.obs k _ L;rw[F]at M;have J:c.rep (F2 (Mut S ob G) w) (a.eval v):=O8 h Y T;obtain⟨E,R⟩:=MapKept.heap_set (o':=.map (D.push { key:=g a0,val:=a.eval v,born:=f }) (f+1)) H;have W:Instr.findNow K (g a0) D.toList 0=some none:=by
  rcases mW q B a0 l D.toList 0 ha with ⟨_,E⟩ | ⟨c,j,v,h4,_,_⟩
  ·exact E
  ·rw[X]at h4;cases h4
 have V:(execOp a.eval ⟨none,.mapUpdate t x y v,ty,pos,af,gd⟩).run P w=.ok .skip { w with heap:=w.heap.setIfInBounds b (.map (D.push { key:=g a0,val:=a.eval v,born:=f }) (f+1)) }:=by
  simp only[execOp,M,G2 h hy];simp only[Instr.mapUpdate,Sem.run_bind,run_underlying u1,Result.andThen_ok,MapKept.run_getObj_map H,MapKept.run_checkKey N (q a0),MapKept.run_findKey N W,MapKept.run_setObj_map _ H];rfl
 unfold Does;rw[V];have A:blk (G k)=some b:=by rw[F];rfl
 refine⟨G,h.write L A (fun i=>⟨A,trivial⟩) (fun i=>⟨A,trivial⟩) rfl rfl rfl (by simp) (fun j _ I=>R j I) ?_⟩;intro rd C;refine⟨b,_,_,F,E,?_⟩;rw[Array.toList_push];exact (ha.mono fun _ _ ⟨O,Q⟩=>⟨O,Cell.rep_mono C _ _ Q⟩).append ⟨⟨rfl,Cell.rep_mono C _ _ J⟩,trivial⟩
abbrev aJ(s:List UInt8):Value:=.string ⟨s.toArray⟩
theorem fI(a:List UInt8):MapKept.IsKey .string (aJ a):=trivial
theorem fJ(a b:List UInt8)(h:aJ a=aJ b):a=b:=by
 simp only[aJ,Value.string.injEq,ByteArray.mk.injEq]at h;simpa using congrArg Array.toList h
end
theorem DC{x W X:Operand}{t e:TypeId}{z A:Nat}{s:SV}{α:Type}{c:α->Nat->Cell}{B:List α}{N O:IntKind}{j m:Int}[ht:TySl P t e A z](hx:opv fr x=some s)(hl:IsList s α A c B)
  (K:opv fr W=some (J0 (.int N j))) (L:opv fr X=some (J0 (.int O m))) (R:0<=j) (h2:j<=B.length) (hm:m=j) :
  Neu P ⟨dst,.slice t x none (some W) (some X),ty,pos,af,gd⟩ fr ob (fun s'=>s'=.s (.one (.full α A c (B.take j.toNat)))) :=
 E9 fun S G a w h=>by
  subst hm;have J:=l7 h hx hl;obtain⟨v,q,V,U,_⟩:=Z5 J;rw[V]at J;have I:=qC (lo:=0) (hi:=m.toNat) J (by omega) (by omega);rw[List.drop_zero,Nat.sub_zero]at I;have p:sliced v 0 m.toNat m.toNat A=.slice (if m.toNat=0 then v else v.map (·.add 0)) m.toNat m.toNat:=by simp[sliced]
  refine⟨sliced v 0 m.toNat m.toNat A,?_,?_,?_⟩
  ·simp only[execOp,V,G2 h K,G2 h L,Option.map_some,Option.map_none];refine L2 ?_;obtain⟨y,C⟩:=ht.elem;simp only[Instr.sliceAt,Sem.run_bind,run_underlying ht.out.1,Result.andThen_ok];rw[run_slice_any w t v B.length q y,C];have hb:(Instr.sliceBounds true B.length q none (some (.int N m)) (some (.int O m))).run P w=.ok (0,m.toNat,m.toNat) w:=by
    have e:(m.toNat:Int)=m:=by omega
    simp only[Instr.sliceBounds,Sem.run_bind,run_sliceBound,Sem.run_pure,Result.andThen_ok];rw[run_sliceBound w O m _ _ R (by omega)];simp only[Result.andThen_ok];rw[run_sliceBound w N m _ _ R (by omega)];simp
   rw[hb];simp only[Result.andThen_ok];rw[J4 ht.size];rfl
  ·-- the cells are those of the list's beginning
   simp only[Cell.rep]at I ⊢;obtain⟨Y,Q,F,⟨h3,D⟩,T,Z⟩:=I;have b:(B.take m.toNat).length=m.toNat:=by rw[XG];omega
   rw[b]at F;have H:sliced v 0 m.toNat q A=.slice (if q=0 then v else v.map (·.add (0*A))) m.toNat q:=by simp[sliced]
   rw[H]at F;injection F with y C he3
   by_cases M:m.toNat=0
   ·refine⟨if m.toNat=0 then v else v.map (·.add 0),m.toNat,by rw[b,p],⟨Nat.le_of_eq b,fun _=>M⟩,T,.inl (b.trans M)⟩
   ·have E:q≠0:=by omega
    rw[A5 E]at y;refine⟨Y,m.toNat,?_,⟨Nat.le_of_eq b,fun hn=>?_⟩,T,Z⟩
    ·rw[b,p,A5 M,<-y];simp
    ·have:=D hn;omega
  ·rw[p];refine⟨_,by rw[show (B.take m.toNat).length=m.toNat by rw[XG];omega]⟩
theorem tQ(k:Nat){x y:Operand}{α:Type}{F E:Nat}{c:α->Nat->Cell}{xs ys:List α}{t e:TypeId}{s:SV}[ht:TySl P t e F E](hx:opv fr x=some (.s (.one (.full α F c xs))))
  (hy:opv fr y=some s) (hl:IsList s α F c ys) (am:xs.length+ys.length<=1073741824) (bn:0<ys.length) (hf:(I2 k fr&&M9 k ob)=true) :
  EffV P ⟨dst,.call ⟨.builtin .append,#[x,y],#[t,t]⟩,ty,pos,af,gd⟩ fr ob (.s (.one (.buf k α F c (xs++ys)))) fr ((k,.spare (xs++ys).length F e)::ob):=by
 simp only[WU]at hf;obtain⟨bc,bd⟩:=hf;obtain⟨h4,h5,hp⟩:=S9 bd;intro S G a w h;obtain⟨ah,H,ba,ax,I⟩:=ht.out;cases hi:P.info? e with
 | none=>simp[hi]at H
 | some i =>
 simp[hi]at H;obtain⟨U,A⟩:=H;cases hz:i.zero with
 | none=>simp[hi,hz]at I
 | some z =>
 simp[hi,hz]at I;obtain⟨bh,a0,au⟩:=H0 h hx;have bi:=l7 h hy hl;obtain⟨ad,bq,vx,Z,ay,br,q,bf,bk,aq⟩:=W8 bh;rw[au]at Z;injection Z with e1 e2 e3
 subst e1;obtain⟨bp,K,vy,bj,az,bs,D,bg,bl,ar⟩:=W8 bi;obtain⟨ac,oy,aj,Q⟩:=ar.resolve_left (by omega);have L:(xs.length+ys.length)*E<=140737488355328:=by
  have:(xs.length+ys.length)*E<=1073741824*4096:=Nat.mul_le_mul am ax;omega
 have ao:xs.length+ys.length<=maxLen:=by unfold maxLen;omega
 obtain⟨T,J⟩:∃T,T=grownCap w (xs.length+ys.length) xs.length e:=⟨_,rfl⟩
 have al:=grownCap_ge w (xs.length+ys.length) xs.length e;have ak:=grownCap_le_maxLen w (xs.length+ys.length) xs.length e ao;rw[<-J]at al ak;have X:(Builtin.append_ #[t,t] ty #[a.eval x,a.eval y]).run P w=.ok (.slice (some ⟨w.heap.size,0,none⟩) (xs.length+ys.length) T) (w.drew.alloc (.cells (vx.toArray++vy.toArray++Builtin.zeroCells z.cells (T-(xs.length+ys.length))) e)):=by
  rw[au,bj,aj];rcases aq with h0 | ⟨bx,ox,hax,hrx2⟩
  ·have bm:xs=[]:=List.eq_nil_of_length_eq_zero h0;subst bm;have av:vx=[]:=List.eq_nil_of_length_eq_zero (by rw[q];simp);subst av;cases a0 with
   | none =>
    have O:=run_append_nil (P:=P) w t ty e i z ah hi hz ⟨ac,oy,none⟩ ys.length K vy (by rw[U];exact D) (fun j v M=>by rw[Addr.add_lit];exact (Q j v M).1) bn (by omega) (by rw[A];simp at L;omega);simp only[XD,Nat.zero_add]at J ⊢;rw[J];simpa using O
   | some ab =>
    have O:=run_append_grow (P:=P) w t ty e i z ah hi hz ab 0 0 [] (by simp) (by simp) ⟨ac,oy,none⟩ ys.length K vy (by rw[U];exact D) (fun j v M=>by rw[Addr.add_lit];exact (Q j v M).1) (by omega) (by omega) (growslice_fits (by omega) (by rw[A];simpa using L));simp only[XD]at J ⊢;rw[J];simpa using O
  ·rw[hax];have O:=run_append_grow (P:=P) w t ty e i z ah hi hz ⟨bx,ox,none⟩ xs.length xs.length vx (by rw[U];exact q) (fun j v M=>by rw[Addr.add_lit];exact (hrx2 j v M).1) ⟨ac,oy,none⟩ ys.length K vy (by rw[U];exact D) (fun j v M=>by rw[Addr.add_lit];exact (Q j v M).1) (by omega) (by omega) (growslice_fits (by omega) (by rw[A];exact L));rw[J];exact O
 obtain⟨cells,C⟩:∃cells,cells=vx.toArray++vy.toArray++Builtin.zeroCells z.cells (T-(xs.length+ys.length)):=⟨_,rfl⟩
 rw[<-C]at X;have N:(vx++vy).length=(xs.length+ys.length)*F:=by rw[WX,q,D,XV]
 have W:(w.drew.alloc (.cells cells e)).ownsRow S.B e F (.slice (some ⟨w.heap.size,0,none⟩) (xs.length+ys.length) T) (xs++ys).length (vx++vy):=by
  rw[WX];refine⟨N,.inr ⟨w.heap.size,T,cells,rfl,h.size,heap_alloc_new w.drew _,al,ak,?_,?_⟩⟩
  ·rw[C];simp only[Array.size_append,List.size_toArray,size_zeroCells,I,q,D,<-XV]
   congr 1
   omega
  ·rw[C];simp only[Array.toList_append,XH];rw[<-XH,<-N];exact List.take_left
 refine H8 (w':=w.drew.alloc (.cells cells e)) (v:=.slice (some ⟨w.heap.size,0,none⟩) (xs.length+ys.length) T) (by simp[execOp,resolve,invoke,builtin,X]) ?_;have aw:Below w.heap.size w (w.drew.alloc (.cells cells e)):=⟨rfl,rfl,rfl,by simp,fun k hk=>heap_alloc_old w.drew _ hk⟩
 have hu:∀b,blk (.slice (some ⟨w.heap.size,0,none⟩) (xs.length+ys.length) T)=some b->w.heap.size<=b:=by intro b hb;simp[blk]at hb;omega
 have Y:=h.new hp h5 (o:=.spare (xs++ys).length F e) aw hu ⟨vx++vy,W⟩;rw[S8 bc,h4]at Y;refine⟨_,Y,(H7 _ _ _).symm,?_⟩;refine y1 (c:=c) (xs:=xs++ys) W ba (by rw[WX];omega) ?_ ?_
 ·intro g hg j zz M ae;simp[blk]at hg;subst hg;refine⟨ae,fun hm=>?_⟩;rcases hm with hm | ⟨k',o',hk',hb1,hb2⟩
  ·have:=h.m0 _ j hm;have:=h.size;omega
  ·by_cases ag:k=k'
   ·subst ag;rw[F4]at hk';cases hk';simp only at hb2;omega
   ·rw[C8 ag]at hk';rw[Y3 G _ (Ne.symm ag)]at hb1;have:=(h.obs k' o' hk').blk_lt _ hb1;omega
 ·have ap:∀b i z,F2 (Mut S ob G) w b i z->F2 (Mut S ((k,.spare (xs++ys).length F e)::ob) (upd G k (.slice (some ⟨w.heap.size,0,none⟩) (xs.length+ys.length) T))) (w.drew.alloc (.cells cells e)) b i z:=by
   intro b i z hr;have:=h.rd_new (k:=k) (o:=.spare (xs++ys).length F e) aw hu hr
   rwa[h4]at this
  intro m hm j M;by_cases an:m<xs.length
  ·obtain⟨zz,V,ai⟩:=bk m an j M;refine⟨zz,?_,?_⟩
   ·rw[XM (List.getElem?_eq_some_iff.1 V).1];exact V
   ·rw[YN an];exact Cell.rep_mono ap _ _ ai
  ·have be:m-xs.length<ys.length:=by simp at hm;omega
   obtain⟨zz,V,ai⟩:=bl (m-xs.length) be j M;refine⟨zz,?_,?_⟩
   ·have bo:xs.length*F<=m*F:=XI _ (by omega);rw[XJ (by rw[q];omega),q];have:m*F+j-xs.length*F=(m-xs.length)*F+j:=by rw[Nat.sub_mul];omega
    rw[this];exact V
   ·rw[YM (by omega)];exact Cell.rep_mono ap _ _ ai
abbrev Mo:=List (List Nat×Obs)
def U8:Mo->List Nat->Option Obs
 | [],_=>none
 | (D',ob)::r,D=>cond (t7 D' D) (some ob) (U8 r D)
abbrev Sv:=List (Nat×SV)
def Q0:Sv->Nat->Option SV
 | [],_=>none
 | (i,s)::r,j=>cond (Nat.beq i j) (some s) (Q0 r j)
abbrev Ed:=List (Nat×(List Nat×List Nat))
def o5:Ed->Nat->List Nat×List Nat
 | [],_=>([],[])
 | (i,x)::r,e=>cond (Nat.beq i e) x (o5 r e)
def j5(ks:List Nat)(fr:Fr):Fr:=fr.filter fun p=>!(N3 ks p.1)
theorem DD{ks:List Nat}:∀{fr:Fr} {t:Nat} {s:SV},E6 (j5 ks fr) t=some s↔t∉ks/\E6 fr t=some s
 | [],t,s=>by simp[j5,E6]
 | (i,x)::r,t,s=>by
  have c:=DD (ks:=ks) (fr:=r) (t:=t) (s:=s);unfold j5 at c ⊢;cases b:N3 ks i
  ·rw[List.filter_cons_of_pos (by simp[b])];by_cases a:i=t
   ·subst a;rw[E5,E5];have:i∉ks:=fun q=>by rw[zK.2 q]at b;cases b
    simp[this]
   ·rw[D3 a,D3 a];exact c
  ·rw[List.filter_cons_of_neg (by simp[b])];rw[c];by_cases a:i=t
   ·subst a;have:i∈ks:=zK.1 b;simp[this]
   ·rw[D3 a]
def uM(U a:Fr):Prop:=∀t s,E6 U t=some s->E6 a t=some s
def DE(P:Program)(nt:Nat)(o:Oper)(U:Fr)(e b:List Nat)(ob ob':Obs)(s:SV):Prop :=
 ∀c,uM U c->(∀k∈e,∀t x,E6 c t=some x->t∉b->x.free k=true)->∀S G a w,S.nt=nt->Sim P S c ob G a w ->
  Does P o a w (fun v w'=>∃G',Sim P S (j5 b c) ob' G' a w'/\∀d,o.dst=some d->s.rep (F2 (Mut S ob' G') w') G' v)
def hZ(l:List Oper):Sv->Fr->Fr
 | [],fr=>fr
 | (i,s)::r,fr=>match (l[i]?).bind (·.dst) with
  | some d=>(d,s)::hZ l r fr
  | none=>hZ l r fr
def cV(l:List Oper)(c:Sv)(o:Oper):Bool :=
 (T7 o.op).all fun u=>(List.range l.length).all fun j=>match (l[j]?).bind (·.dst) with
  | some d=>!(Nat.beq d u)||(Q0 c j).isSome
  | none=>true
def UIn2(l:List Oper)(a:Sv)(fr:Fr)(o:Oper)(U:Fr):Prop :=
 ∀t s,E6 U t=some s->t∈T7 o.op/\((∃j b,l[j]?=some b/\b.dst=some t/\Q0 a j=some s)\/(t∉Z1 l/\E6 fr t=some s))
def LU(a ob:Obs):Prop:=∀k o,C5 a k=some o->C5 ob k=some o
theorem qQ{l:List Oper}{fr:Fr}:∀{m:Sv} {t:Nat} {s:SV},E6 (hZ l m fr) t=some s->(∃j o,Q0 m j=some s/\l[j]?=some o/\o.dst=some t)\/(E6 fr t=some s/\∀j o,Q0 m j≠none->l[j]?=some o->o.dst≠some t)
 | [],t,s,h=>.inr ⟨h,fun j o p=>absurd rfl p⟩
 | (i,x)::r,t,s,h=>by
  unfold hZ at h;have f:(∀d,(l[i]?).bind (·.dst)=some d->d≠t)->E6 (hZ l r fr) t=some s->(∃j o,Q0 ((i,x)::r) j=some s/\l[j]?=some o/\o.dst=some t)\/(E6 fr t=some s/\∀j o,Q0 ((i,x)::r) j≠none->l[j]?=some o->o.dst≠some t):=by
   intro a h;rcases qQ h with ⟨j,o,w,v,y⟩ | ⟨w,v⟩
   ·left;refine⟨j,o,?_,v,y⟩;have g:i≠j:=fun e=>by
     subst e;rw[v]at a;exact a t (by simpa using y) rfl
    show cond (Nat.beq i j) _ _=_;rw[U0 g];exact w
   ·right;refine⟨w,fun j o p q u=>?_⟩;by_cases g:i=j
    ·subst g;rw[q]at a;exact a t (by simpa using u) rfl
    ·have p:cond (Nat.beq i j) (some x) (Q0 r j)≠none:=p;rw[U0 g]at p;exact v j o p q u
  split at h
  ·rename_i d a;by_cases k:d=t
   ·subst k;rw[E5]at h;cases h;cases q:l[i]? with
    | none=>rw[q]at a;cases a
    | some o =>
     rw[q]at a;exact .inl ⟨i,o,by show cond (Nat.beq i i) _ _=_;rw[Nat.beq_refl];rfl,q,by simpa using a⟩
   ·rw[D3 k]at h;exact f (fun z c=>by rw[a]at c;cases c;exact k) h
  ·rename_i a;exact f (fun z c=>by rw[a]at c;cases c) h
theorem kY:∀{l:List Oper} {t:Nat},t∈Z1 l->∃(j:Nat) (o:Oper),l[j]?=some o/\o.dst=some t
 | [],t,h=>by simp[Z1]at h
 | o::l,t,h=>by
  unfold Z1 at h;cases c:o.dst with
  | none=>rw[c]at h;obtain⟨j,e,a,b⟩:=kY h;exact⟨j+1,e,by simpa using a,b⟩
  | some d =>
   rw[c]at h;rcases XB.1 h with rfl | h
   ·exact⟨0,o,rfl,c⟩
   ·obtain⟨j,e,a,b⟩:=kY h;exact⟨j+1,e,by simpa using a,b⟩
theorem pP{l:List Oper}{a:Sv}{fr:Fr}{o:Oper}(h:cV l a o=true):UIn2 l a fr o (R4 (hZ l a fr) (T7 o.op)):=by
 intro t s p;have c:=i8 p;refine⟨c,?_⟩;rcases qQ (W7 p) with ⟨j,k,d,f,b⟩ | ⟨d,f⟩
 ·exact .inl ⟨j,k,f,b,d⟩
 ·refine .inr ⟨fun g=>?_,d⟩;obtain⟨j,k,b,m⟩:=kY g;have:=List.all_eq_true.1 (List.all_eq_true.1 h t c) j (XE.2 (List.getElem?_eq_some_iff.1 b).1);rw[b]at this;simp only[Option.bind_some,m,Nat.beq_refl,Bool.not_true,Bool.false_or]at this;exact f j k (fun e=>by rw[e]at this;cases this) b m
def Task(P:Program)(nt:Nat)(l:List Oper)(fr:Fr)(a:Sv)(E:List Nat)(b:Ed)(i:Nat)(ob:Obs)(s:SV)(T:Obs->Prop):Prop :=
 ∃o U,l[i]?=some o/\UIn2 l a fr o U/\((N3 E i=false/\Neu P o U ob (fun c=>c=s))\/(N3 E i=true/\∃ob',DE P nt o U (o5 b i).1 (o5 b i).2 ob ob' s/\T ob'))
def LV(nt:Nat)(l:List Oper)(E:List Nat)(Ms:List (List Nat))(c:Ed)(b:List (Nat×List Nat)):Bool :=
 let ops:=l.toArray;let n:=l.length
 (l.all fun o=>o.guard.isNone&&match o.dst with | some d=>Nat.blt d nt | none=>true) &&
 ((List.range n).all fun i=>match ops[i]? with
  | some o=>(N3 E i||o.dst.isSome)&&(((T7 o.op).all fun u=>((List.range n).all fun j=>match ops[j]? with
    | some f=>(match f.dst with | some d=>!(Nat.beq d u)||Bef ops i j | none=>true)
    | none=>true)&&E.all fun e=>Nat.beq e i||!(N3 (o5 c e).2 u)||Bef ops e i) &&
   ((o.after.toList.all fun e=>!(Region.binds .any e)||Nat.blt e.on i)&&(Ms.all fun D=>!(fE ops E i D)||b.any fun p=>Nat.beq p.1 i&&t7 p.2 D)))
  | none=>false) &&
 fF (Z1 l)&&desc E&&(E.all fun e=>Nat.blt e n)&&LN Ms []&&(Ms.all fun D=>E.all fun e=>!(fE ops E e D)||LN Ms (aH e D))
structure InvK (l:List Oper) (E:List Nat) (svs:Sv) (ed:Ed) (fr:Fr) (listed:Array Bool) (frc:Fr):Prop where
 put:∀j o d s,l[j]?=some o->listed.getD j false=true->o.dst=some d->Q0 svs j=some s->(∀e∈E,listed.getD e false=true->d∉(o5 ed e).2)->E6 frc d=some s
 from':∀t s,E6 frc t=some s->(∃j o,l[j]?=some o/\listed.getD j false=true/\o.dst=some t/\Q0 svs j=some s)\/E6 fr t=some s
 old:∀t s,E6 fr t=some s->t∉Z1 l->(∀e∈E,listed.getD e false=true->t∉(o5 ed e).2)->E6 frc t=some s
def iG(l:List Oper)(ops:Array Oper)(c:Sv)(fr:Fr):Ed->Bool
 | []=>true
 | (e,ks,kills)::r=>(ks.all fun k=>((List.range ops.size).all fun j=>Nat.beq j e||Bef ops j e||match (l[j]?).bind (·.dst),Q0 c j with
   | some d,some s=>N3 kills d||s.free k
   | _,_=>true)&&fr.all fun p=>N3 kills p.1||p.2.free k)&&iG l ops c fr r
theorem QV{id:Nat}{l:List Oper}{fr:Fr}{bl:Obs}{Q:Post}(E:List Nat)(Ms:List (List Nat))(T:Ed)(ae:List (Nat×List Nat))(X:Sv)(M:Mo)(hm:P.follows .mixedOrders=true)
  (hB:LV nt l E Ms T ae=true) (co:∀e∈E,∃x,(e,x)∈T/\o5 T e=x) (bc:iG l l.toArray X fr T=true) (h0:U8 M []=some bl)
  (ht:∀p∈ae,∃ob s,U8 M p.2=some ob/\Q0 X p.1=some s/\Task P nt l fr X E T p.1 ob s (fun ob'=>∃au,U8 M (aH p.1 p.2)=some au/\LU au ob'))
  {fr':Fr} {bm:Obs} (bz:U8 M E=some bm) (bq:∀t s,E6 fr' t=some s->(∀e∈E,t∉(o5 T e).2)/\((∃j o',l[j]?=some o'/\o'.dst=some t/\Q0 X j=some s)\/(t∉Z1 l/\E6 fr t=some s)))
  (hQ:Q .normal fr' bm):WpC P nt (.region id l.toArray true) fr bl Q:=by
 intro S G a w hn hs;unfold LV at hB;simp only[WU]at hB;obtain⟨⟨⟨⟨⟨⟨b1,b2⟩,b3⟩,b4⟩,b5⟩,b6⟩,b7⟩:=hB
 have bi:∀i o,l[i]?=some o->o.guard=none/\(∀d,o.dst=some d->d<nt)/\(N3 E i=true\/∃d,o.dst=some d)/\(∀u∈T7 o.op,∀j oj,l[j]?=some oj->oj.dst=some u->Bef l.toArray i j=true) /\
   (∀u∈T7 o.op,∀e∈E,e≠i->u∈(o5 T e).2->Bef l.toArray e i=true)/\(∀e∈o.after.toList,Region.binds .any e=true->e.on<i)/\(∀D∈Ms,fE l.toArray E i D=true->(i,D)∈ae):=by
  intro i o J;have bg:i<l.length:=(List.getElem?_eq_some_iff.1 J).1;have ac:o∈l:=XL J;have q1:=List.all_eq_true.1 b1 o ac;have q2:=List.all_eq_true.1 b2 i (XE.2 bg);simp only[List.getElem?_toArray,J]at q2;simp only[WU]at q1 q2;obtain⟨q4,q5,q6,q7⟩:=q2;refine⟨by simpa using q1.1,?_,?_,?_,?_,?_,?_⟩
  ·intro d hd;have:=q1.2;rw[hd]at this;simpa using this
  ·rcases (XR _ _).mp q4 with h | h
   ·exact .inl h
   ·exact .inr (Option.isSome_iff_exists.1 h)
  ·intro u hu j oj K hd;have bs:j<l.length:=(List.getElem?_eq_some_iff.1 K).1;have I:=List.all_eq_true.1 q5 u hu;simp only[WU]at I;have:=List.all_eq_true.1 I.1 j (XE.2 bs);simp only[K,hd]at this;simpa using this
  ·intro u hu e V ao hk;have I:=List.all_eq_true.1 q5 u hu;simp only[WU]at I;have:=List.all_eq_true.1 I.2 e V;rw[U0 ao,zK.2 hk]at this;simpa using this
  ·intro e V cl;have:=List.all_eq_true.1 q6 e V;rw[cl]at this;simpa using this
  ·intro D hD hp;have:=List.all_eq_true.1 q7 D hD;rw[hp]at this;simp only[Bool.not_true,Bool.false_or]at this;obtain⟨p,cx,bj⟩:=List.any_eq_true.1 this;simp only[WU]at bj;have e1:=Nat.eq_of_beq_eq_true bj.1;have e2:=aI bj.2;obtain⟨p1,p2⟩:=p;simp only at e1 e2;rw[<-e1,<-e2];exact cx
 have di:∀(j t:Nat),(l.toArray[j]?).bind (fun o=>o.dst)=some t->t<nt:=by
  intro j t ht;cases J:l[j]? with
  | none=>simp[J]at ht
  | some o=>simp[J]at ht;exact (bi j o J).2.1 t ht
 refine wp_region_any hm ?_;have dd:Below w.heap.size w { w with drawn:=w.drawn+1 }:=⟨rfl,rfl,rfl,Nat.le_refl _,fun _ _=>rfl⟩
 have dh : ∀(R:Nat) (A:Array Bool) (H:Fr) (ob:Obs) (G:Gh) (a:Act) (w:World),A.size=l.length->unl A l.length=R->Closed l.toArray A->(E.filter fun j=>A.getD j false)∈Ms->U8 M (E.filter fun j=>A.getD j false)=some ob->InvK l E X T fr A H->Sim P S H ob G a w ->
   wpAny P .any l.toArray (PostOf P S Q) R A a w:=by
  intro R;induction R with
  | zero =>
   intro A H ob G a w ce hu hc hM ai hI am;have Y:∀j,j<l.length->A.getD j false=true:=by
    intro j K;unfold unl at hu;have:=(List.countP_eq_zero.1 hu) j (XE.2 K);simpa using this
   have ar:Region.ready .any l.toArray A=[]:=by
    cases hr:Region.ready .any l.toArray A with
    | nil=>rfl
    | cons i r =>
     exfalso;have hi:i∈Region.ready .any l.toArray A:=by rw[hr];exact List.mem_cons_self ..
     have B:=T0 hi;obtain⟨_,o,J,_⟩:=mem_ready.1 hi;rw[List.getElem?_toArray]at J;rw[Y i (List.getElem?_eq_some_iff.1 J).1]at B;cases B
   refine⟨ar,?_⟩;have ci:(E.filter fun j=>A.getD j false)=E:=by
    rw[List.filter_eq_self];intro e V;exact Y e (by simpa using List.all_eq_true.1 b5 e V)
   rw[ci,bz]at ai;cases ai;refine⟨fr',bm,G,hQ,.inl (am.weaken fun t s ht=>?_)⟩;obtain⟨hk,B⟩:=bq t s ht;rcases B with ⟨j,o,B,F,I⟩ | ⟨B,F⟩
   ·exact hI.put j o t s B (Y j (List.getElem?_eq_some_iff.1 B).1) F I (fun e V _=>hk e V)
   ·exact hI.old t s F B (fun e V _=>hk e V)
  | succ R ih =>
   intro A H ob G a w ce hu hc hM ai hI am;refine⟨fun h0=>?_,fun i hi=>?_⟩
   ·exfalso;have cp:∃j,j<l.length/\A.getD j false=false:=by
     refine Classical.byContradiction fun cw=>?_;have:unl A l.length=0:=by
      unfold unl;refine List.countP_eq_zero.2 fun j K=>?_;have K:=XE.1 K;cases hb:A.getD j false
      ·exact absurd ⟨j,K,hb⟩ cw
      ·simp
     omega
    have bu:∀n,(∃j,j<n/\j<l.length/\A.getD j false=false)->∃j,j<l.length/\A.getD j false=false/\∀p,p<j->A.getD p false=true:=by
     intro n;induction n with
     | zero=>rintro⟨j,K,_⟩;omega
     | succ n df =>
      rintro⟨j,K,be,ap⟩;by_cases ay:∃j',j'<n/\j'<l.length/\A.getD j' false=false
      ·exact df ay
      ·refine⟨j,be,ap,fun p hp=>?_⟩;cases hb:A.getD p false
       ·exact absurd ⟨p,by omega,by omega,hb⟩ ay
       ·rfl
    obtain⟨j,cq,cr⟩:=cp;obtain⟨j,be,ap,ct⟩:=bu (j+1) ⟨j,by omega,cq,cr⟩;have J:l[j]?=some l[j]:=WT be;have bt:j∈Region.ready .any l.toArray A:=by
     refine mem_ready.2 ⟨?_,l[j],by rw[List.getElem?_toArray];exact J,fun e V hb=>?_⟩
     ·have af:j<A.size:=by omega
      simp only[Array.getD_eq_getD_getElem?,Array.getElem?_eq_getElem af]at ap ⊢;simpa using ap
     ·have:=(bi j _ J).2.2.2.2.2.1 e (Array.mem_toList_iff.2 V) hb;exact ct _ this
    rw[h0]at bt;cases bt
   ·have ah:=T0 hi;obtain⟨_,o,J,Y⟩:=mem_ready.1 hi;rw[List.getElem?_toArray]at J;have bg:i<l.length:=(List.getElem?_eq_some_iff.1 J).1;obtain⟨g1,g2,g4,g5,g6,g7,g8⟩:=bi i o J;obtain⟨D,hD⟩:∃D,D=E.filter fun j=>A.getD j false:=⟨_,rfl⟩
    rw[<-hD]at hM ai;have ba:∀e,e∈D↔e∈E/\A.getD e false=true:=fun e=>by rw[hD,List.mem_filter]
    have bn:∀j,Bef l.toArray i j=true->A.getD j false=true:=fun j K=>d6 hc i K (fun o' aq e V hb=>by
     rw[List.getElem?_toArray,J]at aq;cases aq
     exact Y e (Array.mem_toList_iff.1 V) hb)
    have bf:∀j,A.getD j false=true->Bef l.toArray j i=true->False:=fun j K hb=>by
     have:A.getD i false=true:=d6 hc j hb (fun o' aq e V ck=>hc j o' aq K e V ck);rw[ah]at this;cases this
    have ca:fE l.toArray E i D=true:=by
     unfold fE;simp only[WU,Bool.not_eq_true',List.all_eq_true,XR];refine⟨?_,fun j K=>?_,fun j K=>?_⟩
     ·cases hb:N3 D i
      ·rfl
      ·have:=((ba i).1 (zK.1 hb)).2;rw[ah]at this;cases this
     ·cases hb:Bef l.toArray i j
      ·exact .inl rfl
      ·exact .inr (zK.2 ((ba j).2 ⟨K,bn j hb⟩))
     ·cases hb:Bef l.toArray j i
      ·rfl
      ·exact (bf j ((ba j).1 K).2 hb).elim
    obtain⟨dl,s,az,cd,o1,U,bx,hU,bk⟩:=ht (i,D) (g8 D hM ca);rw[ai]at az;cases az;rw[J]at bx;cases bx;have aw:uM U H:=by
     intro t x hx;obtain⟨cg,B⟩:=hU t x hx;have al:∀e∈E,A.getD e false=true->t∉(o5 T e).2:=fun e V ak hk=>by
      by_cases ao:e=i
      ·rw[ao,ah]at ak;cases ak
      ·exact bf e ak (g6 t cg e V ao hk)
     rcases B with ⟨j,oj,B,F,I⟩ | ⟨B,F⟩
     ·exact hI.put j oj t x B (bn j (g5 t cg j oj B F)) F I al
     ·exact hI.old t x F B al
    have av:=W9 hc hi;have af:(A.setIfInBounds i true).size=l.length:=by simpa using ce
    have cf:unl (A.setIfInBounds i true) l.length=R:=by
     have:=xG (by omega) ah bg;omega
    have N:∀j,(A.setIfInBounds i true).getD j false=true↔j=i\/A.getD j false=true:=by
     intro j;by_cases K:j=i
     ·subst K;simp only[true_or,iff_true];simp[show j<A.size by omega]
     ·rw[j3 (Ne.symm K)];simp[K]
    have ax:∀C,(i∈E->C=(o5 T i).2)->(i∉E->C=[])->InvK l E X T fr (A.setIfInBounds i true) (match o.dst with | some d=>(d,s)::j5 C H | none=>j5 C H):=by
     intro C cu cv;have hk:∀t,(∀e∈E,(A.setIfInBounds i true).getD e false=true->t∉(o5 T e).2)->t∉C:=by
      intro t h;by_cases ab:i∈E
      ·rw[cu ab];exact h i ab ((N i).2 (.inl rfl))
      ·rw[cv ab];simp
     have W:∀t,(∀e∈E,(A.setIfInBounds i true).getD e false=true->t∉(o5 T e).2)->∀e∈E,A.getD e false=true->t∉(o5 T e).2:=fun t h e V ak=>h e V ((N e).2 (.inr ak));cases Z:o.dst with
     | none =>
      refine⟨fun j oj d x B F I h6 h7=>?_,fun t x B=>?_,fun t x B F I=>?_⟩
      ·rcases (N j).1 F with rfl | F
       ·rw[J]at B;cases B;rw[Z]at I;cases I
       ·exact DD.2 ⟨hk d h7,hI.put j oj d x B F I h6 (W d h7)⟩
      ·rcases hI.from' t x (DD.1 B).2 with ⟨j,oj,F,I,h6⟩ | F
       ·exact .inl ⟨j,oj,F,(N j).2 (.inr I),h6⟩
       ·exact .inr F
      ·exact DD.2 ⟨hk t I,hI.old t x B F (W t I)⟩
     | some d0 =>
      refine⟨fun j oj d x B F I h6 h7=>?_,fun t x B=>?_,fun t x B F I=>?_⟩
      ·show E6 ((d0,s)::j5 C H) d=some x;by_cases bd:j=i
       ·subst bd;rw[J]at B;cases B;rw[Z]at I;cases I;rw[E5];rw[cd]at h6;exact h6
       ·have F:=((N j).1 F).resolve_left bd;have ag:d0≠d:=fun q=>by
         subst q;exact bd (jE b3 B J I Z)
        rw[D3 ag];exact DD.2 ⟨hk d h7,hI.put j oj d x B F I h6 (W d h7)⟩
      ·have B:E6 ((d0,s)::j5 C H) t=some x:=B;by_cases ag:d0=t
       ·subst ag;rw[E5]at B;cases B;exact .inl ⟨i,o,J,(N i).2 (.inl rfl),Z,cd⟩
       ·rw[D3 ag]at B;rcases hI.from' t x (DD.1 B).2 with ⟨j,oj,F,I,h6⟩ | F
        ·exact .inl ⟨j,oj,F,(N j).2 (.inr I),h6⟩
        ·exact .inr F
      ·show E6 ((d0,s)::j5 C H) t=some x;have ag:d0≠t:=fun q=>F (by rw[<-q];exact cU J Z);rw[D3 ag];exact DD.2 ⟨hk t I,hI.old t x B F (W t I)⟩
    unfold wpOp;simp only[List.getElem?_toArray,J];rw[A4 (by simp[Region.wanted,g1])];rcases bk with ⟨an,bw⟩ | ⟨an,ob',heff,au,hobT,hle⟩
    ·have bv:i∉E:=fun q=>by rw[zK.2 q]at an;cases an
     refine .inl (M2 (bw S G a w (am.weaken fun t x hx=>aw t x hx)) ?_);rintro v w' ⟨ch,s',rfl,hv⟩;have aj:(E.filter fun j=>(A.setIfInBounds i true).getD j false)=D:=by
      rw[hD];apply List.filter_congr;intro j K;have:j≠i:=fun q=>bv (q ▸ K);exact j3 (Ne.symm this)
     obtain⟨d0,bo⟩:=g4.resolve_left (by rw[an];simp);have ad:=ax [] (fun q=>absurd q bv) (fun _=>rfl);rw[bo]at ad ⊢;have ad:InvK l E X T fr (A.setIfInBounds i true) ((d0,s')::j5 [] H):=ad;have cn:j5 [] H=H:=by unfold j5;exact List.filter_eq_self.2 fun p _=>rfl
     rw[cn]at ad;exact ih (A.setIfInBounds i true) ((d0,s')::H) ob G _ w' af cf av (by rw[aj];exact hM) (by rw[aj];exact ai) ad ((am.ext ch).put (by rw[hn];exact g2 d0 bo) hv)
    ·have ab:i∈E:=zK.1 an;have aj:(E.filter fun j=>(A.setIfInBounds i true).getD j false)=aH i D:=by
      rw[hD];exact jD (by omega) ah b4 ab
     have cj:aH i D∈Ms:=by
      have:=List.all_eq_true.1 (List.all_eq_true.1 b7 D hM) i ab;rw[ca]at this;exact kX (by simpa using this)
     have br:∀k∈(o5 T i).1,∀t x,E6 H t=some x->t∉(o5 T i).2->x.free k=true:=by
      obtain⟨x0,db,dc⟩:=co i ab;rw[dc]
      have hf:∀(xs:Ed),iG l l.toArray X fr xs=true->(i,x0)∈xs->∀k∈x0.1,((List.range l.toArray.size).all fun j=>Nat.beq j i||Bef l.toArray j i||match (l[j]?).bind (·.dst),Q0 X j with
        | some d,some s=>N3 x0.2 d||s.free k
        | _,_=>true)=true/\(fr.all fun p=>N3 x0.2 p.1||p.2.free k)=true:=by
       intro xs;induction xs with
       | nil=>intro _ h;simp at h
       | cons y r dg =>
        obtain⟨e',dk,dj⟩:=y;intro bh ac;simp only[iG,WU]at bh;rcases XB.1 ac with q | q
        ·cases q;intro k hk;have:=List.all_eq_true.1 bh.1 k hk;simpa only[WU] using this
        ·exact dg bh.2 q
      intro k hk t x hx al;obtain⟨f1,f2⟩:=hf T bc db k hk;rcases hI.from' t x hx with ⟨j,oj,F,I,h6,h7⟩ | F
      ·have:=List.all_eq_true.1 f1 j (XE.2 (by simpa using (List.getElem?_eq_some_iff.1 F).1));have cs:j≠i:=fun q=>by rw[q,ah]at I;cases I
       have cm:Bef l.toArray j i=false:=by
        cases hb:Bef l.toArray j i
        ·rfl
        ·exact (bf j I hb).elim
       rw[U0 cs,cm,F]at this;simp only[Option.bind_some,h6,h7,Bool.false_or,XR]at this;rcases this with q | q
       ·exact absurd (zK.1 q) al
       ·exact q
      ·have ac:(t,x)∈fr:=by
        have:∀(fr:Fr),E6 fr t=some x->(t,x)∈fr:=by
         intro fr;induction fr with
         | nil=>intro h;simp[E6]at h
         | cons y r de =>
          obtain⟨q,z⟩:=y;intro h;by_cases hq:q=t
          ·subst hq;rw[E5]at h;cases h;exact List.mem_cons_self ..
          ·rw[D3 hq]at h;exact List.mem_cons_of_mem _ (de h)
        exact this fr F
       have:=List.all_eq_true.1 f2 (t,x) ac;simp only[XR]at this;rcases this with q | q
       ·exact absurd (zK.1 q) al
       ·exact q
     refine .inl (M2 (heff H aw br S G a w hn am) ?_);rintro v w' ⟨G',cc,hv⟩;have ad:=ax (o5 T i).2 (fun _=>rfl) (fun q=>absurd ab q);have cy:=cc.weakenO hle;refine ih (A.setIfInBounds i true) _ au G' _ w' af cf av (by rw[aj];exact cj) (by rw[aj];exact hobT) ad ?_;cases Z:o.dst with
     | none=>exact cy
     | some d0 =>
      have da:=hv d0 Z;have cb:=cc.put (d:=d0) (by rw[hn];exact g2 d0 Z) da;exact cb.weakenO hle
 have L:∀j,(Array.replicate l.length false).getD j false=false:=by
  intro j;simp only[Array.getD_eq_getD_getElem?];rcases Nat.lt_or_ge j l.length with h' | h'
  ·simp[h']
  ·simp[h']
 have bp:(E.filter fun j=>(Array.replicate l.length false).getD j false)=[]:=by
  rw[List.filter_eq_nil_iff];intro e _;rw[L];simp
 have cz:unl (Array.replicate l.length false) l.length=l.length:=by
  unfold unl;have:(List.range l.length).countP (fun i=>!(Array.replicate l.length false).getD i false)=(List.range l.length).length:=by
   rw[List.countP_eq_length];intro i _;rw[L];rfl
  rw[this,YG]
 have:=dh l.length (Array.replicate l.length false) fr bl G a _ (by simp) cz (fun j o J hl=>by rw[L]at hl;cases hl) (by rw[bp];exact kX b6) (by rw[bp];exact h0) ⟨fun j o d s _ F _=>(by rw[L]at F;cases F),fun t s B=>.inr B,fun t s B _ _=>B⟩ (hs.ext dd);simpa using this
def iH(P:Program)(nt:Nat)(l:List Oper)(fr:Fr)(E:List Nat)(a:Ed)(K:Sv->Mo->Prop):List (Nat×List Nat)->Sv->Mo->Prop
 | [],svs,M=>K svs M
 | (i,D)::ts,svs,M=>∃o ob s,l[i]?=some o/\U8 M D=some ob/\cV l svs o=true/\(Q0 svs i=none\/Q0 svs i=some s) /\
   ((N3 E i=false/\Neu P o (R4 (hZ l svs fr) (T7 o.op)) ob (fun b=>b=s)/\iH P nt l fr E a K ts ((i,s)::svs) M) \/
    (N3 E i=true/\∃ob',DE P nt o (R4 (hZ l svs fr) (T7 o.op)) (o5 a i).1 (o5 a i).2 ob ob' s/\U8 M (aH i D)=none/\iH P nt l fr E a K ts ((i,s)::svs) ((aH i D,ob')::M)))
def fK(P:Program)(nt:Nat)(l:List Oper)(fr:Fr)(E:List Nat)(c:Ed)(a:Sv)(M:Mo):List (Nat×List Nat)->Prop
 | []=>True
 | (i,D)::ts=>(∃o ob s,l[i]?=some o/\U8 M D=some ob/\cV l a o=true/\Q0 a i=some s /\
   ((N3 E i=false/\Neu P o (R4 (hZ l a fr) (T7 o.op)) ob (fun d=>d=s)) \/
    (N3 E i=true/\∃ob' b,DE P nt o (R4 (hZ l a fr) (T7 o.op)) (o5 c i).1 (o5 c i).2 ob ob' s/\U8 M (aH i D)=some b/\LU b ob')))/\fK P nt l fr E c a M ts
def LW(P:Program)(nt:Nat)(l:List Oper)(fr:Fr)(E:List Nat)(c:Ed)(b:Sv)(M:Mo)(p:Nat×List Nat):Prop :=
 ∃ob s,U8 M p.2=some ob/\Q0 b p.1=some s/\Task P nt l fr b E c p.1 ob s (fun ob'=>∃a,U8 M (aH p.1 p.2)=some a/\LU a ob')
theorem gK{a:Sv}{i:Nat}{s:SV}(h:Q0 a i=none\/Q0 a i=some s){j:Nat}{x:SV}(c:Q0 a j=some x):Q0 ((i,s)::a) j=some x:=by
 show cond (Nat.beq i j) _ _=_;by_cases b:i=j
 ·subst b;rw[Nat.beq_refl];rcases h with h | h
  ·rw[h]at c;cases c
  ·rw[h]at c;exact c
 ·rw[U0 b];exact c
theorem qR:∀(l:List Nat),t7 l l=true
 | []=>rfl
 | a::l=>by simp[t7,Nat.beq_refl,qR l]
theorem uN{M:Mo}{D0:List Nat}{c:Obs}(h:U8 M D0=none){D:List Nat}{ob:Obs}(a:U8 M D=some ob):U8 ((D0,c)::M) D=some ob:=by
 show cond (t7 D0 D) _ _=_;cases b:t7 D0 D
 ·exact a
 ·rw[aI b]at h;rw[h]at a;cases a
theorem UIn2.mono{l:List Oper}{b a:Sv}{fr:Fr}{o:Oper}{U:Fr}(h:UIn2 l b fr o U)(k:∀j x,Q0 b j=some x->Q0 a j=some x):UIn2 l a fr o U:=fun t s m=>by
 obtain⟨d,c⟩:=h t s m;refine⟨d,?_⟩;rcases c with ⟨j,o',e,f,g⟩ | c
 ·exact .inl ⟨j,o',e,f,k j s g⟩
 ·exact .inr c
theorem qS{l:List Oper}{fr:Fr}{E:List Nat}{y:Ed}{K:Sv->Mo->Prop}:∀{w:List (Nat×List Nat)} {b:Sv} {M:Mo},iH P nt l fr E y K w b M ->
  ∃a M',(∀j x,Q0 b j=some x->Q0 a j=some x)/\(∀D ob,U8 M D=some ob->U8 M' D=some ob)/\K a M'/\∀p∈w,LW P nt l fr E y a M' p
 | [],b,M,h=>⟨b,M,fun _ _ h=>h,fun _ _ h=>h,h,fun p d=>by simp at d⟩
 | (i,D)::w,b,M,h=>by
  obtain⟨o,ob,s,z,A,B,g,C⟩:=h;have c:Q0 ((i,s)::b) i=some s:=by show cond (Nat.beq i i) _ _=_;rw[Nat.beq_refl];rfl
  rcases C with ⟨t,u,v⟩ | ⟨t,ob',u,h9,v⟩
  ·obtain⟨a,M',g1,f,k,q⟩:=qS v;refine⟨a,M',fun j x e=>g1 j x (gK g e),f,k,fun p d=>?_⟩;rcases XB.1 d with rfl | d
   ·exact⟨ob,s,f _ _ A,g1 _ _ c,o,_,z,(pP B).mono (fun j x e=>g1 j x (gK g e)),.inl ⟨t,u⟩⟩
   ·exact q p d
  ·obtain⟨a,M',g1,f,k,q⟩:=qS v;have G:U8 ((aH i D,ob')::M) (aH i D)=some ob':=by show cond (t7 _ _) _ _=_;rw[qR];rfl
   refine⟨a,M',fun j x e=>g1 j x (gK g e),fun D' H F=>f _ _ (uN h9 F),k,fun p d=>?_⟩;rcases XB.1 d with rfl | d
   ·exact⟨ob,s,f _ _ (uN h9 A),g1 _ _ c,o,_,z,(pP B).mono (fun j x e=>g1 j x (gK g e)),.inr ⟨t,ob',u,ob',f _ _ G,fun _ _ h=>h⟩⟩
   ·exact q p d
theorem uO{l:List Oper}{fr:Fr}{E:List Nat}{d:Ed}{a:Sv}{M:Mo}:∀{c:List (Nat×List Nat)},fK P nt l fr E d a M c->∀p∈c,LW P nt l fr E d a M p
 | [],_,p,hp=>by simp at hp
 | (i,D)::c,h,p,hp=>by
  obtain⟨⟨o,ob,s,e,f,g,j,k⟩,m⟩:=h;rcases XB.1 hp with rfl | hp
  ·rcases k with ⟨g1,b⟩ | ⟨g1,ob',obT,b,g3,g4⟩
   ·exact⟨ob,s,f,j,o,_,e,pP g,.inl ⟨g1,b⟩⟩
   ·exact⟨ob,s,f,j,o,_,e,pP g,.inr ⟨g1,ob',b,obT,g3,g4⟩⟩
  ·exact uO m p hp
def xH(a:Ed):List Nat:=a.flatMap fun p=>p.2.2
def UX(E:List Nat)(a:Ed):Bool:=E.all fun e=>a.any fun p=>Nat.beq p.1 e
theorem qT:∀{b:Ed} {e:Nat},(b.any fun p=>Nat.beq p.1 e)=true->(e,o5 b e)∈b
 | [],_,h=>by simp at h
 | (i,x)::r,e,h=>by
  by_cases a:i=e
  ·subst a;have:o5 ((i,x)::r) i=x:=by show cond (Nat.beq i i) _ _=_;rw[Nat.beq_refl];rfl
   rw[this];exact List.mem_cons_self ..
  ·have c:o5 ((i,x)::r) e=o5 r e:=by show cond (Nat.beq i e) _ _=_;rw[U0 a];rfl
   rw[c];simp only[List.any_cons,U0 a,Bool.false_or]at h;exact List.mem_cons_of_mem _ (qT h)
def QW(P:Program)(nt:Nat)(l:List Oper)(fr:Fr)(E:List Nat)(d:Ed)(T2:List (Nat×List Nat))(Q:Post)(b:Sv)(M:Mo):Prop :=
 (iG l l.toArray b fr d&&(List.range l.length).all fun j=>(Q0 b j).isSome)=true/\fK P nt l fr E d b M T2/\∃c,U8 M E=some c/\Q .normal (j5 (xH d) (hZ l b fr)) c
theorem Y6{id:Nat}{l:List Oper}{fr:Fr}{b:Obs}{Q:Post}(E:List Nat)(Ms:List (List Nat))(c:Ed)(T1 T2:List (Nat×List Nat))(I:P.follows .mixedOrders=true)
  (q:(LV nt l E Ms c (T1++T2)&&UX E c)=true) (h:iH P nt l fr E c (QW P nt l fr E c T2 Q) T1 [] [([],b)]):WpC P nt (.region id l.toArray true) fr b Q:=by
 simp only[WU]at q;obtain⟨y,M,L,A,⟨v,B,K,C,D⟩,F⟩:=qS h;simp only[WU]at v;refine QV E Ms c (T1++T2) y M I q.1 (fun e w=>⟨o5 c e,qT (List.all_eq_true.1 q.2 e w),rfl⟩) v.1 (A [] b rfl) (fun p f=>?_) C (fun t s J=>?_) D
 ·rcases WZ.1 f with f | f
  ·exact F p f
  ·exact uO B p f
 ·obtain⟨H,G⟩:=DD.1 J;refine⟨fun e w a=>H ?_,?_⟩
  ·have:=qT (List.all_eq_true.1 q.2 e w);exact List.mem_flatMap.2 ⟨_,this,a⟩
  ·rcases qQ G with ⟨j,o,g1,u,k⟩ | ⟨g1,u⟩
   ·exact .inl ⟨j,o,u,k,g1⟩
   ·refine .inr ⟨fun a=>?_,g1⟩;obtain⟨j,o,k,z⟩:=kY a;have:=List.all_eq_true.1 v.2 j (XE.2 (List.getElem?_eq_some_iff.1 k).1);exact u j o (fun e=>by rw[e]at this;cases this) k z
theorem H2{l:List Oper}{fr:Fr}{E:List Nat}{b:Ed}{K:Sv->Mo->Prop}{i:Nat}{D:List Nat}{c:List (Nat×List Nat)}{a:Sv}{M:Mo}{o:Oper}{ob:Obs}{s:SV}(e:l[i]?=some o)(d:U8 M D=some ob)(g:cV l a o=true)
  (j:Q0 a i=none) (f:N3 E i=false) (h:Neu P o (R4 (hZ l a fr) (T7 o.op)) ob (fun m=>m=s)) (k:iH P nt l fr E b K c ((i,s)::a) M):iH P nt l fr E b K ((i,D)::c) a M :=
 ⟨o,ob,s,e,d,g,.inl j,.inl ⟨f,h,k⟩⟩
theorem bC{l:List Oper}{fr:Fr}{E:List Nat}{b:Ed}{K:Sv->Mo->Prop}{i:Nat}{D:List Nat}{c:List (Nat×List Nat)}{a:Sv}{M:Mo}{o:Oper}{ob ob':Obs}{s:SV}(f:l[i]?=some o)(d:U8 M D=some ob)(j:cV l a o=true)
  (m:Q0 a i=none) (g:N3 E i=true) (h:DE P nt o (R4 (hZ l a fr) (T7 o.op)) (o5 b i).1 (o5 b i).2 ob ob' s) (e:U8 M (aH i D)=none) (k:iH P nt l fr E b K c ((i,s)::a) ((aH i D,ob')::M)):iH P nt l fr E b K ((i,D)::c) a M :=
 ⟨o,ob,s,f,d,j,.inl m,.inr ⟨g,ob',h,e,k⟩⟩
theorem FZ{l:List Oper}{fr:Fr}{E:List Nat}{d:Ed}{T2:List (Nat×List Nat)}{Q:Post}{b:Sv}{M:Mo}{c:Obs}(f:(iG l l.toArray b fr d&&(List.range l.length).all fun j=>(Q0 b j).isSome)=true)(g:U8 M E=some c)
  (h:fK P nt l fr E d b M T2) (k:Q .normal (j5 (xH d) (hZ l b fr)) c):iH P nt l fr E d (QW P nt l fr E d T2 Q) [] b M:=⟨f,h,c,g,k⟩
theorem j6{l:List Oper}{fr:Fr}{E:List Nat}{b:Ed}{i:Nat}{D:List Nat}{c:List (Nat×List Nat)}{a:Sv}{M:Mo}{o:Oper}{ob:Obs}{s:SV}(e:l[i]?=some o)(d:U8 M D=some ob)(g:cV l a o=true)
  (j:Q0 a i=some s) (f:N3 E i=false) (h:Neu P o (R4 (hZ l a fr) (T7 o.op)) ob (fun m=>m=s)) (k:fK P nt l fr E b a M c):fK P nt l fr E b a M ((i,D)::c) :=
 ⟨⟨o,ob,s,e,d,g,j,.inl ⟨f,h⟩⟩,k⟩
theorem uP{l:List Oper}{fr:Fr}{E:List Nat}{b:Ed}{a:Sv}{M:Mo}:fK P nt l fr E b a M []:=trivial
theorem w9{U a:Fr}(d:uM U a){x:Operand}{s:SV}(h:opv U x=some s):opv a x=some s:=by
 cases x with
 | tmp t =>
  have h:o4 U t=some s:=h;obtain⟨b,c⟩:=uC h;show o4 a t=some s;unfold o4;have:Nat.blt t 1000000=true:=by simpa using b
  rw[this];exact d t s c
 | _=>exact h
theorem QB{U a:Fr}(d:uM U a):∀{e:List Operand} {ps:List S1},bA U e=some ps->bA a e=some ps
 | [],ps,h=>h
 | x :: r,ps,h=>by
  unfold bA at h ⊢;cases c:opv U x with
  | none=>rw[c]at h;cases h
  | some sv =>
   rw[c]at h;cases sv with
   | s g =>
    simp only at h;cases b:bA U r with
    | none=>rw[b]at h;cases h
    | some f =>
     rw[b]at h;rw[w9 d c];simp only;rw[QB d b];exact h
   | _=>cases h
theorem qU{U:Fr}{j:Op}{ty:TypeId}{pos:String}{af:Array Edge}{ob ob':Obs}(h:∀b,uM U b->Eff P ⟨none,j,ty,pos,af,none⟩ b ob b ob'):DE P nt ⟨none,j,ty,pos,af,none⟩ U [] [] ob ob' .any:=by
 intro b k _ S G a w s o;have:=h b k S G a w o;have g:j5 [] b=b:=by unfold j5;exact List.filter_eq_self.2 fun p _=>rfl
 have c:∀(v:Value) (w':World),(∃G',Sim P S b ob' G' a w')->∃G',Sim P S (j5 [] b) ob' G' a w'/\∀d,(none:Option Tmp)=some d->SV.rep (F2 (Mut S ob' G') w') G' .any v:=fun v w' ⟨G',h⟩=>⟨G',by rw[g];exact h,fun d l=>by cases l⟩
 unfold Does at this ⊢;generalize (execOp a.eval _).run P w=r at *;cases r with
 | ok n w' =>
  cases n<;>simp only at this ⊢<;>try exact this.elim
  case value v=>exact c v w' this
  case skip=>exact c undef w' this
  case enter f args=>exact this.mono fun e i ⟨v,m,q⟩=>⟨v,m,c v i q⟩
 | halt x w'=>exact this
theorem qV{U:Fr}{k:Nat}{c:List Nat}{o:Oper}{ob ob':Obs}{s:SV}(h:∀b,uM U b->EffV P o b ob s (Fr.forget k b) ob'):DE P nt o U [k] c ob ob' s:=by
 intro b m g S G a w B z;have:=h b m S G a w z
 have i:∀(v:Value) (w':World),(∃G',Sim P S (Fr.forget k b) ob' G' a w'/\s.rep (F2 (Mut S ob' G') w') G' v)->∃G',Sim P S (j5 c b) ob' G' a w'/\∀d,o.dst=some d->s.rep (F2 (Mut S ob' G') w') G' v:=fun v w' ⟨G',h,y⟩=>⟨G',h.weaken (fun t x j=>by
  obtain⟨q,j⟩:=DD.1 j;rw[O3,j]
  simp[SV.forget_free (g k (by simp) t x j q)]),fun _ _=>y⟩
 unfold Does at this ⊢;generalize (execOp a.eval _).run P w=r at *;cases r with
 | ok n w' =>
  cases n<;>simp only at this ⊢<;>try exact this.elim
  case value v=>exact i v w' this
  case skip=>exact i undef w' this
  case enter f args=>exact this.mono fun e l ⟨v,p,A⟩=>⟨v,p,i v l A⟩
 | halt x w'=>exact this
theorem iI:∀{a:List Nat} {fr:Fr} {t:Nat} {x:SV},E6 fr t=some x->(∀k∈a,x.free k=true)->E6 (D2 a fr) t=some x
 | [],_,_,_,h,_=>h
 | k::a,fr,t,x,h,hf=>by
  show E6 (D2 a (Fr.forget k fr)) t=some x;refine iI ?_ (fun c b=>hf c (List.mem_cons_of_mem _ b));rw[O3,h];simp[SV.forget_free (hf k (List.mem_cons_self ..))]
theorem QC{f:FuncId}{m:List Operand}{H:Array TypeId}{d:Nat}{ty:TypeId}{pos:String}{af:Array Edge}{U:Fr}{args:List S1}{Q E:List Nat}{ob ob':Obs}{W:List S1}
  (V:∀gf,Met P f args gf ob Q (fun N g=>N=W/\g=ob')) (ha:bA U m=some args) (Y:m.all H9=true):DE P nt ⟨some d,.call ⟨.value (.func f),m.toArray,H⟩,ty,pos,af,none⟩ U Q E ob ob' (pC W):=by
 intro b X B S G a w hn h;have D:=p6 h m args (QB X ha) Y;obtain⟨F,I⟩:∃F:Nat->Value,F=fun i=>S.sl a (i-1000000):=⟨_,rfl⟩
 let S':Ctx:={ S with gv:=F }
 have C:High (eL b):=fun i s J=>(X0 b i s J).1;have j:∀i s,E6 (eL b) i=some s->s.rep (F2 (Mut S' ob G) w) G (S'.sl a i):=by
  intro i s J;obtain⟨z,R⟩:=X0 b i s J;rw[Ctx.sl_ge z];show s.rep _ _ (F i);have e:=congrFun I i;rw[e];exact h.facts (i-1000000) s R
 have hs:Sim P S' (eL b) ob G a w:={ h with facts:=j }
 have p:=(V (eL b)).2 C S' G a w _ hs D;have Z:(execOp a.eval ⟨some d,.call ⟨.value (.func f),m.toArray,H⟩,ty,pos,af,none⟩).run P w=.ok (.enter f (m.map a.eval).toArray) w:=by
  have:=Q4 (P:=P) (f:=f) (args:=(m.map a.eval).toArray) (w:=w) (V []).1;have hm:m.toArray.map a.eval=(m.map a.eval).toArray:=by simp
  simp only[execOp,resolve,Act.eval,Deferred.ofValue,Sem.run_bind,Sem.run_pure,Result.andThen_ok,invoke];rw[show (#[]:Array Value)++Array.map a.eval m.toArray++#[]=(m.map a.eval).toArray by rw[<-hm];simp];exact this
 unfold Does;rw[Z];refine p.mono ?_;rintro e w' ⟨v,N,g,G',rfl,⟨rfl,rfl⟩,K,L⟩;have q:∀i s,E6 (D2 Q b) i=some s->s.rep (F2 (Mut S g G') w') G' (S.sl a i):=by
  intro i s J;have z:=L.facts (i+1000000) s (by rw[j2];exact kT J);have R:1000000<=i+1000000:=Nat.le_add_left _ _;rw[Ctx.sl_ge R]at z;have z:s.rep (F2 (Mut S g G') w') G' (F (i+1000000)):=z;have e:=congrFun I (i+1000000);simp only[Nat.add_sub_cancel]at e;rw[e]at z;exact z
 have M:Sim P S (D2 Q b) g G' a w':={ L with facts:=q }
 refine⟨v,rfl,G',M.weaken (fun t x O=>?_),fun _ _=>K⟩;obtain⟨hk,O⟩:=DD.1 O;exact iI O (fun k T=>B k T t x O hk)
theorem WP(k:Nat)(α:Type)(j:Nat)(c:α->Nat->Cell)(e:TypeId){kb o n m:Nat}{B:List TC}(hb:C5 ob kb=some (.tarr n m B))(J:B[o]?=some (.p (.v (.slice none 0 0))))(M:(I2 k fr&&M9 k ob)=true) :
  Sees P nt fr ob fr ((kb,.tarr n m (B.set o (.buf k α j c [])))::(k,.spare 0 j e)::ob):=by
 simp only[WU]at M;obtain⟨Q,R⟩:=M;obtain⟨T,C,W⟩:=S9 R;intro S G a w hn h;have D:=h.new W (o:=.spare 0 j e) (u:=.slice none 0 0) (w1:=w) C (Below.refl _ _) (fun b hb=>by simp[blk]at hb) ⟨[],World.ownsRow_nil w _ _ _⟩;rw[S8 Q,T]at D;have H:k≠kb:=fun U=>by rw[U,hb]at C;cases C
 have x:C5 ((k,Ob.spare 0 j e)::ob) kb=some (.tarr n m B):=by rw[C8 H];exact hb
 obtain⟨b,vs,t,V,hl,Z,N,ha⟩:=D.obs kb _ x;have d:blk (upd G k (.slice none 0 0) kb)=some b:=by rw[V];rfl
 refine⟨_,D.retell x d (fun i=>⟨d,trivial⟩) (fun i=>⟨d,trivial⟩) ?_⟩;rintro rd ⟨O,L,Y,E,I,F,g,q⟩;refine⟨O,L,Y,E,I,F,by simpa using g,WA o (fun z X=>?_) q⟩;obtain⟨z',A,K⟩:=q.get o _ J;rw[X]at A;cases A;rw[K.1];exact⟨(H7 _ _ _).symm,I5 α j c⟩
def GA(L:Obs):List Nat:=L.map (·.1)
theorem G9{L c rest:Obs}(h:ObIn c L)(g:∀j x,N3 (GA L) j=false->C5 rest j=some x->C5 c j=some x):∀j x,C5 (L++rest) j=some x->C5 c j=some x:=by
 have e:∀(L:Obs) (j:Nat) (x:Ob),C5 (L++rest) j=some x->(C5 L j=some x)\/(N3 (GA L) j=false/\C5 rest j=some x):=by
  intro L;induction L with
  | nil=>intro j x a;exact .inr ⟨rfl,a⟩
  | cons p r l =>
   obtain⟨k,o⟩:=p;intro j x a;have a:C5 ((k,o)::(r++rest)) j=some x:=a;by_cases d:k=j
   ·subst d;rw[F4]at a;left;rw[F4];exact a
   ·rw[C8 d]at a;rcases l j x a with b | ⟨b,h2⟩
    ·left;rw[C8 d];exact b
    ·right;refine⟨?_,h2⟩;cases f:N3 (GA ((k,o)::r)) j
     ·rfl
     ·rcases XB.1 (zK.1 f) with q | q
      ·exact absurd q.symm d
      ·rw[show N3 (GA r) j=true from zK.2 q]at b;cases b
 intro j x a;rcases e L j x a with b | ⟨b,h2⟩
 ·exact h.spec j x b
 ·exact g j x b h2
theorem F6{K:List Nat}{rest:Obs}:∀j x,N3 K j=false->C5 rest j=some x->C5 rest j=some x:=fun _ _ _ h=>h
theorem G3{K:List Nat}{T rest:Obs}{k:Nat}{o:Ob}(b:N3 K k=true)(h:∀j x,N3 K j=false->C5 rest j=some x->C5 T j=some x):∀j x,N3 K j=false->C5 rest j=some x->C5 ((k,o)::T) j=some x:=by
 intro j x a c;have:k≠j:=fun e=>by rw[e,a]at b;cases b
 rw[C8 this];exact h j x a c
theorem gL{K:List Nat}{T ob:Obs}(k:Nat)(h:∀j x,N3 K j=false->C5 (Obs.forget k ob) j=some x->C5 T j=some x):∀j x,N3 K j=false->C5 (Obs.forget k ob) j=some x->C5 (Obs.forget k T) j=some x:=by
 intro j x d a;have c:=h j x d a;rw[L0,c];have b:=a;rw[<-Obs.forget_idem,L0,a]at b;exact b
theorem zO{rest:Obs}:∀{L:Obs} {j:Nat} {x:Ob},C5 (L++rest) j=some x->C5 L j=some x\/C5 rest j=some x
 | [],j,x,a=>.inr a
 | (k,o)::r,j,x,a=>by
  have a:C5 ((k,o)::(r++rest)) j=some x:=a;by_cases c:k=j
  ·subst c;rw[F4]at a;left;rw[F4];exact a
  ·rw[C8 c]at a;rcases zO a with b | b
   ·left;rw[C8 c];exact b
   ·exact .inr b
section
variable {P:Program}{nt:Nat}{fr gf:Fr}{ob:Obs}
theorem VZ(k:Nat){l:Fr}{L:Obs}(N:FrLe fr l)(K:High gf)(O:Tail gf fr)(M:ObIn ob L):Sees P nt fr ob (l++Fr.forget k gf) (L++Obs.forget k ob):=by
 intro S G a w T h;have c:∀d m,C5 (L++Obs.forget k ob) d=some m->∃u,C5 ob d=some u/\(m=u\/m=u.forget k):=by
  intro d m j;rcases zO j with q | q
  ·exact⟨m,M.spec d m q,.inl rfl⟩
  ·rw[L0]at q;cases B:C5 ob d with
   | none=>rw[B]at q;cases q
   | some u=>rw[B]at q;cases q;exact⟨u,rfl,.inr rfl⟩
 have y:∀b i z,F2 (Mut S ob G) w b i z->F2 (Mut S (L++Obs.forget k ob) G) w b i z:=by
  intro b i z J;refine⟨J.1,fun I=>J.2 ?_⟩;rcases I with I | ⟨d,m,j,hb⟩
  ·exact .inl I
  ·obtain⟨u,A,rfl | rfl⟩:=c d m j
   ·exact .inr ⟨d,_,A,hb⟩
   ·exact .inr ⟨d,u,A,QP.1 hb⟩
 refine⟨G,{ h with old:=?_,dis:=?_,obs:=?_,facts:=?_ }⟩
 ·intro d m b j hb;obtain⟨u,A,_⟩:=c d m j;exact h.old d u b A hb
 ·intro k1 k2 m Q b q D F H;obtain⟨R,ha,_⟩:=c k1 m q;obtain⟨ob',E,_⟩:=c k2 Q D;exact h.dis k1 k2 R ob' b ha E F H
 ·intro d m j;obtain⟨u,A,rfl | rfl⟩:=c d m j
  ·exact (h.obs d _ A).ext y (Below.refl _ _)
  ·exact ((h.obs d u A).ext y (Below.refl _ _)).forget (fun _ _=>rfl)
 ·intro i s p;rw[s9]at p;cases B:E6 l i with
  | some C =>
   rw[B]at p;have p:some C=some s:=p;cases p;obtain⟨s1,q,D⟩:=N.spec i _ B;exact D.rep (SV.rep_mono y (h.facts i s1 q))
  | none =>
   rw[B]at p;have p:E6 (Fr.forget k gf) i=some s:=p;rw[O3]at p;cases v:E6 gf i with
   | none=>rw[v]at p;cases p
   | some C =>
    rw[v]at p;cases p;exact SV.rep_forget (fun _ _=>rfl) (SV.rep_mono y (h.facts i C (O i C (K i C v) v)))
end
theorem Sim.grow_cell{S:Ctx}{G:Gh}{a:Act}{w:World}(h:Sim P S fr ob G a w){k b n j i o f:Nat}{e:TypeId}{α:Type}{c:α->Nat->Cell}{m:List α}{v:α}(A:C5 ob k=some (.grow e α f c m))(x:G k=.slice (some ⟨b,0,none⟩) n j)(C:m[i]?=some v)(B:o<f) :
  ∃z,w.cell? ⟨b,i*f+o,none⟩=some z/\(c v o).rep (F2 (Mut S ob G) w) z:=by
 obtain⟨D,d,_,u⟩:=h.obs k _ A;obtain⟨y,rfl⟩:=List.getElem?_eq_some_iff.1 C;obtain⟨z,q,t⟩:=u i y o B;have:=d.cells (g:=b) (by rw[x];rfl) (i*f+o) z q;exact⟨z,by simpa[Addr.add_lit] using this,t⟩
theorem u0{x:Operand}{t e:TypeId}{k i o:Nat}{α:Type}{ec:Nat}{c:α->Nat->Cell}{xs:List α}{v:α}[ht:TyOne P t](E:opv fr x=some (.s (.one (.mref k ec i o))))(A:C5 ob k=some (.grow e α ec c xs))(D:xs[i]?=some v)
  (B:Nat.blt o ec=true):Neu P ⟨dst,.load t x,ty,pos,af,gd⟩ fr ob (fun F=>F=.s (.one (.p (c v o)))) :=
 E9 fun S G a w h=>by
  obtain⟨b,n,u,y,C⟩:=H0 h E;obtain⟨z,j,q⟩:=h.grow_cell A y D (by simpa using B);refine⟨z,?_,q⟩;simp only[execOp,C];exact L2 (by simp[Instr.loadAt,Instr.sureAddr,P7 j])
theorem LX(k:Nat)(α:Type)(c:α->Nat->Cell){t e:TypeId}{ec d:Nat}[ht:TySl P t e ec d](p:C5 ob k=none)(q:Nat.blt k 1000000=true) :
  EffV P ⟨dst,.assign (.const (.slice none 0 0)),t,pos,af,gd⟩ fr ob (.s (.one (.mut k))) (Fr.forget k fr) ((k,.grow e α ec c [])::Obs.forget k ob):=by
 intro S G a w h;refine H8 (w':=w) (v:=.slice none 0 0) Z ?_;have f:=h.new (by simpa using q) (o:=.grow e α ec c []) (u:=.slice none 0 0) (w1:=w) p (Below.refl _ _) (fun b hb=>by simp[blk]at hb) ⟨[],World.ownsRow_nil w _ _ _,by simp,fun i j=>absurd j (by simp)⟩;exact⟨upd G k (.slice none 0 0),f,(H7 _ _ _).symm,rfl⟩
theorem tail_drop{gf:Fr}{ks:List Nat}(d:(ks.all fun k=>Nat.blt k 1000000)=true)(h:Tail gf fr):Tail gf (j5 ks fr):=fun i s c b=>by
 refine DD.2 ⟨fun a=>?_,h i s c b⟩;have:=List.all_eq_true.1 d i a;have:i<1000000:=by simpa using this
 omega
theorem Sim.freezeG{S:Ctx}{G:Gh}{a:Act}{w:World}(h:Sim P S fr ob G a w){k:Nat}{α:Type}{ec:Nat}{c:α->Nat->Cell}{xs:List α}{e:TypeId}(hk:C5 ob k=some (.grow e α ec c xs))(ac:0<ec) :
  Sim P S (WB (SV.freeze k α ec c xs) fr) (VY (Ob.freeze k α ec c xs) (Obs.drop k ob)) G a w:=by
 have T:=h.drop k;obtain⟨Y,V,U,hc⟩:=h.obs k _ hk;have v:∀q o,C5 (VY (Ob.freeze k α ec c xs) (Obs.drop k ob)) q=some o->∃E,C5 (Obs.drop k ob) q=some E/\o=E.freeze k α ec c xs:=by
  intro q o d;rw[getO_mapO]at d;cases C:C5 (Obs.drop k ob) q with
  | none=>simp[C]at d
  | some E=>simp[C]at d;exact⟨E,rfl,d.symm⟩
 have K:∀(u:Value) (o:Ob) (b i:Nat),Own u (o.freeze k α ec c xs) b i↔Own u o b i:=by intro u o b i;cases o<;>simp[Own,Ob.freeze]
 have I:∀b i,Mut S (VY (Ob.freeze k α ec c xs) (Obs.drop k ob)) G b i->Mut S (Obs.drop k ob) G b i:=by
  intro b i A;rcases A with A | ⟨q,o,d,hb⟩
  ·exact .inl A
  ·obtain⟨E,R,rfl⟩:=v q o d;exact .inr ⟨q,E,R,(K _ _ _ _).1 hb⟩
 have M:∀b i z,F2 (Mut S (Obs.drop k ob) G) w b i z->F2 (Mut S (VY (Ob.freeze k α ec c xs) (Obs.drop k ob)) G) w b i z:=fun b i z L=>⟨L.1,fun A=>L.2 (I b i A)⟩
 have W:∀b i z,F2 (Mut S ob G) w b i z->F2 (Mut S (Obs.drop k ob) G) w b i z:=by
  intro b i z L;refine⟨L.1,fun A=>L.2 ?_⟩;rcases A with A | ⟨q,o',d,hb⟩
  ·exact .inl A
  ·refine .inr ⟨q,o',?_,hb⟩;by_cases D:q=k
   ·subst D;rw[R3]at d;cases d
   ·rwa[O4 D]at d
 have f:(Cell.list α ec c xs).rep (F2 (Mut S (VY (Ob.freeze k α ec c xs) (Obs.drop k ob)) G) w) (G k):=by
  refine y1 V ac U ?_ (fun i N j hj=>let ⟨z,y,B⟩:=hc i N j hj;⟨z,y,Cell.rep_mono (fun _ _ _ L=>M _ _ _ (W _ _ _ L)) _ _ B⟩);intro g hg j z hj J;refine⟨J,fun A=>?_⟩;rcases I _ _ A with A | ⟨q,o',d,hb,_⟩
  ·have:=h.m0 _ _ A;rcases h.old k _ g hk hg with y | y
   ·omega
   ·exact h.m0io _ _ A y.1
  ·by_cases D:q=k
   ·subst D;rw[R3]at d;cases d
   ·rw[O4 D]at d;exact D (h.dis q k o' _ g d hk hb hg)
 exact { T with
  old:=fun q o b d=>let ⟨E,R,_⟩:=v q o d;T.old q E b R
  dis:=fun k1 k2 o1 o2 b y B=>let ⟨oa,ha,_⟩:=v k1 o1 y;let ⟨ob',ab,_⟩:=v k2 o2 B;T.dis k1 k2 oa ob' b ha ab
  obs:=fun q o d=>by
   obtain⟨E,R,rfl⟩:=v q o d;have m:=(T.obs q E R).ext M (Below.refl _ _);cases E with
   | box X=>obtain⟨O,F,t',y,B,H⟩:=m;exact⟨O,F,t',y,B,H.map (TC.freeze k α ec c xs) fun _ _=>TC.rep_freeze f⟩
   | tbx e X=>obtain⟨O,F,y,B,H⟩:=m;exact⟨O,F,y,B,H.map (TC.freeze k α ec c xs) fun _ _=>TC.rep_freeze f⟩
   | tarr n Q X=>obtain⟨O,F,t',y,hl,B,hn,H⟩:=m;exact⟨O,F,t',y,hl,B,by simpa using hn,H.map (TC.freeze k α ec c xs) fun _ _=>TC.rep_freeze f⟩
   | arr=>exact m
   | spare=>exact m
   | grow=>exact m
   | map=>exact m
   | growA e' α' Q c' ad p X=>obtain⟨Y,y,B,H,Z,h5,h6⟩:=m;exact⟨Y,y,B,H,by simpa using Z,h5,h6.map (TC.freeze k α ec c xs) fun _ _=>TC.rep_freeze f⟩
   | growT e' n' Q X=>obtain⟨Y,y,B,H,Z⟩:=m;exact⟨Y,y,B,by simpa using H,Z.map (TC.freeze k α ec c xs) fun _ _=>TC.rep_freeze f⟩
  facts:=fun i s N=>by
   rw[mP]at N;cases C:E6 fr i with
   | none=>simp[C]at N
   | some s0 =>
    simp[C]at N;subst N
    exact SV.rep_freeze f (SV.rep_mono M (T.facts i s0 C)) }
theorem Sees.freezeG{k:Nat}{α:Type}{ec:Nat}{c:α->Nat->Cell}{xs:List α}{e:TypeId}(d:C5 ob k=some (.grow e α ec c xs))(b:Nat.blt 0 ec=true) :
  Sees P nt fr ob (WB (SV.freeze k α ec c xs) fr) (VY (Ob.freeze k α ec c xs) (Obs.drop k ob)):=fun S G a w f h=>⟨G,h.freezeG d (by simpa using b)⟩
theorem Sees.fewer{ob':Obs}(b:∀k o,C5 ob' k=some o->C5 ob k=some o):Sees P nt fr ob fr ob':=fun S G a w d c=>⟨G,c.weakenO b⟩
theorem WD(k:Nat)(α:Type)(A:Nat)(c:α->Nat->Cell)(e:TypeId){kb o:Nat}{q:List TC}(hb:C5 ob kb=some (.box q))(H:q[o]?=some (.p (.v (.slice none 0 0))))(K:(I2 k fr&&M9 k ob)=true) :
  Sees P nt fr ob fr ((kb,.box (q.set o (.mut k)))::(k,.grow e α A c [])::ob):=by
 simp only[WU]at K;obtain⟨M,N⟩:=K;obtain⟨O,B,U⟩:=S9 N;intro S G a w Y h;have C:=h.new U (o:=.grow e α A c []) (u:=.slice none 0 0) (w1:=w) B (Below.refl _ _) (fun b hb=>by simp[blk]at hb) ⟨[],World.ownsRow_nil w _ _ _,by simp,fun i T=>absurd T (by simp)⟩;rw[S8 M,O]at C;have F:k≠kb:=fun Q=>by rw[Q,hb]at B;cases B
 have j:C5 ((k,Ob.grow e α A c [])::ob) kb=some (.box q):=by rw[C8 F];exact hb
 obtain⟨b,vs,t,R,X,ha⟩:=C.obs kb _ j;have d:blk (upd G k (.slice none 0 0) kb)=some b:=by rw[R];rfl
 refine⟨_,C.retell j d (fun i=>⟨d,trivial⟩) (fun i=>⟨d,trivial⟩) ?_⟩;rintro Z ⟨L,J,W,D,E,f⟩;refine⟨L,J,W,D,E,WA o (fun z V=>?_) f⟩;obtain⟨z',n,I⟩:=f.get o _ H;rw[V]at n;cases n;rw[I.1];exact⟨(H7 _ _ _).symm,rfl⟩
theorem zP{c:Rd}{G:Gh}:∀{b:List TC} {a:List Value},All2 (TC.rep c G) b a->∀u∈a,u.oneCell'=true
 | [],[],_,u,hu=>by cases hu
 | t::b,v::a,h,u,hu=>by
  rcases XB.1 hu with rfl | hu
  ·exact TC.rep_one h.1
  ·exact zP h.2 u hu
def TC.refs:TC->List Nat
 | .buf k _ _ _ _=>[k]
 | .ref k _=>[k]
 | .mut k=>[k]
 | .mref k _ _ _=>[k]
 | .msl k _ _ _=>[k]
 | .clo _ d a=>d.map (·.1)++a.map (·.1)
 | .ifc _ k _=>[k]
 | _=>[]
def S1.refs:S1->List Nat
 | .one t=>t.refs
 | .agg b=>b.flatMap TC.refs
def SV.refs:SV->List Nat
 | .s x=>x.refs
 | .tup l=>l.flatMap S1.refs
 | _=>[]
def Ob.refs:Ob->List Nat
 | .box c=>c.flatMap TC.refs
 | .tbx _ c=>c.flatMap TC.refs
 | .tarr _ _ c=>c.flatMap TC.refs
 | .growA _ _ _ _ _ _ c=>c.flatMap TC.refs
 | .growT _ _ _ c=>c.flatMap TC.refs
 | _=>[]
def xI:Fr->List Nat
 | []=>[]
 | (_,s)::r=>s.refs++xI r
def qW:Obs->List Nat
 | []=>[]
 | (_,o)::r=>o.refs++qW r
theorem fL{G G':Gh}:∀{l:List (Nat×Nat)} {a:List Value},(∀k∈l.map (·.1),G' k=G k)->All2 (nZ G) l a->All2 (nZ G') l a
 | [],[],_,_=>trivial
 | [],_::_,_,h=>h.elim
 | _::_,[],_,h=>h.elim
 | p::l,u::a,hk,h=>by
  obtain⟨⟨b,d,e⟩,f⟩:=h;exact⟨⟨b,by rw[hk p.1 (by simp)];exact d,e⟩,fL (fun k c=>hk k (by simp at c ⊢;exact .inr c)) f⟩
theorem TC.rep_congr{g:Rd}{G G':Gh}:∀{t:TC} {u:Value},(∀k∈t.refs,G' k=G k)->t.rep g G u->t.rep g G' u
 | .p _,_,_,h=>h
 | .eref _ _ _ _ _,_,_,h=>h
 | .any,_,_,h=>h
 | .full _ _ _ _,_,_,h=>h
 | .ifc _ k _,_,hk,h=>by simp only[TC.rep];rw[hk k (by simp[TC.refs])];exact h
 | .fnc _ _,_,_,h=>h
 | .fncE _ _ _ _ _,_,_,h=>h
 | .buf k _ _ _ _,_,hk,h=>⟨by rw[hk k (by simp[TC.refs])];exact h.1,h.2⟩
 | .ref k _,_,hk,h=>by simp only[TC.rep];rw[hk k (by simp[TC.refs])];exact h
 | .mut k,_,hk,h=>by simp only[TC.rep];rw[hk k (by simp[TC.refs])];exact h
 | .mref k _ _ _,_,hk,h=>by simp only[TC.rep];rw[hk k (by simp[TC.refs])];exact h
 | .msl k _ _ _,_,hk,h=>by simp only[TC.rep];rw[hk k (by simp[TC.refs])];exact h
 | .clo _ nf nc,_,hk,⟨vs,ws,h1,h2,h3⟩=>⟨vs,ws,h1,fL (fun k d=>hk k (by simp only[TC.refs,WZ];exact .inl d)) h2,fL (fun k d=>hk k (by simp only[TC.refs,WZ];exact .inr d)) h3⟩
theorem d7{d:Rd}{G G':Gh}:∀{a:List TC} {c:List Value},(∀k∈a.flatMap TC.refs,G' k=G k)->All2 (TC.rep d G) a c->All2 (TC.rep d G') a c
 | [],[],_,_=>trivial
 | [],_::_,_,h=>h.elim
 | _::_,[],_,h=>h.elim
 | t::a,v::c,hs,h=>⟨TC.rep_congr (fun k b=>hs k (by rw[List.flatMap_cons];exact WZ.2 (.inl b))) h.1,d7 (fun k b=>hs k (by rw[List.flatMap_cons];exact WZ.2 (.inr b))) h.2⟩
theorem S1.rep_congr{b:Rd}{G G':Gh}:∀{t:S1} {u:Value},(∀k∈t.refs,G' k=G k)->t.rep b G u->t.rep b G' u
 | .one t,u,hs,h=>TC.rep_congr (t:=t) hs h
 | .agg ts,u,hs,⟨vs,h1,h2⟩=>⟨vs,h1,d7 hs h2⟩
theorem oB{d:Rd}{G G':Gh}:∀{a:List S1} {c:List Value},(∀k∈a.flatMap S1.refs,G' k=G k)->All2 (S1.rep d G) a c->All2 (S1.rep d G') a c
 | [],[],_,_=>trivial
 | [],_::_,_,h=>h.elim
 | _::_,[],_,h=>h.elim
 | t::a,v::c,hs,h=>⟨S1.rep_congr (fun k b=>hs k (by rw[List.flatMap_cons];exact WZ.2 (.inl b))) h.1,oB (fun k b=>hs k (by rw[List.flatMap_cons];exact WZ.2 (.inr b))) h.2⟩
theorem SV.rep_congr{b:Rd}{G G':Gh}:∀{t:SV} {u:Value},(∀k∈t.refs,G' k=G k)->t.rep b G u->t.rep b G' u
 | .s t,u,hs,h=>S1.rep_congr (t:=t) hs h
 | .tup ts,u,hs,⟨vs,h1,h2⟩=>⟨vs,h1,oB hs h2⟩
 | .any,_,_,_=>trivial
 | .un,_,_,h=>h
theorem ObOk.congr{S:Ctx}{r:Rd}{G G':Gh}{w:World}{u:Value}{o:Ob}(l:∀k∈o.refs,G' k=G k)(h:ObOk S r G w u o):ObOk S r G' w u o:=by
 cases o with
 | box m=>obtain⟨b,g,t,a,d,f⟩:=h;exact⟨b,g,t,a,d,d7 l f⟩
 | tbx e m=>obtain⟨b,g,a,d,f⟩:=h;exact⟨b,g,a,d,d7 l f⟩
 | tarr n i m=>obtain⟨b,g,t,a,d,f,j,q⟩:=h;exact⟨b,g,t,a,d,f,j,d7 l q⟩
 | growA e α i c xs p m=>obtain⟨g,a,d,f,j,q,s⟩:=h;exact⟨g,a,d,f,j,q,d7 l s⟩
 | growT e n i m=>obtain⟨g,a,d,f,j⟩:=h;exact⟨g,a,d,f,d7 l j⟩
 | arr α i c xs=>exact h
 | map κ x v=>exact h
 | spare n i e=>exact h
 | grow e α i c xs=>exact h
theorem qX:∀{fr:Fr} {i:Nat} {s:SV},E6 fr i=some s->∀k∈s.refs,k∈xI fr
 | [],i,s,h,_,_=>by cases h
 | (j,x)::r,i,s,h,k,hm=>by
  unfold E6 at h;unfold xI;cases hb:Nat.beq j i
  ·rw[hb]at h;exact WZ.2 (.inr (qX h k hm))
  ·rw[hb]at h;cases h;exact WZ.2 (.inl hm)
theorem jI:∀{ob:Obs} {i:Nat} {o:Ob},C5 ob i=some o->∀k∈o.refs,k∈qW ob
 | [],i,s,h,_,_=>by cases h
 | (j,x)::r,i,s,h,k,hm=>by
  unfold C5 at h;unfold qW;cases hb:Nat.beq j i
  ·rw[hb]at h;exact WZ.2 (.inr (jI h k hm))
  ·rw[hb]at h;cases h;exact WZ.2 (.inl hm)
theorem uQ:∀{a b:Obs} {k:Nat},C5 (a++b) k=match C5 a k with | some o=>some o | none=>C5 b k
 | [],b,k=>rfl
 | (j,x)::r,b,k=>by
  show (bif Nat.beq j k then some x else C5 (r++b) k)=(match (bif Nat.beq j k then some x else C5 r k) with | some o=>some o | none=>C5 b k)
  cases Nat.beq j k
  ·exact uQ (a:=r)
  ·rfl
def QD(b:List S1)(ob':Obs)(fr:Fr)(ob:Obs):Bool :=
 (b.flatMap S1.refs++qW ob').all (fun k=>(C5 ob' k).isSome)&&(xI fr++qW ob).all (fun k=>(C5 ob' k).isNone)&&ob.all (fun p=>(C5 ob' p.1).isNone)
theorem zQ:∀{ob:Obs} {k:Nat} {o:Ob},C5 ob k=some o->∃p∈ob,p.1=k
 | [],k,o,h=>by cases h
 | (j,x)::r,k,o,h=>by
  unfold C5 at h;cases hb:Nat.beq j k
  ·rw[hb]at h;obtain⟨p,a,b⟩:=zQ h;exact⟨p,List.mem_cons_of_mem _ a,b⟩
  ·exact⟨_,List.mem_cons_self,by simpa using hb⟩
theorem bD{w:World}{B B':Nat}{e:TypeId}{d n:Nat}{v:Value}{f:List Value}(g:B<=B')(h:w.ownsRow B' e d v n f):w.ownsRow B e d v n f :=
 ⟨h.1,h.2.imp id fun ⟨b,a,c,i,hb,r⟩=>⟨b,a,c,i,Nat.le_trans g hb,r⟩⟩
theorem ObOk.low{S S':Ctx}{j:Rd}{G:Gh}{w:World}{u:Value}{o:Ob}(g:S.B<=S'.B)(h:ObOk S' j G w u o):ObOk S j G w u o:=by
 cases o with
 | box i=>exact h
 | tbx e i=>exact h
 | tarr n d i=>exact h
 | arr α d c k=>exact h
 | map κ m l=>exact h
 | spare n d e=>obtain⟨b,a⟩:=h;exact⟨b,bD g a⟩
 | grow e α d c k=>obtain⟨b,a,f⟩:=h;exact⟨b,bD g a,f⟩
 | growA e α d c k p i=>obtain⟨b,a,f⟩:=h;exact⟨b,bD g a,f⟩
 | growT e n d i=>obtain⟨b,a,f⟩:=h;exact⟨b,bD g a,f⟩
variable {rest:List Oper}{Q:Post}{d:Nat}
theorem qY{f:FuncId}{xs:List Operand}{ak:Array TypeId}{ty:TypeId}{pos:String}{af:Array Edge}{args:List S1}{ks:List Nat}{U:List S1->Obs->Prop}
  (hf:Met P f args [] [] ks U) (ha:bA fr xs=some args) (hc:xs.all H9=true) (av:(args.flatMap S1.refs).isEmpty=true) (hd:Nat.blt d nt=true)
  (kk:∀rs ob',U rs ob'->QD rs ob' fr ob=true/\WpL P nt ops rest ((d,pC rs)::fr) (ob'++ob) Q):WpL P nt ops (⟨some d,.call ⟨.value (.func f),xs.toArray,ak⟩,ty,pos,af,none⟩::rest) fr ob Q:=by
 intro S G a w hn h;have aj:=p6 h xs args ha hc;let S':Ctx:={ S with w0:=w,M0:=fun b i=>Mut S ob G b i,io:=fun _=>False }
 have ap:S'.B=w.heap.size:=rfl;have ae:High ([]:Fr):=fun i s hi=>by cases hi
 have al:Grd P (fun _=>False) w:=by
  obtain⟨wg,h1,M,O⟩:=h.grd;refine⟨wg,h1,Nat.le_trans M h.size,fun j F=>?_⟩;obtain⟨h4,h5⟩:=O j F;exact⟨(h.keep j (Nat.lt_of_lt_of_le F M) h5).trans h4,fun e=>e⟩
 have hs:Sim P S' [] [] G a w:={ nt:=h.nt,ntb:=h.ntb,defers:=h.defers,os:=rfl,tape:=rfl,output:=rfl,size:=Nat.le_refl _,keep:=fun _ _ _=>rfl,m0:=fun b i J=>h.mut_lt J,m0io:=fun _ _ _ e=>e,grd:=al,pin:=h.pin,old:=fun _ _ _ e=>(by cases e),dis:=fun _ _ _ _ _ e=>(by cases e),obs:=fun _ _ e=>(by cases e),facts:=fun _ _ e=>(by cases e) }
 have am:∀b i z,F2 (Mut S ob G) w b i z->F2 (Mut S' [] G) w b i z:=fun b i z V=>⟨V.1,fun J=>V.2 (by
  rcases J with J | ⟨k,o,q,_⟩
  ·exact J
  ·cases q)⟩
 have Z:=hf.2 ae S' G a w _ hs (aj.mono fun _ _=>S1.rep_mono am);refine wpList_plain rfl fun K hK=>M2 (K:=fun v w'=>∃rs ob' G',U rs ob'/\b9 (F2 (Mut S' ob' G') w') G' rs v/\Sim P S' (D2 ks []) ob' G' a w') ?_ ?_
 ·have he:(execOp a.eval ⟨some d,.call ⟨.value (.func f),xs.toArray,ak⟩,ty,pos,af,none⟩).run P w=.ok (.enter f (xs.map a.eval).toArray) w:=by
   have:=Q4 (P:=P) (f:=f) (args:=(xs.map a.eval).toArray) (w:=w) hf.1;have J:xs.toArray.map a.eval=(xs.map a.eval).toArray:=by simp
   simp only[execOp,resolve,Act.eval,Deferred.ofValue,Sem.run_bind,Sem.run_pure,Result.andThen_ok,invoke];rw[show (#[]:Array Value)++Array.map a.eval xs.toArray++#[]=(xs.map a.eval).toArray by rw[<-J];simp];exact this
  unfold Does;rw[he];refine Z.mono ?_;rintro e w' ⟨v,rs,ob',G',rfl,ah,T,C⟩;exact⟨v,rfl,rs,ob',G',ah,T,C⟩
 ·rintro v w' ⟨rs,ob',G',hp,T,C⟩;obtain⟨ab,ar⟩:=kk rs ob' hp;simp only[QD,WU,List.all_eq_true,WZ]at ab;obtain⟨⟨n1,n2⟩,n3⟩:=ab;have au:∀{k o},C5 ob k=some o->C5 ob' k=none:=fun {k o} q=>by
   obtain⟨p,p1,p2⟩:=zQ q;have:=n3 p p1;rw[p2]at this;simpa using this
  obtain⟨H,hH⟩:∃H:Gh,H=fun k=>match C5 ob' k with | some _=>G' k | none=>G k:=⟨_,rfl⟩
  have W:∀{k},(C5 ob' k).isSome=true->H k=G' k:=fun {k} q=>by
   rw[hH];dsimp only;cases R:C5 ob' k with
   | none=>rw[R]at q;cases q
   | some o=>rfl
  have X:∀{k},(C5 ob' k).isNone=true->H k=G k:=fun {k} q=>by
   rw[hH];dsimp only;cases R:C5 ob' k with
   | none=>rfl
   | some o=>rw[R]at q;cases q
  have ag:d<S.nt:=by rw[hn];simpa using hd
  have ao:w.heap.size<=w'.heap.size:=C.size;have I:∀k,k<w.heap.size->w'.heap[k]?=w.heap[k]?:=fun k q=>C.keep k q (fun e=>e);have L:∀k o b,C5 ob' k=some o->blk (G' k)=some b->w.heap.size<=b:=fun k o b h1 M=>by
   rcases C.old k o b h1 M with O | O
   ·exact O
   ·exact O.1.elim
  have D:∀{k o},C5 (ob'++ob) k=some o->(C5 ob' k=some o/\H k=G' k)\/(C5 ob k=some o/\H k=G k):=fun {k o} q=>by
   rw[uQ]at q;cases R:C5 ob' k with
   | some o'=>rw[R]at q;exact .inl ⟨q,W (by rw[R];rfl)⟩
   | none=>rw[R]at q;exact .inr ⟨q,X (by rw[R];rfl)⟩
  have ac:∀b i z,F2 (Mut S' ob' G') w' b i z->F2 (Mut S (ob'++ob) H) w' b i z:=fun b i z V=>⟨V.1,fun J=>V.2 (by
   rcases J with J | ⟨k,o,q,hb⟩
   ·exact .inl (.inl J)
   ·rcases D q with ⟨k1,e⟩ | ⟨k1,e⟩
    ·rw[e]at hb;exact .inr ⟨k,o,k1,hb⟩
    ·rw[e]at hb;exact .inl (.inr ⟨k,o,k1,hb⟩))⟩
  have ad:∀b i z,F2 (Mut S ob G) w b i z->F2 (Mut S (ob'++ob) H) w' b i z:=fun b i z V=>by
   have ag:b<w.heap.size:=World.block_lt_of_cell? w _ V.1;refine⟨by rw[World.cell?_of_block (w:=w) (a:=⟨b,i,none⟩) (I b ag)];exact V.1,fun J=>?_⟩;rcases J with J | ⟨k,o,q,hb⟩
   ·exact V.2 (.inl J)
   ·rcases D q with ⟨k1,e⟩ | ⟨k1,e⟩
    ·rw[e]at hb;have:=L k o b k1 hb.1;omega
    ·rw[e]at hb;exact V.2 (.inr ⟨k,o,k1,hb⟩)
  have Y:Below w.heap.size w w':=⟨C.os,C.tape,C.output,ao,fun k q=>I k q⟩
  have an:Sim P S fr (ob'++ob) H a w':=by
   refine { nt:=h.nt,ntb:=h.ntb,defers:=h.defers,os:=C.os.trans h.os,tape:=C.tape.trans h.tape,output:=C.output.trans h.output,size:=Nat.le_trans h.size ao,keep:=fun k q aq=>(I k (Nat.lt_of_lt_of_le q h.size)).trans (h.keep k q aq),m0:=h.m0,m0io:=h.m0io,grd:=h.grd,pin:=fun k q=>?_,old:=fun k o b h1 M=>?_,dis:=fun k k' o o' b h1 M O h4=>?_,obs:=fun k o q=>?_,facts:=fun i s hi=>?_ }
   ·cases R:C5 ob' k with
    | some o=>rw[W (by rw[R];rfl)];exact C.pin k q
    | none=>rw[X (by rw[R];rfl)];exact h.pin k q
   ·rcases D h1 with ⟨k1,e⟩ | ⟨k1,e⟩
    ·rw[e]at M;exact .inl (Nat.le_trans h.size (L k o b k1 M))
    ·rw[e]at M;exact h.old k o b k1 M
   ·rcases D h1 with ⟨k1,e1⟩ | ⟨k1,e1⟩<;>rcases D M with ⟨k2,e2⟩ | ⟨k2,e2⟩<;>rw[e1]at O<;>rw[e2]at h4
    ·exact C.dis k k' o o' b k1 k2 O h4
    ·have:=L k o b k1 O;have:=(h.obs k' o' k2).blk_lt _ h4;omega
    ·have:=L k' o' b k2 h4;have:=(h.obs k o k1).blk_lt _ O;omega
    ·exact h.dis k k' o o' b k1 k2 O h4
   ·rcases D q with ⟨k1,e⟩ | ⟨k1,e⟩
    ·rw[e];exact (((C.obs k o k1).low (S:=S) (by rw[ap];exact h.size)).ext ac (Below.refl _ _)).congr fun j F=>W (n1 j (.inr (jI k1 j F)))
    ·rw[e];exact ((h.obs k o k1).ext ad Y).congr fun j F=>X (n2 j (.inr (jI k1 j F)))
   ·exact SV.rep_congr (fun j F=>X (n2 j (.inl (qX hi j F)))) (SV.rep_mono ad (h.facts i s hi))
  have ai:(pC rs).rep (F2 (Mut S (ob'++ob) H) w') H v:=by
   refine SV.rep_congr (fun j F=>W (n1 j (.inl ?_))) (SV.rep_mono ac T);revert F
   match rs with
   | []=>intro F;cases F
   | [r]=>intro F;simpa[pC,SV.refs] using F
   | r::r2::rest=>intro F;exact F
  exact hK _ _ (ar S H _ w' hn (an.put ag ai))
def LY(P:Program)(nt:Nat)(ops:Array Oper)(o:Oper)(φ:Fa)(ob:Obs)(K:Fa->Obs->Prop):Prop :=
 Wanted ops φ o true/\∀S G a w,S.nt=nt->SimF P S φ ob G a w->Does P o a w (fun v w'=>∃b ob' G',K b ob'/\SimF P S b ob' G' (a.put o.dst v) w')
def LZ(P:Program)(nt:Nat)(ops:Array Oper)(T i:Nat)(φ:Fa)(ob:Obs)(K:Fa->Obs->Prop):Prop :=
 ∃o,ops[i]?=some o/\cond (tn T i o) (LY P nt ops o φ ob K) (∃s d,o.dst=some d/\YieldsN P nt ops o φ ob s/\K (Z0 φ d s) ob)
def eN(P:Program)(nt:Nat)(ops:Array Oper)(T:Nat)(K:Fa->Obs->Prop):Nat->Array Bool->Fa->Obs->Prop
 | 0,listed,φ,ob=>Region.ready .any ops listed=[]/\K φ ob
 | fuel+1,listed,φ,ob=>(Region.ready .any ops listed=[]->K φ ob)/\∀i∈Region.ready .any ops listed,LZ P nt ops T i φ ob (eN P nt ops T K fuel (listed.setIfInBounds i true))
theorem bE{T:Nat}{K:Fa->Obs->Prop}{S:Ctx}{Q:Exit->Act->World->Prop}(q:S.nt=nt)(f:∀(j t:Nat),(ops[j]?).bind (fun o=>o.dst)=some t->t<nt)(x:∀φ ob G a w,K φ ob->SimF P S φ ob G a w->Q .normal a w) :
  ∀(e:Nat) (g:Array Bool) (φ:Fa) (ob:Obs) (G:Gh) (a:Act) (w:World),eN P nt ops T K e g φ ob->SimF P S φ ob G a w->wpAny P .any ops Q e g a w
 | 0,_,φ,ob,G,a,w,h,hs=>⟨h.1,x φ ob G a w h.2 hs⟩
 | e+1,g,φ,ob,G,a,w,h,hs=>by
  refine⟨fun L=>x φ ob G a w (h.1 L) hs,fun i E=>?_⟩;obtain⟨o,N,c⟩:=h.2 i E;unfold wpOp;simp only[N];cases I:tn T i o with
  | true =>
   rw[I]at c;obtain⟨M,c⟩:=c;rw[A4 (cQ q hs M f)];refine .inl (M2 (c S G a w q hs) ?_);rintro v w' ⟨V,ob',G',k,F⟩;exact bE q f x e _ V ob' G' _ w' k F
  | false =>
   rw[I]at c;obtain⟨s,d,C,⟨W,z,A,U⟩,k⟩:=c;rw[C]at z;cases z;rcases U with ⟨H,J,D,B⟩ | ⟨H,rfl⟩
   ·rw[cQ q hs H f,A4 rfl];refine .inl (M2 (B S G a w (hs.sub fun i s E=>(D i s E).1)) ?_);rintro v w' ⟨R,X,rfl,O⟩;rw[C];exact bE q f x e _ _ ob G _ w' k ((hs.ext R).put (by rw[q];exact A) O)
   ·rw[cQ q hs H f,A5 (by simp),C];exact bE q f x e _ _ ob G _ w k (hs.put (by rw[q];exact A) rfl)
theorem qZ{T:Nat}{K:Fa->Obs->Prop}:∀(c:Nat) (b:Array Bool) (φ:Fa) (ob:Obs),b.getD T false=true->tN P nt ops K c b φ ob->eN P nt ops T K c b φ ob
 | 0,_,_,_,_,h=>h
 | c+1,b,φ,ob,hT,h=>by
  refine⟨h.1,fun i A=>?_⟩;obtain⟨o,F,j⟩:=h.2 i A;have q:i≠T:=fun e=>by subst e;have:=T0 A;rw[hT]at this;cases this
  have k:(b.setIfInBounds i true).getD T false=true:=by
   simp only[Array.getD_eq_getD_getElem?]at hT ⊢
   rwa[Array.getElem?_setIfInBounds_ne q]
  refine⟨o,F,?_⟩;have I:tn T i o=turns o.op:=by unfold tn;rw[U0 q];rfl
  rw[I];cases y:turns o.op with
  | true =>
   rw[y]at j;refine⟨by unfold Wanted;rw[j.1],fun S G a w E H=>?_⟩;have l:=j.2 S G a w E H;unfold Does at l ⊢;have m:∀v w',(∃p ob' G',tN P nt ops K c (b.setIfInBounds i true) p ob'/\SimF P S p ob' G' (a.put o.dst v) w')->(∃p ob' G',eN P nt ops T K c (b.setIfInBounds i true) p ob'/\SimF P S p ob' G' (a.put o.dst v) w'):=by
    rintro v w' ⟨p,ob',G',B,z⟩;exact⟨_,ob',G',qZ c _ _ _ k B,z⟩
   generalize (execOp a.eval o).run P w=r at *;cases r with
   | ok n w' =>
    cases n<;>simp only at l ⊢<;>try exact l.elim
    case value v=>exact m _ _ l
    case skip=>exact m _ _ l
    case enter f args=>exact l.mono fun e M ⟨v,C,J⟩=>⟨v,C,m _ _ J⟩
   | halt x w'=>exact l
  | false =>
   rw[y]at j;obtain⟨s,d,l,L,HK⟩:=j;exact⟨s,d,l,L,qZ c _ _ _ k HK⟩
theorem zR{T:Nat}{K:Fa->Obs->Prop}{i d:Nat}{w:Oper}{s:SV}(hi:ops[i]?=some w)(V:tn T i w=false)(F:w.dst=some d) :
  ∀(c:Nat) (b:Array Bool) (φ:Fa) (ob:Obs),Closed ops b ->
   (∀j l,ops[j]?=some l->j≠i->b.getD j true=false->tn T j l=true->Bef ops j i=true) ->
   (∀j l,ops[j]?=some l->j≠i->b.getD j true=false->tn T j l=false->(∃e∈l.after.toList,Region.binds .any e=true/\e.on=i)\/bZ ops w l=true) ->
   i∈Region.ready .any ops b->YieldsN P nt ops w φ ob s ->
   eN P nt ops T K c (b.setIfInBounds i true) (Z0 φ d s) ob->eN P nt ops T K (c+1) b φ ob:=by
 have q:∀(c:Nat) (b:Array Bool) (φ:Fa) (ob:Obs),YieldsN P nt ops w φ ob s->eN P nt ops T K c (b.setIfInBounds i true) (Z0 φ d s) ob->LZ P nt ops T i φ ob (eN P nt ops T K c (b.setIfInBounds i true)):=by
  intro c b φ ob D H;exact⟨w,hi,by rw[V];exact⟨s,d,F,D,H⟩⟩
 intro c;induction c with
 | zero =>
  intro b φ ob Q N O A D H;refine⟨fun h=>(by rw[h]at A;cases A),fun j I=>?_⟩;by_cases f:j=i
  ·subst f;exact q 0 b φ ob D H
  ·have:=ready_mono I f;rw[H.1]at this;cases this
 | succ c ih =>
  intro b φ ob Q N O A D H;refine⟨fun h=>(by rw[h]at A;cases A),fun j I=>?_⟩;by_cases f:j=i
  ·subst f;exact q (c+1) b φ ob D H
  ·obtain⟨g,l,p,u⟩:=mem_ready.1 I;have v:=T0 A;cases t:tn T j l with
   | true =>
    have hb:=N j l p f g t;have:=d6 Q j hb (fun o Y e R x=>by rw[p]at Y;cases Y;exact u e (Array.mem_toList_iff.1 R) x);rw[v]at this;cases this
   | false =>
    have E:bZ ops w l=true:=by
     rcases O j l p f g t with ⟨e,R,x,U⟩ | h
     ·have:=u e (Array.mem_toList_iff.1 R) x;rw[U]at this;have L:b.getD i false=true:=this;rw[v]at L;cases L
     ·exact h
    obtain⟨o',J,r⟩:=H.2 j (ready_mono I f);rw[p]at J;cases J;rw[t]at r;obtain⟨sj,X,G,W,HK⟩:=r;simp only[bZ,F,G,WU,Bool.not_eq_true',List.contains_eq_mem,decide_eq_false_iff_not]at E;obtain⟨⟨Z,L⟩,M⟩:=E;have M:d≠X:=fun e=>by subst e;simp at M
    refine⟨l,p,by
     rw[t];refine⟨sj,X,G,W.unput Z,?_⟩;refine ih (b.setIfInBounds j true) _ ob (W9 Q I) ?_ ?_ (ready_mono A (Ne.symm f)) (D.put L) ?_
     ·intro k ok S z C B;refine N k ok S z ?_ B;by_cases m:j=k
      ·subst m;exact g
      ·rwa[getD_set_ne true m]at C
     ·intro k ok S z C B;refine O k ok S z ?_ B;by_cases m:j=k
      ·subst m;exact g
      ·rwa[getD_set_ne true m]at C
     ·rw[Array.setIfInBounds_comm _ _ f,<-uF M]
      exact HK⟩
theorem uR{T c:Nat}{K:Fa->Obs->Prop}{E:Fr->Obs->Prop}:∀(l:List Oper) (k:Nat) (b:Array Bool) (fr:Fr) (ob:Obs),(∀j,j<l.length->l[j]?=ops[k+j]?)->Closed ops b->xC ops T l.length k b=true ->
  (∀fr ob,Closed ops (zI l.length k b)->E fr ob->eN P nt ops T K c (zI l.length k b) (E6 fr) ob)->LexD P nt ops E l fr ob->eN P nt ops T K (c+l.length) b (E6 fr) ob
 | [],k,b,fr,ob,hl,hc,hB,hE,h=>hE fr ob hc h
 | o::l,k,b,fr,ob,hl,hc,hB,hE,h=>by
  have D:ops[k]?=some o:=by simpa using (hl 0 (by simp)).symm
  simp only[WW,xC,D,WU,Bool.not_eq_true']at hB;obtain⟨⟨⟨L,v⟩,I⟩,x⟩:=hB;have w:k∈Region.ready .any ops b:=by simpa using L
  have z:∀j,j<l.length->l[j]?=ops[k+1+j]?:=fun j J=>by have:=hl (j+1) (by simpa using J);simpa[Nat.add_assoc,Nat.add_comm 1 j] using this
  have M:turns o.op=false:=by
   cases C:turns o.op
   ·rfl
   ·simp[tn,C]at v
  simp only[LexD]at h;rw[M]at h;simp only[cond]at h;obtain⟨s,d,G,N,F⟩:=h;have t:∀j q,ops[j]?=some q->j≠k->b.getD j true=false->cond (tn T j q) (Bef ops j k) (q.after.toList.any (fun e=>Region.binds .any e&&Nat.beq e.on k)||bZ ops o q)=true:=by
   intro j q f g p;have A:j<ops.size:=(Array.getElem?_eq_some_iff.1 f).1;have:=List.all_eq_true.1 I j (XE.2 A);rw[U0 g,p,f]at this;simp only[Bool.false_or]at this;exact this
  show eN P nt ops T K (c+(l.length+1)) b (E6 fr) ob;rw[<-Nat.add_assoc];refine zR D v G (c+l.length) b _ ob hc ?_ ?_ w N ?_
  ·intro j q f g p u;have:=t j q f g p;rw[u]at this;exact this
  ·intro j q f g p u;have:=t j q f g p;rw[u]at this;simp only[cond,XR,List.any_eq_true,WU]at this;rcases this with ⟨e,H,hb,B⟩ | h
   ·exact .inl ⟨e,H,hb,Nat.eq_of_beq_eq_true B⟩
   ·exact .inr h
  ·rw[<-fA];exact uR l (k+1) _ _ ob z (W9 hc w) x hE F
theorem rA{id:Nat}{l:List Oper}(n:Nat){C:Oper}{fr:Fr}{ob:Obs}{Q:Post}(hm:P.follows .mixedOrders=true)(H:LL nt l n=true)(hc:l[n]?=some C)
  (h:LexD P nt l.toArray (fun fr ob=>LY P nt l.toArray C (E6 fr) ob (fun φ' ob'=>∃fr',φ'=E6 fr'/\LexD P nt l.toArray (fun fr ob=>Q .normal fr ob) (l.drop (n+1)) fr' ob')) (l.take n) fr ob):WpC P nt (.region id l.toArray true) fr ob Q:=by
 intro S G a w N T;unfold LL at H;simp only[WU]at H;obtain⟨⟨⟨⟨⟨⟨⟨b1,b2⟩,b3⟩,b4⟩,b5⟩,b6⟩,D⟩,E⟩:=H;have ab:n+1<=l.length:=Nat.le_of_ble_eq_true b3;have c:(l.take n).length=n:=Nat.eq_of_beq_eq_true b4;have u:∀(j t:Nat),(l.toArray[j]?).bind (fun o=>o.dst)=some t->t<nt:=by
  intro j t V;cases A:l.toArray[j]? with
  | none=>simp[A]at V
  | some o =>
   simp[A]at V;have z:o∈l:=by
    rw[List.getElem?_toArray]at A;exact XL A
   have:=List.all_eq_true.1 b2 o (by simpa using z);rw[V]at this;simpa using this
 refine wp_region_any hm ?_;have I:Closed l.toArray (Array.replicate l.length false):=by
  intro j o A M;simp only[Array.getD_eq_getD_getElem?]at M;rcases Nat.lt_or_ge j l.length with F | F
  ·simp[F]at M
  ·simp[F]at M
 have R:l.toArray[n]?=some C:=by rw[List.getElem?_toArray];exact hc
 have B:tn n n C=true:=by unfold tn;rw[Nat.beq_refl];rfl
 have W:eN P nt l.toArray n (fun φ ob=>∃fr',φ=E6 fr'/\Q .normal fr' ob) ((l.drop (n+1)).length+1+(l.take n).length) (Array.replicate l.length false) (E6 fr) ob:=by
  refine uR (l.take n) 0 _ fr ob (fun j Z=>?_) I (by rw[c];exact b1) (fun fr ob f Y=>?_) h
  ·rw[Nat.zero_add,List.getElem?_toArray,YF (by rw[c]at Z;exact Z)]
  ·rw[c]at f ⊢;have X:n∈Region.ready .any l.toArray (zI n 0 (Array.replicate l.length false)):=by simpa using b6
   have q:=W9 f X;refine⟨fun J=>(by rw[J]at X;cases X),fun j L=>?_⟩;have K:j=n:=Nat.eq_of_beq_eq_true (List.all_eq_true.1 b5 j L);subst K;refine⟨C,R,?_⟩;rw[B];refine⟨Y.1,fun S G a w N T=>qJ (Y.2 S G a w N T) ?_⟩;rintro v w' ⟨φ',ob',G',⟨fr',rfl,hL⟩,p⟩;exact⟨_,ob',G',qZ _ _ _ _ D (kR (l.drop (j+1)) (j+1) _ fr' ob' (fun i=>by rw[XY,List.getElem?_toArray]) q E hL),p⟩
 have hx:Below w.heap.size w { w with drawn:=w.drawn+1 }:=⟨rfl,rfl,rfl,Nat.le_refl _,fun _ _=>rfl⟩
 have p:SimF P S (E6 fr) ob G a { w with drawn:=w.drawn+1 }:=(TE.2 T).ext hx;have:=bE (Q:=PostOf P S Q) N u (fun φ ob' G' a' w' ⟨fr',J,hq⟩ U=>⟨fr',ob',G',hq,.inl (TE.1 (J ▸ U))⟩) _ _ _ ob G a _ W p;have k:(l.drop (n+1)).length+1+(l.take n).length=l.length:=by rw[XS,c];omega
 rw[k]at this;simpa using this
theorem IA{a:Op}{ty:TypeId}{pos:String}{af:Array Edge}{d j t:Nat}{b x:Bool}{fr:Fr}{ob:Obs}{K:Fa->Obs->Prop}(c:(ops[j]?).bind (·.dst)=some t)(f:E6 fr t=some (.s (.one (.p (.v (.bool x))))))(hb:x=b)
  (h:qH P nt ops ⟨some d,a,ty,pos,af,none⟩ (E6 fr) ob K):LY P nt ops ⟨some d,a,ty,pos,af,some (j,b)⟩ (E6 fr) ob K :=
 ⟨⟨t,_,c,f,by have:=Wants.val (b:=b) x;rwa[show (x == b)=true by simp[hb]]at this⟩,h.2⟩
variable {K:Fr->Obs->Prop}
theorem L7{a:Op}{ty:TypeId}{pos:String}{af:Array Edge}{j t:Nat}{b x:Bool}(A:(ops[j]?).bind (·.dst)=some t)(D:E6 fr t=some (.s (.one (.p (.v (.bool x))))))(hb:x=b)(B:turns a=false)
  (k:LexD P nt ops K (⟨some d,a,ty,pos,af,none⟩::rest) fr ob):LexD P nt ops K (⟨some d,a,ty,pos,af,some (j,b)⟩::rest) fr ob:=by
 simp only[LexD,B,cond]at k ⊢;obtain⟨s,e,z,⟨u,f,g,E⟩,y⟩:=k;have C:Wanted ops (E6 fr) (⟨some d,a,ty,pos,af,some (j,b)⟩:Oper) true:=⟨t,_,A,D,by have:=Wants.val (b:=b) x;rwa[show (x == b)=true by simp[hb]]at this⟩
 rcases E with ⟨_,c,h,w⟩ | ⟨hw2,_⟩
 ·exact⟨s,e,z,⟨u,f,g,.inl ⟨C,c,fun i q m=>⟨(h i q m).1,WZ.2 (.inr (by
   have:=(h i q m).2;unfold uses at this
   simpa[qG] using this))⟩,w⟩⟩,y⟩
 ·unfold Wanted at hw2;cases hw2
theorem zS{x:Operand}{t e q:TypeId}{v d k y n:Nat}{D:List TC}(B:opv fr x=some (.s (.one (.mut k))))(A:C5 ob k=some (.growT q n y D))[ht:TySl P t e v d] :
  Neu P ⟨dst,.call ⟨.builtin .len,#[x],#[t]⟩,ty,pos,af,gd⟩ fr ob (fun C=>C=C7 n) :=
 E9 fun S G a w h=>by
  refine⟨.int .i64 n,?_,rfl,rfl⟩;obtain⟨j,_⟩:=H0 h B;obtain⟨E,f,_⟩:=h.obs k _ A;rcases f.2 with ⟨p,z⟩ | ⟨g,cap,cur,p,_⟩
  ·rw[p]at j;simp[execOp,resolve,invoke,builtin,j,Builtin.len_,run_underlying ht.out.1,goInt,z]
  ·rw[p]at j;simp[execOp,resolve,invoke,builtin,j,Builtin.len_,run_underlying ht.out.1,goInt]
theorem fM{x y:Operand}{t e v:TypeId}{j b k n:Nat}{I:List TC}{F:IntKind}{i:Int}[ht:TySl P t e j b](D:opv fr x=some (.s (.one (.mut k))))(C:C5 ob k=some (.growT v n j I))
  (E:opv fr y=some (J0 (.int F i))) (z:0<=i) (B:i<n):Neu P ⟨dst,.indexAddr t x y,ty,pos,af,gd⟩ fr ob (fun H=>H=.s (.one (.mref k j i.toNat 0))) :=
 E9 fun S G a w h=>by
  obtain⟨q,_⟩:=H0 h D;obtain⟨K,c,_⟩:=h.obs k _ C;rcases c.2 with ⟨l,J⟩ | ⟨g,cap,cur,l,_⟩
  ·omega
  ·rw[l]at q;refine⟨.pointer (some ⟨g,i.toNat*j,none⟩),?_,g,n,cap,l,rfl⟩;simp only[execOp,q,G2 h E];refine L2 ?_;have hb:0<=i/\i<(n:Int):=⟨z,B⟩
   simp[Instr.indexAt,run_underlying ht.out.1,asIntOf,hb,J4 ht.size,Addr.add_lit]
theorem uS{x:Operand}{t e:TypeId}{k q o n:Nat}{i:Nat}{v:List TC}{s:TC}[ht:TyOne P t](F:opv fr x=some (.s (.one (.mref k i q o))))(B:C5 ob k=some (.growT e n i v))(E:v[q*i+o]?=some s) :
  Neu P ⟨dst,.load t x,ty,pos,af,gd⟩ fr ob (fun H=>H=.s (.one s)) :=
 E9 fun S G a w h=>by
  obtain⟨b,m,y,A,D⟩:=H0 h F;obtain⟨I,j,_,C,ha⟩:=h.obs k _ B;obtain⟨z,p,u⟩:=ha.get _ s E;have:=j.cells (g:=b) (by rw[A];rfl) (q*i+o) z p;refine⟨z,?_,u⟩;simp only[execOp,D];refine L2 ?_;have c:w.cell? ⟨b,q*i+o,none⟩=some z:=by simpa[Addr.add_lit] using this
  simp[Instr.loadAt,Instr.sureAddr,P7 (ht:=ht) c]
theorem dJ{x y:Operand}{k k2 n m:Nat}{H D:Nat}{ts us:List TC}{t e:TypeId}[ht:TySl P t e H D](hx:opv fr x=some (.s (.one (.mut k))))(W:C5 ob k=some (.growT e n H ts))
  (hy:opv fr y=some (.s (.one (.mut k2)))) (X:C5 ob k2=some (.tarr m H us)) (J:n+m<=1073741824) (hp:Nat.blt k 1000000=true) :
  EffV P ⟨dst,.call ⟨.builtin .append,#[x,y],#[t,t]⟩,ty,pos,af,gd⟩ fr ob (.s (.one (.mut k))) (Fr.forget k fr) ((k,.growT e (n+m) H ((ts++us).map (TC.forget k)))::Obs.forget k ob):=by
 intro S G a w h;have ah:=ht.out.2.2.1;obtain⟨ab,_⟩:=H0 h hx;obtain⟨O,_⟩:=H0 h hy;obtain⟨b2,vs,t2,U,ai,V,N,E⟩:=h.obs k2 _ X;rw[U]at O;have ac:vs.length=m*H:=by rw[<-E.length,N]
 obtain⟨ws,C,_,ae,ag⟩:=h.obs k _ W;obtain⟨v',w',L,A,f,q,Q⟩:=bX (P:=P) (ty:=ty) S.B ht C h.size (u:=a.eval y) (ad:=some ⟨b2,0,none⟩) (m:=m) (c:=m) (news:=vs) O (by intro h;cases h) (Nat.le_refl _) ac
  (fun b o hb j z hz=>by
   injection hb with hb;injection hb with e1 e2;subst e1;subst e2
   rw[Lib.cell_of_heap V]
   simpa using hz)
  (.inr ⟨b2,0,rfl⟩) (zP E) J
 have I:(G k).ownBlock=blk (G k):=l8 (Z6 C);have F:∀b i z,F2 (Mut S ob G) w b i z->w'.cell? ⟨b,i,none⟩=some z:=by
  intro b i z Z;have Y:b<w.heap.size:=World.block_lt_of_cell? w _ Z.1;by_cases hb:blk (G k)=some b
  ·exact absurd (Or.inr ⟨k,_,W,hb,trivial⟩) Z.2
  ·rw[World.cell?_of_block (w:=w) (a:=⟨b,i,none⟩) (f.block b Y (by rw[I];exact fun e=>hb e.symm))];exact Z.1
 have M:=h.turn (o':=.growT e (n+m) H ((ts++us).map (TC.forget k))) (u':=v') (by simpa using hp) W f.os f.tape f.output f.size (fun j hj hb=>f.block j hj (by rw[I];exact fun e=>hb e.symm)) F q
  (by
   intro b i hb ho;rcases q b ho.1 with h1 | h1
   ·exact⟨h1,trivial⟩
   ·omega)
  (fun rd K G' R=>by
   refine⟨_,A,by omega,by rw[XW,WX,ae,N,XV],?_⟩
   exact ((ag.append E).mono fun _ _=>TC.rep_mono K).map (TC.forget k) fun _ _=>TC.rep_forget R)
 exact H8 (w':=w') (v:=v') (by simp[execOp,resolve,invoke,builtin,ab,L]) ⟨upd G k v',M,(H7 _ _ _).symm,fD A⟩
section
variable {P:Program}{nt:Nat}{fr gf:Fr}{ob:Obs}
theorem TC.forget_comm(k q:Nat)(t:TC):(t.forget q).forget k=(t.forget k).forget q:=by
 cases t with
 | p c=>rfl
 | buf a α d c l=>cases hb:Nat.beq a k<;>cases b:Nat.beq a q<;>simp[TC.forget,hb,b]
 | ref a o=>cases hb:Nat.beq a k<;>cases b:Nat.beq a q<;>simp[TC.forget,hb,b]
 | eref α d c x o=>rfl
 | «mut» a=>cases hb:Nat.beq a k<;>cases b:Nat.beq a q<;>simp[TC.forget,hb,b]
 | mref a d i o=>cases hb:Nat.beq a k<;>cases b:Nat.beq a q<;>simp[TC.forget,hb,b]
 | any=>rfl
 | clo f j h=>cases hb:(hJ k j||hJ k h)<;>cases b:(hJ q j||hJ q h)<;>simp[TC.forget,hb,b]
 | msl a d o n=>cases hb:Nat.beq a k<;>cases b:Nat.beq a q<;>simp[TC.forget,hb,b]
 | ifc t a o=>cases hb:Nat.beq a k<;>cases b:Nat.beq a q<;>simp[TC.forget,hb,b]
 | fnc f m=>rfl
 | fncE f α d c x=>rfl
 | full α d c l=>rfl
theorem S1.forget_comm(k q:Nat)(s:S1):(s.forget q).forget k=(s.forget k).forget q:=by
 cases s with
 | one t=>simp only[S1.forget,TC.forget_comm k q t]
 | agg a=>simp only[S1.forget,YJ];congr 1;exact List.map_congr_left fun t _=>TC.forget_comm k q t
theorem SV.forget_comm(k q:Nat)(s:SV):(s.forget q).forget k=(s.forget k).forget q:=by
 cases s with
 | s x=>simp only[SV.forget,S1.forget_comm k q x]
 | tup l=>simp only[SV.forget,YJ];congr 1;exact List.map_congr_left fun t _=>S1.forget_comm k q t
 | any=>rfl
 | un=>rfl
theorem Fr.forget_comm(k q:Nat)(fr:Fr):Fr.forget k (Fr.forget q fr)=Fr.forget q (Fr.forget k fr):=by
 unfold Fr.forget;rw[YJ,YJ];exact List.map_congr_left fun p _=>by simp only[Function.comp];rw[SV.forget_comm]
theorem dK(k:Nat):∀(a:List Nat) (fr:Fr),D2 a (Fr.forget k fr)=Fr.forget k (D2 a fr)
 | [],fr=>rfl
 | q::a,fr=>by
  show D2 a (Fr.forget q (Fr.forget k fr))=Fr.forget k (D2 a (Fr.forget q fr));rw[Fr.forget_comm q k,dK k a]
theorem s7{k:Nat}:∀{a:List Nat} {fr:Fr},N3 a k=true->Fr.forget k (D2 a fr)=D2 a fr
 | [],fr,h=>by cases h
 | q::a,fr,h=>by
  show Fr.forget k (D2 a (Fr.forget q fr))=D2 a (Fr.forget q fr);by_cases b:k=q
  ·subst b;rw[dK,Fr.forget_idem]
  ·have c:N3 a k=true:=by
    rw[zK]at h ⊢;rcases XB.1 h with h | h
    ·exact absurd h b
    ·exact h
   exact s7 c
theorem I7{ks:List Nat}(k:Nat)(a:N3 ks k=true)(h:Tail (D2 ks gf) fr):Tail (D2 ks gf) (Fr.forget k fr):=by
 have:=F8 k h
 rwa[s7 a]at this
theorem G5:∀{ks:List Nat} {gf:Fr},High gf->High (D2 ks gf)
 | [],gf,h=>h
 | k::ks,gf,h=>G5 (ks:=ks) (t6 (k:=k) h)
theorem kZ:∀{ks:List Nat} {gf:Fr} {i:Nat} {s:SV},E6 (D2 ks gf) i=some s->∃c,E6 gf i=some c/\∀(b:Rd) (G:Gh) (u:Value),c.rep b G u->s.rep b G u
 | [],gf,i,s,h=>⟨s,h,fun _ _ _ h=>h⟩
 | k::ks,gf,i,s,h=>by
  obtain⟨s1,a,e⟩:=kZ (ks:=ks) (gf:=Fr.forget k gf) h;rw[O3]at a;cases d:E6 gf i with
  | none=>rw[d]at a;cases a
  | some c =>
   rw[d]at a;cases a;exact⟨c,rfl,fun b G u f=>e b G u (SV.rep_forget (G':=G) (fun _ _=>rfl) f)⟩
end
def TC.ren(j k:Nat):TC->TC
 | .buf a α d c g=>cond (Nat.beq a j) (.buf k α d c g) (.buf a α d c g)
 | .ref a off=>cond (Nat.beq a j) (.ref k off) (.ref a off)
 | .mut a=>cond (Nat.beq a j) (.mut k) (.mut a)
 | .mref a d i off=>cond (Nat.beq a j) (.mref k d i off) (.mref a d i off)
 | .msl a d off n=>cond (Nat.beq a j) (.msl k d off n) (.msl a d off n)
 | .ifc t a off=>cond (Nat.beq a j) (.ifc t k off) (.ifc t a off)
 | t=>t
def Ob.ren(j k:Nat):Ob->Ob
 | .box d=>.box (d.map (TC.ren j k))
 | .tbx e d=>.tbx e (d.map (TC.ren j k))
 | .tarr n f d=>.tarr n f (d.map (TC.ren j k))
 | .growA e α f c h p d=>.growA e α f c h p (d.map (TC.ren j k))
 | .growT e n f d=>.growT e n f (d.map (TC.ren j k))
 | o=>o
theorem WE{g:Rd}{G:Gh}{j k:Nat}(d:G k=G j):∀{t:TC} {u:Value},t.rep g G u->(t.ren j k).rep g G u
 | .p c,u,h=>h
 | .buf k' α ec c xs,u,h=>by
  simp only[TC.ren];cases hb:Nat.beq k' j
  ·exact h
  ·have e:k'=j:=Nat.eq_of_beq_eq_true hb;subst e;simp only[cond,TC.rep];rw[d];exact h
 | .ref k' off,u,h=>by
  simp only[TC.ren];cases hb:Nat.beq k' j
  ·exact h
  ·have e:k'=j:=Nat.eq_of_beq_eq_true hb;subst e;simp only[cond,TC.rep];rw[d];exact h
 | .eref _ _ _ _ _,u,h=>h
 | .mut k',u,h=>by
  simp only[TC.ren];cases hb:Nat.beq k' j
  ·exact h
  ·have e:k'=j:=Nat.eq_of_beq_eq_true hb;subst e;simp only[cond,TC.rep];rw[d];exact h
 | .mref k' ec i off,u,h=>by
  simp only[TC.ren];cases hb:Nat.beq k' j
  ·exact h
  ·have e:k'=j:=Nat.eq_of_beq_eq_true hb;subst e;simp only[cond,TC.rep];rw[d];exact h
 | .any,u,h=>h
 | .clo _ _ _,_,h=>h
 | .msl k' ec off n,u,h=>by
  simp only[TC.ren];cases hb:Nat.beq k' j
  ·exact h
  ·have e:k'=j:=Nat.eq_of_beq_eq_true hb;subst e;simp only[cond,TC.rep];rw[d];exact h
 | .full _ _ _ _,u,h=>h
 | .ifc t k' off,u,h=>by
  simp only[TC.ren];cases hb:Nat.beq k' j
  ·exact h
  ·have e:k'=j:=Nat.eq_of_beq_eq_true hb;subst e;simp only[cond,TC.rep];rw[d];exact h
 | .fnc _ _,u,h=>h
 | .fncE _ _ _ _ _,u,h=>h
theorem ObOk.ren{S:Ctx}{r:Rd}{G:Gh}{w:World}{u:Value}{j k:Nat}{o:Ob}(l:G k=G j)(h:ObOk S r G w u o):ObOk S r G w u (o.ren j k):=by
 cases o with
 | box m=>obtain⟨b,g,t,a,d,f⟩:=h;exact⟨b,g,t,a,d,f.map (TC.ren j k) fun _ _=>WE l⟩
 | tbx e m=>obtain⟨b,g,a,d,f⟩:=h;exact⟨b,g,a,d,f.map (TC.ren j k) fun _ _=>WE l⟩
 | tarr n i m=>obtain⟨b,g,t,a,y,d,z,f⟩:=h;exact⟨b,g,t,a,y,d,by simpa using z,f.map (TC.ren j k) fun _ _=>WE l⟩
 | arr α i c s=>exact h
 | spare n i e=>exact h
 | grow e α i c s=>exact h
 | map κ B A=>exact h
 | growA e α i c s p m=>obtain⟨g,a,d,f,q,v,x⟩:=h;exact⟨g,a,d,f,by simpa using q,v,x.map (TC.ren j k) fun _ _=>WE l⟩
 | growT e n i m=>obtain⟨g,a,d,f,q⟩:=h;exact⟨g,a,d,by simpa using f,q.map (TC.ren j k) fun _ _=>WE l⟩
section
variable {P:Program}{nt:Nat}{fr gf:Fr}{ob:Obs}
theorem TC.free_forget(k:Nat)(t:TC):(t.forget k).free k=true:=by
 cases t with
 | p c=>rfl
 | buf a α b c h=>cases hb:Nat.beq a k<;>simp[TC.forget,TC.free,hb]
 | ref a o=>cases hb:Nat.beq a k<;>simp[TC.forget,TC.free,hb]
 | eref α b c x o=>rfl
 | «mut» a=>cases hb:Nat.beq a k<;>simp[TC.forget,TC.free,hb]
 | mref a b i o=>cases hb:Nat.beq a k<;>simp[TC.forget,TC.free,hb]
 | any=>rfl
 | clo f g d =>
  simp only[TC.forget];cases hb:(hJ k g||hJ k d)
  ·rw[YO]at hb;simp[TC.free,hb.1,hb.2]
  ·rfl
 | msl a b o n=>cases hb:Nat.beq a k<;>simp[TC.forget,TC.free,hb]
 | ifc t a o=>cases hb:Nat.beq a k<;>simp[TC.forget,TC.free,hb]
 | fnc f j=>rfl
 | fncE f α b c x=>rfl
 | full α b c h=>rfl
theorem S1.free_forget(k:Nat)(s:S1):(s.forget k).free k=true:=by
 cases s with
 | one t=>exact TC.free_forget k t
 | agg b =>
  show (b.map (TC.forget k)).all (TC.free k)=true;rw[List.all_map,List.all_eq_true];exact fun t _=>TC.free_forget k t
theorem SV.free_forget(k:Nat)(s:SV):(s.forget k).free k=true:=by
 cases s with
 | s x=>exact S1.free_forget k x
 | tup l =>
  show (l.map (S1.forget k)).all (S1.free k)=true;rw[List.all_map,List.all_eq_true];exact fun t _=>S1.free_forget k t
 | any=>rfl
 | un=>rfl
theorem cA{k:Nat}{a:List Nat}{gf:Fr}(b:N3 a k=true):∀p∈D2 a gf,p.2.free k=true:=by
 rw[<-s7 b];intro p c;obtain⟨q,_,rfl⟩:=XU.1 c;exact SV.free_forget k q.2
theorem uT{l:List Oper}{ops:Array Oper}{a:Sv}{fr gf:Fr}:∀{b:Ed},iG l ops a fr b=true->(∀e∈b,∀k∈e.2.1,∀p∈gf,p.2.free k=true)->iG l ops a (fr++gf) b=true
 | [],_,_=>rfl
 | (e,ks,kills)::r,h,hg=>by
  simp only[iG,WU]at h ⊢;refine⟨?_,uT h.2 fun f g=>hg f (List.mem_cons_of_mem _ g)⟩;rw[List.all_eq_true]at h ⊢;intro k d;have c:=h.1 k d;rw[WU]at c ⊢;refine⟨c.1,?_⟩;rw[YS,WU];refine⟨c.2,List.all_eq_true.2 fun p i=>?_⟩;rw[hg (e,ks,kills) (List.mem_cons_self ..) k d p i,Bool.or_true]
theorem DF{ks:List Nat}{l:List Oper}{E:List Nat}{c:Ed}{T2:List (Nat×List Nat)}{Q:Post}{b:Sv}{M:Mo}{d:Obs}(g:(c.all fun e=>e.2.1.all (N3 ks))=true)(f:(iG l l.toArray b fr c&&(List.range l.length).all fun j=>(Q0 b j).isSome)=true)(h:U8 M E=some d)
  (q:fK P nt l (fr++D2 ks gf) E c b M T2) (t:Q .normal (j5 (xH c) (hZ l b (fr++D2 ks gf))) d):iH P nt l (fr++D2 ks gf) E c (QW P nt l (fr++D2 ks gf) E c T2 Q) [] b M:=by
 rw[WU]at f;refine FZ ?_ h q t;rw[WU];refine⟨uT f.1 fun e u k v p w=>?_,f.2⟩;exact cA (List.all_eq_true.1 (List.all_eq_true.1 g e u) k v) p w
end
def Cell.flat:Cell->Bool
 | .v _=>true
 | _=>false
def PV.flat:PV->Bool
 | .one c=>c.flat
 | .agg b=>b.all Cell.flat
theorem bF{x y:Code}{Q2 Q3:Post}(fr':Fr)(ob':Obs)(b:WpC P nt x fr ob (cN (fun f o=>Sees P nt f o fr' ob') Q3))(k:WpC P nt y fr' ob' Q2):WpC P nt x fr ob (cN (fun f o=>WpC P nt y f o Q2) Q3) :=
 b.mono fun e f o a=>by
  cases e with
  | normal=>exact G8 a k
  | _=>exact a
theorem rB{x y:Code}{Q2 Q3:Post}{X:Type}(E:X->Fr×Obs)(I:X->Prop)(d:WpC P nt x fr ob (cN (fun f o=>∃v,I v/\Sees P nt f o (E v).1 (E v).2) Q3))(k:∀v,I v->WpC P nt y (E v).1 (E v).2 Q2):WpC P nt x fr ob (cN (fun f o=>WpC P nt y f o Q2) Q3) :=
 d.mono fun e f o a=>by
  cases e with
  | normal=>obtain⟨v,c,b⟩:=a;exact G8 b (k v c)
  | _=>exact a
theorem pQ{x Y:Operand}{k:Nat}{α:Type}{d D:Nat}{c:α->Nat->Cell}{C:List α}{t e:TypeId}{X:IntKind}{j:Int}[ht:TySl P t e d D](hx:opv fr x=some (.s (.one (.mut k))))(hk:C5 ob k=some (.grow e α d c C))
  (O:opv fr Y=some (J0 (.int X j))) (Z:0<=j) (h2:j<=C.length) (hp:Nat.blt k 1000000=true) :
  EffV P ⟨dst,.slice t x none (some Y) none,ty,pos,af,gd⟩ fr ob (.s (.one (.mut k))) (Fr.forget k fr) ((k,.grow e α d c (C.take j.toNat))::Obs.forget k ob):=by
 intro S G a w h;obtain⟨N,ac⟩:=H0 h hx;obtain⟨ws,A,ab,U⟩:=h.obs k _ hk;have R:j.toNat<=C.length:=by omega
 have T:j.toNat*d<=C.length*d:=XI _ R;obtain⟨F,L,f,p⟩:∃F,(execOp a.eval ⟨dst,.slice t x none (some Y) none,ty,pos,af,gd⟩).run P w=.ok (.value F) w/\blk F=blk (G k)/\w.ownsRow S.B e d F j.toNat (ws.take (j.toNat*d)):=by
  obtain⟨H,I⟩:=ht.elem;rcases A.2 with ⟨J,ae⟩ | ⟨g,cap,cur,J,hbg,hgh,hnc,hcm,hcs,htake⟩
  ·refine⟨.slice none 0 0,?_,by rw[J],?_⟩
   ·simp only[execOp,N,J,G2 h O,Option.map_some,Option.map_none];refine L2 ?_;simp only[Instr.sliceAt,Sem.run_bind,run_underlying ht.out.1,Result.andThen_ok];rw[run_slice_h w t none 0 0 H X j Z (by omega),I,J4 ht.size];have Q:j.toNat=0:=by omega
    simp[sliced,Q]
   ·have Q:j.toNat=0:=by omega
    rw[Q];simp only[Nat.zero_mul,List.take_zero];exact World.ownsRow_nil w _ _ _
  ·refine⟨.slice (some ⟨g,0,none⟩) j.toNat cap,?_,by rw[J];rfl,?_⟩
   ·simp only[execOp,N,J,G2 h O,Option.map_some,Option.map_none];refine L2 ?_;simp only[Instr.sliceAt,Sem.run_bind,run_underlying ht.out.1,Result.andThen_ok];rw[run_slice_h w t (some ⟨g,0,none⟩) C.length cap H X j Z (by omega),I,J4 ht.size];simp[sliced,Addr.add_lit]
   ·refine⟨by rw[XG,A.1];omega,.inr ⟨g,cap,cur,rfl,hbg,hgh,by omega,hcm,hcs,?_⟩⟩;rw[<-htake,List.take_take,Nat.min_eq_left T]
 have M:=h.turn (o':=.grow e α d c (C.take j.toNat)) (u':=F) (w1:=w) (by simpa using hp) hk rfl rfl rfl (Nat.le_refl _) (fun _ _ _=>rfl) (fun b i z hr=>hr.1)
  (fun b hb=>.inl (by rw[<-f];exact hb)) (fun b i hb ho=>⟨by rw[<-f];exact ho.1,trivial⟩)
  (fun rd K G' ad=>by
   have E:(C.take j.toNat).length=j.toNat:=by rw[XG];omega
   refine⟨ws.take (j.toNat*d),by rw[E];exact p,by rw[E];omega,?_⟩;intro i hi q hq;rw[E]at hi;obtain⟨z,V,W⟩:=U i (by omega) q hq;refine⟨z,?_,?_⟩
   ·have:(i+1)*d<=j.toNat*d:=XI _ hi;rw[XV,Nat.one_mul]at this;rw[List.getElem?_take,A4 (by omega)];exact V
   ·rw[List.getElem_take];exact Cell.rep_mono K _ _ W)
 exact H8 (w':=w) (v:=F) L ⟨upd G k F,M,(H7 _ _ _).symm,fD p⟩
abbrev MA(T:TypeId)(e:Int):List PanicEntry:=[{ v:=.iface T (.int .i64 e),recovered:=false }]
def QE(P:Program)(T:TypeId)(fn:Func)(f:List Nat)(gf:Fr)(b:List S1->Obs->Prop)(d:Int->Obs->Prop):Post
 | .normal,fr,ob | .ret,fr,ob=>∃g ob',RetS P fn fr ob g/\Tail (D2 f gf) fr/\(∀k o,C5 ob' k=some o->C5 ob k=some o)/\b g ob'
 | .panic ch,fr,ob=>∃e ob',ch=MA T e/\Tail (D2 f gf) fr/\(∀k o,C5 ob' k=some o->C5 ob k=some o)/\d e ob'
 | _,_,_=>False
def MetX(P:Program)(T:TypeId)(f:FuncId)(g:List S1)(gf:Fr)(ob:Obs)(l:List Nat)(h:List S1->Obs->Prop)(j:Int->Obs->Prop):Prop :=
 Callable P f/\(High gf->∀S G a w (b:List Value),Sim P S gf ob G a w->All2 (S1.rep (F2 (Mut S ob G) w) G) g b ->
  Calls P f b.toArray w (fun e w'=>(∃v m ob' G',e=.returned v/\h m ob'/\b9 (F2 (Mut S ob' G') w') G' m v/\Sim P S (D2 l gf) ob' G' a w') \/
   ∃c ob' G',e=.panicked (MA T c)/\j c ob'/\Sim P S (D2 l gf) ob' G' a w'))
variable {T:TypeId}
theorem MetX.intro{f:FuncId}{fn:Func}{c:Code}{args:List S1}{gf:Fr}{ks:List Nat}{A:List S1->Obs->Prop}{I:Int->Obs->Prop}(hf:P.funcs[f]?=some fn)(H:(fn.name == "runtime.NumGoroutine")=false)(hb:fn.body=some c)(Q:Nat.ble args.length fn.ntmps=true)(ad:Nat.ble fn.ntmps 1000000=true)
  (h6:WpC P fn.ntmps c (o9 0 args++gf) ob (QE P T fn ks gf A I)):MetX P T f args gf ob ks A I:=by
 refine⟨⟨fn,hf,H,by simp[hb]⟩,fun F S G a w q h B=>?_⟩;have ag:q.length=args.length:=B.length.symm;have af:args.length<=fn.ntmps:=by simpa using Q
 have ac:fn.ntmps<=1000000:=by simpa using ad
 let S':Ctx:={ S with nt:=fn.ntmps,df:=[] }
 have hs:Sim P S' (o9 0 args++gf) ob G { tmps:=q.toArray++Array.replicate (fn.ntmps-q.toArray.size) undef,defers:=[] } w:=by
  refine { h with nt:=by simp[S'];omega,ntb:=ac,defers:=rfl,facts:=?_ };intro i s y;rw[s9]at y;cases C:E6 (o9 0 args) i with
  | some X =>
   rw[C]at y;have y:some X=some s:=y;cases y;obtain⟨_,p,U,rfl⟩:=jB 0 args i _ C;obtain⟨u,hu,hr⟩:=B.get (i-0) p U;have ab:i<q.length:=(List.getElem?_eq_some_iff.1 hu).1;have N:(q.toArray++Array.replicate (fn.ntmps-q.toArray.size) undef).getD i undef=u:=by
    rw[Array.getD_eq_getD_getElem?,Array.getElem?_append_left (by simpa using ab)];simpa using congrArg (fun x=>x.getD undef) hu
   rw[Ctx.sl_lt (by omega),N];exact hr
  | none =>
   rw[C]at y;have y:E6 gf i=some s:=y;have h7:=F i s y;have M:=h.facts i s y;rw[Ctx.sl_ge h7]at M ⊢;exact M
 refine y4 hf hb (wp_mono (h6 S' _ _ w rfl hs) ?_);rintro e J w' ⟨fr',ob',G',Z,m⟩;have E:∀(K:List Deferred) (w':World),Sim P { S' with df:=K } fr' ob' G' J w'->∀j:Obs,Tail (D2 ks gf) fr'->(∀k o,C5 j k=some o->C5 ob' k=some o)->Sim P S (D2 ks gf) j G' a w':=by
  intro K w' m j C L
  have W:=(m.weaken (fr':=D2 ks gf) (fun i s y=>by
   obtain⟨X,h0⟩:=l9 y
   exact C i s (F i X h0) y)).weakenO L
  refine { W with nt:=h.nt,ntb:=h.ntb,defers:=h.defers,facts:=fun i s y=>?_ };obtain⟨X,h0⟩:=l9 y;have h7:=F i X h0;have M:=W.facts i s y;rw[Ctx.sl_ge h7]at M ⊢;exact M
 have fin:(∃rs j,RetS P fn fr' ob' rs/\Tail (D2 ks gf) fr'/\(∀k o,C5 j k=some o->C5 ob' k=some o)/\A rs j)->∀K w',Sim P { S' with df:=K } fr' ob' G' J w'->∃v,(results fn J.tmps).run P w'=.ok v w'/\((∃Y rs ob' G',Ending.returned v=.returned Y/\A rs ob'/\b9 (F2 (Mut S ob' G') w') G' rs Y/\Sim P S (D2 ks gf) ob' G' a w')\/∃c ob' G',Ending.returned v=.panicked (MA T c)/\I c ob'/\Sim P S (D2 ks gf) ob' G' a w'):=by
  rintro⟨rs,j,hr,C,L,U⟩ K w' m;obtain⟨v,hv,V⟩:=hr _ G' J w' m;have R:∀b i,Mut S' j G' b i->Mut S' ob' G' b i:=by
   rintro b i (hm | ⟨k,o,hk,ae⟩)
   ·exact .inl hm
   ·exact .inr ⟨k,o,L k o hk,ae⟩
  exact⟨v,hv,.inl ⟨v,rs,j,G',rfl,U,SV.rep_mono (fun b i z hz=>⟨hz.1,fun hm=>hz.2 (R b i hm)⟩) V,E K w' m j C L⟩⟩
 cases e with
 | normal=>exact m.leave rfl (fin Z)
 | ret=>exact m.leave rfl (fin Z)
 | panic ch =>
  obtain⟨c,j,rfl,C,L,U⟩:=Z;have m:=m.resolve_right fun h=>nomatch h.1;show LeavesInM Fence.wide 0 P fn J.tmps _ J.defers _ w';rw[m.defers];exact .inr ⟨c,j,G',rfl,U,E [] w' m j C L⟩
 | _=>exact Z.elim
section
variable {P:Program}{dst:Option Tmp}{ty:TypeId}{pos:String}{af:Array Edge}{gd:Option (Nat×Bool)}{fr:Fr}{ob:Obs}
def V3{κ:Type}[DecidableEq κ]:List (κ×Cell)->κ->Cell->List (κ×Cell)
 | [],a,c=>[(a,c)]
 | (k,x)::r,a,c=>if k=a then (k,c)::r else (k,x)::V3 r a c
theorem oC{κ:Type}[DecidableEq κ]{a:κ}{c:Cell}:∀{b:List (κ×Cell)},L6 b a=none->V3 b a c=b++[(a,c)]
 | [],_=>rfl
 | (k,x)::r,h=>by
  unfold L6 at h;unfold V3;split at h
  ·cases h
  ·rename_i d;rw[A5 d,oC h];rfl
theorem zT{κ:Type}[DecidableEq κ]{g:κ->Value}{A:TypeDesc}(f:∀a,MapKept.IsKey A (g a))(l:∀a b,g a=g b->a=b){B:Rd}(a:κ){c:Cell}{u:Value}(D:c.rep B u):∀(d:List (κ×Cell)) (n:List MapEntry) (i:Nat),
  All2 (fun (q:κ×Cell) (e:MapEntry)=>e.key=g q.1/\q.2.rep B e.val) d n->L6 d a≠none ->
  ∃p v e,Instr.findNow A (g a) n i=some (some (i+p,v))/\n[p]?=some e/\e.key=g a/\All2 (fun (q:κ×Cell) (e:MapEntry)=>e.key=g q.1/\q.2.rep B e.val) (V3 d a c) (n.modify p fun e=>{ e with key:=g a,val:=u })
 | [],[],_,_,h=>absurd rfl h
 | [],_::_,_,h,_=>h.elim
 | _::_,[],_,h,_=>h.elim
 | (k,x)::d,e::n,i,h,hn=>by
  obtain⟨⟨w,G⟩,C⟩:=h;obtain⟨r,L,j⟩:=MapKept.sameNow_of_keys (f a) (f k);have o:Instr.sameNow A (g a) e.key=some r:=by rw[w];exact L
  by_cases t:k=a
  ·subst t;have:r=true:=j.2 rfl;subst this;refine⟨0,e.val,e,by simp[Instr.findNow,o],rfl,w,?_⟩;unfold V3;rw[A4 rfl];exact⟨⟨rfl,D⟩,C⟩
  ·have:r=false:=by
    cases r
    ·rfl
    ·exact absurd (l _ _ (j.1 rfl)).symm t
   subst this;have z:L6 d a≠none:=by
    intro F;apply hn;unfold L6;rw[A5 t];exact F
   obtain⟨p,v,E,H,I,J,K⟩:=zT f l a D d n (i+1) C z;refine⟨p+1,v,E,?_,by simpa using I,J,?_⟩
   ·simp only[Instr.findNow,o,H];rw[show i+1+p=i+(p+1) by omega]
   ·unfold V3;rw[A5 t];exact⟨⟨w,G⟩,K⟩
theorem MB{x y v:Operand}{t kt:TypeId}{X:TypeDesc}{z:Value}{k:Nat}{κ:Type}[DecidableEq κ]{q:κ->Value}{A:List (κ×Cell)}(a0:κ){c:Cell}[ht:TyMap P t kt X z](V:opv fr x=some (.s (.one (.mut k))))(J:C5 ob k=some (.map κ q A))
  (W:opv fr y=some (J0 (q a0))) (T:opv fr v=some (.s (.one (.p c)))) (Q:H9 v=true) (f:∀a,MapKept.IsKey X (q a)) (B:∀a b,q a=q b->a=b) :
  Eff P ⟨none,.mapUpdate t x y v,ty,pos,af,gd⟩ fr ob fr ((k,.map κ q (V3 A a0 c))::ob):=by
 cases L:L6 A a0 with
 | none=>rw[oC L];exact qP a0 V J W T Q f B L
 | some c0 =>
  intro S G a w h;obtain⟨et,u1,Y,u3,u4⟩:=ht.out;obtain⟨R,_⟩:=H0 h V;obtain⟨b,E,l,H,I,ha⟩:=h.obs k _ J;rw[H]at R;have N:c.rep (F2 (Mut S ob G) w) (a.eval v):=O8 h T Q;obtain⟨p,v0,e,O,h5,h6,h7⟩:=zT f B a0 N A E.toList 0 ha (by rw[L];simp);rw[Nat.zero_add]at O;have F:(E[p]?.map (·.key)).getD (q a0)=q a0:=by
   rw[<-Array.getElem?_toList,h5];exact h6
  obtain⟨g5,g6⟩:=MapKept.heap_set (o':=.map (E.modify p fun e=>{ e with key:=q a0,val:=a.eval v }) l) I;have he:(execOp a.eval ⟨none,.mapUpdate t x y v,ty,pos,af,gd⟩).run P w=.ok .skip { w with heap:=w.heap.setIfInBounds b (.map (E.modify p fun e=>{ e with key:=q a0,val:=a.eval v }) l) }:=by
   simp only[execOp,R,G2 h W];simp only[Instr.mapUpdate,Sem.run_bind,run_underlying u1,Result.andThen_ok,MapKept.run_getObj_map I,MapKept.run_checkKey Y (f a0),MapKept.run_findKey Y O,F,MapKept.run_keyThatStays (f a0),MapKept.run_setObj_map _ I];rfl
  unfold Does;rw[he];have C:blk (G k)=some b:=by rw[H];rfl
  refine⟨G,h.write J C (fun i=>⟨C,trivial⟩) (fun i=>⟨C,trivial⟩) rfl rfl rfl (by simp) (fun j _ K=>g6 j K) ?_⟩;intro rd M;refine⟨b,_,_,H,g5,?_⟩;rw[Array.toList_modify];exact h7.mono fun _ _ ⟨Z,e2⟩=>⟨Z,Cell.rep_mono M _ _ e2⟩
theorem GC{x y:Operand}{t yt:TypeId}{l m:List UInt8}(a:opv fr x=some (P2 l))(c:opv fr y=some (P2 m)):Neu P ⟨dst,.binOp .geq t x y yt,ty,pos,af,gd⟩ fr ob (fun d=>d=R6 (!Op.bytesLess l m)) :=
 o6 a c (fun _=>rfl) (fun w=>by simp[binOp,Op.stringOp]) rfl
theorem zU{f:FuncId}{first:List Operand}{cs:List Cell}(g:bY fr first=some (cs.map PV.one))(i:first.all H9=true) :
  Neu P ⟨dst,.makeFunc (.func f) first.toArray #[],ty,pos,af,gd⟩ fr ob (fun p=>p=.s (.one (.fnc f cs))) :=
 E9 fun S G a w h=>by
  have j:=aE h first _ g i
  refine⟨.func (.func f) (first.map a.eval).toArray #[],?_,_,rfl,?_⟩
  ·simp[execOp,Instr.makeFunc]
  ·have d:∀{cs:List Cell} {b:List Value},All2 (PV.rep (F2 (Mut S ob G) w)) (cs.map PV.one) b->All2 (Cell.rep (F2 (Mut S ob G) w)) cs b:=by
    intro cs;induction cs with
    | nil=>intro b h;cases b;trivial;exact h.elim
    | cons c cs l =>
     intro b h;cases b with
     | nil=>exact h.elim
     | cons u b=>exact⟨h.1,l h.2⟩
   exact d j
theorem GD{b:Rd}:∀{a:List Cell} {c:List Value},All2 (Cell.rep b) a c->All2 (PV.rep b) (a.map PV.one) c
 | [],[],_=>trivial
 | [],_::_,h=>h.elim
 | _::_,[],h=>h.elim
 | _::_,_::_,h=>⟨h.1,GD h.2⟩
theorem OQ{f:FuncId}{g:Operand}{j:Array Operand}{q:Array TypeId}{B:List Cell}{ps F:List PV}(E:FnOk P f (B.map PV.one++ps) (fun r=>r=F))(J:opv fr g=some (.s (.one (.fnc f B))))(ha:bY fr j.toList=some ps)(H:j.toList.all H9=true) :
  Neu P ⟨dst,.call ⟨.value g,j,q⟩,ty,pos,af,gd⟩ fr ob (fun N=>N=oA F):=by
 intro S G a w h;obtain⟨z,C,D⟩:=H0 h J;have x:All2 (PV.rep (F2 (Mut S ob G) w)) (B.map PV.one++ps) (z++j.toList.map a.eval):=(GD D).append (aE h j.toList ps ha H);have m:=E.2 w (Mut S ob G) _ h.grdW (fun b i K=>h.mut_lt K) x;unfold Does;have I:(execOp a.eval ⟨dst,.call ⟨.value g,j,q⟩,ty,pos,af,gd⟩).run P w=.ok (.enter f (z++j.toList.map a.eval).toArray) w:=by
  have:=Q4 (P:=P) (f:=f) (args:=(z++j.toList.map a.eval).toArray) (w:=w) E.1;simp only[execOp,resolve,C,Deferred.ofValue,Sem.run_bind,Sem.run_pure,Result.andThen_ok,invoke];rw[show z.toArray++Array.map a.eval j++#[]=(z++j.toList.map a.eval).toArray by simp];exact this
 rw[I];refine m.mono ?_;rintro e w' ⟨v,M,rfl,rfl,L,hb⟩;exact⟨v,rfl,hb,_,rfl,L.sv⟩
theorem GH{f:FuncId}{g:Operand}{d:Array Operand}{m:Array TypeId}{ps rs:List PV}(q:FnOk P f ps (fun r=>r=rs))(z:opv fr g=some (J0 (.func (.func f) #[] #[])))(ha:bY fr d.toList=some ps)(s:d.toList.all H9=true) :
  Neu P ⟨dst,.call ⟨.value g,d,m⟩,ty,pos,af,gd⟩ fr ob (fun E=>E=oA rs):=by
 intro S G a w h;have p:=G2 h z;have j:=q.2 w (Mut S ob G) _ h.grdW (fun b i B=>h.mut_lt B) (aE h d.toList ps ha s);unfold Does;have x:(execOp a.eval ⟨dst,.call ⟨.value g,d,m⟩,ty,pos,af,gd⟩).run P w=.ok (.enter f (d.toList.map a.eval).toArray) w:=by
  have:=Q4 (P:=P) (f:=f) (args:=(d.toList.map a.eval).toArray) (w:=w) q.1;simp only[execOp,resolve,p,Deferred.ofValue,Sem.run_bind,Sem.run_pure,Result.andThen_ok,invoke];rw[show (#[]:Array Value)++Array.map a.eval d++#[]=(d.toList.map a.eval).toArray by obtain⟨l⟩:=d;simp];exact this
 rw[x];refine j.mono ?_;rintro e w' ⟨v,D,rfl,rfl,C,hb⟩;exact⟨v,rfl,hb,_,rfl,C.sv⟩
theorem dL{x:Operand}{T:TypeId}{k off:Nat}(l:opv fr x=some (.s (.one (.ref k off))))(d:P.concrete T=true) :
  Neu P ⟨dst,.makeInterface T x,ty,pos,af,gd⟩ fr ob (fun q=>q=.s (.one (.ifc T k off))) :=
 E9 fun S G a w h=>by
  obtain⟨b,g,j⟩:=H0 h l;refine⟨.iface T (.pointer (some ⟨b,off,none⟩)),?_,b,g,rfl⟩;simp only[execOp,j];exact L2 (run_makeInterface w T _ d)
theorem jJ{x:Operand}{T:TypeId}{v:Value}(d:opv fr x=some (J0 v))(b:P.concrete T=true) :
  Neu P ⟨dst,.makeInterface T x,ty,pos,af,gd⟩ fr ob (fun g=>g=J0 (.iface T v)) :=
 E9 fun S G a w h=>by
  refine⟨.iface T v,?_,rfl,rfl⟩;simp only[execOp,G2 h d];exact L2 (run_makeInterface w T _ b)
theorem oD{x:Operand}{j T:TypeId}{k:IntKind}{v:Value}[ht:TyInt P T k](d:opv fr x=some (J0 (.iface T v)))(b:v.oneCell'=true) :
  Neu P ⟨dst,.typeAssert x j T false,ty,pos,af,gd⟩ fr ob (fun g=>g=J0 v) :=
 E9 fun S G a w h=>by
  refine⟨v,?_,rfl,b⟩;simp only[execOp,G2 h d];refine L2 ?_;simp[Instr.typeAssert,run_underlying ht.out]
section
variable {nt:Nat}{ops:Array Oper}{rest:List Oper}{Q:Post}{d:Nat}
theorem cB{f:FuncId}{x:Operand}{m:String}{j:List Operand}{O:Array TypeId}{ty:TypeId}{pos:String}{af:Array Edge}{T:TypeId}{k off:Nat}{g:List S1}{W:List Nat}{C:List S1->Obs->Prop}
  (hI:∀(a:Addr) (vs:Array Value) (w:World),(callMethod (.iface T (.pointer (some a))) m vs).run P w=.ok (.enter f (#[.pointer (some a)]++vs)) w)
  (hf:Met P f (.one (.ref k off)::g) (eL fr) ob W C) (hx:opv fr x=some (.s (.one (.ifc T k off)))) (ha:bA fr j=some g) (hc:j.all H9=true) (hd:Nat.blt d nt=true)
  (kk:∀H ob',C H ob'->WpL P nt ops rest ((d,pC H)::D2 W fr) ob' Q):WpL P nt ops (⟨some d,.call ⟨.invoke x m,j.toArray,O⟩,ty,pos,af,none⟩::rest) fr ob Q:=by
 intro S G a w hn h;obtain⟨b,Y,ab⟩:=H0 h hx;have M:All2 (S1.rep (F2 (Mut S ob G) w) G) (.one (.ref k off)::g) (.pointer (some ⟨b,off,none⟩)::j.map a.eval):=⟨⟨b,Y,rfl⟩,p6 h j g ha hc⟩
 obtain⟨N,R⟩:∃N:Nat->Value,N=fun i=>S.sl a (i-1000000):=⟨_,rfl⟩
 let S':Ctx:={ S with gv:=N }
 have J:High (eL fr):=fun i s U=>(X0 fr i s U).1;have q:∀i s,E6 (eL fr) i=some s->s.rep (F2 (Mut S' ob G) w) G (S'.sl a i):=by
  intro i s U;obtain⟨I,X⟩:=X0 fr i s U;rw[Ctx.sl_ge I];show s.rep _ _ (N i);have e:=congrFun R i;rw[e];exact h.facts (i-1000000) s X
 have hs:Sim P S' (eL fr) ob G a w:={ h with facts:=q }
 have D:=hf.2 J S' G a w _ hs M;refine wpList_plain rfl fun K hK=>M2 (K:=fun v w'=>∃H ob' G',C H ob'/\b9 (F2 (Mut S' ob' G') w') G' H v/\Sim P S' (D2 W (eL fr)) ob' G' a w') ?_ ?_
 ·have he:(execOp a.eval ⟨some d,.call ⟨.invoke x m,j.toArray,O⟩,ty,pos,af,none⟩).run P w=.ok (.enter f (.pointer (some ⟨b,off,none⟩)::j.map a.eval).toArray) w:=by
   have:=hI ⟨b,off,none⟩ (j.map a.eval).toArray w;have e1:(#[a.eval x]++Array.map a.eval j.toArray)[0]?=some (a.eval x):=by simp
   have e2:(#[a.eval x]++Array.map a.eval j.toArray).extract 1 (#[a.eval x]++Array.map a.eval j.toArray).size=(j.map a.eval).toArray:=by
    apply Array.ext';simp[XN]
   simp only[execOp,resolve,Sem.run_bind,Sem.run_pure,Result.andThen_ok,invoke,e1,e2];rw[ab,this]
   congr 2
   simp
  unfold Does;rw[he];refine D.mono ?_;rintro e w' ⟨v,H,ob',G',rfl,L,B,F⟩;exact⟨v,rfl,H,ob',G',L,B,F⟩
 ·rintro v w' ⟨H,ob',G',hp,B,F⟩;have Z:d<S.nt:=by rw[hn];simpa using hd
  have E:∀i s,E6 (D2 W fr) i=some s->s.rep (F2 (Mut S ob' G') w') G' (S.sl a i):=by
   intro i s U;have I:=F.facts (i+1000000) s (by rw[j2];exact kT U);have X:1000000<=i+1000000:=Nat.le_add_left _ _;rw[Ctx.sl_ge X]at I;have I:s.rep (F2 (Mut S ob' G') w') G' (N (i+1000000)):=I;have e:=congrFun R (i+1000000);simp only[Nat.add_sub_cancel]at e;rw[e]at I;exact I
  have V:Sim P S (D2 W fr) ob' G' a w':={ F with facts:=E }
  exact hK _ _ (kk H ob' hp S G' _ w' hn (V.put Z B))
end
end
class TyArr (P:Program) (t:TypeId) (e:outParam TypeId) (n:outParam Nat) (es:outParam Nat):Prop where
 out:P.underlying t=some (.array n e)/\(P.info? e).map (·.size)=some es
class TyArrZ (P:Program) (t:TypeId) (zs:outParam (List Value)) (offs:outParam (List (Nat×Nat))):Prop where
 out:∃n e es z,P.underlying t=some (.array n e)/\(P.info? t).bind (·.zero)=some z/\z.cells.toList=zs/\zs.all (·.oneCell')=true/\(P.info? e).map (·.size)=some es/\offs=(List.range n).map fun i=>(i*es,es)
theorem jK{x:Operand}{e:TypeId}{s:S1}{d:List Cell}(E:opv fr x=some (.s s))(y:H9 x=true)(C:aD s.cells=some d) :
  Neu P ⟨dst,.box e x,ty,pos,af,gd⟩ fr ob (fun F=>F=.s (.one (.eref Unit d.length (fun _ j=>d.getD j (.v undef)) () 0))):=by
 intro S G a w h;have D:(SV.s s).rep (F2 (Mut S ob G) w) G (a.eval x):=O8 h E y;have k:=o8 C (VX D);have g:Below w.heap.size w (w.alloc (.cells (a.eval x).cells e)):=(Below.refl _ _).alloc (Nat.le_refl _) _;refine H8 (w':=w.alloc (.cells (a.eval x).cells e)) (v:=.pointer (some ⟨w.heap.size,0,none⟩)) ?_ ⟨g,_,rfl,w.heap.size,0,rfl,?_⟩
 ·simp[execOp,Instr.box,newVar,newRow]
 ·intro j u;obtain⟨z,m,q⟩:=k.get j _ (WT u);refine⟨z,⟨cell_of_heap (heap_alloc_new w _) (by rw[Nat.zero_add];simpa using m),fun B=>absurd (h.mut_lt B) (Nat.lt_irrefl _)⟩,?_⟩;show (d.getD j (.v undef)).rep _ z;rw[show d.getD j (.v undef)=d[j] by simp[XC,u]];exact Cell.rep_mono (fun _ _ _ A=>eX g A) _ _ q
theorem RetOk.s1{fn:Func}{c:Cell}(h:RetOk P fn fr ob [.one c]):RetS P fn fr ob [.one (.p c)]:=fun S G a w f=>let ⟨v,b,d⟩:=h S G a w f;⟨v,b,d.sv⟩
theorem RetOk.s2{fn:Func}{c b:Cell}(h:RetOk P fn fr ob [.one c,.one b]):RetS P fn fr ob [.one (.p c),.one (.p b)]:=fun S G a w g=>let ⟨v,d,f⟩:=h S G a w g;⟨v,d,f.sv⟩
theorem WJ(kb o:Nat){m:List TC}{t0:TC}{c:Cell}(hb:C5 ob kb=some (.box m))(k:m[o]?=some t0)(s:t0.pure?=some c):Sees P nt fr ob fr ((kb,.box (m.set o (.p c)))::ob):=by
 intro S G a w A h;obtain⟨b,C,t,r,y,ha⟩:=h.obs kb _ hb;have d:blk (G kb)=some b:=by rw[r];rfl
 refine⟨_,h.retell hb d (fun i=>⟨d,trivial⟩) (fun i=>⟨d,trivial⟩) ?_⟩;rintro B ⟨q,n,v,g,j,e⟩;refine⟨q,n,v,g,j,WA o (fun z u=>?_) e⟩;obtain⟨D,f,l⟩:=e.get o _ k;rw[u]at f;cases f;exact WG s l
theorem MetX.introH{f:FuncId}{fn:Func}{c:Code}{a:List S1}{gf:Fr}{ks:List Nat}{d:List S1->Obs->Prop}{h:Int->Obs->Prop}(j:P.funcs[f]?=some fn)(b:(fn.name == "runtime.NumGoroutine")=false)(hb:fn.body=some c)(g:Nat.ble a.length fn.ntmps=true)(i:Nat.ble fn.ntmps 1000000=true)
  (k:High gf->WpC P fn.ntmps c (o9 0 a++gf) ob (QE P T fn ks gf d h)):MetX P T f a gf ob ks d h :=
 ⟨⟨fn,j,b,by simp[hb]⟩,fun e=>(MetX.intro j b hb g i (k e)).2 e⟩
def TL(P:Program)(f:List PanicEntry)(h d:List Deferred)(w w':World):Prop :=
 ∀(fn:Func) (b:Array Value) (R:Ending->World->Prop),LeavesInM Fence.wide 0 P fn b R d .returning w'->LeavesInM Fence.wide 0 P fn b R h (.panicking f) w
def TM(P:Program)(S:Ctx)(Q:Post)(e:Exit)(a:Act)(w:World):Prop :=
 PostOf P S Q e a w\/∃d fr ob G b w',e=.panic d/\a.defers=b/\Q .ret fr ob/\Sim P { S with df:=b } fr ob G a w'/\TL P d b S.df w w'
def RawC(P:Program)(nt:Nat)(c:Code)(fr:Fr)(ob:Obs)(Q:Post):Prop :=
 ∀S G a w,S.nt=nt->Sim P S fr ob G a w->c.wp P (TM P S Q) a w
theorem RawC.of{c:Code}(h:WpC P nt c fr ob Q):RawC P nt c fr ob Q:=fun S G a w b e=>wp_mono (h S G a w b e) fun _ _ _ d=>.inl d
theorem IB(k:Nat){t e:TypeId}{q J:Nat}{x:Operand}{s:S1}[ht:TySl P t e q J](hx:opv fr x=some (.s s))(hc:H9 x=true)(V:s.cells.length=q)(O:Nat.ble q 100=true)
  (hk:C5 ob k=none) (N:Nat.blt k 1000000=true):EffV P ⟨dst,.buildSlice t 1 #[(0,x)],ty,pos,af,gd⟩ fr ob (.s (.one (.mut k))) (Fr.forget k fr) ((k,.growT e 1 q (s.cells.map (TC.forget k)))::Obs.forget k ob):=by
 intro S G a w h;have N:k<1000000:=by simpa using N
 have ad:=ht.out.2.2.1;have ac:q<=100:=by simpa using O
 obtain⟨_,_,_,_,F⟩:=ht.out;cases Y:P.info? e with
 | none=>simp[Y]at F
 | some i =>
 cases hz:i.zero with
 | none=>simp[Y,hz]at F
 | some z =>
 have Z:(P.info? e).bind (·.zero)=some z:=by simp[Y,hz]
 have D:=VX (s:=s) (O8 h hx hc);have E:(a.eval x).cells.size=q:=by rw[<-V,D.length];simp
 let C:Array Value:=(Array.range (1*q)).map (z.cells[· % z.cells.size]!);have ab:C.size=q:=by simp[C]
 have K:Instr.fill (fun i=>some (i*q,q)) C [(0,a.eval x)]=some (a.eval x).cells.toList.toArray:=by
  have M:(a.eval x).cells.zipIdx.foldl (fun cs (x:Value×Nat)=>cs.setIfInBounds (0*q+x.2) x.1) C=(C.toList.take (0*q)++(a.eval x).cells.toList++C.toList.drop (0*q+(a.eval x).cells.toList.length)).toArray:=by
   rw[<-Array.foldl_toList,Array.toList_zipIdx];have:=eZ (0*q) (a.eval x).cells.toList 0 C (by simp;omega);simpa using this
  simp only[Instr.fill,E,ne_eq,not_true_eq_false,decide_false,Bool.false_or,decide_eq_true_eq];rw[A5 (by omega),M];have:C.toList.drop (0*q+(a.eval x).cells.toList.length)=[]:=by rw[List.drop_eq_nil_iff];simp;omega
  rw[this];simp
 refine H8 (w':=w.alloc (.cells (a.eval x).cells.toList.toArray e)) (v:=.slice (some ⟨w.heap.size,0,none⟩) 1 1) ?_ ?_
 ·simp only[execOp];refine L2 ?_;simp only[Instr.buildSlice,Sem.run_bind,run_underlying ht.out.1,Result.andThen_ok,J4 ht.size];rw[A5 (by omega)];rw[A5 (by omega)];simp only[Sem.run_bind,P3 Z,Sem.run_pure,Result.andThen_ok];have hp:(#[(0,x)]:Array (Nat×Operand)).map (fun (x:Nat×Operand)=>match x with | (i,x)=>(i,a.eval x))=#[(0,a.eval x)]:=by simp
  rw[hp];have H:Instr.fill (fun i=>some (i*q,q)) ((Array.range (1*q)).map (z.cells[· % z.cells.size]!)) (#[(0,a.eval x)]:Array (Nat×Value)).toList=some (a.eval x).cells.toList.toArray:=K;rw[H];simp[newRow]
 ·have X:Below w.heap.size w (w.alloc (.cells (a.eval x).cells.toList.toArray e)):=(Below.refl _ _).alloc (Nat.le_refl _) _;have hu:∀b,blk (.slice (some ⟨w.heap.size,0,none⟩) 1 1)=some b->w.heap.size<=b:=by intro b hb;simp[blk]at hb;omega
  have W:(a.eval x).cells.toList.length=q:=by simpa using E
  have Q:(w.alloc (.cells (a.eval x).cells.toList.toArray e)).ownsRow S.B e q (.slice (some ⟨w.heap.size,0,none⟩) 1 1) 1 (a.eval x).cells.toList :=
   ⟨by rw[W,Nat.one_mul],.inr ⟨w.heap.size,1,(a.eval x).cells.toList.toArray,rfl,h.size,heap_alloc_new w _,Nat.le_refl _,by unfold maxLen;omega,by simpa using E,by rw[Nat.one_mul,<-W];exact XF⟩⟩
  have U:=h.new N hk (o:=.growT e 1 q (s.cells.map (TC.forget k))) (u:=.slice (some ⟨w.heap.size,0,none⟩) 1 1) X hu (by
   refine⟨(a.eval x).cells.toList,Q,by omega,by rw[XW,V,Nat.one_mul],?_⟩;have h1:All2 (TC.rep (F2 (Mut S ((k,Ob.growT e 1 q (s.cells.map (TC.forget k)))::Obs.forget k ob) (upd G k (.slice (some ⟨w.heap.size,0,none⟩) 1 1))) (w.alloc (.cells (a.eval x).cells.toList.toArray e))) G) s.cells (a.eval x).cells.toList :=
    D.mono fun _ _=>TC.rep_mono (fun _ _ _ hr=>h.rd_new X hu hr)
   exact h1.map (TC.forget k) (fun _ _=>TC.rep_forget (G':=upd G k (.slice (some ⟨w.heap.size,0,none⟩) 1 1)) (fun j hj=>Y3 G _ hj)))
  exact⟨_,U,(H7 _ _ _).symm,rfl⟩
theorem rC(k:Nat){t e:TypeId}{q F:Nat}{x:Operand}{s:S1}[ht:TySl P t e q F](hx:opv fr x=some (.s s))(hc:H9 x=true)(Q:s.cells.length=q)(M:Nat.ble q 100=true)
  (hk:C5 ob k=none) (K:Nat.blt k 1000000=true):EffV P ⟨dst,.buildSlice t 1 #[(0,x)],ty,pos,af,gd⟩ fr ob (.s (.one (.mut k))) (Fr.forget k fr) ((k,.tarr 1 q (s.cells.map (TC.forget k)))::Obs.forget k ob):=by
 intro S G a w h;have K:k<1000000:=by simpa using K
 have ab:=ht.out.2.2.1;have W:q<=100:=by simpa using M
 obtain⟨_,_,_,_,D⟩:=ht.out;cases T:P.info? e with
 | none=>simp[T]at D
 | some i =>
 cases Y:i.zero with
 | none=>simp[T,Y]at D
 | some z =>
 have U:(P.info? e).bind (·.zero)=some z:=by simp[T,Y]
 have C:=VX (s:=s) (O8 h hx hc);have N:(a.eval x).cells.size=q:=by rw[<-Q,C.length];simp
 let B:Array Value:=(Array.range (1*q)).map (z.cells[· % z.cells.size]!);have V:B.size=q:=by simp[B]
 have H:Instr.fill (fun i=>some (i*q,q)) B [(0,a.eval x)]=some (a.eval x).cells.toList.toArray:=by
  have J:(a.eval x).cells.zipIdx.foldl (fun Z (x:Value×Nat)=>Z.setIfInBounds (0*q+x.2) x.1) B=(B.toList.take (0*q)++(a.eval x).cells.toList++B.toList.drop (0*q+(a.eval x).cells.toList.length)).toArray:=by
   rw[<-Array.foldl_toList,Array.toList_zipIdx];have:=eZ (0*q) (a.eval x).cells.toList 0 B (by simp;omega);simpa using this
  simp only[Instr.fill,N,ne_eq,not_true_eq_false,decide_false,Bool.false_or,decide_eq_true_eq];rw[A5 (by omega),J];have:B.toList.drop (0*q+(a.eval x).cells.toList.length)=[]:=by rw[List.drop_eq_nil_iff];simp;omega
  rw[this];simp
 refine H8 (w':=w.alloc (.cells (a.eval x).cells.toList.toArray e)) (v:=.slice (some ⟨w.heap.size,0,none⟩) 1 1) ?_ ?_
 ·simp only[execOp];refine L2 ?_;simp only[Instr.buildSlice,Sem.run_bind,run_underlying ht.out.1,Result.andThen_ok,J4 ht.size];rw[A5 (by omega)];rw[A5 (by omega)];simp only[Sem.run_bind,P3 U,Sem.run_pure,Result.andThen_ok];have hp:(#[(0,x)]:Array (Nat×Operand)).map (fun (x:Nat×Operand)=>match x with | (i,x)=>(i,a.eval x))=#[(0,a.eval x)]:=by simp
  rw[hp];have E:Instr.fill (fun i=>some (i*q,q)) ((Array.range (1*q)).map (z.cells[· % z.cells.size]!)) (#[(0,a.eval x)]:Array (Nat×Value)).toList=some (a.eval x).cells.toList.toArray:=H;rw[E];simp[newRow]
 ·have R:Below w.heap.size w (w.alloc (.cells (a.eval x).cells.toList.toArray e)):=(Below.refl _ _).alloc (Nat.le_refl _) _;have X:∀b,blk (.slice (some ⟨w.heap.size,0,none⟩) 1 1)=some b->w.heap.size<=b:=by intro b hb;simp[blk]at hb;omega
  have O:=h.new K hk (o:=.tarr 1 q (s.cells.map (TC.forget k))) (u:=.slice (some ⟨w.heap.size,0,none⟩) 1 1) R X (by
   refine⟨w.heap.size,(a.eval x).cells.toList,e,rfl,by omega,heap_alloc_new w _,by rw[XW,Q,Nat.one_mul],?_⟩;have h1:All2 (TC.rep (F2 (Mut S ((k,Ob.tarr 1 q (s.cells.map (TC.forget k)))::Obs.forget k ob) (upd G k (.slice (some ⟨w.heap.size,0,none⟩) 1 1))) (w.alloc (.cells (a.eval x).cells.toList.toArray e))) G) s.cells (a.eval x).cells.toList :=
    C.mono fun _ _=>TC.rep_mono (fun _ _ _ hr=>h.rd_new R X hr)
   exact h1.map (TC.forget k) (fun _ _=>TC.rep_forget (G':=upd G k (.slice (some ⟨w.heap.size,0,none⟩) 1 1)) (fun j hj=>Y3 G _ hj)))
  exact⟨_,O,(H7 _ _ _).symm,rfl⟩
theorem OS(k:Nat){t e:TypeId}{A F:Nat}{x y:Operand}{kx ky:IntKind}{n:Int}(α:Type)(c:α->Nat->Cell)(D:α){z:Value}[ht:TySl P t e A F][hzz:TyZero P e z]
  (hx:opv fr x=some (J0 (.int kx n))) (hy:opv fr y=some (J0 (.int ky n))) (h0:0<=n) (hn:n<=1073741824)
  (ah:∀rd:Rd,All2 (Cell.rep rd) (cellsOf c D 0 A) z.cells.toList) (hf:(I2 k fr&&M9 k ob)=true) :
  EffV P ⟨dst,.makeSlice t x y,ty,pos,af,gd⟩ fr ob (.s (.one (.mut k))) fr ((k,.grow e α A c (List.replicate n.toNat D))::ob):=by
 simp only[WU]at hf;obtain⟨U,V⟩:=hf;obtain⟨Y,hk,Z⟩:=S9 V;have W:=S8 U;have hz:((P.info? e).bind (·.zero)).map (fun z=>z.cells.toList)=some z.cells.toList:=by rw[hzz.out.1];rfl
 intro S G a w h;obtain⟨ac,f,ak,aj,q⟩:=ht.out;cases M:P.info? e with
 | none=>simp[M]at f
 | some i =>
 simp[M]at f;obtain⟨ab,T⟩:=f;cases J:i.zero with
 | none=>simp[M,J]at q
 | some z2 =>
 simp[M,J]at q hz;have K:(i.bytes:Int)*n<=281474976710656:=by
  have h1:(i.bytes:Int)<=4096:=by omega
  have h2:(i.bytes:Int)*n<=4096*1073741824:=by
   have:i.bytes*n.toNat<=4096*1073741824:=Nat.mul_le_mul (by omega) (by omega);have h3:((i.bytes*n.toNat:Nat):Int)<=((4096*1073741824:Nat):Int):=by exact_mod_cast this
   rw[Int.natCast_mul]at h3;have h4:(n.toNat:Int)=n:=by omega
   rw[h4]at h3;omega
  omega
 have hr:=run_make (P:=P) w t e i z2 ac M J kx ky n n h0 (Int.le_refl _) K (by omega);rw[ab]at hr;obtain⟨C,I⟩:∃C,C=madeCells z2.cells (n.toNat*A):=⟨_,rfl⟩
 have H:C.size=n.toNat*A:=by rw[I];exact size_madeCells _ _
 rw[<-I]at hr;refine H8 (w':=w.alloc (.cells C e)) (v:=.slice (some ⟨w.heap.size,0,none⟩) n.toNat n.toNat) ?_ ?_
 ·simp only[execOp,G2 h hx,G2 h hy];exact L2 hr
 ·have ag:Below w.heap.size w (w.alloc (.cells C e)):=(Below.refl _ _).alloc (Nat.le_refl _) _;have hu:∀b,blk (.slice (some ⟨w.heap.size,0,none⟩) n.toNat n.toNat)=some b->w.heap.size<=b:=by intro b hb;simp[blk]at hb;omega
  have Q:(List.replicate n.toNat D).length=n.toNat:=XT;have O:(w.alloc (.cells C e)).ownsRow S.B e A (.slice (some ⟨w.heap.size,0,none⟩) n.toNat n.toNat) (List.replicate n.toNat D).length C.toList:=by
   rw[Q];exact⟨by simpa using H,.inr ⟨w.heap.size,n.toNat,C,rfl,h.size,heap_alloc_new w _,Nat.le_refl _,by unfold maxLen;omega,H,(by rw[<-H];exact XF)⟩⟩
  have E:=h.new Z hk (o:=.grow e α A c (List.replicate n.toNat D)) (u:=.slice (some ⟨w.heap.size,0,none⟩) n.toNat n.toNat) ag hu ⟨C.toList,O,by rw[Q];omega,fun m hm j hj=>by
   have X:m<n.toNat:=by simpa using hm
   have ai:=ah (F2 (Mut S ((k,Ob.grow e α A c (List.replicate n.toNat D))::Obs.forget k ob) (upd G k (.slice (some ⟨w.heap.size,0,none⟩) n.toNat n.toNat))) (w.alloc (.cells C e)));have L:(cellsOf c D 0 A)[j]?=some (c D j):=by
    have N:j<(cellsOf c D 0 A).length:=by rw[K5];exact hj
    rw[WT N];have:=S5 c D A 0 j _ (WT N);rw[this.1,Nat.zero_add]
   obtain⟨u,ad,ae⟩:=ai.get j _ L;refine⟨u,?_,by simpa using ae⟩;rw[Array.getElem?_toList,I,iD q X hj,<-Array.getElem?_toList,hz]
   exact ad⟩
  rw[W,Y]at E;exact⟨_,E,(H7 _ _ _).symm,rfl⟩
theorem IC{d:Rd}{G:Gh}{v:Value}:∀(k:List PV),(oA k).rep d G v->ResRep d k v:=by
 have m:∀b:List Cell,aD (b.map TC.p)=some b:=fun b=>by
  induction b with
  | nil=>rfl
  | cons c b l=>rw[XK,aD,l];rfl
 have j:∀{p:PV} {u:Value},(p.s1).rep d G u->p.rep d u:=fun {p u} h=>by
  cases p with
  | one c=>exact h
  | agg b =>
   obtain⟨n,g,i⟩:=h;exact⟨n,g,o8 (m b) i⟩
 have f:∀(ps:List PV) (a:List Value),All2 (S1.rep d G) (ps.map PV.s1) a->All2 (PV.rep d) ps a:=fun ps=>by
  induction ps with
  | nil=>intro a h;cases a with | nil=>trivial | cons=>exact h.elim
  | cons p ps l =>
   intro a h;cases a with
   | nil=>exact h.elim
   | cons u a=>exact⟨j h.1,l a h.2⟩
 intro k h
 match k,h with
 | [p],h=>exact j h
 | [],⟨a,g,i⟩=>exact⟨a,g,f [] a i⟩
 | p::q::r,⟨a,g,i⟩=>exact⟨a,g,f (p::q::r) a i⟩
theorem WQ{P:Program}{f:FuncId}{d:List PV}{ks:List Nat}{W:List S1->Obs->Prop}{y:List PV->Prop}(h:Met P f (d.map PV.s1) [] [] ks W)
  (hp:∀E ob',W E ob'->∃(k:Nat) (α:Type) (D:Nat) (c:α->Nat->Cell) (I:List α) (e:TypeId) (q:List PV),ob'=[(k,.grow e α D c I)]/\Nat.blt 0 D=true/\(pC E).freeze k α D c I=oA q/\y q):FnOk P f d y:=by
 refine⟨h.1,fun w M t hg hM ha=>?_⟩;let S:Ctx:={ w0:=w,M0:=M,io:=fun _=>False,nt:=0,pin:=fun _=>undef,gv:=fun _=>undef }
 obtain⟨G,hG⟩:∃G:Gh,G=fun _=>undef:=⟨_,rfl⟩
 obtain⟨a,F⟩:∃a:Act,a={ tmps:=#[],defers:=[] }:=⟨_,rfl⟩
 have J:∀G b i,Mut S [] G b i↔M b i:=fun G b i=>⟨fun h=>h.elim id fun ⟨k,o,u,_⟩=>(by cases u),.inl⟩
 have Q:∀G b i z,F2 M w b i z->F2 (Mut S [] G) w b i z:=fun G b i z U=>⟨U.1,fun N=>U.2 ((J G b i).1 N)⟩
 have hs:Sim P S [] [] G a w:=by
  refine { nt:=by rw[F];rfl,ntb:=by show 0<=1000000;omega,defers:=by rw[F],os:=rfl,tape:=rfl,output:=rfl,size:=Nat.le_refl _,keep:=fun _ _ _=>rfl,m0:=hM,m0io:=fun _ _ _=>id,grd:=hg,pin:=fun _ _=>by rw[hG],old:=fun k o b u=>(by cases u),dis:=fun k k' o o' b u=>(by cases u),obs:=fun k o u=>(by cases u),facts:=fun i s x=>by cases x }
 have C:All2 (S1.rep (F2 (Mut S [] G) w) G) (d.map PV.s1) t:=by
  have:∀(ps:List PV) (A:List Value),All2 (PV.rep (F2 M w)) ps A->All2 (S1.rep (F2 (Mut S [] G) w) G) (ps.map PV.s1) A:=by
   intro ps;induction ps with
   | nil=>intro A h;cases A with | nil=>trivial | cons=>exact h.elim
   | cons p ps ih =>
    intro A h;cases A with
    | nil=>exact h.elim
    | cons v A=>exact⟨PV.rep_s1 (PV.rep_mono (Q G) h.1),ih A h.2⟩
  exact this d t ha
 refine (h.2 (fun i s x=>by cases x) S G a w t hs C).mono ?_;rintro e w' ⟨v,E,ob',G',rfl,B,H,j⟩;obtain⟨k,α,D,c,I,X,q,rfl,K,L,O⟩:=hp E ob' B;have R:Sim P { S with gv:=fun _=>v } [(1000000,pC E)] [(k,.grow X α D c I)] G' a w':=by
  refine { j with facts:=fun i s x=>?_ };by_cases e:1000000=i
  ·subst e;rw[E5]at x;cases x;rw[Ctx.sl_ge (Nat.le_refl _)];exact H
  ·rw[D3 e]at x;cases x
 have Y:=R.freezeG (k:=k) (by rw[F4]) (by simpa using K);have T:=Y.facts 1000000 (SV.freeze k α D c I (pC E)) (E5 _ _ _);rw[Ctx.sl_ge (Nat.le_refl _),L]at T;have Z:=IC q T;refine⟨v,q,rfl,O,Z.mono (fun b i z V=>⟨V.1,fun N=>V.2 (.inl N)⟩),⟨j.os,j.tape,j.output,j.size,fun k u=>j.keep k u id⟩⟩
def FreeKs(a:List Nat)(fr:Fr):Prop:=∀k,N3 a k=true->I2 k fr=true
theorem FreeKs.nil{a:List Nat}:FreeKs a []:=fun _ _=>rfl
theorem FreeKs.cons{a:List Nat}{i:Nat}{s:SV}{fr:Fr}(c:∀k,N3 a k=true->s.free k=true)(d:FreeKs a fr):FreeKs a ((i,s)::fr):=fun k b=>by
 simp only[I2,WU];exact⟨c k b,d k b⟩
theorem jL{k:Nat}:∀{F:Fr},(∀p∈F,p.2.free k=true)->I2 k F=true
 | [],_=>rfl
 | (i,s)::r,h=>by
  simp only[I2,WU];exact⟨h (i,s) (List.mem_cons_self ..),jL fun p a=>h p (List.mem_cons_of_mem _ a)⟩
theorem FreeKs.gf{ks K:List Nat}{gf:Fr}(h:∀k,N3 ks k=true->N3 K k=true):FreeKs ks (D2 K gf):=fun k a=>jL (cA (h k a))
theorem FreeKs.eq:∀{a:List Nat} {fr:Fr},FreeKs a fr->D2 a fr=fr
 | [],_,_=>rfl
 | k::a,fr,h=>by
  show D2 a (Fr.forget k fr)=fr;rw[S8 (h k (zK.2 (List.mem_cons_self ..)))];exact FreeKs.eq fun j b=>h j (zK.2 (List.mem_cons_of_mem _ (zK.1 b)))
theorem pE(k:Nat):∀(K:List Nat) (fr:Fr),N3 K k=true->D2 K (Fr.forget k fr)=D2 K fr:=fun K fr h=>by rw[dK,s7 h]
theorem iJ:∀{ks K:List Nat} {fr:Fr},(∀k,N3 ks k=true->N3 K k=true)->D2 K (D2 ks fr)=D2 K fr
 | [],_,_,_=>rfl
 | k::ks,K,fr,h=>by
  show D2 K (D2 ks (Fr.forget k fr))=_;rw[iJ (ks:=ks) fun j a=>h j (zK.2 (List.mem_cons_of_mem _ (zK.1 a)))];exact pE k K fr (h k (zK.2 (List.mem_cons_self ..)))
theorem Met.more{f:FuncId}{b:List S1}{gf:Fr}{l K:List Nat}{c:List S1->Obs->Prop}(h:Met P f b gf ob l c)(y:∀k,N3 l k=true->N3 K k=true):Met P f b gf ob K c :=
 ⟨h.1,fun x S G a w d z ha=>(h.2 x S G a w d z ha).mono fun e w' ⟨v,A,ob',G',p,q,r,g⟩=>by
  refine⟨v,A,ob',G',p,q,r,{ g with facts:=fun i s j=>?_ }⟩;rw[<-iJ y]at j;obtain⟨B,t,u⟩:=kZ j
  exact u _ _ _ (g.facts i B t)⟩
theorem Met.conv{f:FuncId}{g:List S1}{gf:Fr}{u:List Nat}{j d:List S1->Obs->Prop}(h:Met P f g gf ob u j)(E:∀p ob',j p ob'->∃c,d p c/\∀k o,C5 c k=some o->C5 ob' k=some o):Met P f g gf ob u d :=
 ⟨h.1,fun D S G a w q F ha=>(h.2 D S G a w q F ha).mono fun e w' ⟨v,p,ob',G',y,A,B,C⟩=>by
  obtain⟨c,H,x⟩:=E p ob' A;refine⟨v,p,c,G',y,H,SV.rep_mono (fun b i z t=>⟨t.1,fun s=>t.2 ?_⟩) B,C.weakenO x⟩;rcases s with s | ⟨k,o,hk,ho⟩
  ·exact .inl s
  ·exact .inr ⟨k,o,x k o hk,ho⟩⟩
theorem ResRep.sAll{b:Rd}{G:Gh}{a:List PV}{v:Value}(h:ResRep b a v):b9 b G (a.map PV.s1) v:=by
 match a,h with
 | [p],h=>exact PV.rep_s1 h
 | [],⟨us,h1,h2⟩=>exact⟨us,h1,h2.map PV.s1 fun _ _=>PV.rep_s1⟩
 | _::_::_,⟨us,h1,h2⟩=>exact⟨us,h1,h2.map PV.s1 fun _ _=>PV.rep_s1⟩
theorem RetOk.sAll{fn:Func}{ps:List PV}(h:RetOk P fn fr ob ps):RetS P fn fr ob (ps.map PV.s1):=fun S G a w d=>let ⟨v,b,c⟩:=h S G a w d;⟨v,b,c.sAll⟩
end Go.AL
