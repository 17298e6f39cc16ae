/- The abstract logic, its third part. No project text. -/
import Derived.Test.YtgkjogphmmoakaaGreatDoorAm
import Derived.Laws.StructEq
import Derived.Laws.Cover3
import Derived.MapKept
import Derived.Lib.AppendZeros
set_option linter.all false
attribute [local semireducible] Go.AL.Neu Go.AL.Eff Go.AL.EffV Go.AL.WpL Go.AL.WpC Go.AL.FnOk Go.AL.LexD Go.AL.Sees Go.AL.RetOk Go.AL.FnIo Go.AL.Met Go.AL.RetS
namespace Go.AL
open Go Go.RowKit
set_option linter.unusedVariables false
variable {P:Program}{nt:Nat}{ops:Array Oper}
def EffU(P:Program)(o:Oper)(U:Fr)(ob ob':Obs):Prop :=
 ∀S G a w,Sim P S U ob G a w->Does P o a w (fun _ w'=>∃G',∀fr,Sim P S fr ob G a w->Sim P S fr ob' G' a w')
theorem lS{t:TypeId}{x y:Operand}{k o n:Nat}{D:List TC}{s:S1}{fr:Fr}{ob:Obs}{ty:TypeId}{pos:String}{af:Array Edge}{gd:Option (Nat×Bool)}(V:(P.info? t).map (·.size)=some n)(hx:opv fr x=some (.s (.one (.ref k o))))(W:B4 ob k=some (.box D))(hy:opv fr y=some (.s s))(hc:H3 y=true)
  (X:s.cells.length=n) (J:Nat.ble (o+n) D.length=true):EffU P ⟨none,.store t x y,ty,pos,af,gd⟩ fr ob ((k,.box (setTs D o s.cells))::ob):=by
 intro S G a w h;obtain⟨b,Q,C⟩:=F4 h hx;obtain⟨b',A,tt,K,hh,ha⟩:=h.box W;rw[Q]at K;cases K;have hr:(SV.s s).rep (D9 (Mut S ob G) w) G (a.eval y):=N8 h hy hc;have g:=B93 hr;have q:(a.eval y).cells.size=n:=by rw[<-X,g.length];simp
 have R:o+n<=D.length:=by simpa using J
 have M:∀u∈(a.eval y).cells.toList,u.oneCell'=true:=by
  intro u C;have:∀(D:List TC) (A:List Value),All2 (TC.rep (D9 (Mut S ob G) w) G) D A->∀u∈A,u.oneCell'=true:=by
   intro D;induction D with
   | nil=>intro A h u C;cases A with | nil=>cases C | cons=>exact h.elim
   | cons t D ih =>
    intro A h u C;cases A with
    | nil=>exact h.elim
    | cons v A =>
     rcases C36.1 C with rfl | C
     ·exact TC.rep_one h.1
     ·exact ih A h.2 u C
  exact this _ _ g u C
 obtain⟨w',O,T,I,N,H,B,F⟩:=Y8 (P:=P) (t:=t) (w:=w) (b:=b) (o:=o) (v:=a.eval y) (by rw[V,q]) hh M (by rw[q,<-ha.length];exact R);unfold Does;have he:(execOp a.eval ⟨none,.store t x y,ty,pos,af,gd⟩).run P w=.ok .skip w':=by
  simp[execOp,C,Instr.storeAt,Instr.sureAddr,O]
 rw[he];have E:blk (G k)=some b:=by rw[Q];rfl
 refine⟨G,fun Y Z=>Z.write W E (fun i=>⟨E,trivial⟩) (fun i=>⟨E,trivial⟩) T I N (Nat.le_of_eq H.symm) (fun j _=>B j) ?_⟩;intro rd U;refine⟨b,_,tt,Q,F,?_⟩;have hd:A.drop (o+(a.eval y).cells.size)=A.drop (o+s.cells.length):=by rw[q,X]
 unfold setTs;rw[hd];exact (((ha.take o).append g).append (ha.drop _)).mono fun _ _=>TC.rep_mono U
def Told(U:Fr)(φ:Fa):Prop:=∀t s,D4 U t=some s->φ t=some s
theorem A09{o:Oper}{U:Fr}{ob ob':Obs}{φ:Fa}(h:EffU P o U ob ob')(m:o.guard=none)(l:o.dst=none)(p:Told U φ):sG P nt ops o φ ob (fun q b=>q=φ/\b=ob'):=by
 refine⟨m,fun S G a w r hs=>sJ (h S G a w (hs.sub p)) ?_⟩;rintro v w' ⟨G',e⟩;refine⟨φ,ob',G',⟨rfl,rfl⟩,?_⟩;rw[l];refine⟨e [] hs.1,fun i s n=>?_⟩;have k:Sim P S [(i,s)] ob G a w:=hs.sub fun j t d=>by
  by_cases g:i=j
  ·subst g;rw[C7]at d;cases d;exact n
  ·rw[B9 g]at d;simp[D4]at d
 exact (e _ k).facts i s (by rw[C7])
def AnyC(P:Program)(nt:Nat)(ops:Array Oper)(T:Nat)(U:Fr)(ob ob':Obs)(E:Array Bool->Fa->Prop):Nat->Array Bool->Fa->Prop
 | 0,listed,φ=>(T∈Region.ready .any ops listed->Told U φ)/\T∈Region.ready .any ops listed/\(∀j∈Region.ready .any ops listed,j=T)/\E listed φ
 | fuel+1,listed,φ=>(T∈Region.ready .any ops listed->Told U φ)/\(∃p,p<T/\p∈Region.ready .any ops listed)/\∀i∈Region.ready .any ops listed,i≠T ->
   ∃o s d,ops[i]?=some o/\o.dst=some d/\turns o.op=false/\YieldsN P nt ops o φ ob s/\YieldsN P nt ops o φ ob' s/\AnyC P nt ops T U ob ob' E fuel (listed.setIfInBounds i true) (l5 φ d s)
theorem AnyC.told{T:Nat}{U:Fr}{ob ob':Obs}{E:Array Bool->Fa->Prop}{c:Nat}{b:Array Bool}{φ:Fa}(h:AnyC P nt ops T U ob ob' E c b φ):T∈Region.ready .any ops b->Told U φ:=by
 cases c<;>exact h.1
theorem OD{fr:Fr}{ob:Obs}{dst:Option Tmp}{ty:TypeId}{pos:String}{af:Array Edge}{gd:Option (Nat×Bool)}{c x y:Operand}{b p:Bool}(d:opv fr c=some (Q4 b))(hb:b=true)(e:opv fr x=some (Q4 p)) :
  Neu P ⟨dst,.pick c x y,ty,pos,af,gd⟩ fr ob (fun f=>f=Q4 p) :=
 E1 fun S G a w h=>by
  have:=E9 h d;subst hb;exact⟨.bool p,by simp[execOp,this,asBool,E9 h e],rfl,rfl⟩
theorem eT{fr:Fr}{ob:Obs}{dst:Option Tmp}{ty:TypeId}{pos:String}{af:Array Edge}{gd:Option (Nat×Bool)}{c x y:Operand}{b p:Bool}(d:opv fr c=some (Q4 b))(hb:b=false)(e:opv fr y=some (Q4 p)) :
  Neu P ⟨dst,.pick c x y,ty,pos,af,gd⟩ fr ob (fun f=>f=Q4 p) :=
 E1 fun S G a w h=>by
  have:=E9 h d;subst hb;exact⟨.bool p,by simp[execOp,this,asBool,E9 h e],rfl,rfl⟩
inductive CK | int (k:IntKind) | str | bool
def ckOf(P:Program)(t:TypeId):Option CK :=
 match P.underlying t with
 | some (.int k)=>some (.int k)
 | some .string=>some .str
 | some .bool=>some .bool
 | _=>none
def GQ(P:Program):Nat->List Field->List CK->Bool
 | _,[],[]=>true
 | i,f::fs,k::ks=>f.name != "_"&&(f.offset == i&&((match ckOf P f.type,k with | some (.int k),.int k'=>decide (k=k') | some .str,.str=>true | some .bool,.bool=>true | _,_=>false)&&GQ P (i+1) fs ks))
 | _,_,_=>false
class TyCmp (P:Program) (t:TypeId) (ks:outParam (List CK)):Prop where
 out:P.underlying t=some (.struct (P.fieldsOf t))/\(GQ P 0 (P.fieldsOf t).toList ks&&(!P.stoodInHeld t&&!P.eqGuardType P.depth t))=true
def ckV:CK->Value->Bool
 | .int k,.int k' _=>decide (k=k')
 | .str,.string _=>true
 | .bool,.bool _=>true
 | _,_=>false
def eqV:Value->Value->Bool
 | .int _ a,.int _ b=>a == b
 | .string a,.string b=>a.toList == b.toList
 | .bool a,.bool b=>a == b
 | _,_=>false
def yS:List CK->List Value->Bool
 | [],[]=>true
 | k::ks,v::vs=>ckV k v&&yS ks vs
 | _,_=>false
def KK:List Value->List Value->Bool
 | u::us,v::vs=>eqV u v&&KK us vs
 | _,_=>true
theorem sL{P:Program}(d:Nat)(a b:List Value):∀(l:List Field) (j:List CK) (i:Nat),GQ P i l j=true->i+j.length=a.length->i+j.length=b.length->yS j (a.drop i)=true->yS j (b.drop i)=true ->
  ∀w:World,(Op.eqFields (d+1) a.toArray b.toArray l).run P w=.ok (KK (a.drop i) (b.drop i)) w
 | [],[],i,_,h1,h2,_,_,w=>by
  rw[C51 (by simp at h1;omega)];simp[Op.eqFields,KK]
 | [],_::_,_,h,_,_,_,_,_=>by simp[GQ]at h
 | _::_,[],_,h,_,_,_,_,_=>by simp[GQ]at h
 | f::l,k::j,i,h,h1,h2,h3,h4,w=>by
  simp only[GQ,C30,bne_iff_ne,beq_iff_eq]at h;obtain⟨A,p,c,B⟩:=h;have q:i<a.length:=by simp at h1;omega
  have s:i<b.length:=by simp at h2;omega
  rw[C38 q]at h3 ⊢;rw[C38 s]at h4 ⊢;simp only[yS,C30]at h3 h4;have C:=sL (P:=P) d a b l j (i+1) B (by simp at h1;omega) (by simp at h2;omega) h3.2 h4.2;have g:∀w:World,(part f.type a.toArray f.offset).run P w=.ok a[i] w/\(part f.type b.toArray f.offset).run P w=.ok b[i] w/\(Op.equalIn (d+1) f.type a[i] b[i]).run P w=.ok (eqV a[i] b[i]) w:=by
   intro w;have y:a.toArray[f.offset]?=some a[i]:=by rw[p];simp[q]
   have z:b.toArray[f.offset]?=some b[i]:=by rw[p];simp[s]
   have t:=h3.1;have x:=h4.1;unfold ckOf at c;generalize a[i]=u at *;generalize b[i]=v at *;cases e:P.underlying f.type with
   | none=>rw[e]at c;simp at c
   | some ty =>
    rw[e]at c;cases ty<;>simp only at c<;>try (simp at c;done)
    all_goals (cases k<;>simp only[Bool.false_eq_true,decide_eq_true_eq]at c)
    all_goals (cases u<;>simp only[ckV,Bool.false_eq_true,decide_eq_true_eq]at t)
    all_goals (cases v<;>simp only[ckV,Bool.false_eq_true,decide_eq_true_eq]at x)
    all_goals try subst t
    all_goals try subst x
    all_goals refine⟨by simp[part,isAgg,run_underlying e,y],by simp[part,isAgg,run_underlying e,z],?_⟩
    ·exact run_equalIn_bool' w _ _ _ _ e
    ·exact run_equalIn_int w _ _ _ _ _ _ e
    ·exact run_equalIn_string w _ _ _ _ e
  simp only[Op.eqFields,Sem.run_bind,Sem.run_ite];rw[A5 A,(g w).1];simp only[Result.andThen_ok];rw[(g w).2.1];simp only[Result.andThen_ok];rw[(g w).2.2];simp only[Result.andThen_ok];cases m:eqV a[i] b[i]
  ·simp[KK,m]
  ·simp only[KK,m,Bool.true_and];simpa using C w
theorem AK:∀{a:List CK} {b:List Value},yS a b=true->a.length=b.length
 | [],[],_=>rfl
 | [],_::_,h=>by simp[yS]at h
 | _::_,[],h=>by simp[yS]at h
 | _::a,_::b,h=>by simp only[yS,C30]at h;simp[AK h.2]
variable {dst:Option Tmp}{ty:TypeId}{pos:String}{af:Array Edge}{gd:Option (Nat×Bool)}{fr:Fr}{ob:Obs}
theorem qK{e:Rd}{G:Gh}:∀{a b:List Value},All2 (TC.rep e G) (a.map fun u=>TC.p (.v u)) b->b=a
 | [],[],_=>rfl
 | [],_::_,h=>h.elim
 | _::_,[],h=>h.elim
 | u::a,v::b,h=>by
  obtain⟨⟨c,_⟩,d⟩:=h;rw[qK d,c]
theorem cmp_run{t:TypeId}{b:List CK}{c d:List Value}[ht:TyCmp P t b](h:(yS b c&&yS b d)=true)(w:World):(Op.equalIn 10000 t (.agg c.toArray) (.agg d.toArray)).run P w=.ok (KK c d) w:=by
 obtain⟨f,e⟩:=ht.out;simp only[C30,Bool.not_eq_true']at h e;have i:=AK h.1;have j:=AK h.2;rw[run_equalIn_agg w 9999 t _ _ f e.2.1];have:=sL (P:=P) 9998 c d _ b 0 e.1 (by omega) (by omega) h.1 h.2 w;exact this
theorem B18{t yt:TypeId}{x y:Operand}{d:List CK}(f j:List Value){r:Bool}[ht:TyCmp P t d](D:opv fr x=some (.s (.agg (f.map fun u=>.p (.v u)))))(E:opv fr y=some (.s (.agg (j.map fun u=>.p (.v u)))))
  (c:(H3 x&&H3 y)=true) (B:(yS d f&&yS d j)=true) (C:KK f j=r):Neu P ⟨dst,.binOp .neq t x y yt,ty,pos,af,gd⟩ fr ob (fun F=>F=Q4 (!r)) :=
 E1 fun S G a w h=>by
  simp only[C30]at c;obtain⟨H,z,m⟩:=N8 h D c.1;obtain⟨I,A,a2⟩:=N8 h E c.2;obtain rfl:=qK m;obtain rfl:=qK a2;have k:=ht.out.2;simp only[C30,Bool.not_eq_true']at k;refine⟨.bool (!r),?_,rfl,rfl⟩;simp only[execOp,z,A];refine J8 ?_;simp only[Sem.run_bind];rw[run_eqGuard_agg (hm:=k.2.2)];simp only[Result.andThen_ok];rw[run_neq_struct,cmp_run B,C];rfl
theorem z7{a:Array Bool}{e j:Nat}(h:e≠j):(a.setIfInBounds e true).getD j false=a.getD j false:=by
 simp only[Array.getD_eq_getD_getElem?,Array.getElem?_setIfInBounds_ne h]
def Y3:Op->List Nat
 | .store _ x y=>NR x++NR y
 | .box _ x=>NR x
 | .makeSlice _ x y=>NR x++NR y
 | op=>qH op
def aE(sv:List SV)(i:Nat):SV:=sv.getD i .any
def sM:List Oper->List SV->Fr->Fr
 | o::l,s::sv,fr=>match o.dst with
  | some d=>(d,s)::sM l sv fr
  | none=>sM l sv fr
 | _,_,fr=>fr
abbrev Xe:=List (Nat×Bool×(Nat×Ob))
def sN:Xe->Nat->Option (Bool×(Nat×Ob))
 | [],_=>none
 | (i,x)::r,e=>cond (Nat.beq i e) (some x) (sN r e)
def oZ(a:Xe)(ob:Obs):List Nat->Obs
 | []=>ob
 | e::D=>match sN a e with
  | some x=>x.2::oZ a ob D
  | none=>oZ a ob D
def eU(e:Nat):List Nat->List Nat
 | []=>[e]
 | d::D=>cond (Nat.blt d e) (e::d::D) (d::eU e D)
def O1(l:List Nat)(e:Nat):Bool:=l.any (Nat.beq e)
theorem OE{l:List Nat}{e:Nat}:O1 l e=true↔e∈l:=by
 unfold O1;rw[List.any_eq_true];exact⟨fun ⟨x,h,a⟩=>by rw[Nat.eq_of_beq_eq_true a];exact h,fun h=>⟨e,h,Nat.beq_refl e⟩⟩
def lU(ops:Array Oper)(E:List Nat)(i:Nat)(D:List Nat):Bool:=!(O1 D i)&&((E.all fun j=>!(Bef ops i j)||O1 D j)&&D.all fun j=>!(Bef ops j i))
def cZ:List Nat->List Nat->Bool
 | [],[]=>true
 | a::l,b::m=>Nat.beq a b&&cZ l m
 | _,_=>false
theorem eV:∀{l m:List Nat},cZ l m=true->l=m
 | [],[],_=>rfl
 | [],_::_,h=>by simp[cZ]at h
 | _::_,[],h=>by simp[cZ]at h
 | a::l,b::m,h=>by
  simp only[cZ,C30]at h;rw[Nat.eq_of_beq_eq_true h.1,eV h.2]
def memM(M:List (List Nat))(D:List Nat):Bool:=M.any (cZ D)
theorem sO{M:List (List Nat)}{D:List Nat}(h:memM M D=true):D∈M:=by
 obtain⟨x,a,b⟩:=List.any_eq_true.1 h;rw[eV b];exact a
def TZ(E:List Nat)(i:Nat):List Nat:=E.filter fun e=>Nat.blt e i
def desc:List Nat->Bool
 | []=>true
 | a::l=>l.all (fun b=>Nat.blt b a)&&desc l
def u0:List Oper->List Nat
 | []=>[]
 | o::l=>match o.dst with
  | some d=>d::u0 l
  | none=>u0 l
def lV:List Nat->Bool
 | []=>true
 | a::l=>!(O1 l a)&&lV l
def KL(nt:Nat)(l:List Oper)(E:List Nat)(M:List (List Nat))(b:List (Nat×List Nat)):Bool :=
 let ops:=l.toArray;let n:=l.length
 (l.all fun o=>o.guard.isNone&&match o.dst with | some d=>Nat.blt d nt | none=>true) &&
 ((List.range n).all fun i=>match ops[i]? with
  | some o=>(turns o.op == O1 E i)&&((turns o.op||o.dst.isSome)&&(((Y3 o.op).all fun u=>(List.range n).all fun j=>match ops[j]? with
    | some c=>(match c.dst with | some d=>!(Nat.beq d u)||Bef ops i j | none=>true)
    | none=>true) &&
   ((List.range n).all fun j=>!(Bef ops i j)||Nat.blt j i)&&((o.after.toList.all fun e=>!(Region.binds .any e)||Nat.blt e.on i)&&(M.all fun D=>!(lU ops E i D)||(cZ D (TZ E i)||b.any fun p=>Nat.beq p.1 i&&cZ p.2 D)))))
  | none=>false) &&
 lV (u0 l)&&desc E&&(E.all fun e=>Nat.blt e n)&&memM M []&&(M.all fun D=>E.all fun e=>!(lU ops E e D)||memM M (eU e D))
def UA(P:Program)(nt:Nat)(ops:Array Oper)(o:Oper)(U:Fr)(new:Bool)(ob:Obs)(x:Nat×Ob)(s:SV):Prop :=
 ∀φ,Told U φ->(new=true->AJ x.1 φ)->sG P nt ops o φ ob (fun b a=>b=(match o.dst with | some d=>l5 φ d s | none=>φ)/\a=x::ob)
theorem q_alloc{ops:Array Oper}{U:Fr}{k:Nat}{e:TypeId}{z:Value}[hz:TyZero P e z]{ty:TypeId}{pos:String}{af:Array Edge}{d:Nat}{ob:Obs}(g:K5 k ob=true)(h:Nat.blt d nt=true) :
  UA P nt ops ⟨some d,.alloc e,ty,pos,af,none⟩ U true ob (k,.box (z.cells.toList.map fun c=>.p (.v c))) (.s (.one (.ref k 0))) :=
 fun φ _ i=>TY (i rfl) g h
theorem q_store{ops:Array Oper}{U:Fr}{b:Op}{ty:TypeId}{pos:String}{af:Array Edge}{ob:Obs}{x:Nat×Ob}(h:EffU P ⟨none,b,ty,pos,af,none⟩ U ob (x::ob)):UA P nt ops ⟨none,b,ty,pos,af,none⟩ U false ob x .any :=
 fun φ c _=>A09 h rfl rfl c
def UIn(l:List Oper)(sv:List SV)(fr:Fr)(o:Oper)(U:Fr):Prop :=
 ∀t s,D4 U t=some s->t∈Y3 o.op/\((∃j a,l[j]?=some a/\a.dst=some t/\s=aE sv j)\/(t∉u0 l/\D4 fr t=some s))
def ObG(P:Program)(nt:Nat)(l:List Oper)(sv:List SV)(a:Xe)(fr:Fr)(ob:Obs)(i:Nat)(D:List Nat):Prop :=
 ∃o U,l[i]?=some o/\UIn l sv fr o U/\((turns o.op=false/\Neu P o U (oZ a ob D) (fun s=>s=aE sv i)) \/
  ∃new x,sN a i=some (new,x)/\UA P nt l.toArray o U new (oZ a ob D) x (aE sv i))
def Ob1(P:Program)(nt:Nat)(l:List Oper)(sv:List SV)(a:Xe)(fr:Fr)(ob:Obs)(i:Nat)(D:List Nat):Prop :=
 ∃o,l[i]?=some o/\((turns o.op=false/\Neu P o (U4 (sM l sv fr) (Y3 o.op)) (oZ a ob D) (fun s=>s=aE sv i)) \/
  ∃new x,sN a i=some (new,x)/\UA P nt l.toArray o (U4 (sM l sv fr) (Y3 o.op)) new (oZ a ob D) x (aE sv i))
def Ob1s(P:Program)(nt:Nat)(l:List Oper)(sv:List SV)(a:Xe)(fr:Fr)(ob:Obs):List (Nat×List Nat)->Prop
 | []=>True
 | (i,D)::r=>Ob1 P nt l sv a fr ob i D/\Ob1s P nt l sv a fr ob r
theorem Ob1s.get{l:List Oper}{sv:List SV}{a:Xe}{fr:Fr}{ob:Obs}:∀{r:List (Nat×List Nat)},Ob1s P nt l sv a fr ob r->∀p∈r,Ob1 P nt l sv a fr ob p.1 p.2
 | [],_,p,hp=>by simp at hp
 | (i,D)::r,h,p,hp=>by
  rcases C36.1 hp with rfl | hp
  ·exact h.1
  ·exact Ob1s.get h.2 p hp
def frBut(ops:Array Oper)(e:Nat)(sv:List SV)(fr:Fr):Fr :=
 (((List.range ops.size).filter fun j=>!(Nat.beq j e)&&!(Bef ops j e)).map fun j=>(j,aE sv j))++fr
def uY(ops:Array Oper)(sv:List SV)(fr:Fr):Xe->Bool
 | []=>true
 | (e,new,x)::r=>(!new||G5 x.1 (frBut ops e sv fr))&&uY ops sv fr r
def UB(a:Xe)(M:List (List Nat)):Bool :=
 M.all fun D=>a.all fun p=>D.all fun e=>O1 D p.1||!(Nat.blt p.1 e)||(match sN a e with | some x=>!(Nat.beq x.2.1 p.2.2.1) | none=>true)
theorem KM{a:Xe}{e:Nat}{x:Bool×(Nat×Ob)}(h:sN a e=some x):(e,x)∈a:=by
 induction a with
 | nil=>cases h
 | cons y r b =>
  obtain⟨i,y⟩:=y;unfold sN at h;cases hb:Nat.beq i e
  ·rw[hb]at h;exact List.mem_cons_of_mem _ (b h)
  ·rw[hb]at h;have h:some y=some x:=h;cases h;rw[Nat.eq_of_beq_eq_true hb];exact List.mem_cons_self ..
theorem OF{b:Xe}{ob:Obs}{e:Nat}{new:Bool}{x:Nat×Ob}(g:sN b e=some (new,x)):∀{D:List Nat},(∀d∈D,e<d->∀y,sN b d=some y->y.2.1≠x.1)->∀k o,B4 (oZ b ob (eU e D)) k=some o->B4 (x::oZ b ob D) k=some o
 | [],_,k,o,h=>by
  simp only[eU,oZ,g]at h;exact h
 | d :: D,hk,k,o,h=>by
  unfold eU at h;cases hb:Nat.blt d e
  ·rw[hb]at h;simp only[cond]at h;have q:=OF (ob:=ob) g (D:=D) (fun t n=>hk t (List.mem_cons_of_mem _ n));have u : e <= d:=by
    cases Nat.lt_or_ge d e with
    | inl m => have:Nat.blt d e=true:=by simpa using m
               rw[this]at hb;cases hb
    | inr m=>exact m
   unfold oZ at h ⊢;cases j:sN b d with
   | none=>rw[j]at h;exact q k o h
   | some y =>
    rw[j]at h;simp only at h ⊢;obtain⟨s,f,l⟩:=y;obtain⟨r,v⟩:=x;by_cases a:f=k
    ·rw[show ((s,f,l):Bool×(Nat×Ob)).2=(f,l) from rfl]at h ⊢;rw[a,C4]at h;by_cases p:e=d
     ·subst p;rw[j]at g;cases g;rw[a,C4];exact h
     ·have i:=hk d (List.mem_cons_self ..) (by omega) _ j;have i:f≠r:=i;rw[B0 (by omega),a,C4];exact h
    ·rw[show ((s,f,l):Bool×(Nat×Ob)).2=(f,l) from rfl]at h ⊢;rw[B0 a]at h;have:=q k o h;by_cases c:r=k
     ·rw[c,C4]at this ⊢;exact this
     ·rw[B0 c]at this;rw[B0 c,B0 a];exact this
  ·rw[hb]at h;simp only[cond]at h;have:oZ b ob (e::d::D)=x::oZ b ob (d::D):=by
    show (match sN b e with | some x=>x.2::oZ b ob (d::D) | none=>oZ b ob (d::D))=_;rw[g]
   rw[this]at h;exact h
theorem qL{e:Nat}{c:Array Bool}(p:e<c.size)(u:c.getD e false=false):∀{E:List Nat},desc E=true->e∈E->E.filter (fun j=>(c.setIfInBounds e true).getD j false)=eU e (E.filter fun j=>c.getD j false)
 | [],_,he=>by simp at he
 | d::E,hd,he=>by
  simp only[desc,C30]at hd;have k:∀b∈E,b<d:=fun b hb=>by simpa using List.all_eq_true.1 hd.1 b hb
  have m:(c.setIfInBounds e true).getD e false=true:=by simp[p]
  have h:∀j,j≠e->(c.setIfInBounds e true).getD j false=c.getD j false:=fun j z=>z7 (Ne.symm z);by_cases i:d=e
  ·subst i;rw[List.filter_cons_of_pos (by exact m),List.filter_cons_of_neg (by rw[u];simp)];have:E.filter (fun j=>(c.setIfInBounds d true).getD j false)=E.filter fun j=>c.getD j false:=by
    apply List.filter_congr;intro j z;exact h j (by have:=k j z;omega)
   rw[this];cases B:E.filter fun j=>c.getD j false with
   | nil=>rfl
   | cons a r =>
    have ha:a∈E:=(List.mem_filter.1 (by rw[B];exact List.mem_cons_self ..)).1;have x:Nat.blt a d=true:=by simpa using k a ha
    unfold eU;rw[x];rfl
  ·have n:e∈E:=(C36.1 he).resolve_left (fun q=>i q.symm);have A:=qL p u hd.2 n;have y:Nat.blt d e=false:=by
    have:=k e n;cases hb:Nat.blt d e
    ·rfl
    ·rw[Nat.blt_eq]at hb;omega
   by_cases w:c.getD d false=true
   ·rw[List.filter_cons_of_pos (by rw[h d i];exact w),List.filter_cons_of_pos (by exact w),A];show _=eU e (d::_)
    conv=>rhs;unfold eU
    rw[y];rfl
   ·rw[List.filter_cons_of_neg (by rw[h d i];exact w),List.filter_cons_of_neg (by exact w),A]
theorem iK:∀{l:List Oper} {j:Nat} {o:Oper} {d:Nat},l[j]?=some o->o.dst=some d->d∈u0 l
 | [],j,o,d,h,_=>by simp at h
 | o'::l,0,o,d,h,hd=>by
  simp at h;subst h;unfold u0;rw[hd];exact List.mem_cons_self ..
 | o'::l,j+1,o,d,h,hd=>by
  have:=iK (l:=l) (j:=j) (by simpa using h) hd;unfold u0;split
  ·exact List.mem_cons_of_mem _ this
  ·exact this
theorem qM:∀{l:List Oper} {i j:Nat} {o a:Oper} {d:Nat},lV (u0 l)=true->l[i]?=some o->l[j]?=some a->o.dst=some d->a.dst=some d->i=j
 | [],i,j,o,a,d,_,h,_,_,_=>by simp at h
 | q::l,0,0,_,_,_,_,_,_,_,_=>rfl
 | q::l,0,j+1,o,a,d,hn,h1,h2,h3,h4=>by
  simp at h1;subst h1;have b:=iK (l:=l) (j:=j) (by simpa using h2) h4;unfold u0 at hn;rw[h3]at hn;simp only[lV,C30,Bool.not_eq_true']at hn;rw[OE.2 b]at hn;exact absurd hn.1 (by simp)
 | q::l,i+1,0,o,a,d,hn,h1,h2,h3,h4=>by
  simp at h2;subst h2;have b:=iK (l:=l) (j:=i) (by simpa using h1) h3;unfold u0 at hn;rw[h4]at hn;simp only[lV,C30,Bool.not_eq_true']at hn;rw[OE.2 b]at hn;exact absurd hn.1 (by simp)
 | q::l,i+1,j+1,o,a,d,hn,h1,h2,h3,h4=>by
  have:lV (u0 l)=true:=by
   unfold u0 at hn;split at hn
   ·simp only[lV,C30]at hn;exact hn.2
   ·exact hn
  exact congrArg (·+1) (qM this (by simpa using h1) (by simpa using h2) h3 h4)
theorem GR:∀{l:List Oper} {sv:List SV} {fr:Fr} {t:Nat} {s:SV},sv.length=l.length->D4 (sM l sv fr) t=some s->(∃j o,l[j]?=some o/\o.dst=some t/\s=aE sv j)\/(t∉u0 l/\D4 fr t=some s)
 | [],[],fr,t,s,_,h=>.inr ⟨by simp[u0],h⟩
 | [],_::_,_,_,_,hl,_=>by simp at hl
 | _::_,[],_,_,_,hl,_=>by simp at hl
 | o :: l,k::sv,fr,t,s,hl,h=>by
  have b:D4 (sM l sv fr) t=some s->(∃j g,(o::l)[j]?=some g/\g.dst=some t/\s=aE (k::sv) j)\/(t∉u0 l/\D4 fr t=some s):=fun m=>by
   rcases GR (by simpa using hl) m with ⟨j,g,a,e,p⟩ | a
   ·exact .inl ⟨j+1,g,by simpa using a,e,by rw[p];simp[aE]⟩
   ·exact .inr a
  unfold sM at h;cases f:o.dst with
  | none =>
   rw[f]at h;rcases b h with a | ⟨a,e⟩
   ·exact .inl a
   ·exact .inr ⟨by unfold u0;rw[f];exact a,e⟩
  | some d =>
   rw[f]at h;have h:D4 ((d,k)::sM l sv fr) t=some s:=h;by_cases c:d=t
   ·subst c;rw[C7]at h;cases h;exact .inl ⟨0,o,rfl,f,rfl⟩
   ·rw[B9 c]at h;rcases b h with a | ⟨a,e⟩
    ·exact .inl a
    ·refine .inr ⟨?_,e⟩;unfold u0;rw[f];intro q;rcases C36.1 q with q | q
     ·exact c q.symm
     ·exact a q
theorem SimF.weakO{S:Ctx}{φ:Fa}{ob ob':Obs}{G:Gh}{a:Act}{w:World}(h:SimF P S φ ob G a w)(e:∀k o,B4 ob' k=some o->B4 ob k=some o):SimF P S φ ob' G a w:=by
 refine⟨h.1.weakenO e,fun i s l=>?_⟩;have g:Sim P S [(i,s)] ob G a w:=h.sub fun j t b=>by
  by_cases d:i=j
  ·subst d;rw[C7]at b;cases b;exact l
  ·rw[B9 d]at b;simp[D4]at b
 exact (g.weakenO e).facts i s (C7 _ _ _)
structure InvC (l:List Oper) (sv:List SV) (fr:Fr) (listed:Array Bool) (φ:Fa):Prop where
 put:∀j o d,l[j]?=some o->listed.getD j false=true->o.dst=some d->φ d=some (aE sv j)
 from':∀t s,φ t=some s->(∃j o,l[j]?=some o/\listed.getD j false=true/\o.dst=some t/\s=aE sv j)\/D4 fr t=some s
 old:∀t s,D4 fr t=some s->t∉u0 l->φ t=some s
def unl(a:Array Bool)(n:Nat):Nat:=(List.range n).countP fun i=>!(a.getD i false)
theorem KN{a:Array Bool}{i:Nat}(hs:i<a.size)(k:a.getD i false=false):∀{n:Nat},i<n->unl (a.setIfInBounds i true) n+1=unl a n
 | 0,h=>by omega
 | n+1,h=>by
  unfold unl;rw[C75,List.countP_append,List.countP_append];have f:∀j,j≠i->(a.setIfInBounds i true).getD j false=a.getD j false:=fun j d=>z7 (Ne.symm d);by_cases c:i<n
  ·have m:=KN hs k c;unfold unl at m;have e:List.countP (fun b=>!(a.setIfInBounds i true).getD b false) [n]=List.countP (fun i=>!a.getD i false) [n]:=by
    simp only[List.countP_cons,List.countP_nil,f n (by omega)]
   rw[e];omega
  ·obtain rfl:i=n:=by omega
   have e:List.countP (fun b=>!(a.setIfInBounds i true).getD b false) (List.range i)=List.countP (fun i=>!a.getD i false) (List.range i):=by
    apply List.countP_congr;intro j d;rw[f j (by have:=C40.1 d;omega)]
   rw[e];have l:(a.setIfInBounds i true).getD i false=true:=by simp[hs]
   simp only[List.countP_cons,List.countP_nil,l,k];simp
theorem FE{id:Nat}{l:List Oper}{fr:Fr}{ob:Obs}{Q:Post}(sv:List SV)(W:Xe)(M:List (List Nat))(az:List (Nat×List Nat))(hm:P.follows .mixedOrders=true)(cu:sv.length=l.length)
  (hB:KL nt l (W.map (·.1)) M az=true) (h1:∀i,i<l.length->ObG P nt l sv W fr ob i (TZ (W.map (·.1)) i)) (au:uY l.toArray sv fr W=true) (av:UB W M=true) (h2:Ob1s P nt l sv W fr ob az)
  {fr':Fr} (be:∀t s,D4 fr' t=some s->(∃j o',l[j]?=some o'/\o'.dst=some t/\s=aE sv j)\/(t∉u0 l/\D4 fr t=some s)) (hQ:Q .normal fr' (oZ W ob (W.map (·.1)))):WpC P nt (.region id l.toArray true) fr ob Q:=by
 intro S G a w hn hs;obtain⟨E,hE⟩:∃E,E=W.map (·.1):=⟨_,rfl⟩
 rw[<-hE]at hB h1 hQ;unfold KL at hB;simp only[C30]at hB;obtain⟨⟨⟨⟨⟨⟨b1,b2⟩,b3⟩,b4⟩,b5⟩,b6⟩,b7⟩:=hB
 have aj:∀i o,l[i]?=some o->o.guard=none/\(∀d,o.dst=some d->d<nt)/\(turns o.op=O1 E i)/\(turns o.op=true\/∃d,o.dst=some d)/\(∀u∈Y3 o.op,∀j oj,l[j]?=some oj->oj.dst=some u->Bef l.toArray i j=true) /\
   (∀j,Bef l.toArray i j=true->j<i)/\(∀e∈o.after.toList,Region.binds .any e=true->e.on<i)/\(∀D∈M,lU l.toArray E i D=true->D=TZ E i\/(i,D)∈az):=by
  intro i o C;have ad:i<l.length:=(List.getElem?_eq_some_iff.1 C).1;have N:o∈l:=C53 C;have q1:=List.all_eq_true.1 b1 o N;have q2:=List.all_eq_true.1 b2 i (C40.2 ad);simp only[List.getElem?_toArray,C]at q2;simp only[C30]at q1 q2;obtain⟨q3,q4,q5,q6,q7⟩:=q2;obtain⟨q8,q9⟩:=q5;refine⟨by simpa using q1.1,?_,by simpa using q3,?_,?_,?_,?_,?_⟩
  ·intro d hd;have:=q1.2;rw[hd]at this;simpa using this
  ·rcases (C64 _ _).mp q4 with h | h
   ·exact .inl h
   ·exact .inr (Option.isSome_iff_exists.1 h)
  ·intro u hu j oj F hd;have bg:j<l.length:=(List.getElem?_eq_some_iff.1 F).1;have:=List.all_eq_true.1 (List.all_eq_true.1 q8 u hu) j (C40.2 bg);simp only[F,hd]at this;simpa using this
  ·intro j F;rcases Nat.lt_or_ge j l.length with L | L
   ·have:=List.all_eq_true.1 q9 j (C40.2 L);rw[F]at this;simpa using this
   ·-- an operation is behind none that there isn't
    exfalso;obtain⟨o1,bm,e1,cb,bw,hh⟩:=AB F;rw[List.getElem?_toArray,C]at bm;cases bm;have af:=List.all_eq_true.1 q6 e1 cb;have af:e1.on<i:=by rw[bw]at af;simpa using af
    have chain:∀m,m<l.length->∀j,Bef l.toArray m j=true->j<l.length:=by
     intro m;induction m using Nat.strongRecOn with
     | _ m ih =>
      intro co j' cj;obtain⟨o2,bn,e2,cc,bx,ch⟩:=AB cj;rw[List.getElem?_toArray]at bn;have r2:=List.all_eq_true.1 b2 m (C40.2 co);simp only[List.getElem?_toArray,bn]at r2;simp only[C30]at r2;have r6:=List.all_eq_true.1 r2.2.2.2.1 e2 cc;have r6:e2.on<m:=by rw[bx]at r6;simpa using r6
      rcases ch with e3 | ⟨A,B⟩
      ·omega
      ·exact ih e2.on r6 (by omega) j' B
    have:=chain i ad j F;omega
  ·intro e he bz;have:=List.all_eq_true.1 q6 e he;rw[bz]at this;simpa using this
  ·intro D hD hp;have:=List.all_eq_true.1 q7 D hD;rw[hp]at this;simp only[Bool.not_true,Bool.false_or,C64]at this;rcases this with h | h
   ·exact .inl (eV h)
   ·obtain⟨p,cr,ax⟩:=List.any_eq_true.1 h;simp only[C30]at ax;have e1:=Nat.eq_of_beq_eq_true ax.1;have e2:=eV ax.2;obtain⟨p1,p2⟩:=p;simp only at e1 e2;rw[<-e1,<-e2];exact .inr cr
 have cq:∀i o,l[i]?=some o->∀D∈M,lU l.toArray E i D=true->∃U,UIn l sv fr o U/\((turns o.op=false/\Neu P o U (oZ W ob D) (fun s=>s=aE sv i)) \/
   ∃new x,sN W i=some (new,x)/\UA P nt l.toArray o U new (oZ W ob D) x (aE sv i)):=by
  intro i o C D hD hp;have ad:i<l.length:=(List.getElem?_eq_some_iff.1 C).1;have:ObG P nt l sv W fr ob i D:=by
   rcases (aj i o C).2.2.2.2.2.2.2 D hD hp with rfl | h
   ·exact h1 i ad
   ·obtain⟨o',I,h⟩:=h2.get _ h;refine⟨o',_,I,fun t s ht=>⟨z6 ht,GR cu (l7 ht)⟩,h⟩
  obtain⟨o',U,I,hU,h⟩:=this;rw[C]at I;cases I;exact⟨U,hU,h⟩
 have dc:∀(j t:Nat),(l.toArray[j]?).bind (fun o=>o.dst)=some t->t<nt:=by
  intro j t ht;cases C:l[j]? with
  | none=>simp[C]at ht
  | some o=>simp[C]at ht;exact (aj j o C).2.1 t ht
 refine wp_region_any hm ?_;have cy:Below w.heap.size w { w with drawn:=w.drawn+1 }:=⟨rfl,rfl,rfl,Nat.le_refl _,fun _ _=>rfl⟩
 have cs:SimF P S (D4 fr) ob G a { w with drawn:=w.drawn+1 }:=(simF_iff.2 hs).ext cy
 have db : ∀(J:Nat) (k:Array Bool) (φ:Fa) (G:Gh) (a:Act) (w:World),k.size=l.length->unl k l.length=J->Closed l.toArray k->(E.filter fun j=>k.getD j false)∈M->InvC l sv fr k φ->SimF P S φ (oZ W ob (E.filter fun j=>k.getD j false)) G a w ->
   wpAny P .any l.toArray (PostOf P S Q) J k a w:=by
  intro J;induction J with
  | zero =>
   intro k φ G a w bq hu hc hM hI T;have K:∀j,j<l.length->k.getD j false=true:=by
    intro j F;unfold unl at hu;have:=(List.countP_eq_zero.1 hu) j (C40.2 F);simpa using this
   have ak:Region.ready .any l.toArray k=[]:=by
    cases hr:Region.ready .any l.toArray k with
    | nil=>rfl
    | cons i r =>
     exfalso;have hi:i∈Region.ready .any l.toArray k:=by rw[hr];exact List.mem_cons_self ..
     have A:=R2 hi;obtain⟨_,o,C,_⟩:=mem_ready.1 hi;rw[List.getElem?_toArray]at C;rw[K i (List.getElem?_eq_some_iff.1 C).1]at A;cases A
   refine⟨ak,?_⟩;have bt:(E.filter fun j=>k.getD j false)=E:=by
    rw[List.filter_eq_self];intro e he;exact K e (by simpa using List.all_eq_true.1 b5 e he)
   rw[bt]at T;refine⟨fr',oZ W ob E,G,hQ,.inl (simF_iff.1 ⟨T.1,fun t s ht=>T.2 t s ?_⟩)⟩;rcases be t s ht with ⟨j,o,A,B,rfl⟩ | ⟨A,B⟩
   ·exact hI.put j o t A (K j (List.getElem?_eq_some_iff.1 A).1) B
   ·exact hI.old t s B A
  | succ J ih =>
   intro k φ G a w bq hu hc hM hI T;refine⟨fun h0=>?_,fun i hi=>?_⟩
   ·-- some operation is ready
    exfalso;have cd:∃j,j<l.length/\k.getD j false=false:=by
     refine Classical.byContradiction fun cp=>?_;have:unl k l.length=0:=by
      unfold unl;refine List.countP_eq_zero.2 fun j F=>?_;have F:=C40.1 F;cases hb:k.getD j false
      ·exact absurd ⟨j,F,hb⟩ cp
      ·simp
     omega
    have bi:∀n,(∃j,j<n/\j<l.length/\k.getD j false=false)->∃j,j<l.length/\k.getD j false=false/\∀p,p<j->k.getD p false=true:=by
     intro n;induction n with
     | zero=>rintro⟨j,F,_⟩;omega
     | succ n cz =>
      rintro⟨j,F,L,ai⟩;by_cases ap:∃j',j'<n/\j'<l.length/\k.getD j' false=false
      ·exact cz ap
      ·refine⟨j,L,ai,fun p hp=>?_⟩;cases hb:k.getD p false
       ·exact absurd ⟨p,by omega,by omega,hb⟩ ap
       ·rfl
    obtain⟨j,ck,cl⟩:=cd;obtain⟨j,L,ai,cn⟩:=bi (j+1) ⟨j,by omega,ck,cl⟩;have C:l[j]?=some l[j]:=C29 L;have bh:j∈Region.ready .any l.toArray k:=by
     refine mem_ready.2 ⟨?_,l[j],by rw[List.getElem?_toArray];exact C,fun e he hb=>?_⟩
     ·have ab:j<k.size:=by omega
      simp only[Array.getD_eq_getD_getElem?,Array.getElem?_eq_getElem ab]at ai ⊢;simpa using ai
     ·have:=(aj j _ C).2.2.2.2.2.2.1 e (Array.mem_toList_iff.2 he) hb;exact cn _ this
    rw[h0]at bh;cases bh
   ·have Y:=R2 hi;obtain⟨_,o,C,K⟩:=mem_ready.1 hi;rw[List.getElem?_toArray]at C;have ad:i<l.length:=(List.getElem?_eq_some_iff.1 C).1;obtain⟨g1,g2,g3,g4,g5,g6,g7,g8⟩:=aj i o C;obtain⟨D,hD⟩:∃D,D=E.filter fun j=>k.getD j false:=⟨_,rfl⟩
    rw[<-hD]at hM T;have ah:∀e,e∈D↔e∈E/\k.getD e false=true:=fun e=>by rw[hD,List.mem_filter]
    have ba:∀j,Bef l.toArray i j=true->k.getD j false=true:=fun j F=>l8 hc i F (fun o' I e he hb=>by
     rw[List.getElem?_toArray,C]at I;cases I
     exact K e (Array.mem_toList_iff.1 he) hb)
    have bp:lU l.toArray E i D=true:=by
     unfold lU;simp only[C30,Bool.not_eq_true',List.all_eq_true,C64];refine⟨?_,fun j F=>?_,fun j F=>?_⟩
     ·cases hb:O1 D i
      ·rfl
      ·have:=((ah i).1 (OE.1 hb)).2;rw[Y]at this;cases this
     ·cases hb:Bef l.toArray i j
      ·exact .inl rfl
      ·exact .inr (OE.2 ((ah j).2 ⟨F,ba j hb⟩))
     ·cases hb:Bef l.toArray j i
      ·rfl
      ·have L:=((ah j).1 F).2;have:k.getD i false=true:=l8 hc j hb (fun o' I e he aq=>hc j o' I L e he aq);rw[Y]at this;cases this
    have al:∀U,UIn l sv fr o U->Told U φ:=by
     intro U hU t s ht;obtain⟨cx,A⟩:=hU t s ht;rcases A with ⟨j,oj,A,B,rfl⟩ | ⟨A,B⟩
     ·exact hI.put j oj t A (ba j (g5 t cx j oj A B)) B
     ·exact hI.old t s B A
    have an:=U5 hc hi;have ab:(k.setIfInBounds i true).size=l.length:=by simpa using bq
    have br:unl (k.setIfInBounds i true) l.length=J:=by
     have:=KN (by omega) Y ad;omega
    have ao:∀φ',φ'=(match o.dst with | some d=>l5 φ d (aE sv i) | none=>φ)->InvC l sv fr (k.setIfInBounds i true) φ':=by
     intro φ' hφ;have R:∀j,(k.setIfInBounds i true).getD j false=true↔j=i\/k.getD j false=true:=by
      intro j;by_cases F:j=i
      ·subst F;simp only[true_or,iff_true];simp[show j<k.size by omega]
      ·rw[z7 (Ne.symm F)];simp[F]
     cases X:o.dst with
     | none =>
      rw[X]at hφ;have hφ:φ'=φ:=hφ;subst hφ;refine⟨fun j oj d A B V=>?_,fun t s A=>?_,hI.old⟩
      ·rcases (R j).1 B with rfl | B
       ·rw[C]at A;cases A;rw[X]at V;cases V
       ·exact hI.put j oj d A B V
      ·rcases hI.from' t s A with ⟨j,oj,B,V,h6⟩ | B
       ·exact .inl ⟨j,oj,B,(R j).2 (.inr V),h6⟩
       ·exact .inr B
     | some d0 =>
      rw[X]at hφ;have hφ:φ'=l5 φ d0 (aE sv i):=hφ;subst hφ;refine⟨fun j oj d A B V=>?_,fun t s A=>?_,fun t s A B=>?_⟩
      ·unfold l5;rcases (R j).1 B with rfl | B
       ·rw[C]at A;cases A;rw[X]at V;cases V;rw[A5 rfl]
       ·by_cases ac:d=d0
        ·subst ac;have:=qM b3 A C V X;subst this;rw[A5 rfl]
        ·rw[A6 ac];exact hI.put j oj d A B V
      ·unfold l5 at A;by_cases ac:t=d0
       ·rw[A5 ac]at A;cases A;exact .inl ⟨i,o,C,(R i).2 (.inl rfl),by rw[ac];exact X,rfl⟩
       ·rw[A6 ac]at A;rcases hI.from' t s A with ⟨j,oj,B,V,h6⟩ | B
        ·exact .inl ⟨j,oj,B,(R j).2 (.inr V),h6⟩
        ·exact .inr B
      ·unfold l5;have:t≠d0:=fun q=>B (by rw[q];exact iK C X);rw[A6 this];exact hI.old t s A B
    unfold wpOp;simp only[List.getElem?_toArray,C];rw[A5 (by simp[Region.wanted,g1])];obtain⟨U,hU,bo⟩:=cq i o C D hM bp;have ag:=al U hU;rcases bo with ⟨ht,bk⟩ | ⟨new,x,hx,hq⟩
    ·refine .inl (L4 (bk S G a w (T.sub fun t s ht=>ag t s ht)) ?_);rintro v w' ⟨bs,s,rfl,hv⟩;have bj:O1 E i=false:=by rw[<-g3];exact ht
     have ae:(E.filter fun j=>(k.setIfInBounds i true).getD j false)=D:=by
      rw[hD];apply List.filter_congr;intro j F;have:j≠i:=fun q=>by rw[<-q,OE.2 F]at bj;cases bj
      exact z7 (Ne.symm this)
     obtain⟨d0,ar⟩:=g4.resolve_left (by rw[ht];simp);rw[ar];refine ih (k.setIfInBounds i true) (l5 φ d0 (aE sv i)) G _ w' ab br an (by rw[ae];exact hM) (ao _ (by rw[ar])) ?_;rw[ae];exact (T.ext bs).put (by rw[hn];exact g2 d0 ar) hv
    ·have bf:i∈E:=by rw[hE];exact C54.2 ⟨_,KM hx,rfl⟩
     have ae:(E.filter fun j=>(k.setIfInBounds i true).getD j false)=eU i D:=by
      rw[hD];exact qL (by omega) Y b4 bf
     have bu:eU i D∈M:=by
      have:=List.all_eq_true.1 (List.all_eq_true.1 b7 D hM) i bf;rw[bp]at this;exact sO (by simpa using this)
     have cg:new=true->AJ x.1 φ:=by
      intro bl;have hf:∀(xs:Xe),uY l.toArray sv fr xs=true->(i,new,x)∈xs->G5 x.1 (frBut l.toArray i sv fr)=true:=by
       intro xs;induction xs with
       | nil=>intro _ h;simp at h
       | cons y r da =>
        obtain⟨e',n',x'⟩:=y;intro Z N;simp only[uY,C30,C64]at Z;rcases C36.1 N with q | q
        ·cases q;rcases Z.1 with q | q
         ·rw[bl]at q;simp at q
         ·exact q
        ·exact da Z.2 q
      have bd:=hf W au (KM hx);unfold frBut at bd;have bv:∀(a b:Fr),G5 x.1 (a++b)=true->G5 x.1 a=true/\G5 x.1 b=true:=by
       intro a b;induction a with
       | nil=>intro h;exact⟨rfl,h⟩
       | cons y r am =>
        obtain⟨j,s⟩:=y;intro h;simp only[C57,G5,C30]at h ⊢;exact⟨⟨h.1,(am h.2).1⟩,(am h.2).2⟩
      obtain⟨ce,cf⟩:=bv _ _ bd;intro t s cv;rcases hI.from' t s cv with ⟨j,oj,B,V,h6,rfl⟩ | B
      ·have aw:∀(a:List Nat),G5 x.1 (a.map fun j=>(j,aE sv j))=true->j∈a->(aE sv j).free x.1=true:=by
        intro a;induction a with
        | nil=>intro _ h;simp at h
        | cons y r am =>
         intro Z N;simp only[C39,G5,C30]at Z;rcases C36.1 N with rfl | q
         ·exact Z.1
         ·exact am Z.2 q
       refine aw _ ce (List.mem_filter.2 ⟨C40.2 ?_,?_⟩)
       ·simpa using (List.getElem?_eq_some_iff.1 B).1
       ·have cm:j≠i:=fun q=>by rw[q,Y]at V;cases V
        have ca:Bef l.toArray j i=false:=by
         cases hb:Bef l.toArray j i
         ·rfl
         ·have:k.getD i false=true:=l8 hc j hb (fun o' I e he aq=>hc j o' I V e he aq);rw[Y]at this;cases this
        rw[I9 cm,ca];rfl
      ·exact OC cf t s B
     obtain⟨_,ay⟩:=hq φ ag cg;refine .inl (L4 (ay S G a w hn T) ?_);rintro v w' ⟨φ',dd,G',⟨hφ,rfl⟩,ct⟩;refine ih (k.setIfInBounds i true) φ' G' _ w' ab br an (by rw[ae];exact bu) (ao φ' hφ) ?_;rw[ae];refine ct.weakO (OF hx ?_);intro d hd ci y hy;have hk:=List.all_eq_true.1 (List.all_eq_true.1 (List.all_eq_true.1 av D hM) _ (KM hx)) d hd;simp only[C64,Bool.not_eq_true']at hk;rcases hk with (hk | hk) | hk
     ·have:=((ah i).1 (OE.1 hk)).2;rw[Y]at this;cases this
     ·have:Nat.blt i d=true:=by simpa using ci
      rw[this]at hk;cases hk
     ·rw[hy]at hk;intro q;simp only[Bool.not_eq_true']at hk;rw[q,Nat.beq_refl]at hk;cases hk
 have H:∀j,(Array.replicate l.length false).getD j false=false:=by
  intro j;simp only[Array.getD_eq_getD_getElem?];rcases Nat.lt_or_ge j l.length with h' | h'
  ·simp[h']
  ·simp[h']
 have bc:(E.filter fun j=>(Array.replicate l.length false).getD j false)=[]:=by
  rw[List.filter_eq_nil_iff];intro e _;rw[H];simp
 have cw:unl (Array.replicate l.length false) l.length=l.length:=by
  unfold unl;have:(List.range l.length).countP (fun i=>!(Array.replicate l.length false).getD i false)=(List.range l.length).length:=by
   rw[List.countP_eq_length];intro i _;rw[H];rfl
  rw[this,C72]
 have:=db l.length (Array.replicate l.length false) (D4 fr) G a _ (by simp) cw (fun j o C hl=>by rw[H]at hl;cases hl) (by rw[bc];exact sO b6) ⟨fun j o d _ B _=>(by rw[H]at B;cases B),fun t s A=>.inr A,fun t s A _=>A⟩ (by rw[bc];exact cs);simpa using this
def AM(P:Program)(nt:Nat)(ops:Array Oper)(K:Fr->Obs->List SV->Xe->Prop):Nat->List Oper->Fr->Obs->List SV->Xe->Prop
 | _,[],fr,ob,sv,xe=>K fr ob sv.reverse xe
 | i,o::l,fr,ob,sv,xe =>
  (turns o.op=false/\∃s d,o.dst=some d/\Neu P o (U4 fr (Y3 o.op)) ob (fun a=>a=s)/\AM P nt ops K (i+1) l ((d,s)::fr) ob (s::sv) xe) \/
  (∃new x s,UA P nt ops o (U4 fr (Y3 o.op)) new ob x s/\AM P nt ops K (i+1) l (match o.dst with | some d=>(d,s)::fr | none=>fr) (x::ob) (s::sv) ((i,new,x)::xe))
def dA:List Oper->List SV->Fr->Fr
 | o::l,s::sv,fr=>dA l sv (match o.dst with | some d=>(d,s)::fr | none=>fr)
 | _,_,fr=>fr
theorem uZ:∀{l:List Oper} {sv:List SV} {fr:Fr} {t:Nat} {s:SV},sv.length=l.length->D4 (dA l sv fr) t=some s->(∃j o,l[j]?=some o/\o.dst=some t/\s=aE sv j)\/(t∉u0 l/\D4 fr t=some s)
 | [],[],fr,t,s,_,h=>.inr ⟨by simp[u0],h⟩
 | [],_::_,_,_,_,hl,_=>by simp at hl
 | _::_,[],_,_,_,hl,_=>by simp at hl
 | o :: l,s0::sv,fr,t,s,hl,h=>by
  unfold dA at h;rcases uZ (by simpa using hl) h with ⟨j,g,e,a,f⟩ | ⟨e,a⟩
  ·exact .inl ⟨j+1,g,by simpa using e,a,by rw[f];simp[aE]⟩
  ·cases c:o.dst with
   | none =>
    rw[c]at a;exact .inr ⟨by unfold u0;rw[c];exact e,a⟩
   | some d =>
    rw[c]at a;have a:D4 ((d,s0)::fr) t=some s:=a;by_cases b:d=t
    ·subst b;rw[C7]at a;cases a;exact .inl ⟨0,o,rfl,c,rfl⟩
    ·rw[B9 b]at a;refine .inr ⟨?_,a⟩;unfold u0;rw[c];intro q;rcases C36.1 q with q | q
     ·exact b q.symm
     ·exact e q
def At1(P:Program)(nt:Nat)(ops:Array Oper)(o:Oper)(i:Nat)(fr:Fr)(ob:Obs)(s:SV)(b:Xe):Prop :=
 (turns o.op=false/\Neu P o (U4 fr (Y3 o.op)) ob (fun a=>a=s))\/∃new x,sN b i=some (new,x)/\UA P nt ops o (U4 fr (Y3 o.op)) new ob x s
def OG(ob:Obs):Xe->Obs
 | []=>ob
 | (_,_,x)::r=>x::OG ob r
theorem YH{a b:Xe}{e:Nat}(h:∀p∈a,p.1≠e):sN (a++b) e=sN b e:=by
 induction a with
 | nil=>rfl
 | cons y r f =>
  obtain⟨i,y⟩:=y;have c:i≠e:=h (i,y) (List.mem_cons_self ..);show cond (Nat.beq i e) (some y) (sN (r++b) e)=_;rw[I9 c];exact f fun p d=>h p (List.mem_cons_of_mem _ d)
theorem AN{ops:Array Oper}{K:Fr->Obs->List SV->Xe->Prop}{ob0:Obs}:∀{l:List Oper} {i:Nat} {fr:Fr} {ob:Obs} {sv:List SV} {u:Xe},AM P nt ops K i l fr ob sv u->ob=OG ob0 u->(∀p∈u,p.1<i) ->
  ∃c g,c.length=l.length/\(∀p∈g,i<=p.1/\p.1<i+l.length)/\desc (g.map (·.1))=true/\K (dA l c fr) (OG ob0 (g++u)) (sv.reverse++c) (g++u) /\
   ∀j o,l[j]?=some o->∃B w,g=B++w/\(∀p∈w,p.1<i+j)/\(∀p∈B,i+j<=p.1)/\At1 P nt ops o (i+j) (dA (l.take j) (c.take j) fr) (OG ob0 (w++u)) (aE c j) g
 | [],i,fr,ob,sv,u,h,hob,_=>by
  refine⟨[],[],rfl,by simp,rfl,?_,fun j o Y=>by simp at Y⟩;rw[C60,C58,<-hob];exact h
 | o :: l,i,fr,ob,sv,u,h,hob,E=>by
  rcases h with ⟨Z,s,d,W,X,R⟩ | ⟨new,x,s,hq,R⟩
  ·obtain⟨c,g,J,v,L,M,N⟩:=AN (ob0:=ob0) R hob (fun p f=>by have:=E p f;omega);have D:dA (o::l) (s::c) fr=dA l c ((d,s)::fr):=by
    show dA l c (match o.dst with | some d=>(d,s)::fr | none=>fr)=_;rw[W]
   refine⟨s::c,g,by simp[J],fun p f=>by have:=v p f;simp only[C34];omega,L,?_,?_⟩
   ·rw[D];simpa using M
   ·intro j U m;cases j with
    | zero =>
     simp at m;subst m;refine⟨g,[],by simp,by simp,fun p f=>by have:=v p f;omega,?_⟩;rw[C58,<-hob];exact .inl ⟨Z,X⟩
    | succ j =>
     obtain⟨B,w,F,G,H,C⟩:=N j U (by simpa using m);refine⟨B,w,F,fun p f=>by have:=G p f;omega,fun p f=>by have:=H p f;omega,?_⟩;have I:dA ((o::l).take (j+1)) ((s::c).take (j+1)) fr=dA (l.take j) (c.take j) ((d,s)::fr):=by
      show dA (l.take j) (c.take j) (match o.dst with | some d=>(d,s)::fr | none=>fr)=_;rw[W]
     rw[I,show i+(j+1)=i+1+j by omega,show aE (s::c) (j+1)=aE c j by simp[aE]];exact C
  ·obtain⟨c,g,J,v,L,M,N⟩:=AN (ob0:=ob0) R (by rw[hob];rfl) (fun p f=>by
    rcases C36.1 f with rfl | f
    ·exact Nat.lt_succ_self _
    ·have:=E p f;omega)
   refine⟨s::c,g++[(i,new,x)],by simp[J],?_,?_,?_,?_⟩
   ·intro p f;rcases C37.1 f with f | f
    ·have:=v p f;simp only[C34];omega
    ·simp at f;subst f;simp only[C34];omega
   ·have Q:∀(a:List Nat) (b:Nat),desc a=true->(∀x∈a,b<x)->desc (a++[b])=true:=by
     intro a b;induction a with
     | nil=>intro _ _;rfl
     | cons y r T =>
      intro O V;simp only[desc,C30]at O;simp only[C57,desc,C30];refine⟨List.all_eq_true.2 fun z A=>?_,T O.2 fun x E=>V x (List.mem_cons_of_mem _ E)⟩;rcases C37.1 A with A | A
      ·exact List.all_eq_true.1 O.1 z A
      ·simp at A;subst A;simpa using V y (List.mem_cons_self ..)
    rw[C50];refine Q _ i L fun y hy=>?_;obtain⟨p,f,rfl⟩:=C54.1 hy;have:=v p f;omega
   ·have e:dA (o::l) (s::c) fr=dA l c (match o.dst with | some d=>(d,s)::fr | none=>fr):=rfl;rw[e];simpa using M
   ·intro j U m;cases j with
    | zero =>
     simp at m;subst m;refine⟨g++[(i,new,x)],[],by simp,by simp,?_,?_⟩
     ·intro p f;rcases C37.1 f with f | f
      ·have:=v p f;omega
      ·simp at f;subst f;simp
     ·rw[C58,<-hob];refine .inr ⟨new,x,?_,hq⟩;rw[YH (fun p f=>by have:=v p f;omega)];show cond (Nat.beq i (i+0)) _ _=_;rw[Nat.add_zero,Nat.beq_refl];rfl
    | succ j =>
     obtain⟨B,w,F,G,H,C⟩:=N j U (by simpa using m);refine⟨B,w++[(i,new,x)],by rw[F];simp,?_,fun p f=>by have:=H p f;omega,?_⟩
     ·intro p f;rcases C37.1 f with f | f
      ·have:=G p f;omega
      ·simp at f;subst f;simp
     ·have I:dA ((o::l).take (j+1)) ((s::c).take (j+1)) fr=dA (l.take j) (c.take j) (match o.dst with | some d=>(d,s)::fr | none=>fr):=rfl;rw[I,show i+(j+1)=i+1+j by omega,show aE (s::c) (j+1)=aE c j by simp[aE],C42];rcases C with C | ⟨n',x',e6,e7⟩
      ·exact .inl C
      ·refine .inr ⟨n',x',?_,e7⟩;have S:∀(a b:Xe) (e:Nat) y,sN a e=some y->sN (a++b) e=some y:=by
        intro a b e y;induction a with
        | nil=>intro h;cases h
        | cons z r T =>
         obtain⟨q,z⟩:=z;intro h;show cond (Nat.beq q e) (some z) (sN (r++b) e)=_;unfold sN at h;cases hb:Nat.beq q e
         ·rw[hb]at h;exact T h
         ·rw[hb]at h;exact h
       exact S _ _ _ _ e6
def Rest1(P:Program)(nt:Nat)(l:List Oper)(M:List (List Nat))(d:List (Nat×List Nat))(E:List Nat)(b:Fr)(ob0:Obs)(Q:Post)(fr:Fr)(ob:Obs)(sv:List SV)(c:Xe):Prop :=
 (cZ (c.map (·.1)) E&&(uY l.toArray sv b c&&UB c M))=true/\Ob1s P nt l sv c b ob0 d/\Q .normal fr ob
theorem OH{ob:Obs}:∀{a:Xe},desc (a.map fun p=>p.1)=true->oZ a ob (a.map fun p=>p.1)=OG ob a:=by
 have g:∀(b:Xe) (a:Xe),(∀p∈a,sN b p.1=some p.2)->oZ b ob (a.map (·.1))=OG ob a:=by
  intro b a;induction a with
  | nil=>intro _;rfl
  | cons y r f =>
   intro h;obtain⟨i,n,x⟩:=y;have e:=h (i,n,x) (List.mem_cons_self ..);have e:sN b i=some (n,x):=e;show (match sN b i with | some x=>x.2::oZ b ob (r.map (fun p:Nat×Bool×(Nat×Ob)=>p.1)) | none=>oZ b ob (r.map (fun p:Nat×Bool×(Nat×Ob)=>p.1)))=_;rw[e,f fun p c=>h p (List.mem_cons_of_mem _ c)];rfl
 intro a h;refine g a a ?_;have d:∀(a:Xe),desc (a.map (·.1))=true->∀p∈a,sN a p.1=some p.2:=by
  intro a;induction a with
  | nil=>intro _ p c;simp at c
  | cons y r f =>
   intro h p c;obtain⟨i,y⟩:=y;simp only[C39,desc,C30]at h;rcases C36.1 c with rfl | c
   ·show cond (Nat.beq i i) (some y) _=_;rw[Nat.beq_refl];rfl
   ·have j:p.1<i:=by simpa using List.all_eq_true.1 h.1 p.1 (C54.2 ⟨p,c,rfl⟩)
    show cond (Nat.beq i p.1) (some y) (sN r p.1)=_;rw[I9 (by omega)];exact f h.2 p c
 exact d a h
theorem obD_low{ob:Obs}{d c:Xe}{j:Nat}(n:desc ((d++c).map (·.1))=true)(ha:∀p∈d,j<=p.1)(hb:∀p∈c,p.1<j):oZ (d++c) ob (TZ ((d++c).map (·.1)) j)=OG ob c:=by
 have e:TZ ((d++c).map (·.1)) j=c.map (·.1):=by
  unfold TZ;rw[C50,C83,List.filter_eq_nil_iff.2,C58,List.filter_eq_self.2]
  ·intro y k;obtain⟨p,f,rfl⟩:=C54.1 k;simpa using hb p f
  ·intro y k;obtain⟨p,f,rfl⟩:=C54.1 k;have:=ha p f;simp;omega
 rw[e];have g:desc (c.map (·.1))=true:=by
  have:∀(a b:List Nat),desc (a++b)=true->desc b=true:=by
   intro a b;induction a with
   | nil=>exact fun h=>h
   | cons y r l=>intro h;simp only[C57,desc,C30]at h;exact l h.2
  rw[C50]at n;exact this _ _ n
 rw[<-OH (ob:=ob) g];have t:∀(D:List Nat),(∀e∈D,e<j)->oZ (d++c) ob D=oZ c ob D:=by
  intro D;induction D with
  | nil=>intro _;rfl
  | cons e D l =>
   intro h;have q:sN (d++c) e=sN c e:=YH fun p f=>by
    have:=ha p f;have:=h e (List.mem_cons_self ..);omega
   show (match sN (d++c) e with | some x=>x.2::oZ (d++c) ob D | none=>oZ (d++c) ob D)=(match sN c e with | some x=>x.2::oZ c ob D | none=>oZ c ob D)
   rw[q,l fun o i=>h o (List.mem_cons_of_mem _ i)]
 refine t _ fun e s=>?_;obtain⟨p,f,rfl⟩:=C54.1 s;exact hb p f
theorem jI{id:Nat}{l:List Oper}{fr:Fr}{ob:Obs}{Q:Post}(E:List Nat)(M:List (List Nat))(k:List (Nat×List Nat))(hm:P.follows .mixedOrders=true)
  (W:KL nt l E M k=true) (h:AM P nt l.toArray (Rest1 P nt l M k E fr ob Q) 0 l fr ob [] []):WpC P nt (.region id l.toArray true) fr ob Q:=by
 obtain⟨sv,R,q,z,G,U,h5⟩:=AN (ob0:=ob) h rfl (fun p hp=>by simp at hp);rw[C60,List.reverse_nil,C58]at U;obtain⟨A,w,hQ⟩:=U;simp only[C30]at A;have hE:=eV A.1;have f:=W;unfold KL at f;simp only[C30]at f;obtain⟨⟨⟨⟨⟨⟨b1,b2⟩,b3⟩,b4⟩,b5⟩,b6⟩,b7⟩:=f;refine FE sv R M k hm q (by rw[hE];exact W) ?_ A.2.1 A.2.2 w (fr':=dA l sv fr) (fun t s B=>uZ q B) (by rw[OH G];exact hQ);intro i X;have K:l[i]?=some l[i]:=C29 X;obtain⟨xa,xb,e1,S,T,C⟩:=h5 i _ K;rw[Nat.zero_add]at S T C;rw[C60]at C;have L:oZ R ob (TZ (R.map (·.1)) i)=OG ob xb:=by
  rw[e1]at G ⊢;exact obD_low G T S
 have hU:UIn l sv fr l[i] (U4 (dA (l.take i) (sv.take i) fr) (Y3 l[i].op)):=by
  intro t s B;have y:=z6 B;refine⟨y,?_⟩;have N:=List.all_eq_true.1 b2 i (C40.2 X);simp only[List.getElem?_toArray,K]at N;simp only[C30]at N;obtain⟨q3,q4,q5,q6,q7⟩:=N;rcases uZ (by rw[C41,C41];omega) (l7 B) with ⟨j,c,h6,h7,u⟩ | ⟨h6,h7⟩
  ·have Y:j<i:=by
    have:=(List.getElem?_eq_some_iff.1 h6).1;rw[C41]at this;omega
   rw[C59 Y]at h6;refine .inl ⟨j,c,h6,h7,?_⟩;rw[u];unfold aE;rw[C33,C33,C59 Y]
  ·refine .inr ⟨?_,h7⟩;intro J;have I:∀(m:List Oper) (t:Nat),t∈u0 m->∃(j:Nat) (c:Oper),m[j]?=some c/\c.dst=some t:=by
    intro m t;induction m with
    | nil=>intro h;simp[u0]at h
    | cons o m Z =>
     intro h;unfold u0 at h;cases H:o.dst with
     | none=>rw[H]at h;obtain⟨j,c,q,z⟩:=Z h;exact⟨j+1,c,by simpa using q,z⟩
     | some d =>
      rw[H]at h;rcases C36.1 h with rfl | h
      ·exact⟨0,o,rfl,H⟩
      ·obtain⟨j,c,q,z⟩:=Z h;exact⟨j+1,c,by simpa using q,z⟩
   obtain⟨j,c,u,V⟩:=I l t J;have v:j<l.length:=(List.getElem?_eq_some_iff.1 u).1;have a:=List.all_eq_true.1 (List.all_eq_true.1 q5.1 t y) j (C40.2 v);simp only[u,V]at a;have a:Bef l.toArray i j=true:=by simpa using a
   have b:=List.all_eq_true.1 q5.2 j (C40.2 v);rw[a]at b;have b:j<i:=by simpa using b
   exact h6 (iK (l:=l.take i) (j:=j) (by rw[C59 b];exact u) V)
 refine⟨l[i],_,K,hU,?_⟩;rw[L];rcases C with ⟨D,F⟩ | ⟨n,x,D,F⟩
 ·exact .inl ⟨D,F⟩
 ·exact .inr ⟨n,x,D,F⟩
theorem S2{ops:Array Oper}{K:Fr->Obs->List SV->Xe->Prop}{i d:Nat}{l:List Oper}{fr:Fr}{ob:Obs}{sv:List SV}{b:Xe}{a:Op}{ty:TypeId}{pos:String}{af:Array Edge}{gd:Option (Nat×Bool)}{s:SV}(c:turns a=false)
  (h:Neu P ⟨some d,a,ty,pos,af,gd⟩ (U4 fr (Y3 a)) ob (fun e=>e=s)) (k:AM P nt ops K (i+1) l ((d,s)::fr) ob (s::sv) b):AM P nt ops K i (⟨some d,a,ty,pos,af,gd⟩::l) fr ob sv b :=
 .inl ⟨c,s,d,rfl,h,k⟩
theorem KO{ops:Array Oper}{K:Fr->Obs->List SV->Xe->Prop}{i d:Nat}{l:List Oper}{fr:Fr}{ob:Obs}{sv:List SV}{g:Xe}{ty:TypeId}{pos:String}{af:Array Edge}(k:Nat){e:TypeId}{z:Value}[hz:TyZero P e z](h:K5 k ob=true)(j:Nat.blt d nt=true)
  (m:AM P nt ops K (i+1) l ((d,.s (.one (.ref k 0)))::fr) ((k,.box (z.cells.toList.map fun c=>.p (.v c)))::ob) ((.s (.one (.ref k 0)))::sv) ((i,true,(k,.box (z.cells.toList.map fun c=>.p (.v c))))::g)) :
  AM P nt ops K i (⟨some d,.alloc e,ty,pos,af,none⟩::l) fr ob sv g :=
 .inr ⟨true,_,_,q_alloc h j,m⟩
theorem KP{ops:Array Oper}{K:Fr->Obs->List SV->Xe->Prop}{i:Nat}{l:List Oper}{fr:Fr}{ob:Obs}{sv:List SV}{c:Xe}{b:Op}{ty:TypeId}{pos:String}{af:Array Edge}{x:Nat×Ob}(h:EffU P ⟨none,b,ty,pos,af,none⟩ (U4 fr (Y3 b)) ob (x::ob))
  (d:AM P nt ops K (i+1) l fr (x::ob) (.any::sv) ((i,false,x)::c)):AM P nt ops K i (⟨none,b,ty,pos,af,none⟩::l) fr ob sv c :=
 .inr ⟨false,x,.any,q_store h,d⟩
theorem a_nil{ops:Array Oper}{l:List Oper}{M:List (List Nat)}{d:List (Nat×List Nat)}{E:List Nat}{b:Fr}{c:Obs}{Q:Post}{i:Nat}{fr:Fr}{ob:Obs}{sv:List SV}{e:Xe}
  (h:(cZ (e.map (·.1)) E&&(uY l.toArray sv.reverse b e&&UB e M))=true) (f:Ob1s P nt l sv.reverse e b c d) (g:Q .normal fr ob):AM P nt ops (Rest1 P nt l M d E b c Q) i [] fr ob sv e:=⟨h,f,g⟩
theorem o_nil{l:List Oper}{sv:List SV}{a:Xe}{fr:Fr}{ob:Obs}:Ob1s P nt l sv a fr ob []:=trivial
theorem S3{l:List Oper}{sv:List SV}{a:Xe}{fr:Fr}{ob:Obs}{i:Nat}{D:List Nat}{r:List (Nat×List Nat)}{o:Oper}(b:l[i]?=some o)(c:turns o.op=false)(h:Neu P o (U4 (sM l sv fr) (Y3 o.op)) (oZ a ob D) (fun d=>d=aE sv i))
  (k:Ob1s P nt l sv a fr ob r):Ob1s P nt l sv a fr ob ((i,D)::r):=⟨⟨o,b,.inl ⟨c,h⟩⟩,k⟩
section
variable {P:Program}{dst:Option Tmp}{ty:TypeId}{pos:String}{af:Array Edge}{gd:Option (Nat×Bool)}{fr:Fr}{ob:Obs}
def qN(fr:Fr):List Operand->Option (List (Nat×Nat))
 | []=>some []
 | x::r=>match opv fr x with
  | some (.s (.one (.ref k o)))=>(qN fr r).map ((k,o)::·)
  | _=>none
theorem qO{S:Ctx}{G:Gh}{a:Act}{w:World}(h:Sim P S fr ob G a w):∀(c:List Operand) (ps:List (Nat×Nat)),qN fr c=some ps->All2 (wR G) ps (c.map a.eval)
 | [],ps,h1=>by simp[qN]at h1;subst h1;trivial
 | x::r,ps,h1=>by
  unfold qN at h1;split at h1
  ·rename_i k o d;cases b:qN fr r with
   | none=>rw[b]at h1;simp at h1
   | some e =>
    rw[b]at h1;simp at h1;subst h1;exact⟨F4 h d,qO h r e b⟩
  ·cases h1
theorem UC{f:FuncId}{first b:List Operand}{g d:List (Nat×Nat)}(i:qN fr first=some g)(j:qN fr b=some d) :
  Neu P ⟨dst,.makeFunc (.func f) first.toArray b.toArray,ty,pos,af,gd⟩ fr ob (fun p=>p=.s (.one (.clo f g d))) :=
 E1 fun S G a w h=>by
  refine⟨.func (.func f) (first.map a.eval).toArray (b.map a.eval).toArray,?_,_,_,rfl,qO h first g i,qO h b d j⟩;simp[execOp,Instr.makeFunc]
abbrev refS(p:Nat×Nat):S1:=.one (.ref p.1 p.2)
theorem AO{b:Rd}{G:Gh}:∀{l:List (Nat×Nat)} {a:List Value},All2 (wR G) l a->All2 (S1.rep b G) (l.map refS) a
 | [],[],_=>trivial
 | [],_::_,h=>h.elim
 | _::_,[],h=>h.elim
 | _::l,_::a,h=>⟨h.1,AO h.2⟩
section
variable {nt:Nat}{ops:Array Oper}{rest:List Oper}{Q:Post}{d:Nat}
theorem eW{f:FuncId}{g:Operand}{q:List Operand}{J:Array TypeId}{ty:TypeId}{pos:String}{af:Array Edge}{Z Y:List (Nat×Nat)}{args:List S1}{N:List Nat}{m:List S1->Obs->Prop}
  (hf:Met P f (Z.map refS++args++Y.map refS) (oN fr) ob N m) (hg:opv fr g=some (.s (.one (.clo f Z Y)))) (ha:fQ fr q=some args) (hc:q.all H3=true) (hd:Nat.blt d nt=true)
  (kk:∀rs ob',m rs ob'->WpL P nt ops rest ((d,AH rs)::C8 N fr) ob' Q):WpL P nt ops (⟨some d,.call ⟨.value g,q.toArray,J⟩,ty,pos,af,none⟩::rest) fr ob Q:=by
 intro S G a w hn h;obtain⟨O,R,U,W,X⟩:=F4 h hg;have H:All2 (S1.rep (D9 (Mut S ob G) w) G) (Z.map refS++args++Y.map refS) (O++q.map a.eval++R):=((AO W).append (bY h q args ha hc)).append (AO X);obtain⟨I,C⟩:∃I:Nat->Value,I=fun i=>S.sl a (i-1000000):=⟨_,rfl⟩
 let S':Ctx:={ S with gv:=I }
 have E:High (oN fr):=fun i s L=>(aO fr i s L).1;have b:∀i s,D4 (oN fr) i=some s->s.rep (D9 (Mut S' ob G) w) G (S'.sl a i):=by
  intro i s L;obtain⟨D,T⟩:=aO fr i s L;rw[Ctx.sl_ge D];show s.rep _ _ (I i);have e:=congrFun C i;rw[e];exact h.facts (i-1000000) s T
 have hs:Sim P S' (oN fr) ob G a w:={ h with facts:=b }
 have x:=hf.2 E S' G a w _ hs H;refine wpList_plain rfl fun K hK=>L4 (K:=fun v w'=>∃rs ob' G',m rs ob'/\aP (D9 (Mut S' ob' G') w') G' rs v/\Sim P S' (C8 N (oN fr)) ob' G' a w') ?_ ?_
 ·have he:(execOp a.eval ⟨some d,.call ⟨.value g,q.toArray,J⟩,ty,pos,af,none⟩).run P w=.ok (.enter f (O++q.map a.eval++R).toArray) w:=by
   have:=Q5 (P:=P) (f:=f) (args:=(O++q.map a.eval++R).toArray) (w:=w) hf.1;simp only[execOp,resolve,U,Deferred.ofValue,Sem.run_bind,Sem.run_pure,Result.andThen_ok,invoke];rw[show O.toArray++Array.map a.eval q.toArray++R.toArray=(O++q.map a.eval++R).toArray by simp];exact this
  unfold Does;rw[he];refine x.mono ?_;rintro e w' ⟨v,rs,ob',G',rfl,F,j,B⟩;exact⟨v,rfl,rs,ob',G',F,j,B⟩
 ·rintro v w' ⟨rs,ob',G',hp,j,B⟩;have V:d<S.nt:=by rw[hn];simpa using hd
  have z:∀i s,D4 (C8 N fr) i=some s->s.rep (D9 (Mut S ob' G') w') G' (S.sl a i):=by
   intro i s L;have D:=B.facts (i+1000000) s (by rw[cY];exact zG L);have T:1000000<=i+1000000:=Nat.le_add_left _ _;rw[Ctx.sl_ge T]at D;have D:s.rep (D9 (Mut S ob' G') w') G' (I (i+1000000)):=D;have e:=congrFun C (i+1000000);simp only[Nat.add_sub_cancel]at e;rw[e]at D;exact D
  have M:Sim P S (C8 N fr) ob' G' a w':={ B with facts:=z }
  exact hK _ _ (kk rs ob' hp S G' _ w' hn (M.put V j))
end
theorem lW{x F E:Operand}{t e:TypeId}{f g k:Nat}{α:Type}{c:α->Nat->Cell}{d:List α}{D C:IntKind}{i j:Int}[ht:TySl P t e g f](L:opv fr x=some (.s (.one (.mut k))))(J:B4 ob k=some (.arr α g c d))
  (z:opv fr F=some (I6 (.int D i))) (y:opv fr E=some (I6 (.int C j))) (H:0<=i) (I:i<=j) (N:j<=d.length) :
  Neu P ⟨dst,.slice t x (some F) (some E) none,ty,pos,af,gd⟩ fr ob (fun M=>M=.s (.one (.msl k g i.toNat (j.toNat-i.toNat)))) :=
 E1 fun S G a w h=>by
  obtain⟨B,_⟩:=F4 h L;obtain⟨b,Q,O,A,p,_⟩:=h.obs k _ J;rw[A]at B;refine⟨sliced (some ⟨b,0,none⟩) i.toNat j.toNat d.length g,?_,b,d.length,d.length,d.length-i.toNat,if d.length=i.toNat then 0 else i.toNat*g,A,by omega,?_,by omega,p,?_⟩
  ·simp only[execOp,B,E9 h z,E9 h y,Option.map_some,Option.map_none];refine J8 ?_;obtain⟨q,v⟩:=ht.elem;simp only[Instr.sliceAt,Sem.run_bind,run_underlying ht.out.1,Result.andThen_ok];rw[run_slice_lh w t (some ⟨b,0,none⟩) d.length d.length q D C i j H I (by omega),v,H4 ht.size];rfl
  ·unfold sliced;split<;>simp[*,Addr.add_lit]
  ·by_cases K:d.length=i.toNat
   ·left;omega
   ·right;rw[A6 K]
theorem V4{x y:Operand}{t e:TypeId}{g c k o n:Nat}{F:IntKind}{i:Int}[ht:TySl P t e g c](D:opv fr x=some (.s (.one (.msl k g o n))))
  (E:opv fr y=some (I6 (.int F i))) (v:0<=i) (z:i<n):Neu P ⟨dst,.indexAddr t x y,ty,pos,af,gd⟩ fr ob (fun I=>I=.s (.one (.mref k g (o+i.toNat) 0))) :=
 E1 fun S G a w h=>by
  obtain⟨b,m,j,u,H,B,J,C,_,_,q⟩:=F4 h D;have q:H=o*g:=q.resolve_left (by omega);subst q;refine⟨.pointer (some ⟨b,(o+i.toNat)*g,none⟩),?_,b,m,j,B,rfl⟩;simp only[execOp,C,E9 h E];refine J8 ?_;have hb:0<=i/\i<(n:Int):=⟨v,z⟩
  simp[Instr.indexAt,run_underlying ht.out.1,asIntOf,hb,H4 ht.size,Addr.add_lit,C62]
def N6{κ:Type}[DecidableEq κ]:List (κ×Cell)->κ->Option Cell
 | [],_=>none
 | (k,c)::r,a=>if k=a then some c else N6 r a
class TyMap (P:Program) (t:TypeId) (kt:outParam TypeId) (kd:outParam TypeDesc) (z:outParam Value):Prop where
 out:∃et,P.underlying t=some (.map kt et)/\P.underlying kt=some kd/\(P.info? et).bind (·.zero)=some z/\z.oneCell'=true
theorem GS(k:Nat)(κ:Type)(i:κ->Value){t:TypeId}(g:(G5 k fr&&K5 k ob)=true) :
  EffV P ⟨dst,.makeMap t none,ty,pos,af,gd⟩ fr ob (.s (.one (.mut k))) fr ((k,.map κ i [])::ob):=by
 simp only[C30]at g;obtain⟨j,q⟩:=g;obtain⟨r,x,z⟩:=Q6 q;intro S G a w h;refine F3 (w':=w.alloc (.map #[] 0)) (v:=.map (some w.heap.size)) ?_ ?_
 ·simp only[execOp,Option.map_none];exact J8 rfl
 ·have d:Below w.heap.size w (w.alloc (.map #[] 0)):=(Below.refl _ _).alloc (Nat.le_refl _) _;have A:∀b,blk (.map (some w.heap.size))=some b->w.heap.size<=b:=by intro b hb;simp[blk]at hb;omega
  have f:=h.new (o:=.map κ i []) z x d A ⟨w.heap.size,#[],0,rfl,heap_alloc_new w _,trivial⟩;rw[T4 j,r]at f;exact⟨upd G k (.map (some w.heap.size)),f,(G7 _ _ _).symm,rfl⟩
theorem vA{κ:Type}[DecidableEq κ]{q:κ->Value}{w:TypeDesc}(d:∀a,MapKept.IsKey w (q a))(o:∀a b,q a=q b->a=b){B:Rd}(a:κ):∀(f:List (κ×Cell)) (t:List MapEntry) (i:Nat),
  All2 (fun (A:κ×Cell) (e:MapEntry)=>e.key=q A.1/\A.2.rep B e.val) f t ->
  (N6 f a=none/\Instr.findNow w (q a) t i=some none)\/∃c j v,N6 f a=some c/\Instr.findNow w (q a) t i=some (some (j,v))/\c.rep B v
 | [],[],_,_=>.inl ⟨rfl,rfl⟩
 | [],_::_,_,h=>h.elim
 | _::_,[],_,h=>h.elim
 | (k,c)::f,e::t,i,h=>by
  obtain⟨⟨C,D⟩,E⟩:=h;obtain⟨r,F,g⟩:=MapKept.sameNow_of_keys (d a) (d k);have p:Instr.sameNow w (q a) e.key=some r:=by rw[C];exact F
  by_cases u:k=a
  ·subst u;have:r=true:=g.2 rfl;subst this;exact .inr ⟨c,i,e.val,by simp[N6],by simp[Instr.findNow,p],D⟩
  ·have:r=false:=by
    cases r
    ·rfl
    ·exact absurd (o _ _ (g.1 rfl)).symm u
   subst this;rcases vA d o a f t (i+1) E with ⟨x,z⟩ | ⟨c',j,v,x,z,h6⟩
   ·exact .inl ⟨by simp[N6,u,x],by simp[Instr.findNow,p,z]⟩
   ·exact .inr ⟨c',j,v,by simp[N6,u,x],by simp[Instr.findNow,p,z],h6⟩
theorem AP{x y:Operand}{t O:TypeId}{H:TypeDesc}{z:Value}{k:Nat}{κ:Type}[DecidableEq κ]{i:κ->Value}{f:List (κ×Cell)}(a0:κ){r:Option Cell}[ht:TyMap P t O H z](N:opv fr x=some (.s (.one (.mut k))))(L:B4 ob k=some (.map κ i f))
  (F:opv fr y=some (I6 (i a0))) (d:∀a,MapKept.IsKey H (i a)) (g:∀a b,i a=i b->a=b) (M:N6 f a0=r) :
  Neu P ⟨dst,.lookup t x y true,ty,pos,af,gd⟩ fr ob (fun Q=>Q=.tup [.one (.p (r.getD (.v z))),.one (.p (.v (.bool r.isSome)))]) :=
 E1 fun S G a w h=>by
  obtain⟨U,I,q,R,T⟩:=ht.out;obtain⟨D,_⟩:=F4 h N;obtain⟨b,J,A,K,E,ha⟩:=h.obs k _ L;rw[K]at D;subst M;rcases vA d g a0 f J.toList 0 ha with ⟨B,C⟩ | ⟨c,j,v,B,C,h6⟩
  ·refine⟨.tuple #[z,.bool false],?_,[z,.bool false],rfl,?_⟩
   ·simp only[execOp,D,E9 h F];refine J8 ?_;simp only[Instr.lookup,Sem.run_bind,run_underlying I,Result.andThen_ok,MapKept.run_getObj_map E,Sem.run_pure,MapKept.run_checkKey q (d a0),MapKept.run_findKey q C,M5 R];rfl
   ·rw[B];exact⟨⟨rfl,T⟩,⟨rfl,rfl⟩,trivial⟩
  ·refine⟨.tuple #[v,.bool true],?_,[v,.bool true],rfl,?_⟩
   ·simp only[execOp,D,E9 h F];refine J8 ?_;simp only[Instr.lookup,Sem.run_bind,run_underlying I,Result.andThen_ok,MapKept.run_getObj_map E,Sem.run_pure,MapKept.run_checkKey q (d a0),MapKept.run_findKey q C];rfl
   ·rw[B];exact⟨h6,⟨rfl,rfl⟩,trivial⟩
theorem OI{x y v:Operand}{t kt:TypeId}{K:TypeDesc}{z:Value}{k:Nat}{κ:Type}[DecidableEq κ]{g:κ->Value}{l:List (κ×Cell)}(a0:κ){c:Cell}[ht:TyMap P t kt K z](Z:opv fr x=some (.s (.one (.mut k))))(L:B4 ob k=some (.map κ g l))
  (hy:opv fr y=some (I6 (g a0))) (Y:opv fr v=some (.s (.one (.p c)))) (T:H3 v=true) (q:∀a,MapKept.IsKey K (g a)) (B:∀a b,g a=g b->a=b) (X:N6 l a0=none) :
  Eff P ⟨none,.mapUpdate t x y v,ty,pos,af,gd⟩ fr ob fr ((k,.map κ g (l++[(a0,c)]))::ob):=by
 intro S G a w h;obtain⟨et,u1,N,u3,u4⟩:=ht.out;obtain⟨M,_⟩:=F4 h Z;obtain⟨b,D,f,F,H,ha⟩:=h.obs k _ L;rw[F]at M;have J:c.rep (D9 (Mut S ob G) w) (a.eval v):=N8 h Y T;obtain⟨E,R⟩:=MapKept.heap_set (o':=.map (D.push { key:=g a0,val:=a.eval v,born:=f }) (f+1)) H;have W:Instr.findNow K (g a0) D.toList 0=some none:=by
  rcases vA q B a0 l D.toList 0 ha with ⟨_,E⟩ | ⟨c,j,v,h4,_,_⟩
  ·exact E
  ·rw[X]at h4;cases h4
 have V:(execOp a.eval ⟨none,.mapUpdate t x y v,ty,pos,af,gd⟩).run P w=.ok .skip { w with heap:=w.heap.setIfInBounds b (.map (D.push { key:=g a0,val:=a.eval v,born:=f }) (f+1)) }:=by
  simp only[execOp,M,E9 h hy];simp only[Instr.mapUpdate,Sem.run_bind,run_underlying u1,Result.andThen_ok,MapKept.run_getObj_map H,MapKept.run_checkKey N (q a0),MapKept.run_findKey N W,MapKept.run_setObj_map _ H];rfl
 unfold Does;rw[V];have A:blk (G k)=some b:=by rw[F];rfl
 refine⟨G,h.write L A (fun i=>⟨A,trivial⟩) (fun i=>⟨A,trivial⟩) rfl rfl rfl (by simp) (fun j _ I=>R j I) ?_⟩;intro rd C;refine⟨b,_,_,F,E,?_⟩;rw[Array.toList_push];exact (ha.mono fun _ _ ⟨O,Q⟩=>⟨O,Cell.rep_mono C _ _ Q⟩).append ⟨⟨rfl,Cell.rep_mono C _ _ J⟩,trivial⟩
abbrev eX(s:List UInt8):Value:=.string ⟨s.toArray⟩
theorem lX(a:List UInt8):MapKept.IsKey .string (eX a):=trivial
theorem lY(a b:List UInt8)(h:eX a=eX b):a=b:=by
 simp only[eX,Value.string.injEq,ByteArray.mk.injEq]at h;simpa using congrArg Array.toList h
end
theorem UD{x W X:Operand}{t e:TypeId}{z A:Nat}{s:SV}{α:Type}{c:α->Nat->Cell}{B:List α}{N O:IntKind}{j m:Int}[ht:TySl P t e A z](hx:opv fr x=some s)(hl:IsList s α A c B)
  (K:opv fr W=some (I6 (.int N j))) (L:opv fr X=some (I6 (.int O m))) (R:0<=j) (h2:j<=B.length) (hm:m=j) :
  Neu P ⟨dst,.slice t x none (some W) (some X),ty,pos,af,gd⟩ fr ob (fun s'=>s'=.s (.one (.full α A c (B.take j.toNat)))) :=
 E1 fun S G a w h=>by
  subst hm;have J:=Z6 h hx hl;obtain⟨v,q,V,U,_⟩:=W7 J;rw[V]at J;have I:=rY (lo:=0) (hi:=m.toNat) J (by omega) (by omega);rw[List.drop_zero,Nat.sub_zero]at I;have p:sliced v 0 m.toNat m.toNat A=.slice (if m.toNat=0 then v else v.map (·.add 0)) m.toNat m.toNat:=by simp[sliced]
  refine⟨sliced v 0 m.toNat m.toNat A,?_,?_,?_⟩
  ·simp only[execOp,V,E9 h K,E9 h L,Option.map_some,Option.map_none];refine J8 ?_;obtain⟨y,C⟩:=ht.elem;simp only[Instr.sliceAt,Sem.run_bind,run_underlying ht.out.1,Result.andThen_ok];rw[run_slice_any w t v B.length q y,C];have hb:(Instr.sliceBounds true B.length q none (some (.int N m)) (some (.int O m))).run P w=.ok (0,m.toNat,m.toNat) w:=by
    have e:(m.toNat:Int)=m:=by omega
    simp only[Instr.sliceBounds,Sem.run_bind,run_sliceBound,Sem.run_pure,Result.andThen_ok];rw[run_sliceBound w O m _ _ R (by omega)];simp only[Result.andThen_ok];rw[run_sliceBound w N m _ _ R (by omega)];simp
   rw[hb];simp only[Result.andThen_ok];rw[H4 ht.size];rfl
  ·-- the cells are those of the list's beginning
   simp only[Cell.rep]at I ⊢;obtain⟨Y,Q,F,⟨h3,D⟩,T,Z⟩:=I;have b:(B.take m.toNat).length=m.toNat:=by rw[C41];omega
   rw[b]at F;have H:sliced v 0 m.toNat q A=.slice (if q=0 then v else v.map (·.add (0*A))) m.toNat q:=by simp[sliced]
   rw[H]at F;injection F with y C he3
   by_cases M:m.toNat=0
   ·refine⟨if m.toNat=0 then v else v.map (·.add 0),m.toNat,by rw[b,p],⟨Nat.le_of_eq b,fun _=>M⟩,T,.inl (b.trans M)⟩
   ·have E:q≠0:=by omega
    rw[A6 E]at y;refine⟨Y,m.toNat,?_,⟨Nat.le_of_eq b,fun hn=>?_⟩,T,Z⟩
    ·rw[b,p,A6 M,<-y];simp
    ·have:=D hn;omega
  ·rw[p];refine⟨_,by rw[show (B.take m.toNat).length=m.toNat by rw[C41];omega]⟩
theorem FF(k:Nat){x y:Operand}{α:Type}{F E:Nat}{c:α->Nat->Cell}{xs ys:List α}{t e:TypeId}{s:SV}[ht:TySl P t e F E](hx:opv fr x=some (.s (.one (.full α F c xs))))
  (hy:opv fr y=some s) (hl:IsList s α F c ys) (am:xs.length+ys.length<=1073741824) (bn:0<ys.length) (hf:(G5 k fr&&K5 k ob)=true) :
  EffV P ⟨dst,.call ⟨.builtin .append,#[x,y],#[t,t]⟩,ty,pos,af,gd⟩ fr ob (.s (.one (.buf k α F c (xs++ys)))) fr ((k,.spare (xs++ys).length F e)::ob):=by
 simp only[C30]at hf;obtain⟨bc,bd⟩:=hf;obtain⟨h4,h5,hp⟩:=Q6 bd;intro S G a w h;obtain⟨ah,H,ba,ax,I⟩:=ht.out;cases hi:P.info? e with
 | none=>simp[hi]at H
 | some i =>
 simp[hi]at H;obtain⟨U,A⟩:=H;cases hz:i.zero with
 | none=>simp[hi,hz]at I
 | some z =>
 simp[hi,hz]at I;obtain⟨bh,a0,au⟩:=F4 h hx;have bi:=Z6 h hy hl;obtain⟨ad,bq,vx,Z,ay,br,q,bf,bk,aq⟩:=U1 bh;rw[au]at Z;injection Z with e1 e2 e3
 subst e1;obtain⟨bp,K,vy,bj,az,bs,D,bg,bl,ar⟩:=U1 bi;obtain⟨ac,oy,aj,Q⟩:=ar.resolve_left (by omega);have L:(xs.length+ys.length)*E<=140737488355328:=by
  have:(xs.length+ys.length)*E<=1073741824*4096:=Nat.mul_le_mul am ax;omega
 have ao:xs.length+ys.length<=maxLen:=by unfold maxLen;omega
 obtain⟨T,J⟩:∃T,T=grownCap w (xs.length+ys.length) xs.length e:=⟨_,rfl⟩
 have al:=grownCap_ge w (xs.length+ys.length) xs.length e;have ak:=grownCap_le_maxLen w (xs.length+ys.length) xs.length e ao;rw[<-J]at al ak;have X:(Builtin.append_ #[t,t] ty #[a.eval x,a.eval y]).run P w=.ok (.slice (some ⟨w.heap.size,0,none⟩) (xs.length+ys.length) T) (w.drew.alloc (.cells (vx.toArray++vy.toArray++Builtin.zeroCells z.cells (T-(xs.length+ys.length))) e)):=by
  rw[au,bj,aj];rcases aq with h0 | ⟨bx,ox,hax,hrx2⟩
  ·have bm:xs=[]:=List.eq_nil_of_length_eq_zero h0;subst bm;have av:vx=[]:=List.eq_nil_of_length_eq_zero (by rw[q];simp);subst av;cases a0 with
   | none =>
    have O:=run_append_nil (P:=P) w t ty e i z ah hi hz ⟨ac,oy,none⟩ ys.length K vy (by rw[U];exact D) (fun j v M=>by rw[Addr.add_lit];exact (Q j v M).1) bn (by omega) (by rw[A];simp at L;omega);simp only[C43,Nat.zero_add]at J ⊢;rw[J];simpa using O
   | some ab =>
    have O:=run_append_grow (P:=P) w t ty e i z ah hi hz ab 0 0 [] (by simp) (by simp) ⟨ac,oy,none⟩ ys.length K vy (by rw[U];exact D) (fun j v M=>by rw[Addr.add_lit];exact (Q j v M).1) (by omega) (by omega) (growslice_fits (by omega) (by rw[A];simpa using L));simp only[C43]at J ⊢;rw[J];simpa using O
  ·rw[hax];have O:=run_append_grow (P:=P) w t ty e i z ah hi hz ⟨bx,ox,none⟩ xs.length xs.length vx (by rw[U];exact q) (fun j v M=>by rw[Addr.add_lit];exact (hrx2 j v M).1) ⟨ac,oy,none⟩ ys.length K vy (by rw[U];exact D) (fun j v M=>by rw[Addr.add_lit];exact (Q j v M).1) (by omega) (by omega) (growslice_fits (by omega) (by rw[A];exact L));rw[J];exact O
 obtain⟨cells,C⟩:∃cells,cells=vx.toArray++vy.toArray++Builtin.zeroCells z.cells (T-(xs.length+ys.length)):=⟨_,rfl⟩
 rw[<-C]at X;have N:(vx++vy).length=(xs.length+ys.length)*F:=by rw[C32,q,D,C62]
 have W:(w.drew.alloc (.cells cells e)).ownsRow S.B e F (.slice (some ⟨w.heap.size,0,none⟩) (xs.length+ys.length) T) (xs++ys).length (vx++vy):=by
  rw[C32];refine⟨N,.inr ⟨w.heap.size,T,cells,rfl,h.size,heap_alloc_new w.drew _,al,ak,?_,?_⟩⟩
  ·rw[C];simp only[Array.size_append,List.size_toArray,size_zeroCells,I,q,D,<-C62]
   congr 1
   omega
  ·rw[C];simp only[Array.toList_append,C42];rw[<-C42,<-N];exact List.take_left
 refine F3 (w':=w.drew.alloc (.cells cells e)) (v:=.slice (some ⟨w.heap.size,0,none⟩) (xs.length+ys.length) T) (by simp[execOp,resolve,invoke,builtin,X]) ?_;have aw:Below w.heap.size w (w.drew.alloc (.cells cells e)):=⟨rfl,rfl,rfl,by simp,fun k hk=>heap_alloc_old w.drew _ hk⟩
 have hu:∀b,blk (.slice (some ⟨w.heap.size,0,none⟩) (xs.length+ys.length) T)=some b->w.heap.size<=b:=by intro b hb;simp[blk]at hb;omega
 have Y:=h.new hp h5 (o:=.spare (xs++ys).length F e) aw hu ⟨vx++vy,W⟩;rw[T4 bc,h4]at Y;refine⟨_,Y,(G7 _ _ _).symm,?_⟩;refine aI (c:=c) (xs:=xs++ys) W ba (by rw[C32];omega) ?_ ?_
 ·intro g hg j zz M ae;simp[blk]at hg;subst hg;refine⟨ae,fun hm=>?_⟩;rcases hm with hm | ⟨k',o',hk',hb1,hb2⟩
  ·have:=h.m0 _ j hm;have:=h.size;omega
  ·by_cases ag:k=k'
   ·subst ag;rw[C4]at hk';cases hk';simp only at hb2;omega
   ·rw[B0 ag]at hk';rw[b9 G _ (Ne.symm ag)]at hb1;have:=(h.obs k' o' hk').blk_lt _ hb1;omega
 ·have ap:∀b i z,D9 (Mut S ob G) w b i z->D9 (Mut S ((k,.spare (xs++ys).length F e)::ob) (upd G k (.slice (some ⟨w.heap.size,0,none⟩) (xs.length+ys.length) T))) (w.drew.alloc (.cells cells e)) b i z:=by
   intro b i z hr;have:=h.rd_new (k:=k) (o:=.spare (xs++ys).length F e) aw hu hr
   rwa[h4]at this
  intro m hm j M;by_cases an:m<xs.length
  ·obtain⟨zz,V,ai⟩:=bk m an j M;refine⟨zz,?_,?_⟩
   ·rw[C46 (List.getElem?_eq_some_iff.1 V).1];exact V
   ·rw[C82 an];exact Cell.rep_mono ap _ _ ai
  ·have be:m-xs.length<ys.length:=by simp at hm;omega
   obtain⟨zz,V,ai⟩:=bl (m-xs.length) be j M;refine⟨zz,?_,?_⟩
   ·have bo:xs.length*F<=m*F:=C47 _ (by omega);rw[C52 (by rw[q];omega),q];have:m*F+j-xs.length*F=(m-xs.length)*F+j:=by rw[Nat.sub_mul];omega
    rw[this];exact V
   ·rw[C81 (by omega)];exact Cell.rep_mono ap _ _ ai
theorem GW{x:Operand}{t yt e:TypeId}{B d:Nat}{s:SV}{α:Type}{c:α->Nat->Cell}{j:List α}[ht:TySl P t e B d](H:opv fr x=some s)(F:IsList s α B c j) :
  Neu P ⟨dst,.binOp .eql t x (.const (.slice none 0 0)) yt,ty,pos,af,gd⟩ fr ob (fun I=>∃b,I=Q4 b/\(b=true->j=[])):=by
 intro S G a w h;have y:=Z6 h H F;obtain⟨g,f,E,C,_⟩:=W7 y;refine F3 (v:=.bool g.isNone) (w':=w) ?_ ⟨Below.refl _ _,Q4 g.isNone,⟨_,rfl,fun hb=>?_⟩,rfl,rfl⟩
 ·have A:a.eval (.const (.slice none 0 0))=.slice none 0 0:=rfl;simp only[execOp,E,A];refine J8 ?_;simp only[Sem.run_bind];rw[show (eqGuard .eql t x (.const (.slice none 0 0)) (.slice g j.length f) (.slice none 0 0)).run P w=.ok () w from rfl];simp only[Result.andThen_ok];show (binOp .eql t (.slice g j.length f) (.slice none 0 0)).run P w=_;simp only[binOp,Sem.run_bind,run_equal_slice_nil w t e g j.length f ht.out.1,Result.andThen_ok];rfl
 ·cases g with
  | none =>
   simp only[Cell.rep]at y;obtain⟨J,z,D,⟨K,m⟩,L,M⟩:=y;rw[E]at D;injection D with e1 A e3
   subst e1;subst e3;have:=m rfl;exact List.eq_nil_of_length_eq_zero (by omega)
  | some _=>simp at hb
abbrev Mo:=List (List Nat×Obs)
def Z8:Mo->List Nat->Option Obs
 | [],_=>none
 | (D',ob)::r,D=>cond (cZ D' D) (some ob) (Z8 r D)
abbrev Sv:=List (Nat×SV)
def T0:Sv->Nat->Option SV
 | [],_=>none
 | (i,s)::r,j=>cond (Nat.beq i j) (some s) (T0 r j)
abbrev Ed:=List (Nat×(List Nat×List Nat))
def bN:Ed->Nat->List Nat×List Nat
 | [],_=>([],[])
 | (i,x)::r,e=>cond (Nat.beq i e) x (bN r e)
def u7(ks:List Nat)(fr:Fr):Fr:=fr.filter fun p=>!(O1 ks p.1)
theorem UE{ks:List Nat}:∀{fr:Fr} {t:Nat} {s:SV},D4 (u7 ks fr) t=some s↔t∉ks/\D4 fr t=some s
 | [],t,s=>by simp[u7,D4]
 | (i,x)::r,t,s=>by
  have c:=UE (ks:=ks) (fr:=r) (t:=t) (s:=s);unfold u7 at c ⊢;cases b:O1 ks i
  ·rw[List.filter_cons_of_pos (by simp[b])];by_cases a:i=t
   ·subst a;rw[C7,C7];have:i∉ks:=fun q=>by rw[OE.2 q]at b;cases b
    simp[this]
   ·rw[B9 a,B9 a];exact c
  ·rw[List.filter_cons_of_neg (by simp[b])];rw[c];by_cases a:i=t
   ·subst a;have:i∈ks:=OE.1 b;simp[this]
   ·rw[B9 a]
def AQ(U a:Fr):Prop:=∀t s,D4 U t=some s->D4 a t=some s
def OJ(P:Program)(nt:Nat)(o:Oper)(U:Fr)(e b:List Nat)(ob ob':Obs)(s:SV):Prop :=
 ∀c,AQ U c->(∀k∈e,∀t x,D4 c t=some x->t∉b->x.free k=true)->∀S G a w,S.nt=nt->Sim P S c ob G a w ->
  Does P o a w (fun v w'=>∃G',Sim P S (u7 b c) ob' G' a w'/\∀d,o.dst=some d->s.rep (D9 (Mut S ob' G') w') G' v)
def oO(l:List Oper):Sv->Fr->Fr
 | [],fr=>fr
 | (i,s)::r,fr=>match (l[i]?).bind (·.dst) with
  | some d=>(d,s)::oO l r fr
  | none=>oO l r fr
def iL(l:List Oper)(c:Sv)(o:Oper):Bool :=
 (Y3 o.op).all fun u=>(List.range l.length).all fun j=>match (l[j]?).bind (·.dst) with
  | some d=>!(Nat.beq d u)||(T0 c j).isSome
  | none=>true
def UIn2(l:List Oper)(a:Sv)(fr:Fr)(o:Oper)(U:Fr):Prop :=
 ∀t s,D4 U t=some s->t∈Y3 o.op/\((∃j b,l[j]?=some b/\b.dst=some t/\T0 a j=some s)\/(t∉u0 l/\D4 fr t=some s))
def obIn2(a ob:Obs):Prop:=∀k o,B4 a k=some o->B4 ob k=some o
theorem AR{l:List Oper}{fr:Fr}:∀{m:Sv} {t:Nat} {s:SV},D4 (oO l m fr) t=some s->(∃j o,T0 m j=some s/\l[j]?=some o/\o.dst=some t)\/(D4 fr t=some s/\∀j o,T0 m j≠none->l[j]?=some o->o.dst≠some t)
 | [],t,s,h=>.inr ⟨h,fun j o p=>absurd rfl p⟩
 | (i,x)::r,t,s,h=>by
  unfold oO at h;have f:(∀d,(l[i]?).bind (·.dst)=some d->d≠t)->D4 (oO l r fr) t=some s->(∃j o,T0 ((i,x)::r) j=some s/\l[j]?=some o/\o.dst=some t)\/(D4 fr t=some s/\∀j o,T0 ((i,x)::r) j≠none->l[j]?=some o->o.dst≠some t):=by
   intro a h;rcases AR h with ⟨j,o,w,v,y⟩ | ⟨w,v⟩
   ·left;refine⟨j,o,?_,v,y⟩;have g:i≠j:=fun e=>by
     subst e;rw[v]at a;exact a t (by simpa using y) rfl
    show cond (Nat.beq i j) _ _=_;rw[I9 g];exact w
   ·right;refine⟨w,fun j o p q u=>?_⟩;by_cases g:i=j
    ·subst g;rw[q]at a;exact a t (by simpa using u) rfl
    ·have p:cond (Nat.beq i j) (some x) (T0 r j)≠none:=p;rw[I9 g]at p;exact v j o p q u
  split at h
  ·rename_i d a;by_cases k:d=t
   ·subst k;rw[C7]at h;cases h;cases q:l[i]? with
    | none=>rw[q]at a;cases a
    | some o =>
     rw[q]at a;exact .inl ⟨i,o,by show cond (Nat.beq i i) _ _=_;rw[Nat.beq_refl];rfl,q,by simpa using a⟩
   ·rw[B9 k]at h;exact f (fun z c=>by rw[a]at c;cases c;exact k) h
  ·rename_i a;exact f (fun z c=>by rw[a]at c;cases c) h
theorem sP:∀{l:List Oper} {t:Nat},t∈u0 l->∃(j:Nat) (o:Oper),l[j]?=some o/\o.dst=some t
 | [],t,h=>by simp[u0]at h
 | o::l,t,h=>by
  unfold u0 at h;cases c:o.dst with
  | none=>rw[c]at h;obtain⟨j,e,a,b⟩:=sP h;exact⟨j+1,e,by simpa using a,b⟩
  | some d =>
   rw[c]at h;rcases C36.1 h with rfl | h
   ·exact⟨0,o,rfl,c⟩
   ·obtain⟨j,e,a,b⟩:=sP h;exact⟨j+1,e,by simpa using a,b⟩
theorem zH{l:List Oper}{a:Sv}{fr:Fr}{o:Oper}(h:iL l a o=true):UIn2 l a fr o (U4 (oO l a fr) (Y3 o.op)):=by
 intro t s p;have c:=z6 p;refine⟨c,?_⟩;rcases AR (l7 p) with ⟨j,k,d,f,b⟩ | ⟨d,f⟩
 ·exact .inl ⟨j,k,f,b,d⟩
 ·refine .inr ⟨fun g=>?_,d⟩;obtain⟨j,k,b,m⟩:=sP g;have:=List.all_eq_true.1 (List.all_eq_true.1 h t c) j (C40.2 (List.getElem?_eq_some_iff.1 b).1);rw[b]at this;simp only[Option.bind_some,m,Nat.beq_refl,Bool.not_true,Bool.false_or]at this;exact f j k (fun e=>by rw[e]at this;cases this) b m
def Task(P:Program)(nt:Nat)(l:List Oper)(fr:Fr)(a:Sv)(E:List Nat)(b:Ed)(i:Nat)(ob:Obs)(s:SV)(T:Obs->Prop):Prop :=
 ∃o U,l[i]?=some o/\UIn2 l a fr o U/\((O1 E i=false/\Neu P o U ob (fun c=>c=s))\/(O1 E i=true/\∃ob',OJ P nt o U (bN b i).1 (bN b i).2 ob ob' s/\T ob'))
def conf2(nt:Nat)(l:List Oper)(E:List Nat)(Ms:List (List Nat))(c:Ed)(b:List (Nat×List Nat)):Bool :=
 let ops:=l.toArray;let n:=l.length
 (l.all fun o=>o.guard.isNone&&match o.dst with | some d=>Nat.blt d nt | none=>true) &&
 ((List.range n).all fun i=>match ops[i]? with
  | some o=>(O1 E i||o.dst.isSome)&&(((Y3 o.op).all fun u=>((List.range n).all fun j=>match ops[j]? with
    | some f=>(match f.dst with | some d=>!(Nat.beq d u)||Bef ops i j | none=>true)
    | none=>true)&&E.all fun e=>Nat.beq e i||!(O1 (bN c e).2 u)||Bef ops e i) &&
   ((o.after.toList.all fun e=>!(Region.binds .any e)||Nat.blt e.on i)&&(Ms.all fun D=>!(lU ops E i D)||b.any fun p=>Nat.beq p.1 i&&cZ p.2 D)))
  | none=>false) &&
 lV (u0 l)&&desc E&&(E.all fun e=>Nat.blt e n)&&memM Ms []&&(Ms.all fun D=>E.all fun e=>!(lU ops E e D)||memM Ms (eU e D))
structure InvK (l:List Oper) (E:List Nat) (svs:Sv) (ed:Ed) (fr:Fr) (listed:Array Bool) (frc:Fr):Prop where
 put:∀j o d s,l[j]?=some o->listed.getD j false=true->o.dst=some d->T0 svs j=some s->(∀e∈E,listed.getD e false=true->d∉(bN ed e).2)->D4 frc d=some s
 from':∀t s,D4 frc t=some s->(∃j o,l[j]?=some o/\listed.getD j false=true/\o.dst=some t/\T0 svs j=some s)\/D4 fr t=some s
 old:∀t s,D4 fr t=some s->t∉u0 l->(∀e∈E,listed.getD e false=true->t∉(bN ed e).2)->D4 frc t=some s
def pA(l:List Oper)(ops:Array Oper)(c:Sv)(fr:Fr):Ed->Bool
 | []=>true
 | (e,ks,kills)::r=>(ks.all fun k=>((List.range ops.size).all fun j=>Nat.beq j e||Bef ops j e||match (l[j]?).bind (·.dst),T0 c j with
   | some d,some s=>O1 kills d||s.free k
   | _,_=>true)&&fr.all fun p=>O1 kills p.1||p.2.free k)&&pA l ops c fr r
theorem c_core{id:Nat}{l:List Oper}{fr:Fr}{bl:Obs}{Q:Post}(E:List Nat)(Ms:List (List Nat))(T:Ed)(ae:List (Nat×List Nat))(X:Sv)(M:Mo)(hm:P.follows .mixedOrders=true)
  (hB:conf2 nt l E Ms T ae=true) (co:∀e∈E,∃x,(e,x)∈T/\bN T e=x) (bc:pA l l.toArray X fr T=true) (h0:Z8 M []=some bl)
  (ht:∀p∈ae,∃ob s,Z8 M p.2=some ob/\T0 X p.1=some s/\Task P nt l fr X E T p.1 ob s (fun ob'=>∃au,Z8 M (eU p.1 p.2)=some au/\obIn2 au ob'))
  {fr':Fr} {bm:Obs} (bz:Z8 M E=some bm) (bq:∀t s,D4 fr' t=some s->(∀e∈E,t∉(bN T e).2)/\((∃j o',l[j]?=some o'/\o'.dst=some t/\T0 X j=some s)\/(t∉u0 l/\D4 fr t=some s)))
  (hQ:Q .normal fr' bm):WpC P nt (.region id l.toArray true) fr bl Q:=by
 intro S G a w hn hs;unfold conf2 at hB;simp only[C30]at hB;obtain⟨⟨⟨⟨⟨⟨b1,b2⟩,b3⟩,b4⟩,b5⟩,b6⟩,b7⟩:=hB
 have bi:∀i o,l[i]?=some o->o.guard=none/\(∀d,o.dst=some d->d<nt)/\(O1 E i=true\/∃d,o.dst=some d)/\(∀u∈Y3 o.op,∀j oj,l[j]?=some oj->oj.dst=some u->Bef l.toArray i j=true) /\
   (∀u∈Y3 o.op,∀e∈E,e≠i->u∈(bN T e).2->Bef l.toArray e i=true)/\(∀e∈o.after.toList,Region.binds .any e=true->e.on<i)/\(∀D∈Ms,lU l.toArray E i D=true->(i,D)∈ae):=by
  intro i o J;have bg:i<l.length:=(List.getElem?_eq_some_iff.1 J).1;have ac:o∈l:=C53 J;have q1:=List.all_eq_true.1 b1 o ac;have q2:=List.all_eq_true.1 b2 i (C40.2 bg);simp only[List.getElem?_toArray,J]at q2;simp only[C30]at q1 q2;obtain⟨q4,q5,q6,q7⟩:=q2;refine⟨by simpa using q1.1,?_,?_,?_,?_,?_,?_⟩
  ·intro d hd;have:=q1.2;rw[hd]at this;simpa using this
  ·rcases (C64 _ _).mp q4 with h | h
   ·exact .inl h
   ·exact .inr (Option.isSome_iff_exists.1 h)
  ·intro u hu j oj K hd;have bs:j<l.length:=(List.getElem?_eq_some_iff.1 K).1;have I:=List.all_eq_true.1 q5 u hu;simp only[C30]at I;have:=List.all_eq_true.1 I.1 j (C40.2 bs);simp only[K,hd]at this;simpa using this
  ·intro u hu e V ao hk;have I:=List.all_eq_true.1 q5 u hu;simp only[C30]at I;have:=List.all_eq_true.1 I.2 e V;rw[I9 ao,OE.2 hk]at this;simpa using this
  ·intro e V cl;have:=List.all_eq_true.1 q6 e V;rw[cl]at this;simpa using this
  ·intro D hD hp;have:=List.all_eq_true.1 q7 D hD;rw[hp]at this;simp only[Bool.not_true,Bool.false_or]at this;obtain⟨p,cx,bj⟩:=List.any_eq_true.1 this;simp only[C30]at bj;have e1:=Nat.eq_of_beq_eq_true bj.1;have e2:=eV bj.2;obtain⟨p1,p2⟩:=p;simp only at e1 e2;rw[<-e1,<-e2];exact cx
 have di:∀(j t:Nat),(l.toArray[j]?).bind (fun o=>o.dst)=some t->t<nt:=by
  intro j t ht;cases J:l[j]? with
  | none=>simp[J]at ht
  | some o=>simp[J]at ht;exact (bi j o J).2.1 t ht
 refine wp_region_any hm ?_;have dd:Below w.heap.size w { w with drawn:=w.drawn+1 }:=⟨rfl,rfl,rfl,Nat.le_refl _,fun _ _=>rfl⟩
 have dh : ∀(R:Nat) (A:Array Bool) (H:Fr) (ob:Obs) (G:Gh) (a:Act) (w:World),A.size=l.length->unl A l.length=R->Closed l.toArray A->(E.filter fun j=>A.getD j false)∈Ms->Z8 M (E.filter fun j=>A.getD j false)=some ob->InvK l E X T fr A H->Sim P S H ob G a w ->
   wpAny P .any l.toArray (PostOf P S Q) R A a w:=by
  intro R;induction R with
  | zero =>
   intro A H ob G a w ce hu hc hM ai hI am;have Y:∀j,j<l.length->A.getD j false=true:=by
    intro j K;unfold unl at hu;have:=(List.countP_eq_zero.1 hu) j (C40.2 K);simpa using this
   have ar:Region.ready .any l.toArray A=[]:=by
    cases hr:Region.ready .any l.toArray A with
    | nil=>rfl
    | cons i r =>
     exfalso;have hi:i∈Region.ready .any l.toArray A:=by rw[hr];exact List.mem_cons_self ..
     have B:=R2 hi;obtain⟨_,o,J,_⟩:=mem_ready.1 hi;rw[List.getElem?_toArray]at J;rw[Y i (List.getElem?_eq_some_iff.1 J).1]at B;cases B
   refine⟨ar,?_⟩;have ci:(E.filter fun j=>A.getD j false)=E:=by
    rw[List.filter_eq_self];intro e V;exact Y e (by simpa using List.all_eq_true.1 b5 e V)
   rw[ci,bz]at ai;cases ai;refine⟨fr',bm,G,hQ,.inl (am.weaken fun t s ht=>?_)⟩;obtain⟨hk,B⟩:=bq t s ht;rcases B with ⟨j,o,B,F,I⟩ | ⟨B,F⟩
   ·exact hI.put j o t s B (Y j (List.getElem?_eq_some_iff.1 B).1) F I (fun e V _=>hk e V)
   ·exact hI.old t s F B (fun e V _=>hk e V)
  | succ R ih =>
   intro A H ob G a w ce hu hc hM ai hI am;refine⟨fun h0=>?_,fun i hi=>?_⟩
   ·exfalso;have cp:∃j,j<l.length/\A.getD j false=false:=by
     refine Classical.byContradiction fun cw=>?_;have:unl A l.length=0:=by
      unfold unl;refine List.countP_eq_zero.2 fun j K=>?_;have K:=C40.1 K;cases hb:A.getD j false
      ·exact absurd ⟨j,K,hb⟩ cw
      ·simp
     omega
    have bu:∀n,(∃j,j<n/\j<l.length/\A.getD j false=false)->∃j,j<l.length/\A.getD j false=false/\∀p,p<j->A.getD p false=true:=by
     intro n;induction n with
     | zero=>rintro⟨j,K,_⟩;omega
     | succ n df =>
      rintro⟨j,K,be,ap⟩;by_cases ay:∃j',j'<n/\j'<l.length/\A.getD j' false=false
      ·exact df ay
      ·refine⟨j,be,ap,fun p hp=>?_⟩;cases hb:A.getD p false
       ·exact absurd ⟨p,by omega,by omega,hb⟩ ay
       ·rfl
    obtain⟨j,cq,cr⟩:=cp;obtain⟨j,be,ap,ct⟩:=bu (j+1) ⟨j,by omega,cq,cr⟩;have J:l[j]?=some l[j]:=C29 be;have bt:j∈Region.ready .any l.toArray A:=by
     refine mem_ready.2 ⟨?_,l[j],by rw[List.getElem?_toArray];exact J,fun e V hb=>?_⟩
     ·have af:j<A.size:=by omega
      simp only[Array.getD_eq_getD_getElem?,Array.getElem?_eq_getElem af]at ap ⊢;simpa using ap
     ·have:=(bi j _ J).2.2.2.2.2.1 e (Array.mem_toList_iff.2 V) hb;exact ct _ this
    rw[h0]at bt;cases bt
   ·have ah:=R2 hi;obtain⟨_,o,J,Y⟩:=mem_ready.1 hi;rw[List.getElem?_toArray]at J;have bg:i<l.length:=(List.getElem?_eq_some_iff.1 J).1;obtain⟨g1,g2,g4,g5,g6,g7,g8⟩:=bi i o J;obtain⟨D,hD⟩:∃D,D=E.filter fun j=>A.getD j false:=⟨_,rfl⟩
    rw[<-hD]at hM ai;have ba:∀e,e∈D↔e∈E/\A.getD e false=true:=fun e=>by rw[hD,List.mem_filter]
    have bn:∀j,Bef l.toArray i j=true->A.getD j false=true:=fun j K=>l8 hc i K (fun o' aq e V hb=>by
     rw[List.getElem?_toArray,J]at aq;cases aq
     exact Y e (Array.mem_toList_iff.1 V) hb)
    have bf:∀j,A.getD j false=true->Bef l.toArray j i=true->False:=fun j K hb=>by
     have:A.getD i false=true:=l8 hc j hb (fun o' aq e V ck=>hc j o' aq K e V ck);rw[ah]at this;cases this
    have ca:lU l.toArray E i D=true:=by
     unfold lU;simp only[C30,Bool.not_eq_true',List.all_eq_true,C64];refine⟨?_,fun j K=>?_,fun j K=>?_⟩
     ·cases hb:O1 D i
      ·rfl
      ·have:=((ba i).1 (OE.1 hb)).2;rw[ah]at this;cases this
     ·cases hb:Bef l.toArray i j
      ·exact .inl rfl
      ·exact .inr (OE.2 ((ba j).2 ⟨K,bn j hb⟩))
     ·cases hb:Bef l.toArray j i
      ·rfl
      ·exact (bf j ((ba j).1 K).2 hb).elim
    obtain⟨dl,s,az,cd,o1,U,bx,hU,bk⟩:=ht (i,D) (g8 D hM ca);rw[ai]at az;cases az;rw[J]at bx;cases bx;have aw:AQ U H:=by
     intro t x hx;obtain⟨cg,B⟩:=hU t x hx;have al:∀e∈E,A.getD e false=true->t∉(bN T e).2:=fun e V ak hk=>by
      by_cases ao:e=i
      ·rw[ao,ah]at ak;cases ak
      ·exact bf e ak (g6 t cg e V ao hk)
     rcases B with ⟨j,oj,B,F,I⟩ | ⟨B,F⟩
     ·exact hI.put j oj t x B (bn j (g5 t cg j oj B F)) F I al
     ·exact hI.old t x F B al
    have av:=U5 hc hi;have af:(A.setIfInBounds i true).size=l.length:=by simpa using ce
    have cf:unl (A.setIfInBounds i true) l.length=R:=by
     have:=KN (by omega) ah bg;omega
    have N:∀j,(A.setIfInBounds i true).getD j false=true↔j=i\/A.getD j false=true:=by
     intro j;by_cases K:j=i
     ·subst K;simp only[true_or,iff_true];simp[show j<A.size by omega]
     ·rw[z7 (Ne.symm K)];simp[K]
    have ax:∀C,(i∈E->C=(bN T i).2)->(i∉E->C=[])->InvK l E X T fr (A.setIfInBounds i true) (match o.dst with | some d=>(d,s)::u7 C H | none=>u7 C H):=by
     intro C cu cv;have hk:∀t,(∀e∈E,(A.setIfInBounds i true).getD e false=true->t∉(bN T e).2)->t∉C:=by
      intro t h;by_cases ab:i∈E
      ·rw[cu ab];exact h i ab ((N i).2 (.inl rfl))
      ·rw[cv ab];simp
     have W:∀t,(∀e∈E,(A.setIfInBounds i true).getD e false=true->t∉(bN T e).2)->∀e∈E,A.getD e false=true->t∉(bN T e).2:=fun t h e V ak=>h e V ((N e).2 (.inr ak));cases Z:o.dst with
     | none =>
      refine⟨fun j oj d x B F I h6 h7=>?_,fun t x B=>?_,fun t x B F I=>?_⟩
      ·rcases (N j).1 F with rfl | F
       ·rw[J]at B;cases B;rw[Z]at I;cases I
       ·exact UE.2 ⟨hk d h7,hI.put j oj d x B F I h6 (W d h7)⟩
      ·rcases hI.from' t x (UE.1 B).2 with ⟨j,oj,F,I,h6⟩ | F
       ·exact .inl ⟨j,oj,F,(N j).2 (.inr I),h6⟩
       ·exact .inr F
      ·exact UE.2 ⟨hk t I,hI.old t x B F (W t I)⟩
     | some d0 =>
      refine⟨fun j oj d x B F I h6 h7=>?_,fun t x B=>?_,fun t x B F I=>?_⟩
      ·show D4 ((d0,s)::u7 C H) d=some x;by_cases bd:j=i
       ·subst bd;rw[J]at B;cases B;rw[Z]at I;cases I;rw[C7];rw[cd]at h6;exact h6
       ·have F:=((N j).1 F).resolve_left bd;have ag:d0≠d:=fun q=>by
         subst q;exact bd (qM b3 B J I Z)
        rw[B9 ag];exact UE.2 ⟨hk d h7,hI.put j oj d x B F I h6 (W d h7)⟩
      ·have B:D4 ((d0,s)::u7 C H) t=some x:=B;by_cases ag:d0=t
       ·subst ag;rw[C7]at B;cases B;exact .inl ⟨i,o,J,(N i).2 (.inl rfl),Z,cd⟩
       ·rw[B9 ag]at B;rcases hI.from' t x (UE.1 B).2 with ⟨j,oj,F,I,h6⟩ | F
        ·exact .inl ⟨j,oj,F,(N j).2 (.inr I),h6⟩
        ·exact .inr F
      ·show D4 ((d0,s)::u7 C H) t=some x;have ag:d0≠t:=fun q=>F (by rw[<-q];exact iK J Z);rw[B9 ag];exact UE.2 ⟨hk t I,hI.old t x B F (W t I)⟩
    unfold wpOp;simp only[List.getElem?_toArray,J];rw[A5 (by simp[Region.wanted,g1])];rcases bk with ⟨an,bw⟩ | ⟨an,ob',heff,au,hobT,hle⟩
    ·have bv:i∉E:=fun q=>by rw[OE.2 q]at an;cases an
     refine .inl (L4 (bw S G a w (am.weaken fun t x hx=>aw t x hx)) ?_);rintro v w' ⟨ch,s',rfl,hv⟩;have aj:(E.filter fun j=>(A.setIfInBounds i true).getD j false)=D:=by
      rw[hD];apply List.filter_congr;intro j K;have:j≠i:=fun q=>bv (q ▸ K);exact z7 (Ne.symm this)
     obtain⟨d0,bo⟩:=g4.resolve_left (by rw[an];simp);have ad:=ax [] (fun q=>absurd q bv) (fun _=>rfl);rw[bo]at ad ⊢;have ad:InvK l E X T fr (A.setIfInBounds i true) ((d0,s')::u7 [] H):=ad;have cn:u7 [] H=H:=by unfold u7;exact List.filter_eq_self.2 fun p _=>rfl
     rw[cn]at ad;exact ih (A.setIfInBounds i true) ((d0,s')::H) ob G _ w' af cf av (by rw[aj];exact hM) (by rw[aj];exact ai) ad ((am.ext ch).put (by rw[hn];exact g2 d0 bo) hv)
    ·have ab:i∈E:=OE.1 an;have aj:(E.filter fun j=>(A.setIfInBounds i true).getD j false)=eU i D:=by
      rw[hD];exact qL (by omega) ah b4 ab
     have cj:eU i D∈Ms:=by
      have:=List.all_eq_true.1 (List.all_eq_true.1 b7 D hM) i ab;rw[ca]at this;exact sO (by simpa using this)
     have br:∀k∈(bN T i).1,∀t x,D4 H t=some x->t∉(bN T i).2->x.free k=true:=by
      obtain⟨x0,db,dc⟩:=co i ab;rw[dc]
      have hf:∀(xs:Ed),pA l l.toArray X fr xs=true->(i,x0)∈xs->∀k∈x0.1,((List.range l.toArray.size).all fun j=>Nat.beq j i||Bef l.toArray j i||match (l[j]?).bind (·.dst),T0 X j with
        | some d,some s=>O1 x0.2 d||s.free k
        | _,_=>true)=true/\(fr.all fun p=>O1 x0.2 p.1||p.2.free k)=true:=by
       intro xs;induction xs with
       | nil=>intro _ h;simp at h
       | cons y r dg =>
        obtain⟨e',dk,dj⟩:=y;intro bh ac;simp only[pA,C30]at bh;rcases C36.1 ac with q | q
        ·cases q;intro k hk;have:=List.all_eq_true.1 bh.1 k hk;simpa only[C30] using this
        ·exact dg bh.2 q
      intro k hk t x hx al;obtain⟨f1,f2⟩:=hf T bc db k hk;rcases hI.from' t x hx with ⟨j,oj,F,I,h6,h7⟩ | F
      ·have:=List.all_eq_true.1 f1 j (C40.2 (by simpa using (List.getElem?_eq_some_iff.1 F).1));have cs:j≠i:=fun q=>by rw[q,ah]at I;cases I
       have cm:Bef l.toArray j i=false:=by
        cases hb:Bef l.toArray j i
        ·rfl
        ·exact (bf j I hb).elim
       rw[I9 cs,cm,F]at this;simp only[Option.bind_some,h6,h7,Bool.false_or,C64]at this;rcases this with q | q
       ·exact absurd (OE.1 q) al
       ·exact q
      ·have ac:(t,x)∈fr:=by
        have:∀(fr:Fr),D4 fr t=some x->(t,x)∈fr:=by
         intro fr;induction fr with
         | nil=>intro h;simp[D4]at h
         | cons y r de =>
          obtain⟨q,z⟩:=y;intro h;by_cases hq:q=t
          ·subst hq;rw[C7]at h;cases h;exact List.mem_cons_self ..
          ·rw[B9 hq]at h;exact List.mem_cons_of_mem _ (de h)
        exact this fr F
       have:=List.all_eq_true.1 f2 (t,x) ac;simp only[C64]at this;rcases this with q | q
       ·exact absurd (OE.1 q) al
       ·exact q
     refine .inl (L4 (heff H aw br S G a w hn am) ?_);rintro v w' ⟨G',cc,hv⟩;have ad:=ax (bN T i).2 (fun _=>rfl) (fun q=>absurd ab q);have cy:=cc.weakenO hle;refine ih (A.setIfInBounds i true) _ au G' _ w' af cf av (by rw[aj];exact cj) (by rw[aj];exact hobT) ad ?_;cases Z:o.dst with
     | none=>exact cy
     | some d0 =>
      have da:=hv d0 Z;have cb:=cc.put (d:=d0) (by rw[hn];exact g2 d0 Z) da;exact cb.weakenO hle
 have L:∀j,(Array.replicate l.length false).getD j false=false:=by
  intro j;simp only[Array.getD_eq_getD_getElem?];rcases Nat.lt_or_ge j l.length with h' | h'
  ·simp[h']
  ·simp[h']
 have bp:(E.filter fun j=>(Array.replicate l.length false).getD j false)=[]:=by
  rw[List.filter_eq_nil_iff];intro e _;rw[L];simp
 have cz:unl (Array.replicate l.length false) l.length=l.length:=by
  unfold unl;have:(List.range l.length).countP (fun i=>!(Array.replicate l.length false).getD i false)=(List.range l.length).length:=by
   rw[List.countP_eq_length];intro i _;rw[L];rfl
  rw[this,C72]
 have:=dh l.length (Array.replicate l.length false) fr bl G a _ (by simp) cz (fun j o J hl=>by rw[L]at hl;cases hl) (by rw[bp];exact sO b6) (by rw[bp];exact h0) ⟨fun j o d s _ F _=>(by rw[L]at F;cases F),fun t s B=>.inr B,fun t s B _ _=>B⟩ (hs.ext dd);simpa using this
def pB(P:Program)(nt:Nat)(l:List Oper)(fr:Fr)(E:List Nat)(a:Ed)(K:Sv->Mo->Prop):List (Nat×List Nat)->Sv->Mo->Prop
 | [],svs,M=>K svs M
 | (i,D)::ts,svs,M=>∃o ob s,l[i]?=some o/\Z8 M D=some ob/\iL l svs o=true/\(T0 svs i=none\/T0 svs i=some s) /\
   ((O1 E i=false/\Neu P o (U4 (oO l svs fr) (Y3 o.op)) ob (fun b=>b=s)/\pB P nt l fr E a K ts ((i,s)::svs) M) \/
    (O1 E i=true/\∃ob',OJ P nt o (U4 (oO l svs fr) (Y3 o.op)) (bN a i).1 (bN a i).2 ob ob' s/\Z8 M (eU i D)=none/\pB P nt l fr E a K ts ((i,s)::svs) ((eU i D,ob')::M)))
def lZ(P:Program)(nt:Nat)(l:List Oper)(fr:Fr)(E:List Nat)(c:Ed)(a:Sv)(M:Mo):List (Nat×List Nat)->Prop
 | []=>True
 | (i,D)::ts=>(∃o ob s,l[i]?=some o/\Z8 M D=some ob/\iL l a o=true/\T0 a i=some s /\
   ((O1 E i=false/\Neu P o (U4 (oO l a fr) (Y3 o.op)) ob (fun d=>d=s)) \/
    (O1 E i=true/\∃ob' b,OJ P nt o (U4 (oO l a fr) (Y3 o.op)) (bN c i).1 (bN c i).2 ob ob' s/\Z8 M (eU i D)=some b/\obIn2 b ob')))/\lZ P nt l fr E c a M ts
def TaskOk(P:Program)(nt:Nat)(l:List Oper)(fr:Fr)(E:List Nat)(c:Ed)(b:Sv)(M:Mo)(p:Nat×List Nat):Prop :=
 ∃ob s,Z8 M p.2=some ob/\T0 b p.1=some s/\Task P nt l fr b E c p.1 ob s (fun ob'=>∃a,Z8 M (eU p.1 p.2)=some a/\obIn2 a ob')
theorem nS{a:Sv}{i:Nat}{s:SV}(h:T0 a i=none\/T0 a i=some s){j:Nat}{x:SV}(c:T0 a j=some x):T0 ((i,s)::a) j=some x:=by
 show cond (Nat.beq i j) _ _=_;by_cases b:i=j
 ·subst b;rw[Nat.beq_refl];rcases h with h | h
  ·rw[h]at c;cases c
  ·rw[h]at c;exact c
 ·rw[I9 b];exact c
theorem AT:∀(l:List Nat),cZ l l=true
 | []=>rfl
 | a::l=>by simp[cZ,Nat.beq_refl,AT l]
theorem GX{M:Mo}{D0:List Nat}{b:Obs}(h:Z8 M D0=none){D:List Nat}{ob:Obs}(a:Z8 M D=some ob):Z8 ((D0,b)::M) D=some ob:=by
 show cond (cZ D0 D) _ _=_;cases hs:cZ D0 D
 ·exact a
 ·rw[eV hs]at h;rw[h]at a;cases a
theorem UIn2.mono{l:List Oper}{b a:Sv}{fr:Fr}{o:Oper}{U:Fr}(h:UIn2 l b fr o U)(k:∀j x,T0 b j=some x->T0 a j=some x):UIn2 l a fr o U:=fun t s m=>by
 obtain⟨d,c⟩:=h t s m;refine⟨d,?_⟩;rcases c with ⟨j,o',e,f,g⟩ | c
 ·exact .inl ⟨j,o',e,f,k j s g⟩
 ·exact .inr c
theorem AU{l:List Oper}{fr:Fr}{E:List Nat}{y:Ed}{K:Sv->Mo->Prop}:∀{w:List (Nat×List Nat)} {b:Sv} {M:Mo},pB P nt l fr E y K w b M ->
  ∃a M',(∀j x,T0 b j=some x->T0 a j=some x)/\(∀D ob,Z8 M D=some ob->Z8 M' D=some ob)/\K a M'/\∀p∈w,TaskOk P nt l fr E y a M' p
 | [],b,M,h=>⟨b,M,fun _ _ h=>h,fun _ _ h=>h,h,fun p d=>by simp at d⟩
 | (i,D)::w,b,M,h=>by
  obtain⟨o,ob,s,z,A,B,g,C⟩:=h;have c:T0 ((i,s)::b) i=some s:=by show cond (Nat.beq i i) _ _=_;rw[Nat.beq_refl];rfl
  rcases C with ⟨t,u,v⟩ | ⟨t,ob',u,h9,v⟩
  ·obtain⟨a,M',g1,f,k,q⟩:=AU v;refine⟨a,M',fun j x e=>g1 j x (nS g e),f,k,fun p d=>?_⟩;rcases C36.1 d with rfl | d
   ·exact⟨ob,s,f _ _ A,g1 _ _ c,o,_,z,(zH B).mono (fun j x e=>g1 j x (nS g e)),.inl ⟨t,u⟩⟩
   ·exact q p d
  ·obtain⟨a,M',g1,f,k,q⟩:=AU v;have G:Z8 ((eU i D,ob')::M) (eU i D)=some ob':=by show cond (cZ _ _) _ _=_;rw[AT];rfl
   refine⟨a,M',fun j x e=>g1 j x (nS g e),fun D' H F=>f _ _ (GX h9 F),k,fun p d=>?_⟩;rcases C36.1 d with rfl | d
   ·exact⟨ob,s,f _ _ (GX h9 A),g1 _ _ c,o,_,z,(zH B).mono (fun j x e=>g1 j x (nS g e)),.inr ⟨t,ob',u,ob',f _ _ G,fun _ _ h=>h⟩⟩
   ·exact q p d
theorem GY{l:List Oper}{fr:Fr}{E:List Nat}{d:Ed}{a:Sv}{M:Mo}:∀{c:List (Nat×List Nat)},lZ P nt l fr E d a M c->∀p∈c,TaskOk P nt l fr E d a M p
 | [],_,p,hp=>by simp at hp
 | (i,D)::c,h,p,hp=>by
  obtain⟨⟨o,ob,s,e,f,g,j,k⟩,m⟩:=h;rcases C36.1 hp with rfl | hp
  ·rcases k with ⟨g1,b⟩ | ⟨g1,ob',obT,b,g3,g4⟩
   ·exact⟨ob,s,f,j,o,_,e,zH g,.inl ⟨g1,b⟩⟩
   ·exact⟨ob,s,f,j,o,_,e,zH g,.inr ⟨g1,ob',b,obT,g3,g4⟩⟩
  ·exact GY m p hp
def KQ(a:Ed):List Nat:=a.flatMap fun p=>p.2.2
def edOk(E:List Nat)(a:Ed):Bool:=E.all fun e=>a.any fun p=>Nat.beq p.1 e
theorem AV:∀{b:Ed} {e:Nat},(b.any fun p=>Nat.beq p.1 e)=true->(e,bN b e)∈b
 | [],_,h=>by simp at h
 | (i,x)::r,e,h=>by
  by_cases a:i=e
  ·subst a;have:bN ((i,x)::r) i=x:=by show cond (Nat.beq i i) _ _=_;rw[Nat.beq_refl];rfl
   rw[this];exact List.mem_cons_self ..
  ·have c:bN ((i,x)::r) e=bN r e:=by show cond (Nat.beq i e) _ _=_;rw[I9 a];rfl
   rw[c];simp only[List.any_cons,I9 a,Bool.false_or]at h;exact List.mem_cons_of_mem _ (AV h)
def Fin2(P:Program)(nt:Nat)(l:List Oper)(fr:Fr)(E:List Nat)(d:Ed)(T2:List (Nat×List Nat))(Q:Post)(b:Sv)(M:Mo):Prop :=
 (pA l l.toArray b fr d&&(List.range l.length).all fun j=>(T0 b j).isSome)=true/\lZ P nt l fr E d b M T2/\∃c,Z8 M E=some c/\Q .normal (u7 (KQ d) (oO l b fr)) c
theorem Q9{id:Nat}{l:List Oper}{fr:Fr}{b:Obs}{Q:Post}(E:List Nat)(Ms:List (List Nat))(c:Ed)(T1 T2:List (Nat×List Nat))(I:P.follows .mixedOrders=true)
  (q:(conf2 nt l E Ms c (T1++T2)&&edOk E c)=true) (h:pB P nt l fr E c (Fin2 P nt l fr E c T2 Q) T1 [] [([],b)]):WpC P nt (.region id l.toArray true) fr b Q:=by
 simp only[C30]at q;obtain⟨y,M,L,A,⟨v,B,K,C,D⟩,F⟩:=AU h;simp only[C30]at v;refine c_core E Ms c (T1++T2) y M I q.1 (fun e w=>⟨bN c e,AV (List.all_eq_true.1 q.2 e w),rfl⟩) v.1 (A [] b rfl) (fun p f=>?_) C (fun t s J=>?_) D
 ·rcases C37.1 f with f | f
  ·exact F p f
  ·exact GY B p f
 ·obtain⟨H,G⟩:=UE.1 J;refine⟨fun e w a=>H ?_,?_⟩
  ·have:=AV (List.all_eq_true.1 q.2 e w);exact List.mem_flatMap.2 ⟨_,this,a⟩
  ·rcases AR G with ⟨j,o,g1,u,k⟩ | ⟨g1,u⟩
   ·exact .inl ⟨j,o,u,k,g1⟩
   ·refine .inr ⟨fun a=>?_,g1⟩;obtain⟨j,o,k,z⟩:=sP a;have:=List.all_eq_true.1 v.2 j (C40.2 (List.getElem?_eq_some_iff.1 k).1);exact u j o (fun e=>by rw[e]at this;cases this) k z
theorem D6{l:List Oper}{fr:Fr}{E:List Nat}{b:Ed}{K:Sv->Mo->Prop}{i:Nat}{D:List Nat}{c:List (Nat×List Nat)}{a:Sv}{M:Mo}{o:Oper}{ob:Obs}{s:SV}(e:l[i]?=some o)(d:Z8 M D=some ob)(g:iL l a o=true)
  (j:T0 a i=none) (f:O1 E i=false) (h:Neu P o (U4 (oO l a fr) (Y3 o.op)) ob (fun m=>m=s)) (k:pB P nt l fr E b K c ((i,s)::a) M):pB P nt l fr E b K ((i,D)::c) a M :=
 ⟨o,ob,s,e,d,g,.inl j,.inl ⟨f,h,k⟩⟩
theorem Z9{l:List Oper}{fr:Fr}{E:List Nat}{b:Ed}{K:Sv->Mo->Prop}{i:Nat}{D:List Nat}{c:List (Nat×List Nat)}{a:Sv}{M:Mo}{o:Oper}{ob ob':Obs}{s:SV}(f:l[i]?=some o)(d:Z8 M D=some ob)(j:iL l a o=true)
  (m:T0 a i=none) (g:O1 E i=true) (h:OJ P nt o (U4 (oO l a fr) (Y3 o.op)) (bN b i).1 (bN b i).2 ob ob' s) (e:Z8 M (eU i D)=none) (k:pB P nt l fr E b K c ((i,s)::a) ((eU i D,ob')::M)):pB P nt l fr E b K ((i,D)::c) a M :=
 ⟨o,ob,s,f,d,j,.inl m,.inr ⟨g,ob',h,e,k⟩⟩
theorem sQ{l:List Oper}{fr:Fr}{E:List Nat}{d:Ed}{T2:List (Nat×List Nat)}{Q:Post}{b:Sv}{M:Mo}{c:Obs}(f:(pA l l.toArray b fr d&&(List.range l.length).all fun j=>(T0 b j).isSome)=true)(g:Z8 M E=some c)
  (h:lZ P nt l fr E d b M T2) (k:Q .normal (u7 (KQ d) (oO l b fr)) c):pB P nt l fr E d (Fin2 P nt l fr E d T2 Q) [] b M:=⟨f,h,c,g,k⟩
theorem L6{l:List Oper}{fr:Fr}{E:List Nat}{b:Ed}{i:Nat}{D:List Nat}{c:List (Nat×List Nat)}{a:Sv}{M:Mo}{o:Oper}{ob:Obs}{s:SV}(e:l[i]?=some o)(d:Z8 M D=some ob)(g:iL l a o=true)
  (j:T0 a i=some s) (f:O1 E i=false) (h:Neu P o (U4 (oO l a fr) (Y3 o.op)) ob (fun m=>m=s)) (k:lZ P nt l fr E b a M c):lZ P nt l fr E b a M ((i,D)::c) :=
 ⟨⟨o,ob,s,e,d,g,j,.inl ⟨f,h⟩⟩,k⟩
theorem pC{l:List Oper}{fr:Fr}{E:List Nat}{b:Ed}{a:Sv}{M:Mo}:lZ P nt l fr E b a M []:=trivial
theorem W9{U a:Fr}(d:AQ U a){x:Operand}{s:SV}(h:opv U x=some s):opv a x=some s:=by
 cases x with
 | tmp t =>
  have h:cW U t=some s:=h;obtain⟨b,c⟩:=GI h;show cW a t=some s;unfold cW;have:Nat.blt t 1000000=true:=by simpa using b
  rw[this];exact d t s c
 | _=>exact h
theorem argsU{U a:Fr}(d:AQ U a):∀{e:List Operand} {ps:List S1},fQ U e=some ps->fQ a e=some ps
 | [],ps,h=>h
 | x :: r,ps,h=>by
  unfold fQ at h ⊢;cases c:opv U x with
  | none=>rw[c]at h;cases h
  | some sv =>
   rw[c]at h;cases sv with
   | s g =>
    simp only at h;cases b:fQ U r with
    | none=>rw[b]at h;cases h
    | some f =>
     rw[b]at h;rw[W9 d c];simp only;rw[argsU d b];exact h
   | _=>cases h
theorem sR{U:Fr}{j:Op}{ty:TypeId}{pos:String}{af:Array Edge}{ob ob':Obs}(h:∀b,AQ U b->Eff P ⟨none,j,ty,pos,af,none⟩ b ob b ob'):OJ P nt ⟨none,j,ty,pos,af,none⟩ U [] [] ob ob' .any:=by
 intro b k _ S G a w q hs;have:=h b k S G a w hs;have g:u7 [] b=b:=by unfold u7;exact List.filter_eq_self.2 fun p _=>rfl
 have c:∀(v:Value) (w':World),(∃G',Sim P S b ob' G' a w')->∃G',Sim P S (u7 [] b) ob' G' a w'/\∀d,(none:Option Tmp)=some d->SV.rep (D9 (Mut S ob' G') w') G' .any v:=fun v w' ⟨G',h⟩=>⟨G',by rw[g];exact h,fun d l=>by cases l⟩
 unfold Does at this ⊢;generalize (execOp a.eval _).run P w=r at *;cases r with
 | ok n w' =>
  cases n<;>simp only at this ⊢<;>try exact this.elim
  case value v=>exact c v w' this
  case skip=>exact c undef w' this
  case enter f args=>exact this.mono fun e i ⟨v,m,o⟩=>⟨v,m,c v i o⟩
 | halt x w'=>exact this
theorem jJ{U:Fr}{k:Nat}{c:List Nat}{o:Oper}{ob ob':Obs}{s:SV}(h:∀b,AQ U b->EffV P o b ob s (Fr.forget k b) ob'):OJ P nt o U [k] c ob ob' s:=by
 intro b m g S G a w A hs;have:=h b m S G a w hs
 have i:∀(v:Value) (w':World),(∃G',Sim P S (Fr.forget k b) ob' G' a w'/\s.rep (D9 (Mut S ob' G') w') G' v)->∃G',Sim P S (u7 c b) ob' G' a w'/\∀d,o.dst=some d->s.rep (D9 (Mut S ob' G') w') G' v:=fun v w' ⟨G',h,y⟩=>⟨G',h.weaken (fun t x j=>by
  obtain⟨q,j⟩:=UE.1 j;rw[P1,j]
  simp[SV.forget_free (g k (by simp) t x j q)]),fun _ _=>y⟩
 unfold Does at this ⊢;generalize (execOp a.eval _).run P w=r at *;cases r with
 | ok n w' =>
  cases n<;>simp only at this ⊢<;>try exact this.elim
  case value v=>exact i v w' this
  case skip=>exact i undef w' this
  case enter f args=>exact this.mono fun e l ⟨v,p,z⟩=>⟨v,p,i v l z⟩
 | halt x w'=>exact this
theorem pD:∀{a:List Nat} {fr:Fr} {t:Nat} {x:SV},D4 fr t=some x->(∀k∈a,x.free k=true)->D4 (C8 a fr) t=some x
 | [],_,_,_,h,_=>h
 | k::a,fr,t,x,h,hf=>by
  show D4 (C8 a (Fr.forget k fr)) t=some x;refine pD ?_ (fun c b=>hf c (List.mem_cons_of_mem _ b));rw[P1,h];simp[SV.forget_free (hf k (List.mem_cons_self ..))]
theorem r_met{f:FuncId}{m:List Operand}{H:Array TypeId}{d:Nat}{ty:TypeId}{pos:String}{af:Array Edge}{U:Fr}{args:List S1}{Q E:List Nat}{ob ob':Obs}{rs:List S1}
  (V:∀gf,Met P f args gf ob Q (fun N g=>N=rs/\g=ob')) (ha:fQ U m=some args) (X:m.all H3=true):OJ P nt ⟨some d,.call ⟨.value (.func f),m.toArray,H⟩,ty,pos,af,none⟩ U Q E ob ob' (AH rs):=by
 intro b W B S G a w hn h;have D:=bY h m args (argsU W ha) X;obtain⟨F,I⟩:∃F:Nat->Value,F=fun i=>S.sl a (i-1000000):=⟨_,rfl⟩
 let S':Ctx:={ S with gv:=F }
 have C:High (oN b):=fun i s J=>(aO b i s J).1;have j:∀i s,D4 (oN b) i=some s->s.rep (D9 (Mut S' ob G) w) G (S'.sl a i):=by
  intro i s J;obtain⟨z,R⟩:=aO b i s J;rw[Ctx.sl_ge z];show s.rep _ _ (F i);have e:=congrFun I i;rw[e];exact h.facts (i-1000000) s R
 have hs:Sim P S' (oN b) ob G a w:={ h with facts:=j }
 have p:=(V (oN b)).2 C S' G a w _ hs D;have Y:(execOp a.eval ⟨some d,.call ⟨.value (.func f),m.toArray,H⟩,ty,pos,af,none⟩).run P w=.ok (.enter f (m.map a.eval).toArray) w:=by
  have:=Q5 (P:=P) (f:=f) (args:=(m.map a.eval).toArray) (w:=w) (V []).1;have hm:m.toArray.map a.eval=(m.map a.eval).toArray:=by simp
  simp only[execOp,resolve,Act.eval,Deferred.ofValue,Sem.run_bind,Sem.run_pure,Result.andThen_ok,invoke];rw[show (#[]:Array Value)++Array.map a.eval m.toArray++#[]=(m.map a.eval).toArray by rw[<-hm];simp];exact this
 unfold Does;rw[Y];refine p.mono ?_;rintro e w' ⟨v,N,g,G',rfl,⟨rfl,rfl⟩,K,L⟩;have q:∀i s,D4 (C8 Q b) i=some s->s.rep (D9 (Mut S g G') w') G' (S.sl a i):=by
  intro i s J;have z:=L.facts (i+1000000) s (by rw[cY];exact zG J);have R:1000000<=i+1000000:=Nat.le_add_left _ _;rw[Ctx.sl_ge R]at z;have z:s.rep (D9 (Mut S g G') w') G' (F (i+1000000)):=z;have e:=congrFun I (i+1000000);simp only[Nat.add_sub_cancel]at e;rw[e]at z;exact z
 have M:Sim P S (C8 Q b) g G' a w':={ L with facts:=q }
 refine⟨v,rfl,G',M.weaken (fun t x O=>?_),fun _ _=>K⟩;obtain⟨Z,O⟩:=UE.1 O;exact pD O (fun k T=>B k T t x O Z)
theorem C16(k:Nat)(α:Type)(j:Nat)(c:α->Nat->Cell)(e:TypeId){kb o n m:Nat}{B:List TC}(hb:B4 ob kb=some (.tarr n m B))(J:B[o]?=some (.p (.v (.slice none 0 0))))(M:(G5 k fr&&K5 k ob)=true) :
  Sees P nt fr ob fr ((kb,.tarr n m (B.set o (.buf k α j c [])))::(k,.spare 0 j e)::ob):=by
 simp only[C30]at M;obtain⟨Q,R⟩:=M;obtain⟨T,C,W⟩:=Q6 R;intro S G a w hn h;have D:=h.new W (o:=.spare 0 j e) (u:=.slice none 0 0) (w1:=w) C (Below.refl _ _) (fun b hb=>by simp[blk]at hb) ⟨[],World.ownsRow_nil w _ _ _⟩;rw[T4 Q,T]at D;have H:k≠kb:=fun U=>by rw[U,hb]at C;cases C
 have x:B4 ((k,Ob.spare 0 j e)::ob) kb=some (.tarr n m B):=by rw[B0 H];exact hb
 obtain⟨b,vs,t,V,hl,Z,N,ha⟩:=D.obs kb _ x;have d:blk (upd G k (.slice none 0 0) kb)=some b:=by rw[V];rfl
 refine⟨_,D.retell x d (fun i=>⟨d,trivial⟩) (fun i=>⟨d,trivial⟩) ?_⟩;rintro rd ⟨O,L,Y,E,I,F,g,q⟩;refine⟨O,L,Y,E,I,F,by simpa using g,B97 o (fun z X=>?_) q⟩;obtain⟨z',A,K⟩:=q.get o _ J;rw[X]at A;cases A;rw[K.1];exact⟨(G7 _ _ _).symm,F0 α j c⟩
def YI(L:Obs):List Nat:=L.map (·.1)
theorem r9{L c rest:Obs}(h:ObIn c L)(g:∀j x,O1 (YI L) j=false->B4 rest j=some x->B4 c j=some x):∀j x,B4 (L++rest) j=some x->B4 c j=some x:=by
 have e:∀(L:Obs) (j:Nat) (x:Ob),B4 (L++rest) j=some x->(B4 L j=some x)\/(O1 (YI L) j=false/\B4 rest j=some x):=by
  intro L;induction L with
  | nil=>intro j x a;exact .inr ⟨rfl,a⟩
  | cons p r l =>
   obtain⟨k,o⟩:=p;intro j x a;have a:B4 ((k,o)::(r++rest)) j=some x:=a;by_cases d:k=j
   ·subst d;rw[C4]at a;left;rw[C4];exact a
   ·rw[B0 d]at a;rcases l j x a with b | ⟨b,h2⟩
    ·left;rw[B0 d];exact b
    ·right;refine⟨?_,h2⟩;cases f:O1 (YI ((k,o)::r)) j
     ·rfl
     ·rcases C36.1 (OE.1 f) with q | q
      ·exact absurd q.symm d
      ·rw[show O1 (YI r) j=true from OE.2 q]at b;cases b
 intro j x a;rcases e L j x a with b | ⟨b,h2⟩
 ·exact h.spec j x b
 ·exact g j x b h2
theorem mA{K:List Nat}{rest:Obs}:∀j x,O1 K j=false->B4 rest j=some x->B4 rest j=some x:=fun _ _ _ h=>h
theorem sS{K:List Nat}{T rest:Obs}{k:Nat}{o:Ob}(b:O1 K k=true)(h:∀j x,O1 K j=false->B4 rest j=some x->B4 T j=some x):∀j x,O1 K j=false->B4 rest j=some x->B4 ((k,o)::T) j=some x:=by
 intro j x a c;have:k≠j:=fun e=>by rw[e,a]at b;cases b
 rw[B0 this];exact h j x a c
theorem obs_fgt{K:List Nat}{T ob:Obs}(k:Nat)(h:∀j x,O1 K j=false->B4 (Obs.forget k ob) j=some x->B4 T j=some x):∀j x,O1 K j=false->B4 (Obs.forget k ob) j=some x->B4 (Obs.forget k T) j=some x:=by
 intro j x d a;have c:=h j x d a;rw[M1,c];have b:=a;rw[<-Obs.forget_idem,M1,a]at b;exact b
theorem OK{rest:Obs}:∀{L:Obs} {j:Nat} {x:Ob},B4 (L++rest) j=some x->B4 L j=some x\/B4 rest j=some x
 | [],j,x,a=>.inr a
 | (k,o)::r,j,x,a=>by
  have a:B4 ((k,o)::(r++rest)) j=some x:=a;by_cases c:k=j
  ·subst c;rw[C4]at a;left;rw[C4];exact a
  ·rw[B0 c]at a;rcases OK a with b | b
   ·left;rw[B0 c];exact b
   ·exact .inr b
section
variable {P:Program}{nt:Nat}{fr gf:Fr}{ob:Obs}
theorem C22(k:Nat){l:Fr}{L:Obs}(N:FrLe fr l)(K:High gf)(O:Tail gf fr)(M:ObIn ob L):Sees P nt fr ob (l++Fr.forget k gf) (L++Obs.forget k ob):=by
 intro S G a w T h;have c:∀d m,B4 (L++Obs.forget k ob) d=some m->∃u,B4 ob d=some u/\(m=u\/m=u.forget k):=by
  intro d m j;rcases OK j with q | q
  ·exact⟨m,M.spec d m q,.inl rfl⟩
  ·rw[M1]at q;cases B:B4 ob d with
   | none=>rw[B]at q;cases q
   | some u=>rw[B]at q;cases q;exact⟨u,rfl,.inr rfl⟩
 have y:∀b i z,D9 (Mut S ob G) w b i z->D9 (Mut S (L++Obs.forget k ob) G) w b i z:=by
  intro b i z J;refine⟨J.1,fun I=>J.2 ?_⟩;rcases I with I | ⟨d,m,j,hb⟩
  ·exact .inl I
  ·obtain⟨u,A,rfl | rfl⟩:=c d m j
   ·exact .inr ⟨d,_,A,hb⟩
   ·exact .inr ⟨d,u,A,Own_forget.1 hb⟩
 refine⟨G,{ h with old:=?_,dis:=?_,obs:=?_,facts:=?_ }⟩
 ·intro d m b j hb;obtain⟨u,A,_⟩:=c d m j;exact h.old d u b A hb
 ·intro k1 k2 m Q b q D F H;obtain⟨R,ha,_⟩:=c k1 m q;obtain⟨ob',E,_⟩:=c k2 Q D;exact h.dis k1 k2 R ob' b ha E F H
 ·intro d m j;obtain⟨u,A,rfl | rfl⟩:=c d m j
  ·exact (h.obs d _ A).ext y (Below.refl _ _)
  ·exact ((h.obs d u A).ext y (Below.refl _ _)).forget (fun _ _=>rfl)
 ·intro i s p;rw[Y1]at p;cases B:D4 l i with
  | some C =>
   rw[B]at p;have p:some C=some s:=p;cases p;obtain⟨s1,q,D⟩:=N.spec i _ B;exact D.rep (SV.rep_mono y (h.facts i s1 q))
  | none =>
   rw[B]at p;have p:D4 (Fr.forget k gf) i=some s:=p;rw[P1]at p;cases v:D4 gf i with
   | none=>rw[v]at p;cases p
   | some C =>
    rw[v]at p;cases p;exact SV.rep_forget (fun _ _=>rfl) (SV.rep_mono y (h.facts i C (O i C (K i C v) v)))
end
theorem Sim.retold{S:Ctx}{G:Gh}{a:Act}{w:World}(h:Sim P S fr ob G a w){k:Nat}{o u:Ob}(F:B4 ob k=some o)(q:∀b i,Own (G k) u b i->Own (G k) o b i)
  (E:∀I:Rd,ObOk S I G w (G k) o->ObOk S I G w (G k) u):Sim P S fr ((k,u)::ob) G a w:=by
 have f:∀d j,B4 ((k,u)::ob) d=some j->∃p,B4 ob d=some p/\∀b i,Own (G d) j b i->Own (G d) p b i:=by
  intro d j c;by_cases g:d=k
  ·subst g;rw[C4]at c;cases c;exact⟨_,F,q⟩
  ·rw[B0 (Ne.symm g)]at c;exact⟨_,c,fun _ _ E=>E⟩
 have m:∀b i z,D9 (Mut S ob G) w b i z->D9 (Mut S ((k,u)::ob) G) w b i z:=by
  intro b i z H;refine⟨H.1,fun D=>H.2 ?_⟩;rcases D with D | ⟨d,j,c,hb⟩
  ·exact .inl D
  ·obtain⟨p,v,C⟩:=f d j c;exact .inr ⟨d,p,v,C _ _ hb⟩
 refine { h with old:=?_,dis:=?_,obs:=?_,facts:=?_ }
 ·intro d j b c hb;obtain⟨p,v,_⟩:=f d j c;exact h.old d p b v hb
 ·intro k1 k2 j L b J K A B;obtain⟨M,ha,_⟩:=f k1 j J;obtain⟨ob',y,_⟩:=f k2 L K;exact h.dis k1 k2 M ob' b ha y A B
 ·intro d j c;by_cases g:d=k
  ·subst g;rw[C4]at c;cases c;exact E _ ((h.obs d _ F).ext m (Below.refl _ _))
  ·rw[B0 (Ne.symm g)]at c;exact (h.obs d j c).ext m (Below.refl _ _)
 ·intro i s C;exact SV.rep_mono m (h.facts i s C)
theorem Sim.grow_cell{S:Ctx}{G:Gh}{a:Act}{w:World}(h:Sim P S fr ob G a w){k b n j i o f:Nat}{e:TypeId}{α:Type}{c:α->Nat->Cell}{m:List α}{v:α}(A:B4 ob k=some (.grow e α f c m))(x:G k=.slice (some ⟨b,0,none⟩) n j)(C:m[i]?=some v)(B:o<f) :
  ∃z,w.cell? ⟨b,i*f+o,none⟩=some z/\(c v o).rep (D9 (Mut S ob G) w) z:=by
 obtain⟨D,d,_,u⟩:=h.obs k _ A;obtain⟨y,rfl⟩:=List.getElem?_eq_some_iff.1 C;obtain⟨z,q,t⟩:=u i y o B;have:=d.cells (g:=b) (by rw[x];rfl) (i*f+o) z q;exact⟨z,by simpa[Addr.add_lit] using this,t⟩
theorem sU{x:Operand}{t e:TypeId}{k i o:Nat}{α:Type}{ec:Nat}{c:α->Nat->Cell}{xs:List α}{v:α}[ht:TyOne P t](E:opv fr x=some (.s (.one (.mref k ec i o))))(A:B4 ob k=some (.grow e α ec c xs))(D:xs[i]?=some v)
  (B:Nat.blt o ec=true):Neu P ⟨dst,.load t x,ty,pos,af,gd⟩ fr ob (fun F=>F=.s (.one (.p (c v o)))) :=
 E1 fun S G a w h=>by
  obtain⟨b,n,u,y,C⟩:=F4 h E;obtain⟨z,j,q⟩:=h.grow_cell A y D (by simpa using B);refine⟨z,?_,q⟩;simp only[execOp,C];exact J8 (by simp[Instr.loadAt,Instr.sureAddr,P2 j])
theorem ret4{fn:Func}{t o b t3:Tmp}{s v g x:S1}{p q f r:PV}(z:fn.results=#[.tmp t,.tmp o,.tmp b,.tmp t3])(A:cW fr t=some (.s s))(y:s.pv?=some p)(k:cW fr o=some (.s v))(i:v.pv?=some q)
  (d:cW fr b=some (.s g)) (c:g.pv?=some f) (n:cW fr t3=some (.s x)) (j:x.pv?=some r):RetOk P fn fr ob [p,q,f,r] :=
 fun S G a w h=>⟨.tuple #[a.tmps.getD t undef,a.tmps.getD o undef,a.tmps.getD b undef,a.tmps.getD t3 undef],by simp[results,z],[_,_,_,_],rfl,aK h A y,aK h k i,aK h d c,aK h n j,trivial⟩
theorem OL(k:Nat)(α:Type)(c:α->Nat->Cell){t e:TypeId}{f d:Nat}[ht:TySl P t e f d](q:B4 ob k=none)(x:Nat.blt k 1000000=true) :
  EffV P ⟨dst,.assign (.const (.slice none 0 0)),t,pos,af,gd⟩ fr ob (.s (.one (.mut k))) (Fr.forget k fr) ((k,.grow e α f c [])::Obs.forget k ob):=by
 intro S G a w h;refine F3 (w':=w) (v:=.slice none 0 0) Z ?_;have j:=h.new (by simpa using x) (o:=.grow e α f c []) (u:=.slice none 0 0) (w1:=w) q (Below.refl _ _) (fun b hb=>by simp[blk]at hb) ⟨[],World.ownsRow_nil w _ _ _,by simp,fun i p=>absurd p (by simp)⟩;exact⟨upd G k (.slice none 0 0),j,(G7 _ _ _).symm,rfl⟩
theorem tail_drop{gf:Fr}{b:List Nat}(e:(b.all fun k=>Nat.blt k 1000000)=true)(h:Tail gf fr):Tail gf (u7 b fr):=fun i s d c=>by
 refine UE.2 ⟨fun a=>?_,h i s d c⟩;have:=List.all_eq_true.1 e i a;have:i<1000000:=by simpa using this
 omega
theorem AW{a ec p:Nat}(b:p<a):p*ec+ec<=a*ec:=by
 have:(p+1)*ec<=a*ec:=C47 _ b;rw[C62,Nat.one_mul]at this;omega
theorem sV{b:Nat}{c:List Value}{p o:Nat}(d:o<b):((c.drop (p*b)).take b)[o]?=c[p*b+o]?:=by
 rw[C59 d,C61]
theorem UF{ec n:Nat}{b:List Value}{p:Nat}(d:b.length=n*ec)(c:p<n):((b.drop (p*ec)).take ec).length=ec:=by
 have:=AW (ec:=ec) c;rw[C41,C45];omega
theorem C23(k p:Nat){e:TypeId}{α:Type}{l:Nat}{c:α->Nat->Cell}{q:List α}{v:α}(F:B4 ob k=some (.grow e α l c q))(I:q[p]?=some v) :
  Sees P nt fr ob fr ((k,.growA e α l c q p ((cellsOf c v 0 l).map .p))::ob):=fun S G a w K h=>by
 obtain⟨y,rfl⟩:=List.getElem?_eq_some_iff.1 I;refine⟨G,h.retold F (fun b i H=>⟨H.1,trivial⟩) ?_⟩;rintro L ⟨J,f,n,B⟩;refine⟨J,f,n,y,by simp[I7],fun i h _ j u=>B i h j u,?_⟩;refine cX (by rw[UF f.1 y];simp[I7]) fun j t z s x=>?_;rw[C63]at s;cases d:(cellsOf c q[p] 0 l)[j]? with
 | none=>simp[d]at s
 | some C =>
  simp[d]at s;have u:j<l:=by have:=(List.getElem?_eq_some_iff.1 d).1;rw[I7]at this;exact this
  obtain⟨rfl,_⟩:=U0 c q[p] l 0 j C d;subst s;rw[sV u]at x;obtain⟨M,D,E⟩:=B p y j u;rw[D]at x;cases x;simpa[TC.rep] using E
theorem C17(k:Nat){e:TypeId}{α:Type}{m:Nat}{c:α->Nat->Cell}{q:List α}{p:Nat}{H:List TC}(y:α)(K:B4 ob k=some (.growA e α m c q p H))(E:dT H=some (cellsOf c y 0 m)) :
  Sees P nt fr ob fr ((k,.grow e α m c (q.set p y))::ob):=fun S G a w O h=>by
 refine⟨G,h.retold K (fun b i L=>⟨L.1,trivial⟩) ?_⟩;rintro R ⟨N,x,u,Q,M,J,ha⟩;refine⟨N,by simpa using x,by simpa using u,fun i B j D=>?_⟩;have C:i<q.length:=by simpa using B
 by_cases f:i=p
 ·subst f;have d:(q.set i y)[i]'B=y:=by simp
  rw[d];have s:(cellsOf c y 0 m)[j]?=some (c y j):=by
   have v:j<(cellsOf c y 0 m).length:=by rw[I7];exact D
   rw[C29 v];have:=U0 c y m 0 j _ (C29 v);rw[this.1,Nat.zero_add]
  obtain⟨z,F,I⟩:=(r8 E ha).get _ _ s;rw[sV D]at F;exact⟨z,F,I⟩
 ·have d:(q.set p y)[i]'B=q[i]:=by rw[List.getElem_set_ne (Ne.symm f)]
  rw[d];exact J i C f j D
theorem OM{x:Operand}{t e y:TypeId}{z d k B p:Nat}{α:Type}{c:α->Nat->Cell}{v:List α}{H:List TC}(E:opv fr x=some (.s (.one (.mut k))))(D:B4 ob k=some (.growA y α B c v p H))[ht:TySl P t e z d] :
  Neu P ⟨dst,.call ⟨.builtin .len,#[x],#[t]⟩,ty,pos,af,gd⟩ fr ob (fun F=>F=B2 v.length) :=
 E1 fun S G a w h=>by
  refine⟨.int .i64 v.length,?_,rfl,rfl⟩;obtain⟨j,_⟩:=F4 h E;obtain⟨I,f,_⟩:=h.obs k _ D;rcases f.2 with ⟨q,C⟩ | ⟨g,cap,cur,q,_⟩
  ·rw[q]at j;simp[execOp,resolve,invoke,builtin,j,Builtin.len_,run_underlying ht.out.1,goInt,C]
  ·rw[q]at j;simp[execOp,resolve,invoke,builtin,j,Builtin.len_,run_underlying ht.out.1,goInt]
theorem AX{x y:Operand}{t e B:TypeId}{l b k p:Nat}{α:Type}{c:α->Nat->Cell}{q:List α}{K:List TC}{I:IntKind}{i:Int}[ht:TySl P t e l b](F:opv fr x=some (.s (.one (.mut k))))(E:B4 ob k=some (.growA B α l c q p K))
  (H:opv fr y=some (I6 (.int I i))) (C:0<=i) (D:i<q.length):Neu P ⟨dst,.indexAddr t x y,ty,pos,af,gd⟩ fr ob (fun J=>J=.s (.one (.mref k l i.toNat 0))) :=
 E1 fun S G a w h=>by
  obtain⟨z,_⟩:=F4 h F;obtain⟨M,j,_⟩:=h.obs k _ E;rcases j.2 with ⟨v,L⟩ | ⟨g,cap,cur,v,_⟩
  ·omega
  ·rw[v]at z;refine⟨.pointer (some ⟨g,i.toNat*l,none⟩),?_,g,q.length,cap,v,rfl⟩;simp only[execOp,z,E9 h H];refine J8 ?_;have hb:0<=i/\i<(q.length:Int):=⟨C,D⟩
   simp[Instr.indexAt,run_underlying ht.out.1,asIntOf,hb,H4 ht.size,Addr.add_lit]
theorem eM{x:Operand}{t e:TypeId}{k p q o:Nat}{α:Type}{j:Nat}{c:α->Nat->Cell}{N:List α}{C:List TC}{s:TC}[ht:TyOne P t](L:opv fr x=some (.s (.one (.mref k j q o))))(F:B4 ob k=some (.growA e α j c N p C))(I:q=p)(B:C[o]?=some s) :
  Neu P ⟨dst,.load t x,ty,pos,af,gd⟩ fr ob (fun M=>M=.s (.one s)) :=
 E1 fun S G a w h=>by
  subst I;obtain⟨b,m,D,E,K⟩:=F4 h L;obtain⟨Q,u,_,O,J,_,ha⟩:=h.obs k _ F;obtain⟨z,v,y⟩:=ha.get _ s B;have H:o<j:=by have:=(List.getElem?_eq_some_iff.1 B).1;omega
  rw[sV H]at v;have:=u.cells (g:=b) (by rw[E];rfl) (q*j+o) z v;refine⟨z,?_,y⟩;simp only[execOp,K];refine J8 ?_;have i:w.cell? ⟨b,q*j+o,none⟩=some z:=by simpa[Addr.add_lit] using this
  simp[Instr.loadAt,Instr.sureAddr,P2 (ht:=ht) i]
theorem row_set{c b:List Value}{N p ec o n:Nat}(E:p*ec+ec<=N)(z:N<=c.length)(w:b.length=n)(F:o+n<=ec) :
  (((c.take (p*ec+o)++b++c.drop (p*ec+o+n)).take N).drop (p*ec)).take ec
   = (((c.take N).drop (p*ec)).take ec).take o++b++(((c.take N).drop (p*ec)).take ec).drop (o+b.length):=by
 subst w;obtain⟨A,u⟩:∃A,A=c.take (p*ec+o):=⟨_,rfl⟩
 obtain⟨B,x⟩:∃B,B=c.drop (p*ec+o+b.length):=⟨_,rfl⟩
 obtain⟨R,v⟩:∃R,R=((c.take N).drop (p*ec)).take ec:=⟨_,rfl⟩
 have m:A.length=p*ec+o:=by rw[u];simp;omega
 have C:R.length=ec:=by rw[v];simp;omega
 have q:∀j,j<ec->R[j]?=c[p*ec+j]?:=fun j s=>by rw[v,sV s,C59 (by omega)]
 rw[<-u,<-x,<-v];apply List.ext_getElem?;intro j;by_cases s:j<ec
 ·rw[sV s,C59 (by omega)];by_cases y:j<o
  ·have f:(A++b++B)[p*ec+j]?=A[p*ec+j]?:=by rw[C42];exact C46 (by omega)
   have i:(R.take o++b++R.drop (o+b.length))[j]?=(R.take o)[j]?:=by rw[C42];exact C46 (by rw[C41];omega)
   rw[f,i,u,C59 (by omega),C59 y,q j s]
  ·by_cases D:j<o+b.length
   ·have f:(A++b++B)[p*ec+j]?=b[p*ec+j-A.length]?:=by
     rw[C46 (by rw[C32];omega)];exact C52 (by omega)
    have i:(R.take o++b++R.drop (o+b.length))[j]?=b[j-(R.take o).length]?:=by
     rw[C46 (by rw[C32,C41];omega)];exact C52 (by rw[C41];omega)
    rw[f,i,m,C41]
    congr 1;omega
   ·have f:(A++b++B)[p*ec+j]?=B[p*ec+j-(A++b).length]?:=C52 (by rw[C32];omega);have i:(R.take o++b++R.drop (o+b.length))[j]?=(R.drop (o+b.length))[j-(R.take o++b).length]?:=C52 (by rw[C32,C41];omega);rw[f,i,x,C61,C61,C32,C32,C41,m];rw[show p*ec+o+b.length+(p*ec+j-(p*ec+o+b.length))=p*ec+j by omega,show o+b.length+(j-(min o R.length+b.length))=j by omega,q j s]
 ·rw[C49 (by rw[C41];omega),C49 (by simp only[C32,C41,C45];omega)]
theorem AY{t e:TypeId}{x y:Operand}{k p q o n:Nat}{α:Type}{ec:Nat}{c:α->Nat->Cell}{M:List α}{ts:List TC}{s:S1}(al:(P.info? t).map (·.size)=some n)(hx:opv fr x=some (.s (.one (.mref k ec q o))))(hk:B4 ob k=some (.growA e α ec c M p ts))(hq:q=p)
  (hy:opv fr y=some (.s s)) (N:H3 y=true) (hn:s.cells.length=n) (ho:Nat.ble (o+n) ec=true) :
  Eff P ⟨none,.store t x y,ty,pos,af,gd⟩ fr ob fr ((k,.growA e α ec c M p (setTs ts o s.cells))::ob):=by
 intro S G a w h;subst hq;obtain⟨b,m,ag,hg,hu⟩:=F4 h hx;obtain⟨vs,D,W,X,ad,hc,ha⟩:=h.obs k _ hk;have hl:=D.1;rcases D.2 with ⟨ao,h2⟩ | ⟨b',cap',cur,hg',hB,hh,hcap,hmax,hcs,htake⟩
 ·omega
 rw[hg]at hg';cases hg';have hr:(SV.s s).rep (D9 (Mut S ob G) w) G (a.eval y):=N8 h hy N;have d:=B93 hr;have B:(a.eval y).cells.size=n:=by rw[<-hn,d.length];simp
 have V:o+n<=ec:=by simpa using ho
 have ai:q*ec+ec<=M.length*ec:=AW X;have aj:M.length*ec<=cur.size:=by rw[hcs];exact C47 _ hcap
 have ah:w.heap[b]?=some (.cells cur.toList.toArray e (0,0)):=by rw[Array.toArray_toList];exact hh
 obtain⟨w',ac,ak,K,Y,J,C,F⟩:=Y8 (P:=P) (t:=t) (w:=w) (b:=b) (o:=q*ec+o) (v:=a.eval y) (by rw[al,B]) ah (iH d) (by rw[B];simp;omega);unfold Does;have he:(execOp a.eval ⟨none,.store t x y,ty,pos,af,gd⟩).run P w=.ok .skip w':=by
  simp[execOp,hu,Instr.storeAt,Instr.sureAddr,ac]
 rw[he];have E:blk (G k)=some b:=by rw[hg];rfl
 refine⟨G,h.write hk E (fun i=>⟨E,trivial⟩) (fun i=>⟨E,trivial⟩) ak K Y (Nat.le_of_eq J.symm) (fun j _=>C j) ?_⟩;intro rd ab;have ae:(a.eval y).cells.toList.length=n:=by simpa using B
 have T:(cur.toList.take (q*ec+o)).length=q*ec+o:=by simp;omega
 have H:(cur.toList.take (q*ec+o)++(a.eval y).cells.toList).length=q*ec+o+n:=by rw[C32,T,ae]
 have U:(cur.toList.take (q*ec+o)++(a.eval y).cells.toList++cur.toList.drop (q*ec+o+(a.eval y).cells.size)).length=cur.size:=by
  rw[C32,H,C45,B];simp;omega
 refine⟨(cur.toList.take (q*ec+o)++(a.eval y).cells.toList++cur.toList.drop (q*ec+o+(a.eval y).cells.size)).take (M.length*ec),⟨by simp only[C41,U];omega,.inr ⟨b,ag,_,by rw[hg],hB,F,hcap,hmax,by simp only[List.size_toArray];rw[U,hcs],by simp⟩⟩,W,X,by rw[rZ (by rw[hn,ad];exact V)];exact ad,?_,?_⟩
 ·intro i Q R j hj;have Z:i*ec+j<M.length*ec:=by have:=AW (ec:=ec) Q;omega
  rw[C59 Z];have O:vs[i*ec+j]?=cur[i*ec+j]?:=by rw[<-htake,C59 Z];simp
  have I:(cur.toList.take (q*ec+o)++(a.eval y).cells.toList++cur.toList.drop (q*ec+o+(a.eval y).cells.size))[i*ec+j]?=vs[i*ec+j]?:=by
   rw[O];rcases Nat.lt_or_gt_of_ne R with h1 | h1
   ·have:=AW (ec:=ec) h1;rw[C42,C46 (by rw[T];omega),C59 (by omega)];simp
   ·have:=AW (ec:=ec) h1;rw[C52 (by rw[H];omega),H,C61,B];have:q*ec+o+n+(i*ec+j-(q*ec+o+n))=i*ec+j:=by omega
    rw[this];simp
  rw[I];obtain⟨z,am,an⟩:=hc i Q R j hj;exact⟨z,am,Cell.rep_mono ab _ _ an⟩
 ·rw[B,row_set ai (by simpa using aj) ae V,htake];exact (All2.setTs o ha d).mono (fun _ _=>TC.rep_mono ab)
theorem Sim.freezeG{S:Ctx}{G:Gh}{a:Act}{w:World}(h:Sim P S fr ob G a w){k:Nat}{α:Type}{ec:Nat}{c:α->Nat->Cell}{xs:List α}{e:TypeId}(hk:B4 ob k=some (.grow e α ec c xs))(ac:0<ec) :
  Sim P S (B99 (SV.freeze k α ec c xs) fr) (B94 (Ob.freeze k α ec c xs) (Obs.drop k ob)) G a w:=by
 have T:=h.drop k;obtain⟨Y,V,U,hc⟩:=h.obs k _ hk;have v:∀q o,B4 (B94 (Ob.freeze k α ec c xs) (Obs.drop k ob)) q=some o->∃E,B4 (Obs.drop k ob) q=some E/\o=E.freeze k α ec c xs:=by
  intro q o d;rw[getO_mapO]at d;cases C:B4 (Obs.drop k ob) q with
  | none=>simp[C]at d
  | some E=>simp[C]at d;exact⟨E,rfl,d.symm⟩
 have K:∀(u:Value) (o:Ob) (b i:Nat),Own u (o.freeze k α ec c xs) b i↔Own u o b i:=by intro u o b i;cases o<;>simp[Own,Ob.freeze]
 have I:∀b i,Mut S (B94 (Ob.freeze k α ec c xs) (Obs.drop k ob)) G b i->Mut S (Obs.drop k ob) G b i:=by
  intro b i A;rcases A with A | ⟨q,o,d,hb⟩
  ·exact .inl A
  ·obtain⟨E,R,rfl⟩:=v q o d;exact .inr ⟨q,E,R,(K _ _ _ _).1 hb⟩
 have M:∀b i z,D9 (Mut S (Obs.drop k ob) G) w b i z->D9 (Mut S (B94 (Ob.freeze k α ec c xs) (Obs.drop k ob)) G) w b i z:=fun b i z L=>⟨L.1,fun A=>L.2 (I b i A)⟩
 have W:∀b i z,D9 (Mut S ob G) w b i z->D9 (Mut S (Obs.drop k ob) G) w b i z:=by
  intro b i z L;refine⟨L.1,fun A=>L.2 ?_⟩;rcases A with A | ⟨q,o',d,hb⟩
  ·exact .inl A
  ·refine .inr ⟨q,o',?_,hb⟩;by_cases D:q=k
   ·subst D;rw[O4]at d;cases d
   ·rwa[M4 D]at d
 have f:(Cell.list α ec c xs).rep (D9 (Mut S (B94 (Ob.freeze k α ec c xs) (Obs.drop k ob)) G) w) (G k):=by
  refine aI V ac U ?_ (fun i N j hj=>let ⟨z,y,B⟩:=hc i N j hj;⟨z,y,Cell.rep_mono (fun _ _ _ L=>M _ _ _ (W _ _ _ L)) _ _ B⟩);intro g hg j z hj J;refine⟨J,fun A=>?_⟩;rcases I _ _ A with A | ⟨q,o',d,hb,_⟩
  ·have:=h.m0 _ _ A;rcases h.old k _ g hk hg with y | y
   ·omega
   ·exact h.m0io _ _ A y.1
  ·by_cases D:q=k
   ·subst D;rw[O4]at d;cases d
   ·rw[M4 D]at d;exact D (h.dis q k o' _ g d hk hb hg)
 exact { T with
  old:=fun q o b d=>let ⟨E,R,_⟩:=v q o d;T.old q E b R
  dis:=fun k1 k2 o1 o2 b y B=>let ⟨oa,ha,_⟩:=v k1 o1 y;let ⟨ob',ab,_⟩:=v k2 o2 B;T.dis k1 k2 oa ob' b ha ab
  obs:=fun q o d=>by
   obtain⟨E,R,rfl⟩:=v q o d;have m:=(T.obs q E R).ext M (Below.refl _ _);cases E with
   | box X=>obtain⟨O,F,t',y,B,H⟩:=m;exact⟨O,F,t',y,B,H.map (TC.freeze k α ec c xs) fun _ _=>TC.rep_freeze f⟩
   | tbx e X=>obtain⟨O,F,y,B,H⟩:=m;exact⟨O,F,y,B,H.map (TC.freeze k α ec c xs) fun _ _=>TC.rep_freeze f⟩
   | tarr n Q X=>obtain⟨O,F,t',y,hl,B,hn,H⟩:=m;exact⟨O,F,t',y,hl,B,by simpa using hn,H.map (TC.freeze k α ec c xs) fun _ _=>TC.rep_freeze f⟩
   | arr=>exact m
   | spare=>exact m
   | grow=>exact m
   | map=>exact m
   | growA e' α' Q c' ad p X=>obtain⟨Y,y,B,H,Z,h5,h6⟩:=m;exact⟨Y,y,B,H,by simpa using Z,h5,h6.map (TC.freeze k α ec c xs) fun _ _=>TC.rep_freeze f⟩
   | growT e' n' Q X=>obtain⟨Y,y,B,H,Z⟩:=m;exact⟨Y,y,B,by simpa using H,Z.map (TC.freeze k α ec c xs) fun _ _=>TC.rep_freeze f⟩
  facts:=fun i s N=>by
   rw[uU]at N;cases C:D4 fr i with
   | none=>simp[C]at N
   | some s0 =>
    simp[C]at N;subst N
    exact SV.rep_freeze f (SV.rep_mono M (T.facts i s0 C)) }
theorem Sees.freezeG{k:Nat}{α:Type}{ec:Nat}{c:α->Nat->Cell}{xs:List α}{e:TypeId}(d:B4 ob k=some (.grow e α ec c xs))(b:Nat.blt 0 ec=true) :
  Sees P nt fr ob (B99 (SV.freeze k α ec c xs) fr) (B94 (Ob.freeze k α ec c xs) (Obs.drop k ob)):=fun S G a w f h=>⟨G,h.freezeG d (by simpa using b)⟩
theorem Sees.reA(k:Nat){e:TypeId}{α:Type}{u:Nat}{c:α->Nat->Cell}{s:List α}{p:Nat}{x:List TC}(d:List α)(E:B4 ob k=some (.growA e α u c s p x))(q:d.length=s.length)(I:∀i,i≠p->d[i]?=s[i]?) :
  Sees P nt fr ob fr ((k,.growA e α u c d p x)::ob):=fun S G a w K h=>by
 refine⟨G,h.retold E (fun b i F=>⟨F.1,trivial⟩) ?_⟩;rintro L ⟨J,n,m,H,t,C,ha⟩;refine⟨J,by rw[q];exact n,by rw[q];exact m,by rw[q];exact H,t,fun i v l j D=>?_,ha⟩;have f:i<s.length:=by rw[<-q];exact v
 obtain⟨z,y,B⟩:=C i f l j D;refine⟨z,y,?_⟩;have:=I i l;rw[C29 v,C29 f]at this;rw[Option.some.inj this];exact B
theorem B96{ob':Obs}(b:∀k o,B4 ob' k=some o->B4 ob k=some o):Sees P nt fr ob fr ob':=fun S G a w c hs=>⟨G,hs.weakenO b⟩
theorem C18(k:Nat){e:TypeId}{α:Type}{l:Nat}{c:α->Nat->Cell}{n:List α}(q:α->Nat->Cell)(C:B4 ob k=some (.grow e α l c n))(A:∀x∈n,∀j,j<l->∀(m:Rd) u,(c x j).rep m u->(q x j).rep m u) :
  Sees P nt fr ob fr ((k,.grow e α l q n)::ob):=fun S G a w F h=>by
 refine⟨G,h.retold C (fun b i D=>⟨D.1,trivial⟩) ?_⟩;rintro m ⟨E,f,d,B⟩;refine⟨E,f,d,fun i s j t=>?_⟩;obtain⟨z,v,y⟩:=B i s j t;exact⟨z,v,A _ (C35 s) j t _ _ y⟩
theorem C06(k:Nat)(α:Type)(A:Nat)(c:α->Nat->Cell)(e:TypeId){kb o:Nat}{q:List TC}(hb:B4 ob kb=some (.box q))(H:q[o]?=some (.p (.v (.slice none 0 0))))(K:(G5 k fr&&K5 k ob)=true) :
  Sees P nt fr ob fr ((kb,.box (q.set o (.mut k)))::(k,.grow e α A c [])::ob):=by
 simp only[C30]at K;obtain⟨M,N⟩:=K;obtain⟨O,B,U⟩:=Q6 N;intro S G a w Y h;have C:=h.new U (o:=.grow e α A c []) (u:=.slice none 0 0) (w1:=w) B (Below.refl _ _) (fun b hb=>by simp[blk]at hb) ⟨[],World.ownsRow_nil w _ _ _,by simp,fun i T=>absurd T (by simp)⟩;rw[T4 M,O]at C;have F:k≠kb:=fun Q=>by rw[Q,hb]at B;cases B
 have j:B4 ((k,Ob.grow e α A c [])::ob) kb=some (.box q):=by rw[B0 F];exact hb
 obtain⟨b,vs,t,R,X,ha⟩:=C.obs kb _ j;have d:blk (upd G k (.slice none 0 0) kb)=some b:=by rw[R];rfl
 refine⟨_,C.retell j d (fun i=>⟨d,trivial⟩) (fun i=>⟨d,trivial⟩) ?_⟩;rintro Z ⟨L,J,W,D,E,f⟩;refine⟨L,J,W,D,E,B97 o (fun z V=>?_) f⟩;obtain⟨z',n,I⟩:=f.get o _ H;rw[V]at n;cases n;rw[I.1];exact⟨(G7 _ _ _).symm,rfl⟩
theorem C19(k:Nat)(α:Type)(C:Nat)(c:α->Nat->Cell)(e:TypeId){kb o:Nat}{x:TypeId}{β:Type}{B:Nat}{q:β->Nat->Cell}{L:List β}{p:Nat}{n:List TC}(hb:B4 ob kb=some (.growA x β B q L p n))(J:n[o]?=some (.p (.v (.slice none 0 0))))(N:(G5 k fr&&K5 k ob)=true) :
  Sees P nt fr ob fr ((kb,.growA x β B q L p (n.set o (.mut k)))::(k,.grow e α C c [])::ob):=by
 simp only[C30]at N;obtain⟨O,Q⟩:=N;obtain⟨R,D,X⟩:=Q6 Q;intro S G a w hn h;have M:=h.new X (o:=.grow e α C c []) (u:=.slice none 0 0) (w1:=w) D (Below.refl _ _) (fun b hb=>by simp[blk]at hb) ⟨[],World.ownsRow_nil w _ _ _,by simp,fun i V=>absurd V (by simp)⟩;rw[T4 O,R]at M;have F:k≠kb:=fun U=>by rw[U,hb]at D;cases D
 have E:B4 ((k,Ob.grow e α C c [])::ob) kb=some (.growA x β B q L p n):=by rw[B0 F];exact hb
 refine⟨_,M.retold E (fun b i W=>⟨W.1,trivial⟩) ?_⟩;rintro rd ⟨Z,f,d,H,I,T,ha⟩;refine⟨Z,f,d,H,by simpa using I,T,B97 o (fun z Y=>?_) ha⟩;obtain⟨z',j,K⟩:=ha.get o _ J;rw[Y]at j;cases j;rw[K.1];exact⟨(G7 _ _ _).symm,rfl⟩
theorem ON{c:Rd}{G:Gh}:∀{b:List TC} {a:List Value},All2 (TC.rep c G) b a->∀u∈a,u.oneCell'=true
 | [],[],_,u,hu=>by cases hu
 | t::b,v::a,h,u,hu=>by
  rcases C36.1 hu with rfl | hu
  ·exact TC.rep_one h.1
  ·exact ON h.2 u hu
theorem B19(k:Nat){t e:TypeId}{q H:Nat}{x:Operand}{s:S1}[ht:TySl P t e q H](hx:opv fr x=some (.s s))(hc:H3 x=true)(O:s.cells.length=q)(M:Nat.ble q 100=true)
  (V:s.cells.all (TC.free k)=true) (hf:(G5 k fr&&K5 k ob)=true):EffV P ⟨dst,.buildSlice t 1 #[(0,x)],ty,pos,af,gd⟩ fr ob (.s (.one (.mut k))) fr ((k,.tarr 1 q s.cells)::ob):=by
 simp only[C30]at hf;obtain⟨R,T⟩:=hf;obtain⟨X,hk,Y⟩:=Q6 T;have U:=T4 R;intro S G a w h;have ad:=ht.out.2.2.1;have ac:q<=100:=by simpa using M
 obtain⟨_,_,_,_,D⟩:=ht.out;cases W:P.info? e with
 | none=>simp[W]at D
 | some i =>
 cases hz:i.zero with
 | none=>simp[W,hz]at D
 | some z =>
 have Z:(P.info? e).bind (·.zero)=some z:=by simp[W,hz]
 have C:=B93 (s:=s) (N8 h hx hc);have N:(a.eval x).cells.size=q:=by rw[<-O,C.length];simp
 let B:Array Value:=(Array.range (1*q)).map (z.cells[· % z.cells.size]!);have ab:B.size=q:=by simp[B]
 have J:Instr.fill (fun i=>some (i*q,q)) B [(0,a.eval x)]=some (a.eval x).cells.toList.toArray:=by
  have K:(a.eval x).cells.zipIdx.foldl (fun cs (x:Value×Nat)=>cs.setIfInBounds (0*q+x.2) x.1) B=(B.toList.take (0*q)++(a.eval x).cells.toList++B.toList.drop (0*q+(a.eval x).cells.toList.length)).toArray:=by
   rw[<-Array.foldl_toList,Array.toList_zipIdx];have:=iF (0*q) (a.eval x).cells.toList 0 B (by simp;omega);simpa using this
  simp only[Instr.fill,N,ne_eq,not_true_eq_false,decide_false,Bool.false_or,decide_eq_true_eq];rw[A6 (by omega),K];have:B.toList.drop (0*q+(a.eval x).cells.toList.length)=[]:=by rw[List.drop_eq_nil_iff];simp;omega
  rw[this];simp
 refine F3 (w':=w.alloc (.cells (a.eval x).cells.toList.toArray e)) (v:=.slice (some ⟨w.heap.size,0,none⟩) 1 1) ?_ ?_
 ·simp only[execOp];refine J8 ?_;simp only[Instr.buildSlice,Sem.run_bind,run_underlying ht.out.1,Result.andThen_ok,H4 ht.size];rw[A6 (by omega)];rw[A6 (by omega)];simp only[Sem.run_bind,M5 Z,Sem.run_pure,Result.andThen_ok];have hp:(#[(0,x)]:Array (Nat×Operand)).map (fun (x:Nat×Operand)=>match x with | (i,x)=>(i,a.eval x))=#[(0,a.eval x)]:=by simp
  rw[hp];have E:Instr.fill (fun i=>some (i*q,q)) ((Array.range (1*q)).map (z.cells[· % z.cells.size]!)) (#[(0,a.eval x)]:Array (Nat×Value)).toList=some (a.eval x).cells.toList.toArray:=J;rw[E];simp[newRow]
 ·have Q:Below w.heap.size w (w.alloc (.cells (a.eval x).cells.toList.toArray e)):=(Below.refl _ _).alloc (Nat.le_refl _) _;have hu:∀b,blk (.slice (some ⟨w.heap.size,0,none⟩) 1 1)=some b->w.heap.size<=b:=by intro b hb;simp[blk]at hb;omega
  have F:=h.new Y hk (o:=.tarr 1 q s.cells) (u:=.slice (some ⟨w.heap.size,0,none⟩) 1 1) Q hu (by
   refine⟨w.heap.size,(a.eval x).cells.toList,e,rfl,by omega,heap_alloc_new w _,by rw[O];omega,?_⟩;have h1:All2 (TC.rep (D9 (Mut S ((k,Ob.tarr 1 q s.cells)::Obs.forget k ob) (upd G k (.slice (some ⟨w.heap.size,0,none⟩) 1 1))) (w.alloc (.cells (a.eval x).cells.toList.toArray e))) G) s.cells (a.eval x).cells.toList :=
    C.mono fun _ _=>TC.rep_mono (fun _ _ _ hr=>h.rd_new Q hu hr)
   have h2:=h1.map (TC.forget k) (fun _ _=>TC.rep_forget (G':=upd G k (.slice (some ⟨w.heap.size,0,none⟩) 1 1)) (fun j hj=>b9 G _ hj))
   rwa[aN V]at h2)
  rw[U,X]at F;exact⟨_,F,(G7 _ _ _).symm,rfl⟩
def TC.refs:TC->List Nat
 | .buf k _ _ _ _=>[k]
 | .ref k _=>[k]
 | .mut k=>[k]
 | .mref k _ _ _=>[k]
 | .msl k _ _ _=>[k]
 | .clo _ d a=>d.map (·.1)++a.map (·.1)
 | .ifc _ k _=>[k]
 | _=>[]
def S1.refs:S1->List Nat
 | .one t=>t.refs
 | .agg b=>b.flatMap TC.refs
def SV.refs:SV->List Nat
 | .s x=>x.refs
 | .tup l=>l.flatMap S1.refs
 | _=>[]
def Ob.refs:Ob->List Nat
 | .box c=>c.flatMap TC.refs
 | .tbx _ c=>c.flatMap TC.refs
 | .tarr _ _ c=>c.flatMap TC.refs
 | .growA _ _ _ _ _ _ c=>c.flatMap TC.refs
 | .growT _ _ _ c=>c.flatMap TC.refs
 | _=>[]
def KR:Fr->List Nat
 | []=>[]
 | (_,s)::r=>s.refs++KR r
def AZ:Obs->List Nat
 | []=>[]
 | (_,o)::r=>o.refs++AZ r
theorem mB{G G':Gh}:∀{l:List (Nat×Nat)} {a:List Value},(∀k∈l.map (·.1),G' k=G k)->All2 (wR G) l a->All2 (wR G') l a
 | [],[],_,_=>trivial
 | [],_::_,_,h=>h.elim
 | _::_,[],_,h=>h.elim
 | p::l,u::a,hk,h=>by
  obtain⟨⟨b,d,e⟩,f⟩:=h;exact⟨⟨b,by rw[hk p.1 (by simp)];exact d,e⟩,mB (fun k c=>hk k (by simp at c ⊢;exact .inr c)) f⟩
theorem TC.rep_congr{g:Rd}{G G':Gh}:∀{t:TC} {u:Value},(∀k∈t.refs,G' k=G k)->t.rep g G u->t.rep g G' u
 | .p _,_,_,h=>h
 | .eref _ _ _ _ _,_,_,h=>h
 | .any,_,_,h=>h
 | .full _ _ _ _,_,_,h=>h
 | .ifc _ k _,_,hk,h=>by simp only[TC.rep];rw[hk k (by simp[TC.refs])];exact h
 | .fnc _ _,_,_,h=>h
 | .fncE _ _ _ _ _,_,_,h=>h
 | .buf k _ _ _ _,_,hk,h=>⟨by rw[hk k (by simp[TC.refs])];exact h.1,h.2⟩
 | .ref k _,_,hk,h=>by simp only[TC.rep];rw[hk k (by simp[TC.refs])];exact h
 | .mut k,_,hk,h=>by simp only[TC.rep];rw[hk k (by simp[TC.refs])];exact h
 | .mref k _ _ _,_,hk,h=>by simp only[TC.rep];rw[hk k (by simp[TC.refs])];exact h
 | .msl k _ _ _,_,hk,h=>by simp only[TC.rep];rw[hk k (by simp[TC.refs])];exact h
 | .clo _ nf nc,_,hk,⟨vs,ws,h1,h2,h3⟩=>⟨vs,ws,h1,mB (fun k d=>hk k (by simp only[TC.refs,C37];exact .inl d)) h2,mB (fun k d=>hk k (by simp only[TC.refs,C37];exact .inr d)) h3⟩
theorem x9{d:Rd}{G G':Gh}:∀{a:List TC} {c:List Value},(∀k∈a.flatMap TC.refs,G' k=G k)->All2 (TC.rep d G) a c->All2 (TC.rep d G') a c
 | [],[],_,_=>trivial
 | [],_::_,_,h=>h.elim
 | _::_,[],_,h=>h.elim
 | t::a,v::c,hs,h=>⟨TC.rep_congr (fun k b=>hs k (by rw[List.flatMap_cons];exact C37.2 (.inl b))) h.1,x9 (fun k b=>hs k (by rw[List.flatMap_cons];exact C37.2 (.inr b))) h.2⟩
theorem S1.rep_congr{b:Rd}{G G':Gh}:∀{t:S1} {u:Value},(∀k∈t.refs,G' k=G k)->t.rep b G u->t.rep b G' u
 | .one t,u,hs,h=>TC.rep_congr (t:=t) hs h
 | .agg ts,u,hs,⟨vs,h1,h2⟩=>⟨vs,h1,x9 hs h2⟩
theorem wV{d:Rd}{G G':Gh}:∀{a:List S1} {c:List Value},(∀k∈a.flatMap S1.refs,G' k=G k)->All2 (S1.rep d G) a c->All2 (S1.rep d G') a c
 | [],[],_,_=>trivial
 | [],_::_,_,h=>h.elim
 | _::_,[],_,h=>h.elim
 | t::a,v::c,hs,h=>⟨S1.rep_congr (fun k b=>hs k (by rw[List.flatMap_cons];exact C37.2 (.inl b))) h.1,wV (fun k b=>hs k (by rw[List.flatMap_cons];exact C37.2 (.inr b))) h.2⟩
theorem SV.rep_congr{b:Rd}{G G':Gh}:∀{t:SV} {u:Value},(∀k∈t.refs,G' k=G k)->t.rep b G u->t.rep b G' u
 | .s t,u,hs,h=>S1.rep_congr (t:=t) hs h
 | .tup ts,u,hs,⟨vs,h1,h2⟩=>⟨vs,h1,wV hs h2⟩
 | .any,_,_,_=>trivial
 | .un,_,_,h=>h
theorem ObOk.congr{S:Ctx}{q:Rd}{G G':Gh}{w:World}{u:Value}{o:Ob}(hs:∀k∈o.refs,G' k=G k)(h:ObOk S q G w u o):ObOk S q G' w u o:=by
 cases o with
 | box l=>obtain⟨b,g,t,a,d,f⟩:=h;exact⟨b,g,t,a,d,x9 hs f⟩
 | tbx e l=>obtain⟨b,g,a,d,f⟩:=h;exact⟨b,g,a,d,x9 hs f⟩
 | tarr n i l=>obtain⟨b,g,t,a,d,f,j,m⟩:=h;exact⟨b,g,t,a,d,f,j,x9 hs m⟩
 | growA e α i c xs p l=>obtain⟨g,a,d,f,j,m,r⟩:=h;exact⟨g,a,d,f,j,m,x9 hs r⟩
 | growT e n i l=>obtain⟨g,a,d,f,j⟩:=h;exact⟨g,a,d,f,x9 hs j⟩
 | arr α i c xs=>exact h
 | map κ v s=>exact h
 | spare n i e=>exact h
 | grow e α i c xs=>exact h
theorem BA:∀{fr:Fr} {i:Nat} {s:SV},D4 fr i=some s->∀k∈s.refs,k∈KR fr
 | [],i,s,h,_,_=>by cases h
 | (j,x)::r,i,s,h,k,hm=>by
  unfold D4 at h;unfold KR;cases hb:Nat.beq j i
  ·rw[hb]at h;exact C37.2 (.inr (BA h k hm))
  ·rw[hb]at h;cases h;exact C37.2 (.inl hm)
theorem qP:∀{ob:Obs} {i:Nat} {o:Ob},B4 ob i=some o->∀k∈o.refs,k∈AZ ob
 | [],i,s,h,_,_=>by cases h
 | (j,x)::r,i,s,h,k,hm=>by
  unfold B4 at h;unfold AZ;cases hb:Nat.beq j i
  ·rw[hb]at h;exact C37.2 (.inr (qP h k hm))
  ·rw[hb]at h;cases h;exact C37.2 (.inl hm)
theorem GZ:∀{a b:Obs} {k:Nat},B4 (a++b) k=match B4 a k with | some o=>some o | none=>B4 b k
 | [],b,k=>rfl
 | (j,x)::r,b,k=>by
  show (bif Nat.beq j k then some x else B4 (r++b) k)=(match (bif Nat.beq j k then some x else B4 r k) with | some o=>some o | none=>B4 b k)
  cases Nat.beq j k
  ·exact GZ (a:=r)
  ·rfl
def newOk(b:List S1)(ob':Obs)(fr:Fr)(ob:Obs):Bool :=
 (b.flatMap S1.refs++AZ ob').all (fun k=>(B4 ob' k).isSome)&&(KR fr++AZ ob).all (fun k=>(B4 ob' k).isNone)&&ob.all (fun p=>(B4 ob' p.1).isNone)
theorem OO:∀{ob:Obs} {k:Nat} {o:Ob},B4 ob k=some o->∃p∈ob,p.1=k
 | [],k,o,h=>by cases h
 | (j,x)::r,k,o,h=>by
  unfold B4 at h;cases hb:Nat.beq j k
  ·rw[hb]at h;obtain⟨p,a,b⟩:=OO h;exact⟨p,List.mem_cons_of_mem _ a,b⟩
  ·exact⟨_,List.mem_cons_self,by simpa using hb⟩
theorem fR{w:World}{B B':Nat}{e:TypeId}{d n:Nat}{v:Value}{f:List Value}(g:B<=B')(h:w.ownsRow B' e d v n f):w.ownsRow B e d v n f :=
 ⟨h.1,h.2.imp id fun ⟨b,a,c,i,hb,r⟩=>⟨b,a,c,i,Nat.le_trans g hb,r⟩⟩
theorem ObOk.low{S S':Ctx}{j:Rd}{G:Gh}{w:World}{u:Value}{o:Ob}(g:S.B<=S'.B)(h:ObOk S' j G w u o):ObOk S j G w u o:=by
 cases o with
 | box i=>exact h
 | tbx e i=>exact h
 | tarr n d i=>exact h
 | arr α d c k=>exact h
 | map κ m l=>exact h
 | spare n d e=>obtain⟨b,a⟩:=h;exact⟨b,fR g a⟩
 | grow e α d c k=>obtain⟨b,a,f⟩:=h;exact⟨b,fR g a,f⟩
 | growA e α d c k p i=>obtain⟨b,a,f⟩:=h;exact⟨b,fR g a,f⟩
 | growT e n d i=>obtain⟨b,a,f⟩:=h;exact⟨b,fR g a,f⟩
variable {rest:List Oper}{Q:Post}{d:Nat}
theorem wW{f:FuncId}{xs:List Operand}{ak:Array TypeId}{ty:TypeId}{pos:String}{af:Array Edge}{args:List S1}{ks:List Nat}{U:List S1->Obs->Prop}
  (hf:Met P f args [] [] ks U) (ha:fQ fr xs=some args) (hc:xs.all H3=true) (av:(args.flatMap S1.refs).isEmpty=true) (hd:Nat.blt d nt=true)
  (kk:∀rs ob',U rs ob'->newOk rs ob' fr ob=true/\WpL P nt ops rest ((d,AH rs)::fr) (ob'++ob) Q):WpL P nt ops (⟨some d,.call ⟨.value (.func f),xs.toArray,ak⟩,ty,pos,af,none⟩::rest) fr ob Q:=by
 intro S G a w hn h;have aj:=bY h xs args ha hc;let S':Ctx:={ S with w0:=w,M0:=fun b i=>Mut S ob G b i,io:=fun _=>False }
 have ap:S'.B=w.heap.size:=rfl;have ae:High ([]:Fr):=fun i s hi=>by cases hi
 have al:Grd P (fun _=>False) w:=by
  obtain⟨wg,h1,M,O⟩:=h.grd;refine⟨wg,h1,Nat.le_trans M h.size,fun j F=>?_⟩;obtain⟨h4,h5⟩:=O j F;exact⟨(h.keep j (Nat.lt_of_lt_of_le F M) h5).trans h4,fun e=>e⟩
 have hs:Sim P S' [] [] G a w:={ nt:=h.nt,ntb:=h.ntb,defers:=h.defers,os:=rfl,tape:=rfl,output:=rfl,size:=Nat.le_refl _,keep:=fun _ _ _=>rfl,m0:=fun b i J=>h.mut_lt J,m0io:=fun _ _ _ e=>e,grd:=al,pin:=h.pin,old:=fun _ _ _ e=>(by cases e),dis:=fun _ _ _ _ _ e=>(by cases e),obs:=fun _ _ e=>(by cases e),facts:=fun _ _ e=>(by cases e) }
 have am:∀b i z,D9 (Mut S ob G) w b i z->D9 (Mut S' [] G) w b i z:=fun b i z V=>⟨V.1,fun J=>V.2 (by
  rcases J with J | ⟨k,o,q,_⟩
  ·exact J
  ·cases q)⟩
 have Z:=hf.2 ae S' G a w _ hs (aj.mono fun _ _=>S1.rep_mono am);refine wpList_plain rfl fun K hK=>L4 (K:=fun v w'=>∃rs ob' G',U rs ob'/\aP (D9 (Mut S' ob' G') w') G' rs v/\Sim P S' (C8 ks []) ob' G' a w') ?_ ?_
 ·have he:(execOp a.eval ⟨some d,.call ⟨.value (.func f),xs.toArray,ak⟩,ty,pos,af,none⟩).run P w=.ok (.enter f (xs.map a.eval).toArray) w:=by
   have:=Q5 (P:=P) (f:=f) (args:=(xs.map a.eval).toArray) (w:=w) hf.1;have J:xs.toArray.map a.eval=(xs.map a.eval).toArray:=by simp
   simp only[execOp,resolve,Act.eval,Deferred.ofValue,Sem.run_bind,Sem.run_pure,Result.andThen_ok,invoke];rw[show (#[]:Array Value)++Array.map a.eval xs.toArray++#[]=(xs.map a.eval).toArray by rw[<-J];simp];exact this
  unfold Does;rw[he];refine Z.mono ?_;rintro e w' ⟨v,rs,ob',G',rfl,ah,T,C⟩;exact⟨v,rfl,rs,ob',G',ah,T,C⟩
 ·rintro v w' ⟨rs,ob',G',hp,T,C⟩;obtain⟨ab,ar⟩:=kk rs ob' hp;simp only[newOk,C30,List.all_eq_true,C37]at ab;obtain⟨⟨n1,n2⟩,n3⟩:=ab;have au:∀{k o},B4 ob k=some o->B4 ob' k=none:=fun {k o} q=>by
   obtain⟨p,p1,p2⟩:=OO q;have:=n3 p p1;rw[p2]at this;simpa using this
  obtain⟨H,hH⟩:∃H:Gh,H=fun k=>match B4 ob' k with | some _=>G' k | none=>G k:=⟨_,rfl⟩
  have W:∀{k},(B4 ob' k).isSome=true->H k=G' k:=fun {k} q=>by
   rw[hH];dsimp only;cases R:B4 ob' k with
   | none=>rw[R]at q;cases q
   | some o=>rfl
  have X:∀{k},(B4 ob' k).isNone=true->H k=G k:=fun {k} q=>by
   rw[hH];dsimp only;cases R:B4 ob' k with
   | none=>rfl
   | some o=>rw[R]at q;cases q
  have ag:d<S.nt:=by rw[hn];simpa using hd
  have ao:w.heap.size<=w'.heap.size:=C.size;have I:∀k,k<w.heap.size->w'.heap[k]?=w.heap[k]?:=fun k q=>C.keep k q (fun e=>e);have L:∀k o b,B4 ob' k=some o->blk (G' k)=some b->w.heap.size<=b:=fun k o b h1 M=>by
   rcases C.old k o b h1 M with O | O
   ·exact O
   ·exact O.1.elim
  have D:∀{k o},B4 (ob'++ob) k=some o->(B4 ob' k=some o/\H k=G' k)\/(B4 ob k=some o/\H k=G k):=fun {k o} q=>by
   rw[GZ]at q;cases R:B4 ob' k with
   | some o'=>rw[R]at q;exact .inl ⟨q,W (by rw[R];rfl)⟩
   | none=>rw[R]at q;exact .inr ⟨q,X (by rw[R];rfl)⟩
  have ac:∀b i z,D9 (Mut S' ob' G') w' b i z->D9 (Mut S (ob'++ob) H) w' b i z:=fun b i z V=>⟨V.1,fun J=>V.2 (by
   rcases J with J | ⟨k,o,q,hb⟩
   ·exact .inl (.inl J)
   ·rcases D q with ⟨k1,e⟩ | ⟨k1,e⟩
    ·rw[e]at hb;exact .inr ⟨k,o,k1,hb⟩
    ·rw[e]at hb;exact .inl (.inr ⟨k,o,k1,hb⟩))⟩
  have ad:∀b i z,D9 (Mut S ob G) w b i z->D9 (Mut S (ob'++ob) H) w' b i z:=fun b i z V=>by
   have ag:b<w.heap.size:=World.block_lt_of_cell? w _ V.1;refine⟨by rw[World.cell?_of_block (w:=w) (a:=⟨b,i,none⟩) (I b ag)];exact V.1,fun J=>?_⟩;rcases J with J | ⟨k,o,q,hb⟩
   ·exact V.2 (.inl J)
   ·rcases D q with ⟨k1,e⟩ | ⟨k1,e⟩
    ·rw[e]at hb;have:=L k o b k1 hb.1;omega
    ·rw[e]at hb;exact V.2 (.inr ⟨k,o,k1,hb⟩)
  have Y:Below w.heap.size w w':=⟨C.os,C.tape,C.output,ao,fun k q=>I k q⟩
  have an:Sim P S fr (ob'++ob) H a w':=by
   refine { nt:=h.nt,ntb:=h.ntb,defers:=h.defers,os:=C.os.trans h.os,tape:=C.tape.trans h.tape,output:=C.output.trans h.output,size:=Nat.le_trans h.size ao,keep:=fun k q aq=>(I k (Nat.lt_of_lt_of_le q h.size)).trans (h.keep k q aq),m0:=h.m0,m0io:=h.m0io,grd:=h.grd,pin:=fun k q=>?_,old:=fun k o b h1 M=>?_,dis:=fun k k' o o' b h1 M O h4=>?_,obs:=fun k o q=>?_,facts:=fun i s hi=>?_ }
   ·cases R:B4 ob' k with
    | some o=>rw[W (by rw[R];rfl)];exact C.pin k q
    | none=>rw[X (by rw[R];rfl)];exact h.pin k q
   ·rcases D h1 with ⟨k1,e⟩ | ⟨k1,e⟩
    ·rw[e]at M;exact .inl (Nat.le_trans h.size (L k o b k1 M))
    ·rw[e]at M;exact h.old k o b k1 M
   ·rcases D h1 with ⟨k1,e1⟩ | ⟨k1,e1⟩<;>rcases D M with ⟨k2,e2⟩ | ⟨k2,e2⟩<;>rw[e1]at O<;>rw[e2]at h4
    ·exact C.dis k k' o o' b k1 k2 O h4
    ·have:=L k o b k1 O;have:=(h.obs k' o' k2).blk_lt _ h4;omega
    ·have:=L k' o' b k2 h4;have:=(h.obs k o k1).blk_lt _ O;omega
    ·exact h.dis k k' o o' b k1 k2 O h4
   ·rcases D q with ⟨k1,e⟩ | ⟨k1,e⟩
    ·rw[e];exact (((C.obs k o k1).low (S:=S) (by rw[ap];exact h.size)).ext ac (Below.refl _ _)).congr fun j F=>W (n1 j (.inr (qP k1 j F)))
    ·rw[e];exact ((h.obs k o k1).ext ad Y).congr fun j F=>X (n2 j (.inr (qP k1 j F)))
   ·exact SV.rep_congr (fun j F=>X (n2 j (.inl (BA hi j F)))) (SV.rep_mono ad (h.facts i s hi))
  have ai:(AH rs).rep (D9 (Mut S (ob'++ob) H) w') H v:=by
   refine SV.rep_congr (fun j F=>W (n1 j (.inl ?_))) (SV.rep_mono ac T);revert F
   match rs with
   | []=>intro F;cases F
   | [r]=>intro F;simpa[AH,SV.refs] using F
   | r::r2::rest=>intro F;exact F
  exact hK _ _ (ar S H _ w' hn (an.put ag ai))
theorem A10(k:Nat){t e:TypeId}{j q:Nat}{x y:Operand}{M N:IntKind}{n:Int}(α:Type)(c:α->Nat->Cell)[ht:TySl P t e j q]
  (Y:opv fr x=some (I6 (.int M 0))) (Z:opv fr y=some (I6 (.int N n))) (O:0<=n) (hn:n<=1073741824) (V:B4 ob k=none) (W:k<1000000) :
  EffV P ⟨dst,.makeSlice t x y,ty,pos,af,gd⟩ fr ob (.s (.one (.buf k α j c []))) (Fr.forget k fr) ((k,.spare 0 j e)::Obs.forget k ob):=by
 intro S G a w h;obtain⟨I,d,U,T,g⟩:=ht.out;cases D:P.info? e with
 | none=>simp[D]at d
 | some i =>
 simp[D]at d;obtain⟨H,F⟩:=d;cases A:i.zero with
 | none=>simp[D,A]at g
 | some z =>
 simp[D,A]at g;have C:(i.bytes:Int)*n<=281474976710656:=by
  have h1:(i.bytes:Int)<=4096:=by omega
  have h2:(i.bytes:Int)*n<=4096*1073741824:=by
   have:i.bytes*n.toNat<=4096*1073741824:=Nat.mul_le_mul (by omega) (by omega);have K:((i.bytes*n.toNat:Nat):Int)<=((4096*1073741824:Nat):Int):=by exact_mod_cast this
   rw[Int.natCast_mul]at K;have Q:(n.toNat:Int)=n:=by omega
   rw[Q]at K;omega
  omega
 have L:=run_make (P:=P) w t e i z I D A M N 0 n (Int.le_refl _) O C (by omega);rw[H]at L;refine F3 (w':=w.alloc (.cells (madeCells z.cells (n.toNat*j)) e)) (v:=.slice (some ⟨w.heap.size,0,none⟩) 0 n.toNat) ?_ ?_
 ·simp only[execOp,E9 h Y,E9 h Z];exact J8 L
 ·have J:Below w.heap.size w (w.alloc (.cells (madeCells z.cells (n.toNat*j)) e)):=(Below.refl _ _).alloc (Nat.le_refl _) _;have X:∀b,blk (.slice (some ⟨w.heap.size,0,none⟩) 0 n.toNat)=some b->w.heap.size<=b:=by intro b hb;simp[blk]at hb;omega
  have E:(w.alloc (.cells (madeCells z.cells (n.toNat*j)) e)).ownsRow S.B e j (.slice (some ⟨w.heap.size,0,none⟩) 0 n.toNat) 0 []:=World.ownsRow_made w _ _ h.size (by unfold maxLen;omega) (size_madeCells _ _);refine⟨upd G k (.slice (some ⟨w.heap.size,0,none⟩) 0 n.toNat),h.new W V (o:=.spare 0 j e) J X ⟨[],E⟩,(G7 _ _ _).symm,?_⟩;simp only[Cell.rep];exact⟨_,_,rfl,⟨Nat.zero_le _,fun h=>by cases h⟩,(show (0:Nat)<4611686018427387904 by decide),.inl rfl⟩
theorem A11(k:Nat){t e:TypeId}{g d:Nat}{x y:Operand}{E F:IntKind}{n:Int}(α:Type)(c:α->Nat->Cell)[ht:TySl P t e g d]
  (C:opv fr x=some (I6 (.int E 0))) (D:opv fr y=some (I6 (.int F n))) (j:0<=n) (A:n<=1073741824) (h:(G5 k fr&&K5 k ob)=true) :
  EffV P ⟨dst,.makeSlice t x y,ty,pos,af,gd⟩ fr ob (.s (.one (.buf k α g c []))) fr ((k,.spare 0 g e)::ob):=by
 simp only[C30]at h;obtain⟨q,v⟩:=h;obtain⟨w,z,B⟩:=Q6 v;have:=A10 (P:=P) (dst:=dst) (ty:=ty) (pos:=pos) (af:=af) (gd:=gd) (fr:=fr) (ht:=ht) k α c C D j A z B
 rwa[T4 q,w]at this
def StepG(P:Program)(nt:Nat)(ops:Array Oper)(o:Oper)(φ:Fa)(ob:Obs)(K:Fa->Obs->Prop):Prop :=
 Wanted ops φ o true/\∀S G a w,S.nt=nt->SimF P S φ ob G a w->Does P o a w (fun v w'=>∃b ob' G',K b ob'/\SimF P S b ob' G' (a.put o.dst v) w')
def StepTG(P:Program)(nt:Nat)(ops:Array Oper)(T i:Nat)(φ:Fa)(ob:Obs)(K:Fa->Obs->Prop):Prop :=
 ∃o,ops[i]?=some o/\cond (tn T i o) (StepG P nt ops o φ ob K) (∃s d,o.dst=some d/\YieldsN P nt ops o φ ob s/\K (l5 φ d s) ob)
def kY(P:Program)(nt:Nat)(ops:Array Oper)(T:Nat)(K:Fa->Obs->Prop):Nat->Array Bool->Fa->Obs->Prop
 | 0,listed,φ,ob=>Region.ready .any ops listed=[]/\K φ ob
 | fuel+1,listed,φ,ob=>(Region.ready .any ops listed=[]->K φ ob)/\∀i∈Region.ready .any ops listed,StepTG P nt ops T i φ ob (kY P nt ops T K fuel (listed.setIfInBounds i true))
theorem fS{T:Nat}{K:Fa->Obs->Prop}{S:Ctx}{Q:Exit->Act->World->Prop}(q:S.nt=nt)(f:∀(j t:Nat),(ops[j]?).bind (fun o=>o.dst)=some t->t<nt)(x:∀φ ob G a w,K φ ob->SimF P S φ ob G a w->Q .normal a w) :
  ∀(e:Nat) (g:Array Bool) (φ:Fa) (ob:Obs) (G:Gh) (a:Act) (w:World),kY P nt ops T K e g φ ob->SimF P S φ ob G a w->wpAny P .any ops Q e g a w
 | 0,_,φ,ob,G,a,w,h,hs=>⟨h.1,x φ ob G a w h.2 hs⟩
 | e+1,g,φ,ob,G,a,w,h,hs=>by
  refine⟨fun L=>x φ ob G a w (h.1 L) hs,fun i E=>?_⟩;obtain⟨o,N,c⟩:=h.2 i E;unfold wpOp;simp only[N];cases I:tn T i o with
  | true =>
   rw[I]at c;obtain⟨M,c⟩:=c;rw[A5 (bU q hs M f)];refine .inl (L4 (c S G a w q hs) ?_);rintro v w' ⟨V,ob',G',k,F⟩;exact fS q f x e _ V ob' G' _ w' k F
  | false =>
   rw[I]at c;obtain⟨s,d,C,⟨W,z,A,U⟩,k⟩:=c;rw[C]at z;cases z;rcases U with ⟨H,J,D,B⟩ | ⟨H,rfl⟩
   ·rw[bU q hs H f,A5 rfl];refine .inl (L4 (B S G a w (hs.sub fun i s E=>(D i s E).1)) ?_);rintro v w' ⟨R,X,rfl,O⟩;rw[C];exact fS q f x e _ _ ob G _ w' k ((hs.ext R).put (by rw[q];exact A) O)
   ·rw[bU q hs H f,A6 (by simp),C];exact fS q f x e _ _ ob G _ w k (hs.put (by rw[q];exact A) rfl)
theorem BB{T:Nat}{K:Fa->Obs->Prop}:∀(c:Nat) (b:Array Bool) (φ:Fa) (ob:Obs),b.getD T false=true->yP P nt ops K c b φ ob->kY P nt ops T K c b φ ob
 | 0,_,_,_,_,h=>h
 | c+1,b,φ,ob,hT,h=>by
  refine⟨h.1,fun i A=>?_⟩;obtain⟨o,F,j⟩:=h.2 i A;have q:i≠T:=fun e=>by subst e;have:=R2 A;rw[hT]at this;cases this
  have k:(b.setIfInBounds i true).getD T false=true:=by
   simp only[Array.getD_eq_getD_getElem?]at hT ⊢
   rwa[Array.getElem?_setIfInBounds_ne q]
  refine⟨o,F,?_⟩;have H:tn T i o=turns o.op:=by unfold tn;rw[I9 q];rfl
  rw[H];cases y:turns o.op with
  | true =>
   rw[y]at j;refine⟨by unfold Wanted;rw[j.1],fun S G a w E hs=>?_⟩;have l:=j.2 S G a w E hs;unfold Does at l ⊢;have m:∀v w',(∃p ob' G',yP P nt ops K c (b.setIfInBounds i true) p ob'/\SimF P S p ob' G' (a.put o.dst v) w')->(∃p ob' G',kY P nt ops T K c (b.setIfInBounds i true) p ob'/\SimF P S p ob' G' (a.put o.dst v) w'):=by
    rintro v w' ⟨p,ob',G',B,z⟩;exact⟨_,ob',G',BB c _ _ _ k B,z⟩
   generalize (execOp a.eval o).run P w=r at *;cases r with
   | ok n w' =>
    cases n<;>simp only at l ⊢<;>try exact l.elim
    case value v=>exact m _ _ l
    case skip=>exact m _ _ l
    case enter f args=>exact l.mono fun e L ⟨v,C,I⟩=>⟨v,C,m _ _ I⟩
   | halt x w'=>exact l
  | false =>
   rw[y]at j;obtain⟨s,d,l,J,HK⟩:=j;exact⟨s,d,l,J,BB c _ _ _ k HK⟩
theorem OP{T:Nat}{K:Fa->Obs->Prop}{i d:Nat}{w:Oper}{s:SV}(hi:ops[i]?=some w)(V:tn T i w=false)(F:w.dst=some d) :
  ∀(c:Nat) (b:Array Bool) (φ:Fa) (ob:Obs),Closed ops b ->
   (∀j l,ops[j]?=some l->j≠i->b.getD j true=false->tn T j l=true->Bef ops j i=true) ->
   (∀j l,ops[j]?=some l->j≠i->b.getD j true=false->tn T j l=false->(∃e∈l.after.toList,Region.binds .any e=true/\e.on=i)\/aL ops w l=true) ->
   i∈Region.ready .any ops b->YieldsN P nt ops w φ ob s ->
   kY P nt ops T K c (b.setIfInBounds i true) (l5 φ d s) ob->kY P nt ops T K (c+1) b φ ob:=by
 have q:∀(c:Nat) (b:Array Bool) (φ:Fa) (ob:Obs),YieldsN P nt ops w φ ob s->kY P nt ops T K c (b.setIfInBounds i true) (l5 φ d s) ob->StepTG P nt ops T i φ ob (kY P nt ops T K c (b.setIfInBounds i true)):=by
  intro c b φ ob D H;exact⟨w,hi,by rw[V];exact⟨s,d,F,D,H⟩⟩
 intro c;induction c with
 | zero =>
  intro b φ ob Q N O A D H;refine⟨fun h=>(by rw[h]at A;cases A),fun j I=>?_⟩;by_cases f:j=i
  ·subst f;exact q 0 b φ ob D H
  ·have:=ready_mono I f;rw[H.1]at this;cases this
 | succ c ih =>
  intro b φ ob Q N O A D H;refine⟨fun h=>(by rw[h]at A;cases A),fun j I=>?_⟩;by_cases f:j=i
  ·subst f;exact q (c+1) b φ ob D H
  ·obtain⟨g,l,p,u⟩:=mem_ready.1 I;have v:=R2 A;cases t:tn T j l with
   | true =>
    have hb:=N j l p f g t;have:=l8 Q j hb (fun o Y e R x=>by rw[p]at Y;cases Y;exact u e (Array.mem_toList_iff.1 R) x);rw[v]at this;cases this
   | false =>
    have E:aL ops w l=true:=by
     rcases O j l p f g t with ⟨e,R,x,U⟩ | h
     ·have:=u e (Array.mem_toList_iff.1 R) x;rw[U]at this;have L:b.getD i false=true:=this;rw[v]at L;cases L
     ·exact h
    obtain⟨o',J,r⟩:=H.2 j (ready_mono I f);rw[p]at J;cases J;rw[t]at r;obtain⟨sj,X,G,W,HK⟩:=r;simp only[aL,F,G,C30,Bool.not_eq_true',List.contains_eq_mem,decide_eq_false_iff_not]at E;obtain⟨⟨Z,L⟩,M⟩:=E;have M:d≠X:=fun e=>by subst e;simp at M
    refine⟨l,p,by
     rw[t];refine⟨sj,X,G,W.unput Z,?_⟩;refine ih (b.setIfInBounds j true) _ ob (U5 Q I) ?_ ?_ (ready_mono A (Ne.symm f)) (D.put L) ?_
     ·intro k ok S z C B;refine N k ok S z ?_ B;by_cases m:j=k
      ·subst m;exact g
      ·rwa[getD_set_ne true m]at C
     ·intro k ok S z C B;refine O k ok S z ?_ B;by_cases m:j=k
      ·subst m;exact g
      ·rwa[getD_set_ne true m]at C
     ·rw[Array.setIfInBounds_comm _ _ f,<-uW M]
      exact HK⟩
theorem HA{T c:Nat}{K:Fa->Obs->Prop}{E:Fr->Obs->Prop}:∀(l:List Oper) (k:Nat) (b:Array Bool) (fr:Fr) (ob:Obs),(∀j,j<l.length->l[j]?=ops[k+j]?)->Closed ops b->uX ops T l.length k b=true ->
  (∀fr ob,Closed ops (wU l.length k b)->E fr ob->kY P nt ops T K c (wU l.length k b) (D4 fr) ob)->LexD P nt ops E l fr ob->kY P nt ops T K (c+l.length) b (D4 fr) ob
 | [],k,b,fr,ob,hl,hc,hB,hE,h=>hE fr ob hc h
 | o::l,k,b,fr,ob,hl,hc,hB,hE,h=>by
  have D:ops[k]?=some o:=by simpa using (hl 0 (by simp)).symm
  simp only[C34,uX,D,C30,Bool.not_eq_true']at hB;obtain⟨⟨⟨L,v⟩,I⟩,x⟩:=hB;have w:k∈Region.ready .any ops b:=by simpa using L
  have z:∀j,j<l.length->l[j]?=ops[k+1+j]?:=fun j J=>by have:=hl (j+1) (by simpa using J);simpa[Nat.add_assoc,Nat.add_comm 1 j] using this
  have M:turns o.op=false:=by
   cases C:turns o.op
   ·rfl
   ·simp[tn,C]at v
  simp only[LexD]at h;rw[M]at h;simp only[cond]at h;obtain⟨s,d,G,N,F⟩:=h;have t:∀j q,ops[j]?=some q->j≠k->b.getD j true=false->cond (tn T j q) (Bef ops j k) (q.after.toList.any (fun e=>Region.binds .any e&&Nat.beq e.on k)||aL ops o q)=true:=by
   intro j q f g p;have A:j<ops.size:=(Array.getElem?_eq_some_iff.1 f).1;have:=List.all_eq_true.1 I j (C40.2 A);rw[I9 g,p,f]at this;simp only[Bool.false_or]at this;exact this
  show kY P nt ops T K (c+(l.length+1)) b (D4 fr) ob;rw[<-Nat.add_assoc];refine OP D v G (c+l.length) b _ ob hc ?_ ?_ w N ?_
  ·intro j q f g p u;have:=t j q f g p;rw[u]at this;exact this
  ·intro j q f g p u;have:=t j q f g p;rw[u]at this;simp only[cond,C64,List.any_eq_true,C30]at this;rcases this with ⟨e,H,hb,B⟩ | h
   ·exact .inl ⟨e,H,hb,Nat.eq_of_beq_eq_true B⟩
   ·exact .inr h
  ·rw[<-eQ];exact HA l (k+1) _ _ ob z (U5 hc w) x hE F
theorem eY{id:Nat}{l:List Oper}(n:Nat){C:Oper}{fr:Fr}{ob:Obs}{Q:Post}(hm:P.follows .mixedOrders=true)(H:KJ nt l n=true)(hc:l[n]?=some C)
  (h:LexD P nt l.toArray (fun fr ob=>StepG P nt l.toArray C (D4 fr) ob (fun φ' ob'=>∃fr',φ'=D4 fr'/\LexD P nt l.toArray (fun fr ob=>Q .normal fr ob) (l.drop (n+1)) fr' ob')) (l.take n) fr ob):WpC P nt (.region id l.toArray true) fr ob Q:=by
 intro S G a w N hs;unfold KJ at H;simp only[C30]at H;obtain⟨⟨⟨⟨⟨⟨⟨b1,b2⟩,b3⟩,b4⟩,b5⟩,b6⟩,D⟩,E⟩:=H;have Z:n+1<=l.length:=Nat.le_of_ble_eq_true b3;have c:(l.take n).length=n:=Nat.eq_of_beq_eq_true b4;have u:∀(j t:Nat),(l.toArray[j]?).bind (fun o=>o.dst)=some t->t<nt:=by
  intro j t U;cases A:l.toArray[j]? with
  | none=>simp[A]at U
  | some o =>
   simp[A]at U;have z:o∈l:=by
    rw[List.getElem?_toArray]at A;exact C53 A
   have:=List.all_eq_true.1 b2 o (by simpa using z);rw[U]at this;simpa using this
 refine wp_region_any hm ?_;have I:Closed l.toArray (Array.replicate l.length false):=by
  intro j o A M;simp only[Array.getD_eq_getD_getElem?]at M;rcases Nat.lt_or_ge j l.length with F | F
  ·simp[F]at M
  ·simp[F]at M
 have R:l.toArray[n]?=some C:=by rw[List.getElem?_toArray];exact hc
 have B:tn n n C=true:=by unfold tn;rw[Nat.beq_refl];rfl
 have V:kY P nt l.toArray n (fun φ ob=>∃fr',φ=D4 fr'/\Q .normal fr' ob) ((l.drop (n+1)).length+1+(l.take n).length) (Array.replicate l.length false) (D4 fr) ob:=by
  refine HA (l.take n) 0 _ fr ob (fun j Y=>?_) I (by rw[c];exact b1) (fun fr ob f X=>?_) h
  ·rw[Nat.zero_add,List.getElem?_toArray,C59 (by rw[c]at Y;exact Y)]
  ·rw[c]at f ⊢;have W:n∈Region.ready .any l.toArray (wU n 0 (Array.replicate l.length false)):=by simpa using b6
   have q:=U5 f W;refine⟨fun J=>(by rw[J]at W;cases W),fun j L=>?_⟩;have K:j=n:=Nat.eq_of_beq_eq_true (List.all_eq_true.1 b5 j L);subst K;refine⟨C,R,?_⟩;rw[B];refine⟨X.1,fun S G a w N hs=>sJ (X.2 S G a w N hs) ?_⟩;rintro v w' ⟨φ',ob',G',⟨fr',rfl,hL⟩,p⟩;exact⟨_,ob',G',BB _ _ _ _ D (lL (l.drop (j+1)) (j+1) _ fr' ob' (fun i=>by rw[C61,List.getElem?_toArray]) q E hL),p⟩
 have hx:Below w.heap.size w { w with drawn:=w.drawn+1 }:=⟨rfl,rfl,rfl,Nat.le_refl _,fun _ _=>rfl⟩
 have p:SimF P S (D4 fr) ob G a { w with drawn:=w.drawn+1 }:=(simF_iff.2 hs).ext hx;have:=fS (Q:=PostOf P S Q) N u (fun φ ob' G' a' w' ⟨fr',J,hq⟩ T=>⟨fr',ob',G',hq,.inl (simF_iff.1 (J ▸ T))⟩) _ _ _ ob G a _ V p;have k:(l.drop (n+1)).length+1+(l.take n).length=l.length:=by rw[C45,c];omega
 rw[k]at this;simpa using this
theorem vB{a:Op}{ty:TypeId}{pos:String}{af:Array Edge}{d j t:Nat}{b x:Bool}{fr:Fr}{ob:Obs}{K:Fa->Obs->Prop}(c:(ops[j]?).bind (·.dst)=some t)(f:D4 fr t=some (.s (.one (.p (.v (.bool x))))))(hb:x=b)
  (h:sG P nt ops ⟨some d,a,ty,pos,af,none⟩ (D4 fr) ob K):StepG P nt ops ⟨some d,a,ty,pos,af,some (j,b)⟩ (D4 fr) ob K :=
 ⟨⟨t,_,c,f,by have:=Wants.val (b:=b) x;rwa[show (x == b)=true by simp[hb]]at this⟩,h.2⟩
variable {K:Fr->Obs->Prop}
theorem V9{a:Op}{ty:TypeId}{pos:String}{af:Array Edge}{j t:Nat}{b x:Bool}(A:(ops[j]?).bind (·.dst)=some t)(D:D4 fr t=some (.s (.one (.p (.v (.bool x))))))(hb:x=b)(B:turns a=false)
  (k:LexD P nt ops K (⟨some d,a,ty,pos,af,none⟩::rest) fr ob):LexD P nt ops K (⟨some d,a,ty,pos,af,some (j,b)⟩::rest) fr ob:=by
 simp only[LexD,B,cond]at k ⊢;obtain⟨s,e,z,⟨u,f,g,E⟩,y⟩:=k;have C:Wanted ops (D4 fr) (⟨some d,a,ty,pos,af,some (j,b)⟩:Oper) true:=⟨t,_,A,D,by have:=Wants.val (b:=b) x;rwa[show (x == b)=true by simp[hb]]at this⟩
 rcases E with ⟨_,c,h,w⟩ | ⟨hw2,_⟩
 ·exact⟨s,e,z,⟨u,f,g,.inl ⟨C,c,fun i q m=>⟨(h i q m).1,C37.2 (.inr (by
   have:=(h i q m).2;unfold uses at this
   simpa[AC] using this))⟩,w⟩⟩,y⟩
 ·unfold Wanted at hw2;cases hw2
theorem C27(k:Nat){e:TypeId}{α:Type}{d:Nat}{c:α->Nat->Cell}{j:List α}(H:B4 ob k=some (.grow e α d c j)) :
  Sees P nt fr ob fr ((k,.growT e j.length d (dV d c j))::ob):=fun S G a w K h=>by
 refine⟨G,h.retold H (fun b i I=>⟨I.1,trivial⟩) ?_⟩;rintro L ⟨J,f,l,F⟩;refine⟨J,f,l,T5 j,?_⟩;refine cX (by rw[T5,f.1]) fun q t z v D=>?_;have u:q<j.length*d:=by have:=(List.getElem?_eq_some_iff.1 v).1;rwa[T5]at this
 have p:0<d:=Nat.pos_of_ne_zero fun e=>by rw[e]at u;simp at u
 have B:q / d<j.length:=Nat.div_lt_of_lt_mul (by rw[Nat.mul_comm];exact u);have C:q % d<d:=Nat.mod_lt _ p;have n:q=q / d*d+q % d:=by rw[Nat.mul_comm];exact (Nat.div_add_mod q d).symm
 have x:=iI (c:=c) j (q / d) (q % d) _ (C29 B) C;rw[<-n,v]at x;cases x;obtain⟨M,A,E⟩:=F (q / d) B (q % d) C;rw[<-n,D]at A;cases A;exact E
theorem C28(k:Nat){e:TypeId}{α:Type}{m:Nat}{c:α->Nat->Cell}{n:Nat}{u:List TC}(l:List α)(B:B4 ob k=some (.growT e n m u))(t:l.length=n)(p:u=dV m c l) :
  Sees P nt fr ob fr ((k,.grow e α m c l)::ob):=by
 subst p t;intro S G a w t h;refine⟨G,h.retold B (fun b i C=>⟨C.1,trivial⟩) ?_⟩;rintro F ⟨D,f,d,E,v⟩;refine⟨D,f,d,fun i y j A=>?_⟩;have x:=iI (c:=c) l i j _ (C29 y) A;obtain⟨z,q,s⟩:=v.get _ _ x;exact⟨z,q,s⟩
theorem OQ{x:Operand}{t e q:TypeId}{v d k y n:Nat}{D:List TC}(B:opv fr x=some (.s (.one (.mut k))))(A:B4 ob k=some (.growT q n y D))[ht:TySl P t e v d] :
  Neu P ⟨dst,.call ⟨.builtin .len,#[x],#[t]⟩,ty,pos,af,gd⟩ fr ob (fun C=>C=B2 n) :=
 E1 fun S G a w h=>by
  refine⟨.int .i64 n,?_,rfl,rfl⟩;obtain⟨j,_⟩:=F4 h B;obtain⟨E,f,_⟩:=h.obs k _ A;rcases f.2 with ⟨p,z⟩ | ⟨g,cap,cur,p,_⟩
  ·rw[p]at j;simp[execOp,resolve,invoke,builtin,j,Builtin.len_,run_underlying ht.out.1,goInt,z]
  ·rw[p]at j;simp[execOp,resolve,invoke,builtin,j,Builtin.len_,run_underlying ht.out.1,goInt]
theorem eZ{x y:Operand}{t e v:TypeId}{j b k n:Nat}{I:List TC}{F:IntKind}{i:Int}[ht:TySl P t e j b](D:opv fr x=some (.s (.one (.mut k))))(C:B4 ob k=some (.growT v n j I))
  (E:opv fr y=some (I6 (.int F i))) (z:0<=i) (B:i<n):Neu P ⟨dst,.indexAddr t x y,ty,pos,af,gd⟩ fr ob (fun H=>H=.s (.one (.mref k j i.toNat 0))) :=
 E1 fun S G a w h=>by
  obtain⟨q,_⟩:=F4 h D;obtain⟨K,c,_⟩:=h.obs k _ C;rcases c.2 with ⟨l,J⟩ | ⟨g,cap,cur,l,_⟩
  ·omega
  ·rw[l]at q;refine⟨.pointer (some ⟨g,i.toNat*j,none⟩),?_,g,n,cap,l,rfl⟩;simp only[execOp,q,E9 h E];refine J8 ?_;have hb:0<=i/\i<(n:Int):=⟨z,B⟩
   simp[Instr.indexAt,run_underlying ht.out.1,asIntOf,hb,H4 ht.size,Addr.add_lit]
theorem vC{x:Operand}{t e:TypeId}{k q o n:Nat}{i:Nat}{v:List TC}{s:TC}[ht:TyOne P t](F:opv fr x=some (.s (.one (.mref k i q o))))(B:B4 ob k=some (.growT e n i v))(E:v[q*i+o]?=some s) :
  Neu P ⟨dst,.load t x,ty,pos,af,gd⟩ fr ob (fun H=>H=.s (.one s)) :=
 E1 fun S G a w h=>by
  obtain⟨b,m,y,A,D⟩:=F4 h F;obtain⟨I,j,_,C,ha⟩:=h.obs k _ B;obtain⟨z,p,u⟩:=ha.get _ s E;have:=j.cells (g:=b) (by rw[A];rfl) (q*i+o) z p;refine⟨z,?_,u⟩;simp only[execOp,D];refine J8 ?_;have c:w.cell? ⟨b,q*i+o,none⟩=some z:=by simpa[Addr.add_lit] using this
  simp[Instr.loadAt,Instr.sureAddr,P2 (ht:=ht) c]
theorem eD{x y:Operand}{k k2 n m:Nat}{H D:Nat}{ts us:List TC}{t e:TypeId}[ht:TySl P t e H D](hx:opv fr x=some (.s (.one (.mut k))))(W:B4 ob k=some (.growT e n H ts))
  (hy:opv fr y=some (.s (.one (.mut k2)))) (X:B4 ob k2=some (.tarr m H us)) (J:n+m<=1073741824) (hp:Nat.blt k 1000000=true) :
  EffV P ⟨dst,.call ⟨.builtin .append,#[x,y],#[t,t]⟩,ty,pos,af,gd⟩ fr ob (.s (.one (.mut k))) (Fr.forget k fr) ((k,.growT e (n+m) H ((ts++us).map (TC.forget k)))::Obs.forget k ob):=by
 intro S G a w h;have ah:=ht.out.2.2.1;obtain⟨ab,_⟩:=F4 h hx;obtain⟨O,_⟩:=F4 h hy;obtain⟨b2,vs,t2,U,ai,V,N,E⟩:=h.obs k2 _ X;rw[U]at O;have ac:vs.length=m*H:=by rw[<-E.length,N]
 obtain⟨ws,C,_,ae,ag⟩:=h.obs k _ W;obtain⟨v',w',L,A,f,q,Q⟩:=gQ (P:=P) (ty:=ty) S.B ht C h.size (u:=a.eval y) (ad:=some ⟨b2,0,none⟩) (m:=m) (c:=m) (news:=vs) O (by intro h;cases h) (Nat.le_refl _) ac
  (fun b o hb j z hz=>by
   injection hb with hb;injection hb with e1 e2;subst e1;subst e2
   rw[Lib.cell_of_heap V]
   simpa using hz)
  (.inr ⟨b2,0,rfl⟩) (ON E) J
 have I:(G k).ownBlock=blk (G k):=r7 (c5 C);have F:∀b i z,D9 (Mut S ob G) w b i z->w'.cell? ⟨b,i,none⟩=some z:=by
  intro b i z Z;have Y:b<w.heap.size:=World.block_lt_of_cell? w _ Z.1;by_cases hb:blk (G k)=some b
  ·exact absurd (Or.inr ⟨k,_,W,hb,trivial⟩) Z.2
  ·rw[World.cell?_of_block (w:=w) (a:=⟨b,i,none⟩) (f.block b Y (by rw[I];exact fun e=>hb e.symm))];exact Z.1
 have M:=h.turn (o':=.growT e (n+m) H ((ts++us).map (TC.forget k))) (u':=v') (by simpa using hp) W f.os f.tape f.output f.size (fun j hj hb=>f.block j hj (by rw[I];exact fun e=>hb e.symm)) F q
  (by
   intro b i hb ho;rcases q b ho.1 with h1 | h1
   ·exact⟨h1,trivial⟩
   ·omega)
  (fun rd K G' R=>by
   refine⟨_,A,by omega,by rw[C55,C32,ae,N,C62],?_⟩
   exact ((ag.append E).mono fun _ _=>TC.rep_mono K).map (TC.forget k) fun _ _=>TC.rep_forget R)
 exact F3 (w':=w') (v:=v') (by simp[execOp,resolve,invoke,builtin,ab,L]) ⟨upd G k v',M,(G7 _ _ _).symm,lQ A⟩
theorem C04{α:Type}{c:α->Nat->Cell}{m l:Nat}{e:TypeId}{g:Nat->List α}{b:Obs}(z:l<1000)(C:low b=true)(A:B4 b l=none)(u:∀r,r<m->G5 (r+1000) fr=true)(x:∀r,r<m->nQ (r+1000) b=true) :
  ∀d,d<=m->Sees P nt fr (b++((l,.growT e m 1 (Q8 c m 0 g))::M7 c g (List.range m))) fr (b++((l,.growT e m 1 (Q8 c m d g))::M7 c g ((List.range m).drop d)))
 | 0,_=>by intro S G a w F h;exact⟨G,h⟩
 | d+1,hd=>by
  refine (C04 z C A u x d (by omega)).trans ?_;have f:(List.range m).drop d=d::(List.range m).drop (d+1):=by
   rw[C38 (by simp;omega)];simp
  have E:B4 (b++((l,.growT e m 1 (Q8 c m d g))::M7 c g ((List.range m).drop d))) (d+1000)=some (.arr α 1 c (g d)):=by
   rw[Q7 (lO C (by omega)),B0 (by omega)];exact nP (by rw[f];simp)
  refine (Sees.freeze E).trans ?_;rw[GO (u d (by omega))];intro S G a w F h;refine⟨G,h.weakenO fun k o j=>?_⟩;have B:k≠d+1000:=by
   rintro rfl;rw[Q7 (lO C (by omega)),B0 (by omega)]at j;obtain⟨r,q,D,_⟩:=(eR _ _ _).1 j;have:r=d:=by omega
   subst this;obtain⟨i,H,y⟩:=List.mem_iff_getElem.1 q;simp at y;omega
  rw[getO_mapO,M4 B];cases q:B4 b k with
  | some I =>
   rw[gR q]at j ⊢;cases j;show some (Ob.freeze _ _ _ _ _ _)=_;rw[Ob.freeze_free (wT (x d (by omega)) q)]
  | none =>
   rw[Q7 q]at j ⊢;by_cases v:l=k
   ·subst v;rw[C4]at j ⊢;cases j;show some (Ob.growT e m 1 ((Q8 c m d g).map _))=_;rw[AF]
   ·rw[B0 v]at j ⊢;obtain⟨r,D,y,rfl⟩:=(eR _ _ _).1 j;subst y;rw[nP (by rw[f];exact List.mem_cons_of_mem _ D)];rfl
theorem C10{α:Type}{c:α->Nat->Cell}{m kb:Nat}{e:TypeId}{g:Nat->List α}{b:Obs}(v:kb<1000)(A:low b=true)(j:B4 b kb=none)(u:∀r,r<m->G5 (r+1000) fr=true)(x:∀r,r<m->nQ (r+1000) b=true) :
  Sees P nt fr (b++((kb,.growT e m 1 (Q8 c m 0 g))::M7 c g (List.range m))) fr ((kb,.grow e (List α) 1 (fun l _=>.list α 1 c l) ((List.range m).map g))::b):=by
 refine (C04 v A j u x m (Nat.le_refl _)).trans ?_;have z:B4 (b++((kb,.growT e m 1 (Q8 c m m g))::M7 c g ((List.range m).drop m))) kb=some (.growT e m 1 (Q8 c m m g)):=by
  rw[Q7 j,C4]
 have y:Q8 c m m g=dV 1 (fun (l:List α) (_:Nat)=>Cell.list α 1 c l) ((List.range m).map g):=by
  rw[nO];unfold Q8;rw[C71];refine List.map_congr_left fun r B=>?_;rw[A5 (by simpa using B)];rfl
 refine (C28 (c:=fun (l:List α) (_:Nat)=>Cell.list α 1 c l) kb ((List.range m).map g) z (by simp) y).trans ?_;intro S G a w C h;refine⟨G,h.weakenO fun k o q=>?_⟩;by_cases f:kb=k
 ·subst f;rw[C4]at q ⊢;exact q
 ·rw[B0 f]at q;rw[B0 f,gR q]
theorem mC{t e:TypeId}{q C n:Nat}{g:Array (Nat×Operand)}{α:Type}{c:α->Nat->Cell}{ys:List α}[ht:TySl P t e q C](hb:zZ fr q c g.toList 0 ys)(X:g.toList.length=n)(D:Nat.ble n 100000=true)(H:Nat.ble q 100=true) :
  Neu P ⟨dst,.buildSlice t n g,ty,pos,af,gd⟩ fr ob (fun s'=>s'=.s (.one (.full α q c ys))):=by
 intro S G a w h;have ab:=ht.out.2.2.1;have O:n<=100000:=by simpa using D
 have F:q<=100:=by simpa using H
 have W:n*q<=100000*100:=Nat.mul_le_mul O F;obtain⟨_,_,_,_,A⟩:=ht.out;cases N:P.info? e with
 | none=>simp[N]at A
 | some i =>
 cases Z:i.zero with
 | none=>simp[N,Z]at A
 | some z =>
 have U:(P.info? e).bind (·.zero)=some z:=by simp[N,Z]
 let k:Array Value:=(Array.range (n*q)).map ((if n*q=0 then #[] else z.cells)[· % (if n*q=0 then #[] else z.cells).size]!);have E:k.size=n*q:=by simp[k]
 obtain⟨vs,M,ac,Q,hv⟩:=iG h g.toList 0 ys k hb (by rw[E,X,Nat.zero_add]);simp only[Nat.zero_mul,List.take_zero,C58]at M;have Y:(g.map fun x=>(x.1,a.eval x.2)).toList=g.toList.map fun x=>(x.1,a.eval x.2):=by simp
 refine F3 (w':=w.alloc (.cells vs.toArray e)) (v:=.slice (some ⟨w.heap.size,0,none⟩) n n) ?_ ?_
 ·simp only[execOp];refine J8 ?_;simp only[Instr.buildSlice,Sem.run_bind,run_underlying ht.out.1,Result.andThen_ok,H4 ht.size];rw[A6 (by omega)];by_cases B:n*q=0
  ·simp only[B,if_true,Sem.run_bind,Sem.run_pure,Result.andThen_ok];have y:k=(Array.range 0).map ((#[]:Array Value)[· % (#[]:Array Value).size]!):=by simp only[k,B,if_true]
   rw[show (g.map fun (x:Nat×Operand)=>match x with | (i,x)=>(i,a.eval x))=g.map fun x=>(x.1,a.eval x.2) from rfl,Y,<-y,M];simp[newRow]
  ·simp only[A6 B,Sem.run_bind,M5 U,Sem.run_pure,Result.andThen_ok];have y:k=(Array.range (n*q)).map (z.cells[· % z.cells.size]!):=by simp only[k,A6 B]
   rw[show (g.map fun (x:Nat×Operand)=>match x with | (i,x)=>(i,a.eval x))=g.map fun x=>(x.1,a.eval x.2) from rfl,Y,<-y,M];simp[newRow]
 ·have J:Below w.heap.size w (w.alloc (.cells vs.toArray e)):=(Below.refl _ _).alloc (Nat.le_refl _) _;refine⟨J,_,rfl,?_⟩;have K:ys.length=n:=by rw[Q,X]
  refine⟨?_,some ⟨w.heap.size,0,none⟩,by rw[K]⟩;simp only[Cell.rep];refine⟨some ⟨w.heap.size,0,none⟩,n,by rw[K],⟨by omega,by simp⟩,by omega,.inr ⟨w.heap.size,0,rfl,fun m V j hj=>?_⟩⟩;obtain⟨zz,R,T⟩:=hv m V j hj;refine⟨zz,⟨?_,fun I=>?_⟩,V,Cell.rep_mono (fun _ _ _ hr=>u6 J hr) _ _ T⟩
  ·rw[Nat.zero_add];exact cell_of_heap (heap_alloc_new w _) (by simpa using R)
  ·have:=h.mut_lt I;omega
theorem pE{x y:Operand}{α:Type}{B C:Nat}{c:α->Nat->Cell}{g ys:List α}{t e:TypeId}{s:SV}[ht:TySl P t e B C](hx:opv fr x=some (.s (.one (.full α B c g))))
  (hy:opv fr y=some s) (hl:IsList s α B c ys) (ai:g.length+ys.length<=1073741824) (bg:0<ys.length) :
  Neu P ⟨dst,.call ⟨.builtin .append,#[x,y],#[t,t]⟩,ty,pos,af,gd⟩ fr ob (fun s'=>s'=C0 α B c (g++ys)):=by
 intro S G a w h;obtain⟨ac,D,bk,ap,N⟩:=ht.out;cases Z:P.info? e with
 | none=>simp[Z]at D
 | some i =>
 simp[Z]at D;obtain⟨R,A⟩:=D;cases hz:i.zero with
 | none=>simp[Z,hz]at N
 | some z =>
 simp[Z,hz]at N;obtain⟨az,a0,an⟩:=F4 h hx;have ba:=Z6 h hy hl;obtain⟨ad,bj,vx,W,aq,bl,F,ax,bd,al⟩:=U1 az;rw[an]at W;injection W with e1 e2 e3
 subst e1;obtain⟨bi,I,vy,bc,ar,bm,M,ay,be,am⟩:=U1 ba;obtain⟨X,oy,ah,L⟩:=am.resolve_left (by omega);have J:(g.length+ys.length)*C<=140737488355328:=by
  have:(g.length+ys.length)*C<=1073741824*4096:=Nat.mul_le_mul ai ap;omega
 have aj:g.length+ys.length<=maxLen:=by unfold maxLen;omega
 obtain⟨Y,H⟩:∃Y,Y=grownCap w (g.length+ys.length) g.length e:=⟨_,rfl⟩
 have av:=grownCap_ge w (g.length+ys.length) g.length e;have au:=grownCap_le_maxLen w (g.length+ys.length) g.length e aj;rw[<-H]at av au;have V:(Builtin.append_ #[t,t] ty #[a.eval x,a.eval y]).run P w=.ok (.slice (some ⟨w.heap.size,0,none⟩) (g.length+ys.length) Y) (w.drew.alloc (.cells (vx.toArray++vy.toArray++Builtin.zeroCells z.cells (Y-(g.length+ys.length))) e)):=by
  rw[an,bc,ah];rcases al with h0 | ⟨bx,ox,hax,hrx2⟩
  ·have bf:g=[]:=List.eq_nil_of_length_eq_zero h0;subst bf;have ao:vx=[]:=List.eq_nil_of_length_eq_zero (by rw[F];simp);subst ao;cases a0 with
   | none =>
    have K:=run_append_nil (P:=P) w t ty e i z ac Z hz ⟨X,oy,none⟩ ys.length I vy (by rw[R];exact M) (fun j v O=>by rw[Addr.add_lit];exact (L j v O).1) bg (by omega) (by rw[A];simp at J;omega);simp only[C43,Nat.zero_add]at H ⊢;rw[H];simpa using K
   | some ab =>
    have K:=run_append_grow (P:=P) w t ty e i z ac Z hz ab 0 0 [] (by simp) (by simp) ⟨X,oy,none⟩ ys.length I vy (by rw[R];exact M) (fun j v O=>by rw[Addr.add_lit];exact (L j v O).1) (by omega) (by omega) (growslice_fits (by omega) (by rw[A];simpa using J));simp only[C43]at H ⊢;rw[H];simpa using K
  ·rw[hax];have K:=run_append_grow (P:=P) w t ty e i z ac Z hz ⟨bx,ox,none⟩ g.length g.length vx (by rw[R];exact F) (fun j v O=>by rw[Addr.add_lit];exact (hrx2 j v O).1) ⟨X,oy,none⟩ ys.length I vy (by rw[R];exact M) (fun j v O=>by rw[Addr.add_lit];exact (L j v O).1) (by omega) (by omega) (growslice_fits (by omega) (by rw[A];exact J));rw[H];exact K
 obtain⟨cells,E⟩:∃cells,cells=vx.toArray++vy.toArray++Builtin.zeroCells z.cells (Y-(g.length+ys.length)):=⟨_,rfl⟩
 rw[<-E]at V;have ae:Below w.heap.size w (w.drew.alloc (.cells cells e)):=⟨rfl,rfl,rfl,by simp,fun k hk=>heap_alloc_old w.drew _ hk⟩
 refine F3 (w':=w.drew.alloc (.cells cells e)) (v:=.slice (some ⟨w.heap.size,0,none⟩) (g.length+ys.length) Y) (by simp[execOp,resolve,invoke,builtin,V]) ⟨ae,_,rfl,?_⟩;show (Cell.list α B c (g++ys)).rep _ _;simp only[Cell.rep];have U:∀q z,(vx++vy)[q]?=some z->D9 (Mut S ob G) (w.drew.alloc (.cells cells e)) w.heap.size (0+q) z:=by
  intro q zz hq;refine⟨?_,fun ak=>?_⟩
  ·rw[Nat.zero_add];refine cell_of_heap (heap_alloc_new w.drew _) ?_;rw[E];have Q:=(List.getElem?_eq_some_iff.1 hq).1;rw[<-Array.getElem?_toList];simp only[Array.toList_append];rw[C46 (by simpa using Q)];exact hq
  ·have:=h.mut_lt ak;omega
 refine⟨some ⟨w.heap.size,0,none⟩,Y,by rw[C32],⟨by rw[C32];omega,by simp⟩,by rw[C32];omega,.inr ⟨w.heap.size,0,rfl,fun m hm j O=>?_⟩⟩;by_cases Q:m<g.length
 ·obtain⟨zz,T,ag⟩:=bd m Q j O;refine⟨zz,?_,hm,?_⟩
  ·have:=U (m*B+j) zz (by rw[C46 (List.getElem?_eq_some_iff.1 T).1];exact T)
   rwa[show 0+m*B+j=0+(m*B+j) by omega]
  ·have e1:(g++ys)[m]=g[m]:=by rw[C82 Q]
   rw[e1];exact Cell.rep_mono (fun _ _ _ hr=>u6 ae hr) _ _ ag
 ·have aw:m-g.length<ys.length:=by simp at hm;omega
  obtain⟨zz,T,ag⟩:=be (m-g.length) aw j O;refine⟨zz,?_,hm,?_⟩
  ·have bh:g.length*B<=m*B:=C47 _ (by omega)
   have:=U (m*B+j) zz (by
    rw[C52 (by rw[F];omega),F];have:m*B+j-g.length*B=(m-g.length)*B+j:=by rw[Nat.sub_mul];omega
    rw[this];exact T)
   rwa[show 0+m*B+j=0+(m*B+j) by omega]
  ·have e1:(g++ys)[m]=ys[m-g.length]:=by rw[C81 (by omega)]
   rw[e1];exact Cell.rep_mono (fun _ _ _ hr=>u6 ae hr) _ _ ag
section
variable {P:Program}{nt:Nat}{fr gf:Fr}{ob:Obs}
theorem TC.forget_comm(k q:Nat)(t:TC):(t.forget q).forget k=(t.forget k).forget q:=by
 cases t with
 | p c=>rfl
 | buf a α d c l=>cases hb:Nat.beq a k<;>cases b:Nat.beq a q<;>simp[TC.forget,hb,b]
 | ref a o=>cases hb:Nat.beq a k<;>cases b:Nat.beq a q<;>simp[TC.forget,hb,b]
 | eref α d c x o=>rfl
 | «mut» a=>cases hb:Nat.beq a k<;>cases b:Nat.beq a q<;>simp[TC.forget,hb,b]
 | mref a d i o=>cases hb:Nat.beq a k<;>cases b:Nat.beq a q<;>simp[TC.forget,hb,b]
 | any=>rfl
 | clo f j h=>cases hb:(jA k j||jA k h)<;>cases b:(jA q j||jA q h)<;>simp[TC.forget,hb,b]
 | msl a d o n=>cases hb:Nat.beq a k<;>cases b:Nat.beq a q<;>simp[TC.forget,hb,b]
 | ifc t a o=>cases hb:Nat.beq a k<;>cases b:Nat.beq a q<;>simp[TC.forget,hb,b]
 | fnc f m=>rfl
 | fncE f α d c x=>rfl
 | full α d c l=>rfl
theorem S1.forget_comm(k q:Nat)(s:S1):(s.forget q).forget k=(s.forget k).forget q:=by
 cases s with
 | one t=>simp only[S1.forget,TC.forget_comm k q t]
 | agg a=>simp only[S1.forget,C71];congr 1;exact List.map_congr_left fun t _=>TC.forget_comm k q t
theorem SV.forget_comm(k q:Nat)(s:SV):(s.forget q).forget k=(s.forget k).forget q:=by
 cases s with
 | s x=>simp only[SV.forget,S1.forget_comm k q x]
 | tup l=>simp only[SV.forget,C71];congr 1;exact List.map_congr_left fun t _=>S1.forget_comm k q t
 | any=>rfl
 | un=>rfl
theorem Fr.forget_comm(k q:Nat)(fr:Fr):Fr.forget k (Fr.forget q fr)=Fr.forget q (Fr.forget k fr):=by
 unfold Fr.forget;rw[C71,C71];exact List.map_congr_left fun p _=>by simp only[Function.comp];rw[SV.forget_comm]
theorem jK(k:Nat):∀(a:List Nat) (fr:Fr),C8 a (Fr.forget k fr)=Fr.forget k (C8 a fr)
 | [],fr=>rfl
 | q::a,fr=>by
  show C8 a (Fr.forget q (Fr.forget k fr))=Fr.forget k (C8 a (Fr.forget q fr));rw[Fr.forget_comm q k,jK k a]
theorem cP{k:Nat}:∀{a:List Nat} {fr:Fr},O1 a k=true->Fr.forget k (C8 a fr)=C8 a fr
 | [],fr,h=>by cases h
 | q::a,fr,h=>by
  show Fr.forget k (C8 a (Fr.forget q fr))=C8 a (Fr.forget q fr);by_cases b:k=q
  ·subst b;rw[jK,Fr.forget_idem]
  ·have c:O1 a k=true:=by
    rw[OE]at h ⊢;rcases C36.1 h with h | h
    ·exact absurd h b
    ·exact h
   exact cP c
theorem YJ{a:List Nat}(k:Nat)(b:O1 a k=true)(h:Tail (C8 a gf) fr):Tail (C8 a gf) (Fr.forget k fr):=by
 have:=fP k h
 rwa[cP b]at this
theorem G8:∀{ks:List Nat} {gf:Fr},High gf->High (C8 ks gf)
 | [],gf,h=>h
 | k::ks,gf,h=>G8 (ks:=ks) (Y2 (k:=k) h)
theorem jL:∀{ks:List Nat} {gf:Fr} {i:Nat} {s:SV},D4 (C8 ks gf) i=some s->∃c,D4 gf i=some c/\∀(b:Rd) (G:Gh) (u:Value),c.rep b G u->s.rep b G u
 | [],gf,i,s,h=>⟨s,h,fun _ _ _ h=>h⟩
 | k::ks,gf,i,s,h=>by
  obtain⟨s1,a,e⟩:=jL (ks:=ks) (gf:=Fr.forget k gf) h;rw[P1]at a;cases d:D4 gf i with
  | none=>rw[d]at a;cases a
  | some c =>
   rw[d]at a;cases a;exact⟨c,rfl,fun b G u f=>e b G u (SV.rep_forget (G':=G) (fun _ _=>rfl) f)⟩
theorem C07(e:List Nat){l:Fr}{ob':Obs}(m:FrLe fr l)(j:High gf)(q:Tail gf fr)(p:∀k o,B4 ob' k=some o->B4 ob k=some o):Sees P nt fr ob (l++C8 e gf) ob':=by
 refine (B91 m j q p).trans ?_;intro S G a w u h;refine⟨G,{ h with facts:=fun i s b=>?_ }⟩;rw[Y1]at b;cases c:D4 l i with
 | some d =>
  rw[c]at b;have b:some d=some s:=b;cases b;exact h.facts i _ (by rw[Y1,c];rfl)
 | none =>
  rw[c]at b;have b:D4 (C8 e gf) i=some s:=b;obtain⟨d,f,g⟩:=jL b;exact g _ _ _ (h.facts i d (by rw[Y1,c];exact f))
end
def TC.ren(j k:Nat):TC->TC
 | .buf a α d c g=>cond (Nat.beq a j) (.buf k α d c g) (.buf a α d c g)
 | .ref a off=>cond (Nat.beq a j) (.ref k off) (.ref a off)
 | .mut a=>cond (Nat.beq a j) (.mut k) (.mut a)
 | .mref a d i off=>cond (Nat.beq a j) (.mref k d i off) (.mref a d i off)
 | .msl a d off n=>cond (Nat.beq a j) (.msl k d off n) (.msl a d off n)
 | .ifc t a off=>cond (Nat.beq a j) (.ifc t k off) (.ifc t a off)
 | t=>t
def Ob.ren(j k:Nat):Ob->Ob
 | .box d=>.box (d.map (TC.ren j k))
 | .tbx e d=>.tbx e (d.map (TC.ren j k))
 | .tarr n f d=>.tarr n f (d.map (TC.ren j k))
 | .growA e α f c h p d=>.growA e α f c h p (d.map (TC.ren j k))
 | .growT e n f d=>.growT e n f (d.map (TC.ren j k))
 | o=>o
theorem C01{g:Rd}{G:Gh}{j k:Nat}(d:G k=G j):∀{t:TC} {u:Value},t.rep g G u->(t.ren j k).rep g G u
 | .p c,u,h=>h
 | .buf k' α ec c xs,u,h=>by
  simp only[TC.ren];cases hb:Nat.beq k' j
  ·exact h
  ·have e:k'=j:=Nat.eq_of_beq_eq_true hb;subst e;simp only[cond,TC.rep];rw[d];exact h
 | .ref k' off,u,h=>by
  simp only[TC.ren];cases hb:Nat.beq k' j
  ·exact h
  ·have e:k'=j:=Nat.eq_of_beq_eq_true hb;subst e;simp only[cond,TC.rep];rw[d];exact h
 | .eref _ _ _ _ _,u,h=>h
 | .mut k',u,h=>by
  simp only[TC.ren];cases hb:Nat.beq k' j
  ·exact h
  ·have e:k'=j:=Nat.eq_of_beq_eq_true hb;subst e;simp only[cond,TC.rep];rw[d];exact h
 | .mref k' ec i off,u,h=>by
  simp only[TC.ren];cases hb:Nat.beq k' j
  ·exact h
  ·have e:k'=j:=Nat.eq_of_beq_eq_true hb;subst e;simp only[cond,TC.rep];rw[d];exact h
 | .any,u,h=>h
 | .clo _ _ _,_,h=>h
 | .msl k' ec off n,u,h=>by
  simp only[TC.ren];cases hb:Nat.beq k' j
  ·exact h
  ·have e:k'=j:=Nat.eq_of_beq_eq_true hb;subst e;simp only[cond,TC.rep];rw[d];exact h
 | .full _ _ _ _,u,h=>h
 | .ifc t k' off,u,h=>by
  simp only[TC.ren];cases hb:Nat.beq k' j
  ·exact h
  ·have e:k'=j:=Nat.eq_of_beq_eq_true hb;subst e;simp only[cond,TC.rep];rw[d];exact h
 | .fnc _ _,u,h=>h
 | .fncE _ _ _ _ _,u,h=>h
theorem ObOk.ren{S:Ctx}{r:Rd}{G:Gh}{w:World}{u:Value}{j k:Nat}{o:Ob}(l:G k=G j)(h:ObOk S r G w u o):ObOk S r G w u (o.ren j k):=by
 cases o with
 | box m=>obtain⟨b,g,t,a,d,f⟩:=h;exact⟨b,g,t,a,d,f.map (TC.ren j k) fun _ _=>C01 l⟩
 | tbx e m=>obtain⟨b,g,a,d,f⟩:=h;exact⟨b,g,a,d,f.map (TC.ren j k) fun _ _=>C01 l⟩
 | tarr n i m=>obtain⟨b,g,t,a,y,d,z,f⟩:=h;exact⟨b,g,t,a,y,d,by simpa using z,f.map (TC.ren j k) fun _ _=>C01 l⟩
 | arr α i c s=>exact h
 | spare n i e=>exact h
 | grow e α i c s=>exact h
 | map κ B A=>exact h
 | growA e α i c s p m=>obtain⟨g,a,d,f,q,v,x⟩:=h;exact⟨g,a,d,f,by simpa using q,v,x.map (TC.ren j k) fun _ _=>C01 l⟩
 | growT e n i m=>obtain⟨g,a,d,f,q⟩:=h;exact⟨g,a,d,by simpa using f,q.map (TC.ren j k) fun _ _=>C01 l⟩
theorem own_ren{u:Value}{j k b i:Nat}{o:Ob}:Own u (o.ren j k) b i↔Own u o b i:=by cases o<;>simp[Own,Ob.ren]
theorem C20{j k:Nat}{ob':Obs}(hj:Nat.blt j 1000000=true)(hk:Nat.blt k 1000000=true)(U:j≠k)(T:G5 k fr=true)
  (hm:∀i o,B4 ob' i=some o->i≠j/\∃g,B4 ob (if i=k then j else i)=some g/\g.free k=true/\o=g.ren j k):Sees P nt fr ob fr ob':=by
 intro S G a w hn h;have ab:j<1000000:=by simpa using hj
 have ac:k<1000000:=by simpa using hk
 obtain⟨G',D⟩:∃G':Gh,G'=fun i=>if i=k then G j else G i:=⟨_,rfl⟩
 have g1:∀i,i≠k->G' i=G i:=fun i v=>by rw[D];exact A6 v
 have X:G' k=G j:=by rw[D];exact A5 rfl
 have g3:G' k=G' j:=by rw[X,g1 j U]
 obtain⟨r,J⟩:∃r:Nat->Nat,r=fun i=>if i=k then j else i:=⟨_,rfl⟩
 have Q:∀i,G' i=G (r i):=fun i=>by
  rw[J];by_cases v:i=k
  ·subst v;rw[X];simp
  ·rw[g1 i v];simp[v]
 have d:∀i o,B4 ob' i=some o->i≠j/\∃g,B4 ob (r i)=some g/\g.free k=true/\o=g.ren j k:=fun i o v=>by rw[J];exact hm i o v
 have M:∀i L,i≠j->L≠j->r i=r L->i=L:=by
  intro i L u y c;rw[J]at c;dsimp only at c;by_cases N:i=k<;>by_cases a2:L=k
  ·rw[N,a2]
  ·rw[A5 N,A6 a2]at c;exact absurd c.symm y
  ·rw[A6 N,A5 a2]at c;exact absurd c u
  ·rwa[A6 N,A6 a2]at c
 have F:∀b i,Mut S ob' G' b i->Mut S ob G b i:=by
  intro b i B;rcases B with B | ⟨q,o,m,ho⟩
  ·exact .inl B
  ·obtain⟨_,g,u,_,rfl⟩:=d q o m;rw[Q q]at ho;exact .inr ⟨r q,g,u,own_ren.1 ho⟩
 have K:∀b i z,D9 (Mut S ob G) w b i z->D9 (Mut S ob' G') w b i z:=fun b i z Y=>⟨Y.1,fun hx=>Y.2 (F b i hx)⟩
 refine⟨G',{ h with pin:=fun q m=>by rw[g1 q (by omega)];exact h.pin q m,old:=?_,dis:=?_,obs:=?_,facts:=?_ }⟩
 ·intro q o b m hb;obtain⟨C,g,u,_,_⟩:=d q o m;rw[Q q]at hb;rcases h.old (r q) g b u hb with y | ⟨y,c⟩
  ·exact .inl y
  ·by_cases I:q=k
   ·rw[J]at c;dsimp only at c;rw[A5 I]at c;omega
   ·rw[J]at c;dsimp only at c;rw[A6 I]at c;exact .inr ⟨y,c⟩
 ·intro q Z o o' b m V hb E;obtain⟨C,g,u,_,_⟩:=d q o m;obtain⟨H,ad,R,_,_⟩:=d Z o' V;rw[Q]at hb E;exact M q Z C H (h.dis _ _ _ _ b u R hb E)
 ·intro q o m;obtain⟨C,g,u,A,rfl⟩:=d q o m;have y:=(h.obs (r q) g u).ext K (Below.refl _ _);have c:=y.forget (k:=k) (G':=G') g1;rw[Ob.forget_free A]at c;rw[Q q];exact c.ren g3
 ·intro i s v;have u:=h.facts i s v;have y:s.free k=true:=by
   have W:∀(f:Fr),G5 k f=true->∀i s,D4 f i=some s->s.free k=true:=by
    intro f;induction f with
    | nil=>intro _ i s h;cases h
    | cons p r ih =>
     obtain⟨q,s0⟩:=p;intro A i s O;simp only[G5,C30]at A;by_cases m:q=i
     ·subst m;rw[C7]at O;cases O
      first | exact A.1 | exact A.1.2 | exact A.2.1
     ·rw[B9 m]at O;exact ih (by first | exact A.2 | exact A.2.2) i s O
   exact W fr T i s v
  have c:=SV.rep_forget (G':=G') g1 (SV.rep_mono K u)
  rwa[SV.forget_free y]at c
def ddF:Fr->Fr
 | []=>[]
 | (i,s)::r=>(i,s)::(ddF r).filter fun p=>!(Nat.beq p.1 i)
theorem mD{i q:Nat}(h:i≠q):∀(fr:Fr),D4 (fr.filter fun p=>!(Nat.beq p.1 i)) q=D4 fr q
 | []=>rfl
 | (j,s)::r=>by
  rw[C80];by_cases b:j=i
  ·subst b;rw[A6 (by simp),B9 h,mD h r]
  ·rw[A5 (by simp[I9 b])];by_cases a:j=q
   ·subst a;rw[C7,C7]
   ·rw[B9 a,B9 a,mD h r]
theorem zI:∀(fr:Fr) (q:Nat),D4 (ddF fr) q=D4 fr q
 | [],q=>rfl
 | (i,s)::r,q=>by
  unfold ddF;by_cases h:i=q
  ·subst h;rw[C7,C7]
  ·rw[B9 h,B9 h,mD h,zI r q]
theorem mem_dd:∀{fr:Fr} {p:Nat×SV},p∈ddF fr->D4 fr p.1=some p.2
 | (i,s)::r,p,h=>by
  unfold ddF at h;rcases C36.1 h with rfl | h
  ·exact C7 _ _ _
  ·obtain⟨c,b⟩:=List.mem_filter.1 h;have a:i≠p.1:=fun e=>by rw[e,Nat.beq_refl]at b;cases b
   rw[B9 a];exact mem_dd c
theorem HB{k:Nat}:∀{fr:Fr},(∀p∈fr,p.2.free k=true)->G5 k fr=true
 | [],_=>rfl
 | (i,s)::r,h=>by
  show (SV.free k s&&G5 k r)=true;rw[C30];exact⟨h (i,s) (List.mem_cons_self ..),HB fun p a=>h p (List.mem_cons_of_mem _ a)⟩
theorem zJ{U:Fr}{k:Nat}{o:Oper}{ob ob':Obs}{s:SV}(h:∀b,AQ U b->G5 k b=true->EffV P o b ob s b ob'):OJ P nt o U [k] [] ob ob' s:=by
 intro b y c S G a w E hs;have l:Sim P S (ddF b) ob G a w:=hs.weaken fun i s A=>by rwa[zI]at A
 have j:G5 k (ddF b)=true:=HB fun p B=>c k (by simp) p.1 p.2 (mem_dd B) (by simp);have:=h (ddF b) (fun t s m=>by rw[zI];exact y t s m) j S G a w l;have g:∀(v:Value) (w':World),(∃G',Sim P S (ddF b) ob' G' a w'/\s.rep (D9 (Mut S ob' G') w') G' v)->∃G',Sim P S (u7 [] b) ob' G' a w'/\∀d,o.dst=some d->s.rep (D9 (Mut S ob' G') w') G' v:=fun v w' ⟨G',h,C⟩=>⟨G',h.weaken (fun t x m=>by rw[zI];exact (UE.1 m).2),fun _ _=>C⟩
 unfold Does at this ⊢;generalize (execOp a.eval _).run P w=r at *;cases r with
 | ok n w' =>
  cases n<;>simp only at this ⊢<;>try exact this.elim
  case value v=>exact g v w' this
  case skip=>exact g undef w' this
  case enter f args=>exact this.mono fun e q ⟨v,z,D⟩=>⟨v,z,g v q D⟩
 | halt x w'=>exact this
section
variable {P:Program}{nt:Nat}{fr gf:Fr}{ob:Obs}
theorem TC.free_forget(k:Nat)(t:TC):(t.forget k).free k=true:=by
 cases t with
 | p c=>rfl
 | buf a α b c h=>cases hb:Nat.beq a k<;>simp[TC.forget,TC.free,hb]
 | ref a o=>cases hb:Nat.beq a k<;>simp[TC.forget,TC.free,hb]
 | eref α b c x o=>rfl
 | «mut» a=>cases hb:Nat.beq a k<;>simp[TC.forget,TC.free,hb]
 | mref a b i o=>cases hb:Nat.beq a k<;>simp[TC.forget,TC.free,hb]
 | any=>rfl
 | clo f g d =>
  simp only[TC.forget];cases hb:(jA k g||jA k d)
  ·rw[C87]at hb;simp[TC.free,hb.1,hb.2]
  ·rfl
 | msl a b o n=>cases hb:Nat.beq a k<;>simp[TC.forget,TC.free,hb]
 | ifc t a o=>cases hb:Nat.beq a k<;>simp[TC.forget,TC.free,hb]
 | fnc f j=>rfl
 | fncE f α b c x=>rfl
 | full α b c h=>rfl
theorem S1.free_forget(k:Nat)(s:S1):(s.forget k).free k=true:=by
 cases s with
 | one t=>exact TC.free_forget k t
 | agg b =>
  show (b.map (TC.forget k)).all (TC.free k)=true;rw[List.all_map,List.all_eq_true];exact fun t _=>TC.free_forget k t
theorem SV.free_forget(k:Nat)(s:SV):(s.forget k).free k=true:=by
 cases s with
 | s x=>exact S1.free_forget k x
 | tup l =>
  show (l.map (S1.forget k)).all (S1.free k)=true;rw[List.all_map,List.all_eq_true];exact fun t _=>S1.free_forget k t
 | any=>rfl
 | un=>rfl
theorem pF{k:Nat}{a:List Nat}{gf:Fr}(b:O1 a k=true):∀p∈C8 a gf,p.2.free k=true:=by
 rw[<-cP b];intro p c;obtain⟨q,_,rfl⟩:=C54.1 c;exact SV.free_forget k q.2
theorem HC{l:List Oper}{ops:Array Oper}{a:Sv}{fr gf:Fr}:∀{b:Ed},pA l ops a fr b=true->(∀e∈b,∀k∈e.2.1,∀p∈gf,p.2.free k=true)->pA l ops a (fr++gf) b=true
 | [],_,_=>rfl
 | (e,ks,kills)::r,h,hg=>by
  simp only[pA,C30]at h ⊢;refine⟨?_,HC h.2 fun f g=>hg f (List.mem_cons_of_mem _ g)⟩;rw[List.all_eq_true]at h ⊢;intro k d;have c:=h.1 k d;rw[C30]at c ⊢;refine⟨c.1,?_⟩;rw[C85,C30];refine⟨c.2,List.all_eq_true.2 fun p i=>?_⟩;rw[hg (e,ks,kills) (List.mem_cons_self ..) k d p i,Bool.or_true]
theorem w_nilG{d:List Nat}{l:List Oper}{E:List Nat}{c:Ed}{T2:List (Nat×List Nat)}{Q:Post}{b:Sv}{M:Mo}{f:Obs}(h:(c.all fun e=>e.2.1.all (O1 d))=true)(g:(pA l l.toArray b fr c&&(List.range l.length).all fun j=>(T0 b j).isSome)=true)(q:Z8 M E=some f)
  (t:lZ P nt l (fr++C8 d gf) E c b M T2) (u:Q .normal (u7 (KQ c) (oO l b (fr++C8 d gf))) f):pB P nt l (fr++C8 d gf) E c (Fin2 P nt l (fr++C8 d gf) E c T2 Q) [] b M:=by
 rw[C30]at g;refine sQ ?_ q t u;rw[C30];refine⟨HC g.1 fun e v k w p x=>?_,g.2⟩;exact pF (List.all_eq_true.1 (List.all_eq_true.1 h e v) k w) p x
end
theorem YK{f d:Rd}{G:Gh}(e:∀b i z,f b i z->d b i z):∀{a:List PV} {c:List Value},All2 (PV.rep f) a c->All2 (S1.rep d G) (a.map PV.s1) c
 | [],[],_=>trivial
 | [],_::_,h=>h.elim
 | _::_,[],h=>h.elim
 | p::ps,v::vs,h=>⟨PV.rep_s1 (PV.rep_mono e h.1),YK e h.2⟩
theorem C21{f:FuncId}{j:List PV}{k:Nat}{α:Type}{y:Nat}{c:α->Nat->Cell}{A:List α}(Q:Nat.blt k 1000000=true)
  (h:Met P f (j.map PV.s1) [] [] [] (fun I ob'=>I=[.one (.mut k)]/\ob'=[(k,.arr α y c A)])):FnOk P f j (fun I=>I=[.one (.list α y c A)]):=by
 refine⟨h.1,fun w M B U T ha=>?_⟩;obtain⟨S,x⟩:∃S:Ctx,S={ w0:=w,M0:=M,io:=fun _=>False,nt:=0,pin:=fun _=>undef,gv:=fun _=>undef }:=⟨_,rfl⟩
 have C:S.M0=M:=by rw[x]
 have J:∀(G:Gh) b i,Mut S [] G b i↔M b i:=fun G b i=>⟨fun h=>h.elim (fun h=>by rw[<-C];exact h) fun ⟨k,o,Q,_⟩=>by simp[B4]at Q,fun h=>.inl (by rw[C];exact h)⟩
 have hs:Sim P S [] [] (fun _=>undef) { tmps:=#[],defers:=[] } w:=by
  subst x;exact { nt:=rfl,ntb:=Nat.zero_le _,defers:=rfl,os:=rfl,tape:=rfl,output:=rfl,size:=Nat.le_refl _,keep:=fun _ _ _=>rfl,m0:=T,m0io:=fun _ _ _=>id,grd:=U,pin:=fun _ _=>rfl,old:=fun k o b h=>(by simp[B4]at h),dis:=fun k X o Y b h=>(by simp[B4]at h),obs:=fun k o h=>(by simp[B4]at h),facts:=fun i s h=>(by simp[D4]at h) }
 have D:All2 (S1.rep (D9 (Mut S [] (fun _=>undef)) w) (fun _=>undef)) (j.map PV.s1) B:=YK (fun b i z H=>⟨H.1,fun K=>H.2 ((J _ b i).1 K)⟩) ha;refine (h.2 (fun i s E=>by simp[D4]at E) S _ _ w B hs D).mono ?_;rintro e w' ⟨v,I,ob',G',rfl,⟨rfl,rfl⟩,H,g⟩;have W:(TC.mut k).rep (D9 (Mut S [(k,.arr α y c A)] G') w') G' v:=H;have N:Sim P { S with gv:=fun _=>v } [(1000000,.s (.one (.mut k)))] [(k,.arr α y c A)] G' { tmps:=#[],defers:=[] } w':=by
  refine { g with facts:=fun i s E=>?_ };by_cases F:1000000=i
  ·subst F;rw[C7]at E;cases E;exact W
  ·rw[B9 F]at E;simp[D4]at E
 obtain⟨G2,O⟩:=(Sees.freeze (P:=P) (nt:=0) (fr:=[(1000000,.s (.one (.mut k)))]) (ob:=[(k,.arr α y c A)]) (k:=k) (C4 _ _ _)) _ G' _ w' (by rw[x]) N;have d:=O.facts 1000000 (.s (.one (.p (.list α y c A)))) (by simp[B99,SV.freeze,S1.freeze,TC.freeze,D4]);have L:B94 (Ob.freeze k α y c A) (Obs.drop k [(k,Ob.arr α y c A)])=[]:=by simp[Obs.drop,B94]
 rw[L]at d;refine⟨v,_,rfl,rfl,?_,⟨g.os.trans (by rw[x]),g.tape.trans (by rw[x]),g.output.trans (by rw[x]),by have:=g.size;rw[x]at this;exact this,fun q V=>by have:=g.keep q (by rw[x];exact V) (by rw[x];exact id);rw[x]at this;exact this⟩⟩;have d:(Cell.list α y c A).rep (D9 (Mut { S with gv:=fun _=>v } [] G2) w') v:=d;refine Cell.rep_mono (fun b i z R=>⟨R.1,fun K=>R.2 (.inl ?_)⟩) _ _ d;show S.M0 b i;rw[C];exact K
theorem sW{x y:Operand}{k:Nat}{α:Type}{A C:Nat}{c:α->Nat->Cell}{g ys:List α}{t e:TypeId}[ht:TySl P t e A C](hx:opv fr x=some (.s (.one (.full α A c g))))
  (hy:opv fr y=some (.s (.one (.mut k)))) (hk:B4 ob k=some (.arr α A c ys)) (ah:g.length+ys.length<=1073741824) (bf:0<ys.length) :
  Neu P ⟨dst,.call ⟨.builtin .append,#[x,y],#[t,t]⟩,ty,pos,af,gd⟩ fr ob (fun s'=>s'=C0 α A c (g++ys)):=by
 intro S G a w h;obtain⟨ac,D,bj,ar,O⟩:=ht.out;cases R:P.info? e with
 | none=>simp[R]at D
 | some i =>
 simp[R]at D;obtain⟨V,B⟩:=D;cases hz:i.zero with
 | none=>simp[R,hz]at O
 | some z =>
 simp[R,hz]at O;obtain⟨ba,a0,am⟩:=F4 h hx;obtain⟨ad,bi,vx,Z,au,bk,H,az,bc,ak⟩:=U1 ba;rw[am]at Z;injection Z with e1 e2 e3
 subst e1;obtain⟨T,bg,t2,aq,bl,ax,al,ap⟩:=h.obs k _ hk;obtain⟨an,_⟩:=F4 h hy;rw[aq]at an;obtain⟨Q,N⟩:∃Q,Q=bg.toList:=⟨_,rfl⟩
 have M:Q.length=ys.length*A:=by rw[N];simpa using al
 have bd:∀i (R:i<ys.length) j,j<A->∃z,Q[i*A+j]?=some z/\(c ys[i] j).rep (D9 (Mut S ob G) w) z:=fun i R j E=>by
  obtain⟨z,h1,h2⟩:=ap i R j E;exact⟨z,by rw[N];simpa using h1,h2⟩
 have L:∀j z,Q[j]?=some z->w.cell? ⟨T,0+j,none⟩=some z/\True:=fun j z E=>⟨by rw[Nat.zero_add];exact cell_of_heap ax (by rw[N]at E;simpa using E),trivial⟩
 have J:(g.length+ys.length)*C<=140737488355328:=by
  have:(g.length+ys.length)*C<=1073741824*4096:=Nat.mul_le_mul ah ar;omega
 have ai:g.length+ys.length<=maxLen:=by unfold maxLen;omega
 obtain⟨gc,I⟩:∃gc,gc=grownCap w (g.length+ys.length) g.length e:=⟨_,rfl⟩
 have aw:=grownCap_ge w (g.length+ys.length) g.length e;have av:=grownCap_le_maxLen w (g.length+ys.length) g.length e ai;rw[<-I]at aw av;have Y:(Builtin.append_ #[t,t] ty #[a.eval x,a.eval y]).run P w=.ok (.slice (some ⟨w.heap.size,0,none⟩) (g.length+ys.length) gc) (w.drew.alloc (.cells (vx.toArray++Q.toArray++Builtin.zeroCells z.cells (gc-(g.length+ys.length))) e)):=by
  rw[am,an];rcases ak with h0 | ⟨bx,ox,hax,hrx2⟩
  ·have be:g=[]:=List.eq_nil_of_length_eq_zero h0;subst be;have ao:vx=[]:=List.eq_nil_of_length_eq_zero (by rw[H];simp);subst ao;cases a0 with
   | none =>
    have K:=run_append_nil (P:=P) w t ty e i z ac R hz ⟨T,0,none⟩ ys.length ys.length Q (by rw[V];exact M) (fun j v E=>by rw[Addr.add_lit];exact (L j v E).1) bf (by omega) (by rw[B];simp at J;omega);simp only[C43,Nat.zero_add]at I ⊢;rw[I];simpa using K
   | some ab =>
    have K:=run_append_grow (P:=P) w t ty e i z ac R hz ab 0 0 [] (by simp) (by simp) ⟨T,0,none⟩ ys.length ys.length Q (by rw[V];exact M) (fun j v E=>by rw[Addr.add_lit];exact (L j v E).1) (by omega) (by omega) (growslice_fits (by omega) (by rw[B];simpa using J));simp only[C43]at I ⊢;rw[I];simpa using K
  ·rw[hax];have K:=run_append_grow (P:=P) w t ty e i z ac R hz ⟨bx,ox,none⟩ g.length g.length vx (by rw[V];exact H) (fun j v E=>by rw[Addr.add_lit];exact (hrx2 j v E).1) ⟨T,0,none⟩ ys.length ys.length Q (by rw[V];exact M) (fun j v E=>by rw[Addr.add_lit];exact (L j v E).1) (by omega) (by omega) (growslice_fits (by omega) (by rw[B];exact J));rw[I];exact K
 obtain⟨cells,F⟩:∃cells,cells=vx.toArray++Q.toArray++Builtin.zeroCells z.cells (gc-(g.length+ys.length)):=⟨_,rfl⟩
 rw[<-F]at Y;have ae:Below w.heap.size w (w.drew.alloc (.cells cells e)):=⟨rfl,rfl,rfl,by simp,fun k hk=>heap_alloc_old w.drew _ hk⟩
 refine F3 (w':=w.drew.alloc (.cells cells e)) (v:=.slice (some ⟨w.heap.size,0,none⟩) (g.length+ys.length) gc) (by simp[execOp,resolve,invoke,builtin,Y]) ⟨ae,_,rfl,?_⟩;show (Cell.list α A c (g++ys)).rep _ _;simp only[Cell.rep];have X:∀q z,(vx++Q)[q]?=some z->D9 (Mut S ob G) (w.drew.alloc (.cells cells e)) w.heap.size (0+q) z:=by
  intro q zz hq;refine⟨?_,fun aj=>?_⟩
  ·rw[Nat.zero_add];refine cell_of_heap (heap_alloc_new w.drew _) ?_;rw[F];have U:=(List.getElem?_eq_some_iff.1 hq).1;rw[<-Array.getElem?_toList];simp only[Array.toList_append];rw[C46 (by simpa using U)];exact hq
  ·have:=h.mut_lt aj;omega
 refine⟨some ⟨w.heap.size,0,none⟩,gc,by rw[C32],⟨by rw[C32];omega,by simp⟩,by rw[C32];omega,.inr ⟨w.heap.size,0,rfl,fun m hm j E=>?_⟩⟩;by_cases U:m<g.length
 ·obtain⟨zz,W,ag⟩:=bc m U j E;refine⟨zz,?_,hm,?_⟩
  ·have:=X (m*A+j) zz (by rw[C46 (List.getElem?_eq_some_iff.1 W).1];exact W)
   rwa[show 0+m*A+j=0+(m*A+j) by omega]
  ·have e1:(g++ys)[m]=g[m]:=by rw[C82 U]
   rw[e1];exact Cell.rep_mono (fun _ _ _ hr=>u6 ae hr) _ _ ag
 ·have ay:m-g.length<ys.length:=by simp at hm;omega
  obtain⟨zz,W,ag⟩:=bd (m-g.length) ay j E;refine⟨zz,?_,hm,?_⟩
  ·have bh:g.length*A<=m*A:=C47 _ (by omega)
   have:=X (m*A+j) zz (by
    rw[C52 (by rw[H];omega),H];have:m*A+j-g.length*A=(m-g.length)*A+j:=by rw[Nat.sub_mul];omega
    rw[this];exact W)
   rwa[show 0+m*A+j=0+(m*A+j) by omega]
  ·have e1:(g++ys)[m]=ys[m-g.length]:=by rw[C81 (by omega)]
   rw[e1];exact Cell.rep_mono (fun _ _ _ hr=>u6 ae hr) _ _ ag
theorem FG{x:Operand}{k:Nat}{t yt e:TypeId}{j d:Nat}{α:Type}{c:α->Nat->Cell}{f:List α}[ht:TySl P t e j d](B:opv fr x=some (.s (.one (.mut k))))(A:B4 ob k=some (.arr α j c f)) :
  Neu P ⟨dst,.binOp .eql t x (.const (.slice none 0 0)) yt,ty,pos,af,gd⟩ fr ob (fun C=>C=Q4 false):=by
 intro S G a w h;obtain⟨b,D,t2,g,_⟩:=h.obs k _ A;obtain⟨y,_⟩:=F4 h B;rw[g]at y;refine F3 (v:=.bool false) (w':=w) ?_ ⟨Below.refl _ _,Q4 false,rfl,rfl,rfl⟩;have z:a.eval (.const (.slice none 0 0))=.slice none 0 0:=rfl;simp only[execOp,y,z];refine J8 ?_;simp only[Sem.run_bind];rw[show (eqGuard .eql t x (.const (.slice none 0 0)) (.slice (some ⟨b,0,none⟩) f.length f.length) (.slice none 0 0)).run P w=.ok () w from rfl];simp only[Result.andThen_ok];show (binOp .eql t (.slice (some ⟨b,0,none⟩) f.length f.length) (.slice none 0 0)).run P w=_;simp only[binOp,Sem.run_bind,run_equal_slice_nil w t e (some ⟨b,0,none⟩) f.length f.length ht.out.1,Result.andThen_ok];rfl
def Cell.flat:Cell->Bool
 | .v _=>true
 | _=>false
def PV.flat:PV->Bool
 | .one c=>c.flat
 | .agg b=>b.all Cell.flat
theorem sX{x y:Code}{Q2 Q3:Post}(fr':Fr)(ob':Obs)(b:WpC P nt x fr ob (iC (fun f o=>Sees P nt f o fr' ob') Q3))(k:WpC P nt y fr' ob' Q2):WpC P nt x fr ob (iC (fun f o=>WpC P nt y f o Q2) Q3) :=
 b.mono fun e f o a=>by
  cases e with
  | normal=>exact E2 a k
  | _=>exact a
theorem BC{x y:Code}{Q2 Q3:Post}{X:Type}(E:X->Fr×Obs)(I:X->Prop)(c:WpC P nt x fr ob (iC (fun f o=>∃v,I v/\Sees P nt f o (E v).1 (E v).2) Q3))(k:∀v,I v->WpC P nt y (E v).1 (E v).2 Q2):WpC P nt x fr ob (iC (fun f o=>WpC P nt y f o Q2) Q3) :=
 c.mono fun e f o a=>by
  cases e with
  | normal=>obtain⟨v,b,hs⟩:=a;exact E2 hs (k v b)
  | _=>exact a
theorem KS{x Y:Operand}{k:Nat}{α:Type}{d D:Nat}{c:α->Nat->Cell}{C:List α}{t e:TypeId}{X:IntKind}{j:Int}[ht:TySl P t e d D](hx:opv fr x=some (.s (.one (.mut k))))(hk:B4 ob k=some (.grow e α d c C))
  (O:opv fr Y=some (I6 (.int X j))) (Z:0<=j) (h2:j<=C.length) (hp:Nat.blt k 1000000=true) :
  EffV P ⟨dst,.slice t x none (some Y) none,ty,pos,af,gd⟩ fr ob (.s (.one (.mut k))) (Fr.forget k fr) ((k,.grow e α d c (C.take j.toNat))::Obs.forget k ob):=by
 intro S G a w h;obtain⟨N,ac⟩:=F4 h hx;obtain⟨ws,A,ab,U⟩:=h.obs k _ hk;have R:j.toNat<=C.length:=by omega
 have T:j.toNat*d<=C.length*d:=C47 _ R;obtain⟨F,L,f,p⟩:∃F,(execOp a.eval ⟨dst,.slice t x none (some Y) none,ty,pos,af,gd⟩).run P w=.ok (.value F) w/\blk F=blk (G k)/\w.ownsRow S.B e d F j.toNat (ws.take (j.toNat*d)):=by
  obtain⟨H,I⟩:=ht.elem;rcases A.2 with ⟨J,ae⟩ | ⟨g,cap,cur,J,hbg,hgh,hnc,hcm,hcs,htake⟩
  ·refine⟨.slice none 0 0,?_,by rw[J],?_⟩
   ·simp only[execOp,N,J,E9 h O,Option.map_some,Option.map_none];refine J8 ?_;simp only[Instr.sliceAt,Sem.run_bind,run_underlying ht.out.1,Result.andThen_ok];rw[run_slice_h w t none 0 0 H X j Z (by omega),I,H4 ht.size];have Q:j.toNat=0:=by omega
    simp[sliced,Q]
   ·have Q:j.toNat=0:=by omega
    rw[Q];simp only[Nat.zero_mul,List.take_zero];exact World.ownsRow_nil w _ _ _
  ·refine⟨.slice (some ⟨g,0,none⟩) j.toNat cap,?_,by rw[J];rfl,?_⟩
   ·simp only[execOp,N,J,E9 h O,Option.map_some,Option.map_none];refine J8 ?_;simp only[Instr.sliceAt,Sem.run_bind,run_underlying ht.out.1,Result.andThen_ok];rw[run_slice_h w t (some ⟨g,0,none⟩) C.length cap H X j Z (by omega),I,H4 ht.size];simp[sliced,Addr.add_lit]
   ·refine⟨by rw[C41,A.1];omega,.inr ⟨g,cap,cur,rfl,hbg,hgh,by omega,hcm,hcs,?_⟩⟩;rw[<-htake,List.take_take,Nat.min_eq_left T]
 have M:=h.turn (o':=.grow e α d c (C.take j.toNat)) (u':=F) (w1:=w) (by simpa using hp) hk rfl rfl rfl (Nat.le_refl _) (fun _ _ _=>rfl) (fun b i z hr=>hr.1)
  (fun b hb=>.inl (by rw[<-f];exact hb)) (fun b i hb ho=>⟨by rw[<-f];exact ho.1,trivial⟩)
  (fun rd K G' ad=>by
   have E:(C.take j.toNat).length=j.toNat:=by rw[C41];omega
   refine⟨ws.take (j.toNat*d),by rw[E];exact p,by rw[E];omega,?_⟩;intro i hi q hq;rw[E]at hi;obtain⟨z,V,W⟩:=U i (by omega) q hq;refine⟨z,?_,?_⟩
   ·have:(i+1)*d<=j.toNat*d:=C47 _ hi;rw[C62,Nat.one_mul]at this;rw[List.getElem?_take,A5 (by omega)];exact V
   ·rw[List.getElem_take];exact Cell.rep_mono K _ _ W)
 exact F3 (w':=w) (v:=F) L ⟨upd G k F,M,(G7 _ _ _).symm,lQ p⟩
abbrev codeV(T:TypeId)(e:Int):List PanicEntry:=[{ v:=.iface T (.int .i64 e),recovered:=false }]
def metXP(P:Program)(T:TypeId)(fn:Func)(f:List Nat)(gf:Fr)(b:List S1->Obs->Prop)(d:Int->Obs->Prop):Post
 | .normal,fr,ob | .ret,fr,ob=>∃g ob',RetS P fn fr ob g/\Tail (C8 f gf) fr/\(∀k o,B4 ob' k=some o->B4 ob k=some o)/\b g ob'
 | .panic ch,fr,ob=>∃e ob',ch=codeV T e/\Tail (C8 f gf) fr/\(∀k o,B4 ob' k=some o->B4 ob k=some o)/\d e ob'
 | _,_,_=>False
def MetX(P:Program)(T:TypeId)(f:FuncId)(g:List S1)(gf:Fr)(ob:Obs)(l:List Nat)(h:List S1->Obs->Prop)(j:Int->Obs->Prop):Prop :=
 Callable P f/\(High gf->∀S G a w (b:List Value),Sim P S gf ob G a w->All2 (S1.rep (D9 (Mut S ob G) w) G) g b ->
  Calls P f b.toArray w (fun e w'=>(∃v m ob' G',e=.returned v/\h m ob'/\aP (D9 (Mut S ob' G') w') G' m v/\Sim P S (C8 l gf) ob' G' a w') \/
   ∃c ob' G',e=.panicked (codeV T c)/\j c ob'/\Sim P S (C8 l gf) ob' G' a w'))
variable {T:TypeId}
theorem MetX.intro{f:FuncId}{fn:Func}{c:Code}{args:List S1}{gf:Fr}{F:List Nat}{A:List S1->Obs->Prop}{J:Int->Obs->Prop}(hf:P.funcs[f]?=some fn)(I:(fn.name == "runtime.NumGoroutine")=false)(hb:fn.body=some c)(R:Nat.ble args.length fn.ntmps=true)(ad:Nat.ble fn.ntmps 1000000=true)
  (h6:WpC P fn.ntmps c (bW 0 args++gf) ob (metXP P T fn F gf A J)):MetX P T f args gf ob F A J:=by
 refine⟨⟨fn,hf,I,by simp[hb]⟩,fun H S G a w q h B=>?_⟩;have ag:q.length=args.length:=B.length.symm;have af:args.length<=fn.ntmps:=by simpa using R
 have ac:fn.ntmps<=1000000:=by simpa using ad
 let S':Ctx:={ S with nt:=fn.ntmps,df:=[] }
 have hs:Sim P S' (bW 0 args++gf) ob G { tmps:=q.toArray++Array.replicate (fn.ntmps-q.toArray.size) undef,defers:=[] } w:=by
  refine { h with nt:=by simp[S'];omega,ntb:=ac,defers:=rfl,facts:=?_ };intro i s y;rw[Y1]at y;cases C:D4 (bW 0 args) i with
  | some Y =>
   rw[C]at y;have y:some Y=some s:=y;cases y;obtain⟨_,p,V,rfl⟩:=qJ 0 args i _ C;obtain⟨u,hu,hr⟩:=B.get (i-0) p V;have ab:i<q.length:=(List.getElem?_eq_some_iff.1 hu).1;have Q:(q.toArray++Array.replicate (fn.ntmps-q.toArray.size) undef).getD i undef=u:=by
    rw[Array.getD_eq_getD_getElem?,Array.getElem?_append_left (by simpa using ab)];simpa using congrArg (fun x=>x.getD undef) hu
   rw[Ctx.sl_lt (by omega),Q];exact hr
  | none =>
   rw[C]at y;have y:D4 gf i=some s:=y;have h7:=H i s y;have N:=h.facts i s y;rw[Ctx.sl_ge h7]at N ⊢;exact N
 refine eC hf hb (wp_mono (h6 S' _ _ w rfl hs) ?_);rintro e K w' ⟨fr',ob',G',hq,m⟩;have E:∀(L:List Deferred) (w':World),Sim P { S' with df:=L } fr' ob' G' K w'->∀j:Obs,Tail (C8 F gf) fr'->(∀k o,B4 j k=some o->B4 ob' k=some o)->Sim P S (C8 F gf) j G' a w':=by
  intro L w' m j C M
  have X:=(m.weaken (fr':=C8 F gf) (fun i s y=>by
   obtain⟨Y,h0⟩:=aQ y
   exact C i s (H i Y h0) y)).weakenO M
  refine { X with nt:=h.nt,ntb:=h.ntb,defers:=h.defers,facts:=fun i s y=>?_ };obtain⟨Y,h0⟩:=aQ y;have h7:=H i Y h0;have N:=X.facts i s y;rw[Ctx.sl_ge h7]at N ⊢;exact N
 have fin:(∃rs j,RetS P fn fr' ob' rs/\Tail (C8 F gf) fr'/\(∀k o,B4 j k=some o->B4 ob' k=some o)/\A rs j)->∀L w',Sim P { S' with df:=L } fr' ob' G' K w'->∃v,(results fn K.tmps).run P w'=.ok v w'/\((∃Z rs ob' G',Ending.returned v=.returned Z/\A rs ob'/\aP (D9 (Mut S ob' G') w') G' rs Z/\Sim P S (C8 F gf) ob' G' a w')\/∃c ob' G',Ending.returned v=.panicked (codeV T c)/\J c ob'/\Sim P S (C8 F gf) ob' G' a w'):=by
  rintro⟨rs,j,hr,C,M,V⟩ L w' m;obtain⟨v,hv,W⟩:=hr _ G' K w' m;have U:∀b i,Mut S' j G' b i->Mut S' ob' G' b i:=by
   rintro b i (hm | ⟨k,o,hk,ae⟩)
   ·exact .inl hm
   ·exact .inr ⟨k,o,M k o hk,ae⟩
  exact⟨v,hv,.inl ⟨v,rs,j,G',rfl,V,SV.rep_mono (fun b i z hz=>⟨hz.1,fun hm=>hz.2 (U b i hm)⟩) W,E L w' m j C M⟩⟩
 cases e with
 | normal=>exact m.leave rfl (fin hq)
 | ret=>exact m.leave rfl (fin hq)
 | panic ch =>
  obtain⟨c,j,rfl,C,M,V⟩:=hq;have m:=m.resolve_right fun h=>nomatch h.1;show LeavesInM Fence.wide 0 P fn K.tmps _ K.defers _ w';rw[m.defers];exact .inr ⟨c,j,G',rfl,V,E [] w' m j C M⟩
 | _=>exact hq.elim
section
variable {P:Program}{dst:Option Tmp}{ty:TypeId}{pos:String}{af:Array Edge}{gd:Option (Nat×Bool)}{fr:Fr}{ob:Obs}
def d5{κ:Type}[DecidableEq κ]:List (κ×Cell)->κ->Cell->List (κ×Cell)
 | [],a,c=>[(a,c)]
 | (k,x)::r,a,c=>if k=a then (k,c)::r else (k,x)::d5 r a c
theorem wX{κ:Type}[DecidableEq κ]{a:κ}{c:Cell}:∀{b:List (κ×Cell)},N6 b a=none->d5 b a c=b++[(a,c)]
 | [],_=>rfl
 | (k,x)::r,h=>by
  unfold N6 at h;unfold d5;split at h
  ·cases h
  ·rename_i d;rw[A6 d,wX h];rfl
theorem OS{κ:Type}[DecidableEq κ]{g:κ->Value}{A:TypeDesc}(f:∀a,MapKept.IsKey A (g a))(l:∀a b,g a=g b->a=b){B:Rd}(a:κ){c:Cell}{u:Value}(D:c.rep B u):∀(d:List (κ×Cell)) (n:List MapEntry) (i:Nat),
  All2 (fun (q:κ×Cell) (e:MapEntry)=>e.key=g q.1/\q.2.rep B e.val) d n->N6 d a≠none ->
  ∃p v e,Instr.findNow A (g a) n i=some (some (i+p,v))/\n[p]?=some e/\e.key=g a/\All2 (fun (q:κ×Cell) (e:MapEntry)=>e.key=g q.1/\q.2.rep B e.val) (d5 d a c) (n.modify p fun e=>{ e with key:=g a,val:=u })
 | [],[],_,_,h=>absurd rfl h
 | [],_::_,_,h,_=>h.elim
 | _::_,[],_,h,_=>h.elim
 | (k,x)::d,e::n,i,h,hn=>by
  obtain⟨⟨w,G⟩,C⟩:=h;obtain⟨r,L,j⟩:=MapKept.sameNow_of_keys (f a) (f k);have o:Instr.sameNow A (g a) e.key=some r:=by rw[w];exact L
  by_cases t:k=a
  ·subst t;have:r=true:=j.2 rfl;subst this;refine⟨0,e.val,e,by simp[Instr.findNow,o],rfl,w,?_⟩;unfold d5;rw[A5 rfl];exact⟨⟨rfl,D⟩,C⟩
  ·have:r=false:=by
    cases r
    ·rfl
    ·exact absurd (l _ _ (j.1 rfl)).symm t
   subst this;have z:N6 d a≠none:=by
    intro F;apply hn;unfold N6;rw[A6 t];exact F
   obtain⟨p,v,E,H,I,J,K⟩:=OS f l a D d n (i+1) C z;refine⟨p+1,v,E,?_,by simpa using I,J,?_⟩
   ·simp only[Instr.findNow,o,H];rw[show i+1+p=i+(p+1) by omega]
   ·unfold d5;rw[A6 t];exact⟨⟨w,G⟩,K⟩
theorem B20{x y v:Operand}{t kt:TypeId}{X:TypeDesc}{z:Value}{k:Nat}{κ:Type}[DecidableEq κ]{q:κ->Value}{A:List (κ×Cell)}(a0:κ){c:Cell}[ht:TyMap P t kt X z](V:opv fr x=some (.s (.one (.mut k))))(J:B4 ob k=some (.map κ q A))
  (W:opv fr y=some (I6 (q a0))) (T:opv fr v=some (.s (.one (.p c)))) (Q:H3 v=true) (f:∀a,MapKept.IsKey X (q a)) (B:∀a b,q a=q b->a=b) :
  Eff P ⟨none,.mapUpdate t x y v,ty,pos,af,gd⟩ fr ob fr ((k,.map κ q (d5 A a0 c))::ob):=by
 cases L:N6 A a0 with
 | none=>rw[wX L];exact OI a0 V J W T Q f B L
 | some c0 =>
  intro S G a w h;obtain⟨et,u1,Y,u3,u4⟩:=ht.out;obtain⟨R,_⟩:=F4 h V;obtain⟨b,E,l,H,I,ha⟩:=h.obs k _ J;rw[H]at R;have N:c.rep (D9 (Mut S ob G) w) (a.eval v):=N8 h T Q;obtain⟨p,v0,e,O,h5,h6,h7⟩:=OS f B a0 N A E.toList 0 ha (by rw[L];simp);rw[Nat.zero_add]at O;have F:(E[p]?.map (·.key)).getD (q a0)=q a0:=by
   rw[<-Array.getElem?_toList,h5];exact h6
  obtain⟨g5,g6⟩:=MapKept.heap_set (o':=.map (E.modify p fun e=>{ e with key:=q a0,val:=a.eval v }) l) I;have he:(execOp a.eval ⟨none,.mapUpdate t x y v,ty,pos,af,gd⟩).run P w=.ok .skip { w with heap:=w.heap.setIfInBounds b (.map (E.modify p fun e=>{ e with key:=q a0,val:=a.eval v }) l) }:=by
   simp only[execOp,R,E9 h W];simp only[Instr.mapUpdate,Sem.run_bind,run_underlying u1,Result.andThen_ok,MapKept.run_getObj_map I,MapKept.run_checkKey Y (f a0),MapKept.run_findKey Y O,F,MapKept.run_keyThatStays (f a0),MapKept.run_setObj_map _ I];rfl
  unfold Does;rw[he];have C:blk (G k)=some b:=by rw[H];rfl
  refine⟨G,h.write J C (fun i=>⟨C,trivial⟩) (fun i=>⟨C,trivial⟩) rfl rfl rfl (by simp) (fun j _ K=>g6 j K) ?_⟩;intro rd M;refine⟨b,_,_,H,g5,?_⟩;rw[Array.toList_modify];exact h7.mono fun _ _ ⟨Z,e2⟩=>⟨Z,Cell.rep_mono M _ _ e2⟩
theorem YL{x y:Operand}{t yt:TypeId}{l m:List UInt8}(a:opv fr x=some (H6 l))(c:opv fr y=some (H6 m)):Neu P ⟨dst,.binOp .geq t x y yt,ty,pos,af,gd⟩ fr ob (fun d=>d=Q4 (!Op.bytesLess l m)) :=
 aG a c (fun _=>rfl) (fun w=>by simp[binOp,Op.stringOp]) rfl
theorem YM{f:FuncId}{g:Operand}{d:Array Operand}{m:Array TypeId}{ps rs:List PV}(q:FnOk P f ps (fun r=>r=rs))(z:opv fr g=some (I6 (.func (.func f) #[] #[])))(ha:eP fr d.toList=some ps)(s:d.toList.all H3=true) :
  Neu P ⟨dst,.call ⟨.value g,d,m⟩,ty,pos,af,gd⟩ fr ob (fun E=>E=oV rs):=by
 intro S G a w h;have p:=E9 h z;have j:=q.2 w (Mut S ob G) _ h.grdW (fun b i B=>h.mut_lt B) (jC h d.toList ps ha s);unfold Does;have x:(execOp a.eval ⟨dst,.call ⟨.value g,d,m⟩,ty,pos,af,gd⟩).run P w=.ok (.enter f (d.toList.map a.eval).toArray) w:=by
  have:=Q5 (P:=P) (f:=f) (args:=(d.toList.map a.eval).toArray) (w:=w) q.1;simp only[execOp,resolve,p,Deferred.ofValue,Sem.run_bind,Sem.run_pure,Result.andThen_ok,invoke];rw[show (#[]:Array Value)++Array.map a.eval d++#[]=(d.toList.map a.eval).toArray by obtain⟨l⟩:=d;simp];exact this
 rw[x];refine j.mono ?_;rintro e w' ⟨v,D,rfl,rfl,C,hb⟩;exact⟨v,rfl,hb,_,rfl,C.sv⟩
section
variable {nt:Nat}{ops:Array Oper}{rest:List Oper}{Q:Post}{d:Nat}
end
end
class TyArr (P:Program) (t:TypeId) (e:outParam TypeId) (n:outParam Nat) (es:outParam Nat):Prop where
 out:P.underlying t=some (.array n e)/\(P.info? e).map (·.size)=some es
class TyArrZ (P:Program) (t:TypeId) (zs:outParam (List Value)) (offs:outParam (List (Nat×Nat))):Prop where
 out:∃n e es z,P.underlying t=some (.array n e)/\(P.info? t).bind (·.zero)=some z/\z.cells.toList=zs/\zs.all (·.oneCell')=true/\(P.info? e).map (·.size)=some es/\offs=(List.range n).map fun i=>(i*es,es)
theorem n_boxA{x:Operand}{e:TypeId}{s:S1}{d:List Cell}(E:opv fr x=some (.s s))(y:H3 x=true)(C:dT s.cells=some d) :
  Neu P ⟨dst,.box e x,ty,pos,af,gd⟩ fr ob (fun F=>F=.s (.one (.eref Unit d.length (fun _ j=>d.getD j (.v undef)) () 0))):=by
 intro S G a w h;have D:(SV.s s).rep (D9 (Mut S ob G) w) G (a.eval x):=N8 h E y;have k:=r8 C (B93 D);have g:Below w.heap.size w (w.alloc (.cells (a.eval x).cells e)):=(Below.refl _ _).alloc (Nat.le_refl _) _;refine F3 (w':=w.alloc (.cells (a.eval x).cells e)) (v:=.pointer (some ⟨w.heap.size,0,none⟩)) ?_ ⟨g,_,rfl,w.heap.size,0,rfl,?_⟩
 ·simp[execOp,Instr.box,newVar,newRow]
 ·intro j u;obtain⟨z,m,q⟩:=k.get j _ (C29 u);refine⟨z,⟨cell_of_heap (heap_alloc_new w _) (by rw[Nat.zero_add];simpa using m),fun B=>absurd (h.mut_lt B) (Nat.lt_irrefl _)⟩,?_⟩;show (d.getD j (.v undef)).rep _ z;rw[show d.getD j (.v undef)=d[j] by simp[C33,u]];exact Cell.rep_mono (fun _ _ _ A=>u6 g A) _ _ q
theorem OT{f:FuncId}{x:Operand}{α:Type}{d:Nat}{c:α->Nat->Cell}{v:α}(j:opv fr x=some (.s (.one (.eref α d c v 0)))) :
  Neu P ⟨dst,.makeFunc (.func f) #[] #[x],ty,pos,af,gd⟩ fr ob (fun l=>l=.s (.one (.fncE f α d c v))) :=
 E1 fun S G a w h=>by
  obtain⟨b,o,i,g⟩:=F4 h j;refine⟨.func (.func f) #[] #[a.eval x],?_,b,o,?_,g⟩
  ·simp[execOp,Instr.makeFunc]
  ·rw[i];rfl
theorem n_callE{f:FuncId}{g:Operand}{m:Array Operand}{H:Array TypeId}{α:Type}{O:Nat}{c:α->Nat->Cell}{v:α}{args:List S1}{N:Cell}
  (U:Met P f (args++[.one (.eref α O c v 0)]) [] [] [] (fun V ob'=>V=[.one (.p N)]/\ob'=[])) (hg:opv fr g=some (.s (.one (.fncE f α O c v)))) (ha:fQ fr m.toList=some args) (hc:m.toList.all H3=true) :
  Neu P ⟨dst,.call ⟨.value g,m,H⟩,ty,pos,af,gd⟩ fr ob (fun s'=>s'=.s (.one (.p N))):=by
 intro S G a w h;obtain⟨b,o,Q,R⟩:=F4 h hg;have F:=bY h m.toList args ha hc;have x:All2 (S1.rep (D9 (Mut S ob G) w) G) (args++[.one (.eref α O c v 0)]) (m.toList.map a.eval++[Value.pointer (some ⟨b,o,none⟩)]):=F.append ⟨⟨b,o,rfl,R⟩,trivial⟩;let S':Ctx:={ S with w0:=w,M0:=fun b i=>Mut S ob G b i,io:=fun _=>False }
 have B:High ([]:Fr):=fun i s hi=>by cases hi
 have I:Grd P (fun _=>False) w:=by
  obtain⟨wg,X,T,Y⟩:=h.grd;refine⟨wg,X,Nat.le_trans T h.size,fun j M=>?_⟩;obtain⟨Z,h5⟩:=Y j M;exact⟨(h.keep j (Nat.lt_of_lt_of_le M T) h5).trans Z,fun e=>e⟩
 have hs:Sim P S' [] [] G a w:={ nt:=h.nt,ntb:=h.ntb,defers:=h.defers,os:=rfl,tape:=rfl,output:=rfl,size:=Nat.le_refl _,keep:=fun _ _ _=>rfl,m0:=fun b i C=>h.mut_lt C,m0io:=fun _ _ _ e=>e,grd:=I,pin:=h.pin,old:=fun _ _ _ e=>(by cases e),dis:=fun _ _ _ _ _ e=>(by cases e),obs:=fun _ _ e=>(by cases e),facts:=fun _ _ e=>(by cases e) }
 have K:∀b i z,D9 (Mut S ob G) w b i z->D9 (Mut S' [] G) w b i z:=fun b i z J=>⟨J.1,fun C=>J.2 (by
  rcases C with C | ⟨k,o,hk,_⟩
  ·exact C
  ·cases hk)⟩
 have q:=U.2 B S' G a w _ hs (x.mono fun _ _=>S1.rep_mono K);unfold Does;have he:(execOp a.eval ⟨dst,.call ⟨.value g,m,H⟩,ty,pos,af,gd⟩).run P w=.ok (.enter f (m.toList.map a.eval++[Value.pointer (some ⟨b,o,none⟩)]).toArray) w:=by
  have:=Q5 (P:=P) (f:=f) (args:=(m.toList.map a.eval++[Value.pointer (some ⟨b,o,none⟩)]).toArray) (w:=w) U.1;simp only[execOp,resolve,Q,Deferred.ofValue,Sem.run_bind,Sem.run_pure,Result.andThen_ok,invoke];rw[show (#[]:Array Value)++Array.map a.eval m++#[Value.pointer (some ⟨b,o,none⟩)]=(m.toList.map a.eval++[Value.pointer (some ⟨b,o,none⟩)]).toArray by obtain⟨l⟩:=m;simp];exact this
 rw[he];refine q.mono ?_;rintro e w' ⟨W,V,ob',G',rfl,⟨rfl,rfl⟩,L,d⟩;refine⟨W,rfl,⟨d.os,d.tape,d.output,d.size,fun j M=>d.keep j M (fun e=>e)⟩,_,rfl,?_⟩;have D:N.rep (D9 (Mut S' [] G') w') W:=L;refine Cell.rep_mono (fun b i z J=>⟨J.1,fun C=>J.2 (.inl C)⟩) _ _ D
theorem RetOk.s1{fn:Func}{c:Cell}(h:RetOk P fn fr ob [.one c]):RetS P fn fr ob [.one (.p c)]:=fun S G a w hs=>let ⟨v,b,d⟩:=h S G a w hs;⟨v,b,d.sv⟩
theorem RetOk.s2{fn:Func}{c b:Cell}(h:RetOk P fn fr ob [.one c,.one b]):RetS P fn fr ob [.one (.p c),.one (.p b)]:=fun S G a w hs=>let ⟨v,d,f⟩:=h S G a w hs;⟨v,d,f.sv⟩
theorem C08(kb o:Nat){m:List TC}{t0:TC}{c:Cell}(hb:B4 ob kb=some (.box m))(k:m[o]?=some t0)(s:t0.pure?=some c):Sees P nt fr ob fr ((kb,.box (m.set o (.p c)))::ob):=by
 intro S G a w A h;obtain⟨b,C,t,r,y,ha⟩:=h.obs kb _ hb;have d:blk (G kb)=some b:=by rw[r];rfl
 refine⟨_,h.retell hb d (fun i=>⟨d,trivial⟩) (fun i=>⟨d,trivial⟩) ?_⟩;rintro B ⟨q,n,v,g,j,e⟩;refine⟨q,n,v,g,j,B97 o (fun z u=>?_) e⟩;obtain⟨D,f,l⟩:=e.get o _ k;rw[u]at f;cases f;exact C05 s l
theorem A12(k:Nat){t e:TypeId}{A H n:Nat}{f:Array (Nat×Operand)}{α:Type}{c:α->Nat->Cell}{ys:List α}[ht:TySl P t e A H](hb:zZ fr A c f.toList 0 ys)(Y:f.toList.length=n)(M:Nat.ble n 100000=true)(Q:Nat.ble A 100=true)
  (hk:B4 ob k=none) (I:Nat.blt k 1000000=true):EffV P ⟨dst,.buildSlice t n f,ty,pos,af,gd⟩ fr ob (.s (.one (.mut k))) (Fr.forget k fr) ((k,.grow e α A c ys)::Obs.forget k ob):=by
 intro S G a w h;have I:k<1000000:=by simpa using I
 have Z:n<=100000:=by simpa using M
 have O:A<=100:=by simpa using Q
 have ah:n*A<=100000*100:=Nat.mul_le_mul Z O;obtain⟨_,_,_,_,D⟩:=ht.out;cases X:P.info? e with
 | none=>simp[X]at D
 | some i =>
 cases hz:i.zero with
 | none=>simp[X,hz]at D
 | some z =>
 have ag:(P.info? e).bind (·.zero)=some z:=by simp[X,hz]
 let q:Array Value:=(Array.range (n*A)).map ((if n*A=0 then #[] else z.cells)[· % (if n*A=0 then #[] else z.cells).size]!);have N:q.size=n*A:=by simp[q]
 obtain⟨K,W,ab,ac,hv⟩:=iG h f.toList 0 ys q hb (by rw[N,Y,Nat.zero_add]);simp only[Nat.zero_mul,List.take_zero,C58]at W;have hp:(f.map fun x=>(x.1,a.eval x.2)).toList=f.toList.map fun x=>(x.1,a.eval x.2):=by simp
 have E:ys.length=n:=by rw[ac,Y]
 refine F3 (w':=w.alloc (.cells K.toArray e)) (v:=.slice (some ⟨w.heap.size,0,none⟩) n n) ?_ ?_
 ·simp only[execOp];refine J8 ?_;simp only[Instr.buildSlice,Sem.run_bind,run_underlying ht.out.1,Result.andThen_ok,H4 ht.size];rw[A6 (by omega)];by_cases F:n*A=0
  ·simp only[F,if_true,Sem.run_bind,Sem.run_pure,Result.andThen_ok];have C:q=(Array.range 0).map ((#[]:Array Value)[· % (#[]:Array Value).size]!):=by simp only[q,F,if_true]
   rw[show (f.map fun (x:Nat×Operand)=>match x with | (i,x)=>(i,a.eval x))=f.map fun x=>(x.1,a.eval x.2) from rfl,hp,<-C,W];simp[newRow]
  ·simp only[A6 F,Sem.run_bind,M5 ag,Sem.run_pure,Result.andThen_ok];have C:q=(Array.range (n*A)).map (z.cells[· % z.cells.size]!):=by simp only[q,A6 F]
   rw[show (f.map fun (x:Nat×Operand)=>match x with | (i,x)=>(i,a.eval x))=f.map fun x=>(x.1,a.eval x.2) from rfl,hp,<-C,W];simp[newRow]
 ·have V:Below w.heap.size w (w.alloc (.cells K.toArray e)):=(Below.refl _ _).alloc (Nat.le_refl _) _;have hu:∀b,blk (.slice (some ⟨w.heap.size,0,none⟩) n n)=some b->w.heap.size<=b:=by intro b hb;simp[blk]at hb;omega
  have J:K.length=n*A:=by rw[ab,Y]
  have T:(w.alloc (.cells K.toArray e)).ownsRow S.B e A (.slice (some ⟨w.heap.size,0,none⟩) n n) ys.length K :=
   ⟨by rw[J,E],.inr ⟨w.heap.size,n,K.toArray,by rw[E],h.size,heap_alloc_new w _,by rw[E];exact Nat.le_refl _,by unfold maxLen;omega,by simpa using J,by rw[E,<-J];simp⟩⟩
  have U:=h.new I hk (o:=.grow e α A c ys) V hu ⟨K,T,by omega,fun m hm j hj=>by
   obtain⟨zz,ad,ae⟩:=hv m hm j hj
   exact⟨zz,ad,Cell.rep_mono (fun _ _ _ hr=>h.rd_new V hu hr) _ _ ae⟩⟩
  exact⟨_,U,(G7 _ _ _).symm,rfl⟩
theorem MetX.introH{f:FuncId}{fn:Func}{c:Code}{a:List S1}{gf:Fr}{k:List Nat}{d:List S1->Obs->Prop}{h:Int->Obs->Prop}(j:P.funcs[f]?=some fn)(b:(fn.name == "runtime.NumGoroutine")=false)(hb:fn.body=some c)(g:Nat.ble a.length fn.ntmps=true)(i:Nat.ble fn.ntmps 1000000=true)
  (l:High gf->WpC P fn.ntmps c (bW 0 a++gf) ob (metXP P T fn k gf d h)):MetX P T f a gf ob k d h :=
 ⟨⟨fn,j,b,by simp[hb]⟩,fun e=>(MetX.intro j b hb g i (l e)).2 e⟩
def IdleP(P:Program)(f:List PanicEntry)(h d:List Deferred)(w w':World):Prop :=
 ∀(fn:Func) (b:Array Value) (R:Ending->World->Prop),LeavesInM Fence.wide 0 P fn b R d .returning w'->LeavesInM Fence.wide 0 P fn b R h (.panicking f) w
def RecOf(P:Program)(S:Ctx)(Q:Post)(e:Exit)(a:Act)(w:World):Prop :=
 PostOf P S Q e a w\/∃d fr ob G b w',e=.panic d/\a.defers=b/\Q .ret fr ob/\Sim P { S with df:=b } fr ob G a w'/\IdleP P d b S.df w w'
def RawC(P:Program)(nt:Nat)(c:Code)(fr:Fr)(ob:Obs)(Q:Post):Prop :=
 ∀S G a w,S.nt=nt->Sim P S fr ob G a w->c.wp P (RecOf P S Q) a w
theorem RawC.of{c:Code}(h:WpC P nt c fr ob Q):RawC P nt c fr ob Q:=fun S G a w b hs=>wp_mono (h S G a w b hs) fun _ _ _ d=>.inl d
theorem A13(k:Nat){t e:TypeId}{q J:Nat}{x:Operand}{s:S1}[ht:TySl P t e q J](hx:opv fr x=some (.s s))(hc:H3 x=true)(V:s.cells.length=q)(O:Nat.ble q 100=true)
  (hk:B4 ob k=none) (N:Nat.blt k 1000000=true):EffV P ⟨dst,.buildSlice t 1 #[(0,x)],ty,pos,af,gd⟩ fr ob (.s (.one (.mut k))) (Fr.forget k fr) ((k,.growT e 1 q (s.cells.map (TC.forget k)))::Obs.forget k ob):=by
 intro S G a w h;have N:k<1000000:=by simpa using N
 have ad:=ht.out.2.2.1;have ac:q<=100:=by simpa using O
 obtain⟨_,_,_,_,F⟩:=ht.out;cases Y:P.info? e with
 | none=>simp[Y]at F
 | some i =>
 cases hz:i.zero with
 | none=>simp[Y,hz]at F
 | some z =>
 have Z:(P.info? e).bind (·.zero)=some z:=by simp[Y,hz]
 have D:=B93 (s:=s) (N8 h hx hc);have E:(a.eval x).cells.size=q:=by rw[<-V,D.length];simp
 let C:Array Value:=(Array.range (1*q)).map (z.cells[· % z.cells.size]!);have ab:C.size=q:=by simp[C]
 have K:Instr.fill (fun i=>some (i*q,q)) C [(0,a.eval x)]=some (a.eval x).cells.toList.toArray:=by
  have M:(a.eval x).cells.zipIdx.foldl (fun cs (x:Value×Nat)=>cs.setIfInBounds (0*q+x.2) x.1) C=(C.toList.take (0*q)++(a.eval x).cells.toList++C.toList.drop (0*q+(a.eval x).cells.toList.length)).toArray:=by
   rw[<-Array.foldl_toList,Array.toList_zipIdx];have:=iF (0*q) (a.eval x).cells.toList 0 C (by simp;omega);simpa using this
  simp only[Instr.fill,E,ne_eq,not_true_eq_false,decide_false,Bool.false_or,decide_eq_true_eq];rw[A6 (by omega),M];have:C.toList.drop (0*q+(a.eval x).cells.toList.length)=[]:=by rw[List.drop_eq_nil_iff];simp;omega
  rw[this];simp
 refine F3 (w':=w.alloc (.cells (a.eval x).cells.toList.toArray e)) (v:=.slice (some ⟨w.heap.size,0,none⟩) 1 1) ?_ ?_
 ·simp only[execOp];refine J8 ?_;simp only[Instr.buildSlice,Sem.run_bind,run_underlying ht.out.1,Result.andThen_ok,H4 ht.size];rw[A6 (by omega)];rw[A6 (by omega)];simp only[Sem.run_bind,M5 Z,Sem.run_pure,Result.andThen_ok];have hp:(#[(0,x)]:Array (Nat×Operand)).map (fun (x:Nat×Operand)=>match x with | (i,x)=>(i,a.eval x))=#[(0,a.eval x)]:=by simp
  rw[hp];have H:Instr.fill (fun i=>some (i*q,q)) ((Array.range (1*q)).map (z.cells[· % z.cells.size]!)) (#[(0,a.eval x)]:Array (Nat×Value)).toList=some (a.eval x).cells.toList.toArray:=K;rw[H];simp[newRow]
 ·have X:Below w.heap.size w (w.alloc (.cells (a.eval x).cells.toList.toArray e)):=(Below.refl _ _).alloc (Nat.le_refl _) _;have hu:∀b,blk (.slice (some ⟨w.heap.size,0,none⟩) 1 1)=some b->w.heap.size<=b:=by intro b hb;simp[blk]at hb;omega
  have W:(a.eval x).cells.toList.length=q:=by simpa using E
  have Q:(w.alloc (.cells (a.eval x).cells.toList.toArray e)).ownsRow S.B e q (.slice (some ⟨w.heap.size,0,none⟩) 1 1) 1 (a.eval x).cells.toList :=
   ⟨by rw[W,Nat.one_mul],.inr ⟨w.heap.size,1,(a.eval x).cells.toList.toArray,rfl,h.size,heap_alloc_new w _,Nat.le_refl _,by unfold maxLen;omega,by simpa using E,by rw[Nat.one_mul,<-W];exact C44⟩⟩
  have U:=h.new N hk (o:=.growT e 1 q (s.cells.map (TC.forget k))) (u:=.slice (some ⟨w.heap.size,0,none⟩) 1 1) X hu (by
   refine⟨(a.eval x).cells.toList,Q,by omega,by rw[C55,V,Nat.one_mul],?_⟩;have h1:All2 (TC.rep (D9 (Mut S ((k,Ob.growT e 1 q (s.cells.map (TC.forget k)))::Obs.forget k ob) (upd G k (.slice (some ⟨w.heap.size,0,none⟩) 1 1))) (w.alloc (.cells (a.eval x).cells.toList.toArray e))) G) s.cells (a.eval x).cells.toList :=
    D.mono fun _ _=>TC.rep_mono (fun _ _ _ hr=>h.rd_new X hu hr)
   exact h1.map (TC.forget k) (fun _ _=>TC.rep_forget (G':=upd G k (.slice (some ⟨w.heap.size,0,none⟩) 1 1)) (fun j hj=>b9 G _ hj)))
  exact⟨_,U,(G7 _ _ _).symm,rfl⟩
theorem BD(k:Nat){t e:TypeId}{q F:Nat}{x:Operand}{s:S1}[ht:TySl P t e q F](hx:opv fr x=some (.s s))(hc:H3 x=true)(Q:s.cells.length=q)(M:Nat.ble q 100=true)
  (hk:B4 ob k=none) (K:Nat.blt k 1000000=true):EffV P ⟨dst,.buildSlice t 1 #[(0,x)],ty,pos,af,gd⟩ fr ob (.s (.one (.mut k))) (Fr.forget k fr) ((k,.tarr 1 q (s.cells.map (TC.forget k)))::Obs.forget k ob):=by
 intro S G a w h;have K:k<1000000:=by simpa using K
 have ab:=ht.out.2.2.1;have W:q<=100:=by simpa using M
 obtain⟨_,_,_,_,D⟩:=ht.out;cases T:P.info? e with
 | none=>simp[T]at D
 | some i =>
 cases Y:i.zero with
 | none=>simp[T,Y]at D
 | some z =>
 have U:(P.info? e).bind (·.zero)=some z:=by simp[T,Y]
 have C:=B93 (s:=s) (N8 h hx hc);have N:(a.eval x).cells.size=q:=by rw[<-Q,C.length];simp
 let B:Array Value:=(Array.range (1*q)).map (z.cells[· % z.cells.size]!);have V:B.size=q:=by simp[B]
 have H:Instr.fill (fun i=>some (i*q,q)) B [(0,a.eval x)]=some (a.eval x).cells.toList.toArray:=by
  have J:(a.eval x).cells.zipIdx.foldl (fun Z (x:Value×Nat)=>Z.setIfInBounds (0*q+x.2) x.1) B=(B.toList.take (0*q)++(a.eval x).cells.toList++B.toList.drop (0*q+(a.eval x).cells.toList.length)).toArray:=by
   rw[<-Array.foldl_toList,Array.toList_zipIdx];have:=iF (0*q) (a.eval x).cells.toList 0 B (by simp;omega);simpa using this
  simp only[Instr.fill,N,ne_eq,not_true_eq_false,decide_false,Bool.false_or,decide_eq_true_eq];rw[A6 (by omega),J];have:B.toList.drop (0*q+(a.eval x).cells.toList.length)=[]:=by rw[List.drop_eq_nil_iff];simp;omega
  rw[this];simp
 refine F3 (w':=w.alloc (.cells (a.eval x).cells.toList.toArray e)) (v:=.slice (some ⟨w.heap.size,0,none⟩) 1 1) ?_ ?_
 ·simp only[execOp];refine J8 ?_;simp only[Instr.buildSlice,Sem.run_bind,run_underlying ht.out.1,Result.andThen_ok,H4 ht.size];rw[A6 (by omega)];rw[A6 (by omega)];simp only[Sem.run_bind,M5 U,Sem.run_pure,Result.andThen_ok];have hp:(#[(0,x)]:Array (Nat×Operand)).map (fun (x:Nat×Operand)=>match x with | (i,x)=>(i,a.eval x))=#[(0,a.eval x)]:=by simp
  rw[hp];have E:Instr.fill (fun i=>some (i*q,q)) ((Array.range (1*q)).map (z.cells[· % z.cells.size]!)) (#[(0,a.eval x)]:Array (Nat×Value)).toList=some (a.eval x).cells.toList.toArray:=H;rw[E];simp[newRow]
 ·have R:Below w.heap.size w (w.alloc (.cells (a.eval x).cells.toList.toArray e)):=(Below.refl _ _).alloc (Nat.le_refl _) _;have X:∀b,blk (.slice (some ⟨w.heap.size,0,none⟩) 1 1)=some b->w.heap.size<=b:=by intro b hb;simp[blk]at hb;omega
  have O:=h.new K hk (o:=.tarr 1 q (s.cells.map (TC.forget k))) (u:=.slice (some ⟨w.heap.size,0,none⟩) 1 1) R X (by
   refine⟨w.heap.size,(a.eval x).cells.toList,e,rfl,by omega,heap_alloc_new w _,by rw[C55,Q,Nat.one_mul],?_⟩;have h1:All2 (TC.rep (D9 (Mut S ((k,Ob.tarr 1 q (s.cells.map (TC.forget k)))::Obs.forget k ob) (upd G k (.slice (some ⟨w.heap.size,0,none⟩) 1 1))) (w.alloc (.cells (a.eval x).cells.toList.toArray e))) G) s.cells (a.eval x).cells.toList :=
    C.mono fun _ _=>TC.rep_mono (fun _ _ _ hr=>h.rd_new R X hr)
   exact h1.map (TC.forget k) (fun _ _=>TC.rep_forget (G':=upd G k (.slice (some ⟨w.heap.size,0,none⟩) 1 1)) (fun j hj=>b9 G _ hj)))
  exact⟨_,O,(G7 _ _ _).symm,rfl⟩
theorem f_makeG(k:Nat){t e:TypeId}{A F:Nat}{x y:Operand}{kx ky:IntKind}{n:Int}(α:Type)(c:α->Nat->Cell)(D:α){z:Value}[ht:TySl P t e A F][hzz:TyZero P e z]
  (hx:opv fr x=some (I6 (.int kx n))) (hy:opv fr y=some (I6 (.int ky n))) (h0:0<=n) (hn:n<=1073741824)
  (ah:∀rd:Rd,All2 (Cell.rep rd) (cellsOf c D 0 A) z.cells.toList) (hf:(G5 k fr&&K5 k ob)=true) :
  EffV P ⟨dst,.makeSlice t x y,ty,pos,af,gd⟩ fr ob (.s (.one (.mut k))) fr ((k,.grow e α A c (List.replicate n.toNat D))::ob):=by
 simp only[C30]at hf;obtain⟨U,V⟩:=hf;obtain⟨Y,hk,Z⟩:=Q6 V;have W:=T4 U;have hz:((P.info? e).bind (·.zero)).map (fun z=>z.cells.toList)=some z.cells.toList:=by rw[hzz.out.1];rfl
 intro S G a w h;obtain⟨ac,f,ak,aj,q⟩:=ht.out;cases M:P.info? e with
 | none=>simp[M]at f
 | some i =>
 simp[M]at f;obtain⟨ab,T⟩:=f;cases J:i.zero with
 | none=>simp[M,J]at q
 | some z2 =>
 simp[M,J]at q hz;have K:(i.bytes:Int)*n<=281474976710656:=by
  have h1:(i.bytes:Int)<=4096:=by omega
  have h2:(i.bytes:Int)*n<=4096*1073741824:=by
   have:i.bytes*n.toNat<=4096*1073741824:=Nat.mul_le_mul (by omega) (by omega);have h3:((i.bytes*n.toNat:Nat):Int)<=((4096*1073741824:Nat):Int):=by exact_mod_cast this
   rw[Int.natCast_mul]at h3;have h4:(n.toNat:Int)=n:=by omega
   rw[h4]at h3;omega
  omega
 have hr:=run_make (P:=P) w t e i z2 ac M J kx ky n n h0 (Int.le_refl _) K (by omega);rw[ab]at hr;obtain⟨C,I⟩:∃C,C=madeCells z2.cells (n.toNat*A):=⟨_,rfl⟩
 have H:C.size=n.toNat*A:=by rw[I];exact size_madeCells _ _
 rw[<-I]at hr;refine F3 (w':=w.alloc (.cells C e)) (v:=.slice (some ⟨w.heap.size,0,none⟩) n.toNat n.toNat) ?_ ?_
 ·simp only[execOp,E9 h hx,E9 h hy];exact J8 hr
 ·have ag:Below w.heap.size w (w.alloc (.cells C e)):=(Below.refl _ _).alloc (Nat.le_refl _) _;have hu:∀b,blk (.slice (some ⟨w.heap.size,0,none⟩) n.toNat n.toNat)=some b->w.heap.size<=b:=by intro b hb;simp[blk]at hb;omega
  have Q:(List.replicate n.toNat D).length=n.toNat:=C74;have O:(w.alloc (.cells C e)).ownsRow S.B e A (.slice (some ⟨w.heap.size,0,none⟩) n.toNat n.toNat) (List.replicate n.toNat D).length C.toList:=by
   rw[Q];exact⟨by simpa using H,.inr ⟨w.heap.size,n.toNat,C,rfl,h.size,heap_alloc_new w _,Nat.le_refl _,by unfold maxLen;omega,H,(by rw[<-H];exact C44)⟩⟩
  have E:=h.new Z hk (o:=.grow e α A c (List.replicate n.toNat D)) (u:=.slice (some ⟨w.heap.size,0,none⟩) n.toNat n.toNat) ag hu ⟨C.toList,O,by rw[Q];omega,fun m hm j hj=>by
   have X:m<n.toNat:=by simpa using hm
   have ai:=ah (D9 (Mut S ((k,Ob.grow e α A c (List.replicate n.toNat D))::Obs.forget k ob) (upd G k (.slice (some ⟨w.heap.size,0,none⟩) n.toNat n.toNat))) (w.alloc (.cells C e)));have L:(cellsOf c D 0 A)[j]?=some (c D j):=by
    have N:j<(cellsOf c D 0 A).length:=by rw[I7];exact hj
    rw[C29 N];have:=U0 c D A 0 j _ (C29 N);rw[this.1,Nat.zero_add]
   obtain⟨u,ad,ae⟩:=ai.get j _ L;refine⟨u,?_,by simpa using ae⟩;rw[Array.getElem?_toList,I,oU q X hj,<-Array.getElem?_toList,hz]
   exact ad⟩
  rw[W,Y]at E;exact⟨_,E,(G7 _ _ _).symm,rfl⟩
theorem A14{d:Rd}{G:Gh}{v:Value}:∀(k:List PV),(oV k).rep d G v->ResRep d k v:=by
 have m:∀b:List Cell,dT (b.map TC.p)=some b:=fun b=>by
  induction b with
  | nil=>rfl
  | cons c b l=>rw[C39,dT,l];rfl
 have j:∀{p:PV} {u:Value},(p.s1).rep d G u->p.rep d u:=fun {p u} h=>by
  cases p with
  | one c=>exact h
  | agg b =>
   obtain⟨n,g,i⟩:=h;exact⟨n,g,r8 (m b) i⟩
 have f:∀(ps:List PV) (a:List Value),All2 (S1.rep d G) (ps.map PV.s1) a->All2 (PV.rep d) ps a:=fun ps=>by
  induction ps with
  | nil=>intro a h;cases a with | nil=>trivial | cons=>exact h.elim
  | cons p ps l =>
   intro a h;cases a with
   | nil=>exact h.elim
   | cons u a=>exact⟨j h.1,l a h.2⟩
 intro k h
 match k,h with
 | [p],h=>exact j h
 | [],⟨a,g,i⟩=>exact⟨a,g,f [] a i⟩
 | p::q::r,⟨a,g,i⟩=>exact⟨a,g,f (p::q::r) a i⟩
theorem C24{P:Program}{f:FuncId}{d:List PV}{ks:List Nat}{W:List S1->Obs->Prop}{y:List PV->Prop}(h:Met P f (d.map PV.s1) [] [] ks W)
  (hp:∀E ob',W E ob'->∃(k:Nat) (α:Type) (D:Nat) (c:α->Nat->Cell) (I:List α) (e:TypeId) (q:List PV),ob'=[(k,.grow e α D c I)]/\Nat.blt 0 D=true/\(AH E).freeze k α D c I=oV q/\y q):FnOk P f d y:=by
 refine⟨h.1,fun w M t hg hM ha=>?_⟩;let S:Ctx:={ w0:=w,M0:=M,io:=fun _=>False,nt:=0,pin:=fun _=>undef,gv:=fun _=>undef }
 obtain⟨G,hG⟩:∃G:Gh,G=fun _=>undef:=⟨_,rfl⟩
 obtain⟨a,F⟩:∃a:Act,a={ tmps:=#[],defers:=[] }:=⟨_,rfl⟩
 have J:∀G b i,Mut S [] G b i↔M b i:=fun G b i=>⟨fun h=>h.elim id fun ⟨k,o,u,_⟩=>(by cases u),.inl⟩
 have Q:∀G b i z,D9 M w b i z->D9 (Mut S [] G) w b i z:=fun G b i z U=>⟨U.1,fun N=>U.2 ((J G b i).1 N)⟩
 have hs:Sim P S [] [] G a w:=by
  refine { nt:=by rw[F];rfl,ntb:=by show 0<=1000000;omega,defers:=by rw[F],os:=rfl,tape:=rfl,output:=rfl,size:=Nat.le_refl _,keep:=fun _ _ _=>rfl,m0:=hM,m0io:=fun _ _ _=>id,grd:=hg,pin:=fun _ _=>by rw[hG],old:=fun k o b u=>(by cases u),dis:=fun k k' o o' b u=>(by cases u),obs:=fun k o u=>(by cases u),facts:=fun i s x=>by cases x }
 have C:All2 (S1.rep (D9 (Mut S [] G) w) G) (d.map PV.s1) t:=by
  have:∀(ps:List PV) (A:List Value),All2 (PV.rep (D9 M w)) ps A->All2 (S1.rep (D9 (Mut S [] G) w) G) (ps.map PV.s1) A:=by
   intro ps;induction ps with
   | nil=>intro A h;cases A with | nil=>trivial | cons=>exact h.elim
   | cons p ps ih =>
    intro A h;cases A with
    | nil=>exact h.elim
    | cons v A=>exact⟨PV.rep_s1 (PV.rep_mono (Q G) h.1),ih A h.2⟩
  exact this d t ha
 refine (h.2 (fun i s x=>by cases x) S G a w t hs C).mono ?_;rintro e w' ⟨v,E,ob',G',rfl,B,H,j⟩;obtain⟨k,α,D,c,I,X,q,rfl,K,L,O⟩:=hp E ob' B;have R:Sim P { S with gv:=fun _=>v } [(1000000,AH E)] [(k,.grow X α D c I)] G' a w':=by
  refine { j with facts:=fun i s x=>?_ };by_cases e:1000000=i
  ·subst e;rw[C7]at x;cases x;rw[Ctx.sl_ge (Nat.le_refl _)];exact H
  ·rw[B9 e]at x;cases x
 have Y:=R.freezeG (k:=k) (by rw[C4]) (by simpa using K);have T:=Y.facts 1000000 (SV.freeze k α D c I (AH E)) (C7 _ _ _);rw[Ctx.sl_ge (Nat.le_refl _),L]at T;have Z:=A14 q T;refine⟨v,q,rfl,O,Z.mono (fun b i z V=>⟨V.1,fun N=>V.2 (.inl N)⟩),⟨j.os,j.tape,j.output,j.size,fun k u=>j.keep k u id⟩⟩
def FreeKs(a:List Nat)(fr:Fr):Prop:=∀k,O1 a k=true->G5 k fr=true
theorem FreeKs.nil{a:List Nat}:FreeKs a []:=fun _ _=>rfl
theorem FreeKs.cons{a:List Nat}{i:Nat}{s:SV}{fr:Fr}(c:∀k,O1 a k=true->s.free k=true)(d:FreeKs a fr):FreeKs a ((i,s)::fr):=fun k b=>by
 simp only[G5,C30];exact⟨c k b,d k b⟩
theorem BE{k:Nat}:∀{F:Fr},(∀p∈F,p.2.free k=true)->G5 k F=true
 | [],_=>rfl
 | (i,s)::r,h=>by
  simp only[G5,C30];exact⟨h (i,s) (List.mem_cons_self ..),BE fun p a=>h p (List.mem_cons_of_mem _ a)⟩
theorem FreeKs.gf{ks K:List Nat}{gf:Fr}(h:∀k,O1 ks k=true->O1 K k=true):FreeKs ks (C8 K gf):=fun k a=>BE (pF (h k a))
theorem FreeKs.eq:∀{a:List Nat} {fr:Fr},FreeKs a fr->C8 a fr=fr
 | [],_,_=>rfl
 | k::a,fr,h=>by
  show C8 a (Fr.forget k fr)=fr;rw[T4 (h k (OE.2 (List.mem_cons_self ..)))];exact FreeKs.eq fun j b=>h j (OE.2 (List.mem_cons_of_mem _ (OE.1 b)))
theorem yT(k:Nat):∀(K:List Nat) (fr:Fr),O1 K k=true->C8 K (Fr.forget k fr)=C8 K fr:=fun K fr h=>by rw[jK,cP h]
theorem pG:∀{ks K:List Nat} {fr:Fr},(∀k,O1 ks k=true->O1 K k=true)->C8 K (C8 ks fr)=C8 K fr
 | [],_,_,_=>rfl
 | k::ks,K,fr,h=>by
  show C8 K (C8 ks (Fr.forget k fr))=_;rw[pG (ks:=ks) fun j a=>h j (OE.2 (List.mem_cons_of_mem _ (OE.1 a)))];exact yT k K fr (h k (OE.2 (List.mem_cons_self ..)))
theorem Met.more{f:FuncId}{b:List S1}{gf:Fr}{l K:List Nat}{c:List S1->Obs->Prop}(h:Met P f b gf ob l c)(y:∀k,O1 l k=true->O1 K k=true):Met P f b gf ob K c :=
 ⟨h.1,fun x S G a w d hs ha=>(h.2 x S G a w d hs ha).mono fun e w' ⟨v,z,ob',G',p,q,r,g⟩=>by
  refine⟨v,z,ob',G',p,q,r,{ g with facts:=fun i s j=>?_ }⟩;rw[<-pG y]at j;obtain⟨A,t,u⟩:=jL j
  exact u _ _ _ (g.facts i A t)⟩
theorem Met.conv{f:FuncId}{g:List S1}{gf:Fr}{t:List Nat}{j d:List S1->Obs->Prop}(h:Met P f g gf ob t j)(D:∀rs ob',j rs ob'->∃c,d rs c/\∀k o,B4 c k=some o->B4 ob' k=some o):Met P f g gf ob t d :=
 ⟨h.1,fun C S G a w p hs ha=>(h.2 C S G a w p hs ha).mono fun e w' ⟨v,rs,ob',G',x,y,A,B⟩=>by
  obtain⟨c,E,u⟩:=D rs ob' y;refine⟨v,rs,c,G',x,E,SV.rep_mono (fun b i z s=>⟨s.1,fun q=>s.2 ?_⟩) A,B.weakenO u⟩;rcases q with q | ⟨k,o,hk,ho⟩
  ·exact .inl q
  ·exact .inr ⟨k,o,u k o hk,ho⟩⟩
theorem ResRep.sAll{b:Rd}{G:Gh}{a:List PV}{v:Value}(h:ResRep b a v):aP b G (a.map PV.s1) v:=by
 match a,h with
 | [p],h=>exact PV.rep_s1 h
 | [],⟨us,h1,h2⟩=>exact⟨us,h1,h2.map PV.s1 fun _ _=>PV.rep_s1⟩
 | _::_::_,⟨us,h1,h2⟩=>exact⟨us,h1,h2.map PV.s1 fun _ _=>PV.rep_s1⟩
theorem RetOk.sAll{fn:Func}{ps:List PV}(h:RetOk P fn fr ob ps):RetS P fn fr ob (ps.map PV.s1):=fun S G a w hs=>let ⟨v,b,c⟩:=h S G a w hs;⟨v,b,c.sAll⟩
def To(_n:Nat)(G' G:Prop):Prop:=G'->G
theorem to_stop{G:Prop}:To 0 G G:=fun x=>x
theorem to_step{n:Nat}{G G1 G':Prop}(h:G1->G)(k:To n G' G1):To (n+1) G' G:=fun x=>h (k x)
theorem to_free{n:Nat}{G G1 G':Prop}(h:G1->G)(k:To n G' G1):To n G' G:=fun x=>h (k x)
attribute [irreducible] To
theorem tt{n:Nat}{G G':Prop}(h:To n G' G:=by (repeat (first | (apply to_free;first | with_reducible exact k1 | with_reducible exact k4 | with_reducible exact cO | with_reducible exact sK | with_reducible exact k7 | ((with_reducible refine k8 ?_);rfl) | ((with_reducible refine k9 ?_);rfl)) | exact to_stop | (apply to_step;first | exact c9 rfl rfl rfl (by rw[hs'];decide) rfl | exact c9 rfl rfl rfl (by decide) rfl | exact k2 | exact A7 (B3 rfl rfl) rfl | exact B7 | exact E4 | exact A7 (C1 rfl rfl) rfl | exact k5 | exact yR | exact A7 (C9 rfl rfl) rfl | exact k3 | exact A7 (y8 rfl rfl (by omega)) rfl | exact A7 (B5 rfl) rfl | exact A7 (C2 rfl rfl rfl) rfl | exact D7 (B3 rfl rfl) rfl rfl | exact C3 rfl rfl rfl rfl (fun c=>by rw[c];exact B3 rfl rfl) | exact A7 (iD rfl rfl) rfl | exact O2 (H0 TySz.out rfl rfl rfl rfl rfl rfl) | exact A7 (y9 rfl (.pure _ _ _ _)) rfl | exact A7 (H9 rfl (fun h=>by first | rfl | (rw[h];rfl)) (fun h=>by first | rfl | (rw[h];rfl))) rfl | exact k6 | exact A7 (S7 rfl) rfl | exact D7 (C2 rfl rfl rfl) rfl rfl | exact D7 (B5 rfl) rfl rfl | exact A7 (E8 rfl) rfl | exact A7 (Y9 rfl) rfl | exact A7 (rW rfl rfl) rfl | exact A7 (L3 rfl rfl) rfl | exact d_nil | exact A7 (I0 rfl rfl rfl) rfl | exact oW (by kernel_rfl) (by kernel_rfl) | exact A7 (cM rfl) rfl | exact D7 (E8 rfl) rfl rfl | exact A7 (aH rfl rfl) rfl | exact A7 (iE rfl rfl) rfl | exact A7 (lI rfl rfl (by omega)) rfl | exact D7 (C1 rfl rfl) rfl rfl | exact C3 rfl rfl rfl rfl (fun c=>by rw[c];exact C2 rfl rfl rfl) | exact C3 rfl rfl rfl rfl (fun c=>by rw[c];exact B5 rfl) | exact J5 rfl rfl (fun c=>by rw[c];exact B3 rfl rfl) rfl rfl | exact C3 rfl rfl rfl rfl (fun c=>by rw[c];exact cM rfl) | exact C3 rfl rfl rfl rfl (fun c=>by rw[c];exact wS rfl rfl) | exact A7 (V1 rfl rfl (by (simp;omega))) rfl | exact C3 rfl rfl rfl rfl (fun c=>by rw[c];exact rW rfl rfl) | exact A7 (wS rfl rfl) rfl | exact D7 (L3 rfl rfl) rfl rfl | exact D7 (V1 rfl rfl (by (simp only[C32,C34,C43];omega))) rfl rfl | exact B8 (R1 rfl rfl rfl (.pure _ _ _ _) (by (simp only[C34,C43];omega)) rfl) rfl | exact J5 rfl rfl (fun c=>by rw[c];exact C2 rfl rfl rfl) rfl rfl | exact C3 rfl rfl rfl rfl (fun c=>by rw[c];exact S7 rfl) | exact J5 rfl rfl (fun c=>by rw[c];exact B5 rfl) rfl rfl | exact D7 (H9 rfl (fun h=>by first | rfl | (rw[h];rfl)) (fun h=>by first | rfl | (rw[h];rfl))) rfl rfl | exact A7 (KA rfl rfl rfl (fun _=>rfl)) rfl | exact A7 (YE rfl rfl) rfl | exact A7 (dZ rfl) rfl | exact A7 (GM rfl) rfl | exact C3 rfl rfl rfl rfl (fun c=>by rw[c];exact iE rfl rfl) | exact A7 (zF rfl rfl) rfl | exact D7 (y8 rfl rfl (by omega)) rfl rfl | exact A7 (KH rfl rfl) rfl | exact A7 (n_shr rfl rfl (by omega)) rfl | exact C3 rfl rfl rfl rfl (fun c=>by rw[c];exact n_leq rfl rfl) | exact J5 rfl rfl (fun c=>by rw[c];exact E8 rfl) rfl rfl | exact D7 (iD rfl rfl) rfl rfl | exact A7 (YC rfl rfl (by omega)) rfl | exact A7 (YF rfl rfl (by omega) (by omega)) rfl | exact C3 rfl rfl rfl rfl (fun c=>by rw[c];exact YE rfl rfl) | exact C3 rfl rfl rfl rfl (fun c=>by rw[c];exact y9 rfl (.pure _ _ _ _)) | exact D7 (y9 rfl (.pure _ _ _ _)) rfl rfl | exact D7 (lI rfl rfl (by omega)) rfl rfl | exact A7 (y9 rfl (.buf _ _ _ _ _)) rfl | exact J5 rfl rfl (fun c=>by rw[c];exact L3 rfl rfl) rfl rfl | exact A7 (UC rfl rfl) rfl | exact D7 (iE rfl rfl) rfl rfl | exact C3 rfl rfl rfl rfl (fun c=>by rw[c];exact H9 rfl (fun h=>by first | rfl | (rw[h];rfl)) (fun h=>by first | rfl | (rw[h];rfl))) | exact P7 rfl rfl rfl (.gd (.val _)) rfl (fun c=>by obtain⟨i,j⟩:=W8 c;(try rw[i]);(try rw[j]);exact B3 rfl rfl) | exact C3 rfl rfl rfl rfl (fun c=>by rw[c];exact iD rfl rfl) | exact A7 (n_leq rfl rfl) rfl | exact A7 (n_min rfl rfl) rfl | exact A7 (KD rfl rfl (by omega) (by omega)) rfl | exact A7 (rV rfl rfl (by omega)) rfl | exact D7 (NT rfl rfl rfl (by omega) (by omega) (by omega)) rfl rfl | exact D7 (cM rfl) rfl rfl | exact C3 rfl rfl rfl rfl (fun c=>by rw[c];exact zF rfl rfl) | exact A7 (Y7 rfl) rfl | exact D7 (eT rfl (rfl) rfl) rfl rfl | exact C3 rfl rfl rfl rfl (fun c=>by rw[c];exact E8 rfl) | exact A7 (E0 rfl rfl rfl (by omega) (by (simp;omega))) rfl | exact O2 (I1 TySz.out rfl rfl (by simp;omega) rfl rfl) | exact NX (H0 TySz.out rfl rfl rfl rfl rfl rfl) rfl | exact A7 (OM rfl rfl) rfl | exact D7 (OM rfl rfl) rfl rfl | exact D7 (AX rfl rfl rfl (by omega) (by omega)) rfl rfl | exact A7 (S6 rfl) rfl | exact D7 (dZ rfl) rfl rfl)))):To n G' G:=h
theorem zc(n:Nat){P:Program}{nt:Nat}{fr:Fr}{ob:Obs}{Q:Post}{t:Tmp}{x y:Code}{b:Bool}{G:Prop}(a:b=true->WpC P nt x fr ob Q)(f:b=false->WpC P nt y fr ob Q)(h:To n (WpC P nt (.cond (.tmp t) x y) fr ob Q) G:=by exact tt)(g:cW fr t=some (.s (.one (.p (.v (.bool b))))):=by rfl):G:=by unfold To at h;exact h (c_cond g a f)
theorem zz(n:Nat){G G':Prop}(k:G')(h:To n G' G:=by exact tt):G:=by unfold To at h;exact h k
theorem lf{fr fr':Fr}(h:FrLe fr fr':=by (repeat (first | exact trivial | refine⟨jH rfl,?_⟩ | refine⟨leL rfl,?_⟩))):FrLe fr fr':=h
theorem lo{ob ob':Obs}(h:ObIn ob ob':=by (repeat (first | exact trivial | refine⟨rfl,?_⟩))):ObIn ob ob':=h
theorem FH{P:Program}{nt:Nat}{ops:Array Oper}{rest:List Oper}{fr:Fr}{ob:Obs}{Q:Post}{d:Nat}{ty:TypeId}{pos:String}{af:Array Edge}{f:FuncId}{b:Array Operand}{g:Array TypeId}{ps rs:List PV}(j:FnOk P f ps (fun r=>r=rs))(ha:eP fr b.toList=some ps)(h:b.toList.all H3=true)(i:Nat.blt d nt=true)(k:WpL P nt ops rest ((d,oV rs)::fr) ob Q):WpL P nt ops (⟨some d,.call ⟨.value (.func f),b,g⟩,ty,pos,af,none⟩::rest) fr ob Q:=x7 j ha h i (by rintro _ rfl;exact k)
theorem D3{P:Program}{nt:Nat}{ops:Array Oper}{rest:List Oper}{fr:Fr}{ob:Obs}{Q:Post}{d:Nat}{ty:TypeId}{pos:String}{af:Array Edge}{f:FuncId}{b:Array Operand}{g:Array TypeId}{ps rs:List PV}(j:FnOk P f ps (fun r=>r=rs))(k:WpL P nt ops rest ((d,oV rs)::fr) ob Q)(ha:eP fr b.toList=some ps:=by rfl)(h:b.toList.all H3=true:=by rfl)(i:Nat.blt d nt=true:=by rfl):WpL P nt ops (⟨some d,.call ⟨.value (.func f),b,g⟩,ty,pos,af,none⟩::rest) fr ob Q:=x7 j ha h i (by rintro _ rfl;exact k)
end Go.AL
