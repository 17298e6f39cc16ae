/- The abstract logic, its third part. No project text. -/
import Derived.Test.YtabbdaafimcjhaaGreatDoorAm
import Derived.Laws.StructEq
import Derived.Laws.Cover3
import Derived.MapKept
import Derived.Lib.AppendZeros
set_option linter.all false
attribute [local semireducible] Go.AL.Neu Go.AL.Eff Go.AL.EffV Go.AL.WpL Go.AL.WpC Go.AL.FnOk Go.AL.LexD Go.AL.Sees Go.AL.RetOk Go.AL.FnIo Go.AL.Met Go.AL.RetS
namespace Go.AL
open Go Go.RowKit
set_option linter.unusedVariables false
variable {P:Program}{nt:Nat}{ops:Array Oper}
def Told(U:Fr)(φ:Fa):Prop:=∀t s,D5 U t=some s->φ t=some s
def AnyC(P:Program)(nt:Nat)(ops:Array Oper)(T:Nat)(U:Fr)(ob ob':Obs)(E:Array Bool->Fa->Prop):Nat->Array Bool->Fa->Prop
 | 0,listed,φ=>(T∈Region.ready .any ops listed->Told U φ)/\T∈Region.ready .any ops listed/\(∀j∈Region.ready .any ops listed,j=T)/\E listed φ
 | fuel+1,listed,φ=>(T∈Region.ready .any ops listed->Told U φ)/\(∃p,p<T/\p∈Region.ready .any ops listed)/\∀i∈Region.ready .any ops listed,i≠T ->
   ∃o s d,ops[i]?=some o/\o.dst=some d/\turns o.op=false/\YieldsN P nt ops o φ ob s/\YieldsN P nt ops o φ ob' s/\AnyC P nt ops T U ob ob' E fuel (listed.setIfInBounds i true) (cH φ d s)
theorem AnyC.told{T:Nat}{U:Fr}{ob ob':Obs}{E:Array Bool->Fa->Prop}{c:Nat}{b:Array Bool}{φ:Fa}(h:AnyC P nt ops T U ob ob' E c b φ):T∈Region.ready .any ops b->Told U φ:=by
 cases c<;>exact h.1
theorem O2{fr:Fr}{ob:Obs}{dst:Option Tmp}{ty:TypeId}{pos:String}{af:Array Edge}{gd:Option (Nat×Bool)}{c x y:Operand}{b p:Bool}(d:opv fr c=some (L6 b))(hb:b=true)(e:opv fr x=some (L6 p)) :
  Neu P ⟨dst,.pick c x y,ty,pos,af,gd⟩ fr ob (fun f=>f=L6 p) :=
 E6 fun S G a w h=>by
  have:=F7 h d;subst hb;exact⟨.bool p,by simp[execOp,this,asBool,F7 h e],rfl,rfl⟩
theorem Y2{fr:Fr}{ob:Obs}{dst:Option Tmp}{ty:TypeId}{pos:String}{af:Array Edge}{gd:Option (Nat×Bool)}{c x y:Operand}{b p:Bool}(d:opv fr c=some (L6 b))(hb:b=false)(e:opv fr y=some (L6 p)) :
  Neu P ⟨dst,.pick c x y,ty,pos,af,gd⟩ fr ob (fun f=>f=L6 p) :=
 E6 fun S G a w h=>by
  have:=F7 h d;subst hb;exact⟨.bool p,by simp[execOp,this,asBool,F7 h e],rfl,rfl⟩
inductive CK | int (k:IntKind) | str | bool
def ckOf(P:Program)(t:TypeId):Option CK :=
 match P.underlying t with
 | some (.int k)=>some (.int k)
 | some .string=>some .str
 | some .bool=>some .bool
 | _=>none
def cmpFs(P:Program):Nat->List Field->List CK->Bool
 | _,[],[]=>true
 | i,f::fs,k::ks=>f.name != "_"&&(f.offset == i&&((match ckOf P f.type,k with | some (.int k),.int k'=>decide (k=k') | some .str,.str=>true | some .bool,.bool=>true | _,_=>false)&&cmpFs P (i+1) fs ks))
 | _,_,_=>false
class TyCmp (P:Program) (t:TypeId) (ks:outParam (List CK)):Prop where
 out:P.underlying t=some (.struct (P.fieldsOf t))/\(cmpFs P 0 (P.fieldsOf t).toList ks&&(!P.stoodInHeld t&&!P.eqGuardType P.depth t))=true
theorem jB{a:Array Bool}{e j:Nat}(h:e≠j):(a.setIfInBounds e true).getD j false=a.getD j false:=by
 simp only[C54,Array.getElem?_setIfInBounds_ne h]
def eM:Op->List Nat
 | .store _ x y=>PD x++PD y
 | .box _ x=>PD x
 | .makeSlice _ x y=>PD x++PD y
 | op=>sW op
def svAt(sv:List SV)(i:Nat):SV:=sv.getD i .any
def A00:List Oper->List SV->Fr->Fr
 | o::l,s::sv,fr=>match o.dst with
  | some d=>(d,s)::A00 l sv fr
  | none=>A00 l sv fr
 | _,_,fr=>fr
abbrev Xe:=List (Nat×Bool×(Nat×Ob))
def xAt:Xe->Nat->Option (Bool×(Nat×Ob))
 | [],_=>none
 | (i,x)::r,e=>cond (Nat.beq i e) (some x) (xAt r e)
def obD(a:Xe)(ob:Obs):List Nat->Obs
 | []=>ob
 | e::D=>match xAt a e with
  | some x=>x.2::obD a ob D
  | none=>obD a ob D
def kY(e:Nat):List Nat->List Nat
 | []=>[e]
 | d::D=>cond (Nat.blt d e) (e::d::D) (d::kY e D)
def F0(l:List Nat)(e:Nat):Bool:=l.any (Nat.beq e)
theorem aP{l:List Nat}{e:Nat}:F0 l e=true↔e∈l:=by
 unfold F0;rw[List.any_eq_true];exact⟨fun ⟨x,h,a⟩=>by rw[C72 a];exact h,fun h=>⟨e,h,Nat.beq_refl e⟩⟩
def PR(ops:Array Oper)(E:List Nat)(i:Nat)(D:List Nat):Bool:=!(F0 D i)&&((E.all fun j=>!(Bef ops i j)||F0 D j)&&D.all fun j=>!(Bef ops j i))
def kZ:List Nat->List Nat->Bool
 | [],[]=>true
 | a::l,b::m=>Nat.beq a b&&kZ l m
 | _,_=>false
theorem uT:∀{l m:List Nat},kZ l m=true->l=m
 | [],[],_=>rfl
 | [],_::_,h=>by simp[kZ]at h
 | _::_,[],h=>by simp[kZ]at h
 | a::l,b::m,h=>by
  simp only[kZ,C39]at h;rw[C72 h.1,uT h.2]
def memM(M:List (List Nat))(D:List Nat):Bool:=M.any (kZ D)
theorem PS{M:List (List Nat)}{D:List Nat}(h:memM M D=true):D∈M:=by
 obtain⟨x,a,b⟩:=List.any_eq_true.1 h;rw[uT b];exact a
def desc:List Nat->Bool
 | []=>true
 | a::l=>l.all (fun b=>Nat.blt b a)&&desc l
def oE:List Oper->List Nat
 | []=>[]
 | o::l=>match o.dst with
  | some d=>d::oE l
  | none=>oE l
def tA:List Nat->Bool
 | []=>true
 | a::l=>!(F0 l a)&&tA l
def EffQ(P:Program)(nt:Nat)(ops:Array Oper)(o:Oper)(U:Fr)(new:Bool)(ob:Obs)(x:Nat×Ob)(s:SV):Prop :=
 ∀φ,Told U φ->(new=true->ZZ x.1 φ)->BY P nt ops o φ ob (fun b a=>b=(match o.dst with | some d=>cH φ d s | none=>φ)/\a=x::ob)
def Ob1(P:Program)(nt:Nat)(l:List Oper)(sv:List SV)(a:Xe)(fr:Fr)(ob:Obs)(i:Nat)(D:List Nat):Prop :=
 ∃o,l[i]?=some o/\((turns o.op=false/\Neu P o (o8 (A00 l sv fr) (eM o.op)) (obD a ob D) (fun s=>s=svAt sv i)) \/
  ∃new x,xAt a i=some (new,x)/\EffQ P nt l.toArray o (o8 (A00 l sv fr) (eM o.op)) new (obD a ob D) x (svAt sv i))
def Ob1s(P:Program)(nt:Nat)(l:List Oper)(sv:List SV)(a:Xe)(fr:Fr)(ob:Obs):List (Nat×List Nat)->Prop
 | []=>True
 | (i,D)::r=>Ob1 P nt l sv a fr ob i D/\Ob1s P nt l sv a fr ob r
theorem Ob1s.get{l:List Oper}{sv:List SV}{a:Xe}{fr:Fr}{ob:Obs}:∀{r:List (Nat×List Nat)},Ob1s P nt l sv a fr ob r->∀p∈r,Ob1 P nt l sv a fr ob p.1 p.2
 | [],_,p,hp=>by simp at hp
 | (i,D)::r,h,p,hp=>by
  rcases C50.1 hp with rfl | hp
  ·exact h.1
  ·exact Ob1s.get h.2 p hp
theorem CF{e:Nat}{c:Array Bool}(p:e<c.size)(u:c.getD e false=false):∀{E:List Nat},desc E=true->e∈E->E.filter (fun j=>(c.setIfInBounds e true).getD j false)=kY e (E.filter fun j=>c.getD j false)
 | [],_,he=>by simp at he
 | d::E,hd,he=>by
  simp only[desc,C39]at hd;have k:∀b∈E,b<d:=fun b hb=>by simpa using C47.1 hd.1 b hb
  have m:(c.setIfInBounds e true).getD e false=true:=by simp[p]
  have h:∀j,j≠e->(c.setIfInBounds e true).getD j false=c.getD j false:=fun j z=>jB (Ne.symm z);by_cases i:d=e
  ·subst i;rw[List.filter_cons_of_pos (by exact m),List.filter_cons_of_neg (by rw[u];simp)];have:E.filter (fun j=>(c.setIfInBounds d true).getD j false)=E.filter fun j=>c.getD j false:=by
    apply List.filter_congr;intro j z;exact h j (by have:=k j z;omega)
   rw[this];cases B:E.filter fun j=>c.getD j false with
   | nil=>rfl
   | cons a r =>
    have ha:a∈E:=(List.mem_filter.1 (by rw[B];exact C56 ..)).1;have x:Nat.blt a d=true:=by simpa using k a ha
    unfold kY;rw[x];rfl
  ·have n:e∈E:=(C50.1 he).resolve_left (fun q=>i q.symm);have A:=CF p u hd.2 n;have y:Nat.blt d e=false:=by
    have:=k e n;cases hb:Nat.blt d e
    ·rfl
    ·rw[Nat.blt_eq]at hb;omega
   by_cases w:c.getD d false=true
   ·rw[List.filter_cons_of_pos (by rw[h d i];exact w),List.filter_cons_of_pos (by exact w),A];show _=kY e (d::_)
    conv=>rhs;unfold kY
    rw[y];rfl
   ·rw[List.filter_cons_of_neg (by rw[h d i];exact w),List.filter_cons_of_neg (by exact w),A]
theorem uU:∀{l:List Oper} {j:Nat} {o:Oper} {d:Nat},l[j]?=some o->o.dst=some d->d∈oE l
 | [],j,o,d,h,_=>by simp at h
 | o'::l,0,o,d,h,hd=>by
  simp at h;subst h;unfold oE;rw[hd];exact C56 ..
 | o'::l,j+1,o,d,h,hd=>by
  have:=uU (l:=l) (j:=j) (by simpa using h) hd;unfold oE;split
  ·exact C55 _ this
  ·exact this
theorem CG:∀{l:List Oper} {i j:Nat} {o a:Oper} {d:Nat},tA (oE l)=true->l[i]?=some o->l[j]?=some a->o.dst=some d->a.dst=some d->i=j
 | [],i,j,o,a,d,_,h,_,_,_=>by simp at h
 | q::l,0,0,_,_,_,_,_,_,_,_=>rfl
 | q::l,0,j+1,o,a,d,hn,h1,h2,h3,h4=>by
  simp at h1;subst h1;have b:=uU (l:=l) (j:=j) (by simpa using h2) h4;unfold oE at hn;rw[h3]at hn;simp only[tA,C39,C80]at hn;rw[aP.2 b]at hn;exact absurd hn.1 (by simp)
 | q::l,i+1,0,o,a,d,hn,h1,h2,h3,h4=>by
  simp at h2;subst h2;have b:=uU (l:=l) (j:=i) (by simpa using h1) h3;unfold oE at hn;rw[h4]at hn;simp only[tA,C39,C80]at hn;rw[aP.2 b]at hn;exact absurd hn.1 (by simp)
 | q::l,i+1,j+1,o,a,d,hn,h1,h2,h3,h4=>by
  have:tA (oE l)=true:=by
   unfold oE at hn;split at hn
   ·simp only[tA,C39]at hn;exact hn.2
   ·exact hn
  exact congrArg (·+1) (CG this (by simpa using h1) (by simpa using h2) h3 h4)
structure InvC (l:List Oper) (sv:List SV) (fr:Fr) (listed:Array Bool) (φ:Fa):Prop where
 put:∀j o d,l[j]?=some o->listed.getD j false=true->o.dst=some d->φ d=some (svAt sv j)
 from':∀t s,φ t=some s->(∃j o,l[j]?=some o/\listed.getD j false=true/\o.dst=some t/\s=svAt sv j)\/D5 fr t=some s
 old:∀t s,D5 fr t=some s->t∉oE l->φ t=some s
def unl(a:Array Bool)(n:Nat):Nat:=(List.range n).countP fun i=>!(a.getD i false)
theorem A01{a:Array Bool}{i:Nat}(k:i<a.size)(l:a.getD i false=false):∀{n:Nat},i<n->unl (a.setIfInBounds i true) n+1=unl a n
 | 0,h=>by omega
 | n+1,h=>by
  unfold unl;rw[D15,List.countP_append,List.countP_append];have f:∀j,j≠i->(a.setIfInBounds i true).getD j false=a.getD j false:=fun j d=>jB (Ne.symm d);by_cases c:i<n
  ·have o:=A01 k l c;unfold unl at o;have e:List.countP (fun b=>!(a.setIfInBounds i true).getD b false) [n]=List.countP (fun i=>!a.getD i false) [n]:=by
    simp only[List.countP_cons,List.countP_nil,f n (by omega)]
   rw[e];omega
  ·obtain rfl:i=n:=by omega
   have e:List.countP (fun b=>!(a.setIfInBounds i true).getD b false) (List.range i)=List.countP (fun i=>!a.getD i false) (List.range i):=by
    apply List.countP_congr;intro j d;rw[f j (by have:=C62.1 d;omega)]
   rw[e];have m:(a.setIfInBounds i true).getD i false=true:=by simp[k]
   simp only[List.countP_cons,List.countP_nil,m,l];simp
section
variable {P:Program}{dst:Option Tmp}{ty:TypeId}{pos:String}{af:Array Edge}{gd:Option (Nat×Bool)}{fr:Fr}{ob:Obs}
def oP(fr:Fr):List Operand->Option (List (Nat×Nat))
 | []=>some []
 | x::r=>match opv fr x with
  | some (.s (.one (.ref k o)))=>(oP fr r).map ((k,o)::·)
  | _=>none
theorem tB{S:Ctx}{G:Gh}{a:Act}{w:World}(h:Sim P S fr ob G a w):∀(c:List Operand) (ps:List (Nat×Nat)),oP fr c=some ps->All2 (fP G) ps (c.map a.eval)
 | [],ps,h1=>by simp[oP]at h1;subst h1;trivial
 | x::r,ps,h1=>by
  unfold oP at h1;split at h1
  ·rename_i k o d;cases b:oP fr r with
   | none=>rw[b]at h1;simp at h1
   | some qs =>
    rw[b]at h1;simp at h1;subst h1;exact⟨H8 h d,tB h r qs b⟩
  ·cases h1
theorem CH{f:FuncId}{first cap:List Operand}{nf nc:List (Nat×Nat)}(b:oP fr first=some nf)(d:oP fr cap=some nc) :
  Neu P ⟨dst,.makeFunc (.func f) first.toArray cap.toArray,ty,pos,af,gd⟩ fr ob (fun g=>g=.s (.one (.clo f nf nc))) :=
 E6 fun S G a w h=>by
  refine⟨.func (.func f) (first.map a.eval).toArray (cap.map a.eval).toArray,?_,_,_,rfl,tB h first nf b,tB h cap nc d⟩;simp[execOp,Instr.makeFunc]
abbrev CI(p:Nat×Nat):S1:=.one (.ref p.1 p.2)
theorem oQ{b:Rd}{G:Gh}:∀{l:List (Nat×Nat)} {a:List Value},All2 (fP G) l a->All2 (S1.rep b G) (l.map CI) a
 | [],[],_=>trivial
 | [],_::_,h=>h.elim
 | _::_,[],h=>h.elim
 | _::l,_::a,h=>⟨h.1,oQ h.2⟩
section
variable {nt:Nat}{ops:Array Oper}{rest:List Oper}{Q:Post}{d:Nat}
theorem tC{f:FuncId}{g:Operand}{q:List Operand}{J:Array TypeId}{ty:TypeId}{pos:String}{af:Array Edge}{Z Y:List (Nat×Nat)}{args:List S1}{N:List Nat}{m:List S1->Obs->Prop}
  (hf:Met P f (Z.map CI++args++Y.map CI) (eJ fr) ob N m)(hg:opv fr g=some (.s (.one (.clo f Z Y))))(ha:aB fr q=some args)(hc:q.all H2=true)(hd:Nat.blt d nt=true)
  (kk:∀rs ob',m rs ob'->WpL P nt ops rest ((d,mI rs)::B4 N fr) ob' Q):WpL P nt ops (⟨some d,.call ⟨.value g,q.toArray,J⟩,ty,pos,af,none⟩::rest) fr ob Q:=by
 intro S G a w hn h;obtain⟨O,R,U,W,X⟩:=H8 h hg;have H:All2 (S1.rep (E5 (Mut S ob G) w) G) (Z.map CI++args++Y.map CI) (O++q.map a.eval++R):=((oQ W).append (p8 h q args ha hc)).append (oQ X);obtain⟨I,C⟩:∃I:Nat->Value,I=fun i=>S.sl a (i-1000000):=⟨_,rfl⟩
 let S':Ctx:={ S with gv:=I }
 have E:High (eJ fr):=fun i s L=>(Y1 fr i s L).1;have b:∀i s,D5 (eJ fr) i=some s->s.rep (E5 (Mut S' ob G) w) G (S'.sl a i):=by
  intro i s L;obtain⟨D,T⟩:=Y1 fr i s L;rw[Ctx.sl_ge D];show s.rep _ _ (I i);have e:=congrFun C i;rw[e];exact h.facts (i-1000000) s T
 have hs:Sim P S' (eJ fr) ob G a w:={ h with facts:=b }
 have x:=hf.2 E S' G a w _ hs H;refine wpList_plain rfl fun K hK=>N4 (K:=fun v w'=>∃rs ob' G',m rs ob'/\dT (E5 (Mut S' ob' G') w') G' rs v/\Sim P S' (B4 N (eJ fr)) ob' G' a w') ?_ ?_
 ·have he:(execOp a.eval ⟨some d,.call ⟨.value g,q.toArray,J⟩,ty,pos,af,none⟩).run P w=.ok (.enter f (O++q.map a.eval++R).toArray) w:=by
   have:=M2 (P:=P) (f:=f) (args:=(O++q.map a.eval++R).toArray) (w:=w) hf.1;simp only[execOp,resolve,U,Deferred.ofValue,Sem.run_bind,Sem.run_pure,Result.andThen_ok,invoke];rw[show O.toArray++Array.map a.eval q.toArray++R.toArray=(O++q.map a.eval++R).toArray by simp];exact this
  unfold Does;rw[he];refine x.mono ?_;rintro e w' ⟨v,rs,ob',G',rfl,F,j,B⟩;exact⟨v,rfl,rs,ob',G',F,j,B⟩
 ·rintro v w' ⟨rs,ob',G',hp,j,B⟩;have V:d<S.nt:=by rw[hn];simpa using hd
  have z:∀i s,D5 (B4 N fr) i=some s->s.rep (E5 (Mut S ob' G') w') G' (S.sl a i):=by
   intro i s L;have D:=B.facts (i+1000000) s (by rw[m6];exact mH L);have T:1000000<=i+1000000:=Nat.le_add_left _ _;rw[Ctx.sl_ge T]at D;have D:s.rep (E5 (Mut S ob' G') w') G' (I (i+1000000)):=D;have e:=congrFun C (i+1000000);simp only[Nat.add_sub_cancel]at e;rw[e]at D;exact D
  have M:Sim P S (B4 N fr) ob' G' a w':={ B with facts:=z }
  exact hK _ _ (kk rs ob' hp S G' _ w' hn (M.put V j))
end
theorem oR{x F E:Operand}{t e:TypeId}{f g k:Nat}{α:Type}{c:α->Nat->Cell}{d:List α}{D C:IntKind}{i j:Int}[ht:TySl P t e g f](L:opv fr x=some (.s (.one (.mut k))))(J:B5 ob k=some (.arr α g c d))
  (z:opv fr F=some (I7 (.int D i)))(y:opv fr E=some (I7 (.int C j)))(H:0<=i)(I:i<=j)(N:j<=d.length) :
  Neu P ⟨dst,.slice t x (some F) (some E) none,ty,pos,af,gd⟩ fr ob (fun M=>M=.s (.one (.msl k g i.toNat (j.toNat-i.toNat)))) :=
 E6 fun S G a w h=>by
  obtain⟨B,_⟩:=H8 h L;obtain⟨b,Q,O,A,p,_⟩:=h.obs k _ J;rw[A]at B;refine⟨sliced (some ⟨b,0,none⟩) i.toNat j.toNat d.length g,?_,b,d.length,d.length,d.length-i.toNat,if d.length=i.toNat then 0 else i.toNat*g,A,by omega,?_,by omega,p,?_⟩
  ·simp only[execOp,B,F7 h z,F7 h y,Option.map_some,Option.map_none];refine M3 ?_;obtain⟨q,v⟩:=ht.elem;simp only[Instr.sliceAt,Sem.run_bind,run_underlying ht.out.1,Result.andThen_ok];rw[run_slice_lh w t (some ⟨b,0,none⟩) d.length d.length q D C i j H I (by omega),v,J1 ht.size];rfl
  ·unfold sliced;split<;>simp[*,Addr.add_lit]
  ·by_cases K:d.length=i.toNat
   ·left;omega
   ·right;rw[A7 K]
theorem Z8{x y:Operand}{t e:TypeId}{g c k o n:Nat}{F:IntKind}{i:Int}[ht:TySl P t e g c](D:opv fr x=some (.s (.one (.msl k g o n))))
  (E:opv fr y=some (I7 (.int F i)))(v:0<=i)(z:i<n):Neu P ⟨dst,.indexAddr t x y,ty,pos,af,gd⟩ fr ob (fun I=>I=.s (.one (.mref k g (o+i.toNat) 0))) :=
 E6 fun S G a w h=>by
  obtain⟨b,m,j,u,H,B,J,C,_,_,q⟩:=H8 h D;have q:H=o*g:=q.resolve_left (by omega);subst q;refine⟨.pointer (some ⟨b,(o+i.toNat)*g,none⟩),?_,b,m,j,B,rfl⟩;simp only[execOp,C,F7 h E];refine M3 ?_;have hb:0<=i/\i<(n:Int):=⟨v,z⟩
  simp[Instr.indexAt,run_underlying ht.out.1,asIntOf,hb,J1 ht.size,Addr.add_lit,C88]
def O5{κ:Type}[DecidableEq κ]:List (κ×Cell)->κ->Option Cell
 | [],_=>none
 | (k,c)::r,a=>if k=a then some c else O5 r a
class TyMap (P:Program) (t:TypeId) (kt:outParam TypeId) (kd:outParam TypeDesc) (z:outParam Value):Prop where
 out:∃et,P.underlying t=some (.map kt et)/\P.underlying kt=some kd/\(P.info? et).bind (·.zero)=some z/\z.oneCell'=true
theorem xL(k:Nat)(κ:Type)(i:κ->Value){t:TypeId}(g:(J2 k fr&&J9 k ob)=true) :
  EffV P ⟨dst,.makeMap t none,ty,pos,af,gd⟩ fr ob (.s (.one (.mut k))) fr ((k,.map κ i [])::ob):=by
 simp only[C39]at g;obtain⟨j,q⟩:=g;obtain⟨r,x,z⟩:=H4 q;intro S G a w h;refine J4 (w':=w.alloc (.map #[] 0)) (v:=.map (some w.heap.size)) ?_ ?_
 ·simp only[execOp,Option.map_none];exact M3 rfl
 ·have d:Below w.heap.size w (w.alloc (.map #[] 0)):=(Below.refl _ _).alloc (C45 _) _;have A:∀b,blk (.map (some w.heap.size))=some b->w.heap.size<=b:=by intro b hb;simp[blk]at hb;omega
  have f:=h.new (o:=.map κ i []) z x d A ⟨w.heap.size,#[],0,rfl,heap_alloc_new w _,trivial⟩;rw[i7 j,r]at f;exact⟨upd G k (.map (some w.heap.size)),f,(I8 _ _ _).symm,rfl⟩
theorem xM{κ:Type}[DecidableEq κ]{q:κ->Value}{w:TypeDesc}(d:∀a,MapKept.IsKey w (q a))(o:∀a b,q a=q b->a=b){B:Rd}(a:κ):∀(f:List (κ×Cell)) (t:List MapEntry) (i:Nat),
  All2 (fun (A:κ×Cell) (e:MapEntry)=>e.key=q A.1/\A.2.rep B e.val) f t ->
  (O5 f a=none/\Instr.findNow w (q a) t i=some none)\/∃c j v,O5 f a=some c/\Instr.findNow w (q a) t i=some (some (j,v))/\c.rep B v
 | [],[],_,_=>.inl ⟨rfl,rfl⟩
 | [],_::_,_,h=>h.elim
 | _::_,[],_,h=>h.elim
 | (k,c)::f,e::t,i,h=>by
  obtain⟨⟨C,D⟩,E⟩:=h;obtain⟨r,F,g⟩:=MapKept.sameNow_of_keys (d a) (d k);have p:Instr.sameNow w (q a) e.key=some r:=by rw[C];exact F
  by_cases u:k=a
  ·subst u;have:r=true:=g.2 rfl;subst this;exact .inr ⟨c,i,e.val,by simp[O5],by simp[Instr.findNow,p],D⟩
  ·have:r=false:=by
    cases r
    ·rfl
    ·exact absurd (o _ _ (g.1 rfl)).symm u
   subst this;rcases xM d o a f t (i+1) E with ⟨x,z⟩ | ⟨c',j,v,x,z,h6⟩
   ·exact .inl ⟨by simp[O5,u,x],by simp[Instr.findNow,p,z]⟩
   ·exact .inr ⟨c',j,v,by simp[O5,u,x],by simp[Instr.findNow,p,z],h6⟩
theorem oS{x y:Operand}{t O:TypeId}{H:TypeDesc}{z:Value}{k:Nat}{κ:Type}[DecidableEq κ]{i:κ->Value}{f:List (κ×Cell)}(a0:κ){r:Option Cell}[ht:TyMap P t O H z](N:opv fr x=some (.s (.one (.mut k))))(L:B5 ob k=some (.map κ i f))
  (F:opv fr y=some (I7 (i a0)))(d:∀a,MapKept.IsKey H (i a))(g:∀a b,i a=i b->a=b)(M:O5 f a0=r) :
  Neu P ⟨dst,.lookup t x y true,ty,pos,af,gd⟩ fr ob (fun Q=>Q=.tup [.one (.p (r.getD (.v z))),.one (.p (.v (.bool r.isSome)))]) :=
 E6 fun S G a w h=>by
  obtain⟨U,I,q,R,T⟩:=ht.out;obtain⟨D,_⟩:=H8 h N;obtain⟨b,J,A,K,E,ha⟩:=h.obs k _ L;rw[K]at D;subst M;rcases xM d g a0 f J.toList 0 ha with ⟨B,C⟩ | ⟨c,j,v,B,C,h6⟩
  ·refine⟨.tuple #[z,.bool false],?_,[z,.bool false],rfl,?_⟩
   ·simp only[execOp,D,F7 h F];refine M3 ?_;simp only[Instr.lookup,Sem.run_bind,run_underlying I,Result.andThen_ok,MapKept.run_getObj_map E,Sem.run_pure,MapKept.run_checkKey q (d a0),MapKept.run_findKey q C,T5 R];rfl
   ·rw[B];exact⟨⟨rfl,T⟩,⟨rfl,rfl⟩,trivial⟩
  ·refine⟨.tuple #[v,.bool true],?_,[v,.bool true],rfl,?_⟩
   ·simp only[execOp,D,F7 h F];refine M3 ?_;simp only[Instr.lookup,Sem.run_bind,run_underlying I,Result.andThen_ok,MapKept.run_getObj_map E,Sem.run_pure,MapKept.run_checkKey q (d a0),MapKept.run_findKey q C];rfl
   ·rw[B];exact⟨h6,⟨rfl,rfl⟩,trivial⟩
theorem PT{x y v:Operand}{t kt:TypeId}{K:TypeDesc}{z:Value}{k:Nat}{κ:Type}[DecidableEq κ]{g:κ->Value}{l:List (κ×Cell)}(a0:κ){c:Cell}[ht:TyMap P t kt K z](Z:opv fr x=some (.s (.one (.mut k))))(L:B5 ob k=some (.map κ g l))
  (hy:opv fr y=some (I7 (g a0)))(Y:opv fr v=some (.s (.one (.p c))))(T:H2 v=true)(q:∀a,MapKept.IsKey K (g a))(B:∀a b,g a=g b->a=b)(X:O5 l a0=none) :
  Eff P ⟨none,.mapUpdate t x y v,ty,pos,af,gd⟩ fr ob fr ((k,.map κ g (l++[(a0,c)]))::ob):=by
 intro S G a w h;obtain⟨et,u1,N,u3,u4⟩:=ht.out;obtain⟨M,_⟩:=H8 h Z;obtain⟨b,D,f,F,H,ha⟩:=h.obs k _ L;rw[F]at M;have J:c.rep (E5 (Mut S ob G) w) (a.eval v):=Y7 h Y T;obtain⟨E,R⟩:=MapKept.heap_set (o':=.map (D.push { key:=g a0,val:=a.eval v,born:=f }) (f+1)) H;have W:Instr.findNow K (g a0) D.toList 0=some none:=by
  rcases xM q B a0 l D.toList 0 ha with ⟨_,E⟩ | ⟨c,j,v,h4,_,_⟩
  ·exact E
  ·rw[X]at h4;cases h4
 have V:(execOp a.eval ⟨none,.mapUpdate t x y v,ty,pos,af,gd⟩).run P w=.ok .skip { w with heap:=w.heap.setIfInBounds b (.map (D.push { key:=g a0,val:=a.eval v,born:=f }) (f+1)) }:=by
  simp only[execOp,M,F7 h hy];simp only[Instr.mapUpdate,Sem.run_bind,run_underlying u1,Result.andThen_ok,MapKept.run_getObj_map H,MapKept.run_checkKey N (q a0),MapKept.run_findKey N W,MapKept.run_setObj_map _ H];rfl
 unfold Does;rw[V];have A:blk (G k)=some b:=by rw[F];rfl
 refine⟨G,h.write L A (fun i=>⟨A,trivial⟩) (fun i=>⟨A,trivial⟩) rfl rfl rfl (by simp) (fun j _ I=>R j I) ?_⟩;intro rd C;refine⟨b,_,_,F,E,?_⟩;rw[Array.toList_push];exact (ha.mono fun _ _ ⟨O,Q⟩=>⟨O,Cell.rep_mono C _ _ Q⟩).append ⟨⟨rfl,Cell.rep_mono C _ _ J⟩,trivial⟩
abbrev cM(s:List UInt8):Value:=.string ⟨s.toArray⟩
theorem eN(a:List UInt8):MapKept.IsKey .string (cM a):=trivial
theorem eO(a b:List UInt8)(h:cM a=cM b):a=b:=by
 simp only[cM,Value.string.injEq,ByteArray.mk.injEq]at h;simpa using congrArg Array.toList h
end
variable {dst:Option Tmp}{ty:TypeId}{pos:String}{af:Array Edge}{gd:Option (Nat×Bool)}{fr:Fr}{ob:Obs}
theorem VA{x W X:Operand}{t e:TypeId}{z A:Nat}{s:SV}{α:Type}{c:α->Nat->Cell}{B:List α}{N O:IntKind}{j m:Int}[ht:TySl P t e A z](hx:opv fr x=some s)(hl:IsList s α A c B)
  (K:opv fr W=some (I7 (.int N j)))(L:opv fr X=some (I7 (.int O m)))(R:0<=j)(h2:j<=B.length)(hm:m=j) :
  Neu P ⟨dst,.slice t x none (some W) (some X),ty,pos,af,gd⟩ fr ob (fun s'=>s'=.s (.one (.full α A c (B.take j.toNat)))) :=
 E6 fun S G a w h=>by
  subst hm;have J:=cD h hx hl;obtain⟨v,q,V,U,_⟩:=p7 J;rw[V]at J;have I:=uM (lo:=0) (hi:=m.toNat) J (by omega) (by omega);rw[List.drop_zero,Nat.sub_zero]at I;have p:sliced v 0 m.toNat m.toNat A=.slice (if m.toNat=0 then v else v.map (·.add 0)) m.toNat m.toNat:=by simp[sliced]
  refine⟨sliced v 0 m.toNat m.toNat A,?_,?_,?_⟩
  ·simp only[execOp,V,F7 h K,F7 h L,Option.map_some,Option.map_none];refine M3 ?_;obtain⟨y,C⟩:=ht.elem;simp only[Instr.sliceAt,Sem.run_bind,run_underlying ht.out.1,Result.andThen_ok];rw[run_slice_any w t v B.length q y,C];have hb:(Instr.sliceBounds true B.length q none (some (.int N m)) (some (.int O m))).run P w=.ok (0,m.toNat,m.toNat) w:=by
    have e:(m.toNat:Int)=m:=by omega
    simp only[Instr.sliceBounds,Sem.run_bind,run_sliceBound,Sem.run_pure,Result.andThen_ok];rw[run_sliceBound w O m _ _ R (by omega)];simp only[Result.andThen_ok];rw[run_sliceBound w N m _ _ R (by omega)];simp
   rw[hb];simp only[Result.andThen_ok];rw[J1 ht.size];rfl
  ·-- the cells are those of the list's beginning
   simp only[Cell.rep]at I ⊢;obtain⟨Y,Q,F,⟨h3,D⟩,T,Z⟩:=I;have b:(B.take m.toNat).length=m.toNat:=by rw[C59];omega
   rw[b]at F;have H:sliced v 0 m.toNat q A=.slice (if q=0 then v else v.map (·.add (0*A))) m.toNat q:=by simp[sliced]
   rw[H]at F;injection F with y C he3
   by_cases M:m.toNat=0
   ·refine⟨if m.toNat=0 then v else v.map (·.add 0),m.toNat,by rw[b,p],⟨Nat.le_of_eq b,fun _=>M⟩,T,.inl (b.trans M)⟩
   ·have E:q≠0:=by omega
    rw[A7 E]at y;refine⟨Y,m.toNat,?_,⟨Nat.le_of_eq b,fun hn=>?_⟩,T,Z⟩
    ·rw[b,p,A7 M,<-y];simp
    ·have:=D hn;omega
  ·rw[p];refine⟨_,by rw[show (B.take m.toNat).length=m.toNat by rw[C59];omega]⟩
theorem HJ(k:Nat){x y:Operand}{α:Type}{F E:Nat}{c:α->Nat->Cell}{xs ys:List α}{t e:TypeId}{s:SV}[ht:TySl P t e F E](hx:opv fr x=some (.s (.one (.full α F c xs))))
  (hy:opv fr y=some s)(hl:IsList s α F c ys)(am:xs.length+ys.length<=1073741824)(bn:0<ys.length)(hf:(J2 k fr&&J9 k ob)=true) :
  EffV P ⟨dst,.call ⟨.builtin .append,#[x,y],#[t,t]⟩,ty,pos,af,gd⟩ fr ob (.s (.one (.buf k α F c (xs++ys)))) fr ((k,.spare (xs++ys).length F e)::ob):=by
 simp only[C39]at hf;obtain⟨bc,bd⟩:=hf;obtain⟨h4,h5,hp⟩:=H4 bd;intro S G a w h;obtain⟨ah,H,ba,ax,I⟩:=ht.out;cases hi:P.info? e with
 | none=>simp[hi]at H
 | some i =>
 simp[hi]at H;obtain⟨U,A⟩:=H;cases hz:i.zero with
 | none=>simp[hi,hz]at I
 | some z =>
 simp[hi,hz]at I;obtain⟨bh,a0,au⟩:=H8 h hx;have bi:=cD h hy hl;obtain⟨ad,bq,vx,Z,ay,br,q,bf,bk,aq⟩:=eH bh;rw[au]at Z;injection Z with e1 e2 e3
 subst e1;obtain⟨bp,K,vy,bj,az,bs,D,bg,bl,ar⟩:=eH bi;obtain⟨ac,oy,aj,Q⟩:=ar.resolve_left (by omega);have L:(xs.length+ys.length)*E<=140737488355328:=by
  have:(xs.length+ys.length)*E<=1073741824*4096:=Nat.mul_le_mul am ax;omega
 have ao:xs.length+ys.length<=maxLen:=by unfold maxLen;omega
 obtain⟨T,J⟩:∃T,T=grownCap w (xs.length+ys.length) xs.length e:=⟨_,rfl⟩
 have al:=grownCap_ge w (xs.length+ys.length) xs.length e;have ak:=grownCap_le_maxLen w (xs.length+ys.length) xs.length e ao;rw[<-J]at al ak;have X:(Builtin.append_ #[t,t] ty #[a.eval x,a.eval y]).run P w=.ok (.slice (some ⟨w.heap.size,0,none⟩) (xs.length+ys.length) T) (w.drew.alloc (.cells (vx.toArray++vy.toArray++Builtin.zeroCells z.cells (T-(xs.length+ys.length))) e)):=by
  rw[au,bj,aj];rcases aq with h0 | ⟨bx,ox,hax,hrx2⟩
  ·have bm:xs=[]:=C99 h0;subst bm;have av:vx=[]:=C99 (by rw[q];simp);subst av;cases a0 with
   | none =>
    have O:=run_append_nil (P:=P) w t ty e i z ah hi hz ⟨ac,oy,none⟩ ys.length K vy (by rw[U];exact D) (fun j v M=>by rw[Addr.add_lit];exact (Q j v M).1) bn (by omega) (by rw[A];simp at L;omega);simp only[List.length_nil,C91]at J ⊢;rw[J];simpa using O
   | some ab =>
    have O:=run_append_grow (P:=P) w t ty e i z ah hi hz ab 0 0 [] (by simp) (by simp) ⟨ac,oy,none⟩ ys.length K vy (by rw[U];exact D) (fun j v M=>by rw[Addr.add_lit];exact (Q j v M).1) (by omega) (by omega) (growslice_fits (by omega) (by rw[A];simpa using L));simp only[List.length_nil]at J ⊢;rw[J];simpa using O
  ·rw[hax];have O:=run_append_grow (P:=P) w t ty e i z ah hi hz ⟨bx,ox,none⟩ xs.length xs.length vx (by rw[U];exact q) (fun j v M=>by rw[Addr.add_lit];exact (hrx2 j v M).1) ⟨ac,oy,none⟩ ys.length K vy (by rw[U];exact D) (fun j v M=>by rw[Addr.add_lit];exact (Q j v M).1) (by omega) (by omega) (growslice_fits (by omega) (by rw[A];exact L));rw[J];exact O
 obtain⟨cells,C⟩:∃cells,cells=vx.toArray++vy.toArray++Builtin.zeroCells z.cells (T-(xs.length+ys.length)):=⟨_,rfl⟩
 rw[<-C]at X;have N:(vx++vy).length=(xs.length+ys.length)*F:=by rw[C40,q,D,C88]
 have W:(w.drew.alloc (.cells cells e)).ownsRow S.B e F (.slice (some ⟨w.heap.size,0,none⟩) (xs.length+ys.length) T) (xs++ys).length (vx++vy):=by
  rw[C40];refine⟨N,.inr ⟨w.heap.size,T,cells,rfl,h.size,heap_alloc_new w.drew _,al,ak,?_,?_⟩⟩
  ·rw[C];simp only[Array.size_append,List.size_toArray,size_zeroCells,I,q,D,<-C88]
   congr 1
   omega
  ·rw[C];simp only[Array.toList_append,C65];rw[<-C65,<-N];exact List.take_left
 refine J4 (w':=w.drew.alloc (.cells cells e)) (v:=.slice (some ⟨w.heap.size,0,none⟩) (xs.length+ys.length) T) (by simp[execOp,resolve,invoke,builtin,X]) ?_;have aw:Below w.heap.size w (w.drew.alloc (.cells cells e)):=⟨rfl,rfl,rfl,by simp,fun k hk=>heap_alloc_old w.drew _ hk⟩
 have hu:∀b,blk (.slice (some ⟨w.heap.size,0,none⟩) (xs.length+ys.length) T)=some b->w.heap.size<=b:=by intro b hb;simp[blk]at hb;omega
 have Y:=h.new hp h5 (o:=.spare (xs++ys).length F e) aw hu ⟨vx++vy,W⟩;rw[i7 bc,h4]at Y;refine⟨_,Y,(I8 _ _ _).symm,?_⟩;refine gC (c:=c) (xs:=xs++ys) W ba (by rw[C40];omega) ?_ ?_
 ·intro g hg j zz M ae;simp[blk]at hg;subst hg;refine⟨ae,fun hm=>?_⟩;rcases hm with hm | ⟨k',o',hk',hb1,hb2⟩
  ·have:=h.m0 _ j hm;have:=h.size;omega
  ·by_cases ag:k=k'
   ·subst ag;rw[B3]at hk';cases hk';simp only at hb2;omega
   ·rw[A8 ag]at hk';rw[bS G _ (Ne.symm ag)]at hb1;have:=(h.obs k' o' hk').blk_lt _ hb1;omega
 ·have ap:∀b i z,E5 (Mut S ob G) w b i z->E5 (Mut S ((k,.spare (xs++ys).length F e)::ob) (upd G k (.slice (some ⟨w.heap.size,0,none⟩) (xs.length+ys.length) T))) (w.drew.alloc (.cells cells e)) b i z:=by
   intro b i z hr;have:=h.rd_new (k:=k) (o:=.spare (xs++ys).length F e) aw hu hr
   rwa[h4]at this
  intro m hm j M;by_cases an:m<xs.length
  ·obtain⟨zz,V,ai⟩:=bk m an j M;refine⟨zz,?_,?_⟩
   ·rw[C68 (C44.1 V).1];exact V
   ·rw[D23 an];exact Cell.rep_mono ap _ _ ai
  ·have be:m-xs.length<ys.length:=by simp at hm;omega
   obtain⟨zz,V,ai⟩:=bl (m-xs.length) be j M;refine⟨zz,?_,?_⟩
   ·have bo:xs.length*F<=m*F:=C70 _ (by omega);rw[C76 (by rw[q];omega),q];have:m*F+j-xs.length*F=(m-xs.length)*F+j:=by rw[Nat.sub_mul];omega
    rw[this];exact V
   ·rw[D21 (by omega)];exact Cell.rep_mono ap _ _ ai
abbrev Mo:=List (List Nat×Obs)
def b8:Mo->List Nat->Option Obs
 | [],_=>none
 | (D',ob)::r,D=>cond (kZ D' D) (some ob) (b8 r D)
abbrev Sv:=List (Nat×SV)
def U2:Sv->Nat->Option SV
 | [],_=>none
 | (i,s)::r,j=>cond (Nat.beq i j) (some s) (U2 r j)
abbrev Ed:=List (Nat×(List Nat×List Nat))
def aQ:Ed->Nat->List Nat×List Nat
 | [],_=>([],[])
 | (i,x)::r,e=>cond (Nat.beq i e) x (aQ r e)
def aR(ks:List Nat)(fr:Fr):Fr:=fr.filter fun p=>!(F0 ks p.1)
theorem VB{ks:List Nat}:∀{fr:Fr} {t:Nat} {s:SV},D5 (aR ks fr) t=some s↔t∉ks/\D5 fr t=some s
 | [],t,s=>by simp[aR,D5]
 | (i,x)::r,t,s=>by
  have c:=VB (ks:=ks) (fr:=r) (t:=t) (s:=s);unfold aR at c ⊢;cases b:F0 ks i
  ·rw[List.filter_cons_of_pos (by simp[b])];by_cases a:i=t
   ·subst a;rw[D4,D4];have:i∉ks:=fun q=>by rw[aP.2 q]at b;cases b
    simp[this]
   ·rw[C4 a,C4 a];exact c
  ·rw[List.filter_cons_of_neg (by simp[b])];rw[c];by_cases a:i=t
   ·subst a;have:i∈ks:=aP.1 b;simp[this]
   ·rw[C4 a]
def CJ(U a:Fr):Prop:=∀t s,D5 U t=some s->D5 a t=some s
def CL(P:Program)(nt:Nat)(o:Oper)(U:Fr)(e b:List Nat)(ob ob':Obs)(s:SV):Prop :=
 ∀c,CJ U c->(∀k∈e,∀t x,D5 c t=some x->t∉b->x.free k=true)->∀S G a w,S.nt=nt->Sim P S c ob G a w ->
  Does P o a w (fun v w'=>∃G',Sim P S (aR b c) ob' G' a w'/\∀d,o.dst=some d->s.rep (E5 (Mut S ob' G') w') G' v)
def oF(l:List Oper):Sv->Fr->Fr
 | [],fr=>fr
 | (i,s)::r,fr=>match (l[i]?).bind (·.dst) with
  | some d=>(d,s)::oF l r fr
  | none=>oF l r fr
def eP(l:List Oper)(c:Sv)(o:Oper):Bool :=
 (eM o.op).all fun u=>(List.range l.length).all fun j=>match (l[j]?).bind (·.dst) with
  | some d=>!(Nat.beq d u)||(U2 c j).isSome
  | none=>true
def UIn2(l:List Oper)(a:Sv)(fr:Fr)(o:Oper)(U:Fr):Prop :=
 ∀t s,D5 U t=some s->t∈eM o.op/\((∃j b,l[j]?=some b/\b.dst=some t/\U2 a j=some s)\/(t∉oE l/\D5 fr t=some s))
def PU(a ob:Obs):Prop:=∀k o,B5 a k=some o->B5 ob k=some o
theorem CM{l:List Oper}{fr:Fr}:∀{m:Sv} {t:Nat} {s:SV},D5 (oF l m fr) t=some s->(∃j o,U2 m j=some s/\l[j]?=some o/\o.dst=some t)\/(D5 fr t=some s/\∀j o,U2 m j≠none->l[j]?=some o->o.dst≠some t)
 | [],t,s,h=>.inr ⟨h,fun j o p=>absurd rfl p⟩
 | (i,x)::r,t,s,h=>by
  unfold oF at h;have f:(∀d,(l[i]?).bind (·.dst)=some d->d≠t)->D5 (oF l r fr) t=some s->(∃j o,U2 ((i,x)::r) j=some s/\l[j]?=some o/\o.dst=some t)\/(D5 fr t=some s/\∀j o,U2 ((i,x)::r) j≠none->l[j]?=some o->o.dst≠some t):=by
   intro a h;rcases CM h with ⟨j,o,w,v,y⟩ | ⟨w,v⟩
   ·left;refine⟨j,o,?_,v,y⟩;have g:i≠j:=fun e=>by
     subst e;rw[v]at a;exact a t (by simpa using y) rfl
    show cond (Nat.beq i j) _ _=_;rw[S4 g];exact w
   ·right;refine⟨w,fun j o p q u=>?_⟩;by_cases g:i=j
    ·subst g;rw[q]at a;exact a t (by simpa using u) rfl
    ·have p:cond (Nat.beq i j) (some x) (U2 r j)≠none:=p;rw[S4 g]at p;exact v j o p q u
  split at h
  ·rename_i d a;by_cases k:d=t
   ·subst k;rw[D4]at h;cases h;cases q:l[i]? with
    | none=>rw[q]at a;cases a
    | some o =>
     rw[q]at a;exact .inl ⟨i,o,by show cond (Nat.beq i i) _ _=_;rw[Nat.beq_refl];rfl,q,by simpa using a⟩
   ·rw[C4 k]at h;exact f (fun z c=>by rw[a]at c;cases c;exact k) h
  ·rename_i a;exact f (fun z c=>by rw[a]at c;cases c) h
theorem uV:∀{l:List Oper} {t:Nat},t∈oE l->∃(j:Nat) (o:Oper),l[j]?=some o/\o.dst=some t
 | [],t,h=>by simp[oE]at h
 | o::l,t,h=>by
  unfold oE at h;cases c:o.dst with
  | none=>rw[c]at h;obtain⟨j,e,a,b⟩:=uV h;exact⟨j+1,e,by simpa using a,b⟩
  | some d =>
   rw[c]at h;rcases C50.1 h with rfl | h
   ·exact⟨0,o,rfl,c⟩
   ·obtain⟨j,e,a,b⟩:=uV h;exact⟨j+1,e,by simpa using a,b⟩
theorem BG{l:List Oper}{a:Sv}{fr:Fr}{o:Oper}(h:eP l a o=true):UIn2 l a fr o (o8 (oF l a fr) (eM o.op)):=by
 intro t s p;have c:=gM p;refine⟨c,?_⟩;rcases CM (dE p) with ⟨j,k,d,f,b⟩ | ⟨d,f⟩
 ·exact .inl ⟨j,k,f,b,d⟩
 ·refine .inr ⟨fun g=>?_,d⟩;obtain⟨j,k,b,m⟩:=uV g;have:=C47.1 (C47.1 h t c) j (C62.2 (C44.1 b).1);rw[b]at this;simp only[Option.bind_some,m,Nat.beq_refl,Bool.not_true,C98]at this;exact f j k (fun e=>by rw[e]at this;cases this) b m
def Task(P:Program)(nt:Nat)(l:List Oper)(fr:Fr)(a:Sv)(E:List Nat)(b:Ed)(i:Nat)(ob:Obs)(s:SV)(T:Obs->Prop):Prop :=
 ∃o U,l[i]?=some o/\UIn2 l a fr o U/\((F0 E i=false/\Neu P o U ob (fun c=>c=s))\/(F0 E i=true/\∃ob',CL P nt o U (aQ b i).1 (aQ b i).2 ob ob' s/\T ob'))
def conf2(nt:Nat)(l:List Oper)(E:List Nat)(Ms:List (List Nat))(c:Ed)(b:List (Nat×List Nat)):Bool :=
 let ops:=l.toArray;let n:=l.length
 (l.all fun o=>o.guard.isNone&&match o.dst with | some d=>Nat.blt d nt | none=>true) &&
 ((List.range n).all fun i=>match ops[i]? with
  | some o=>(F0 E i||o.dst.isSome)&&(((eM o.op).all fun u=>((List.range n).all fun j=>match ops[j]? with
    | some f=>(match f.dst with | some d=>!(Nat.beq d u)||Bef ops i j | none=>true)
    | none=>true)&&E.all fun e=>Nat.beq e i||!(F0 (aQ c e).2 u)||Bef ops e i) &&
   ((o.after.toList.all fun e=>!(Region.binds .any e)||Nat.blt e.on i)&&(Ms.all fun D=>!(PR ops E i D)||b.any fun p=>Nat.beq p.1 i&&kZ p.2 D)))
  | none=>false) &&
 tA (oE l)&&desc E&&(E.all fun e=>Nat.blt e n)&&memM Ms []&&(Ms.all fun D=>E.all fun e=>!(PR ops E e D)||memM Ms (kY e D))
structure InvK (l:List Oper) (E:List Nat) (svs:Sv) (ed:Ed) (fr:Fr) (listed:Array Bool) (frc:Fr):Prop where
 put:∀j o d s,l[j]?=some o->listed.getD j false=true->o.dst=some d->U2 svs j=some s->(∀e∈E,listed.getD e false=true->d∉(aQ ed e).2)->D5 frc d=some s
 from':∀t s,D5 frc t=some s->(∃j o,l[j]?=some o/\listed.getD j false=true/\o.dst=some t/\U2 svs j=some s)\/D5 fr t=some s
 old:∀t s,D5 fr t=some s->t∉oE l->(∀e∈E,listed.getD e false=true->t∉(aQ ed e).2)->D5 frc t=some s
def rZ(l:List Oper)(ops:Array Oper)(c:Sv)(fr:Fr):Ed->Bool
 | []=>true
 | (e,ks,kills)::r=>(ks.all fun k=>((List.range ops.size).all fun j=>Nat.beq j e||Bef ops j e||match (l[j]?).bind (·.dst),U2 c j with
   | some d,some s=>F0 kills d||s.free k
   | _,_=>true)&&fr.all fun p=>F0 kills p.1||p.2.free k)&&rZ l ops c fr r
theorem c_core{id:Nat}{l:List Oper}{fr:Fr}{bl:Obs}{Q:Post}(E:List Nat)(Ms:List (List Nat))(T:Ed)(ae:List (Nat×List Nat))(X:Sv)(M:Mo)(hm:P.follows .mixedOrders=true)
  (hB:conf2 nt l E Ms T ae=true)(co:∀e∈E,∃x,(e,x)∈T/\aQ T e=x)(bc:rZ l l.toArray X fr T=true)(h0:b8 M []=some bl)
  (ht:∀p∈ae,∃ob s,b8 M p.2=some ob/\U2 X p.1=some s/\Task P nt l fr X E T p.1 ob s (fun ob'=>∃au,b8 M (kY p.1 p.2)=some au/\PU au ob'))
  {fr':Fr}{bm:Obs}(bz:b8 M E=some bm)(bq:∀t s,D5 fr' t=some s->(∀e∈E,t∉(aQ T e).2)/\((∃j o',l[j]?=some o'/\o'.dst=some t/\U2 X j=some s)\/(t∉oE l/\D5 fr t=some s)))
  (hQ:Q .normal fr' bm):WpC P nt (.region id l.toArray true) fr bl Q:=by
 intro S G a w hn hs;unfold conf2 at hB;simp only[C39]at hB;obtain⟨⟨⟨⟨⟨⟨b1,b2⟩,b3⟩,b4⟩,b5⟩,b6⟩,b7⟩:=hB
 have bi:∀i o,l[i]?=some o->o.guard=none/\(∀d,o.dst=some d->d<nt)/\(F0 E i=true\/∃d,o.dst=some d)/\(∀u∈eM o.op,∀j oj,l[j]?=some oj->oj.dst=some u->Bef l.toArray i j=true) /\
   (∀u∈eM o.op,∀e∈E,e≠i->u∈(aQ T e).2->Bef l.toArray e i=true)/\(∀e∈o.after.toList,Region.binds .any e=true->e.on<i)/\(∀D∈Ms,PR l.toArray E i D=true->(i,D)∈ae):=by
  intro i o J;have bg:i<l.length:=(C44.1 J).1;have ac:o∈l:=C60 J;have q1:=C47.1 b1 o ac;have q2:=C47.1 b2 i (C62.2 bg);simp only[C87,J]at q2;simp only[C39]at q1 q2;obtain⟨q4,q5,q6,q7⟩:=q2;refine⟨by simpa using q1.1,?_,?_,?_,?_,?_,?_⟩
  ·intro d hd;have:=q1.2;rw[hd]at this;simpa using this
  ·rcases (C67 _ _).mp q4 with h | h
   ·exact .inl h
   ·exact .inr (Option.isSome_iff_exists.1 h)
  ·intro u hu j oj K hd;have bs:j<l.length:=(C44.1 K).1;have I:=C47.1 q5 u hu;simp only[C39]at I;have:=C47.1 I.1 j (C62.2 bs);simp only[K,hd]at this;simpa using this
  ·intro u hu e V ao hk;have I:=C47.1 q5 u hu;simp only[C39]at I;have:=C47.1 I.2 e V;rw[S4 ao,aP.2 hk]at this;simpa using this
  ·intro e V cl;have:=C47.1 q6 e V;rw[cl]at this;simpa using this
  ·intro D hD hp;have:=C47.1 q7 D hD;rw[hp]at this;simp only[Bool.not_true,C98]at this;obtain⟨p,cx,bj⟩:=List.any_eq_true.1 this;simp only[C39]at bj;have e1:=C72 bj.1;have e2:=uT bj.2;obtain⟨p1,p2⟩:=p;simp only at e1 e2;rw[<-e1,<-e2];exact cx
 have dh:∀(j t:Nat),(l.toArray[j]?).bind (fun o=>o.dst)=some t->t<nt:=by
  intro j t ht;cases J:l[j]? with
  | none=>simp[J]at ht
  | some o=>simp[J]at ht;exact (bi j o J).2.1 t ht
 refine wp_region_any hm ?_;have dd:Below w.heap.size w { w with drawn:=w.drawn+1 }:=⟨rfl,rfl,rfl,C45 _,fun _ _=>rfl⟩
 have key : ∀(R:Nat) (A:Array Bool) (H:Fr) (ob:Obs) (G:Gh) (a:Act) (w:World),A.size=l.length->unl A l.length=R->Closed l.toArray A->(E.filter fun j=>A.getD j false)∈Ms->b8 M (E.filter fun j=>A.getD j false)=some ob->InvK l E X T fr A H->Sim P S H ob G a w ->
   wpAny P .any l.toArray (PostOf P S Q) R A a w:=by
  intro R;induction R with
  | zero =>
   intro A H ob G a w ce hu hc hM ai hI am;have Y:∀j,j<l.length->A.getD j false=true:=by
    intro j K;unfold unl at hu;have:=(List.countP_eq_zero.1 hu) j (C62.2 K);simpa using this
   have ar:Region.ready .any l.toArray A=[]:=by
    cases hr:Region.ready .any l.toArray A with
    | nil=>rfl
    | cons i r =>
     exfalso;have hi:i∈Region.ready .any l.toArray A:=by rw[hr];exact C56 ..
     have B:=j3 hi;obtain⟨_,o,J,_⟩:=mem_ready.1 hi;rw[C87]at J;rw[Y i (C44.1 J).1]at B;cases B
   refine⟨ar,?_⟩;have ci:(E.filter fun j=>A.getD j false)=E:=by
    rw[List.filter_eq_self];intro e V;exact Y e (by simpa using C47.1 b5 e V)
   rw[ci,bz]at ai;cases ai;refine⟨fr',bm,G,hQ,.inl (am.weaken fun t s ht=>?_)⟩;obtain⟨hk,B⟩:=bq t s ht;rcases B with ⟨j,o,B,F,I⟩ | ⟨B,F⟩
   ·exact hI.put j o t s B (Y j (C44.1 B).1) F I (fun e V _=>hk e V)
   ·exact hI.old t s F B (fun e V _=>hk e V)
  | succ R ih =>
   intro A H ob G a w ce hu hc hM ai hI am;refine⟨fun h0=>?_,fun i hi=>?_⟩
   ·exfalso;have cp:∃j,j<l.length/\A.getD j false=false:=by
     refine C69 fun cw=>?_;have:unl A l.length=0:=by
      unfold unl;refine List.countP_eq_zero.2 fun j K=>?_;have K:=C62.1 K;cases hb:A.getD j false
      ·exact absurd ⟨j,K,hb⟩ cw
      ·simp
     omega
    have bu:∀n,(∃j,j<n/\j<l.length/\A.getD j false=false)->∃j,j<l.length/\A.getD j false=false/\∀p,p<j->A.getD p false=true:=by
     intro n;induction n with
     | zero=>rintro⟨j,K,_⟩;omega
     | succ n df =>
      rintro⟨j,K,be,ap⟩;by_cases ay:∃j',j'<n/\j'<l.length/\A.getD j' false=false
      ·exact df ay
      ·refine⟨j,be,ap,fun p hp=>?_⟩;cases hb:A.getD p false
       ·exact absurd ⟨p,by omega,by omega,hb⟩ ay
       ·rfl
    obtain⟨j,cq,cr⟩:=cp;obtain⟨j,be,ap,ct⟩:=bu (j+1) ⟨j,by omega,cq,cr⟩;have J:l[j]?=some l[j]:=C36 be;have bt:j∈Region.ready .any l.toArray A:=by
     refine mem_ready.2 ⟨?_,l[j],by rw[C87];exact J,fun e V hb=>?_⟩
     ·have af:j<A.size:=by omega
      simp only[C54,Array.getElem?_eq_getElem af]at ap ⊢;simpa using ap
     ·have:=(bi j _ J).2.2.2.2.2.1 e (Array.mem_toList_iff.2 V) hb;exact ct _ this
    rw[h0]at bt;cases bt
   ·have ah:=j3 hi;obtain⟨_,o,J,Y⟩:=mem_ready.1 hi;rw[C87]at J;have bg:i<l.length:=(C44.1 J).1;obtain⟨g1,g2,g4,g5,g6,g7,g8⟩:=bi i o J;obtain⟨D,hD⟩:∃D,D=E.filter fun j=>A.getD j false:=⟨_,rfl⟩
    rw[<-hD]at hM ai;have ba:∀e,e∈D↔e∈E/\A.getD e false=true:=fun e=>by rw[hD,List.mem_filter]
    have bn:∀j,Bef l.toArray i j=true->A.getD j false=true:=fun j K=>gS hc i K (fun o' aq e V hb=>by
     rw[C87,J]at aq;cases aq
     exact Y e (Array.mem_toList_iff.1 V) hb)
    have bf:∀j,A.getD j false=true->Bef l.toArray j i=true->False:=fun j K hb=>by
     have:A.getD i false=true:=gS hc j hb (fun o' aq e V ck=>hc j o' aq K e V ck);rw[ah]at this;cases this
    have ca:PR l.toArray E i D=true:=by
     unfold PR;simp only[C39,C80,C47,C67];refine⟨?_,fun j K=>?_,fun j K=>?_⟩
     ·cases hb:F0 D i
      ·rfl
      ·have:=((ba i).1 (aP.1 hb)).2;rw[ah]at this;cases this
     ·cases hb:Bef l.toArray i j
      ·exact .inl rfl
      ·exact .inr (aP.2 ((ba j).2 ⟨K,bn j hb⟩))
     ·cases hb:Bef l.toArray j i
      ·rfl
      ·exact (bf j ((ba j).1 K).2 hb).elim
    obtain⟨dk,s,az,cd,o1,U,bx,hU,bk⟩:=ht (i,D) (g8 D hM ca);rw[ai]at az;cases az;rw[J]at bx;cases bx;have aw:CJ U H:=by
     intro t x hx;obtain⟨cg,B⟩:=hU t x hx;have al:∀e∈E,A.getD e false=true->t∉(aQ T e).2:=fun e V ak hk=>by
      by_cases ao:e=i
      ·rw[ao,ah]at ak;cases ak
      ·exact bf e ak (g6 t cg e V ao hk)
     rcases B with ⟨j,oj,B,F,I⟩ | ⟨B,F⟩
     ·exact hI.put j oj t x B (bn j (g5 t cg j oj B F)) F I al
     ·exact hI.old t x F B al
    have av:=d8 hc hi;have af:(A.setIfInBounds i true).size=l.length:=by simpa using ce
    have cf:unl (A.setIfInBounds i true) l.length=R:=by
     have:=A01 (by omega) ah bg;omega
    have N:∀j,(A.setIfInBounds i true).getD j false=true↔j=i\/A.getD j false=true:=by
     intro j;by_cases K:j=i
     ·subst K;simp only[true_or,iff_true];simp[show j<A.size by omega]
     ·rw[jB (Ne.symm K)];simp[K]
    have ax:∀C,(i∈E->C=(aQ T i).2)->(i∉E->C=[])->InvK l E X T fr (A.setIfInBounds i true) (match o.dst with | some d=>(d,s)::aR C H | none=>aR C H):=by
     intro C cu cv;have hk:∀t,(∀e∈E,(A.setIfInBounds i true).getD e false=true->t∉(aQ T e).2)->t∉C:=by
      intro t h;by_cases ab:i∈E
      ·rw[cu ab];exact h i ab ((N i).2 (.inl rfl))
      ·rw[cv ab];simp
     have W:∀t,(∀e∈E,(A.setIfInBounds i true).getD e false=true->t∉(aQ T e).2)->∀e∈E,A.getD e false=true->t∉(aQ T e).2:=fun t h e V ak=>h e V ((N e).2 (.inr ak));cases Z:o.dst with
     | none =>
      refine⟨fun j oj d x B F I h6 h7=>?_,fun t x B=>?_,fun t x B F I=>?_⟩
      ·rcases (N j).1 F with rfl | F
       ·rw[J]at B;cases B;rw[Z]at I;cases I
       ·exact VB.2 ⟨hk d h7,hI.put j oj d x B F I h6 (W d h7)⟩
      ·rcases hI.from' t x (VB.1 B).2 with ⟨j,oj,F,I,h6⟩ | F
       ·exact .inl ⟨j,oj,F,(N j).2 (.inr I),h6⟩
       ·exact .inr F
      ·exact VB.2 ⟨hk t I,hI.old t x B F (W t I)⟩
     | some d0 =>
      refine⟨fun j oj d x B F I h6 h7=>?_,fun t x B=>?_,fun t x B F I=>?_⟩
      ·show D5 ((d0,s)::aR C H) d=some x;by_cases bd:j=i
       ·subst bd;rw[J]at B;cases B;rw[Z]at I;cases I;rw[D4];rw[cd]at h6;exact h6
       ·have F:=((N j).1 F).resolve_left bd;have ag:d0≠d:=fun q=>by
         subst q;exact bd (CG b3 B J I Z)
        rw[C4 ag];exact VB.2 ⟨hk d h7,hI.put j oj d x B F I h6 (W d h7)⟩
      ·have B:D5 ((d0,s)::aR C H) t=some x:=B;by_cases ag:d0=t
       ·subst ag;rw[D4]at B;cases B;exact .inl ⟨i,o,J,(N i).2 (.inl rfl),Z,cd⟩
       ·rw[C4 ag]at B;rcases hI.from' t x (VB.1 B).2 with ⟨j,oj,F,I,h6⟩ | F
        ·exact .inl ⟨j,oj,F,(N j).2 (.inr I),h6⟩
        ·exact .inr F
      ·show D5 ((d0,s)::aR C H) t=some x;have ag:d0≠t:=fun q=>F (by rw[<-q];exact uU J Z);rw[C4 ag];exact VB.2 ⟨hk t I,hI.old t x B F (W t I)⟩
    unfold wpOp;simp only[C87,J];rw[A6 (by simp[Region.wanted,g1])];rcases bk with ⟨an,bw⟩ | ⟨an,ob',heff,au,hobT,hle⟩
    ·have bv:i∉E:=fun q=>by rw[aP.2 q]at an;cases an
     refine .inl (N4 (bw S G a w (am.weaken fun t x hx=>aw t x hx)) ?_);rintro v w' ⟨ch,s',rfl,hv⟩;have aj:(E.filter fun j=>(A.setIfInBounds i true).getD j false)=D:=by
      rw[hD];apply List.filter_congr;intro j K;have:j≠i:=fun q=>bv (q ▸ K);exact jB (Ne.symm this)
     obtain⟨d0,bo⟩:=g4.resolve_left (by rw[an];simp);have ad:=ax [] (fun q=>absurd q bv) (fun _=>rfl);rw[bo]at ad ⊢;have ad:InvK l E X T fr (A.setIfInBounds i true) ((d0,s')::aR [] H):=ad;have cn:aR [] H=H:=by unfold aR;exact List.filter_eq_self.2 fun p _=>rfl
     rw[cn]at ad;exact ih (A.setIfInBounds i true) ((d0,s')::H) ob G _ w' af cf av (by rw[aj];exact hM) (by rw[aj];exact ai) ad ((am.ext ch).put (by rw[hn];exact g2 d0 bo) hv)
    ·have ab:i∈E:=aP.1 an;have aj:(E.filter fun j=>(A.setIfInBounds i true).getD j false)=kY i D:=by
      rw[hD];exact CF (by omega) ah b4 ab
     have cj:kY i D∈Ms:=by
      have:=C47.1 (C47.1 b7 D hM) i ab;rw[ca]at this;exact PS (by simpa using this)
     have br:∀k∈(aQ T i).1,∀t x,D5 H t=some x->t∉(aQ T i).2->x.free k=true:=by
      obtain⟨x0,db,dc⟩:=co i ab;rw[dc]
      have hf:∀(xs:Ed),rZ l l.toArray X fr xs=true->(i,x0)∈xs->∀k∈x0.1,((List.range l.toArray.size).all fun j=>Nat.beq j i||Bef l.toArray j i||match (l[j]?).bind (·.dst),U2 X j with
        | some d,some s=>F0 x0.2 d||s.free k
        | _,_=>true)=true/\(fr.all fun p=>F0 x0.2 p.1||p.2.free k)=true:=by
       intro xs;induction xs with
       | nil=>intro _ h;simp at h
       | cons y r dg =>
        obtain⟨e',dj,di⟩:=y;intro bh ac;simp only[rZ,C39]at bh;rcases C50.1 ac with q | q
        ·cases q;intro k hk;have:=C47.1 bh.1 k hk;simpa only[C39] using this
        ·exact dg bh.2 q
      intro k hk t x hx al;obtain⟨f1,f2⟩:=hf T bc db k hk;rcases hI.from' t x hx with ⟨j,oj,F,I,h6,h7⟩ | F
      ·have:=C47.1 f1 j (C62.2 (by simpa using (C44.1 F).1));have cs:j≠i:=fun q=>by rw[q,ah]at I;cases I
       have cm:Bef l.toArray j i=false:=by
        cases hb:Bef l.toArray j i
        ·rfl
        ·exact (bf j I hb).elim
       rw[S4 cs,cm,F]at this;simp only[Option.bind_some,h6,h7,C98,C67]at this;rcases this with q | q
       ·exact absurd (aP.1 q) al
       ·exact q
      ·have ac:(t,x)∈fr:=by
        have:∀(fr:Fr),D5 fr t=some x->(t,x)∈fr:=by
         intro fr;induction fr with
         | nil=>intro h;simp[D5]at h
         | cons y r de =>
          obtain⟨q,z⟩:=y;intro h;by_cases hq:q=t
          ·subst hq;rw[D4]at h;cases h;exact C56 ..
          ·rw[C4 hq]at h;exact C55 _ (de h)
        exact this fr F
       have:=C47.1 f2 (t,x) ac;simp only[C67]at this;rcases this with q | q
       ·exact absurd (aP.1 q) al
       ·exact q
     refine .inl (N4 (heff H aw br S G a w hn am) ?_);rintro v w' ⟨G',cc,hv⟩;have ad:=ax (aQ T i).2 (fun _=>rfl) (fun q=>absurd ab q);have cy:=cc.weakenO hle;refine ih (A.setIfInBounds i true) _ au G' _ w' af cf av (by rw[aj];exact cj) (by rw[aj];exact hobT) ad ?_;cases Z:o.dst with
     | none=>exact cy
     | some d0 =>
      have da:=hv d0 Z;have cb:=cc.put (d:=d0) (by rw[hn];exact g2 d0 Z) da;exact cb.weakenO hle
 have L:∀j,(Array.replicate l.length false).getD j false=false:=by
  intro j;simp only[C54];rcases Nat.lt_or_ge j l.length with h' | h'
  ·simp[h']
  ·simp[h']
 have bp:(E.filter fun j=>(Array.replicate l.length false).getD j false)=[]:=by
  rw[List.filter_eq_nil_iff];intro e _;rw[L];simp
 have cz:unl (Array.replicate l.length false) l.length=l.length:=by
  unfold unl;have:(List.range l.length).countP (fun i=>!(Array.replicate l.length false).getD i false)=(List.range l.length).length:=by
   rw[List.countP_eq_length];intro i _;rw[L];rfl
  rw[this,C94]
 have:=key l.length (Array.replicate l.length false) fr bl G a _ (by simp) cz (fun j o J hl=>by rw[L]at hl;cases hl) (by rw[bp];exact PS b6) (by rw[bp];exact h0) ⟨fun j o d s _ F _=>(by rw[L]at F;cases F),fun t s B=>.inr B,fun t s B _ _=>B⟩ (hs.ext dd);simpa using this
def nX(P:Program)(nt:Nat)(l:List Oper)(fr:Fr)(E:List Nat)(a:Ed)(K:Sv->Mo->Prop):List (Nat×List Nat)->Sv->Mo->Prop
 | [],svs,M=>K svs M
 | (i,D)::ts,svs,M=>∃o ob s,l[i]?=some o/\b8 M D=some ob/\eP l svs o=true/\(U2 svs i=none\/U2 svs i=some s) /\
   ((F0 E i=false/\Neu P o (o8 (oF l svs fr) (eM o.op)) ob (fun b=>b=s)/\nX P nt l fr E a K ts ((i,s)::svs) M) \/
    (F0 E i=true/\∃ob',CL P nt o (o8 (oF l svs fr) (eM o.op)) (aQ a i).1 (aQ a i).2 ob ob' s/\b8 M (kY i D)=none/\nX P nt l fr E a K ts ((i,s)::svs) ((kY i D,ob')::M)))
def jW(P:Program)(nt:Nat)(l:List Oper)(fr:Fr)(E:List Nat)(c:Ed)(a:Sv)(M:Mo):List (Nat×List Nat)->Prop
 | []=>True
 | (i,D)::ts=>(∃o ob s,l[i]?=some o/\b8 M D=some ob/\eP l a o=true/\U2 a i=some s /\
   ((F0 E i=false/\Neu P o (o8 (oF l a fr) (eM o.op)) ob (fun d=>d=s)) \/
    (F0 E i=true/\∃ob' b,CL P nt o (o8 (oF l a fr) (eM o.op)) (aQ c i).1 (aQ c i).2 ob ob' s/\b8 M (kY i D)=some b/\PU b ob')))/\jW P nt l fr E c a M ts
def TaskOk(P:Program)(nt:Nat)(l:List Oper)(fr:Fr)(E:List Nat)(c:Ed)(b:Sv)(M:Mo)(p:Nat×List Nat):Prop :=
 ∃ob s,b8 M p.2=some ob/\U2 b p.1=some s/\Task P nt l fr b E c p.1 ob s (fun ob'=>∃a,b8 M (kY p.1 p.2)=some a/\PU a ob')
theorem qK{a:Sv}{i:Nat}{s:SV}(h:U2 a i=none\/U2 a i=some s){j:Nat}{x:SV}(c:U2 a j=some x):U2 ((i,s)::a) j=some x:=by
 show cond (Nat.beq i j) _ _=_;by_cases b:i=j
 ·subst b;rw[Nat.beq_refl];rcases h with h | h
  ·rw[h]at c;cases c
  ·rw[h]at c;exact c
 ·rw[S4 b];exact c
theorem CN:∀(l:List Nat),kZ l l=true
 | []=>rfl
 | a::l=>by simp[kZ,Nat.beq_refl,CN l]
theorem IV{M:Mo}{D0:List Nat}{c:Obs}(h:b8 M D0=none){D:List Nat}{ob:Obs}(a:b8 M D=some ob):b8 ((D0,c)::M) D=some ob:=by
 show cond (kZ D0 D) _ _=_;cases b:kZ D0 D
 ·exact a
 ·rw[uT b]at h;rw[h]at a;cases a
theorem UIn2.mono{l:List Oper}{b a:Sv}{fr:Fr}{o:Oper}{U:Fr}(h:UIn2 l b fr o U)(k:∀j x,U2 b j=some x->U2 a j=some x):UIn2 l a fr o U:=fun t s m=>by
 obtain⟨d,c⟩:=h t s m;refine⟨d,?_⟩;rcases c with ⟨j,o',e,f,g⟩ | c
 ·exact .inl ⟨j,o',e,f,k j s g⟩
 ·exact .inr c
theorem CO{l:List Oper}{fr:Fr}{E:List Nat}{y:Ed}{K:Sv->Mo->Prop}:∀{w:List (Nat×List Nat)} {b:Sv} {M:Mo},nX P nt l fr E y K w b M ->
  ∃a M',(∀j x,U2 b j=some x->U2 a j=some x)/\(∀D ob,b8 M D=some ob->b8 M' D=some ob)/\K a M'/\∀p∈w,TaskOk P nt l fr E y a M' p
 | [],b,M,h=>⟨b,M,fun _ _ h=>h,fun _ _ h=>h,h,fun p d=>by simp at d⟩
 | (i,D)::w,b,M,h=>by
  obtain⟨o,ob,s,z,A,B,g,C⟩:=h;have c:U2 ((i,s)::b) i=some s:=by show cond (Nat.beq i i) _ _=_;rw[Nat.beq_refl];rfl
  rcases C with ⟨t,u,v⟩ | ⟨t,ob',u,h9,v⟩
  ·obtain⟨a,M',g1,f,k,q⟩:=CO v;refine⟨a,M',fun j x e=>g1 j x (qK g e),f,k,fun p d=>?_⟩;rcases C50.1 d with rfl | d
   ·exact⟨ob,s,f _ _ A,g1 _ _ c,o,_,z,(BG B).mono (fun j x e=>g1 j x (qK g e)),.inl ⟨t,u⟩⟩
   ·exact q p d
  ·obtain⟨a,M',g1,f,k,q⟩:=CO v;have G:b8 ((kY i D,ob')::M) (kY i D)=some ob':=by show cond (kZ _ _) _ _=_;rw[CN];rfl
   refine⟨a,M',fun j x e=>g1 j x (qK g e),fun D' H F=>f _ _ (IV h9 F),k,fun p d=>?_⟩;rcases C50.1 d with rfl | d
   ·exact⟨ob,s,f _ _ (IV h9 A),g1 _ _ c,o,_,z,(BG B).mono (fun j x e=>g1 j x (qK g e)),.inr ⟨t,ob',u,ob',f _ _ G,fun _ _ h=>h⟩⟩
   ·exact q p d
theorem IW{l:List Oper}{fr:Fr}{E:List Nat}{d:Ed}{a:Sv}{M:Mo}:∀{c:List (Nat×List Nat)},jW P nt l fr E d a M c->∀p∈c,TaskOk P nt l fr E d a M p
 | [],_,p,hp=>by simp at hp
 | (i,D)::c,h,p,hp=>by
  obtain⟨⟨o,ob,s,e,f,g,j,k⟩,m⟩:=h;rcases C50.1 hp with rfl | hp
  ·rcases k with ⟨g1,b⟩ | ⟨g1,ob',obT,b,g3,g4⟩
   ·exact⟨ob,s,f,j,o,_,e,BG g,.inl ⟨g1,b⟩⟩
   ·exact⟨ob,s,f,j,o,_,e,BG g,.inr ⟨g1,ob',b,obT,g3,g4⟩⟩
  ·exact IW m p hp
def LZ(a:Ed):List Nat:=a.flatMap fun p=>p.2.2
def edOk(E:List Nat)(a:Ed):Bool:=E.all fun e=>a.any fun p=>Nat.beq p.1 e
theorem CP:∀{b:Ed} {e:Nat},(b.any fun p=>Nat.beq p.1 e)=true->(e,aQ b e)∈b
 | [],_,h=>by simp at h
 | (i,x)::r,e,h=>by
  by_cases a:i=e
  ·subst a;have:aQ ((i,x)::r) i=x:=by show cond (Nat.beq i i) _ _=_;rw[Nat.beq_refl];rfl
   rw[this];exact C56 ..
  ·have c:aQ ((i,x)::r) e=aQ r e:=by show cond (Nat.beq i e) _ _=_;rw[S4 a];rfl
   rw[c];simp only[List.any_cons,S4 a,C98]at h;exact C55 _ (CP h)
def Fin2(P:Program)(nt:Nat)(l:List Oper)(fr:Fr)(E:List Nat)(d:Ed)(T2:List (Nat×List Nat))(Q:Post)(b:Sv)(M:Mo):Prop :=
 (rZ l l.toArray b fr d&&(List.range l.length).all fun j=>(U2 b j).isSome)=true/\jW P nt l fr E d b M T2/\∃c,b8 M E=some c/\Q .normal (aR (LZ d) (oF l b fr)) c
theorem N7{id:Nat}{l:List Oper}{fr:Fr}{b:Obs}{Q:Post}(E:List Nat)(Ms:List (List Nat))(c:Ed)(T1 T2:List (Nat×List Nat))(I:P.follows .mixedOrders=true)
  (q:(conf2 nt l E Ms c (T1++T2)&&edOk E c)=true)(h:nX P nt l fr E c (Fin2 P nt l fr E c T2 Q) T1 [] [([],b)]):WpC P nt (.region id l.toArray true) fr b Q:=by
 simp only[C39]at q;obtain⟨y,M,L,A,⟨v,B,K,C,D⟩,F⟩:=CO h;simp only[C39]at v;refine c_core E Ms c (T1++T2) y M I q.1 (fun e w=>⟨aQ c e,CP (C47.1 q.2 e w),rfl⟩) v.1 (A [] b rfl) (fun p f=>?_) C (fun t s J=>?_) D
 ·rcases C49.1 f with f | f
  ·exact F p f
  ·exact IW B p f
 ·obtain⟨H,G⟩:=VB.1 J;refine⟨fun e w a=>H ?_,?_⟩
  ·have:=CP (C47.1 q.2 e w);exact List.mem_flatMap.2 ⟨_,this,a⟩
  ·rcases CM G with ⟨j,o,g1,u,k⟩ | ⟨g1,u⟩
   ·exact .inl ⟨j,o,u,k,g1⟩
   ·refine .inr ⟨fun a=>?_,g1⟩;obtain⟨j,o,k,z⟩:=uV a;have:=C47.1 v.2 j (C62.2 (C44.1 k).1);exact u j o (fun e=>by rw[e]at this;cases this) k z
theorem C6{l:List Oper}{fr:Fr}{E:List Nat}{b:Ed}{K:Sv->Mo->Prop}{i:Nat}{D:List Nat}{c:List (Nat×List Nat)}{a:Sv}{M:Mo}{o:Oper}{ob:Obs}{s:SV}(e:l[i]?=some o)(d:b8 M D=some ob)(g:eP l a o=true)
  (j:U2 a i=none)(f:F0 E i=false)(h:Neu P o (o8 (oF l a fr) (eM o.op)) ob (fun m=>m=s))(k:nX P nt l fr E b K c ((i,s)::a) M):nX P nt l fr E b K ((i,D)::c) a M :=
 ⟨o,ob,s,e,d,g,.inl j,.inl ⟨f,h,k⟩⟩
theorem Z4{l:List Oper}{fr:Fr}{E:List Nat}{b:Ed}{K:Sv->Mo->Prop}{i:Nat}{D:List Nat}{c:List (Nat×List Nat)}{a:Sv}{M:Mo}{o:Oper}{ob ob':Obs}{s:SV}(f:l[i]?=some o)(d:b8 M D=some ob)(j:eP l a o=true)
  (m:U2 a i=none)(g:F0 E i=true)(h:CL P nt o (o8 (oF l a fr) (eM o.op)) (aQ b i).1 (aQ b i).2 ob ob' s)(e:b8 M (kY i D)=none)(k:nX P nt l fr E b K c ((i,s)::a) ((kY i D,ob')::M)):nX P nt l fr E b K ((i,D)::c) a M :=
 ⟨o,ob,s,f,d,j,.inl m,.inr ⟨g,ob',h,e,k⟩⟩
theorem w_again{l:List Oper}{fr:Fr}{E:List Nat}{b:Ed}{K:Sv->Mo->Prop}{i:Nat}{D:List Nat}{c:List (Nat×List Nat)}{a:Sv}{M:Mo}{o:Oper}{ob ob':Obs}{s:SV}(f:l[i]?=some o)(d:b8 M D=some ob)(j:eP l a o=true)
  (m:U2 a i=some s)(g:F0 E i=true)(h:CL P nt o (o8 (oF l a fr) (eM o.op)) (aQ b i).1 (aQ b i).2 ob ob' s)(e:b8 M (kY i D)=none)(k:nX P nt l fr E b K c ((i,s)::a) ((kY i D,ob')::M)):nX P nt l fr E b K ((i,D)::c) a M :=
 ⟨o,ob,s,f,d,j,.inr m,.inr ⟨g,ob',h,e,k⟩⟩
theorem CQ{l:List Oper}{fr:Fr}{E:List Nat}{d:Ed}{T2:List (Nat×List Nat)}{Q:Post}{b:Sv}{M:Mo}{c:Obs}(f:(rZ l l.toArray b fr d&&(List.range l.length).all fun j=>(U2 b j).isSome)=true)(g:b8 M E=some c)
  (h:jW P nt l fr E d b M T2)(k:Q .normal (aR (LZ d) (oF l b fr)) c):nX P nt l fr E d (Fin2 P nt l fr E d T2 Q) [] b M:=⟨f,h,c,g,k⟩
theorem G4{l:List Oper}{fr:Fr}{E:List Nat}{b:Ed}{i:Nat}{D:List Nat}{c:List (Nat×List Nat)}{a:Sv}{M:Mo}{o:Oper}{ob:Obs}{s:SV}(e:l[i]?=some o)(d:b8 M D=some ob)(g:eP l a o=true)
  (j:U2 a i=some s)(f:F0 E i=false)(h:Neu P o (o8 (oF l a fr) (eM o.op)) ob (fun m=>m=s))(k:jW P nt l fr E b a M c):jW P nt l fr E b a M ((i,D)::c) :=
 ⟨⟨o,ob,s,e,d,g,j,.inl ⟨f,h⟩⟩,k⟩
theorem x_eff{l:List Oper}{fr:Fr}{E:List Nat}{c:Ed}{i:Nat}{D:List Nat}{e:List (Nat×List Nat)}{a:Sv}{M:Mo}{o:Oper}{ob ob' b:Obs}{s:SV}(j:l[i]?=some o)(f:b8 M D=some ob)(p:eP l a o=true)
  (q:U2 a i=some s)(m:F0 E i=true)(h:CL P nt o (o8 (oF l a fr) (eM o.op)) (aQ c i).1 (aQ c i).2 ob ob' s)(g:b8 M (kY i D)=some b)(d:PU b ob')(k:jW P nt l fr E c a M e):jW P nt l fr E c a M ((i,D)::e) :=
 ⟨⟨o,ob,s,j,f,p,q,.inr ⟨m,ob',b,h,g,d⟩⟩,k⟩
theorem lA{l:List Oper}{fr:Fr}{E:List Nat}{b:Ed}{a:Sv}{M:Mo}:jW P nt l fr E b a M []:=trivial
def A02(ob:Obs):List Nat->Obs->Prop
 | _,[]=>True
 | seen,(k,o)::r=>(F0 seen k=true\/B5 ob k=some o)/\A02 ob (k::seen) r
theorem CR{ob:Obs}:∀{c:Obs} {a:List Nat},A02 ob a c->∀k o,k∉a->B5 c k=some o->B5 ob k=some o
 | [],_,_,k,o,_,hk=>by simp[B5]at hk
 | (k',o')::r,a,⟨b,h2⟩,k,o,hs,hk=>by
  by_cases d:k'=k
  ·subst d;rw[B3]at hk;cases hk;rcases b with b | b
   ·exact absurd (aP.1 b) hs
   ·exact b
  ·rw[A8 d]at hk
   exact CR h2 k o (fun q=>by
    rcases C50.1 q with q | q
    ·exact d q.symm
    ·exact hs q) hk
theorem B37{a ob:Obs}(h:A02 ob [] a):PU a ob:=fun k o b=>CR h k o (by simp) b
theorem S7{U a:Fr}(d:CJ U a){x:Operand}{s:SV}(h:opv U x=some s):opv a x=some s:=by
 cases x with
 | tmp t =>
  have h:w7 U t=some s:=h;obtain⟨b,c⟩:=IL h;show w7 a t=some s;unfold w7;have:Nat.blt t 1000000=true:=by simpa using b
  rw[this];exact d t s c
 | _=>exact h
theorem argsU{U a:Fr}(d:CJ U a):∀{e:List Operand} {ps:List S1},aB U e=some ps->aB a e=some ps
 | [],ps,h=>h
 | x :: r,ps,h=>by
  unfold aB at h ⊢;cases c:opv U x with
  | none=>rw[c]at h;cases h
  | some sv =>
   rw[c]at h;cases sv with
   | s s0 =>
    simp only at h;cases b:aB U r with
    | none=>rw[b]at h;cases h
    | some qs =>
     rw[b]at h;rw[S7 d c];simp only;rw[argsU d b];exact h
   | _=>cases h
theorem r_alloc{U:Fr}{k:Nat}{e:TypeId}{z:Value}[hz:TyZero P e z]{ty:TypeId}{pos:String}{af:Array Edge}{q:Nat}{ob:Obs}(y:J9 k ob=true) :
  CL P nt ⟨some q,.alloc e,ty,pos,af,none⟩ U [k] [] ob ((k,.box (z.cells.toList.map fun c=>.p (.v c)))::ob) (.s (.one (.ref k 0))):=by
 intro u F g S G a w H D;obtain⟨A,B,C⟩:=H4 y;refine J4 (w':=w.alloc (.cells z.cells e)) (v:=.pointer (some ⟨w.heap.size,0,none⟩)) ?_ ?_
 ·simp[execOp,Instr.alloc,newVar,newRow,T5 hz.out.1]
 ·have j:Below w.heap.size w (w.alloc (.cells z.cells e)):=(Below.refl _ _).alloc (C45 _) _;have E:∀b,blk (.pointer (some ⟨w.heap.size,0,none⟩))=some b->w.heap.size<=b:=by intro b hb;simp[blk]at hb;omega
  have m:=D.new (o:=.box (z.cells.toList.map fun c=>.p (.v c))) C B j E ⟨w.heap.size,z.cells.toList,e,rfl,by rw[Array.toArray_toList];exact heap_alloc_new w _,bR _ hz.out.2⟩;rw[A]at m;refine⟨_,m.weaken (fun t x h=>?_),fun d _=>⟨w.heap.size,I8 _ _ _,rfl⟩⟩;obtain⟨_,h⟩:=VB.1 h;rw[O7,h];simp[SV.forget_free (g k (by simp) t x h (by simp))]
theorem gV{U:Fr}{j:Op}{ty:TypeId}{pos:String}{af:Array Edge}{ob ob':Obs}(h:∀b,CJ U b->Eff P ⟨none,j,ty,pos,af,none⟩ b ob b ob'):CL P nt ⟨none,j,ty,pos,af,none⟩ U [] [] ob ob' .any:=by
 intro b k _ S G a w s o;have:=h b k S G a w o;have g:aR [] b=b:=by unfold aR;exact List.filter_eq_self.2 fun p _=>rfl
 have c:∀(v:Value) (w':World),(∃G',Sim P S b ob' G' a w')->∃G',Sim P S (aR [] b) ob' G' a w'/\∀d,(none:Option Tmp)=some d->SV.rep (E5 (Mut S ob' G') w') G' .any v:=fun v w' ⟨G',h⟩=>⟨G',by rw[g];exact h,fun d l=>by cases l⟩
 unfold Does at this ⊢;generalize (execOp a.eval _).run P w=r at *;cases r with
 | ok n w' =>
  cases n<;>simp only at this ⊢<;>try exact this.elim
  case value v=>exact c v w' this
  case skip=>exact c undef w' this
  case enter f args=>exact this.mono fun e i ⟨v,m,q⟩=>⟨v,m,c v i q⟩
 | halt x w'=>exact this
theorem mL{U:Fr}{k:Nat}{c:List Nat}{o:Oper}{ob ob':Obs}{s:SV}(h:∀b,CJ U b->EffV P o b ob s (Fr.forget k b) ob'):CL P nt o U [k] c ob ob' s:=by
 intro b m g S G a w B z;have:=h b m S G a w z
 have i:∀(v:Value) (w':World),(∃G',Sim P S (Fr.forget k b) ob' G' a w'/\s.rep (E5 (Mut S ob' G') w') G' v)->∃G',Sim P S (aR c b) ob' G' a w'/\∀d,o.dst=some d->s.rep (E5 (Mut S ob' G') w') G' v:=fun v w' ⟨G',h,y⟩=>⟨G',h.weaken (fun t x j=>by
  obtain⟨q,j⟩:=VB.1 j;rw[O7,j]
  simp[SV.forget_free (g k (by simp) t x j q)]),fun _ _=>y⟩
 unfold Does at this ⊢;generalize (execOp a.eval _).run P w=r at *;cases r with
 | ok n w' =>
  cases n<;>simp only at this ⊢<;>try exact this.elim
  case value v=>exact i v w' this
  case skip=>exact i undef w' this
  case enter f args=>exact this.mono fun e l ⟨v,p,A⟩=>⟨v,p,i v l A⟩
 | halt x w'=>exact this
theorem sA:∀{a:List Nat} {fr:Fr} {t:Nat} {x:SV},D5 fr t=some x->(∀k∈a,x.free k=true)->D5 (B4 a fr) t=some x
 | [],_,_,_,h,_=>h
 | k::a,fr,t,x,h,hf=>by
  show D5 (B4 a (Fr.forget k fr)) t=some x;refine sA ?_ (fun c b=>hf c (C55 _ b));rw[O7,h];simp[SV.forget_free (hf k (C56 ..))]
theorem r_met{f:FuncId}{m:List Operand}{H:Array TypeId}{d:Nat}{ty:TypeId}{pos:String}{af:Array Edge}{U:Fr}{args:List S1}{Q E:List Nat}{ob ob':Obs}{W:List S1}
  (V:∀gf,Met P f args gf ob Q (fun N g=>N=W/\g=ob'))(ha:aB U m=some args)(Y:m.all H2=true):CL P nt ⟨some d,.call ⟨.value (.func f),m.toArray,H⟩,ty,pos,af,none⟩ U Q E ob ob' (mI W):=by
 intro b X B S G a w hn h;have D:=p8 h m args (argsU X ha) Y;obtain⟨F,I⟩:∃F:Nat->Value,F=fun i=>S.sl a (i-1000000):=⟨_,rfl⟩
 let S':Ctx:={ S with gv:=F }
 have C:High (eJ b):=fun i s J=>(Y1 b i s J).1;have j:∀i s,D5 (eJ b) i=some s->s.rep (E5 (Mut S' ob G) w) G (S'.sl a i):=by
  intro i s J;obtain⟨z,R⟩:=Y1 b i s J;rw[Ctx.sl_ge z];show s.rep _ _ (F i);have e:=congrFun I i;rw[e];exact h.facts (i-1000000) s R
 have hs:Sim P S' (eJ b) ob G a w:={ h with facts:=j }
 have p:=(V (eJ b)).2 C S' G a w _ hs D;have Z:(execOp a.eval ⟨some d,.call ⟨.value (.func f),m.toArray,H⟩,ty,pos,af,none⟩).run P w=.ok (.enter f (m.map a.eval).toArray) w:=by
  have:=M2 (P:=P) (f:=f) (args:=(m.map a.eval).toArray) (w:=w) (V []).1;have hm:m.toArray.map a.eval=(m.map a.eval).toArray:=by simp
  simp only[execOp,resolve,Act.eval,Deferred.ofValue,Sem.run_bind,Sem.run_pure,Result.andThen_ok,invoke];rw[show (#[]:Array Value)++Array.map a.eval m.toArray++#[]=(m.map a.eval).toArray by rw[<-hm];simp];exact this
 unfold Does;rw[Z];refine p.mono ?_;rintro e w' ⟨v,N,g,G',rfl,⟨rfl,rfl⟩,K,L⟩;have q:∀i s,D5 (B4 Q b) i=some s->s.rep (E5 (Mut S g G') w') G' (S.sl a i):=by
  intro i s J;have z:=L.facts (i+1000000) s (by rw[m6];exact mH J);have R:1000000<=i+1000000:=Nat.le_add_left _ _;rw[Ctx.sl_ge R]at z;have z:s.rep (E5 (Mut S g G') w') G' (F (i+1000000)):=z;have e:=congrFun I (i+1000000);simp only[Nat.add_sub_cancel]at e;rw[e]at z;exact z
 have M:Sim P S (B4 Q b) g G' a w':={ L with facts:=q }
 refine⟨v,rfl,G',M.weaken (fun t x O=>?_),fun _ _=>K⟩;obtain⟨hk,O⟩:=VB.1 O;exact sA O (fun k T=>B k T t x O hk)
theorem C32(k:Nat)(α:Type)(j:Nat)(c:α->Nat->Cell)(e:TypeId){kb o n m:Nat}{B:List TC}(hb:B5 ob kb=some (.tarr n m B))(J:B[o]?=some (.p (.v (.slice none 0 0))))(M:(J2 k fr&&J9 k ob)=true) :
  Sees P nt fr ob fr ((kb,.tarr n m (B.set o (.buf k α j c [])))::(k,.spare 0 j e)::ob):=by
 simp only[C39]at M;obtain⟨Q,R⟩:=M;obtain⟨T,C,W⟩:=H4 R;intro S G a w hn h;have D:=h.new W (o:=.spare 0 j e) (u:=.slice none 0 0) (w1:=w) C (Below.refl _ _) (fun b hb=>by simp[blk]at hb) ⟨[],World.ownsRow_nil w _ _ _⟩;rw[i7 Q,T]at D;have H:k≠kb:=fun U=>by rw[U,hb]at C;cases C
 have x:B5 ((k,Ob.spare 0 j e)::ob) kb=some (.tarr n m B):=by rw[A8 H];exact hb
 obtain⟨b,vs,t,V,hl,Z,N,ha⟩:=D.obs kb _ x;have d:blk (upd G k (.slice none 0 0) kb)=some b:=by rw[V];rfl
 refine⟨_,D.retell x d (fun i=>⟨d,trivial⟩) (fun i=>⟨d,trivial⟩) ?_⟩;rintro rd ⟨O,L,Y,E,I,F,g,q⟩;refine⟨O,L,Y,E,I,F,by simpa using g,C13 o (fun z X=>?_) q⟩;obtain⟨z',A,K⟩:=q.get o _ J;rw[X]at A;cases A;rw[K.1];exact⟨(I8 _ _ _).symm,t7 α j c⟩
def A03(L:Obs):List Nat:=L.map (·.1)
theorem D3{L c rest:Obs}(h:ObIn c L)(f:∀j x,F0 (A03 L) j=false->B5 rest j=some x->B5 c j=some x):∀j x,B5 (L++rest) j=some x->B5 c j=some x:=by
 have key:∀(L:Obs) (j:Nat) (x:Ob),B5 (L++rest) j=some x->(B5 L j=some x)\/(F0 (A03 L) j=false/\B5 rest j=some x):=by
  intro L;induction L with
  | nil=>intro j x a;exact .inr ⟨rfl,a⟩
  | cons p r g =>
   obtain⟨k,o⟩:=p;intro j x a;have a:B5 ((k,o)::(r++rest)) j=some x:=a;by_cases d:k=j
   ·subst d;rw[B3]at a;left;rw[B3];exact a
   ·rw[A8 d]at a;rcases g j x a with b | ⟨b,h2⟩
    ·left;rw[A8 d];exact b
    ·right;refine⟨?_,h2⟩;cases e:F0 (A03 ((k,o)::r)) j
     ·rfl
     ·rcases C50.1 (aP.1 e) with q | q
      ·exact absurd q.symm d
      ·rw[show F0 (A03 r) j=true from aP.2 q]at b;cases b
 intro j x a;rcases key L j x a with b | ⟨b,h2⟩
 ·exact h.spec j x b
 ·exact f j x b h2
theorem O3{K:List Nat}{rest:Obs}:∀j x,F0 K j=false->B5 rest j=some x->B5 rest j=some x:=fun _ _ _ h=>h
theorem U3{K:List Nat}{T rest:Obs}{k:Nat}{o:Ob}(b:F0 K k=true)(h:∀j x,F0 K j=false->B5 rest j=some x->B5 T j=some x):∀j x,F0 K j=false->B5 rest j=some x->B5 ((k,o)::T) j=some x:=by
 intro j x a c;have:k≠j:=fun e=>by rw[e,a]at b;cases b
 rw[A8 this];exact h j x a c
theorem obs_fgt{K:List Nat}{T ob:Obs}(k:Nat)(h:∀j x,F0 K j=false->B5 (Obs.forget k ob) j=some x->B5 T j=some x):∀j x,F0 K j=false->B5 (Obs.forget k ob) j=some x->B5 (Obs.forget k T) j=some x:=by
 intro j x d a;have c:=h j x d a;rw[K3,c];have b:=a;rw[<-Obs.forget_idem,K3,a]at b;exact b
theorem PW{rest:Obs}:∀{L:Obs} {j:Nat} {x:Ob},B5 (L++rest) j=some x->B5 L j=some x\/B5 rest j=some x
 | [],j,x,a=>.inr a
 | (k,o)::r,j,x,a=>by
  have a:B5 ((k,o)::(r++rest)) j=some x:=a;by_cases c:k=j
  ·subst c;rw[B3]at a;left;rw[B3];exact a
  ·rw[A8 c]at a;rcases PW a with b | b
   ·left;rw[A8 c];exact b
   ·exact .inr b
section
variable {P:Program}{nt:Nat}{fr gf:Fr}{ob:Obs}
theorem C05(k:Nat){l:Fr}{L:Obs}(M:FrLe fr l)(J:High gf)(N:Tail gf fr)(K:ObIn ob L):Sees P nt fr ob (l++Fr.forget k gf) (L++Obs.forget k ob):=by
 intro S G a w R h;have c:∀d m,B5 (L++Obs.forget k ob) d=some m->∃u,B5 ob d=some u/\(m=u\/m=u.forget k):=by
  intro d m j;rcases PW j with q | q
  ·exact⟨m,K.spec d m q,.inl rfl⟩
  ·rw[K3]at q;cases B:B5 ob d with
   | none=>rw[B]at q;cases q
   | some u=>rw[B]at q;cases q;exact⟨u,rfl,.inr rfl⟩
 have y:∀b i z,E5 (Mut S ob G) w b i z->E5 (Mut S (L++Obs.forget k ob) G) w b i z:=by
  intro b i z I;refine⟨I.1,fun H=>I.2 ?_⟩;rcases H with H | ⟨d,m,j,hb⟩
  ·exact .inl H
  ·obtain⟨u,A,rfl | rfl⟩:=c d m j
   ·exact .inr ⟨d,_,A,hb⟩
   ·exact .inr ⟨d,u,A,Own_forget.1 hb⟩
 refine⟨G,{ h with old:=?_,dis:=?_,obs:=?_,facts:=?_ }⟩
 ·intro d m b j hb;obtain⟨u,A,_⟩:=c d m j;exact h.old d u b A hb
 ·intro k1 k2 m O b q C E F;obtain⟨Q,ha,_⟩:=c k1 m q;obtain⟨ob',D,_⟩:=c k2 O C;exact h.dis k1 k2 Q ob' b ha D E F
 ·intro d m j;obtain⟨u,A,rfl | rfl⟩:=c d m j
  ·exact (h.obs d _ A).ext y (Below.refl _ _)
  ·exact ((h.obs d u A).ext y (Below.refl _ _)).forget (fun _ _=>rfl)
 ·intro i s p;rw[l9]at p;cases B:D5 l i with
  | some s0 =>
   rw[B]at p;have p:some s0=some s:=p;cases p;obtain⟨s1,q,C⟩:=M.spec i _ B;exact C.rep (SV.rep_mono y (h.facts i s1 q))
  | none =>
   rw[B]at p;have p:D5 (Fr.forget k gf) i=some s:=p;rw[O7]at p;cases v:D5 gf i with
   | none=>rw[v]at p;cases p
   | some s0 =>
    rw[v]at p;cases p;exact SV.rep_forget (fun _ _=>rfl) (SV.rep_mono y (h.facts i s0 (N i s0 (J i s0 v) v)))
end
theorem Sim.retold{S:Ctx}{G:Gh}{a:Act}{w:World}(h:Sim P S fr ob G a w){k:Nat}{o o':Ob}(E:B5 ob k=some o)(q:∀b i,Own (G k) o' b i->Own (G k) o b i)
  (D:∀H:Rd,ObOk S H G w (G k) o->ObOk S H G w (G k) o'):Sim P S fr ((k,o')::ob) G a w:=by
 have f:∀d j,B5 ((k,o')::ob) d=some j->∃p,B5 ob d=some p/\∀b i,Own (G d) j b i->Own (G d) p b i:=by
  intro d j c;by_cases g:d=k
  ·subst g;rw[B3]at c;cases c;exact⟨_,E,q⟩
  ·rw[A8 (Ne.symm g)]at c;exact⟨_,c,fun _ _ D=>D⟩
 have m:∀b i z,E5 (Mut S ob G) w b i z->E5 (Mut S ((k,o')::ob) G) w b i z:=by
  intro b i z F;refine⟨F.1,fun C=>F.2 ?_⟩;rcases C with C | ⟨d,j,c,hb⟩
  ·exact .inl C
  ·obtain⟨p,u,B⟩:=f d j c;exact .inr ⟨d,p,u,B _ _ hb⟩
 refine { h with old:=?_,dis:=?_,obs:=?_,facts:=?_ }
 ·intro d j b c hb;obtain⟨p,u,_⟩:=f d j c;exact h.old d p b u hb
 ·intro k1 k2 j K b I J y A;obtain⟨L,ha,_⟩:=f k1 j I;obtain⟨ob',v,_⟩:=f k2 K J;exact h.dis k1 k2 L ob' b ha v y A
 ·intro d j c;by_cases g:d=k
  ·subst g;rw[B3]at c;cases c;exact D _ ((h.obs d _ E).ext m (Below.refl _ _))
  ·rw[A8 (Ne.symm g)]at c;exact (h.obs d j c).ext m (Below.refl _ _)
 ·intro i s B;exact SV.rep_mono m (h.facts i s B)
theorem B38(k:Nat)(α:Type)(c:α->Nat->Cell){t e:TypeId}{x f:Nat}[ht:TySl P t e x f](y:Nat.ble x 100=true)(F:(J2 k fr&&J9 k ob)=true) :
  EffV P ⟨dst,.buildSlice t 0 #[],ty,pos,af,gd⟩ fr ob (.s (.one (.mut k))) fr ((k,.grow e α x c [])::ob):=by
 intro S G a w h;have E:=sY (P:=P) (dst:=dst) (ty:=ty) (pos:=pos) (af:=af) (gd:=gd) (ht:=ht) k (α:=α) (c:=c) (ys:=[]) (parts:=#[]) (n:=0) D2 rfl rfl y F S G a w h;refine uS E ?_;rintro v w' ⟨G',C,D⟩;have z:B5 ((k,Ob.spare ([]:List α).length x e)::ob) k=some (.spare 0 x e):=B3 _ _ _;obtain⟨L,q⟩:=C.obs k _ z;refine⟨G',((C.retold (o':=.grow e α x c []) z (fun b i I=>⟨I.1,by simp⟩) ?_).weakenO ?_),?_⟩
 ·rintro M ⟨K,A⟩;exact⟨K,A,by simp,fun i H=>absurd H (by simp)⟩
 ·intro J o' B;by_cases j:k=J
  ·subst j;rw[B3]at B ⊢;exact B
  ·rw[A8 j]at B ⊢;rw[A8 j];exact B
 ·exact⟨D.1,D.1 ▸ jA q⟩
theorem Sim.grow_cell{S:Ctx}{G:Gh}{a:Act}{w:World}(h:Sim P S fr ob G a w){k b n j i o f:Nat}{e:TypeId}{α:Type}{c:α->Nat->Cell}{m:List α}{v:α}(A:B5 ob k=some (.grow e α f c m))(x:G k=.slice (some ⟨b,0,none⟩) n j)(C:m[i]?=some v)(B:o<f) :
  ∃z,w.cell? ⟨b,i*f+o,none⟩=some z/\(c v o).rep (E5 (Mut S ob G) w) z:=by
 obtain⟨D,d,_,u⟩:=h.obs k _ A;obtain⟨y,rfl⟩:=C44.1 C;obtain⟨z,q,t⟩:=u i y o B;have:=d.cells (g:=b) (by rw[x];rfl) (i*f+o) z q;exact⟨z,by simpa[Addr.add_lit] using this,t⟩
theorem eQ{x:Operand}{t e:TypeId}{k i o:Nat}{α:Type}{j:Nat}{c:α->Nat->Cell}{y:List α}{v:α}[ht:TyOne P t](H:opv fr x=some (.s (.one (.mref k j i o))))(C:B5 ob k=some (.grow e α j c y))(F:y[i]?=some v)
  (D:Nat.blt o j=true):Neu P ⟨dst,.load t x,ty,pos,af,gd⟩ fr ob (fun I=>I=.s (.one (.p (c v o)))) :=
 E6 fun S G a w h=>by
  obtain⟨b,n,A,B,E⟩:=H8 h H;obtain⟨z,q,u⟩:=h.grow_cell C B F (by simpa using D);refine⟨z,?_,u⟩;simp only[execOp,E];exact M3 (by simp[Instr.loadAt,Instr.sureAddr,V5 q])
theorem gN{x:Operand}{t e:TypeId}{n k i o:Nat}{α:Type}{q:Nat}{c:α->Nat->Cell}{D:List α}{v:α}[ht:TyAgg P t n](O:opv fr x=some (.s (.one (.mref k q i o))))(J:B5 ob k=some (.grow e α q c D))(N:D[i]?=some v)
  (L:Nat.ble (o+n) q=true):Neu P ⟨dst,.load t x,ty,pos,af,gd⟩ fr ob (fun T=>T=.s (.agg ((cellsOf c v o n).map .p))) :=
 E6 fun S G a w h=>by
  obtain⟨b,m,E,I,M⟩:=H8 h O;have K:o+n<=q:=by simpa using L
  obtain⟨C,B,u⟩:=iX (R:=fun j z=>w.cell? ⟨b,i*q+(o+j),none⟩=some z/\(c v (o+j)).rep (E5 (Mut S ob G) w) z) n (fun j U=>h.grow_cell J I N (by omega));refine⟨.agg C.toArray,?_,C,rfl,?_⟩
  ·simp only[execOp,M];refine M3 ?_;simp[Instr.loadAt,Instr.sureAddr,o9 (ht:=ht) (o:=i*q+o) B (fun j z Q=>by rw[Nat.add_assoc];exact (u j z Q).1)]
  ·refine eF (by simp[B,M4]) fun j t z y H=>?_;rw[C96]at y;cases A:(cellsOf c v o n)[j]? with
   | none=>simp[A]at y
   | some F =>
    simp[A]at y;obtain⟨rfl,_⟩:=a6 c v n o j F A;subst y;exact (u j z H).2
theorem tail_drop{gf:Fr}{b:List Nat}(e:(b.all fun k=>Nat.blt k 1000000)=true)(h:Tail gf fr):Tail gf (aR b fr):=fun i s d c=>by
 refine VB.2 ⟨fun a=>?_,h i s d c⟩;have:=C47.1 e i a;have:i<1000000:=by simpa using this
 omega
theorem row_get{b:Nat}{c:List Value}{p o:Nat}(d:o<b):((c.drop (p*b)).take b)[o]?=c[p*b+o]?:=by
 rw[D04 d,C66]
theorem Sim.freezeG{S:Ctx}{G:Gh}{a:Act}{w:World}(h:Sim P S fr ob G a w){k:Nat}{α:Type}{ec:Nat}{c:α->Nat->Cell}{xs:List α}{e:TypeId}(hk:B5 ob k=some (.grow e α ec c xs))(ac:0<ec) :
  Sim P S (C12 (SV.freeze k α ec c xs) fr) (C06 (Ob.freeze k α ec c xs) (Obs.drop k ob)) G a w:=by
 have T:=h.drop k;obtain⟨Y,V,U,hc⟩:=h.obs k _ hk;have v:∀q o,B5 (C06 (Ob.freeze k α ec c xs) (Obs.drop k ob)) q=some o->∃E,B5 (Obs.drop k ob) q=some E/\o=E.freeze k α ec c xs:=by
  intro q o d;rw[getO_mapO]at d;cases C:B5 (Obs.drop k ob) q with
  | none=>simp[C]at d
  | some E=>simp[C]at d;exact⟨E,rfl,d.symm⟩
 have K:∀(u:Value) (o:Ob) (b i:Nat),Own u (o.freeze k α ec c xs) b i↔Own u o b i:=by intro u o b i;cases o<;>simp[Own,Ob.freeze]
 have I:∀b i,Mut S (C06 (Ob.freeze k α ec c xs) (Obs.drop k ob)) G b i->Mut S (Obs.drop k ob) G b i:=by
  intro b i A;rcases A with A | ⟨q,o,d,hb⟩
  ·exact .inl A
  ·obtain⟨E,R,rfl⟩:=v q o d;exact .inr ⟨q,E,R,(K _ _ _ _).1 hb⟩
 have M:∀b i z,E5 (Mut S (Obs.drop k ob) G) w b i z->E5 (Mut S (C06 (Ob.freeze k α ec c xs) (Obs.drop k ob)) G) w b i z:=fun b i z L=>⟨L.1,fun A=>L.2 (I b i A)⟩
 have W:∀b i z,E5 (Mut S ob G) w b i z->E5 (Mut S (Obs.drop k ob) G) w b i z:=by
  intro b i z L;refine⟨L.1,fun A=>L.2 ?_⟩;rcases A with A | ⟨q,o',d,hb⟩
  ·exact .inl A
  ·refine .inr ⟨q,o',?_,hb⟩;by_cases D:q=k
   ·subst D;rw[Y0]at d;cases d
   ·rwa[S2 D]at d
 have f:(Cell.list α ec c xs).rep (E5 (Mut S (C06 (Ob.freeze k α ec c xs) (Obs.drop k ob)) G) w) (G k):=by
  refine gC V ac U ?_ (fun i N j hj=>let ⟨z,y,B⟩:=hc i N j hj;⟨z,y,Cell.rep_mono (fun _ _ _ L=>M _ _ _ (W _ _ _ L)) _ _ B⟩);intro g hg j z hj J;refine⟨J,fun A=>?_⟩;rcases I _ _ A with A | ⟨q,o',d,hb,_⟩
  ·have:=h.m0 _ _ A;rcases h.old k _ g hk hg with y | y
   ·omega
   ·exact h.m0io _ _ A y.1
  ·by_cases D:q=k
   ·subst D;rw[Y0]at d;cases d
   ·rw[S2 D]at d;exact D (h.dis q k o' _ g d hk hb hg)
 exact { T with
  old:=fun q o b d=>let ⟨E,R,_⟩:=v q o d;T.old q E b R
  dis:=fun k1 k2 o1 o2 b y B=>let ⟨oa,ha,_⟩:=v k1 o1 y;let ⟨ob',ab,_⟩:=v k2 o2 B;T.dis k1 k2 oa ob' b ha ab
  obs:=fun q o d=>by
   obtain⟨E,R,rfl⟩:=v q o d;have m:=(T.obs q E R).ext M (Below.refl _ _);cases E with
   | box X=>obtain⟨O,F,t',y,B,H⟩:=m;exact⟨O,F,t',y,B,H.map (TC.freeze k α ec c xs) fun _ _=>TC.rep_freeze f⟩
   | tbx e X=>obtain⟨O,F,y,B,H⟩:=m;exact⟨O,F,y,B,H.map (TC.freeze k α ec c xs) fun _ _=>TC.rep_freeze f⟩
   | tarr n Q X=>obtain⟨O,F,t',y,hl,B,hn,H⟩:=m;exact⟨O,F,t',y,hl,B,by simpa using hn,H.map (TC.freeze k α ec c xs) fun _ _=>TC.rep_freeze f⟩
   | arr=>exact m
   | spare=>exact m
   | grow=>exact m
   | map=>exact m
   | growA e' α' Q c' ad p X=>obtain⟨Y,y,B,H,Z,h5,h6⟩:=m;exact⟨Y,y,B,H,by simpa using Z,h5,h6.map (TC.freeze k α ec c xs) fun _ _=>TC.rep_freeze f⟩
   | growT e' n' Q X=>obtain⟨Y,y,B,H,Z⟩:=m;exact⟨Y,y,B,by simpa using H,Z.map (TC.freeze k α ec c xs) fun _ _=>TC.rep_freeze f⟩
  facts:=fun i s N=>by
   rw[qG]at N;cases C:D5 fr i with
   | none=>simp[C]at N
   | some s0 =>
    simp[C]at N;subst N
    exact SV.rep_freeze f (SV.rep_mono M (T.facts i s0 C)) }
theorem Sees.freezeG{k:Nat}{α:Type}{ec:Nat}{c:α->Nat->Cell}{xs:List α}{e:TypeId}(d:B5 ob k=some (.grow e α ec c xs))(b:Nat.blt 0 ec=true) :
  Sees P nt fr ob (C12 (SV.freeze k α ec c xs) fr) (C06 (Ob.freeze k α ec c xs) (Obs.drop k ob)):=fun S G a w f h=>⟨G,h.freezeG d (by simpa using b)⟩
theorem Sees.fewer{ob':Obs}(b:∀k o,B5 ob' k=some o->B5 ob k=some o):Sees P nt fr ob fr ob':=fun S G a w d c=>⟨G,c.weakenO b⟩
theorem C10(k:Nat)(α:Type)(ec:Nat)(c:α->Nat->Cell)(e:TypeId){kb o:Nat}{q:List TC}(hb:B5 ob kb=some (.box q))(F:q[o]?=some (.p (.v (.slice none 0 0))))(J:(J2 k fr&&J9 k ob)=true) :
  Sees P nt fr ob fr ((kb,.box (q.set o (.mut k)))::(k,.grow e α ec c [])::ob):=by
 simp only[C39]at J;obtain⟨L,M⟩:=J;obtain⟨N,A,T⟩:=H4 M;intro S G a w X h;have B:=h.new T (o:=.grow e α ec c []) (u:=.slice none 0 0) (w1:=w) A (Below.refl _ _) (fun b hb=>by simp[blk]at hb) ⟨[],World.ownsRow_nil w _ _ _,by simp,fun i R=>absurd R (by simp)⟩;rw[i7 L,N]at B;have E:k≠kb:=fun O=>by rw[O,hb]at A;cases A
 have j:B5 ((k,Ob.grow e α ec c [])::ob) kb=some (.box q):=by rw[A8 E];exact hb
 obtain⟨b,Z,t,Q,W,ha⟩:=B.obs kb _ j;have d:blk (upd G k (.slice none 0 0) kb)=some b:=by rw[Q];rfl
 refine⟨_,B.retell j d (fun i=>⟨d,trivial⟩) (fun i=>⟨d,trivial⟩) ?_⟩;rintro Y ⟨K,I,V,C,D,f⟩;refine⟨K,I,V,C,D,C13 o (fun z U=>?_) f⟩;obtain⟨z',n,H⟩:=f.get o _ F;rw[U]at n;cases n;rw[H.1];exact⟨(I8 _ _ _).symm,rfl⟩
theorem PY{c:Rd}{G:Gh}:∀{b:List TC} {a:List Value},All2 (TC.rep c G) b a->∀u∈a,u.oneCell'=true
 | [],[],_,u,hu=>by cases hu
 | t::b,v::a,h,u,hu=>by
  rcases C50.1 hu with rfl | hu
  ·exact TC.rep_one h.1
  ·exact PY h.2 u hu
theorem B39(k:Nat){t e:TypeId}{q H:Nat}{x:Operand}{s:S1}[ht:TySl P t e q H](hx:opv fr x=some (.s s))(hc:H2 x=true)(O:s.cells.length=q)(M:Nat.ble q 100=true)
  (V:s.cells.all (TC.free k)=true)(hf:(J2 k fr&&J9 k ob)=true):EffV P ⟨dst,.buildSlice t 1 #[(0,x)],ty,pos,af,gd⟩ fr ob (.s (.one (.mut k))) fr ((k,.tarr 1 q s.cells)::ob):=by
 simp only[C39]at hf;obtain⟨R,T⟩:=hf;obtain⟨X,hk,Y⟩:=H4 T;have U:=i7 R;intro S G a w h;have ad:=ht.out.2.2.1;have ac:q<=100:=by simpa using M
 obtain⟨_,_,_,_,D⟩:=ht.out;cases W:P.info? e with
 | none=>simp[W]at D
 | some i =>
 cases hz:i.zero with
 | none=>simp[W,hz]at D
 | some z =>
 have Z:(P.info? e).bind (·.zero)=some z:=by simp[W,hz]
 have C:=C08 (s:=s) (Y7 h hx hc);have N:(a.eval x).cells.size=q:=by rw[<-O,C.length];simp
 let B:Array Value:=(Array.range (1*q)).map (z.cells[· % z.cells.size]!);have ab:B.size=q:=by simp[B]
 have J:Instr.fill (fun i=>some (i*q,q)) B [(0,a.eval x)]=some (a.eval x).cells.toList.toArray:=by
  have K:(a.eval x).cells.zipIdx.foldl (fun cs (x:Value×Nat)=>cs.setIfInBounds (0*q+x.2) x.1) B=(B.toList.take (0*q)++(a.eval x).cells.toList++B.toList.drop (0*q+(a.eval x).cells.toList.length)).toArray:=by
   rw[<-Array.foldl_toList,Array.toList_zipIdx];have:=uN (0*q) (a.eval x).cells.toList 0 B (by simp;omega);simpa using this
  simp only[Instr.fill,N,ne_eq,not_true_eq_false,decide_false,C98,decide_eq_true_eq];rw[A7 (by omega),K];have:B.toList.drop (0*q+(a.eval x).cells.toList.length)=[]:=by rw[List.drop_eq_nil_iff];simp;omega
  rw[this];simp
 refine J4 (w':=w.alloc (.cells (a.eval x).cells.toList.toArray e)) (v:=.slice (some ⟨w.heap.size,0,none⟩) 1 1) ?_ ?_
 ·simp only[execOp];refine M3 ?_;simp only[Instr.buildSlice,Sem.run_bind,run_underlying ht.out.1,Result.andThen_ok,J1 ht.size];rw[A7 (by omega)];rw[A7 (by omega)];simp only[Sem.run_bind,T5 Z,Sem.run_pure,Result.andThen_ok];have hp:(#[(0,x)]:Array (Nat×Operand)).map (fun (x:Nat×Operand)=>match x with | (i,x)=>(i,a.eval x))=#[(0,a.eval x)]:=by simp
  rw[hp];have E:Instr.fill (fun i=>some (i*q,q)) ((Array.range (1*q)).map (z.cells[· % z.cells.size]!)) (#[(0,a.eval x)]:Array (Nat×Value)).toList=some (a.eval x).cells.toList.toArray:=J;rw[E];simp[newRow]
 ·have Q:Below w.heap.size w (w.alloc (.cells (a.eval x).cells.toList.toArray e)):=(Below.refl _ _).alloc (C45 _) _;have hu:∀b,blk (.slice (some ⟨w.heap.size,0,none⟩) 1 1)=some b->w.heap.size<=b:=by intro b hb;simp[blk]at hb;omega
  have F:=h.new Y hk (o:=.tarr 1 q s.cells) (u:=.slice (some ⟨w.heap.size,0,none⟩) 1 1) Q hu (by
   refine⟨w.heap.size,(a.eval x).cells.toList,e,rfl,by omega,heap_alloc_new w _,by rw[O];omega,?_⟩;have h1:All2 (TC.rep (E5 (Mut S ((k,Ob.tarr 1 q s.cells)::Obs.forget k ob) (upd G k (.slice (some ⟨w.heap.size,0,none⟩) 1 1))) (w.alloc (.cells (a.eval x).cells.toList.toArray e))) G) s.cells (a.eval x).cells.toList :=
    C.mono fun _ _=>TC.rep_mono (fun _ _ _ hr=>h.rd_new Q hu hr)
   have h2:=h1.map (TC.forget k) (fun _ _=>TC.rep_forget (G':=upd G k (.slice (some ⟨w.heap.size,0,none⟩) 1 1)) (fun j hj=>bS G _ hj))
   rwa[cJ V]at h2)
  rw[U,X]at F;exact⟨_,F,(I8 _ _ _).symm,rfl⟩
def TC.refs:TC->List Nat
 | .buf k _ _ _ _=>[k]
 | .ref k _=>[k]
 | .mut k=>[k]
 | .mref k _ _ _=>[k]
 | .msl k _ _ _=>[k]
 | .clo _ d a=>d.map (·.1)++a.map (·.1)
 | .ifc _ k _=>[k]
 | _=>[]
def S1.refs:S1->List Nat
 | .one t=>t.refs
 | .agg b=>b.flatMap TC.refs
def SV.refs:SV->List Nat
 | .s x=>x.refs
 | .tup l=>l.flatMap S1.refs
 | _=>[]
def Ob.refs:Ob->List Nat
 | .box c=>c.flatMap TC.refs
 | .tbx _ c=>c.flatMap TC.refs
 | .tarr _ _ c=>c.flatMap TC.refs
 | .growA _ _ _ _ _ _ c=>c.flatMap TC.refs
 | .growT _ _ _ c=>c.flatMap TC.refs
 | _=>[]
def CS:Fr->List Nat
 | []=>[]
 | (_,s)::r=>s.refs++CS r
def oT:Obs->List Nat
 | []=>[]
 | (_,o)::r=>o.refs++oT r
theorem oU{G G':Gh}:∀{l:List (Nat×Nat)} {a:List Value},(∀k∈l.map (·.1),G' k=G k)->All2 (fP G) l a->All2 (fP G') l a
 | [],[],_,_=>trivial
 | [],_::_,_,h=>h.elim
 | _::_,[],_,h=>h.elim
 | p::l,u::a,hk,h=>by
  obtain⟨⟨b,d,e⟩,f⟩:=h;exact⟨⟨b,by rw[hk p.1 (by simp)];exact d,e⟩,oU (fun k c=>hk k (by simp at c ⊢;exact .inr c)) f⟩
theorem TC.rep_congr{g:Rd}{G G':Gh}:∀{t:TC} {u:Value},(∀k∈t.refs,G' k=G k)->t.rep g G u->t.rep g G' u
 | .p _,_,_,h=>h
 | .eref _ _ _ _ _,_,_,h=>h
 | .any,_,_,h=>h
 | .full _ _ _ _,_,_,h=>h
 | .ifc _ k _,_,hk,h=>by simp only[TC.rep];rw[hk k (by simp[TC.refs])];exact h
 | .fnc _ _,_,_,h=>h
 | .fncE _ _ _ _ _,_,_,h=>h
 | .buf k _ _ _ _,_,hk,h=>⟨by rw[hk k (by simp[TC.refs])];exact h.1,h.2⟩
 | .ref k _,_,hk,h=>by simp only[TC.rep];rw[hk k (by simp[TC.refs])];exact h
 | .mut k,_,hk,h=>by simp only[TC.rep];rw[hk k (by simp[TC.refs])];exact h
 | .mref k _ _ _,_,hk,h=>by simp only[TC.rep];rw[hk k (by simp[TC.refs])];exact h
 | .msl k _ _ _,_,hk,h=>by simp only[TC.rep];rw[hk k (by simp[TC.refs])];exact h
 | .clo _ nf nc,_,hk,⟨vs,ws,h1,h2,h3⟩=>⟨vs,ws,h1,oU (fun k d=>hk k (by simp only[TC.refs,C49];exact .inl d)) h2,oU (fun k d=>hk k (by simp only[TC.refs,C49];exact .inr d)) h3⟩
theorem bI{d:Rd}{G G':Gh}:∀{a:List TC} {c:List Value},(∀k∈a.flatMap TC.refs,G' k=G k)->All2 (TC.rep d G) a c->All2 (TC.rep d G') a c
 | [],[],_,_=>trivial
 | [],_::_,_,h=>h.elim
 | _::_,[],_,h=>h.elim
 | t::a,v::c,hs,h=>⟨TC.rep_congr (fun k b=>hs k (by rw[List.flatMap_cons];exact C49.2 (.inl b))) h.1,bI (fun k b=>hs k (by rw[List.flatMap_cons];exact C49.2 (.inr b))) h.2⟩
theorem S1.rep_congr{b:Rd}{G G':Gh}:∀{t:S1} {u:Value},(∀k∈t.refs,G' k=G k)->t.rep b G u->t.rep b G' u
 | .one t,u,hs,h=>TC.rep_congr (t:=t) hs h
 | .agg ts,u,hs,⟨vs,h1,h2⟩=>⟨vs,h1,bI hs h2⟩
theorem yY{d:Rd}{G G':Gh}:∀{a:List S1} {c:List Value},(∀k∈a.flatMap S1.refs,G' k=G k)->All2 (S1.rep d G) a c->All2 (S1.rep d G') a c
 | [],[],_,_=>trivial
 | [],_::_,_,h=>h.elim
 | _::_,[],_,h=>h.elim
 | t::a,v::c,hs,h=>⟨S1.rep_congr (fun k b=>hs k (by rw[List.flatMap_cons];exact C49.2 (.inl b))) h.1,yY (fun k b=>hs k (by rw[List.flatMap_cons];exact C49.2 (.inr b))) h.2⟩
theorem SV.rep_congr{b:Rd}{G G':Gh}:∀{t:SV} {u:Value},(∀k∈t.refs,G' k=G k)->t.rep b G u->t.rep b G' u
 | .s t,u,hs,h=>S1.rep_congr (t:=t) hs h
 | .tup ts,u,hs,⟨vs,h1,h2⟩=>⟨vs,h1,yY hs h2⟩
 | .any,_,_,_=>trivial
 | .un,_,_,h=>h
theorem ObOk.congr{S:Ctx}{r:Rd}{G G':Gh}{w:World}{u:Value}{o:Ob}(l:∀k∈o.refs,G' k=G k)(h:ObOk S r G w u o):ObOk S r G' w u o:=by
 cases o with
 | box m=>obtain⟨b,g,t,a,d,f⟩:=h;exact⟨b,g,t,a,d,bI l f⟩
 | tbx e m=>obtain⟨b,g,a,d,f⟩:=h;exact⟨b,g,a,d,bI l f⟩
 | tarr n i m=>obtain⟨b,g,t,a,d,f,j,q⟩:=h;exact⟨b,g,t,a,d,f,j,bI l q⟩
 | growA e α i c xs p m=>obtain⟨g,a,d,f,j,q,s⟩:=h;exact⟨g,a,d,f,j,q,bI l s⟩
 | growT e n i m=>obtain⟨g,a,d,f,j⟩:=h;exact⟨g,a,d,f,bI l j⟩
 | arr α i c xs=>exact h
 | map κ x v=>exact h
 | spare n i e=>exact h
 | grow e α i c xs=>exact h
theorem CT:∀{fr:Fr} {i:Nat} {s:SV},D5 fr i=some s->∀k∈s.refs,k∈CS fr
 | [],i,s,h,_,_=>by cases h
 | (j,x)::r,i,s,h,k,hm=>by
  unfold D5 at h;unfold CS;cases hb:Nat.beq j i
  ·rw[hb]at h;exact C49.2 (.inr (CT h k hm))
  ·rw[hb]at h;cases h;exact C49.2 (.inl hm)
theorem tD:∀{ob:Obs} {i:Nat} {o:Ob},B5 ob i=some o->∀k∈o.refs,k∈oT ob
 | [],i,s,h,_,_=>by cases h
 | (j,x)::r,i,s,h,k,hm=>by
  unfold B5 at h;unfold oT;cases hb:Nat.beq j i
  ·rw[hb]at h;exact C49.2 (.inr (tD h k hm))
  ·rw[hb]at h;cases h;exact C49.2 (.inl hm)
theorem IX:∀{a b:Obs} {k:Nat},B5 (a++b) k=match B5 a k with | some o=>some o | none=>B5 b k
 | [],b,k=>rfl
 | (j,x)::r,b,k=>by
  show (bif Nat.beq j k then some x else B5 (r++b) k)=(match (bif Nat.beq j k then some x else B5 r k) with | some o=>some o | none=>B5 b k)
  cases Nat.beq j k
  ·exact IX (a:=r)
  ·rfl
def A04(b:List S1)(ob':Obs)(fr:Fr)(ob:Obs):Bool :=
 (b.flatMap S1.refs++oT ob').all (fun k=>(B5 ob' k).isSome)&&(CS fr++oT ob).all (fun k=>(B5 ob' k).isNone)&&ob.all (fun p=>(B5 ob' p.1).isNone)
theorem PZ:∀{ob:Obs} {k:Nat} {o:Ob},B5 ob k=some o->∃p∈ob,p.1=k
 | [],k,o,h=>by cases h
 | (j,x)::r,k,o,h=>by
  unfold B5 at h;cases hb:Nat.beq j k
  ·rw[hb]at h;obtain⟨p,a,b⟩:=PZ h;exact⟨p,C55 _ a,b⟩
  ·exact⟨_,C56,by simpa using hb⟩
theorem jC{w:World}{B B':Nat}{e:TypeId}{d n:Nat}{v:Value}{f:List Value}(g:B<=B')(h:w.ownsRow B' e d v n f):w.ownsRow B e d v n f :=
 ⟨h.1,h.2.imp id fun ⟨b,a,c,i,hb,r⟩=>⟨b,a,c,i,C82 g hb,r⟩⟩
theorem ObOk.low{S S':Ctx}{j:Rd}{G:Gh}{w:World}{u:Value}{o:Ob}(g:S.B<=S'.B)(h:ObOk S' j G w u o):ObOk S j G w u o:=by
 cases o with
 | box i=>exact h
 | tbx e i=>exact h
 | tarr n d i=>exact h
 | arr α d c k=>exact h
 | map κ m l=>exact h
 | spare n d e=>obtain⟨b,a⟩:=h;exact⟨b,jC g a⟩
 | grow e α d c k=>obtain⟨b,a,f⟩:=h;exact⟨b,jC g a,f⟩
 | growA e α d c k p i=>obtain⟨b,a,f⟩:=h;exact⟨b,jC g a,f⟩
 | growT e n d i=>obtain⟨b,a,f⟩:=h;exact⟨b,jC g a,f⟩
variable {rest:List Oper}{Q:Post}{d:Nat}
theorem fS{f:FuncId}{V:List Operand}{al:Array TypeId}{ty:TypeId}{pos:String}{af:Array Edge}{args:List S1}{ks:List Nat}{U:List S1->Obs->Prop}
  (hf:Met P f args [] [] ks U)(ha:aB fr V=some args)(hc:V.all H2=true)(aw:(args.flatMap S1.refs).isEmpty=true)(hd:Nat.blt d nt=true)
  (kk:∀rs ob',U rs ob'->A04 rs ob' fr ob=true/\WpL P nt ops rest ((d,mI rs)::fr) (ob'++ob) Q):WpL P nt ops (⟨some d,.call ⟨.value (.func f),V.toArray,al⟩,ty,pos,af,none⟩::rest) fr ob Q:=by
 intro S G a w hn h;have ak:=p8 h V args ha hc;let S':Ctx:={ S with w0:=w,M0:=fun b i=>Mut S ob G b i,io:=fun _=>False }
 have aq:S'.B=w.heap.size:=rfl;have ag:High ([]:Fr):=fun i s hi=>by cases hi
 have am:Grd P (fun _=>False) w:=by
  obtain⟨wg,h1,M,O⟩:=h.grd;refine⟨wg,h1,C82 M h.size,fun j F=>?_⟩;obtain⟨h4,h5⟩:=O j F;exact⟨(h.keep j (C93 F M) h5).trans h4,fun e=>e⟩
 have hs:Sim P S' [] [] G a w:={ nt:=h.nt,ntb:=h.ntb,defers:=h.defers,os:=rfl,tape:=rfl,output:=rfl,size:=C45 _,keep:=fun _ _ _=>rfl,m0:=fun b i J=>h.mut_lt J,m0io:=fun _ _ _ e=>e,grd:=am,pin:=h.pin,old:=fun _ _ _ e=>(by cases e),dis:=fun _ _ _ _ _ e=>(by cases e),obs:=fun _ _ e=>(by cases e),facts:=fun _ _ e=>(by cases e) }
 have an:∀b i z,E5 (Mut S ob G) w b i z->E5 (Mut S' [] G) w b i z:=fun b i z W=>⟨W.1,fun J=>W.2 (by
  rcases J with J | ⟨k,o,q,_⟩
  ·exact J
  ·cases q)⟩
 have ab:=hf.2 ag S' G a w _ hs (ak.mono fun _ _=>S1.rep_mono an);refine wpList_plain rfl fun K hK=>N4 (K:=fun v w'=>∃rs ob' G',U rs ob'/\dT (E5 (Mut S' ob' G') w') G' rs v/\Sim P S' (B4 ks []) ob' G' a w') ?_ ?_
 ·have he:(execOp a.eval ⟨some d,.call ⟨.value (.func f),V.toArray,al⟩,ty,pos,af,none⟩).run P w=.ok (.enter f (V.map a.eval).toArray) w:=by
   have:=M2 (P:=P) (f:=f) (args:=(V.map a.eval).toArray) (w:=w) hf.1;have J:V.toArray.map a.eval=(V.map a.eval).toArray:=by simp
   simp only[execOp,resolve,Act.eval,Deferred.ofValue,Sem.run_bind,Sem.run_pure,Result.andThen_ok,invoke];rw[show (#[]:Array Value)++Array.map a.eval V.toArray++#[]=(V.map a.eval).toArray by rw[<-J];simp];exact this
  unfold Does;rw[he];refine ab.mono ?_;rintro e w' ⟨v,rs,ob',G',rfl,ai,T,C⟩;exact⟨v,rfl,rs,ob',G',ai,T,C⟩
 ·rintro v w' ⟨rs,ob',G',hp,T,C⟩;obtain⟨ac,au⟩:=kk rs ob' hp;simp only[A04,C39,C47,C49]at ac;obtain⟨⟨n1,n2⟩,n3⟩:=ac;have av:∀{k o},B5 ob k=some o->B5 ob' k=none:=fun {k o} q=>by
   obtain⟨p,p1,p2⟩:=PZ q;have:=n3 p p1;rw[p2]at this;simpa using this
  obtain⟨H,hH⟩:∃H:Gh,H=fun k=>match B5 ob' k with | some _=>G' k | none=>G k:=⟨_,rfl⟩
  have X:∀{k},(B5 ob' k).isSome=true->H k=G' k:=fun {k} q=>by
   rw[hH];dsimp only;cases R:B5 ob' k with
   | none=>rw[R]at q;cases q
   | some o=>rfl
  have Y:∀{k},(B5 ob' k).isNone=true->H k=G k:=fun {k} q=>by
   rw[hH];dsimp only;cases R:B5 ob' k with
   | none=>rfl
   | some o=>rw[R]at q;cases q
  have ah:d<S.nt:=by rw[hn];simpa using hd
  have ap:w.heap.size<=w'.heap.size:=C.size;have I:∀k,k<w.heap.size->w'.heap[k]?=w.heap[k]?:=fun k q=>C.keep k q (fun e=>e);have L:∀k o b,B5 ob' k=some o->blk (G' k)=some b->w.heap.size<=b:=fun k o b h1 M=>by
   rcases C.old k o b h1 M with O | O
   ·exact O
   ·exact O.1.elim
  have D:∀{k o},B5 (ob'++ob) k=some o->(B5 ob' k=some o/\H k=G' k)\/(B5 ob k=some o/\H k=G k):=fun {k o} q=>by
   rw[IX]at q;cases R:B5 ob' k with
   | some o'=>rw[R]at q;exact .inl ⟨q,X (by rw[R];rfl)⟩
   | none=>rw[R]at q;exact .inr ⟨q,Y (by rw[R];rfl)⟩
  have ad:∀b i z,E5 (Mut S' ob' G') w' b i z->E5 (Mut S (ob'++ob) H) w' b i z:=fun b i z W=>⟨W.1,fun J=>W.2 (by
   rcases J with J | ⟨k,o,q,hb⟩
   ·exact .inl (.inl J)
   ·rcases D q with ⟨k1,e⟩ | ⟨k1,e⟩
    ·rw[e]at hb;exact .inr ⟨k,o,k1,hb⟩
    ·rw[e]at hb;exact .inl (.inr ⟨k,o,k1,hb⟩))⟩
  have ae:∀b i z,E5 (Mut S ob G) w b i z->E5 (Mut S (ob'++ob) H) w' b i z:=fun b i z W=>by
   have ah:b<w.heap.size:=World.block_lt_of_cell? w _ W.1;refine⟨by rw[World.cell?_of_block (w:=w) (a:=⟨b,i,none⟩) (I b ah)];exact W.1,fun J=>?_⟩;rcases J with J | ⟨k,o,q,hb⟩
   ·exact W.2 (.inl J)
   ·rcases D q with ⟨k1,e⟩ | ⟨k1,e⟩
    ·rw[e]at hb;have:=L k o b k1 hb.1;omega
    ·rw[e]at hb;exact W.2 (.inr ⟨k,o,k1,hb⟩)
  have Z:Below w.heap.size w w':=⟨C.os,C.tape,C.output,ap,fun k q=>I k q⟩
  have ao:Sim P S fr (ob'++ob) H a w':=by
   refine { nt:=h.nt,ntb:=h.ntb,defers:=h.defers,os:=C.os.trans h.os,tape:=C.tape.trans h.tape,output:=C.output.trans h.output,size:=C82 h.size ap,keep:=fun k q ar=>(I k (C93 q h.size)).trans (h.keep k q ar),m0:=h.m0,m0io:=h.m0io,grd:=h.grd,pin:=fun k q=>?_,old:=fun k o b h1 M=>?_,dis:=fun k k' o o' b h1 M O h4=>?_,obs:=fun k o q=>?_,facts:=fun i s hi=>?_ }
   ·cases R:B5 ob' k with
    | some o=>rw[X (by rw[R];rfl)];exact C.pin k q
    | none=>rw[Y (by rw[R];rfl)];exact h.pin k q
   ·rcases D h1 with ⟨k1,e⟩ | ⟨k1,e⟩
    ·rw[e]at M;exact .inl (C82 h.size (L k o b k1 M))
    ·rw[e]at M;exact h.old k o b k1 M
   ·rcases D h1 with ⟨k1,e1⟩ | ⟨k1,e1⟩<;>rcases D M with ⟨k2,e2⟩ | ⟨k2,e2⟩<;>rw[e1]at O<;>rw[e2]at h4
    ·exact C.dis k k' o o' b k1 k2 O h4
    ·have:=L k o b k1 O;have:=(h.obs k' o' k2).blk_lt _ h4;omega
    ·have:=L k' o' b k2 h4;have:=(h.obs k o k1).blk_lt _ O;omega
    ·exact h.dis k k' o o' b k1 k2 O h4
   ·rcases D q with ⟨k1,e⟩ | ⟨k1,e⟩
    ·rw[e];exact (((C.obs k o k1).low (S:=S) (by rw[aq];exact h.size)).ext ad (Below.refl _ _)).congr fun j F=>X (n1 j (.inr (tD k1 j F)))
    ·rw[e];exact ((h.obs k o k1).ext ae Z).congr fun j F=>Y (n2 j (.inr (tD k1 j F)))
   ·exact SV.rep_congr (fun j F=>Y (n2 j (.inl (CT hi j F)))) (SV.rep_mono ae (h.facts i s hi))
  have aj:(mI rs).rep (E5 (Mut S (ob'++ob) H) w') H v:=by
   refine SV.rep_congr (fun j F=>X (n1 j (.inl ?_))) (SV.rep_mono ad T);revert F
   match rs with
   | []=>intro F;cases F
   | [r]=>intro F;simpa[mI,SV.refs] using F
   | r::r2::rest=>intro F;exact F
  exact hK _ _ (au S H _ w' hn (ao.put ah aj))
theorem B40{f:FuncId}{g:Array Operand}{x:Array TypeId}{ty:TypeId}{pos:String}{af:Array Edge}{ps:List PV}{m:List PV->Prop}{z:Fr}{s:Obs}(T:Sees P nt fr ob z s)
  (J:FnOk P f ps m)(ha:bF z g.toList=some ps)(M:g.toList.all H2=true)(N:Nat.blt d nt=true)
  (k:∀rs,m rs->(∀(U H:Rd) v,ResRep U rs v->ResRep H rs v)/\WpL P nt ops rest ((d,kV rs)::fr) ob Q):WpL P nt ops (⟨some d,.call ⟨.value (.func f),g,x⟩,ty,pos,af,none⟩::rest) fr ob Q:=by
 intro S G a w D h;obtain⟨G',I⟩:=T S G a w D h;have B:=bG I g.toList ps ha M;have j:=J.2 w (Mut S s G') (g.toList.map a.eval) h.grdW (fun b i R=>I.mut_lt R) B;have q:(g.toList.map a.eval).toArray=g.map a.eval:=by rw[<-Array.toList_map,Array.toArray_toList]
 refine wpList_plain rfl fun K L=>N4 (K:=fun v w'=>∃rs,m rs/\ResRep (E5 (Mut S s G') w') rs v/\Below w.heap.size w w') ?_ ?_
 ·have O:(execOp a.eval ⟨some d,.call ⟨.value (.func f),g,x⟩,ty,pos,af,none⟩).run P w=.ok (.enter f (g.map a.eval)) w:=by
   simp only[execOp,resolve,Act.eval,Deferred.ofValue,Sem.run_bind,Sem.run_pure,Result.andThen_ok,invoke];rw[show (#[]:Array Value)++Array.map a.eval g++#[]=g.map a.eval by simp];exact M2 J.1
  unfold Does;rw[O];rw[q]at j;refine j.mono ?_;rintro e w' ⟨v,rs,rfl,E,F,hb⟩;exact⟨v,rfl,rs,E,F,hb⟩
 ·rintro v w' ⟨rs,E,F,hb⟩;obtain⟨k1,k2⟩:=k rs E;have C:d<S.nt:=by rw[D];simpa using N
  exact L _ _ (k2 S G _ w' D ((h.ext hb).put C (ResRep.sv (k1 _ _ _ F))))
def StepG(P:Program)(nt:Nat)(ops:Array Oper)(o:Oper)(φ:Fa)(ob:Obs)(K:Fa->Obs->Prop):Prop :=
 Wanted ops φ o true/\∀S G a w,S.nt=nt->SimF P S φ ob G a w->Does P o a w (fun v w'=>∃b ob' G',K b ob'/\SimF P S b ob' G' (a.put o.dst v) w')
def StepTG(P:Program)(nt:Nat)(ops:Array Oper)(T i:Nat)(φ:Fa)(ob:Obs)(K:Fa->Obs->Prop):Prop :=
 ∃o,ops[i]?=some o/\cond (tn T i o) (StepG P nt ops o φ ob K) (∃s d,o.dst=some d/\YieldsN P nt ops o φ ob s/\K (cH φ d s) ob)
def nY(P:Program)(nt:Nat)(ops:Array Oper)(T:Nat)(K:Fa->Obs->Prop):Nat->Array Bool->Fa->Obs->Prop
 | 0,listed,φ,ob=>Region.ready .any ops listed=[]/\K φ ob
 | fuel+1,listed,φ,ob=>(Region.ready .any ops listed=[]->K φ ob)/\∀i∈Region.ready .any ops listed,StepTG P nt ops T i φ ob (nY P nt ops T K fuel (listed.setIfInBounds i true))
theorem jD{T:Nat}{K:Fa->Obs->Prop}{S:Ctx}{Q:Exit->Act->World->Prop}(q:S.nt=nt)(f:∀(j t:Nat),(ops[j]?).bind (fun o=>o.dst)=some t->t<nt)(x:∀φ ob G a w,K φ ob->SimF P S φ ob G a w->Q .normal a w) :
  ∀(e:Nat) (g:Array Bool) (φ:Fa) (ob:Obs) (G:Gh) (a:Act) (w:World),nY P nt ops T K e g φ ob->SimF P S φ ob G a w->wpAny P .any ops Q e g a w
 | 0,_,φ,ob,G,a,w,h,hs=>⟨h.1,x φ ob G a w h.2 hs⟩
 | e+1,g,φ,ob,G,a,w,h,hs=>by
  refine⟨fun L=>x φ ob G a w (h.1 L) hs,fun i E=>?_⟩;obtain⟨o,N,c⟩:=h.2 i E;unfold wpOp;simp only[N];cases I:tn T i o with
  | true =>
   rw[I]at c;obtain⟨M,c⟩:=c;rw[A6 (dF q hs M f)];refine .inl (N4 (c S G a w q hs) ?_);rintro v w' ⟨V,ob',G',k,F⟩;exact jD q f x e _ V ob' G' _ w' k F
  | false =>
   rw[I]at c;obtain⟨s,d,C,⟨W,z,A,U⟩,k⟩:=c;rw[C]at z;cases z;rcases U with ⟨H,J,D,B⟩ | ⟨H,rfl⟩
   ·rw[dF q hs H f,A6 rfl];refine .inl (N4 (B S G a w (hs.sub fun i s E=>(D i s E).1)) ?_);rintro v w' ⟨R,X,rfl,O⟩;rw[C];exact jD q f x e _ _ ob G _ w' k ((hs.ext R).put (by rw[q];exact A) O)
   ·rw[dF q hs H f,A7 (by simp),C];exact jD q f x e _ _ ob G _ w k (hs.put (by rw[q];exact A) rfl)
theorem CU{T:Nat}{K:Fa->Obs->Prop}:∀(c:Nat) (b:Array Bool) (φ:Fa) (ob:Obs),b.getD T false=true->AW P nt ops K c b φ ob->nY P nt ops T K c b φ ob
 | 0,_,_,_,_,h=>h
 | c+1,b,φ,ob,hT,h=>by
  refine⟨h.1,fun i A=>?_⟩;obtain⟨o,F,j⟩:=h.2 i A;have q:i≠T:=fun e=>by subst e;have:=j3 A;rw[hT]at this;cases this
  have k:(b.setIfInBounds i true).getD T false=true:=by
   simp only[C54]at hT ⊢
   rwa[Array.getElem?_setIfInBounds_ne q]
  refine⟨o,F,?_⟩;have I:tn T i o=turns o.op:=by unfold tn;rw[S4 q];rfl
  rw[I];cases y:turns o.op with
  | true =>
   rw[y]at j;refine⟨by unfold Wanted;rw[j.1],fun S G a w E H=>?_⟩;have l:=j.2 S G a w E H;unfold Does at l ⊢;have m:∀v w',(∃p ob' G',AW P nt ops K c (b.setIfInBounds i true) p ob'/\SimF P S p ob' G' (a.put o.dst v) w')->(∃p ob' G',nY P nt ops T K c (b.setIfInBounds i true) p ob'/\SimF P S p ob' G' (a.put o.dst v) w'):=by
    rintro v w' ⟨p,ob',G',B,z⟩;exact⟨_,ob',G',CU c _ _ _ k B,z⟩
   generalize (execOp a.eval o).run P w=r at *;cases r with
   | ok n w' =>
    cases n<;>simp only at l ⊢<;>try exact l.elim
    case value v=>exact m _ _ l
    case skip=>exact m _ _ l
    case enter f args=>exact l.mono fun e M ⟨v,C,J⟩=>⟨v,C,m _ _ J⟩
   | halt x w'=>exact l
  | false =>
   rw[y]at j;obtain⟨s,d,l,L,HK⟩:=j;exact⟨s,d,l,L,CU c _ _ _ k HK⟩
theorem QA{T:Nat}{K:Fa->Obs->Prop}{i d:Nat}{w:Oper}{s:SV}(hi:ops[i]?=some w)(V:tn T i w=false)(F:w.dst=some d) :
  ∀(c:Nat) (b:Array Bool) (φ:Fa) (ob:Obs),Closed ops b ->
   (∀j l,ops[j]?=some l->j≠i->b.getD j true=false->tn T j l=true->Bef ops j i=true) ->
   (∀j l,ops[j]?=some l->j≠i->b.getD j true=false->tn T j l=false->(∃e∈l.after.toList,Region.binds .any e=true/\e.on=i)\/cI ops w l=true) ->
   i∈Region.ready .any ops b->YieldsN P nt ops w φ ob s ->
   nY P nt ops T K c (b.setIfInBounds i true) (cH φ d s) ob->nY P nt ops T K (c+1) b φ ob:=by
 have q:∀(c:Nat) (b:Array Bool) (φ:Fa) (ob:Obs),YieldsN P nt ops w φ ob s->nY P nt ops T K c (b.setIfInBounds i true) (cH φ d s) ob->StepTG P nt ops T i φ ob (nY P nt ops T K c (b.setIfInBounds i true)):=by
  intro c b φ ob D H;exact⟨w,hi,by rw[V];exact⟨s,d,F,D,H⟩⟩
 intro c;induction c with
 | zero =>
  intro b φ ob Q N O A D H;refine⟨fun h=>(by rw[h]at A;cases A),fun j I=>?_⟩;by_cases f:j=i
  ·subst f;exact q 0 b φ ob D H
  ·have:=ready_mono I f;rw[H.1]at this;cases this
 | succ c ih =>
  intro b φ ob Q N O A D H;refine⟨fun h=>(by rw[h]at A;cases A),fun j I=>?_⟩;by_cases f:j=i
  ·subst f;exact q (c+1) b φ ob D H
  ·obtain⟨g,l,p,u⟩:=mem_ready.1 I;have v:=j3 A;cases t:tn T j l with
   | true =>
    have hb:=N j l p f g t;have:=gS Q j hb (fun o Y e R x=>by rw[p]at Y;cases Y;exact u e (Array.mem_toList_iff.1 R) x);rw[v]at this;cases this
   | false =>
    have E:cI ops w l=true:=by
     rcases O j l p f g t with ⟨e,R,x,U⟩ | h
     ·have:=u e (Array.mem_toList_iff.1 R) x;rw[U]at this;have L:b.getD i false=true:=this;rw[v]at L;cases L
     ·exact h
    obtain⟨o',J,r⟩:=H.2 j (ready_mono I f);rw[p]at J;cases J;rw[t]at r;obtain⟨sj,X,G,W,HK⟩:=r;simp only[cI,F,G,C39,C80,List.contains_eq_mem,decide_eq_false_iff_not]at E;obtain⟨⟨Z,L⟩,M⟩:=E;have M:d≠X:=fun e=>by subst e;simp at M
    refine⟨l,p,by
     rw[t];refine⟨sj,X,G,W.unput Z,?_⟩;refine ih (b.setIfInBounds j true) _ ob (d8 Q I) ?_ ?_ (ready_mono A (Ne.symm f)) (D.put L) ?_
     ·intro k ok S z C B;refine N k ok S z ?_ B;by_cases m:j=k
      ·subst m;exact g
      ·rwa[getD_set_ne true m]at C
     ·intro k ok S z C B;refine O k ok S z ?_ B;by_cases m:j=k
      ·subst m;exact g
      ·rwa[getD_set_ne true m]at C
     ·rw[Array.setIfInBounds_comm _ _ f,<-xJ M]
      exact HK⟩
theorem IY{T c:Nat}{K:Fa->Obs->Prop}{E:Fr->Obs->Prop}:∀(l:List Oper) (k:Nat) (b:Array Bool) (fr:Fr) (ob:Obs),(∀j,j<l.length->l[j]?=ops[k+j]?)->Closed ops b->xK ops T l.length k b=true ->
  (∀fr ob,Closed ops (yX l.length k b)->E fr ob->nY P nt ops T K c (yX l.length k b) (D5 fr) ob)->LexD P nt ops E l fr ob->nY P nt ops T K (c+l.length) b (D5 fr) ob
 | [],k,b,fr,ob,hl,hc,hB,hE,h=>hE fr ob hc h
 | o::l,k,b,fr,ob,hl,hc,hB,hE,h=>by
  have D:ops[k]?=some o:=by simpa using (hl 0 (by simp)).symm
  simp only[C46,xK,D,C39,C80]at hB;obtain⟨⟨⟨L,v⟩,I⟩,x⟩:=hB;have w:k∈Region.ready .any ops b:=by simpa using L
  have z:∀j,j<l.length->l[j]?=ops[k+1+j]?:=fun j J=>by have:=hl (j+1) (by simpa using J);simpa[Nat.add_assoc,Nat.add_comm 1 j] using this
  have M:turns o.op=false:=by
   cases C:turns o.op
   ·rfl
   ·simp[tn,C]at v
  simp only[LexD]at h;rw[M]at h;simp only[cond]at h;obtain⟨s,d,G,N,F⟩:=h;have t:∀j q,ops[j]?=some q->j≠k->b.getD j true=false->cond (tn T j q) (Bef ops j k) (q.after.toList.any (fun e=>Region.binds .any e&&Nat.beq e.on k)||cI ops o q)=true:=by
   intro j q f g p;have A:j<ops.size:=(C58.1 f).1;have:=C47.1 I j (C62.2 A);rw[S4 g,p,f]at this;simp only[C98]at this;exact this
  show nY P nt ops T K (c+(l.length+1)) b (D5 fr) ob;rw[<-Nat.add_assoc];refine QA D v G (c+l.length) b _ ob hc ?_ ?_ w N ?_
  ·intro j q f g p u;have:=t j q f g p;rw[u]at this;exact this
  ·intro j q f g p u;have:=t j q f g p;rw[u]at this;simp only[cond,C67,List.any_eq_true,C39]at this;rcases this with ⟨e,H,hb,B⟩ | h
   ·exact .inl ⟨e,H,hb,C72 B⟩
   ·exact .inr h
  ·rw[<-gT];exact IY l (k+1) _ _ ob z (d8 hc w) x hE F
theorem CV{id:Nat}{l:List Oper}(n:Nat){C:Oper}{fr:Fr}{ob:Obs}{Q:Post}(hm:P.follows .mixedOrders=true)(H:LY nt l n=true)(hc:l[n]?=some C)
  (h:LexD P nt l.toArray (fun fr ob=>StepG P nt l.toArray C (D5 fr) ob (fun φ' ob'=>∃fr',φ'=D5 fr'/\LexD P nt l.toArray (fun fr ob=>Q .normal fr ob) (l.drop (n+1)) fr' ob')) (l.take n) fr ob):WpC P nt (.region id l.toArray true) fr ob Q:=by
 intro S G a w N T;unfold LY at H;simp only[C39]at H;obtain⟨⟨⟨⟨⟨⟨⟨b1,b2⟩,b3⟩,b4⟩,b5⟩,b6⟩,D⟩,E⟩:=H;have Z:n+1<=l.length:=Nat.le_of_ble_eq_true b3;have c:(l.take n).length=n:=C72 b4;have u:∀(j t:Nat),(l.toArray[j]?).bind (fun o=>o.dst)=some t->t<nt:=by
  intro j t V;cases A:l.toArray[j]? with
  | none=>simp[A]at V
  | some o =>
   simp[A]at V;have z:o∈l:=by
    rw[C87]at A;exact C60 A
   have:=C47.1 b2 o (by simpa using z);rw[V]at this;simpa using this
 refine wp_region_any hm ?_;have I:Closed l.toArray (Array.replicate l.length false):=by
  intro j o A M;simp only[C54]at M;rcases Nat.lt_or_ge j l.length with F | F
  ·simp[F]at M
  ·simp[F]at M
 have R:l.toArray[n]?=some C:=by rw[C87];exact hc
 have B:tn n n C=true:=by unfold tn;rw[Nat.beq_refl];rfl
 have key:nY P nt l.toArray n (fun φ ob=>∃fr',φ=D5 fr'/\Q .normal fr' ob) ((l.drop (n+1)).length+1+(l.take n).length) (Array.replicate l.length false) (D5 fr) ob:=by
  refine IY (l.take n) 0 _ fr ob (fun j Y=>?_) I (by rw[c];exact b1) (fun fr ob f X=>?_) h
  ·rw[C91,C87,D04 (by rw[c]at Y;exact Y)]
  ·rw[c]at f ⊢;have W:n∈Region.ready .any l.toArray (yX n 0 (Array.replicate l.length false)):=by simpa using b6
   have q:=d8 f W;refine⟨fun J=>(by rw[J]at W;cases W),fun j L=>?_⟩;have K:j=n:=C72 (C47.1 b5 j L);subst K;refine⟨C,R,?_⟩;rw[B];refine⟨X.1,fun S G a w N T=>uS (X.2 S G a w N T) ?_⟩;rintro v w' ⟨φ',ob',G',⟨fr',rfl,hL⟩,p⟩;exact⟨_,ob',G',CU _ _ _ _ D (oL (l.drop (j+1)) (j+1) _ fr' ob' (fun i=>by rw[C66,C87]) q E hL),p⟩
 have hx:Below w.heap.size w { w with drawn:=w.drawn+1 }:=⟨rfl,rfl,rfl,C45 _,fun _ _=>rfl⟩
 have p:SimF P S (D5 fr) ob G a { w with drawn:=w.drawn+1 }:=(simF_iff.2 T).ext hx;have:=jD (Q:=PostOf P S Q) N u (fun φ ob' G' a' w' ⟨fr',J,hq⟩ U=>⟨fr',ob',G',hq,.inl (simF_iff.1 (J ▸ U))⟩) _ _ _ ob G a _ key p;have k:(l.drop (n+1)).length+1+(l.take n).length=l.length:=by rw[C61,c];omega
 rw[k]at this;simpa using this
theorem A51{a:Op}{ty:TypeId}{pos:String}{af:Array Edge}{d j t:Nat}{b x:Bool}{fr:Fr}{ob:Obs}{K:Fa->Obs->Prop}(c:(ops[j]?).bind (·.dst)=some t)(f:D5 fr t=some (.s (.one (.p (.v (.bool x))))))(hb:x=b)
  (h:BY P nt ops ⟨some d,a,ty,pos,af,none⟩ (D5 fr) ob K):StepG P nt ops ⟨some d,a,ty,pos,af,some (j,b)⟩ (D5 fr) ob K :=
 ⟨⟨t,_,c,f,by have:=Wants.val (b:=b) x;rwa[show (x == b)=true by simp[hb]]at this⟩,h.2⟩
variable {K:Fr->Obs->Prop}
theorem xN{a:Op}{ty:TypeId}{pos:String}{af:Array Edge}{j t:Nat}{b x:Bool}(A:(ops[j]?).bind (·.dst)=some t)(D:D5 fr t=some (.s (.one (.p (.v (.bool x))))))(hb:x=b)(B:turns a=false)
  (k:LexD P nt ops K (⟨some d,a,ty,pos,af,none⟩::rest) fr ob):LexD P nt ops K (⟨some d,a,ty,pos,af,some (j,b)⟩::rest) fr ob:=by
 simp only[LexD,B,cond]at k ⊢;obtain⟨s,e,z,⟨u,f,g,E⟩,y⟩:=k;have C:Wanted ops (D5 fr) (⟨some d,a,ty,pos,af,some (j,b)⟩:Oper) true:=⟨t,_,A,D,by have:=Wants.val (b:=b) x;rwa[show (x == b)=true by simp[hb]]at this⟩
 rcases E with ⟨_,c,h,w⟩ | ⟨hw2,_⟩
 ·exact⟨s,e,z,⟨u,f,g,.inl ⟨C,c,fun i q m=>⟨(h i q m).1,C49.2 (.inr (by
   have:=(h i q m).2;unfold uses at this
   simpa[BX] using this))⟩,w⟩⟩,y⟩
 ·unfold Wanted at hw2;cases hw2
theorem C34(k:Nat){e:TypeId}{α:Type}{d:Nat}{c:α->Nat->Cell}{j:List α}(H:B5 ob k=some (.grow e α d c j)) :
  Sees P nt fr ob fr ((k,.growT e j.length d (fR d c j))::ob):=fun S G a w K h=>by
 refine⟨G,h.retold H (fun b i I=>⟨I.1,trivial⟩) ?_⟩;rintro L ⟨J,f,l,F⟩;refine⟨J,f,l,W9 j,?_⟩;refine eF (by rw[W9,f.1]) fun q t z v D=>?_;have u:q<j.length*d:=by have:=(C44.1 v).1;rwa[W9]at this
 have p:0<d:=Nat.pos_of_ne_zero fun e=>by rw[e]at u;simp at u
 have B:q / d<j.length:=Nat.div_lt_of_lt_mul (by rw[Nat.mul_comm];exact u);have C:q % d<d:=Nat.mod_lt _ p;have n:q=q / d*d+q % d:=by rw[Nat.mul_comm];exact (Nat.div_add_mod q d).symm
 have x:=kW (c:=c) j (q / d) (q % d) _ (C36 B) C;rw[<-n,v]at x;cases x;obtain⟨M,A,E⟩:=F (q / d) B (q % d) C;rw[<-n,D]at A;cases A;exact E
theorem C35(k:Nat){e:TypeId}{α:Type}{m:Nat}{c:α->Nat->Cell}{n:Nat}{u:List TC}(l:List α)(B:B5 ob k=some (.growT e n m u))(t:l.length=n)(p:u=fR m c l) :
  Sees P nt fr ob fr ((k,.grow e α m c l)::ob):=by
 subst p t;intro S G a w t h;refine⟨G,h.retold B (fun b i C=>⟨C.1,trivial⟩) ?_⟩;rintro F ⟨D,f,d,E,v⟩;refine⟨D,f,d,fun i y j A=>?_⟩;have x:=kW (c:=c) l i j _ (C36 y) A;obtain⟨z,q,s⟩:=v.get _ _ x;exact⟨z,q,s⟩
theorem gW{x y:Operand}{t e v:TypeId}{j b k n:Nat}{I:List TC}{F:IntKind}{i:Int}[ht:TySl P t e j b](D:opv fr x=some (.s (.one (.mut k))))(C:B5 ob k=some (.growT v n j I))
  (E:opv fr y=some (I7 (.int F i)))(z:0<=i)(B:i<n):Neu P ⟨dst,.indexAddr t x y,ty,pos,af,gd⟩ fr ob (fun H=>H=.s (.one (.mref k j i.toNat 0))) :=
 E6 fun S G a w h=>by
  obtain⟨q,_⟩:=H8 h D;obtain⟨K,c,_⟩:=h.obs k _ C;rcases c.2 with ⟨l,J⟩ | ⟨g,cap,cur,l,_⟩
  ·omega
  ·rw[l]at q;refine⟨.pointer (some ⟨g,i.toNat*j,none⟩),?_,g,n,cap,l,rfl⟩;simp only[execOp,q,F7 h E];refine M3 ?_;have hb:0<=i/\i<(n:Int):=⟨z,B⟩
   simp[Instr.indexAt,run_underlying ht.out.1,asIntOf,hb,J1 ht.size,Addr.add_lit]
theorem xO{x:Operand}{t e:TypeId}{k q o n:Nat}{i:Nat}{v:List TC}{s:TC}[ht:TyOne P t](F:opv fr x=some (.s (.one (.mref k i q o))))(B:B5 ob k=some (.growT e n i v))(E:v[q*i+o]?=some s) :
  Neu P ⟨dst,.load t x,ty,pos,af,gd⟩ fr ob (fun H=>H=.s (.one s)) :=
 E6 fun S G a w h=>by
  obtain⟨b,m,y,A,D⟩:=H8 h F;obtain⟨I,j,_,C,ha⟩:=h.obs k _ B;obtain⟨z,p,u⟩:=ha.get _ s E;have:=j.cells (g:=b) (by rw[A];rfl) (q*i+o) z p;refine⟨z,?_,u⟩;simp only[execOp,D];refine M3 ?_;have c:w.cell? ⟨b,q*i+o,none⟩=some z:=by simpa[Addr.add_lit] using this
  simp[Instr.loadAt,Instr.sureAddr,V5 (ht:=ht) c]
theorem MA{x y:Operand}{k k2 n m:Nat}{H D:Nat}{ts us:List TC}{t e:TypeId}[ht:TySl P t e H D](hx:opv fr x=some (.s (.one (.mut k))))(W:B5 ob k=some (.growT e n H ts))
  (hy:opv fr y=some (.s (.one (.mut k2))))(X:B5 ob k2=some (.tarr m H us))(J:n+m<=1073741824)(hp:Nat.blt k 1000000=true) :
  EffV P ⟨dst,.call ⟨.builtin .append,#[x,y],#[t,t]⟩,ty,pos,af,gd⟩ fr ob (.s (.one (.mut k))) (Fr.forget k fr) ((k,.growT e (n+m) H ((ts++us).map (TC.forget k)))::Obs.forget k ob):=by
 intro S G a w h;have ah:=ht.out.2.2.1;obtain⟨ab,_⟩:=H8 h hx;obtain⟨O,_⟩:=H8 h hy;obtain⟨b2,vs,t2,U,ai,V,N,E⟩:=h.obs k2 _ X;rw[U]at O;have ac:vs.length=m*H:=by rw[<-E.length,N]
 obtain⟨ws,C,_,ae,ag⟩:=h.obs k _ W;obtain⟨v',w',L,A,f,q,Q⟩:=jU (P:=P) (ty:=ty) S.B ht C h.size (u:=a.eval y) (ad:=some ⟨b2,0,none⟩) (m:=m) (c:=m) (news:=vs) O (by intro h;cases h) (C45 _) ac
  (fun b o hb j z hz=>by
   injection hb with hb;injection hb with e1 e2;subst e1;subst e2
   rw[Lib.cell_of_heap V]
   simpa using hz)
  (.inr ⟨b2,0,rfl⟩) (PY E) J
 have I:(G k).ownBlock=blk (G k):=gB (dS C);have F:∀b i z,E5 (Mut S ob G) w b i z->w'.cell? ⟨b,i,none⟩=some z:=by
  intro b i z Z;have Y:b<w.heap.size:=World.block_lt_of_cell? w _ Z.1;by_cases hb:blk (G k)=some b
  ·exact absurd (Or.inr ⟨k,_,W,hb,trivial⟩) Z.2
  ·rw[World.cell?_of_block (w:=w) (a:=⟨b,i,none⟩) (f.block b Y (by rw[I];exact fun e=>hb e.symm))];exact Z.1
 have M:=h.turn (o':=.growT e (n+m) H ((ts++us).map (TC.forget k))) (u':=v') (by simpa using hp) W f.os f.tape f.output f.size (fun j hj hb=>f.block j hj (by rw[I];exact fun e=>hb e.symm)) F q
  (by
   intro b i hb ho;rcases q b ho.1 with h1 | h1
   ·exact⟨h1,trivial⟩
   ·omega)
  (fun rd K G' R=>by
   refine⟨_,A,by omega,by rw[C74,C40,ae,N,C88],?_⟩
   exact ((ag.append E).mono fun _ _=>TC.rep_mono K).map (TC.forget k) fun _ _=>TC.rep_forget R)
 exact J4 (w':=w') (v:=v') (by simp[execOp,resolve,invoke,builtin,ab,L]) ⟨upd G k v',M,(I8 _ _ _).symm,jA A⟩
theorem C16{α:Type}{c:α->Nat->Cell}{m l:Nat}{e:TypeId}{g:Nat->List α}{b:Obs}(z:l<1000)(C:low b=true)(A:B5 b l=none)(u:∀r,r<m->J2 (r+1000) fr=true)(x:∀r,r<m->uR (r+1000) b=true) :
  ∀d,d<=m->Sees P nt fr (b++((l,.growT e m 1 (Y8 c m 0 g))::U1 c g (List.range m))) fr (b++((l,.growT e m 1 (Y8 c m d g))::U1 c g ((List.range m).drop d)))
 | 0,_=>by intro S G a w F h;exact⟨G,h⟩
 | d+1,hd=>by
  refine (C16 z C A u x d (by omega)).trans ?_;have f:(List.range m).drop d=d::(List.range m).drop (d+1):=by
   rw[C57 (by simp;omega)];simp
  have E:B5 (b++((l,.growT e m 1 (Y8 c m d g))::U1 c g ((List.range m).drop d))) (d+1000)=some (.arr α 1 c (g d)):=by
   rw[X4 (oO C (by omega)),A8 (by omega)];exact mG (by rw[f];simp)
  refine (Sees.freeze E).trans ?_;rw[A50 (u d (by omega))];intro S G a w F h;refine⟨G,h.weakenO fun k o j=>?_⟩;have B:k≠d+1000:=by
   rintro rfl;rw[X4 (oO C (by omega)),A8 (by omega)]at j;obtain⟨r,q,D,_⟩:=(kX _ _ _).1 j;have:r=d:=by omega
   subst this;obtain⟨i,H,y⟩:=List.mem_iff_getElem.1 q;simp at y;omega
  rw[getO_mapO,S2 B];cases q:B5 b k with
  | some I =>
   rw[jV q]at j ⊢;cases j;show some (Ob.freeze _ _ _ _ _ _)=_;rw[Ob.freeze_free (yW (x d (by omega)) q)]
  | none =>
   rw[X4 q]at j ⊢;by_cases v:l=k
   ·subst v;rw[B3]at j ⊢;cases j;show some (Ob.growT e m 1 ((Y8 c m d g).map _))=_;rw[CB]
   ·rw[A8 v]at j ⊢;obtain⟨r,D,y,rfl⟩:=(kX _ _ _).1 j;subst y;rw[mG (by rw[f];exact C55 _ D)];rfl
theorem C26{α:Type}{c:α->Nat->Cell}{m kb:Nat}{e:TypeId}{g:Nat->List α}{pre:Obs}(u:kb<1000)(z:low pre=true)(f:B5 pre kb=none)(q:∀r,r<m->J2 (r+1000) fr=true)(v:∀r,r<m->uR (r+1000) pre=true) :
  Sees P nt fr (pre++((kb,.growT e m 1 (Y8 c m 0 g))::U1 c g (List.range m))) fr ((kb,.grow e (List α) 1 (fun l _=>.list α 1 c l) ((List.range m).map g))::pre):=by
 refine (C16 u z f q v m (C45 _)).trans ?_;have y:B5 (pre++((kb,.growT e m 1 (Y8 c m m g))::U1 c g ((List.range m).drop m))) kb=some (.growT e m 1 (Y8 c m m g)):=by
  rw[X4 f,B3]
 have x:Y8 c m m g=fR 1 (fun (l:List α) (_:Nat)=>Cell.list α 1 c l) ((List.range m).map g):=by
  rw[qJ];unfold Y8;rw[D01];refine C81 fun r A=>?_;rw[A6 (by simpa using A)];rfl
 refine (C35 (c:=fun (l:List α) (_:Nat)=>Cell.list α 1 c l) kb ((List.range m).map g) y (by simp) x).trans ?_;intro S G a w B h;refine⟨G,h.weakenO fun k o j=>?_⟩;by_cases b:kb=k
 ·subst b;rw[B3]at j ⊢;exact j
 ·rw[A8 b]at j;rw[A8 b,jV j]
section
variable {P:Program}{nt:Nat}{fr gf:Fr}{ob:Obs}
theorem TC.forget_comm(k q:Nat)(t:TC):(t.forget q).forget k=(t.forget k).forget q:=by
 cases t with
 | p c=>rfl
 | buf a α d c l=>cases hb:Nat.beq a k<;>cases b:Nat.beq a q<;>simp[TC.forget,hb,b]
 | ref a o=>cases hb:Nat.beq a k<;>cases b:Nat.beq a q<;>simp[TC.forget,hb,b]
 | eref α d c x o=>rfl
 | «mut» a=>cases hb:Nat.beq a k<;>cases b:Nat.beq a q<;>simp[TC.forget,hb,b]
 | mref a d i o=>cases hb:Nat.beq a k<;>cases b:Nat.beq a q<;>simp[TC.forget,hb,b]
 | any=>rfl
 | clo f j h=>cases hb:(iU k j||iU k h)<;>cases b:(iU q j||iU q h)<;>simp[TC.forget,hb,b]
 | msl a d o n=>cases hb:Nat.beq a k<;>cases b:Nat.beq a q<;>simp[TC.forget,hb,b]
 | ifc t a o=>cases hb:Nat.beq a k<;>cases b:Nat.beq a q<;>simp[TC.forget,hb,b]
 | fnc f m=>rfl
 | fncE f α d c x=>rfl
 | full α d c l=>rfl
theorem S1.forget_comm(k q:Nat)(s:S1):(s.forget q).forget k=(s.forget k).forget q:=by
 cases s with
 | one t=>simp only[S1.forget,TC.forget_comm k q t]
 | agg a=>simp only[S1.forget,D01];congr 1;exact C81 fun t _=>TC.forget_comm k q t
theorem SV.forget_comm(k q:Nat)(s:SV):(s.forget q).forget k=(s.forget k).forget q:=by
 cases s with
 | s x=>simp only[SV.forget,S1.forget_comm k q x]
 | tup l=>simp only[SV.forget,D01];congr 1;exact C81 fun t _=>S1.forget_comm k q t
 | any=>rfl
 | un=>rfl
theorem Fr.forget_comm(k q:Nat)(fr:Fr):Fr.forget k (Fr.forget q fr)=Fr.forget q (Fr.forget k fr):=by
 unfold Fr.forget;rw[D01,D01];exact C81 fun p _=>by simp only[Function.comp];rw[SV.forget_comm]
theorem mM(k:Nat):∀(a:List Nat) (fr:Fr),B4 a (Fr.forget k fr)=Fr.forget k (B4 a fr)
 | [],fr=>rfl
 | q::a,fr=>by
  show B4 a (Fr.forget q (Fr.forget k fr))=Fr.forget k (B4 a (Fr.forget q fr));rw[Fr.forget_comm q k,mM k a]
theorem dU{k:Nat}:∀{a:List Nat} {fr:Fr},F0 a k=true->Fr.forget k (B4 a fr)=B4 a fr
 | [],fr,h=>by cases h
 | q::a,fr,h=>by
  show Fr.forget k (B4 a (Fr.forget q fr))=B4 a (Fr.forget q fr);by_cases b:k=q
  ·subst b;rw[mM,Fr.forget_idem]
  ·have c:F0 a k=true:=by
    rw[aP]at h ⊢;rcases C50.1 h with h | h
    ·exact absurd h b
    ·exact h
   exact dU c
theorem qL{a:List Nat}(k:Nat)(b:F0 a k=true)(h:Tail (B4 a gf) fr):Tail (B4 a gf) (Fr.forget k fr):=by
 have:=eK k h
 rwa[dU b]at this
theorem B0:∀{ks:List Nat} {gf:Fr},High gf->High (B4 ks gf)
 | [],gf,h=>h
 | k::ks,gf,h=>B0 (ks:=ks) (eL (k:=k) h)
theorem mN:∀{ks:List Nat} {gf:Fr} {i:Nat} {s:SV},D5 (B4 ks gf) i=some s->∃s0,D5 gf i=some s0/\∀(b:Rd) (G:Gh) (u:Value),s0.rep b G u->s.rep b G u
 | [],gf,i,s,h=>⟨s,h,fun _ _ _ h=>h⟩
 | k::ks,gf,i,s,h=>by
  obtain⟨s1,a,d⟩:=mN (ks:=ks) (gf:=Fr.forget k gf) h;rw[O7]at a;cases c:D5 gf i with
  | none=>rw[c]at a;cases a
  | some s0 =>
   rw[c]at a;cases a;exact⟨s0,rfl,fun b G u e=>d b G u (SV.rep_forget (G':=G) (fun _ _=>rfl) e)⟩
theorem C22(d:List Nat){l:Fr}{ob':Obs}(j:FrLe fr l)(g:High gf)(p:Tail gf fr)(m:∀k o,B5 ob' k=some o->B5 ob k=some o):Sees P nt fr ob (l++B4 d gf) ob':=by
 refine (C04 j g p m).trans ?_;intro S G a w q h;refine⟨G,{ h with facts:=fun i s b=>?_ }⟩;rw[l9]at b;cases c:D5 l i with
 | some s0 =>
  rw[c]at b;have b:some s0=some s:=b;cases b;exact h.facts i _ (by rw[l9,c];rfl)
 | none =>
  rw[c]at b;have b:D5 (B4 d gf) i=some s:=b;obtain⟨s0,e,f⟩:=mN b;exact f _ _ _ (h.facts i s0 (by rw[l9,c];exact e))
end
def TC.ren(j k:Nat):TC->TC
 | .buf a α d c g=>cond (Nat.beq a j) (.buf k α d c g) (.buf a α d c g)
 | .ref a off=>cond (Nat.beq a j) (.ref k off) (.ref a off)
 | .mut a=>cond (Nat.beq a j) (.mut k) (.mut a)
 | .mref a d i off=>cond (Nat.beq a j) (.mref k d i off) (.mref a d i off)
 | .msl a d off n=>cond (Nat.beq a j) (.msl k d off n) (.msl a d off n)
 | .ifc t a off=>cond (Nat.beq a j) (.ifc t k off) (.ifc t a off)
 | t=>t
def Ob.ren(j k:Nat):Ob->Ob
 | .box d=>.box (d.map (TC.ren j k))
 | .tbx e d=>.tbx e (d.map (TC.ren j k))
 | .tarr n f d=>.tarr n f (d.map (TC.ren j k))
 | .growA e α f c h p d=>.growA e α f c h p (d.map (TC.ren j k))
 | .growT e n f d=>.growT e n f (d.map (TC.ren j k))
 | o=>o
theorem C14{g:Rd}{G:Gh}{j k:Nat}(d:G k=G j):∀{t:TC} {u:Value},t.rep g G u->(t.ren j k).rep g G u
 | .p c,u,h=>h
 | .buf k' α ec c xs,u,h=>by
  simp only[TC.ren];cases hb:Nat.beq k' j
  ·exact h
  ·have e:k'=j:=C72 hb;subst e;simp only[cond,TC.rep];rw[d];exact h
 | .ref k' off,u,h=>by
  simp only[TC.ren];cases hb:Nat.beq k' j
  ·exact h
  ·have e:k'=j:=C72 hb;subst e;simp only[cond,TC.rep];rw[d];exact h
 | .eref _ _ _ _ _,u,h=>h
 | .mut k',u,h=>by
  simp only[TC.ren];cases hb:Nat.beq k' j
  ·exact h
  ·have e:k'=j:=C72 hb;subst e;simp only[cond,TC.rep];rw[d];exact h
 | .mref k' ec i off,u,h=>by
  simp only[TC.ren];cases hb:Nat.beq k' j
  ·exact h
  ·have e:k'=j:=C72 hb;subst e;simp only[cond,TC.rep];rw[d];exact h
 | .any,u,h=>h
 | .clo _ _ _,_,h=>h
 | .msl k' ec off n,u,h=>by
  simp only[TC.ren];cases hb:Nat.beq k' j
  ·exact h
  ·have e:k'=j:=C72 hb;subst e;simp only[cond,TC.rep];rw[d];exact h
 | .full _ _ _ _,u,h=>h
 | .ifc t k' off,u,h=>by
  simp only[TC.ren];cases hb:Nat.beq k' j
  ·exact h
  ·have e:k'=j:=C72 hb;subst e;simp only[cond,TC.rep];rw[d];exact h
 | .fnc _ _,u,h=>h
 | .fncE _ _ _ _ _,u,h=>h
theorem ObOk.ren{S:Ctx}{r:Rd}{G:Gh}{w:World}{u:Value}{j k:Nat}{o:Ob}(l:G k=G j)(h:ObOk S r G w u o):ObOk S r G w u (o.ren j k):=by
 cases o with
 | box m=>obtain⟨b,g,t,a,d,f⟩:=h;exact⟨b,g,t,a,d,f.map (TC.ren j k) fun _ _=>C14 l⟩
 | tbx e m=>obtain⟨b,g,a,d,f⟩:=h;exact⟨b,g,a,d,f.map (TC.ren j k) fun _ _=>C14 l⟩
 | tarr n i m=>obtain⟨b,g,t,a,y,d,z,f⟩:=h;exact⟨b,g,t,a,y,d,by simpa using z,f.map (TC.ren j k) fun _ _=>C14 l⟩
 | arr α i c s=>exact h
 | spare n i e=>exact h
 | grow e α i c s=>exact h
 | map κ B A=>exact h
 | growA e α i c s p m=>obtain⟨g,a,d,f,q,v,x⟩:=h;exact⟨g,a,d,f,by simpa using q,v,x.map (TC.ren j k) fun _ _=>C14 l⟩
 | growT e n i m=>obtain⟨g,a,d,f,q⟩:=h;exact⟨g,a,d,by simpa using f,q.map (TC.ren j k) fun _ _=>C14 l⟩
theorem own_ren{u:Value}{j k b i:Nat}{o:Ob}:Own u (o.ren j k) b i↔Own u o b i:=by cases o<;>simp[Own,Ob.ren]
theorem C33{j k:Nat}{ob':Obs}(hj:Nat.blt j 1000000=true)(hk:Nat.blt k 1000000=true)(V:j≠k)(U:J2 k fr=true)
  (hm:∀i o,B5 ob' i=some o->i≠j/\∃g,B5 ob (if i=k then j else i)=some g/\g.free k=true/\o=g.ren j k):Sees P nt fr ob fr ob':=by
 intro S G a w hn h;have ab:j<1000000:=by simpa using hj
 have ac:k<1000000:=by simpa using hk
 obtain⟨G',D⟩:∃G':Gh,G'=fun i=>if i=k then G j else G i:=⟨_,rfl⟩
 have g1:∀i,i≠k->G' i=G i:=fun i v=>by rw[D];exact A7 v
 have X:G' k=G j:=by rw[D];exact A6 rfl
 have g3:G' k=G' j:=by rw[X,g1 j V]
 obtain⟨r,J⟩:∃r:Nat->Nat,r=fun i=>if i=k then j else i:=⟨_,rfl⟩
 have R:∀i,G' i=G (r i):=fun i=>by
  rw[J];by_cases v:i=k
  ·subst v;rw[X];simp
  ·rw[g1 i v];simp[v]
 have d:∀i o,B5 ob' i=some o->i≠j/\∃g,B5 ob (r i)=some g/\g.free k=true/\o=g.ren j k:=fun i o v=>by rw[J];exact hm i o v
 have M:∀i L,i≠j->L≠j->r i=r L->i=L:=by
  intro i L u y c;rw[J]at c;dsimp only at c;by_cases N:i=k<;>by_cases O:L=k
  ·rw[N,O]
  ·rw[A6 N,A7 O]at c;exact absurd c.symm y
  ·rw[A7 N,A6 O]at c;exact absurd c u
  ·rwa[A7 N,A7 O]at c
 have F:∀b i,Mut S ob' G' b i->Mut S ob G b i:=by
  intro b i B;rcases B with B | ⟨q,o,m,ho⟩
  ·exact .inl B
  ·obtain⟨_,g,u,_,rfl⟩:=d q o m;rw[R q]at ho;exact .inr ⟨r q,g,u,own_ren.1 ho⟩
 have K:∀b i z,E5 (Mut S ob G) w b i z->E5 (Mut S ob' G') w b i z:=fun b i z Y=>⟨Y.1,fun hx=>Y.2 (F b i hx)⟩
 refine⟨G',{ h with pin:=fun q m=>by rw[g1 q (by omega)];exact h.pin q m,old:=?_,dis:=?_,obs:=?_,facts:=?_ }⟩
 ·intro q o b m hb;obtain⟨C,g,u,_,_⟩:=d q o m;rw[R q]at hb;rcases h.old (r q) g b u hb with y | ⟨y,c⟩
  ·exact .inl y
  ·by_cases I:q=k
   ·rw[J]at c;dsimp only at c;rw[A6 I]at c;omega
   ·rw[J]at c;dsimp only at c;rw[A7 I]at c;exact .inr ⟨y,c⟩
 ·intro q Z o o' b m W hb E;obtain⟨C,g,u,_,_⟩:=d q o m;obtain⟨H,ad,T,_,_⟩:=d Z o' W;rw[R]at hb E;exact M q Z C H (h.dis _ _ _ _ b u T hb E)
 ·intro q o m;obtain⟨C,g,u,A,rfl⟩:=d q o m;have y:=(h.obs (r q) g u).ext K (Below.refl _ _);have c:=y.forget (k:=k) (G':=G') g1;rw[Ob.forget_free A]at c;rw[R q];exact c.ren g3
 ·intro i s v;have u:=h.facts i s v;have y:s.free k=true:=by
   have key:∀(f:Fr),J2 k f=true->∀i s,D5 f i=some s->s.free k=true:=by
    intro f;induction f with
    | nil=>intro _ i s h;cases h
    | cons p r ih =>
     obtain⟨q,s0⟩:=p;intro A i s Q;simp only[J2,C39]at A;by_cases m:q=i
     ·subst m;rw[D4]at Q;cases Q
      first | exact A.1 | exact A.1.2 | exact A.2.1
     ·rw[C4 m]at Q;exact ih (by first | exact A.2 | exact A.2.2) i s Q
   exact key fr U i s v
  have c:=SV.rep_forget (G':=G') g1 (SV.rep_mono K u)
  rwa[SV.forget_free y]at c
def ddF:Fr->Fr
 | []=>[]
 | (i,s)::r=>(i,s)::(ddF r).filter fun p=>!(Nat.beq p.1 i)
theorem oV{i q:Nat}(h:i≠q):∀(fr:Fr),D5 (fr.filter fun p=>!(Nat.beq p.1 i)) q=D5 fr q
 | []=>rfl
 | (j,s)::r=>by
  rw[D17];by_cases b:j=i
  ·subst b;rw[A7 (by simp),C4 h,oV h r]
  ·rw[A6 (by simp[S4 b])];by_cases a:j=q
   ·subst a;rw[D4,D4]
   ·rw[C4 a,C4 a,oV h r]
theorem BH:∀(fr:Fr) (q:Nat),D5 (ddF fr) q=D5 fr q
 | [],q=>rfl
 | (i,s)::r,q=>by
  unfold ddF;by_cases h:i=q
  ·subst h;rw[D4,D4]
  ·rw[C4 h,C4 h,oV h,BH r q]
theorem mem_dd:∀{fr:Fr} {p:Nat×SV},p∈ddF fr->D5 fr p.1=some p.2
 | (i,s)::r,p,h=>by
  unfold ddF at h;rcases C50.1 h with rfl | h
  ·exact D4 _ _ _
  ·obtain⟨c,b⟩:=List.mem_filter.1 h;have a:i≠p.1:=fun e=>by rw[e,Nat.beq_refl]at b;cases b
   rw[C4 a];exact mem_dd c
theorem IZ{k:Nat}:∀{fr:Fr},(∀p∈fr,p.2.free k=true)->J2 k fr=true
 | [],_=>rfl
 | (i,s)::r,h=>by
  show (SV.free k s&&J2 k r)=true;rw[C39];exact⟨h (i,s) (C56 ..),IZ fun p a=>h p (C55 _ a)⟩
theorem uW{U:Fr}{k:Nat}{o:Oper}{ob ob':Obs}{s:SV}(h:∀b,CJ U b->J2 k b=true->EffV P o b ob s b ob'):CL P nt o U [k] [] ob ob' s:=by
 intro b y c S G a w F D;have l:Sim P S (ddF b) ob G a w:=D.weaken fun i s A=>by rwa[BH]at A
 have j:J2 k (ddF b)=true:=IZ fun p B=>c k (by simp) p.1 p.2 (mem_dd B) (by simp);have:=h (ddF b) (fun t s m=>by rw[BH];exact y t s m) j S G a w l;have g:∀(v:Value) (w':World),(∃G',Sim P S (ddF b) ob' G' a w'/\s.rep (E5 (Mut S ob' G') w') G' v)->∃G',Sim P S (aR [] b) ob' G' a w'/\∀d,o.dst=some d->s.rep (E5 (Mut S ob' G') w') G' v:=fun v w' ⟨G',h,C⟩=>⟨G',h.weaken (fun t x m=>by rw[BH];exact (VB.1 m).2),fun _ _=>C⟩
 unfold Does at this ⊢;generalize (execOp a.eval _).run P w=r at *;cases r with
 | ok n w' =>
  cases n<;>simp only at this ⊢<;>try exact this.elim
  case value v=>exact g v w' this
  case skip=>exact g undef w' this
  case enter f args=>exact this.mono fun e q ⟨v,z,E⟩=>⟨v,z,g v q E⟩
 | halt x w'=>exact this
section
variable {P:Program}{nt:Nat}{fr gf:Fr}{ob:Obs}
theorem TC.free_forget(k:Nat)(t:TC):(t.forget k).free k=true:=by
 cases t with
 | p c=>rfl
 | buf a α b c h=>cases hb:Nat.beq a k<;>simp[TC.forget,TC.free,hb]
 | ref a o=>cases hb:Nat.beq a k<;>simp[TC.forget,TC.free,hb]
 | eref α b c x o=>rfl
 | «mut» a=>cases hb:Nat.beq a k<;>simp[TC.forget,TC.free,hb]
 | mref a b i o=>cases hb:Nat.beq a k<;>simp[TC.forget,TC.free,hb]
 | any=>rfl
 | clo f g d =>
  simp only[TC.forget];cases hb:(iU k g||iU k d)
  ·rw[C86]at hb;simp[TC.free,hb.1,hb.2]
  ·rfl
 | msl a b o n=>cases hb:Nat.beq a k<;>simp[TC.forget,TC.free,hb]
 | ifc t a o=>cases hb:Nat.beq a k<;>simp[TC.forget,TC.free,hb]
 | fnc f j=>rfl
 | fncE f α b c x=>rfl
 | full α b c h=>rfl
theorem S1.free_forget(k:Nat)(s:S1):(s.forget k).free k=true:=by
 cases s with
 | one t=>exact TC.free_forget k t
 | agg b =>
  show (b.map (TC.forget k)).all (TC.free k)=true;rw[List.all_map,C47];exact fun t _=>TC.free_forget k t
theorem SV.free_forget(k:Nat)(s:SV):(s.forget k).free k=true:=by
 cases s with
 | s x=>exact S1.free_forget k x
 | tup l =>
  show (l.map (S1.forget k)).all (S1.free k)=true;rw[List.all_map,C47];exact fun t _=>S1.free_forget k t
 | any=>rfl
 | un=>rfl
theorem aS{k:Nat}{ks:List Nat}{gf:Fr}(a:F0 ks k=true):∀p∈B4 ks gf,p.2.free k=true:=by
 rw[<-dU a];intro p b;obtain⟨q,_,rfl⟩:=C71.1 b;exact SV.free_forget k q.2
theorem JA{l:List Oper}{ops:Array Oper}{a:Sv}{fr gf:Fr}:∀{b:Ed},rZ l ops a fr b=true->(∀e∈b,∀k∈e.2.1,∀p∈gf,p.2.free k=true)->rZ l ops a (fr++gf) b=true
 | [],_,_=>rfl
 | (e,ks,kills)::r,h,hg=>by
  simp only[rZ,C39]at h ⊢;refine⟨?_,JA h.2 fun f g=>hg f (C55 _ g)⟩;rw[C47]at h ⊢;intro k d;have c:=h.1 k d;rw[C39]at c ⊢;refine⟨c.1,?_⟩;rw[D10,C39];refine⟨c.2,C47.2 fun p i=>?_⟩;rw[hg (e,ks,kills) (C56 ..) k d p i,Bool.or_true]
theorem tE{ks:List Nat}{l:List Oper}{E:List Nat}{c:Ed}{T2:List (Nat×List Nat)}{Q:Post}{b:Sv}{M:Mo}{d:Obs}(g:(c.all fun e=>e.2.1.all (F0 ks))=true)(f:(rZ l l.toArray b fr c&&(List.range l.length).all fun j=>(U2 b j).isSome)=true)(h:b8 M E=some d)
  (q:jW P nt l (fr++B4 ks gf) E c b M T2)(t:Q .normal (aR (LZ c) (oF l b (fr++B4 ks gf))) d):nX P nt l (fr++B4 ks gf) E c (Fin2 P nt l (fr++B4 ks gf) E c T2 Q) [] b M:=by
 rw[C39]at f;refine CQ ?_ h q t;rw[C39];refine⟨JA f.1 fun e u k v p w=>?_,f.2⟩;exact aS (C47.1 (C47.1 g e u) k v) p w
end
def Cell.flat:Cell->Bool
 | .v _=>true
 | _=>false
def PV.flat:PV->Bool
 | .one c=>c.flat
 | .agg b=>b.all Cell.flat
theorem JB{b a:Rd}:∀{c:Cell} {u:Value},c.flat=true->c.rep b u->c.rep a u
 | .v _,_,_,h=>h
 | .list _ _ _ _,_,h,_=>by cases h
theorem CW{e b:Rd}:∀{a:List Cell} {d:List Value},a.all Cell.flat=true->All2 (Cell.rep e) a d->All2 (Cell.rep b) a d
 | [],[],_,_=>trivial
 | [],_::_,_,h=>h.elim
 | _::_,[],_,h=>h.elim
 | c::a,u::d,hf,h=>by
  rw[List.all_cons,C39]at hf;exact⟨JB hf.1 h.1,CW hf.2 h.2⟩
theorem A05{d b:Rd}:∀{p:PV} {u:Value},p.flat=true->p.rep d u->p.rep b u
 | .one c,u,hf,h=>JB (c:=c) hf h
 | .agg cs,u,hf,⟨vs,h1,h2⟩=>⟨vs,h1,CW hf h2⟩
theorem CX{e b:Rd}:∀{a:List PV} {d:List Value},a.all PV.flat=true->All2 (PV.rep e) a d->All2 (PV.rep b) a d
 | [],[],_,_=>trivial
 | [],_::_,_,h=>h.elim
 | _::_,[],_,h=>h.elim
 | c::a,u::d,hf,h=>by
  rw[List.all_cons,C39]at hf;exact⟨A05 hf.1 h.1,CX hf.2 h.2⟩
theorem B41{d c:Rd}{a:List PV}{v:Value}(b:a.all PV.flat=true)(h:ResRep d a v):ResRep c a v:=by
 match a,h with
 | [p],h=>exact A05 (by simpa using b) h
 | [],⟨us,h1,h2⟩=>exact⟨us,h1,CX b h2⟩
 | _::_::_,⟨us,h1,h2⟩=>exact⟨us,h1,CX b h2⟩
variable {fr':Fr}{ob':Obs}
theorem B42(I:∀nt,Sees P nt fr ob fr' ob'){f:FuncId}{d:Array Operand}{ats:Array TypeId}{ps:List PV}{j:List PV->Prop}(B:FnOk P f ps j)(ha:bF fr' d.toList=some ps)(D:d.toList.all H2=true)
  (z:∀m,j m->m.all PV.flat=true):Neu P ⟨dst,.call ⟨.value (.func f),d,ats⟩,ty,pos,af,gd⟩ fr ob (fun s=>∃m,j m/\s=kV m):=by
 intro S G a w h;obtain⟨G',x⟩:=I S.nt S G a w rfl h;have q:=bG x d.toList ps ha D;have g:=B.2 w (Mut S ob' G') (d.toList.map a.eval) x.grdW (fun b i F=>x.mut_lt F) q;have p:(d.toList.map a.eval).toArray=d.map a.eval:=by rw[<-Array.toList_map,Array.toArray_toList]
 unfold Does;have E:(execOp a.eval ⟨dst,.call ⟨.value (.func f),d,ats⟩,ty,pos,af,gd⟩).run P w=.ok (.enter f (d.map a.eval)) w:=by
  simp only[execOp,resolve,Act.eval,Deferred.ofValue,Sem.run_bind,Sem.run_pure,Result.andThen_ok,invoke];rw[show (#[]:Array Value)++Array.map a.eval d++#[]=d.map a.eval by simp];exact M2 B.1
 rw[E];rw[p]at g;refine g.mono ?_;rintro e w' ⟨v,m,rfl,C,H,hb⟩;exact⟨v,rfl,hb,_,⟨m,C,rfl⟩,(B41 (z m C) H).sv⟩
theorem A52(y:∀nt,Sees P nt fr ob fr' ob'){f:FuncId}{b:Array Operand}{ats:Array TypeId}{ps rs:List PV}(q:FnOk P f ps (fun r=>r=rs))(ha:bF fr' b.toList=some ps)(o:b.toList.all H2=true)(k:rs.all PV.flat=true) :
  Neu P ⟨dst,.call ⟨.value (.func f),b,ats⟩,ty,pos,af,gd⟩ fr ob (fun s=>s=kV rs):=by
 intro S G a w h;have:=B42 (P:=P) (dst:=dst) (ty:=ty) (pos:=pos) (af:=af) (gd:=gd) (ats:=ats) y q ha o (fun r t=>by rw[t];exact k) S G a w h;unfold Does at this ⊢;generalize (execOp a.eval _).run P w=r at *;cases r with
 | ok n w' =>
  cases n<;>simp only at this ⊢<;>try exact this
  case value v=>obtain⟨d,s,⟨m,g,i⟩,j⟩:=this;subst g;exact⟨d,s,i,j⟩
  case skip=>obtain⟨d,s,⟨m,g,i⟩,j⟩:=this;subst g;exact⟨d,s,i,j⟩
  case enter f b=>exact this.mono fun e z ⟨v,p,d,s,⟨m,g,i⟩,j⟩=>by subst g;exact⟨v,p,d,s,i,j⟩
 | halt x w'=>exact this
theorem U9{x y:Code}{Q2 Q3:Post}(fr':Fr)(ob':Obs)(b:WpC P nt x fr ob (eD (fun f o=>Sees P nt f o fr' ob') Q3))(k:WpC P nt y fr' ob' Q2):WpC P nt x fr ob (eD (fun f o=>WpC P nt y f o Q2) Q3) :=
 b.mono fun e f o a=>by
  cases e with
  | normal=>exact C3 a k
  | _=>exact a
theorem uX{x y:Code}{Q2 Q3:Post}{X:Type}(E:X->Fr×Obs)(I:X->Prop)(d:WpC P nt x fr ob (eD (fun f o=>∃v,I v/\Sees P nt f o (E v).1 (E v).2) Q3))(k:∀v,I v->WpC P nt y (E v).1 (E v).2 Q2):WpC P nt x fr ob (eD (fun f o=>WpC P nt y f o Q2) Q3) :=
 d.mono fun e f o a=>by
  cases e with
  | normal=>obtain⟨v,c,b⟩:=a;exact C3 b (k v c)
  | _=>exact a
theorem e_cut_g{x Y:Operand}{k:Nat}{α:Type}{d D:Nat}{c:α->Nat->Cell}{C:List α}{t e:TypeId}{X:IntKind}{j:Int}[ht:TySl P t e d D](hx:opv fr x=some (.s (.one (.mut k))))(hk:B5 ob k=some (.grow e α d c C))
  (O:opv fr Y=some (I7 (.int X j)))(Z:0<=j)(h2:j<=C.length)(hp:Nat.blt k 1000000=true) :
  EffV P ⟨dst,.slice t x none (some Y) none,ty,pos,af,gd⟩ fr ob (.s (.one (.mut k))) (Fr.forget k fr) ((k,.grow e α d c (C.take j.toNat))::Obs.forget k ob):=by
 intro S G a w h;obtain⟨N,ac⟩:=H8 h hx;obtain⟨ws,A,ab,U⟩:=h.obs k _ hk;have R:j.toNat<=C.length:=by omega
 have T:j.toNat*d<=C.length*d:=C70 _ R;obtain⟨F,L,f,p⟩:∃F,(execOp a.eval ⟨dst,.slice t x none (some Y) none,ty,pos,af,gd⟩).run P w=.ok (.value F) w/\blk F=blk (G k)/\w.ownsRow S.B e d F j.toNat (ws.take (j.toNat*d)):=by
  obtain⟨H,I⟩:=ht.elem;rcases A.2 with ⟨J,ae⟩ | ⟨g,cap,cur,J,hbg,hgh,hnc,hcm,hcs,htake⟩
  ·refine⟨.slice none 0 0,?_,by rw[J],?_⟩
   ·simp only[execOp,N,J,F7 h O,Option.map_some,Option.map_none];refine M3 ?_;simp only[Instr.sliceAt,Sem.run_bind,run_underlying ht.out.1,Result.andThen_ok];rw[run_slice_h w t none 0 0 H X j Z (by omega),I,J1 ht.size];have Q:j.toNat=0:=by omega
    simp[sliced,Q]
   ·have Q:j.toNat=0:=by omega
    rw[Q];simp only[Nat.zero_mul,C79];exact World.ownsRow_nil w _ _ _
  ·refine⟨.slice (some ⟨g,0,none⟩) j.toNat cap,?_,by rw[J];rfl,?_⟩
   ·simp only[execOp,N,J,F7 h O,Option.map_some,Option.map_none];refine M3 ?_;simp only[Instr.sliceAt,Sem.run_bind,run_underlying ht.out.1,Result.andThen_ok];rw[run_slice_h w t (some ⟨g,0,none⟩) C.length cap H X j Z (by omega),I,J1 ht.size];simp[sliced,Addr.add_lit]
   ·refine⟨by rw[C59,A.1];omega,.inr ⟨g,cap,cur,rfl,hbg,hgh,by omega,hcm,hcs,?_⟩⟩;rw[<-htake,List.take_take,Nat.min_eq_left T]
 have M:=h.turn (o':=.grow e α d c (C.take j.toNat)) (u':=F) (w1:=w) (by simpa using hp) hk rfl rfl rfl (C45 _) (fun _ _ _=>rfl) (fun b i z hr=>hr.1)
  (fun b hb=>.inl (by rw[<-f];exact hb)) (fun b i hb ho=>⟨by rw[<-f];exact ho.1,trivial⟩)
  (fun rd K G' ad=>by
   have E:(C.take j.toNat).length=j.toNat:=by rw[C59];omega
   refine⟨ws.take (j.toNat*d),by rw[E];exact p,by rw[E];omega,?_⟩;intro i hi q hq;rw[E]at hi;obtain⟨z,V,W⟩:=U i (by omega) q hq;refine⟨z,?_,?_⟩
   ·have:(i+1)*d<=j.toNat*d:=C70 _ hi;rw[C88,Nat.one_mul]at this;rw[List.getElem?_take,A6 (by omega)];exact V
   ·rw[List.getElem_take];exact Cell.rep_mono K _ _ W)
 exact J4 (w':=w) (v:=F) L ⟨upd G k F,M,(I8 _ _ _).symm,jA p⟩
abbrev jE(T:TypeId)(e:Int):List PanicEntry:=[{ v:=.iface T (.int .i64 e),recovered:=false }]
def metXP(P:Program)(T:TypeId)(fn:Func)(f:List Nat)(gf:Fr)(b:List S1->Obs->Prop)(d:Int->Obs->Prop):Post
 | .normal,fr,ob | .ret,fr,ob=>∃g ob',RetS P fn fr ob g/\Tail (B4 f gf) fr/\(∀k o,B5 ob' k=some o->B5 ob k=some o)/\b g ob'
 | .panic ch,fr,ob=>∃e ob',ch=jE T e/\Tail (B4 f gf) fr/\(∀k o,B5 ob' k=some o->B5 ob k=some o)/\d e ob'
 | _,_,_=>False
def MetX(P:Program)(T:TypeId)(f:FuncId)(args:List S1)(gf:Fr)(ob:Obs)(j:List Nat)(g:List S1->Obs->Prop)(h:Int->Obs->Prop):Prop :=
 Callable P f/\(High gf->∀S G a w (b:List Value),Sim P S gf ob G a w->All2 (S1.rep (E5 (Mut S ob G) w) G) args b ->
  Calls P f b.toArray w (fun e w'=>(∃v l ob' G',e=.returned v/\g l ob'/\dT (E5 (Mut S ob' G') w') G' l v/\Sim P S (B4 j gf) ob' G' a w') \/
   ∃c ob' G',e=.panicked (jE T c)/\h c ob'/\Sim P S (B4 j gf) ob' G' a w'))
variable {T:TypeId}
theorem Met.toX{f:FuncId}{b:List S1}{gf:Fr}{j:List Nat}{c:List S1->Obs->Prop}{g:Int->Obs->Prop}(h:Met P f b gf ob j c):MetX P T f b gf ob j c g :=
 ⟨h.1,fun p S G a w d q ha=>(h.2 p S G a w d q ha).mono fun e w' k=>.inl k⟩
theorem MetX.intro{f:FuncId}{fn:Func}{c:Code}{args:List S1}{gf:Fr}{F:List Nat}{A:List S1->Obs->Prop}{J:Int->Obs->Prop}(hf:P.funcs[f]?=some fn)(I:(fn.name == "runtime.NumGoroutine")=false)(hb:fn.body=some c)(Q:Nat.ble args.length fn.ntmps=true)(ad:Nat.ble fn.ntmps 1000000=true)
  (h6:WpC P fn.ntmps c (dG 0 args++gf) ob (metXP P T fn F gf A J)):MetX P T f args gf ob F A J:=by
 refine⟨⟨fn,hf,I,by simp[hb]⟩,fun H S G a w q h B=>?_⟩;have ag:q.length=args.length:=B.length.symm;have af:args.length<=fn.ntmps:=by simpa using Q
 have ac:fn.ntmps<=1000000:=by simpa using ad
 let S':Ctx:={ S with nt:=fn.ntmps,df:=[] }
 have hs:Sim P S' (dG 0 args++gf) ob G { tmps:=q.toArray++Array.replicate (fn.ntmps-q.toArray.size) undef,defers:=[] } w:=by
  refine { h with nt:=by simp[S'];omega,ntb:=ac,defers:=rfl,facts:=?_ };intro i s y;rw[l9]at y;cases C:D5 (dG 0 args) i with
  | some s0 =>
   rw[C]at y;have y:some s0=some s:=y;cases y;obtain⟨_,p,U,rfl⟩:=sZ 0 args i _ C;obtain⟨u,hu,hr⟩:=B.get (i-0) p U;have ab:i<q.length:=(C44.1 hu).1;have N:(q.toArray++Array.replicate (fn.ntmps-q.toArray.size) undef).getD i undef=u:=by
    rw[C54,Array.getElem?_append_left (by simpa using ab)];simpa using congrArg (fun x=>x.getD undef) hu
   rw[Ctx.sl_lt (by omega),N];exact hr
  | none =>
   rw[C]at y;have y:D5 gf i=some s:=y;have h7:=H i s y;have M:=h.facts i s y;rw[Ctx.sl_ge h7]at M ⊢;exact M
 refine cF hf hb (wp_mono (h6 S' _ _ w rfl hs) ?_);rintro e K w' ⟨fr',ob',G',Y,m⟩;have E:∀(ds:List Deferred) (w':World),Sim P { S' with df:=ds } fr' ob' G' K w'->∀j:Obs,Tail (B4 F gf) fr'->(∀k o,B5 j k=some o->B5 ob' k=some o)->Sim P S (B4 F gf) j G' a w':=by
  intro ds w' m j C L
  have W:=(m.weaken (fr':=B4 F gf) (fun i s y=>by
   obtain⟨s0,Z⟩:=cK y
   exact C i s (H i s0 Z) y)).weakenO L
  refine { W with nt:=h.nt,ntb:=h.ntb,defers:=h.defers,facts:=fun i s y=>?_ };obtain⟨s0,Z⟩:=cK y;have h7:=H i s0 Z;have M:=W.facts i s y;rw[Ctx.sl_ge h7]at M ⊢;exact M
 have fin:(∃rs j,RetS P fn fr' ob' rs/\Tail (B4 F gf) fr'/\(∀k o,B5 j k=some o->B5 ob' k=some o)/\A rs j)->∀ds w',Sim P { S' with df:=ds } fr' ob' G' K w'->∃v,(results fn K.tmps).run P w'=.ok v w'/\((∃X rs ob' G',Ending.returned v=.returned X/\A rs ob'/\dT (E5 (Mut S ob' G') w') G' rs X/\Sim P S (B4 F gf) ob' G' a w')\/∃c ob' G',Ending.returned v=.panicked (jE T c)/\J c ob'/\Sim P S (B4 F gf) ob' G' a w'):=by
  rintro⟨rs,j,hr,C,L,U⟩ ds w' m;obtain⟨v,hv,V⟩:=hr _ G' K w' m;have R:∀b i,Mut S' j G' b i->Mut S' ob' G' b i:=by
   rintro b i (hm | ⟨k,o,hk,ae⟩)
   ·exact .inl hm
   ·exact .inr ⟨k,o,L k o hk,ae⟩
  exact⟨v,hv,.inl ⟨v,rs,j,G',rfl,U,SV.rep_mono (fun b i z hz=>⟨hz.1,fun hm=>hz.2 (R b i hm)⟩) V,E ds w' m j C L⟩⟩
 cases e with
 | normal=>exact m.leave rfl (fin Y)
 | ret=>exact m.leave rfl (fin Y)
 | panic ch =>
  obtain⟨c,j,rfl,C,L,U⟩:=Y;have m:=m.resolve_right fun h=>nomatch h.1;show LeavesInM Fence.wide 0 P fn K.tmps _ K.defers _ w';rw[m.defers];exact .inr ⟨c,j,G',rfl,U,E [] w' m j C L⟩
 | _=>exact Y.elim
theorem J5{fn:Func}{d:List Nat}{gf:Fr}{a:List S1->Obs->Prop}{b:Int->Obs->Prop}{c:List S1}{ob':Obs}(h:RetS P fn fr ob c)(f:Tail (B4 d gf) fr)(g:∀k o,B5 ob' k=some o->B5 ob k=some o)(i:a c ob'):metXP P T fn d gf a b .ret fr ob :=
 ⟨c,ob',h,f,g,i⟩
theorem l_metX{f:FuncId}{j:List Operand}{H:Array TypeId}{ty:TypeId}{pos:String}{af:Array Edge}{args:List S1}{F:List Nat}{z:List S1->Obs->Prop}{M:Int->Obs->Prop}
  (V:MetX P T f args (eJ fr) ob F z M)(ha:aB fr j=some args)(Y:j.all H2=true)(Z:Nat.blt d nt=true)
  (kp:∀e ob',M e ob'->Q (.panic (jE T e)) (B4 F fr) ob')
  (kk:∀N ob',z N ob'->WpL P nt ops rest ((d,mI N)::B4 F fr) ob' Q):WpL P nt ops (⟨some d,.call ⟨.value (.func f),j.toArray,H⟩,ty,pos,af,none⟩::rest) fr ob Q:=by
 intro S G a w W h;have D:=p8 h j args ha Y;obtain⟨E,I⟩:∃E:Nat->Value,E=fun i=>S.sl a (i-1000000):=⟨_,rfl⟩
 let S':Ctx:={ S with gv:=E }
 have C:High (eJ fr):=fun i s J=>(Y1 fr i s J).1;have g:∀i s,D5 (eJ fr) i=some s->s.rep (E5 (Mut S' ob G) w) G (S'.sl a i):=by
  intro i s J;obtain⟨B,O⟩:=Y1 fr i s J;rw[Ctx.sl_ge B];show s.rep _ _ (E i);have e:=congrFun I i;rw[e];exact h.facts (i-1000000) s O
 have hs:Sim P S' (eJ fr) ob G a w:={ h with facts:=g }
 have m:=V.2 C S' G a w _ hs D;have x:∀{ob':Obs} {G':Gh} {w':World},Sim P S' (B4 F (eJ fr)) ob' G' a w'->Sim P S (B4 F fr) ob' G' a w':=by
  intro ob' G' w' b;have q:∀i s,D5 (B4 F fr) i=some s->s.rep (E5 (Mut S ob' G') w') G' (S.sl a i):=by
   intro i s J;have B:=b.facts (i+1000000) s (by rw[m6];exact mH J);have O:1000000<=i+1000000:=Nat.le_add_left _ _;rw[Ctx.sl_ge O]at B;have B:s.rep (E5 (Mut S ob' G') w') G' (E (i+1000000)):=B;have e:=congrFun I (i+1000000);simp only[Nat.add_sub_cancel]at e;rw[e]at B;exact B
  exact { b with facts:=q }
 refine wpList_plain rfl fun K X=>?_;have he:(execOp a.eval ⟨some d,.call ⟨.value (.func f),j.toArray,H⟩,ty,pos,af,none⟩).run P w=.ok (.enter f (j.map a.eval).toArray) w:=by
  have:=M2 (P:=P) (f:=f) (args:=(j.map a.eval).toArray) (w:=w) V.1;have hm:j.toArray.map a.eval=(j.map a.eval).toArray:=by simp
  simp only[execOp,resolve,Act.eval,Deferred.ofValue,Sem.run_bind,Sem.run_pure,Result.andThen_ok,invoke];rw[show (#[]:Array Value)++Array.map a.eval j.toArray++#[]=(j.map a.eval).toArray by rw[<-hm];simp];exact this
 unfold Oper.wp;rw[he];refine m.mono ?_;rintro e w' (⟨v,N,ob',G',rfl,U,L,b⟩ | ⟨c,ob',G',rfl,U,b⟩)
 ·have R:d<S.nt:=by rw[W];simpa using Z
  exact X _ _ (kk N ob' U S G' _ w' W ((x b).put R L))
 ·exact⟨_,ob',G',kp c ob' U,.inl (x b)⟩
section
variable {P:Program}{dst:Option Tmp}{ty:TypeId}{pos:String}{af:Array Edge}{gd:Option (Nat×Bool)}{fr:Fr}{ob:Obs}
def r9{κ:Type}[DecidableEq κ]:List (κ×Cell)->κ->Cell->List (κ×Cell)
 | [],a,c=>[(a,c)]
 | (k,x)::r,a,c=>if k=a then (k,c)::r else (k,x)::r9 r a c
theorem yZ{κ:Type}[DecidableEq κ]{a:κ}{c:Cell}:∀{b:List (κ×Cell)},O5 b a=none->r9 b a c=b++[(a,c)]
 | [],_=>rfl
 | (k,x)::r,h=>by
  unfold O5 at h;unfold r9;split at h
  ·cases h
  ·rename_i d;rw[A7 d,yZ h];rfl
theorem QB{κ:Type}[DecidableEq κ]{g:κ->Value}{A:TypeDesc}(f:∀a,MapKept.IsKey A (g a))(l:∀a b,g a=g b->a=b){B:Rd}(a:κ){c:Cell}{u:Value}(D:c.rep B u):∀(d:List (κ×Cell)) (n:List MapEntry) (i:Nat),
  All2 (fun (q:κ×Cell) (e:MapEntry)=>e.key=g q.1/\q.2.rep B e.val) d n->O5 d a≠none ->
  ∃p v e,Instr.findNow A (g a) n i=some (some (i+p,v))/\n[p]?=some e/\e.key=g a/\All2 (fun (q:κ×Cell) (e:MapEntry)=>e.key=g q.1/\q.2.rep B e.val) (r9 d a c) (n.modify p fun e=>{ e with key:=g a,val:=u })
 | [],[],_,_,h=>absurd rfl h
 | [],_::_,_,h,_=>h.elim
 | _::_,[],_,h,_=>h.elim
 | (k,x)::d,e::n,i,h,hn=>by
  obtain⟨⟨w,G⟩,C⟩:=h;obtain⟨r,L,j⟩:=MapKept.sameNow_of_keys (f a) (f k);have o:Instr.sameNow A (g a) e.key=some r:=by rw[w];exact L
  by_cases t:k=a
  ·subst t;have:r=true:=j.2 rfl;subst this;refine⟨0,e.val,e,by simp[Instr.findNow,o],rfl,w,?_⟩;unfold r9;rw[A6 rfl];exact⟨⟨rfl,D⟩,C⟩
  ·have:r=false:=by
    cases r
    ·rfl
    ·exact absurd (l _ _ (j.1 rfl)).symm t
   subst this;have z:O5 d a≠none:=by
    intro F;apply hn;unfold O5;rw[A7 t];exact F
   obtain⟨p,v,E,H,I,J,K⟩:=QB f l a D d n (i+1) C z;refine⟨p+1,v,E,?_,by simpa using I,J,?_⟩
   ·simp only[Instr.findNow,o,H];rw[show i+1+p=i+(p+1) by omega]
   ·unfold r9;rw[A7 t];exact⟨⟨w,G⟩,K⟩
theorem QC{x y v:Operand}{t kt:TypeId}{X:TypeDesc}{z:Value}{k:Nat}{κ:Type}[DecidableEq κ]{q:κ->Value}{A:List (κ×Cell)}(a0:κ){c:Cell}[ht:TyMap P t kt X z](V:opv fr x=some (.s (.one (.mut k))))(J:B5 ob k=some (.map κ q A))
  (W:opv fr y=some (I7 (q a0)))(T:opv fr v=some (.s (.one (.p c))))(Q:H2 v=true)(f:∀a,MapKept.IsKey X (q a))(B:∀a b,q a=q b->a=b) :
  Eff P ⟨none,.mapUpdate t x y v,ty,pos,af,gd⟩ fr ob fr ((k,.map κ q (r9 A a0 c))::ob):=by
 cases L:O5 A a0 with
 | none=>rw[yZ L];exact PT a0 V J W T Q f B L
 | some c0 =>
  intro S G a w h;obtain⟨et,u1,Y,u3,u4⟩:=ht.out;obtain⟨R,_⟩:=H8 h V;obtain⟨b,E,l,H,I,ha⟩:=h.obs k _ J;rw[H]at R;have N:c.rep (E5 (Mut S ob G) w) (a.eval v):=Y7 h T Q;obtain⟨p,v0,e,O,h5,h6,h7⟩:=QB f B a0 N A E.toList 0 ha (by rw[L];simp);rw[C91]at O;have F:(E[p]?.map (·.key)).getD (q a0)=q a0:=by
   rw[<-Array.getElem?_toList,h5];exact h6
  obtain⟨g5,g6⟩:=MapKept.heap_set (o':=.map (E.modify p fun e=>{ e with key:=q a0,val:=a.eval v }) l) I;have he:(execOp a.eval ⟨none,.mapUpdate t x y v,ty,pos,af,gd⟩).run P w=.ok .skip { w with heap:=w.heap.setIfInBounds b (.map (E.modify p fun e=>{ e with key:=q a0,val:=a.eval v }) l) }:=by
   simp only[execOp,R,F7 h W];simp only[Instr.mapUpdate,Sem.run_bind,run_underlying u1,Result.andThen_ok,MapKept.run_getObj_map I,MapKept.run_checkKey Y (f a0),MapKept.run_findKey Y O,F,MapKept.run_keyThatStays (f a0),MapKept.run_setObj_map _ I];rfl
  unfold Does;rw[he];have C:blk (G k)=some b:=by rw[H];rfl
  refine⟨G,h.write J C (fun i=>⟨C,trivial⟩) (fun i=>⟨C,trivial⟩) rfl rfl rfl (by simp) (fun j _ K=>g6 j K) ?_⟩;intro rd M;refine⟨b,_,_,H,g5,?_⟩;rw[Array.toList_modify];exact h7.mono fun _ _ ⟨Z,e2⟩=>⟨Z,Cell.rep_mono M _ _ e2⟩
theorem MB{x y:Operand}{t yt:TypeId}{l m:List UInt8}(a:opv fr x=some (P6 l))(c:opv fr y=some (P6 m)):Neu P ⟨dst,.binOp .geq t x y yt,ty,pos,af,gd⟩ fr ob (fun d=>d=L6 (!Op.bytesLess l m)) :=
 cC a c (fun _=>rfl) (fun w=>by simp[binOp,Op.stringOp]) rfl
theorem QD{f:FuncId}{first:List Operand}{cs:List Cell}(d:bF fr first=some (cs.map PV.one))(g:first.all H2=true) :
  Neu P ⟨dst,.makeFunc (.func f) first.toArray #[],ty,pos,af,gd⟩ fr ob (fun l=>l=.s (.one (.fnc f cs))) :=
 E6 fun S G a w h=>by
  have i:=bG h first _ d g
  refine⟨.func (.func f) (first.map a.eval).toArray #[],?_,_,rfl,?_⟩
  ·simp[execOp,Instr.makeFunc]
  ·have key:∀{cs:List Cell} {b:List Value},All2 (PV.rep (E5 (Mut S ob G) w)) (cs.map PV.one) b->All2 (Cell.rep (E5 (Mut S ob G) w)) cs b:=by
    intro cs;induction cs with
    | nil=>intro b h;cases b;trivial;exact h.elim
    | cons c cs j =>
     intro b h;cases b with
     | nil=>exact h.elim
     | cons u b=>exact⟨h.1,j h.2⟩
   exact key i
theorem A06{b:Rd}:∀{a:List Cell} {c:List Value},All2 (Cell.rep b) a c->All2 (PV.rep b) (a.map PV.one) c
 | [],[],_=>trivial
 | [],_::_,h=>h.elim
 | _::_,[],h=>h.elim
 | _::_,_::_,h=>⟨h.1,A06 h.2⟩
theorem n_callC{f:FuncId}{g:Operand}{j:Array Operand}{q:Array TypeId}{B:List Cell}{ps F:List PV}(E:FnOk P f (B.map PV.one++ps) (fun r=>r=F))(J:opv fr g=some (.s (.one (.fnc f B))))(ha:bF fr j.toList=some ps)(H:j.toList.all H2=true) :
  Neu P ⟨dst,.call ⟨.value g,j,q⟩,ty,pos,af,gd⟩ fr ob (fun N=>N=kV F):=by
 intro S G a w h;obtain⟨z,C,D⟩:=H8 h J;have x:All2 (PV.rep (E5 (Mut S ob G) w)) (B.map PV.one++ps) (z++j.toList.map a.eval):=(A06 D).append (bG h j.toList ps ha H);have m:=E.2 w (Mut S ob G) _ h.grdW (fun b i K=>h.mut_lt K) x;unfold Does;have I:(execOp a.eval ⟨dst,.call ⟨.value g,j,q⟩,ty,pos,af,gd⟩).run P w=.ok (.enter f (z++j.toList.map a.eval).toArray) w:=by
  have:=M2 (P:=P) (f:=f) (args:=(z++j.toList.map a.eval).toArray) (w:=w) E.1;simp only[execOp,resolve,C,Deferred.ofValue,Sem.run_bind,Sem.run_pure,Result.andThen_ok,invoke];rw[show z.toArray++Array.map a.eval j++#[]=(z++j.toList.map a.eval).toArray by simp];exact this
 rw[I];refine m.mono ?_;rintro e w' ⟨v,M,rfl,rfl,L,hb⟩;exact⟨v,rfl,hb,_,rfl,L.sv⟩
theorem MC{f:FuncId}{g:Operand}{d:Array Operand}{m:Array TypeId}{ps rs:List PV}(q:FnOk P f ps (fun r=>r=rs))(z:opv fr g=some (I7 (.func (.func f) #[] #[])))(ha:bF fr d.toList=some ps)(s:d.toList.all H2=true) :
  Neu P ⟨dst,.call ⟨.value g,d,m⟩,ty,pos,af,gd⟩ fr ob (fun E=>E=kV rs):=by
 intro S G a w h;have p:=F7 h z;have j:=q.2 w (Mut S ob G) _ h.grdW (fun b i B=>h.mut_lt B) (bG h d.toList ps ha s);unfold Does;have x:(execOp a.eval ⟨dst,.call ⟨.value g,d,m⟩,ty,pos,af,gd⟩).run P w=.ok (.enter f (d.toList.map a.eval).toArray) w:=by
  have:=M2 (P:=P) (f:=f) (args:=(d.toList.map a.eval).toArray) (w:=w) q.1;simp only[execOp,resolve,p,Deferred.ofValue,Sem.run_bind,Sem.run_pure,Result.andThen_ok,invoke];rw[show (#[]:Array Value)++Array.map a.eval d++#[]=(d.toList.map a.eval).toArray by obtain⟨l⟩:=d;simp];exact this
 rw[x];refine j.mono ?_;rintro e w' ⟨v,D,rfl,rfl,C,hb⟩;exact⟨v,rfl,hb,_,rfl,C.sv⟩
theorem c_condF{nt:Nat}{Q:Post}{x y:Code}(h:WpC P nt y fr ob Q):WpC P nt (.cond (.const (.bool false)) x y) fr ob Q:=by
 intro S G a w e f;exact wp_cond_split (c:=.const (.bool false)) (t:=false) rfl (fun h=>by cases h) (fun _=>h S G a w e f)
theorem mO{x:Operand}{T:TypeId}{k off:Nat}(l:opv fr x=some (.s (.one (.ref k off))))(d:P.concrete T=true) :
  Neu P ⟨dst,.makeInterface T x,ty,pos,af,gd⟩ fr ob (fun q=>q=.s (.one (.ifc T k off))) :=
 E6 fun S G a w h=>by
  obtain⟨b,g,j⟩:=H8 h l;refine⟨.iface T (.pointer (some ⟨b,off,none⟩)),?_,b,g,rfl⟩;simp only[execOp,j];exact M3 (run_makeInterface w T _ d)
theorem VC{x:Operand}{T:TypeId}{v:Value}(d:opv fr x=some (I7 v))(b:P.concrete T=true) :
  Neu P ⟨dst,.makeInterface T x,ty,pos,af,gd⟩ fr ob (fun g=>g=I7 (.iface T v)) :=
 E6 fun S G a w h=>by
  refine⟨.iface T v,?_,rfl,rfl⟩;simp only[execOp,F7 h d];exact M3 (run_makeInterface w T _ b)
theorem zA{x:Operand}{j T:TypeId}{k:IntKind}{v:Value}[ht:TyInt P T k](d:opv fr x=some (I7 (.iface T v)))(b:v.oneCell'=true) :
  Neu P ⟨dst,.typeAssert x j T false,ty,pos,af,gd⟩ fr ob (fun g=>g=I7 v) :=
 E6 fun S G a w h=>by
  refine⟨v,?_,rfl,b⟩;simp only[execOp,F7 h d];refine M3 ?_;simp[Instr.typeAssert,run_underlying ht.out]
section
variable {nt:Nat}{ops:Array Oper}{rest:List Oper}{Q:Post}{d:Nat}
theorem jX{f:FuncId}{x:Operand}{m:String}{j:List Operand}{O:Array TypeId}{ty:TypeId}{pos:String}{af:Array Edge}{T:TypeId}{k off:Nat}{g:List S1}{W:List Nat}{C:List S1->Obs->Prop}
  (hI:∀(a:Addr) (vs:Array Value) (w:World),(callMethod (.iface T (.pointer (some a))) m vs).run P w=.ok (.enter f (#[.pointer (some a)]++vs)) w)
  (hf:Met P f (.one (.ref k off)::g) (eJ fr) ob W C)(hx:opv fr x=some (.s (.one (.ifc T k off))))(ha:aB fr j=some g)(hc:j.all H2=true)(hd:Nat.blt d nt=true)
  (kk:∀H ob',C H ob'->WpL P nt ops rest ((d,mI H)::B4 W fr) ob' Q):WpL P nt ops (⟨some d,.call ⟨.invoke x m,j.toArray,O⟩,ty,pos,af,none⟩::rest) fr ob Q:=by
 intro S G a w hn h;obtain⟨b,Y,ab⟩:=H8 h hx;have M:All2 (S1.rep (E5 (Mut S ob G) w) G) (.one (.ref k off)::g) (.pointer (some ⟨b,off,none⟩)::j.map a.eval):=⟨⟨b,Y,rfl⟩,p8 h j g ha hc⟩
 obtain⟨N,R⟩:∃N:Nat->Value,N=fun i=>S.sl a (i-1000000):=⟨_,rfl⟩
 let S':Ctx:={ S with gv:=N }
 have J:High (eJ fr):=fun i s U=>(Y1 fr i s U).1;have q:∀i s,D5 (eJ fr) i=some s->s.rep (E5 (Mut S' ob G) w) G (S'.sl a i):=by
  intro i s U;obtain⟨I,X⟩:=Y1 fr i s U;rw[Ctx.sl_ge I];show s.rep _ _ (N i);have e:=congrFun R i;rw[e];exact h.facts (i-1000000) s X
 have hs:Sim P S' (eJ fr) ob G a w:={ h with facts:=q }
 have D:=hf.2 J S' G a w _ hs M;refine wpList_plain rfl fun K hK=>N4 (K:=fun v w'=>∃H ob' G',C H ob'/\dT (E5 (Mut S' ob' G') w') G' H v/\Sim P S' (B4 W (eJ fr)) ob' G' a w') ?_ ?_
 ·have he:(execOp a.eval ⟨some d,.call ⟨.invoke x m,j.toArray,O⟩,ty,pos,af,none⟩).run P w=.ok (.enter f (.pointer (some ⟨b,off,none⟩)::j.map a.eval).toArray) w:=by
   have:=hI ⟨b,off,none⟩ (j.map a.eval).toArray w;have e1:(#[a.eval x]++Array.map a.eval j.toArray)[0]?=some (a.eval x):=by simp
   have e2:(#[a.eval x]++Array.map a.eval j.toArray).extract 1 (#[a.eval x]++Array.map a.eval j.toArray).size=(j.map a.eval).toArray:=by
    apply Array.ext';simp[C83]
   simp only[execOp,resolve,Sem.run_bind,Sem.run_pure,Result.andThen_ok,invoke,e1,e2];rw[ab,this]
   congr 2
   simp
  unfold Does;rw[he];refine D.mono ?_;rintro e w' ⟨v,H,ob',G',rfl,L,B,F⟩;exact⟨v,rfl,H,ob',G',L,B,F⟩
 ·rintro v w' ⟨H,ob',G',hp,B,F⟩;have Z:d<S.nt:=by rw[hn];simpa using hd
  have E:∀i s,D5 (B4 W fr) i=some s->s.rep (E5 (Mut S ob' G') w') G' (S.sl a i):=by
   intro i s U;have I:=F.facts (i+1000000) s (by rw[m6];exact mH U);have X:1000000<=i+1000000:=Nat.le_add_left _ _;rw[Ctx.sl_ge X]at I;have I:s.rep (E5 (Mut S ob' G') w') G' (N (i+1000000)):=I;have e:=congrFun R (i+1000000);simp only[Nat.add_sub_cancel]at e;rw[e]at I;exact I
  have V:Sim P S (B4 W fr) ob' G' a w':={ F with facts:=E }
  exact hK _ _ (kk H ob' hp S G' _ w' hn (V.put Z B))
end
end
theorem A53{x:Operand}{t e:TypeId}{f d:Nat}(j:opv fr x=some (I7 (.slice none 0 0)))[ht:TySl P t e f d] :
  Neu P ⟨dst,.call ⟨.builtin .cap,#[x],#[t]⟩,ty,pos,af,gd⟩ fr ob (fun k=>k=B6 0) :=
 E6 fun S G a w h=>by
  refine⟨.int .i64 0,?_,rfl,rfl⟩;have g:=F7 h j;simp[execOp,resolve,invoke,builtin,g,Builtin.cap_,run_underlying ht.out.1,goInt]
theorem sB{x k:Operand}{t e:TypeId}{b m:Nat}{j:IntKind}[ht:TySl P t e m b](p:opv fr x=some (I7 (.slice none 0 0)))(g:opv fr k=some (I7 (.int j 0))) :
  Neu P ⟨dst,.slice t x none (some k) none,ty,pos,af,gd⟩ fr ob (fun q=>q=I7 (.slice none 0 0)) :=
 E6 fun S G a w h=>by
  refine⟨.slice none 0 0,?_,rfl,rfl⟩;have o:=F7 h p;simp only[execOp,o,F7 h g,Option.map_some,Option.map_none];refine M3 ?_;obtain⟨d,f⟩:=ht.elem;simp only[Instr.sliceAt,Sem.run_bind,run_underlying ht.out.1,Result.andThen_ok];rw[run_slice_h w t none 0 0 d j 0 (by omega) (by omega),f,J1 ht.size];simp[sliced]
theorem C19(t k:Nat)(α:Type)(j:Nat)(c:α->Nat->Cell)(e:TypeId)(D:D5 fr t=some (I7 (.slice none 0 0)))(q:(J2 k fr&&J9 k ob)=true) :
  Sees P nt fr ob ((t,.s (.one (.mut k)))::fr) ((k,.grow e α j c [])::ob):=by
 simp only[C39]at q;obtain⟨x,z⟩:=q;obtain⟨A,B,C⟩:=H4 z;intro S G a w E h;have f:=h.new C (o:=.grow e α j c []) (u:=.slice none 0 0) (w1:=w) B (Below.refl _ _) (fun b hb=>by simp[blk]at hb) ⟨[],World.ownsRow_nil w _ _ _,by simp,fun i d=>absurd d (by simp)⟩;rw[i7 x,A]at f;refine⟨upd G k (.slice none 0 0),{ f with facts:=fun i s d=>?_ }⟩;by_cases p:t=i
 ·subst p;rw[D4]at d;cases d;have v:=(h.facts t _ D).1;refine⟨?_,?_⟩
  ·rw[v];exact (I8 _ _ _).symm
  ·rw[v];rfl
 ·rw[C4 p]at d;exact f.facts i s d
theorem QE{β:Type}{b:Nat}{a:β->Nat->Cell}{i:Nat}{x:Operand}{r:List (Nat×Operand)}{ys:List (List β)}(g:opv fr x=some (I7 (.slice none 0 0)))(f:H2 x=true)(h:AV fr 1 (fun (l:List β) _=>.list β b a l) r (i+1) ys) :
  AV fr 1 (fun (l:List β) _=>.list β b a l) ((i,x)::r) i ([]::ys) :=
 ⟨rfl,f,_,[],ys,g,rfl,fun j G d ha=>by
  cases d with
  | nil=>exact ha.elim
  | cons u d =>
   cases d with
   | cons _ _=>exact ha.2.elim
   | nil =>
    refine⟨?_,trivial⟩;have:u=.slice none 0 0:=ha.1.1;rw[this]
    exact t7 β b a,rfl,h⟩
class TyArr (P:Program) (t:TypeId) (e:outParam TypeId) (n:outParam Nat) (es:outParam Nat):Prop where
 out:P.underlying t=some (.array n e)/\(P.info? e).map (·.size)=some es
theorem dI{x y:Operand}{t e:TypeId}{n c k off:Nat}{v:IntKind}{i:Int}[ht:TyArr P t e n c](q:opv fr x=some (.s (.one (.ref k off))))(u:opv fr y=some (I7 (.int v i)))(g:0<=i)(j:i<n) :
  Neu P ⟨dst,.indexAddr t x y,ty,pos,af,gd⟩ fr ob (fun z=>z=.s (.one (.ref k (off+i.toNat*c)))) :=
 E6 fun S G a w h=>by
  obtain⟨b,l,m⟩:=H8 h q;refine⟨.pointer (some ⟨b,off+i.toNat*c,none⟩),?_,b,l,rfl⟩;simp only[execOp,m,F7 h u];refine M3 ?_;have hb:0<=i/\i<(n:Int):=⟨g,j⟩
  simp[Instr.indexAt,Instr.sureAddr,run_underlying ht.out.1,asIntOf,hb,J1 ht.out.2,Addr.add_lit]
theorem lB{x y:Operand}{t e:TypeId}{n g off j:Nat}{α:Type}{c:α->Nat->Cell}{a0:α}{z:IntKind}{i:Int}[ht:TyArr P t e n g](u:opv fr x=some (.s (.one (.eref α j c a0 off))))(v:opv fr y=some (I7 (.int z i)))(k:0<=i)(l:i<n) :
  Neu P ⟨dst,.indexAddr t x y,ty,pos,af,gd⟩ fr ob (fun B=>B=.s (.one (.eref α j c a0 (off+i.toNat*g)))) :=
 E6 fun S G a w h=>by
  obtain⟨b,o,q,m⟩:=H8 h u;refine⟨.pointer (some ⟨b,o+(off+i.toNat*g),none⟩),?_,b,o,rfl,m⟩;simp only[execOp,q,F7 h v];refine M3 ?_;have hb:0<=i/\i<(n:Int):=⟨k,l⟩
  simp[Instr.indexAt,Instr.sureAddr,run_underlying ht.out.1,asIntOf,hb,J1 ht.out.2,Addr.add_lit,Nat.add_assoc]
theorem CY{f g:Nat->Option (Nat×Nat)}:∀(ps:List (Nat×Value)) (a:Array Value),(∀p∈ps,f p.1=g p.1)->Instr.fill f a ps=Instr.fill g a ps
 | [],_,_=>rfl
 | (i,v)::r,a,h=>by
  have b:f i=g i:=h (i,v) C56;unfold Instr.fill;rw[b];cases g i with
  | none=>rfl
  | some q =>
   obtain⟨off,d⟩:=q;dsimp only;split
   ·rfl
   ·exact CY r _ fun p c=>h p (C55 _ c)
theorem CZ{fr:Fr}{a:List (Nat×Nat)}:∀{ps:List (Nat×Operand)} {c b:List TC},iY fr a ps c=some b->∀p∈ps,p.1<a.length
 | [],_,_,_,p,hp=>by cases hp
 | (i,x)::r,c,b,h,p,hp=>by
  simp only[iY]at h;split at h
  ·rename_i off e s f j;have g:i<a.length:=(C44.1 f).1;rcases C50.1 hp with rfl | hp
   ·exact g
   ·cases d:(Nat.beq s.cells.length e&&H2 x&&Nat.ble (off+e) c.length)
    ·rw[d]at h;cases h
    ·rw[d]at h;exact CZ h p hp
  ·cases h
class TyArrZ (P:Program) (t:TypeId) (zs:outParam (List Value)) (offs:outParam (List (Nat×Nat))):Prop where
 out:∃n e es z,P.underlying t=some (.array n e)/\(P.info? t).bind (·.zero)=some z/\z.cells.toList=zs/\zs.all (·.oneCell')=true/\(P.info? e).map (·.size)=some es/\offs=(List.range n).map fun i=>(i*es,es)
theorem VD{t:TypeId}{D:List Value}{j:List (Nat×Nat)}{f:Array (Nat×Operand)}{B:List TC}[ht:TyArrZ P t D j](hb:iY fr j f.toList (D.map fun c=>.p (.v c))=some B) :
  Neu P ⟨dst,.build t f,ty,pos,af,gd⟩ fr ob (fun Q=>Q=.s (.agg B)) :=
 E6 fun S G a w h=>by
  obtain⟨n,e,C,z,E,F,H,I,J,K⟩:=ht.out;obtain⟨k,N,M⟩:=BU h j f.toList _ B z.cells hb (by rw[H];exact bR _ I);refine⟨.agg k,?_,k.toList,by simp,M⟩;have y:=CZ hb;have m:Instr.fill (fun i=>some (i*C,C)) z.cells (f.toList.map fun x=>(x.1,a.eval x.2))=some k:=by
   rw[<-N];refine CY _ _ fun p A=>?_;obtain⟨q,O,rfl⟩:=C71.1 A;have r:=y q O;rw[K]at r ⊢;rw[C74,C94]at r;simp[r]
  simp only[execOp];refine M3 ?_;have A:(f.map fun x=>(x.1,a.eval x.2)).toList=f.toList.map fun x=>(x.1,a.eval x.2):=by simp
  simp only[Instr.build,Sem.run_bind,T5 F,Result.andThen_ok,run_underlying E,J1 J];rw[show (f.map fun (x:Nat×Operand)=>match x with | (i,x)=>(i,a.eval x))=f.map fun x=>(x.1,a.eval x.2) from rfl,A,m];rfl
theorem n_boxE{x:Operand}{e:TypeId}{c:Cell}(B:opv fr x=some (.s (.one (.p c))))(q:H2 x=true) :
  Neu P ⟨dst,.box e x,ty,pos,af,gd⟩ fr ob (fun C=>C=.s (.one (.eref Unit 1 (fun _ _=>c) () 0))):=by
 intro S G a w h;have A:(SV.s (.one (.p c))).rep (E5 (Mut S ob G) w) G (a.eval x):=Y7 h B q;have g:c.rep (E5 (Mut S ob G) w) (a.eval x):=A;have m:=Cell.rep_one g;have d:(a.eval x).cells=#[a.eval x]:=by
  generalize a.eval x=u at m;cases u<;>first | rfl | simp[Value.oneCell']at m
 have k:Below w.heap.size w (w.alloc (.cells (a.eval x).cells e)):=(Below.refl _ _).alloc (C45 _) _;refine J4 (w':=w.alloc (.cells (a.eval x).cells e)) (v:=.pointer (some ⟨w.heap.size,0,none⟩)) ?_ ⟨k,_,rfl,w.heap.size,0,rfl,?_⟩
 ·simp[execOp,Instr.box,newVar,newRow]
 ·intro j D;obtain rfl:j=0:=by omega
  refine⟨a.eval x,⟨?_,fun z=>absurd (h.mut_lt z) (Nat.lt_irrefl _)⟩,Cell.rep_mono (fun _ _ _ y=>kU k y) _ _ g⟩;exact cell_of_heap (heap_alloc_new w _) (by simp[d])
theorem n_boxA{x:Operand}{e:TypeId}{s:S1}{d:List Cell}(E:opv fr x=some (.s s))(y:H2 x=true)(C:gQ s.cells=some d) :
  Neu P ⟨dst,.box e x,ty,pos,af,gd⟩ fr ob (fun F=>F=.s (.one (.eref Unit d.length (fun _ j=>d.getD j (.v undef)) () 0))):=by
 intro S G a w h;have D:(SV.s s).rep (E5 (Mut S ob G) w) G (a.eval x):=Y7 h E y;have k:=bT C (C08 D);have g:Below w.heap.size w (w.alloc (.cells (a.eval x).cells e)):=(Below.refl _ _).alloc (C45 _) _;refine J4 (w':=w.alloc (.cells (a.eval x).cells e)) (v:=.pointer (some ⟨w.heap.size,0,none⟩)) ?_ ⟨g,_,rfl,w.heap.size,0,rfl,?_⟩
 ·simp[execOp,Instr.box,newVar,newRow]
 ·intro j u;obtain⟨z,m,q⟩:=k.get j _ (C36 u);refine⟨z,⟨cell_of_heap (heap_alloc_new w _) (by rw[C91];simpa using m),fun B=>absurd (h.mut_lt B) (Nat.lt_irrefl _)⟩,?_⟩;show (d.getD j (.v undef)).rep _ z;rw[show d.getD j (.v undef)=d[j] by simp[C38,u]];exact Cell.rep_mono (fun _ _ _ A=>kU g A) _ _ q
theorem zB{f:FuncId}{x:Operand}{α:Type}{d:Nat}{c:α->Nat->Cell}{v:α}(j:opv fr x=some (.s (.one (.eref α d c v 0)))) :
  Neu P ⟨dst,.makeFunc (.func f) #[] #[x],ty,pos,af,gd⟩ fr ob (fun l=>l=.s (.one (.fncE f α d c v))) :=
 E6 fun S G a w h=>by
  obtain⟨b,o,i,g⟩:=H8 h j;refine⟨.func (.func f) #[] #[a.eval x],?_,b,o,?_,g⟩
  ·simp[execOp,Instr.makeFunc]
  ·rw[i];rfl
theorem n_callE{f:FuncId}{g:Operand}{m:Array Operand}{H:Array TypeId}{α:Type}{O:Nat}{c:α->Nat->Cell}{v:α}{args:List S1}{N:Cell}
  (U:Met P f (args++[.one (.eref α O c v 0)]) [] [] [] (fun V ob'=>V=[.one (.p N)]/\ob'=[]))(hg:opv fr g=some (.s (.one (.fncE f α O c v))))(ha:aB fr m.toList=some args)(hc:m.toList.all H2=true) :
  Neu P ⟨dst,.call ⟨.value g,m,H⟩,ty,pos,af,gd⟩ fr ob (fun s'=>s'=.s (.one (.p N))):=by
 intro S G a w h;obtain⟨b,o,Q,R⟩:=H8 h hg;have F:=p8 h m.toList args ha hc;have x:All2 (S1.rep (E5 (Mut S ob G) w) G) (args++[.one (.eref α O c v 0)]) (m.toList.map a.eval++[Value.pointer (some ⟨b,o,none⟩)]):=F.append ⟨⟨b,o,rfl,R⟩,trivial⟩;let S':Ctx:={ S with w0:=w,M0:=fun b i=>Mut S ob G b i,io:=fun _=>False }
 have B:High ([]:Fr):=fun i s hi=>by cases hi
 have I:Grd P (fun _=>False) w:=by
  obtain⟨wg,X,T,Y⟩:=h.grd;refine⟨wg,X,C82 T h.size,fun j M=>?_⟩;obtain⟨Z,h5⟩:=Y j M;exact⟨(h.keep j (C93 M T) h5).trans Z,fun e=>e⟩
 have hs:Sim P S' [] [] G a w:={ nt:=h.nt,ntb:=h.ntb,defers:=h.defers,os:=rfl,tape:=rfl,output:=rfl,size:=C45 _,keep:=fun _ _ _=>rfl,m0:=fun b i C=>h.mut_lt C,m0io:=fun _ _ _ e=>e,grd:=I,pin:=h.pin,old:=fun _ _ _ e=>(by cases e),dis:=fun _ _ _ _ _ e=>(by cases e),obs:=fun _ _ e=>(by cases e),facts:=fun _ _ e=>(by cases e) }
 have K:∀b i z,E5 (Mut S ob G) w b i z->E5 (Mut S' [] G) w b i z:=fun b i z J=>⟨J.1,fun C=>J.2 (by
  rcases C with C | ⟨k,o,hk,_⟩
  ·exact C
  ·cases hk)⟩
 have q:=U.2 B S' G a w _ hs (x.mono fun _ _=>S1.rep_mono K);unfold Does;have he:(execOp a.eval ⟨dst,.call ⟨.value g,m,H⟩,ty,pos,af,gd⟩).run P w=.ok (.enter f (m.toList.map a.eval++[Value.pointer (some ⟨b,o,none⟩)]).toArray) w:=by
  have:=M2 (P:=P) (f:=f) (args:=(m.toList.map a.eval++[Value.pointer (some ⟨b,o,none⟩)]).toArray) (w:=w) U.1;simp only[execOp,resolve,Q,Deferred.ofValue,Sem.run_bind,Sem.run_pure,Result.andThen_ok,invoke];rw[show (#[]:Array Value)++Array.map a.eval m++#[Value.pointer (some ⟨b,o,none⟩)]=(m.toList.map a.eval++[Value.pointer (some ⟨b,o,none⟩)]).toArray by obtain⟨l⟩:=m;simp];exact this
 rw[he];refine q.mono ?_;rintro e w' ⟨W,V,ob',G',rfl,⟨rfl,rfl⟩,L,d⟩;refine⟨W,rfl,⟨d.os,d.tape,d.output,d.size,fun j M=>d.keep j M (fun e=>e)⟩,_,rfl,?_⟩;have D:N.rep (E5 (Mut S' [] G') w') W:=L;refine Cell.rep_mono (fun b i z J=>⟨J.1,fun C=>J.2 (.inl C)⟩) _ _ D
theorem RetOk.s1{fn:Func}{c:Cell}(h:RetOk P fn fr ob [.one c]):RetS P fn fr ob [.one (.p c)]:=fun S G a w f=>let ⟨v,b,d⟩:=h S G a w f;⟨v,b,d.sv⟩
theorem RetOk.s2{fn:Func}{c b:Cell}(h:RetOk P fn fr ob [.one c,.one b]):RetS P fn fr ob [.one (.p c),.one (.p b)]:=fun S G a w g=>let ⟨v,d,f⟩:=h S G a w g;⟨v,d,f.sv⟩
theorem JC(k:Nat){x y:Operand}{t tn e:TypeId}{f q:Nat}{z:Value}{kn:IntKind}{n:Nat}[ht:TySl P t e f q][hn:TyInt P tn kn][hz:TyZero P e z](hx:opv fr x=some (I7 (.slice none 0 0)))(hy:opv fr y=some (I7 (.int .i64 n)))(h0:0<n)(J:n<=1048576)
  (hk:B5 ob k=none)(hp:Nat.blt k 1000000=true) :
  EffV P ⟨dst,.call ⟨.builtin .append,#[x,y],#[t,tn]⟩,ty,pos,af,gd⟩ fr ob (.s (.one (.mut k))) (Fr.forget k fr) ((k,.grow e Unit f (fun _ j=>.v (z.cells.getD j undef)) (List.replicate n ()))::Obs.forget k ob):=by
 intro S G a w h;have Z:=ht.out.2.2.1;cases E:P.info? e with
 | none=>have:=hz.out.1;simp[E]at this
 | some i =>
 have O:i.zero=some z:=by have:=hz.out.1;simpa[E] using this
 have V:i.size=f/\i.bytes=q:=by have:=ht.out.2.1;simpa[E] using this
 have Y:=ht.out.2.2.2.1;have C:z.cells.size=f:=by have:=ht.out.2.2.2.2;simpa[E,O] using this
 have ae:n*i.bytes<=1048576*4096:=Nat.mul_le_mul J (by rw[V.2];exact Y);have A:=Lib.run_append_nil_zeros w t tn ty e i z .i64 kn ht.out.1 hn.out E O n h0 (by rw[V.1];exact Z) (by omega) (by omega);obtain⟨D,ab⟩:∃D,D=grownCap w n 0 e:=⟨_,rfl⟩
 have N:=grownCap_ge w n 0 e;have K:=grownCap_le_maxLen w n 0 e (by unfold maxLen;omega);rw[<-ab]at A N K;obtain⟨I,F⟩:∃I,I=Builtin.zeroCells z.cells n++Builtin.zeroCells z.cells (D-n):=⟨_,rfl⟩
 rw[<-F]at A;obtain⟨X,H⟩:∃X,X=(Builtin.zeroCells z.cells n).toList:=⟨_,rfl⟩
 have W:X.length=n*f:=by rw[H,Array.length_toList,size_zeroCells,C]
 have U:(w.drew.alloc (.cells I e)).ownsRow S.B e f (.slice (some ⟨w.heap.size,0,none⟩) n D) n X:=by
  refine⟨W,.inr ⟨w.heap.size,D,I,rfl,h.size,heap_alloc_new w.drew _,N,K,?_,?_⟩⟩
  ·rw[F,Array.size_append,size_zeroCells,size_zeroCells,C,<-C88]
   congr 1
   omega
  ·rw[F,Array.toList_append,<-H,<-W];exact List.take_left
 have ad:Below w.heap.size w (w.drew.alloc (.cells I e)):=⟨rfl,rfl,rfl,by simp,fun k hk=>heap_alloc_old w.drew _ hk⟩
 have hu:∀b,blk (.slice (some ⟨w.heap.size,0,none⟩) n D)=some b->w.heap.size<=b:=by intro b hb;simp[blk]at hb;omega
 refine J4 (w':=w.drew.alloc (.cells I e)) (v:=.slice (some ⟨w.heap.size,0,none⟩) n D) (by simp[execOp,resolve,invoke,builtin,F7 h hx,F7 h hy,A]) ?_;refine⟨upd G k (.slice (some ⟨w.heap.size,0,none⟩) n D),h.new (by simpa using hp) hk (o:=.grow e Unit f (fun _ j=>.v (z.cells.getD j undef)) (List.replicate n ())) ad hu ?_,(I8 _ _ _).symm,rfl⟩;refine⟨X,by rw[C95];exact U,by rw[C95];omega,fun i E j hj=>?_⟩;rw[C95]at E;have ac:i*f+j<n*f:=by
  have:(i+1)*f<=n*f:=C70 _ E;rw[C88,Nat.one_mul]at this;omega
 have T:(i*f+j) % f=j:=by rw[Nat.add_comm,Nat.add_mul_mod_self_right];exact Nat.mod_eq_of_lt hj
 have Q:j<z.cells.size:=by rw[C];exact hj
 have M:z.cells.getD j undef=z.cells[j]:=by rw[C54,Array.getElem?_eq_getElem Q];rfl
 refine⟨z.cells.getD j undef,?_,rfl,?_⟩
 ·rw[H,M];simp only[Builtin.zeroCells,Array.toList_map,Array.toList_range,C96,C];rw[D02 ac,Option.map_some,T,getElem!_pos z.cells j Q]
 ·rw[M];exact C47.1 hz.out.2 _ (by simp)
theorem C20{k:Nat}{e:TypeId}{α:Type}(β:Type){f:Nat}{c:α->Nat->Cell}(j:β->Nat->Cell)(m:B5 ob k=some (.grow e α f c [])):Sees P nt fr ob fr ((k,.grow e β f j [])::ob):=by
 intro S G a w q h;refine⟨G,h.retold (o':=.grow e β f j []) m (fun b i n=>⟨n.1,trivial⟩) ?_⟩;rintro s ⟨p,d,_,_⟩;exact⟨p,d,by simp,fun i l=>absurd l (by simp)⟩
theorem C23(kb o:Nat){m:List TC}{t0:TC}{c:Cell}(hb:B5 ob kb=some (.box m))(k:m[o]?=some t0)(s:t0.pure?=some c):Sees P nt fr ob fr ((kb,.box (m.set o (.p c)))::ob):=by
 intro S G a w A h;obtain⟨b,C,t,r,y,ha⟩:=h.obs kb _ hb;have d:blk (G kb)=some b:=by rw[r];rfl
 refine⟨_,h.retell hb d (fun i=>⟨d,trivial⟩) (fun i=>⟨d,trivial⟩) ?_⟩;rintro B ⟨q,n,v,g,j,e⟩;refine⟨q,n,v,g,j,C13 o (fun z u=>?_) e⟩;obtain⟨D,f,l⟩:=e.get o _ k;rw[u]at f;cases f;exact C17 s l
theorem C21{t:Nat}(k:Nat)(α:Type)(d:Nat)(c:α->Nat->Cell)(e:TypeId)(A:D5 fr t=some (.s (.one (.p (.v (.slice none 0 0))))))(x:B5 ob k=none)(z:Nat.blt k 1000000=true) :
  Sees P nt fr ob ((t,.s (.one (.buf k α d c [])))::Fr.forget k fr) ((k,.spare 0 d e)::Obs.forget k ob):=by
 intro S G a w C h;have j:=h.new (by simpa using z) (o:=.spare 0 d e) (u:=.slice none 0 0) (w1:=w) x (Below.refl _ _) (fun b hb=>by simp[blk]at hb) ⟨[],World.ownsRow_nil w _ _ _⟩;refine⟨_,{ j with facts:=fun i s g=>?_ }⟩;by_cases q:t=i
 ·subst q;rw[D4]at g;cases g;have B:=(h.facts _ _ A).1;rw[B];exact⟨(I8 _ _ _).symm,t7 α d c⟩
 ·rw[C4 q]at g;exact j.facts i s g
def IdleFn(P:Program)(f:FuncId)(n:Nat):Prop :=
 ∀(a:List Value) (w:World),a.length=n->(callFunc f a.toArray).run P w=.ok (.enter f a.toArray) w/\CallsDIn Fence.wide 0 P f a.toArray .returning w (fun e b w'=>(∃v,e=.returned v)/\b=.returning/\w'=w)
theorem IdleFn.idle{f:FuncId}{n:Nat}(h:IdleFn P f n){a:List Value}(k:a.length=n)(ds:List Deferred)(w:World) :
  Idle P ({ target:=.fn (.func f) a.toArray,args:=#[] }::ds) ds w w:=by
 intro fn b R d;obtain⟨g,j⟩:=h a w k;refine⟨by simp,.inr ⟨fun h=>by simp[Fence.wide]at h,.func f,a.toArray,f,a.toArray,rfl,?_,fun _ _=>trivial,?_⟩⟩
 ·simp only[invoke];rw[show (#[]:Array Value)++a.toArray=a.toArray by simp];exact g
 ·refine CallsDIn.mono j ?_;rintro e l w' ⟨⟨v,rfl⟩,rfl,rfl⟩;exact d
theorem A54(k:Nat){t e:TypeId}{A H n:Nat}{f:Array (Nat×Operand)}{α:Type}{c:α->Nat->Cell}{ys:List α}[ht:TySl P t e A H](hb:AV fr A c f.toList 0 ys)(Y:f.toList.length=n)(M:Nat.ble n 100000=true)(Q:Nat.ble A 100=true)
  (hk:B5 ob k=none)(I:Nat.blt k 1000000=true):EffV P ⟨dst,.buildSlice t n f,ty,pos,af,gd⟩ fr ob (.s (.one (.mut k))) (Fr.forget k fr) ((k,.grow e α A c ys)::Obs.forget k ob):=by
 intro S G a w h;have I:k<1000000:=by simpa using I
 have Z:n<=100000:=by simpa using M
 have O:A<=100:=by simpa using Q
 have ah:n*A<=100000*100:=Nat.mul_le_mul Z O;obtain⟨_,_,_,_,D⟩:=ht.out;cases X:P.info? e with
 | none=>simp[X]at D
 | some i =>
 cases hz:i.zero with
 | none=>simp[X,hz]at D
 | some z =>
 have ag:(P.info? e).bind (·.zero)=some z:=by simp[X,hz]
 let q:Array Value:=(Array.range (n*A)).map ((if n*A=0 then #[] else z.cells)[· % (if n*A=0 then #[] else z.cells).size]!);have N:q.size=n*A:=by simp[q]
 obtain⟨K,W,ab,ac,hv⟩:=qE h f.toList 0 ys q hb (by rw[N,Y,C91]);simp only[Nat.zero_mul,C79,D06]at W;have hp:(f.map fun x=>(x.1,a.eval x.2)).toList=f.toList.map fun x=>(x.1,a.eval x.2):=by simp
 have E:ys.length=n:=by rw[ac,Y]
 refine J4 (w':=w.alloc (.cells K.toArray e)) (v:=.slice (some ⟨w.heap.size,0,none⟩) n n) ?_ ?_
 ·simp only[execOp];refine M3 ?_;simp only[Instr.buildSlice,Sem.run_bind,run_underlying ht.out.1,Result.andThen_ok,J1 ht.size];rw[A7 (by omega)];by_cases F:n*A=0
  ·simp only[F,if_true,Sem.run_bind,Sem.run_pure,Result.andThen_ok];have C:q=(Array.range 0).map ((#[]:Array Value)[· % (#[]:Array Value).size]!):=by simp only[q,F,if_true]
   rw[show (f.map fun (x:Nat×Operand)=>match x with | (i,x)=>(i,a.eval x))=f.map fun x=>(x.1,a.eval x.2) from rfl,hp,<-C,W];simp[newRow]
  ·simp only[A7 F,Sem.run_bind,T5 ag,Sem.run_pure,Result.andThen_ok];have C:q=(Array.range (n*A)).map (z.cells[· % z.cells.size]!):=by simp only[q,A7 F]
   rw[show (f.map fun (x:Nat×Operand)=>match x with | (i,x)=>(i,a.eval x))=f.map fun x=>(x.1,a.eval x.2) from rfl,hp,<-C,W];simp[newRow]
 ·have V:Below w.heap.size w (w.alloc (.cells K.toArray e)):=(Below.refl _ _).alloc (C45 _) _;have hu:∀b,blk (.slice (some ⟨w.heap.size,0,none⟩) n n)=some b->w.heap.size<=b:=by intro b hb;simp[blk]at hb;omega
  have J:K.length=n*A:=by rw[ab,Y]
  have T:(w.alloc (.cells K.toArray e)).ownsRow S.B e A (.slice (some ⟨w.heap.size,0,none⟩) n n) ys.length K :=
   ⟨by rw[J,E],.inr ⟨w.heap.size,n,K.toArray,by rw[E],h.size,heap_alloc_new w _,by rw[E];exact C45 _,by unfold maxLen;omega,by simpa using J,by rw[E,<-J];simp⟩⟩
  have U:=h.new I hk (o:=.grow e α A c ys) V hu ⟨K,T,by omega,fun m hm j hj=>by
   obtain⟨zz,ad,ae⟩:=hv m hm j hj
   exact⟨zz,ad,Cell.rep_mono (fun _ _ _ hr=>h.rd_new V hu hr) _ _ ae⟩⟩
  exact⟨_,U,(I8 _ _ _).symm,rfl⟩
theorem P9{x:Operand}{ty:TypeId}{pos:String}{af:Array Edge}{dst:Option Tmp}{e:Int}(g:opv fr x=some (I7 (.iface T (.int .i64 e))))(h:Q (.panic (jE T e)) fr ob) :
  WpL P nt ops (⟨dst,.panic x,ty,pos,af,none⟩::rest) fr ob Q:=by
 intro S G a w k b;refine wpList_plain rfl fun K j=>?_;have d:(execOp a.eval ⟨dst,.panic x,ty,pos,af,none⟩).run P w=.halt (.panic (.iface T (.int .i64 e))) w:=by
  simp only[execOp,F7 b g];rfl
 unfold Oper.wp;rw[d];exact⟨fr,ob,G,h,.inl b⟩
theorem MetX.introH{f:FuncId}{fn:Func}{c:Code}{a:List S1}{gf:Fr}{ks:List Nat}{d:List S1->Obs->Prop}{h:Int->Obs->Prop}(j:P.funcs[f]?=some fn)(b:(fn.name == "runtime.NumGoroutine")=false)(hb:fn.body=some c)(g:Nat.ble a.length fn.ntmps=true)(i:Nat.ble fn.ntmps 1000000=true)
  (k:High gf->WpC P fn.ntmps c (dG 0 a++gf) ob (metXP P T fn ks gf d h)):MetX P T f a gf ob ks d h :=
 ⟨⟨fn,j,b,by simp[hb]⟩,fun e=>(MetX.intro j b hb g i (k e)).2 e⟩
theorem I1{d:List Nat}{gf:Fr}{b:Int->Obs->Prop}{e:Int}{ob':Obs}(f:Tail (B4 d gf) fr)(g:∀k o,B5 ob' k=some o->B5 ob k=some o)(h:b e ob'):∃c a,jE T e=jE T c/\Tail (B4 d gf) fr/\(∀k o,B5 a k=some o->B5 ob k=some o)/\b c a :=
 ⟨e,ob',rfl,f,g,h⟩
theorem l_metXF{f:FuncId}{g:Operand}{m:List Operand}{J:Array TypeId}{ty:TypeId}{pos:String}{af:Array Edge}{nf nc:List (Nat×Nat)}{args:List S1}{I:List Nat}{C:List S1->Obs->Prop}{N:Int->Obs->Prop}
  (hf:MetX P T f (nf.map CI++args++nc.map CI) (eJ fr) ob I C N)(hg:opv fr g=some (.s (.one (.clo f nf nc))))(ha:aB fr m=some args)(hc:m.all H2=true)(hd:Nat.blt d nt=true)
  (kp:∀e ob',N e ob'->Q (.panic (jE T e)) (B4 I fr) ob')
  (kk:∀U ob',C U ob'->WpL P nt ops rest ((d,mI U)::B4 I fr) ob' Q):WpL P nt ops (⟨some d,.call ⟨.value g,m.toArray,J⟩,ty,pos,af,none⟩::rest) fr ob Q:=by
 intro S G a w hn h;obtain⟨O,R,W,Z,ab⟩:=H8 h hg;have F:All2 (S1.rep (E5 (Mut S ob G) w) G) (nf.map CI++args++nc.map CI) (O++m.map a.eval++R):=((oQ Z).append (p8 h m args ha hc)).append (oQ ab);obtain⟨H,B⟩:∃H:Nat->Value,H=fun i=>S.sl a (i-1000000):=⟨_,rfl⟩
 let S':Ctx:={ S with gv:=H }
 have E:High (eJ fr):=fun i s L=>(Y1 fr i s L).1;have j:∀i s,D5 (eJ fr) i=some s->s.rep (E5 (Mut S' ob G) w) G (S'.sl a i):=by
  intro i s L;obtain⟨D,V⟩:=Y1 fr i s L;rw[Ctx.sl_ge D];show s.rep _ _ (H i);have e:=congrFun B i;rw[e];exact h.facts (i-1000000) s V
 have hs:Sim P S' (eJ fr) ob G a w:={ h with facts:=j }
 have q:=hf.2 E S' G a w _ hs F;have z:∀{ob':Obs} {G':Gh} {w':World},Sim P S' (B4 I (eJ fr)) ob' G' a w'->Sim P S (B4 I fr) ob' G' a w':=by
  intro ob' G' w' b;have x:∀i s,D5 (B4 I fr) i=some s->s.rep (E5 (Mut S ob' G') w') G' (S.sl a i):=by
   intro i s L;have D:=b.facts (i+1000000) s (by rw[m6];exact mH L);have V:1000000<=i+1000000:=Nat.le_add_left _ _;rw[Ctx.sl_ge V]at D;have D:s.rep (E5 (Mut S ob' G') w') G' (H (i+1000000)):=D;have e:=congrFun B (i+1000000);simp only[Nat.add_sub_cancel]at e;rw[e]at D;exact D
  exact { b with facts:=x }
 refine wpList_plain rfl fun K hK=>?_;have he:(execOp a.eval ⟨some d,.call ⟨.value g,m.toArray,J⟩,ty,pos,af,none⟩).run P w=.ok (.enter f (O++m.map a.eval++R).toArray) w:=by
  have:=M2 (P:=P) (f:=f) (args:=(O++m.map a.eval++R).toArray) (w:=w) hf.1;simp only[execOp,resolve,W,Deferred.ofValue,Sem.run_bind,Sem.run_pure,Result.andThen_ok,invoke];rw[show O.toArray++Array.map a.eval m.toArray++R.toArray=(O++m.map a.eval++R).toArray by simp];exact this
 unfold Oper.wp;rw[he];refine q.mono ?_;rintro e w' (⟨v,U,ob',G',rfl,Y,M,b⟩ | ⟨c,ob',G',rfl,Y,b⟩)
 ·have X:d<S.nt:=by rw[hn];simpa using hd
  exact hK _ _ (kk U ob' Y S G' _ w' hn ((z b).put X M))
 ·exact⟨_,ob',G',kp c ob' Y,.inl (z b)⟩
def IdleP(P:Program)(f:List PanicEntry)(h d:List Deferred)(w w':World):Prop :=
 ∀(fn:Func) (b:Array Value) (R:Ending->World->Prop),LeavesInM Fence.wide 0 P fn b R d .returning w'->LeavesInM Fence.wide 0 P fn b R h (.panicking f) w
def RecOf(P:Program)(S:Ctx)(Q:Post)(e:Exit)(a:Act)(w:World):Prop :=
 PostOf P S Q e a w\/∃d fr ob G b w',e=.panic d/\a.defers=b/\Q .ret fr ob/\Sim P { S with df:=b } fr ob G a w'/\IdleP P d b S.df w w'
def RawC(P:Program)(nt:Nat)(c:Code)(fr:Fr)(ob:Obs)(Q:Post):Prop :=
 ∀S G a w,S.nt=nt->Sim P S fr ob G a w->c.wp P (RecOf P S Q) a w
theorem RawC.of{c:Code}(h:WpC P nt c fr ob Q):RawC P nt c fr ob Q:=fun S G a w b e=>wp_mono (h S G a w b e) fun _ _ _ d=>.inl d
theorem A07{x y:Code}(h:WpC P nt x fr ob (eD (fun fr ob=>RawC P nt y fr ob Q) Q)):RawC P nt (.seq x y) fr ob Q:=by
 intro S G a w c g;refine wp_seq (wp_mono (h S G a w c g) ?_);rintro e f w' ⟨fr',ob',G',d,b⟩;cases e with
 | normal=>exact d S G' f w' c (b.resolve_right fun h=>nomatch h.1)
 | _=>exact .inl ⟨fr',ob',G',d,b⟩
theorem C27{f:FuncId}{fn:Func}{c:Code}{a:List PV}{q:List PV->Prop}(V:P.funcs[f]?=some fn)(B:(fn.name == "runtime.NumGoroutine")=false)(hb:fn.body=some c)(R:fn.ntmps=nt)(F:Nat.ble a.length nt=true)(G:Nat.ble nt 1000000=true)
  (h:RawC P nt c (oK 0 a) [] (retP P fn q)):FnOk P f a q:=by
 refine⟨⟨fn,V,B,by simp[hb]⟩,fun w M m hg Y ha=>?_⟩;have ab:a.length<=nt:=by simpa using F
 have ad:m.length=a.length:=ha.length.symm;refine cF V hb ?_;let S:Ctx:={ w0:=w,M0:=M,io:=fun _=>False,nt:=nt,pin:=fun _=>undef,gv:=fun _=>undef }
 have L:∀b i,Mut S [] (fun _=>undef) b i↔M b i:=fun b i=>⟨fun h=>h.elim id fun ⟨k,o,y,_⟩=>(by cases y),.inl⟩
 have U:∀b i z,E5 M w b i z->E5 (Mut S [] (fun _=>undef)) w b i z:=fun b i z C=>⟨C.1,fun Q=>C.2 ((L b i).1 Q)⟩
 have hs:Sim P S (oK 0 a) [] (fun _=>undef) { tmps:=m.toArray++Array.replicate (fn.ntmps-m.toArray.size) undef,defers:=[] } w:=by
  refine { nt:=by simp[R,S];omega,ntb:=by simpa using G,defers:=rfl,os:=rfl,tape:=rfl,output:=rfl,size:=C45 _,keep:=fun _ _ _=>rfl,m0:=Y,m0io:=fun _ _ _=>id,grd:=hg,pin:=fun _ _=>rfl,old:=fun k o b y=>(by cases y),dis:=fun k k' o o' b y=>(by cases y),obs:=fun k o y=>(by cases y),facts:=?_ };intro i s N;obtain⟨_,p,T,rfl⟩:=qH 0 a i s N;obtain⟨u,W,C⟩:=ha.get (i-0) p T;have O:i<m.length:=(C44.1 W).1;have E:(m.toArray++Array.replicate (fn.ntmps-m.toArray.size) undef).getD i undef=u:=by
   rw[C54,Array.getElem?_append_left (by simpa using O)];simpa using congrArg (fun x=>x.getD undef) W
  have ac:nt<=1000000:=by simpa using G
  rw[Ctx.sl_lt (by omega),E];exact PV.rep_s1 (PV.rep_mono U C)
 refine wp_mono (h S _ _ w A0 hs) ?_;have fin:∀{fr':Fr} {ob':Obs} {G':Gh} {A:Act},(∃rs,RetOk P fn fr' ob' rs/\q rs)->∀K w',Sim P { S with df:=K } fr' ob' G' A w'->∃v,(results fn A.tmps).run P w'=.ok v w'/\(∃J rs,Ending.returned v=.returned J/\q rs/\ResRep (E5 M w') rs J/\Below w.heap.size w w'):=by
  rintro fr' ob' G' A ⟨rs,C,T⟩ K w' j;obtain⟨v,hv,I⟩:=C _ G' A w' j;refine⟨v,hv,v,rs,rfl,T,I.mono (fun b i z X=>⟨X.1,fun Q=>X.2 (.inl Q)⟩),⟨j.os,j.tape,j.output,j.size,fun k y=>j.keep k y id⟩⟩
 rintro e A w' (⟨fr',ob',G',H,j⟩ | ⟨ch,fr',ob',G',K,w2,rfl,Z,H,j,N⟩)
 ·cases e with
  | normal=>exact j.leave rfl (fin H)
  | ret=>exact j.leave rfl (fin H)
  | _=>exact H.elim
 ·have:=N fn A.tmps (fun e w'=>∃v rs,e=.returned v/\q rs/\ResRep (E5 M w') rs v/\Below w.heap.size w w') (fin H K w2 j);show LeavesInM Fence.wide 0 P fn A.tmps _ A.defers _ w';rw[Z];exact this
def MD(fr:Fr):Fr:=fr.filter fun p=>Nat.blt p.1 1000000
theorem jY:∀{fr:Fr} {i:Nat} {s:SV},D5 (MD fr) i=some s->i<1000000/\D5 fr i=some s
 | [],_,_,h=>by cases h
 | (j,x)::r,i,s,h=>by
  by_cases a:j<1000000
  ·unfold MD at h;rw[List.filter_cons_of_pos (by simpa using a)]at h;by_cases e:j=i
   ·subst e;rw[D4]at h ⊢;exact⟨a,h⟩
   ·rw[C4 e]at h ⊢;exact jY h
  ·unfold MD at h;rw[List.filter_cons_of_neg (by simpa using a)]at h;have b:=jY (fr:=r) h;have e:j≠i:=fun e=>a (e ▸ b.1);rw[C4 e];exact b
def RecFn(P:Program)(T:TypeId)(f:FuncId)(q x:TypeId):Prop :=
 ∀(b h:Value) (e:Int) (w w1 j:World),(Instr.storeAt q b (.slice none 0 0)).run P w=.ok () w1->(Instr.storeAt x h (.int .i64 e)).run P w1=.ok () j ->
  (callFunc f #[b,h]).run P w=.ok (.enter f #[b,h]) w/\CallsDIn Fence.wide 0 P f #[b,h] (.panicking (jE T e)) w (fun m y w'=>(∃v,m=.returned v)/\settle y=.returning/\w'=j)
def recQ(T:TypeId)(k1 k2 h j:Nat)(Q:Post):Post
 | .ret,fr,ob=>Q .ret (MD fr) ob
 | .panic ch,fr,ob=>∃e d g,ch=jE T e/\D5 fr 1000001=some (.s (.one (.ref k1 0)))/\D5 fr 1000002=some (.s (.one (.ref k2 0)))/\w7 fr h=some (.s (.one (.ref k1 0)))/\w7 fr j=some (.s (.one (.ref k2 0))) /\
   B5 ob k1=some (.box [d])/\B5 ob k2=some (.box [g])/\k1≠k2/\Q .ret (MD fr) ((k2,.box [.p (.v (.int .i64 e))])::(k1,.box [.p (.v (.slice none 0 0))])::ob)
 | _,_,_=>False
theorem uY{t:TypeId}{x y:Operand}{ty:TypeId}{pos:String}{af:Array Edge}{gd:Option (Nat×Bool)}{fr':Fr}{ob':Obs}(h:Eff P ⟨none,.store t x y,ty,pos,af,gd⟩ fr ob fr' ob'){S:Ctx}{G:Gh}{a:Act}{w:World}(d:Sim P S fr ob G a w) :
  ∃w',(Instr.storeAt t (a.eval x) (a.eval y)).run P w=.ok () w'/\∃G',Sim P S fr' ob' G' a w':=by
 have b:=h S G a w d;unfold Does at b;simp only[execOp,Sem.run_bind,Sem.run_pure]at b;cases c:(Instr.storeAt t (a.eval x) (a.eval y)).run P w with
 | ok u w' =>
  rw[c]at b;exact⟨w',rfl,b⟩
 | halt e w' =>
  rw[c]at b;exact b.elim
theorem A08:∀{fr:Fr},fr.all (fun p=>Nat.blt p.1 1000000)=true->∀i s,D5 fr i=some s->i<1000000
 | [],_,_,_,h=>by cases h
 | (j,x)::r,hl,i,s,h=>by
  rw[List.all_cons,C39]at hl;by_cases e:j=i
  ·subst e;simpa using hl.1
  ·rw[C4 e]at h;exact A08 hl.2 i s h
theorem VE{id t f:Nat}{I:List Operand}{k1 k2 i1 i2:Nat}{t1 t2:TypeId}{bi ar:TypeId}{aq W:String}{au Z:Array Edge}{ab:Array TypeId}{rest:Code}
  (h2:oP fr I=some [(k1,0),(k2,0)])(hd:Nat.blt t nt=true)(ag:fr.all (fun p=>Nat.blt p.1 1000000)=true)(hf:IdleFn P f 2)(ai:RecFn P T f t1 t2)(bg:(P.info? t1).map (·.size)=some 1)(bh:(P.info? t2).map (·.size)=some 1)
  (k:WpC P nt rest ((1000001,.s (.one (.ref k1 0)))::(1000002,.s (.one (.ref k2 0)))::(t,.s (.one (.clo f [] [(k1,0),(k2,0)])))::fr) ob (recQ T k1 k2 i1 i2 Q)) :
  RawC P nt (.seq (.region id #[⟨some t,.makeFunc (.func f) #[] I.toArray,bi,aq,au,none⟩,⟨none,.defer ⟨.value (.tmp t),#[],ab⟩,ar,W,Z,none⟩] false) rest) fr ob Q:=by
 intro S G a w hn hs;refine wp_seq (wp_region_lit (l:=[_,_]) ?_);refine wpList_plain A0 fun K hK=>N4 (CH (P:=P) (first:=[]) (cap:=I) (nf:=[]) (nc:=[(k1,0),(k2,0)]) A0 h2 S G a w hs) ?_;rintro v w' ⟨V,s,rfl,hv⟩;have ah:t<S.nt:=by rw[hn];simpa using hd
 have bc:=(hs.ext V).put ah hv;refine hK _ _ ?_;refine wpList_plain rfl fun K' av=>?_;obtain⟨us,vs,rfl,hu,Y⟩:=hv;have bf:us=[]:=by cases us with | nil=>rfl | cons _ _=>exact hu.elim
 subst bf;obtain⟨B,C,rfl⟩:∃B C,vs=[B,C]:=by
  match vs,Y with
  | [B,C],_=>exact⟨B,C,rfl⟩
  | [],h=>exact h.elim
  | [_],h=>exact h.2.elim
  | _::_::_::_,h=>exact h.2.2.elim
 have az:fP G (k1,0) B:=Y.1;have ba:fP G (k2,0) C:=Y.2.1;have ax:(a.put (some t) (.func (.func f) (List.toArray []) [B,C].toArray)).eval (.tmp t)=.func (.func f) #[] [B,C].toArray:=by
  have be:t<a.tmps.size:=by rw[hs.nt];exact ah
  simp[Act.eval,Act.put,be]
 unfold Oper.wp;have aj:(execOp (a.put (some t) (.func (.func f) (List.toArray []) [B,C].toArray)).eval ⟨none,.defer ⟨.value (.tmp t),#[],ab⟩,ar,W,Z,none⟩).run P w'=.ok (.defer { target:=.fn (.func f) [B,C].toArray,args:=#[] }) w':=by
  simp[execOp,resolve,ax,Deferred.ofValue,Sem.run_bind,Sem.run_pure,Result.andThen_ok]
 rw[aj];refine av _ _ ?_;refine wpList_nil ?_;obtain⟨J,N⟩:∃d:Deferred,d={ target:=.fn (.func f) [B,C].toArray,args:=#[] }:=⟨_,rfl⟩
 rw[<-N];have al:Sim P { S with df:=J::S.df } ((t,.s (.one (.clo f [] [(k1,0),(k2,0)])))::fr) ob G { tmps:=(a.put (some t) (.func (.func f) (List.toArray []) [B,C].toArray)).tmps,defers:=J::a.defers } w' :=
  { bc with defers:=by show J::a.defers=J::S.df;rw[hs.defers] }
 obtain⟨M,ad⟩:∃M:Nat->Value,M=fun i=>if i=1000001 then B else if i=1000002 then C else S.gv i:=⟨_,rfl⟩
 have O:M 1000001=B:=by rw[ad];simp
 have U:M 1000002=C:=by rw[ad];simp
 let S':Ctx:={ S with df:=J::S.df,gv:=M }
 have bj:=hs.ntb;have bd:Sim P S' ((1000001,.s (.one (.ref k1 0)))::(1000002,.s (.one (.ref k2 0)))::(t,.s (.one (.clo f [] [(k1,0),(k2,0)])))::fr) ob G { tmps:=(a.put (some t) (.func (.func f) (List.toArray []) [B,C].toArray)).tmps,defers:=J::a.defers } w':=by
  refine { al with facts:=fun i s E=>?_ };by_cases e1:1000001=i
  ·subst e1;rw[D4]at E;cases E;rw[Ctx.sl_ge (by omega)];show SV.rep _ G _ (M 1000001);rw[O];exact az
  rw[C4 e1]at E;by_cases e2:1000002=i
  ·subst e2;rw[D4]at E;cases E;rw[Ctx.sl_ge (by omega)];show SV.rep _ G _ (M 1000002);rw[U];exact ba
  rw[C4 e2]at E;have X:i<1000000:=by
   by_cases e3:t=i
   ·omega
   ·rw[C4 e3]at E;exact A08 ag i s E
  have j:=al.facts i s E;rw[Ctx.sl_lt X]at j ⊢;exact j
 have H:∀{ds:List Deferred} {fr:Fr} {ob:Obs} {G:Gh} {a:Act} {w:World},Sim P { S' with df:=ds } fr ob G a w->Sim P { S with df:=ds } (MD fr) ob G a w:=by
  intro ds fr ob G a w h;refine { h with facts:=fun i s E=>?_ };obtain⟨X,E⟩:=jY E;have j:=h.facts i s E;rw[Ctx.sl_lt X]at j ⊢;exact j
 refine wp_mono (k S' G _ w' hn bd) ?_;rintro e L w2 ⟨ac,ap,G2,hq,ao⟩;cases e with
 | ret =>
  refine .inl ⟨MD ac,ap,G2,hq,.inr ⟨rfl,?_⟩⟩;have ae:∀w,Idle P (J::S.df) S.df w w:=fun w=>by rw[N];exact hf.idle rfl S.df w
  rcases ao with h | ⟨_,ds,w3,h,E⟩
  ·exact⟨J::S.df,w2,H (ds:=J::S.df) h,ae w2⟩
  ·exact⟨ds,w3,H h,fun fn D R hR=>E fn D R (ae w3 fn D R hR)⟩
 | panic ch =>
  obtain⟨e,c1,c2,rfl,g1,g2,g3,g4,o1,o2,ay,hQ⟩:=hq;have V:=ao.resolve_right fun h=>nomatch h.1;have q1:fP G2 (k1,0) B:=by
   have j:=V.facts _ _ g1;rw[Ctx.sl_ge (by omega)]at j;have j:SV.rep _ G2 _ (M 1000001):=j;rw[O]at j;exact j
  have q2:fP G2 (k2,0) C:=by
   have j:=V.facts _ _ g2;rw[Ctx.sl_ge (by omega)]at j;have j:SV.rep _ G2 _ (M 1000002):=j;rw[U]at j;exact j
  have r1:fP G2 (k1,0) (L.eval (.tmp i1)):=by
   have j:fP G2 (k1,0) (L.tmps.getD i1 undef):=V.slot g3;rw[show L.eval (.tmp i1)=L.tmps.getD i1 undef by simp[Act.eval]];exact j
  have r2:fP G2 (k2,0) (L.eval (.tmp i2)):=by
   have j:fP G2 (k2,0) (L.tmps.getD i2 undef):=V.slot g4;rw[show L.eval (.tmp i2)=L.tmps.getD i2 undef by simp[Act.eval]];exact j
  have e1:L.eval (.tmp i1)=B:=by
   obtain⟨b,x1,x2⟩:=q1;obtain⟨b',y1,y2⟩:=r1;rw[x1]at y1;cases y1;rw[y2,x2]
  have e2:L.eval (.tmp i2)=C:=by
   obtain⟨b,x1,x2⟩:=q2;obtain⟨b',y1,y2⟩:=r2;rw[x1]at y1;cases y1;rw[y2,x2]
  obtain⟨wA,hA,GA,ak⟩:=uY (K5 (P:=P) (ty:=0) (pos := "") (af:=#[]) (gd:=none) (t:=t1) (x:=.tmp i1) (y:=.const (.slice none 0 0)) (k:=k1) (o:=0) (n:=1) bg g3 o1 rfl rfl rfl rfl) V;obtain⟨wB,hB,GB,am⟩:=uY (K5 (P:=P) (ty:=0) (pos := "") (af:=#[]) (gd:=none) (t:=t2) (x:=.tmp i2) (y:=.const (.int .i64 e)) (k:=k2) (o:=0) (n:=1) bh g4 (by rw[A8 ay];exact o2) rfl rfl rfl rfl) ak;obtain⟨hc,aw⟩:=ai B C e w2 wA wB (by rw[<-e1];exact hA) (by rw[<-e2];exact hB);refine .inr ⟨jE T e,MD ac,(k2,.box [.p (.v (.int .i64 e))])::(k1,.box [.p (.v (.slice none 0 0))])::ap,GB,J::S.df,wB,rfl,V.defers,hQ,H (ds:=J::S.df) am,?_⟩;intro fn D R hR;refine⟨by simp,.inr ⟨fun h=>by simp[Fence.wide]at h,.func f,[B,C].toArray,f,[B,C].toArray,by rw[N],?_,fun _ _=>trivial,?_⟩⟩
  ·rw[N];simp only[invoke];rw[show (#[]:Array Value)++[B,C].toArray=[B,C].toArray by simp];exact hc
  ·refine CallsDIn.mono aw ?_;rintro en u' w' ⟨⟨v,rfl⟩,an,rfl⟩;show LeavesInM _ _ _ _ _ _ _ (settle u') _;rw[an];exact hR
 | _=>exact hq.elim
theorem f_makeG(k:Nat){t e:TypeId}{A F:Nat}{x y:Operand}{kx ky:IntKind}{n:Int}(α:Type)(c:α->Nat->Cell)(D:α){z:Value}[ht:TySl P t e A F][hzz:TyZero P e z]
  (hx:opv fr x=some (I7 (.int kx n)))(hy:opv fr y=some (I7 (.int ky n)))(h0:0<=n)(hn:n<=1073741824)
  (ah:∀rd:Rd,All2 (Cell.rep rd) (cellsOf c D 0 A) z.cells.toList)(hf:(J2 k fr&&J9 k ob)=true) :
  EffV P ⟨dst,.makeSlice t x y,ty,pos,af,gd⟩ fr ob (.s (.one (.mut k))) fr ((k,.grow e α A c (List.replicate n.toNat D))::ob):=by
 simp only[C39]at hf;obtain⟨U,V⟩:=hf;obtain⟨Y,hk,Z⟩:=H4 V;have W:=i7 U;have hz:((P.info? e).bind (·.zero)).map (fun z=>z.cells.toList)=some z.cells.toList:=by rw[hzz.out.1];rfl
 intro S G a w h;obtain⟨ac,f,ak,aj,q⟩:=ht.out;cases M:P.info? e with
 | none=>simp[M]at f
 | some i =>
 simp[M]at f;obtain⟨ab,T⟩:=f;cases J:i.zero with
 | none=>simp[M,J]at q
 | some z2 =>
 simp[M,J]at q hz;have K:(i.bytes:Int)*n<=281474976710656:=by
  have h1:(i.bytes:Int)<=4096:=by omega
  have h2:(i.bytes:Int)*n<=4096*1073741824:=by
   have:i.bytes*n.toNat<=4096*1073741824:=Nat.mul_le_mul (by omega) (by omega);have h3:((i.bytes*n.toNat:Nat):Int)<=((4096*1073741824:Nat):Int):=by exact_mod_cast this
   rw[Int.natCast_mul]at h3;have h4:(n.toNat:Int)=n:=by omega
   rw[h4]at h3;omega
  omega
 have hr:=run_make (P:=P) w t e i z2 ac M J kx ky n n h0 (Int.le_refl _) K (by omega);rw[ab]at hr;obtain⟨C,I⟩:∃C,C=madeCells z2.cells (n.toNat*A):=⟨_,rfl⟩
 have H:C.size=n.toNat*A:=by rw[I];exact size_madeCells _ _
 rw[<-I]at hr;refine J4 (w':=w.alloc (.cells C e)) (v:=.slice (some ⟨w.heap.size,0,none⟩) n.toNat n.toNat) ?_ ?_
 ·simp only[execOp,F7 h hx,F7 h hy];exact M3 hr
 ·have ag:Below w.heap.size w (w.alloc (.cells C e)):=(Below.refl _ _).alloc (C45 _) _;have hu:∀b,blk (.slice (some ⟨w.heap.size,0,none⟩) n.toNat n.toNat)=some b->w.heap.size<=b:=by intro b hb;simp[blk]at hb;omega
  have Q:(List.replicate n.toNat D).length=n.toNat:=C95;have O:(w.alloc (.cells C e)).ownsRow S.B e A (.slice (some ⟨w.heap.size,0,none⟩) n.toNat n.toNat) (List.replicate n.toNat D).length C.toList:=by
   rw[Q];exact⟨by simpa using H,.inr ⟨w.heap.size,n.toNat,C,rfl,h.size,heap_alloc_new w _,C45 _,by unfold maxLen;omega,H,(by rw[<-H];exact C48)⟩⟩
  have E:=h.new Z hk (o:=.grow e α A c (List.replicate n.toNat D)) (u:=.slice (some ⟨w.heap.size,0,none⟩) n.toNat n.toNat) ag hu ⟨C.toList,O,by rw[Q];omega,fun m hm j hj=>by
   have X:m<n.toNat:=by simpa using hm
   have ai:=ah (E5 (Mut S ((k,Ob.grow e α A c (List.replicate n.toNat D))::Obs.forget k ob) (upd G k (.slice (some ⟨w.heap.size,0,none⟩) n.toNat n.toNat))) (w.alloc (.cells C e)));have L:(cellsOf c D 0 A)[j]?=some (c D j):=by
    have N:j<(cellsOf c D 0 A).length:=by rw[M4];exact hj
    rw[C36 N];have:=a6 c D A 0 j _ (C36 N);rw[this.1,C91]
   obtain⟨u,ad,ae⟩:=ai.get j _ L;refine⟨u,?_,by simpa using ae⟩;rw[Array.getElem?_toList,I,rX q X hj,<-Array.getElem?_toList,hz]
   exact ad⟩
  rw[W,Y]at E;exact⟨_,E,(I8 _ _ _).symm,rfl⟩
theorem A55{d:Rd}{G:Gh}{v:Value}:∀(j:List PV),(kV j).rep d G v->ResRep d j v:=by
 have l:∀b:List Cell,gQ (b.map TC.p)=some b:=fun b=>by
  induction b with
  | nil=>rfl
  | cons c b k=>rw[C73,gQ,k];rfl
 have key:∀{p:PV} {u:Value},(p.s1).rep d G u->p.rep d u:=fun {p u} h=>by
  cases p with
  | one c=>exact h
  | agg b =>
   obtain⟨m,g,i⟩:=h;exact⟨m,g,bT (l b) i⟩
 have f:∀(ps:List PV) (a:List Value),All2 (S1.rep d G) (ps.map PV.s1) a->All2 (PV.rep d) ps a:=fun ps=>by
  induction ps with
  | nil=>intro a h;cases a with | nil=>trivial | cons=>exact h.elim
  | cons p ps k =>
   intro a h;cases a with
   | nil=>exact h.elim
   | cons u a=>exact⟨key h.1,k a h.2⟩
 intro j h
 match j,h with
 | [p],h=>exact key h
 | [],⟨a,g,i⟩=>exact⟨a,g,f [] a i⟩
 | p::q::r,⟨a,g,i⟩=>exact⟨a,g,f (p::q::r) a i⟩
theorem FnOk.ofMet{P:Program}{f:FuncId}{d:List PV}{ks:List Nat}{W:List S1->Obs->Prop}{y:List PV->Prop}(h:Met P f (d.map PV.s1) [] [] ks W)
  (hp:∀E ob',W E ob'->∃(k:Nat) (α:Type) (D:Nat) (c:α->Nat->Cell) (I:List α) (e:TypeId) (q:List PV),ob'=[(k,.grow e α D c I)]/\Nat.blt 0 D=true/\(mI E).freeze k α D c I=kV q/\y q):FnOk P f d y:=by
 refine⟨h.1,fun w M t hg hM ha=>?_⟩;let S:Ctx:={ w0:=w,M0:=M,io:=fun _=>False,nt:=0,pin:=fun _=>undef,gv:=fun _=>undef }
 obtain⟨G,hG⟩:∃G:Gh,G=fun _=>undef:=⟨_,rfl⟩
 obtain⟨a,F⟩:∃a:Act,a={ tmps:=#[],defers:=[] }:=⟨_,rfl⟩
 have J:∀G b i,Mut S [] G b i↔M b i:=fun G b i=>⟨fun h=>h.elim id fun ⟨k,o,u,_⟩=>(by cases u),.inl⟩
 have Q:∀G b i z,E5 M w b i z->E5 (Mut S [] G) w b i z:=fun G b i z U=>⟨U.1,fun N=>U.2 ((J G b i).1 N)⟩
 have hs:Sim P S [] [] G a w:=by
  refine { nt:=by rw[F];rfl,ntb:=by show 0<=1000000;omega,defers:=by rw[F],os:=rfl,tape:=rfl,output:=rfl,size:=C45 _,keep:=fun _ _ _=>rfl,m0:=hM,m0io:=fun _ _ _=>id,grd:=hg,pin:=fun _ _=>by rw[hG],old:=fun k o b u=>(by cases u),dis:=fun k k' o o' b u=>(by cases u),obs:=fun k o u=>(by cases u),facts:=fun i s x=>by cases x }
 have C:All2 (S1.rep (E5 (Mut S [] G) w) G) (d.map PV.s1) t:=by
  have:∀(ps:List PV) (A:List Value),All2 (PV.rep (E5 M w)) ps A->All2 (S1.rep (E5 (Mut S [] G) w) G) (ps.map PV.s1) A:=by
   intro ps;induction ps with
   | nil=>intro A h;cases A with | nil=>trivial | cons=>exact h.elim
   | cons p ps ih =>
    intro A h;cases A with
    | nil=>exact h.elim
    | cons v A=>exact⟨PV.rep_s1 (PV.rep_mono (Q G) h.1),ih A h.2⟩
  exact this d t ha
 refine (h.2 (fun i s x=>by cases x) S G a w t hs C).mono ?_;rintro e w' ⟨v,E,ob',G',rfl,B,H,j⟩;obtain⟨k,α,D,c,I,X,q,rfl,K,L,O⟩:=hp E ob' B;have R:Sim P { S with gv:=fun _=>v } [(1000000,mI E)] [(k,.grow X α D c I)] G' a w':=by
  refine { j with facts:=fun i s x=>?_ };by_cases e:1000000=i
  ·subst e;rw[D4]at x;cases x;rw[Ctx.sl_ge (C45 _)];exact H
  ·rw[C4 e]at x;cases x
 have Y:=R.freezeG (k:=k) (by rw[B3]) (by simpa using K);have T:=Y.facts 1000000 (SV.freeze k α D c I (mI E)) (D4 _ _ _);rw[Ctx.sl_ge (C45 _),L]at T;have Z:=A55 q T;refine⟨v,q,rfl,O,Z.mono (fun b i z V=>⟨V.1,fun N=>V.2 (.inl N)⟩),⟨j.os,j.tape,j.output,j.size,fun k u=>j.keep k u id⟩⟩
def FreeKs(a:List Nat)(fr:Fr):Prop:=∀k,F0 a k=true->J2 k fr=true
theorem FreeKs.nil{a:List Nat}:FreeKs a []:=fun _ _=>rfl
theorem FreeKs.cons{a:List Nat}{i:Nat}{s:SV}{fr:Fr}(c:∀k,F0 a k=true->s.free k=true)(d:FreeKs a fr):FreeKs a ((i,s)::fr):=fun k b=>by
 simp only[J2,C39];exact⟨c k b,d k b⟩
theorem DA{k:Nat}:∀{F:Fr},(∀p∈F,p.2.free k=true)->J2 k F=true
 | [],_=>rfl
 | (i,s)::r,h=>by
  simp only[J2,C39];exact⟨h (i,s) (C56 ..),DA fun p a=>h p (C55 _ a)⟩
theorem FreeKs.gf{ks K:List Nat}{gf:Fr}(h:∀k,F0 ks k=true->F0 K k=true):FreeKs ks (B4 K gf):=fun k a=>DA (aS (h k a))
theorem FreeKs.eq:∀{a:List Nat} {fr:Fr},FreeKs a fr->B4 a fr=fr
 | [],_,_=>rfl
 | k::a,fr,h=>by
  show B4 a (Fr.forget k fr)=fr;rw[i7 (h k (aP.2 (C56 ..)))];exact FreeKs.eq fun j b=>h j (aP.2 (C55 _ (aP.1 b)))
theorem gX{f:FuncId}{xs:List Operand}{h:Array TypeId}{ty:TypeId}{pos:String}{af:Array Edge}{b:List S1}{j:List Nat}{g:List S1->Obs->Prop}
  (o:Met P f b (eJ fr) ob j g)(i:FreeKs j fr)(ha:aB fr xs=some b)(k:xs.all H2=true)(m:Nat.blt d nt=true)
  (q:∀rs ob',g rs ob'->WpL P nt ops rest ((d,mI rs)::fr) ob' Q):WpL P nt ops (⟨some d,.call ⟨.value (.func f),xs.toArray,h⟩,ty,pos,af,none⟩::rest) fr ob Q :=
 CC o ha k m fun rs ob' p=>by rw[i.eq];exact q rs ob' p
theorem N3{f:FuncId}{xs:List Operand}{k:Array TypeId}{ty:TypeId}{pos:String}{af:Array Edge}{b:List S1}{o:List Nat}{g:List S1->Obs->Prop}{j:Int->Obs->Prop}
  (s:MetX P T f b (eJ fr) ob o g j)(h:FreeKs o fr)(ha:aB fr xs=some b)(q:xs.all H2=true)(r:Nat.blt d nt=true)
  (w:∀e ob',j e ob'->Q (.panic (jE T e)) fr ob')
  (t:∀rs ob',g rs ob'->WpL P nt ops rest ((d,mI rs)::fr) ob' Q):WpL P nt ops (⟨some d,.call ⟨.value (.func f),xs.toArray,k⟩,ty,pos,af,none⟩::rest) fr ob Q :=
 l_metX s ha q r (fun e ob' m=>by rw[h.eq];exact w e ob' m) fun rs ob' m=>by rw[h.eq];exact t rs ob' m
theorem QF{f:FuncId}{g:Operand}{t:List Operand}{q:Array TypeId}{ty:TypeId}{pos:String}{af:Array Edge}{y x:List (Nat×Nat)}{b:List S1}{w:List Nat}{h:List S1->Obs->Prop}{k:Int->Obs->Prop}
  (B:MetX P T f (y.map CI++b++x.map CI) (eJ fr) ob w h k)(j:FreeKs w fr)(C:opv fr g=some (.s (.one (.clo f y x))))(ha:aB fr t=some b)(z:t.all H2=true)(A:Nat.blt d nt=true)
  (E:∀e ob',k e ob'->Q (.panic (jE T e)) fr ob')
  (D:∀m ob',h m ob'->WpL P nt ops rest ((d,mI m)::fr) ob' Q):WpL P nt ops (⟨some d,.call ⟨.value g,t.toArray,q⟩,ty,pos,af,none⟩::rest) fr ob Q :=
 l_metXF B C ha z A (fun e ob' r=>by rw[j.eq];exact E e ob' r) fun m ob' r=>by rw[j.eq];exact D m ob' r
theorem AY(k:Nat):∀(K:List Nat) (fr:Fr),F0 K k=true->B4 K (Fr.forget k fr)=B4 K fr:=fun K fr h=>by rw[mM,dU h]
theorem sC:∀{ks K:List Nat} {fr:Fr},(∀k,F0 ks k=true->F0 K k=true)->B4 K (B4 ks fr)=B4 K fr
 | [],_,_,_=>rfl
 | k::ks,K,fr,h=>by
  show B4 K (B4 ks (Fr.forget k fr))=_;rw[sC (ks:=ks) fun j a=>h j (aP.2 (C55 _ (aP.1 a)))];exact AY k K fr (h k (aP.2 (C56 ..)))
theorem Met.more{f:FuncId}{b:List S1}{gf:Fr}{l K:List Nat}{c:List S1->Obs->Prop}(h:Met P f b gf ob l c)(y:∀k,F0 l k=true->F0 K k=true):Met P f b gf ob K c :=
 ⟨h.1,fun x S G a w d z ha=>(h.2 x S G a w d z ha).mono fun e w' ⟨v,rs,ob',G',p,q,r,g⟩=>by
  refine⟨v,rs,ob',G',p,q,r,{ g with facts:=fun i s j=>?_ }⟩;rw[<-sC y]at j;obtain⟨s0,t,u⟩:=mN j
  exact u _ _ _ (g.facts i s0 t)⟩
theorem Met.conv{f:FuncId}{g:List S1}{gf:Fr}{u:List Nat}{j d:List S1->Obs->Prop}(h:Met P f g gf ob u j)(E:∀p ob',j p ob'->∃c,d p c/\∀k o,B5 c k=some o->B5 ob' k=some o):Met P f g gf ob u d :=
 ⟨h.1,fun D S G a w q F ha=>(h.2 D S G a w q F ha).mono fun e w' ⟨v,p,ob',G',y,A,B,C⟩=>by
  obtain⟨c,H,x⟩:=E p ob' A;refine⟨v,p,c,G',y,H,SV.rep_mono (fun b i z t=>⟨t.1,fun s=>t.2 ?_⟩) B,C.weakenO x⟩;rcases s with s | ⟨k,o,hk,ho⟩
  ·exact .inl s
  ·exact .inr ⟨k,o,x k o hk,ho⟩⟩
def To(_n:Nat)(G' G:Prop):Prop:=G'->G
theorem to_stop{G:Prop}:To 0 G G:=fun x=>x
theorem to_step{n:Nat}{G G1 G':Prop}(h:G1->G)(k:To n G' G1):To (n+1) G' G:=fun x=>h (k x)
theorem to_free{n:Nat}{G G1 G':Prop}(h:G1->G)(k:To n G' G1):To n G' G:=fun x=>h (k x)
attribute [irreducible] To
theorem tt{n:Nat}{G G':Prop}(h:To n G' G:=by (repeat (first | (apply to_free;first | with_reducible exact k1 | with_reducible exact k4 | with_reducible exact k11 | with_reducible exact k12 | with_reducible exact k7 | ((with_reducible refine k8 ?_);rfl) | ((with_reducible refine k9 ?_);rfl)) | exact to_stop | (apply to_step;first | exact L1 rfl rfl rfl (by decide) rfl | exact k2 | exact B2 (C9 rfl rfl) rfl | exact B33 | exact l_nil | exact B2 (uJ rfl rfl) rfl | exact k5 | exact k10 | exact k3 | exact B2 (Z3 rfl rfl (by omega)) rfl | exact D6 (C9 rfl rfl) rfl rfl | exact B2 (uL rfl (.pure _ _ _ _)) rfl | exact B2 (H6 rfl rfl) rfl | exact B2 (F4 rfl) rfl | exact B2 (PL rfl rfl) rfl | exact D7 rfl rfl rfl rfl (fun c=>by rw[c];exact C9 rfl rfl) | exact B2 (ZW rfl rfl) rfl | exact k6 | exact B2 (E7 rfl rfl rfl) rfl | exact B2 (IP rfl rfl) rfl | exact B2 (C5 rfl (.pure _ _ _ _) rfl (by omega) (by assumption)) rfl | exact B2 (l8 rfl (fun h=>by first | rfl | (rw[h];rfl)) (fun h=>by first | rfl | (rw[h];rfl))) rfl | exact U0 (K5 TySz.out rfl rfl rfl rfl rfl rfl) | exact B2 (F3 rfl) rfl | exact B2 (H0 rfl) rfl | exact d_nil | exact D6 (F4 rfl) rfl rfl | exact HH (by kernel_rfl) (by kernel_rfl) | exact D6 (uJ rfl rfl) rfl rfl | exact D6 (E7 rfl rfl rfl) rfl rfl | exact F9 rfl rfl (fun c=>by rw[c];exact C9 rfl rfl) rfl rfl | exact D6 (F3 rfl) rfl rfl | exact B2 (aM rfl rfl (by omega)) rfl | exact B2 (uO rfl) rfl | exact B2 (IN rfl rfl) rfl | exact B2 (n_not rfl) rfl | exact D6 (H6 rfl rfl) rfl rfl | exact B2 (uK rfl) rfl | exact D6 (C5 rfl (.pure _ _ _ _) rfl (by omega) (by assumption)) rfl rfl | exact B2 (W8 rfl rfl) rfl | exact B2 (IM rfl rfl) rfl | exact C2 (W4 rfl rfl rfl (.pure _ _ _ _) (by (simp only[C46,List.length_nil];omega)) rfl) rfl | exact D7 rfl rfl rfl rfl (fun c=>by rw[c];exact H6 rfl rfl) | exact D7 rfl rfl rfl rfl (fun c=>by rw[c];exact ZW rfl rfl) | exact B2 (ZX rfl rfl) rfl | exact B2 (BS rfl rfl) rfl | exact D6 (IP rfl rfl) rfl rfl | exact B2 (eG rfl rfl rfl) rfl | exact D7 rfl rfl rfl rfl (fun c=>by rw[c];exact E7 rfl rfl rfl) | exact D7 rfl rfl rfl rfl (fun c=>by rw[c];exact F4 rfl) | exact D6 (l8 rfl (fun h=>by first | rfl | (rw[h];rfl)) (fun h=>by first | rfl | (rw[h];rfl))) rfl rfl | exact B2 (n_boxA rfl rfl rfl) rfl | exact B2 (VC rfl (by kernel_rfl)) rfl | exact D7 rfl rfl rfl rfl (fun c=>by rw[c];exact IM rfl rfl) | exact D6 (Z3 rfl rfl (by omega)) rfl rfl | exact D7 rfl rfl rfl rfl (fun c=>by rw[c];exact H0 rfl) | exact D7 rfl rfl rfl rfl (fun c=>by rw[c];exact BS rfl rfl) | exact F9 rfl rfl (fun c=>by rw[c];exact F4 rfl) rfl rfl | exact F9 rfl rfl (fun c=>by rw[c];exact E7 rfl rfl rfl) rfl rfl | exact B2 (dI rfl rfl (by first | omega | decide) (by omega)) rfl | exact D6 (H0 rfl) rfl rfl | exact F9 rfl rfl (fun c=>by rw[c];exact H6 rfl rfl) rfl rfl | exact F9 rfl rfl (fun c=>by rw[c];exact F3 rfl) rfl rfl | exact B2 (LW rfl rfl) rfl | exact K4 rfl rfl rfl (.gd (.val _)) rfl (fun c=>by obtain⟨i,j⟩:=N0 c;(try rw[i]);(try rw[j]);exact C9 rfl rfl) | exact D7 rfl rfl rfl rfl (fun c=>by rw[c];exact uK rfl) | exact D7 rfl rfl rfl rfl (fun c=>by rw[c];exact uL rfl (.pure _ _ _ _)) | exact B2 (IU rfl) rfl | exact D7 rfl rfl rfl rfl (fun c=>by rw[c];exact PM rfl rfl) | exact D7 rfl rfl rfl rfl (fun c=>by rw[c];exact PL rfl rfl) | exact B2 (PM rfl rfl) rfl | exact B2 (PJ rfl rfl (by omega)) rfl | exact B2 (VD rfl) rfl | exact D7 rfl rfl rfl rfl (fun c=>by rw[c];exact IN rfl rfl) | exact B2 (D9 rfl rfl rfl (by omega) (by omega)) rfl | exact D6 (ZW rfl rfl) rfl rfl | exact j2 rfl rfl (.gd (.val _)) (fun c=>by obtain⟨i,j⟩:=N0 c;(try rw[i]);(try rw[j]);exact C9 rfl rfl) rfl rfl | exact D7 rfl rfl rfl rfl (fun c=>by rw[c];exact l8 rfl (fun h=>by first | rfl | (rw[h];rfl)) (fun h=>by first | rfl | (rw[h];rfl))) | exact D7 rfl rfl rfl rfl (fun c=>by rw[c];exact F3 rfl) | exact D7 rfl rfl rfl rfl (fun c=>by rw[c];exact n_not rfl) | exact F9 rfl rfl (fun c=>by rw[c];exact PL rfl rfl) rfl rfl | exact F9 rfl rfl (fun c=>by rw[c];exact ZW rfl rfl) rfl rfl | exact C2 (e_cut_g rfl rfl rfl (by omega) (by omega) rfl) rfl | exact D6 (uK rfl) rfl rfl | exact B2 (CH rfl rfl) rfl | exact B2 (n_compl rfl rfl (fun _=>rfl)) rfl | exact B2 (uL rfl (.buf _ _ _ _ _)) rfl | exact D6 (uL rfl (.pure _ _ _ _)) rfl rfl | exact B2 (n_bits rfl rfl rfl (fun _=>rfl)) rfl | exact B2 (n_min rfl rfl) rfl | exact B2 (K9 rfl rfl rfl (by omega) (by omega)) rfl | exact B2 (rW rfl rfl (by omega)) rfl | exact F9 rfl rfl (fun c=>by rw[c];exact H0 rfl) rfl rfl | exact D6 (PL rfl rfl) rfl rfl | exact B2 (n_quo_w rfl rfl (by decide)) rfl | exact D6 (M6 rfl rfl rfl (by omega) (by omega)) rfl rfl | exact D6 (IN rfl rfl) rfl rfl | exact B2 (Z3 rfl rfl (by ((try dsimp only);omega))) rfl | exact B2 (n_neq_s rfl rfl) rfl | exact C2 (W4 rfl rfl rfl (.pure _ _ _ _) (by simp;omega) rfl) rfl | exact D7 rfl rfl rfl rfl (fun c=>by rw[c];exact ZX rfl rfl) | exact B2 (BE rfl rfl (by omega) (by omega)) rfl | exact D6 (IM rfl rfl) rfl rfl | exact F9 rfl rfl (fun c=>by rw[c];exact uL rfl (.pure _ _ _ _)) rfl rfl | exact B2 (fX rfl rfl (by (simp only[C40,C46,List.length_nil];omega))) rfl | exact j2 rfl rfl (.gd (.val _)) (fun c=>by obtain⟨i,j⟩:=N0 c;(try rw[i]);(try rw[j]);exact H0 rfl) rfl rfl | exact j2 rfl rfl (.gd (.val _)) (fun c=>by obtain⟨i,j⟩:=N0 c;(try rw[i]);(try rw[j]);exact H6 rfl rfl) rfl rfl | exact D6 (dI rfl rfl (by first | omega | decide) (by omega)) rfl rfl | exact B2 (rW rfl rfl (by ((try dsimp only);omega))) rfl | exact B2 (A53 rfl) rfl | exact B2 (A47 rfl) rfl | exact B2 (PJ rfl rfl (by decide)) rfl | exact K4 rfl rfl rfl (.gd (.val _)) rfl (fun c=>by obtain⟨i,j⟩:=N0 c;(try rw[i]);(try rw[j]);exact PL rfl rfl) | exact D6 (W8 rfl rfl) rfl rfl)))):To n G' G:=h
theorem zc(n:Nat){P:Program}{nt:Nat}{fr:Fr}{ob:Obs}{Q:Post}{t:Tmp}{x y:Code}{b:Bool}{G:Prop}(a:b=true->WpC P nt x fr ob Q)(f:b=false->WpC P nt y fr ob Q)(h:To n (WpC P nt (.cond (.tmp t) x y) fr ob Q) G:=by exact tt)(g:w7 fr t=some (.s (.one (.p (.v (.bool b))))):=by rfl):G:=by unfold To at h;exact h (c_cond g a f)
theorem zz(n:Nat){G G':Prop}(k:G')(h:To n G' G:=by exact tt):G:=by unfold To at h;exact h k
theorem lf{fr fr':Fr}(h:FrLe fr fr':=by (repeat (first | exact trivial | refine⟨i6 rfl,?_⟩))):FrLe fr fr':=h
theorem lo{ob ob':Obs}(h:ObIn ob ob':=by (repeat (first | exact trivial | refine⟨rfl,?_⟩))):ObIn ob ob':=h
theorem uZ{P:Program}{nt:Nat}{ops:Array Oper}{rest:List Oper}{fr:Fr}{ob:Obs}{Q:Post}{d:Nat}{ty:TypeId}{pos:String}{af:Array Edge}{f:FuncId}{b:Array Operand}{g:Array TypeId}{ps rs:List PV}(j:FnOk P f ps (fun r=>r=rs))(ha:bF fr b.toList=some ps)(h:b.toList.all H2=true)(i:Nat.blt d nt=true)(k:WpL P nt ops rest ((d,kV rs)::fr) ob Q):WpL P nt ops (⟨some d,.call ⟨.value (.func f),b,g⟩,ty,pos,af,none⟩::rest) fr ob Q:=r8 j ha h i (by rintro _ rfl;exact k)
theorem E2{P:Program}{nt:Nat}{ops:Array Oper}{rest:List Oper}{fr:Fr}{ob:Obs}{Q:Post}{d:Nat}{ty:TypeId}{pos:String}{af:Array Edge}{f:FuncId}{b:Array Operand}{g:Array TypeId}{ps rs:List PV}(j:FnOk P f ps (fun r=>r=rs))(k:WpL P nt ops rest ((d,kV rs)::fr) ob Q)(ha:bF fr b.toList=some ps:=by rfl)(h:b.toList.all H2=true:=by rfl)(i:Nat.blt d nt=true:=by rfl):WpL P nt ops (⟨some d,.call ⟨.value (.func f),b,g⟩,ty,pos,af,none⟩::rest) fr ob Q:=r8 j ha h i (by rintro _ rfl;exact k)
theorem C1{p:Prop}(h:p:=by exact Sees.of lf lo):p:=h
theorem O4{P:Program}{nt:Nat}{ops:Array Oper}{rest:List Oper}{fr:Fr}{ob O:Obs}{Q:Post}{d:Nat}{f:FuncId}{xs:List Operand}{g:Array TypeId}{ty:TypeId}{pos:String}{af:Array Edge}{b R:List S1}{ks:List Nat}(j:Met P f b (eJ fr) ob ks (fun rs ob'=>rs=R/\ob'=O))(ha:aB fr xs=some b)(h:xs.all H2=true)(i:Nat.blt d nt=true)(k:WpL P nt ops rest ((d,mI R)::B4 ks fr) O Q):WpL P nt ops (⟨some d,.call ⟨.value (.func f),xs.toArray,g⟩,ty,pos,af,none⟩::rest) fr ob Q:=CC j ha h i (by rintro _ _ ⟨rfl,rfl⟩;exact k)
theorem rO{P:Program}{nt:Nat}{ops:Array Oper}{rest:List Oper}{fr:Fr}{ob O:Obs}{Q:Post}{d:Nat}{f:FuncId}{i:List Operand}{g:Array TypeId}{ty:TypeId}{pos:String}{af:Array Edge}{b R:List S1}{j:List Nat}(o:Met P f b (eJ fr) ob j (fun q ob'=>q=R/\ob'=O))(h:FreeKs j fr)(ha:aB fr i=some b)(k:i.all H2=true)(m:Nat.blt d nt=true)(p:WpL P nt ops rest ((d,mI R)::fr) O Q):WpL P nt ops (⟨some d,.call ⟨.value (.func f),i.toArray,g⟩,ty,pos,af,none⟩::rest) fr ob Q:=gX o h ha k m (by rintro _ _ ⟨rfl,rfl⟩;exact p)
theorem uI{G G':Prop}(k:G')(h:To 0 G' G:=by exact tt):G:=zz 0 k h
theorem G5{G G':Prop}(k:G')(h:To 1 G' G:=by exact tt):G:=zz 1 k h
theorem F5{G G':Prop}(k:G')(h:To 2 G' G:=by exact tt):G:=zz 2 k h
theorem H3{G G':Prop}(k:G')(h:To 3 G' G:=by exact tt):G:=zz 3 k h
theorem P1{G G':Prop}(k:G')(h:To 4 G' G:=by exact tt):G:=zz 4 k h
theorem I2{G G':Prop}(k:G')(h:To 5 G' G:=by exact tt):G:=zz 5 k h
theorem J0{G G':Prop}(k:G')(h:To 6 G' G:=by exact tt):G:=zz 6 k h
theorem I3{G G':Prop}(k:G')(h:To 7 G' G:=by exact tt):G:=zz 7 k h
theorem R3{G G':Prop}(k:G')(h:To 8 G' G:=by exact tt):G:=zz 8 k h
theorem Z2{G G':Prop}(k:G')(h:To 9 G' G:=by exact tt):G:=zz 9 k h
theorem O6{G G':Prop}(k:G')(h:To 10 G' G:=by exact tt):G:=zz 10 k h
theorem V7{G G':Prop}(k:G')(h:To 11 G' G:=by exact tt):G:=zz 11 k h
theorem x5{G G':Prop}(k:G')(h:To 12 G' G:=by exact tt):G:=zz 12 k h
end Go.AL
