/- The abstract logic, its second half. No project text. -/
import Derived.Test.YtmbpmaofnddkoaaGreatDoorAl
set_option linter.all false
attribute [local semireducible] Go.AL.Neu Go.AL.Eff Go.AL.EffV Go.AL.WpL Go.AL.WpC Go.AL.FnOk Go.AL.LexD Go.AL.Sees Go.AL.RetOk
namespace Go.AL
open Go Go.RowKit
set_option linter.unusedVariables false
variable {P:Program}{nt:Nat}{fr:Fr}{ob:Obs}{Q:Post}
theorem C1{c:Code}{X:Type}(E:X->Fr×Obs)(I:X->Prop)(m:X->Nat)(b:X)(f:I b)(start:Sees P nt fr ob (E b).1 (E b).2)
  (round:∀x,I x->WpC P nt c (E x).1 (E x).2 (gN (fun fr' ob'=>∃a,I a/\m a<m x/\Sees P nt fr' ob' (E a).1 (E a).2) Q)):WpC P nt (.loop c) fr ob Q :=
 c_loop (X:=ULift X) (fun x=>E x.down) (fun x=>I x.down) (fun x=>m x.down) ⟨b⟩ f start fun x j=>(round x.down j).mono fun e fr' ob' d=>by
  cases e with
  | normal=>obtain⟨a,g,h,i⟩:=d;exact⟨⟨a⟩,g,h,i⟩
  | _=>exact d
theorem d7{c:Code}(fr':Fr)(ob':Obs)(a:Sees P nt fr ob fr' ob')(k:WpC P nt c fr' ob' Q):WpC P nt c fr ob Q:=C3 a k
theorem kO{x y:Code}(fr':Fr)(ob':Obs)(b:WpC P nt x fr ob (gN (fun f o=>Sees P nt f o fr' ob') Q))(k:WpC P nt y fr' ob' Q):WpC P nt (.seq x y) fr ob Q :=
 c_seq (b.mono fun e f o a=>by
  cases e with
  | normal=>exact C3 a k
  | _=>exact a)
variable {ops:Array Oper}{rest:List Oper}{d:Nat}
def gd(x b:Bool)(s:SV):SV:=cond (x == b) s .un
theorem E3{m:Op}{ty:TypeId}{pos:String}{af:Array Edge}{j t:Nat}{b x:Bool}{s:SV}(f:(ops[j]?).bind (·.dst)=some t)(a:Nat.blt t nt=true)(g:C7 fr t=some (.s (.one (.p (.v (.bool x))))))(c:Nat.blt d nt=true)
  (h:x=b->Neu P ⟨some d,m,ty,pos,af,none⟩ fr ob (fun q=>q=s))(k:WpL P nt ops rest ((d,gd x b s)::fr) ob Q):WpL P nt ops (⟨some d,m,ty,pos,af,some (j,b)⟩::rest) fr ob Q:=by
 by_cases hb:x=b
 ·refine E4 f a g hb (A9 (h hb) c ?_);have:gd x b s=s:=by simp[gd,hb]
  rwa[this]at k
 ·refine H5 f a g hb c ?_;have:gd x b s=.un:=by
   have:(x == b)=false:=by simpa using hb
   simp[gd,this]
  rwa[this]at k
theorem G6{K:Fr->Obs->Prop}{c:Op}{ty:TypeId}{pos:String}{af:Array Edge}{s:SV}{j t:Nat}{b x:Bool}(m:(ops[j]?).bind (·.dst)=some t)(r:C7 fr t=some (.s (.one (.p (.v (.bool x))))))
  (h:x=b->Neu P ⟨some d,c,ty,pos,af,none⟩ (Q9 fr (nC c)) ob (fun z=>z=s))(q:turns c=false)(g:Nat.blt d nt=true)(k:LexD P nt ops K rest ((d,gd x b s)::fr) ob) :
  LexD P nt ops K (⟨some d,c,ty,pos,af,some (j,b)⟩::rest) fr ob:=by
 by_cases hb:x=b
 ·refine d_run m r hb ?_ q g (s:=s) ?_
  ·have:=h hb;intro S G a w y;have f:=this S G a w y;unfold Does at f ⊢;exact f
  ·have:gd x b s=s:=by simp[gd,hb]
   rwa[this]at k
 ·refine AD m r hb q g ?_;have:gd x b s=.un:=by
   have:(x == b)=false:=by simpa using hb
   simp[gd,this]
  rwa[this]at k
theorem Wants.gd{b x c W:Bool}{s:SV}(h:Wants b s W):Wants b (AL.gd x c s) ((x == c)&&W):=by
 unfold AL.gd;cases a:(x == c) with
 | true=>simpa using h
 | false=>exact .un
theorem bE{x c y b:Bool}(h:((x == c)&&(y == b))=true):x=c/\y=b:=by simpa using h
theorem JC{x c y b z e:Bool}(h:((x == c)&&((y == b)&&(z == e)))=true):x=c/\y=b/\z=e:=by simpa using h
theorem E5{α:Type}{a:Nat}{c:α->Nat->Cell}{n:Nat}:yQ fr a c [] n []:=rfl
theorem C5{α:Type}{a:Nat}{c:α->Nat->Cell}{i:Nat}{x:Operand}{r:List (Nat×Operand)}{y:α}{ys:List α}{s:S1}(f:opv fr x=some (.s s))(b:F9 x=true)(d:Nat.beq s.cells.length a=true)(e:fH s.cells=some (cellsOf c y 0 a))(h:yQ fr a c r (i+1) ys) :
  yQ fr a c ((i,x)::r) i (y::ys):=⟨rfl,b,s,y,ys,f,B49 d,fun g G j ha=>aH e ha,rfl,h⟩
section
variable {P:Program}{nt:Nat}{dst:Option Tmp}{ty:TypeId}{pos:String}{af:Array Edge}{gd:Option (Nat×Bool)}{fr:Fr}{ob:Obs}
def jQ{α:Type}(b:Nat)(c:α->Nat->Cell):List α->List TC
 | []=>[]
 | x::xs=>(cellsOf c x 0 b).map .p++jQ b c xs
theorem o7{α:Type}{b:Nat}{c:α->Nat->Cell}:∀(a:List α),(jQ b c a).length=a.length*b
 | []=>by simp[jQ]
 | x::a=>by simp[jQ,o7 a,K3,B73];omega
theorem vQ{α:Type}{a:Nat}{c:α->Nat->Cell}:∀(b:List α) (i j:Nat) (x:α),b[i]?=some x->j<a->(jQ a c b)[i*a+j]?=some (.p (c x j))
 | [],i,j,x,h,_=>by simp at h
 | y::b,0,j,x,h,hj=>by
  simp at h;subst h;have d:j<(cellsOf c y 0 a).length:=by rw[K3];exact hj
  have:=V3 c y a 0 j _ (B23 d);rw[Nat.zero_mul,B70,jQ,B59 (by simpa using d),B92,B23 d,this.1];simp
 | y::b,i+1,j,x,h,hj=>by
  have f:=vQ (c:=c) b i j x (by simpa using h) hj;rw[jQ,B61 (by simp[K3,B73];omega)];simp only[B75,K3];have:(i+1)*a+j-a=i*a+j:=by rw[B73];omega
  rw[this];exact f
theorem Sim.retell{S:Ctx}{G:Gh}{a:Act}{w:World}(h:Sim P S fr ob G a w){k:Nat}{o j:Ob}(l:B0 ob k=some o){b:Nat}(hb:blk (G k)=some b)(d:∀i,Own (G k) o b i)(c:∀i,Own (G k) j b i)
  (m:∀f:Rd,ObOk S f G w (G k) o->ObOk S f G w (G k) j):Sim P S fr ((k,j)::ob) G a w :=
 h.write l hb d c rfl rfl rfl (B29 _) (fun _ _ _=>rfl) (fun f g=>m f ((h.obs k o l).ext g (Below.refl _ _)))
theorem Sees.toT(k:Nat){α:Type}{d:Nat}{c:α->Nat->Cell}{f:List α}(J:B0 ob k=some (.arr α d c f)):Sees P nt fr ob fr ((k,.tarr f.length d (jQ d c f))::ob):=by
 intro S G a w U h;obtain⟨b,X,t,L,M,T,N,R⟩:=h.obs k _ J;have m:blk (G k)=some b:=by rw[L];rfl
 refine⟨G,h.retell J m (fun i=>⟨m,trivial⟩) (fun i=>⟨m,trivial⟩) ?_⟩;rintro V ⟨K,s,O,y,_,A,p,x⟩;refine⟨K,s.toList,O,y,M,by simpa using A,o7 f,gQ (by rw[o7];simpa using p) fun j W z o D=>?_⟩;rcases Nat.eq_zero_or_pos d with u | u
 ·have:(jQ d c f).length=0:=by rw[o7,u];simp
  rw[B58 (by omega)]at o;cases o
 ·have B:j<f.length*d:=by
   rcases Nat.lt_or_ge j (jQ d c f).length with v | v
   ·rwa[o7]at v
   ·rw[B58 v]at o;cases o
  have H:j / d<f.length:=(Nat.div_lt_iff_lt_mul u).2 B;have I:j % d<d:=Nat.mod_lt _ u;have E:j / d*d+j % d=j:=by rw[Nat.mul_comm];exact Nat.div_add_mod j d
  have F:=vQ (c:=c) f (j / d) (j % d) _ (B23 H) I;rw[E,o]at F;cases F;obtain⟨Q,q,C⟩:=x (j / d) H (j % d) I;rw[E]at q;have:s.toList[j]?=some Q:=by simpa using q
  rw[this]at D;cases D;exact C
theorem Sees.ofT(k:Nat){α:Type}{g:Nat}{c:α->Nat->Cell}{n:Nat}{A:List TC}(f:List α)(v:B0 ob k=some (.tarr n g A))(x:f.length=n)(p:A=jQ g c f):Sees P nt fr ob fr ((k,.arr α g c f)::ob):=by
 subst p x;intro S G a w x h;obtain⟨b,N,t,D,L,K,H,J⟩:=h.obs k _ v;have d:blk (G k)=some b:=by rw[D];rfl
 refine⟨G,h.retell v d (fun i=>⟨d,trivial⟩) (fun i=>⟨d,trivial⟩) ?_⟩;rintro M ⟨B,u,I,l,o,m,y,e⟩;refine⟨B,u.toArray,I,l,o,m,by simp[<-e.length,o7],fun i E j F=>?_⟩;have C:=vQ (c:=c) f i j _ (B23 E) F;obtain⟨z,q,s⟩:=e.get _ _ C;exact⟨z,by simpa using q,s⟩
theorem T3{x y:Operand}{t e:TypeId}{g c k n:Nat}{F:List TC}{D:IntKind}{i:Int}[ht:TySl P t e g c](B:opv fr x=some (.s (.one (.mut k))))(z:B0 ob k=some (.tarr n g F))
  (C:opv fr y=some (H6 (.int D i)))(q:0<=i)(v:i<n):Neu P ⟨dst,.indexAddr t x y,ty,pos,af,gd⟩ fr ob (fun E=>E=.s (.one (.mref k g i.toNat 0))) :=
 E1 fun S G a w h=>by
  obtain⟨l,_⟩:=G9 h B;obtain⟨b,I,H,j,_⟩:=h.obs k _ z;rw[j]at l;refine⟨.pointer (some ⟨b,i.toNat*g,none⟩),?_,b,n,n,j,rfl⟩;simp only[execOp,l,E9 h C];refine K2 ?_;have hb:0<=i/\i<(n:Int):=⟨q,v⟩
  simp[Instr.indexAt,run_underlying ht.out.1,asIntOf,hb,I7 ht.size,Addr.add_lit]
theorem JD{x:Operand}{t:TypeId}{k i o n g:Nat}{q:List TC}{s:TC}[ht:TyOne P t](D:opv fr x=some (.s (.one (.mref k g i o))))(A:B0 ob k=some (.tarr n g q))(C:q[i*g+o]?=some s) :
  Neu P ⟨dst,.load t x,ty,pos,af,gd⟩ fr ob (fun E=>E=.s (.one s)) :=
 E1 fun S G a w h=>by
  obtain⟨b,m,u,v,B⟩:=G9 h D;obtain⟨F,H,tt,c,_,y,_,ha⟩:=h.obs k _ A;rw[v]at c;cases c;obtain⟨z,j,p⟩:=ha.get _ s C;refine⟨z,?_,p⟩;simp only[execOp,B];refine K2 ?_;simp[Instr.loadAt,Instr.sureAddr,R4 (ht:=ht) (L7 y (by simpa using j))]
theorem EQ{t:TypeId}{x E:Operand}{k i o n m y:Nat}{T:List TC}{s:S1}(Q:(P.info? t).map (·.size)=some m)(hx:opv fr x=some (.s (.one (.mref k y i o))))(U:B0 ob k=some (.tarr n y T))
  (hy:opv fr E=some (.s s))(H:F9 E=true)(V:s.cells.length=m)(q:i*y+o+m<=T.length) :
  Eff P ⟨none,.store t x E,ty,pos,af,gd⟩ fr ob fr ((k,.tarr n y (setTs T (i*y+o) s.cells))::ob):=by
 intro S G a w h;obtain⟨b,len,W,M,hu⟩:=G9 h hx;obtain⟨b',vs,tt,I,J,Y,R,ha⟩:=h.obs k _ U;rw[M]at I;cases I;have Z:(SV.s s).rep (D9 (Mut S ob G) w) G (a.eval E):=U1 h hy H;have d:=A94 Z;have F:(a.eval E).cells.size=m:=by rw[<-V,d.length];simp
 obtain⟨w',L,N,D,K,C,g,B⟩:=o6 (P:=P) (t:=t) (w:=w) (b:=b) (o:=i*y+o) (v:=a.eval E) (by rw[Q,F]) Y (pD d) (by rw[F,<-ha.length];exact q);unfold Does;have X:(execOp a.eval ⟨none,.store t x E,ty,pos,af,gd⟩).run P w=.ok .skip w':=by
  simp[execOp,hu,Instr.storeAt,Instr.sureAddr,L]
 rw[X];have A:blk (G k)=some b:=by rw[M];rfl
 refine⟨G,h.write U A (fun i=>⟨A,trivial⟩) (fun i=>⟨A,trivial⟩) N D K (Nat.le_of_eq C.symm) (fun j _=>g j) ?_⟩;intro rd O;refine⟨b,_,tt,M,J,B,by rw[JA (by rw[V];exact q)];exact R,?_⟩;have:=(All2.setTs (i*y+o) ha d).mono (fun _ _=>TC.rep_mono O);simpa using this
theorem vR{α:Type}{c:α->Nat->Cell}:∀(a:List α),jQ 1 c a=a.map fun x=>.p (c x 0)
 | []=>rfl
 | x::a=>by simp[jQ,cellsOf,vR a]
theorem B21(k:Nat){α:Type}{c:α->Nat->Cell}{b:List α}(d:B0 ob k=some (.arr α 1 c b)):Sees P nt fr ob fr ((k,.tarr b.length 1 (b.map fun x=>.p (c x 0)))::ob):=by
 have:=Sees.toT (P:=P) (nt:=nt) (fr:=fr) k d
 rwa[vR]at this
theorem B22(k:Nat){α:Type}{c:α->Nat->Cell}{n:Nat}{e:List TC}(b:List α)(f:B0 ob k=some (.tarr n 1 e))(g:b.length=n)(d:e=b.map fun x=>.p (c x 0)):Sees P nt fr ob fr ((k,.arr α 1 c b)::ob) :=
 Sees.ofT k b f g (by rw[vR];exact d)
theorem cZ{x:Operand}{t:TypeId}{k i n:Nat}{b:List TC}{s:TC}[ht:TyOne P t](h:opv fr x=some (.s (.one (.mref k 1 i 0))))(c:B0 ob k=some (.tarr n 1 b))(g:b[i]?=some s) :
  Neu P ⟨dst,.load t x,ty,pos,af,gd⟩ fr ob (fun j=>j=.s (.one s)):=JD h c (by simpa using g)
theorem YA{a:List TC}{i:Nat}{s:TC}(h:i<a.length):setTs a i [s]=a.set i s:=by
 unfold setTs;rw[List.set_eq_take_append_cons_drop,A5 h];simp
theorem nD{t:TypeId}{x h:Operand}{k i n:Nat}{g:List TC}{s:TC}(d:(P.info? t).map (·.size)=some 1)(u:opv fr x=some (.s (.one (.mref k 1 i 0))))(q:B0 ob k=some (.tarr n 1 g))
  (j:i<g.length)(v:opv fr h=some (.s (.one s)))(b:F9 h=true):Eff P ⟨none,.store t x h,ty,pos,af,gd⟩ fr ob fr ((k,.tarr n 1 (g.set i s))::ob):=by
 have:=EQ (ty:=ty) (pos:=pos) (af:=af) (gd:=gd) d u q v b rfl (by omega)
 rwa[show i*1+0=i by omega,show (S1.one s).cells=[s] from rfl,YA j]at this
theorem L4{t:TypeId}{x l:Operand}{k i:Nat}{α:Type}{c:α->Nat->Cell}{g:List α}{y:α}(d:(P.info? t).map (·.size)=some 1)(w:opv fr x=some (.s (.one (.mref k 1 i 0))))(v:B0 ob k=some (.arr α 1 c g))
  (q:i<g.length)(A:opv fr l=some (.s (.one (.p (c y 0)))))(b:F9 l=true):Eff P ⟨none,.store t x l,ty,pos,af,gd⟩ fr ob fr ((k,.arr α 1 c (g.set i y))::ob) :=
 tA d w v (B23 q) A b rfl rfl (fun D G B h=>by
  match B,h with
  | [u],h=>exact⟨h.1,trivial⟩) (fun j C h=>by omega)
theorem eW(k:Nat){t e:TypeId}{ec b:Nat}{x y:Operand}{v w:IntKind}{n:Int}(α:Type)(c:α->Nat->Cell)(f:α){z:Value}[ht:TySl P t e ec b][hz:TyZero P e z]
  (p:opv fr x=some (H6 (.int v n)))(q:opv fr y=some (H6 (.int w n)))(g:0<=n)(j:n<=1073741824)
  (d:∀A:Rd,All2 (Cell.rep A) (cellsOf c f 0 ec) z.cells.toList)(h:(H7 k fr&&J2 k ob)=true) :
  EffV P ⟨dst,.makeSlice t x y,ty,pos,af,gd⟩ fr ob (.s (.one (.mut k))) fr ((k,.arr α ec c (List.replicate n.toNat f))::ob) :=
 f_make k α c f p q g j (by rw[hz.out.1];rfl) d h
end
abbrev Mb(M:Nat->Nat->Prop)(b:Nat):Nat->Nat->Prop:=fun a i=>M a i\/a=b
def FnIo(P:Program)(f:FuncId)(h:List PV)(C:List Cell)(m:List PV->List Cell->Prop):Prop :=
 Callable P f/\∀(w:World) (M:Nat->Nat->Prop) (g:List Value) (b:Nat) (B:List Value) (t:TypeId),Grd P (fun k=>k=b) w->(∀x i,M x i->x<w.heap.size/\x≠b) ->
  w.heap[b]?=some (.cells B.toArray t (0,0))->All2 (Cell.rep (D9 (Mb M b) w)) C B->All2 (PV.rep (D9 (Mb M b) w)) h g ->
  Calls P f (.pointer (some ⟨b,0,none⟩)::g).toArray w (fun e w'=>∃v z j q,e=.returned v/\m z j/\ResRep (D9 (Mb M b) w') z v/\(∃D,w'.heap[b]?=some (.cells (List.toArray q) D (0,0)))/\All2 (Cell.rep (D9 (Mb M b) w')) j q /\
   w'.os=w.os/\w'.tape=w.tape/\w'.output=w.output/\w.heap.size<=w'.heap.size/\∀k,k<w.heap.size->k≠b->w'.heap[k]?=w.heap[k]?)
theorem FnIo.mono{P:Program}{f:FuncId}{args:List PV}{j:List Cell}{d a:List PV->List Cell->Prop}(h:FnIo P f args j d)(x:∀rs c,d rs c->a rs c):FnIo P f args j a :=
 ⟨h.1,fun w M g b y t k l q s u=>(h.2 w M g b y t k l q s u).mono fun _ _ ⟨v,rs,c,i,e,p,r⟩=>⟨v,rs,c,i,e,x _ _ p,r⟩⟩
abbrev self:Nat:=1000000
def retIoP(P:Program)(fn:Func)(d:List PV->List Cell->Prop):Post
 | .normal,fr,ob | .ret,fr,ob=>∃f g c,RetOk P fn fr ob f/\B0 ob self=some (.box g)/\fH g=some c/\d f c
 | _,_,_=>False
theorem FnIo.intro{f:FuncId}{fn:Func}{c:Code}{args:List PV}{cs:List Cell}{I:List PV->List Cell->Prop}(hf:P.funcs[f]?=some fn)(R:(fn.name == "runtime.NumGoroutine")=false)(hb:fn.body=some c)(ak:fn.ntmps=nt)
  (ac:Nat.ble (args.length+1) nt=true)(T:Nat.ble nt 1000000=true)(h:WpC P nt c ((0,.s (.one (.ref self 0)))::nA 1 args) [(self,.box (cs.map .p))] (retIoP P fn I)):FnIo P f args cs I:=by
 refine⟨⟨fn,hf,R,by simp[hb]⟩,fun w M B b vs t hg hM ab ag ha=>?_⟩;have an:args.length+1<=nt:=by simpa using ac
 have ap:B.length=args.length:=ha.length.symm;refine bC hf hb ?_;let G:Gh:=fun _=>.pointer (some ⟨b,0,none⟩);let S:Ctx:={ w0:=w,M0:=M,io:=fun k=>k=b,nt:=nt,pin:=G,gv:=fun _=>undef }
 have O:∀k,blk (G k)=some b:=fun _=>rfl;have al:b<w.heap.size:=(B39.1 ab).1;have H:∀k o,B0 [(self,Ob.box (cs.map .p))] k=some o->k=self/\o=.box (cs.map .p):=by
  intro k o J;by_cases he:self=k
  ·subst he;rw[B4]at J;cases J;exact⟨rfl,rfl⟩
  ·rw[A7 he]at J;simp[B0]at J
 have X:∀E i,Mut S [(self,.box (cs.map .p))] G E i↔Mb M b E i:=fun E i=>by
  constructor
  ·rintro (h | ⟨k,o,J,ho,_⟩)
   ·exact .inl h
   ·rw[O k]at ho;cases ho;exact .inr rfl
  ·rintro (h | h)
   ·exact .inl h
   ·exact .inr ⟨self,_,B4 _ _ _,by rw[O self,h],trivial⟩
 have ad:∀E i z,D9 (Mb M b) w E i z->D9 (Mut S [(self,.box (cs.map .p))] G) w E i z:=fun E i z V=>⟨V.1,fun K=>V.2 ((X E i).1 K)⟩
 have hs:Sim P S ((0,.s (.one (.ref self 0)))::nA 1 args) [(self,.box (cs.map .p))] G { tmps:=(Value.pointer (some ⟨b,0,none⟩)::B).toArray++Array.replicate (fn.ntmps-(Value.pointer (some ⟨b,0,none⟩)::B).toArray.size) undef,defers:=[] } w:=by
  refine { nt:=by simp[ak,S];omega,ntb:=by simpa using T,defers:=rfl,os:=rfl,tape:=rfl,output:=rfl,size:=B29 _,keep:=fun _ _ _=>rfl,m0:=fun E i K=>(hM E i K).1,m0io:=fun E i K=>(hM E i K).2,grd:=hg,pin:=fun _ _=>rfl,old:=fun k o E J Z=>?_,dis:=fun k k' o o' E J ah _ _=>by rw[(H k o J).1,(H k' o' ah).1],obs:=fun k o J=>?_,facts:=?_ }
  ·rw[O k]at Z;cases Z;exact .inr ⟨rfl,by rw[(H k o J).1];exact B29 _⟩
  ·obtain⟨rfl,rfl⟩:=H k o J;exact⟨b,vs,t,rfl,ab,RQ (ag.mono fun c u=>Cell.rep_mono ad c u)⟩
  intro i s hi;by_cases h0:(0:Nat)=i
  ·subst h0;rw[C2]at hi;cases hi;have:((Value.pointer (some ⟨b,0,none⟩)::B).toArray++Array.replicate (fn.ntmps-(Value.pointer (some ⟨b,0,none⟩)::B).toArray.size) undef).getD 0 undef=.pointer (some ⟨b,0,none⟩):=by
    rw[B35,Array.getElem?_append_left (by simp)];simp
   have ai:nt<=1000000:=by simpa using T
   rw[Ctx.sl_lt (by omega),this];exact⟨b,rfl,rfl⟩
  ·rw[B5 h0]at hi;obtain⟨am,p,hp,rfl⟩:=pF 1 args i s hi;obtain⟨u,hu,V⟩:=ha.get (i-1) p hp;have ao:i-1<B.length:=(B28.1 hu).1;have Q:((Value.pointer (some ⟨b,0,none⟩)::B).toArray++Array.replicate (fn.ntmps-(Value.pointer (some ⟨b,0,none⟩)::B).toArray.size) undef).getD i undef=u:=by
    rw[B35,Array.getElem?_append_left (by simp;omega)];obtain⟨j,rfl⟩:∃j,i=j+1:=⟨i-1,by omega⟩
    simpa using congrArg (fun x=>x.getD undef) hu
   have ai:nt<=1000000:=by simpa using T
   rw[Ctx.sl_lt (by omega),Q];exact PV.rep_s1 (PV.rep_mono ad V)
 refine wp_mono (h S _ _ w A0 hs) ?_;rintro e a' w' ⟨fr',ob',G',hq,C⟩
 have fin:(∃rs ts F,RetOk P fn fr' ob' rs/\B0 ob' self=some (.box ts)/\fH ts=some F/\I rs F)->∀ds w',Sim P { S with df:=ds } fr' ob' G' a' w'->∃v,(results fn a'.tmps).run P w'=.ok v w' /\
   (∃af rs F L,Ending.returned v=.returned af/\I rs F/\ResRep (D9 (Mb M b) w') rs af/\(∃t',w'.heap[b]?=some (.cells (List.toArray L) t' (0,0)))/\All2 (Cell.rep (D9 (Mb M b) w')) F L /\
   w'.os=w.os/\w'.tape=w.tape/\w'.output=w.output/\w.heap.size<=w'.heap.size/\∀k,k<w.heap.size->k≠b->w'.heap[k]?=w.heap[k]?):=by
  rintro⟨rs,ts,F,V,ho,hp,U⟩ ds w' C;obtain⟨v,hv,ae⟩:=V _ G' a' w' C;obtain⟨E,L,t',W,hh,Y⟩:=C.obs self _ ho;have q:=C.pin self (B29 _);rw[W]at q;injection q with q
  injection q with q
  injection q with q
  subst q
  have N:∀b₁ i z,D9 (Mut S ob' G') w' b₁ i z->D9 (Mb M E) w' b₁ i z:=fun b₁ i z hz=>⟨hz.1,fun K=>hz.2 (by
   rcases K with K | rfl
   ·exact .inl K
   ·exact .inr ⟨self,_,ho,by rw[W];rfl,trivial⟩)⟩
  refine⟨v,hv,v,rs,F,L,rfl,U,ae.mono N,⟨t',hh⟩,((aH hp Y).mono fun c u=>Cell.rep_mono N c u),C.os,C.tape,C.output,C.size,fun k J aj=>C.keep k J aj⟩
 cases e with
 | normal=>exact C.leave rfl (fin hq)
 | ret=>exact C.leave rfl (fin hq)
 | _=>exact hq.elim
section
variable {P:Program}{dst:Option Tmp}{ty:TypeId}{pos:String}{af:Array Edge}{gd:Option (Nat×Bool)}{fr:Fr}{ob:Obs}
theorem rO(k:Nat){t e:TypeId}{q J n:Nat}{parts:Array (Nat×Operand)}{α:Type}{c:α->Nat->Cell}{ys:List α}[ht:TySl P t e q J](hb:yQ fr q c parts.toList 0 ys)(hn:parts.toList.length=n)(Q:Nat.ble n 100000=true)(V:Nat.ble q 100=true)
  (hk:B0 ob k=none)(ad:k<1000000):EffV P ⟨dst,.buildSlice t n parts,ty,pos,af,gd⟩ fr ob (.s (.one (.buf k α q c ys))) (Fr.forget k fr) ((k,.spare ys.length q e)::Obs.forget k ob):=by
 intro S G a w h;have ab:=ht.out.2.2.1;have ac:n<=100000:=by simpa using Q
 have U:q<=100:=by simpa using V
 have ak:n*q<=100000*100:=Nat.mul_le_mul ac U;obtain⟨_,_,_,_,D⟩:=ht.out;cases hi:P.info? e with
 | none=>simp[hi]at D
 | some i =>
 cases hz:i.zero with
 | none=>simp[hi,hz]at D
 | some z =>
 have aj:(P.info? e).bind (·.zero)=some z:=by simp[hi,hz]
 let A:Array Value:=(Array.range (n*q)).map ((if n*q=0 then #[] else z.cells)[· % (if n*q=0 then #[] else z.cells).size]!);have T:A.size=n*q:=by simp[A]
 obtain⟨H,hf,ae,ag,hv⟩:=pC h parts.toList 0 ys A hb (by rw[T,hn,B70]);simp only[Nat.zero_mul,B68,B74]at hf;have hp:(parts.map fun x=>(x.1,a.eval x.2)).toList=parts.toList.map fun x=>(x.1,a.eval x.2):=by simp
 have E:ys.length=n:=by rw[ag,hn]
 refine H4 (w':=w.alloc (.cells H.toArray e)) (v:=.slice (some ⟨w.heap.size,0,none⟩) n n) ?_ ?_
 ·simp only[execOp];refine K2 ?_;simp only[Instr.buildSlice,Sem.run_bind,run_underlying ht.out.1,Result.andThen_ok,I7 ht.size];rw[A6 (by omega)];by_cases F:n*q=0
  ·simp only[F,if_true,Sem.run_bind,Sem.run_pure,Result.andThen_ok];have C:A=(Array.range 0).map ((#[]:Array Value)[· % (#[]:Array Value).size]!):=by simp only[A,F,if_true]
   rw[show (parts.map fun (x:Nat×Operand)=>match x with | (i,x)=>(i,a.eval x))=parts.map fun x=>(x.1,a.eval x.2) from rfl,hp,<-C,hf];simp[newRow]
  ·simp only[A6 F,Sem.run_bind,O4 aj,Sem.run_pure,Result.andThen_ok];have C:A=(Array.range (n*q)).map (z.cells[· % z.cells.size]!):=by simp only[A,A6 F]
   rw[show (parts.map fun (x:Nat×Operand)=>match x with | (i,x)=>(i,a.eval x))=parts.map fun x=>(x.1,a.eval x.2) from rfl,hp,<-C,hf];simp[newRow]
 ·have Z:Below w.heap.size w (w.alloc (.cells H.toArray e)):=(Below.refl _ _).alloc (B29 _) _;have hu:∀b,blk (.slice (some ⟨w.heap.size,0,none⟩) n n)=some b->w.heap.size<=b:=by intro b hb;simp[blk]at hb;omega
  have O:H.length=n*q:=by rw[ae,hn]
  have I:(w.alloc (.cells H.toArray e)).ownsRow S.B e q (.slice (some ⟨w.heap.size,0,none⟩) n n) ys.length H :=
   ⟨by rw[O,E],.inr ⟨w.heap.size,n,H.toArray,by rw[E],h.size,heap_alloc_new w _,by rw[E];exact B29 _,by unfold maxLen;omega,by simpa using O,by rw[E,<-O];simp⟩⟩
  have Y:=h.new ad hk (o:=.spare ys.length q e) Z hu ⟨H,I⟩;refine⟨_,Y,(H3 _ _ _).symm,?_⟩;have N:(w.alloc (.cells H.toArray e)).ownsRow S.B e q (.slice (some ⟨w.heap.size,0,none⟩) n n) ys.length H:=I;refine bB (c:=c) (xs:=ys) N ab (by omega) ?_ ?_
  ·intro g W j zz hj K;simp[blk]at W;subst W;refine⟨K,fun X=>?_⟩;rcases X with X | ⟨k',o',hk',hb1,hb2⟩
   ·have:=h.m0 _ j X;have:=h.size;omega
   ·by_cases M:k=k'
    ·subst M;rw[B4]at hk';cases hk';simp only at hb2;omega
    ·rw[A7 M,I8]at hk';cases W:B0 ob k' with
     | none=>simp[W]at hk'
     | some o0 =>
      rw[cF G _ (Ne.symm M)]at hb1;have:=(h.obs k' o0 W).blk_lt _ hb1;omega
  ·intro m X j hj;obtain⟨zz,ah,ai⟩:=hv m X j hj;exact⟨zz,ah,Cell.rep_mono (fun _ _ _ hr=>h.rd_new Z hu hr) _ _ ai⟩
theorem RT(k:Nat){t e:TypeId}{j h n:Nat}{g:Array (Nat×Operand)}{α:Type}{c:α->Nat->Cell}{ys:List α}[ht:TySl P t e j h](hb:yQ fr j c g.toList 0 ys)(A:g.toList.length=n)(m:Nat.ble n 100000=true)(q:Nat.ble j 100=true)
  (v:(H7 k fr&&J2 k ob)=true):EffV P ⟨dst,.buildSlice t n g,ty,pos,af,gd⟩ fr ob (.s (.one (.buf k α j c ys))) fr ((k,.spare ys.length j e)::ob):=by
 simp only[B24]at v;obtain⟨w,x⟩:=v;obtain⟨y,z,B⟩:=F7 x;have:=rO (P:=P) (dst:=dst) (ty:=ty) (pos:=pos) (af:=af) (gd:=gd) (ht:=ht) k hb A m q z B
 rwa[V4 w,y]at this
end
theorem A97{α:Type 1}{β:Type}{R:α->β->Prop}{t:α}:∀{c:List α} {a:List β} (o:Nat),(∀z,a[o]?=some z->R t z)->All2 R c a->All2 R (c.set o t) a
 | [],[],_,_,_=>trivial
 | [],_::_,_,_,h=>h.elim
 | _::_,[],_,_,h=>h.elim
 | _::_,v::_,0,hz,h=>⟨hz v rfl,h.2⟩
 | _::c,_::a,o+1,hz,h=>⟨h.1,A97 o (fun z b=>hz z (by simpa using b)) h.2⟩
theorem A98(k:Nat)(α:Type)(g:Nat)(c:α->Nat->Cell)(e:TypeId){kb o:Nat}{A:List TC}(hb:B0 ob kb=some (.box A))(H:A[o]?=some (.p (.v (.slice none 0 0))))(K:(H7 k fr&&J2 k ob)=true) :
  Sees P nt fr ob fr ((kb,.box (A.set o (.buf k α g c [])))::(k,.spare 0 g e)::ob):=by
 simp only[B24]at K;obtain⟨M,N⟩:=K;obtain⟨O,B,T⟩:=F7 N;intro S G a w X h;have C:=h.new T (o:=.spare 0 g e) (u:=.slice none 0 0) (w1:=w) B (Below.refl _ _) (fun b hb=>by simp[blk]at hb) ⟨[],World.ownsRow_nil w _ _ _⟩;rw[V4 M,O]at C;have F:k≠kb:=fun Q=>by rw[Q,hb]at B;cases B
 have n:B0 ((k,Ob.spare 0 g e)::ob) kb=some (.box A):=by rw[A7 F];exact hb
 obtain⟨b,Z,t,R,W,ha⟩:=C.obs kb _ n;have d:blk (upd G k (.slice none 0 0) kb)=some b:=by rw[R];rfl
 refine⟨_,C.retell n d (fun i=>⟨d,trivial⟩) (fun i=>⟨d,trivial⟩) ?_⟩;rintro Y ⟨L,J,V,D,E,j⟩;refine⟨L,J,V,D,E,A97 o (fun z U=>?_) j⟩;obtain⟨z',q,I⟩:=j.get o _ H;rw[U]at q;cases q;rw[I.1];exact⟨(H3 _ _ _).symm,X9 α g c⟩
theorem B08(α:Type)(u:Nat)(c:α->Nat->Cell)(kb o:Nat){q:List TC}(hb:B0 ob kb=some (.box q))(m:q[o]?=some (.p (.v (.slice none 0 0)))):Sees P nt fr ob fr ((kb,.box (q.set o (.p (.list α u c []))))::ob):=by
 intro S G a w E h;obtain⟨b,H,t,A,D,ha⟩:=h.obs kb _ hb;have d:blk (G kb)=some b:=by rw[A];rfl
 refine⟨_,h.retell hb d (fun i=>⟨d,trivial⟩) (fun i=>⟨d,trivial⟩) ?_⟩;rintro F ⟨y,r,C,j,k,f⟩;refine⟨y,r,C,j,k,A97 o (fun z B=>?_) f⟩;obtain⟨I,g,n⟩:=f.get o _ m;rw[B]at g;cases g;rw[n.1];exact X9 α u c
def low:Obs->Bool
 | []=>true
 | (i,_)::r=>Nat.blt i 1000&&low r
theorem TC.freeze_free{k:Nat}{α:Type}{a:Nat}{c:α->Nat->Cell}{b:List α}{t:TC}(h:t.free k=true):t.freeze k α a c b=t:=by
 cases t<;>first | rfl | skip
 simp only[TC.free,B60]at h;simp[TC.freeze,h]
theorem Ob.freeze_free{k:Nat}{α:Type}{g:Nat}{c:α->Nat->Cell}{i:List α}{o:Ob}(h:o.free k=true):o.freeze k α g c i=o:=by
 cases o with
 | box b=>simp only[Ob.freeze];rw[Y1 fun t a=>TC.freeze_free (B27.1 h t a)]
 | tbx e b=>simp only[Ob.freeze];rw[Y1 fun t a=>TC.freeze_free (B27.1 h t a)]
 | tarr n e b=>simp only[Ob.freeze];rw[Y1 fun t a=>TC.freeze_free (B27.1 h t a)]
 | arr=>rfl
 | spare=>rfl
 | grow=>rfl
 | map=>rfl
 | growA f q d l j p b=>simp only[Ob.freeze];rw[Y1 fun t a=>TC.freeze_free (B27.1 h t a)]
 | growT f m d b=>simp only[Ob.freeze];rw[Y1 fun t a=>TC.freeze_free (B27.1 h t a)]
theorem B04{P:Program}{f:FuncId}{c:List PV}{g:List PV->Prop}(l:Callable P f)
  (h:∀(w:World) (M:Nat->Nat->Prop) (a:List Value),(∀b i,M b i->b<w.heap.size)->All2 (PV.rep (D9 M w)) c a->Calls P f a.toArray w (fun e w'=>∃v j,e=.returned v/\g j/\ResRep (D9 M w') j v/\Below w.heap.size w w')):FnOk P f c g :=
 ⟨l,fun w M a _ k ha=>h w M a k ha⟩
theorem A95{P:Program}{f:FuncId}{xs:List Value}{r:Value}(g:Callable P f)(j:r.oneCell'=true)
  (h:∀w,Calls P f xs.toArray w (fun e w'=>e=.returned r/\w'=w)):FnOk P f (xs.map fun x=>.one (.v x)) (fun p=>p=[.one (.v r)]):=by
 refine B04 g fun w M a s ha=>?_;have k:a=xs:=by
  clear h g;induction xs generalizing a with
  | nil=>cases a with
   | nil=>rfl
   | cons _ _=>exact ha.elim
  | cons x xs l=>cases a with
   | nil=>exact ha.elim
   | cons v q =>
    obtain⟨b,c⟩:=ha;rw[l q c,b.1]
 rw[k];refine (h w).mono fun e w' i=>?_;obtain⟨b,c⟩:=i;exact⟨r,_,b,rfl,⟨rfl,j⟩,by rw[c];exact Below.refl _ _⟩
theorem B15{P:Program}{f:FuncId}{l:List (List UInt8)}{y r:List UInt8}(Q:Callable P f)
  (N:l=[]->∀a c w,Calls P f #[.slice a 0 c,.string ⟨y.toArray⟩] w (fun e w'=>e=.returned (.string ⟨r.toArray⟩)/\w'=w))
  (O:∀b o c w,l≠[]->(∀(j:Nat) x,(l.map fun s=>(⟨s.toArray⟩:ByteArray))[j]?=some x->w.cell? ⟨b,o+j,none⟩=some (.string x))->b<w.heap.size->l.length<=c ->
   Calls P f #[.slice (some ⟨b,o,none⟩) l.length c,.string ⟨y.toArray⟩] w (fun e w'=>e=.returned (.string ⟨r.toArray⟩)/\Below w.heap.size w w')) :
  FnOk P f [aI l,G5 y] (fun V=>V=[G5 r]):=by
 refine B04 Q fun w M D W ha=>?_
 match D,ha with
 | [u,v],ha =>
  obtain⟨H,T,_⟩:=ha;obtain⟨rfl,_⟩:=T;have H:SliceAt (D9 M w) 1 l.length (fun i j z=>∃h:i<l.length,(K6 l[i] j).rep (D9 M w) z) u:=by simpa only[PV.rep,Cell.rep] using H
  obtain⟨a,A,rfl,⟨B,_⟩,K,k⟩:=H;by_cases E:l=[]
  ·subst E;refine (N rfl a A w).mono fun e w' C=>?_;exact⟨_,_,C.1,rfl,⟨rfl,rfl⟩,by rw[C.2];exact Below.refl _ _⟩
  ·rcases k with U | ⟨b,o,rfl,k⟩
   ·exact absurd (B67 U) E
   ·have q:∀(j:Nat) x,(l.map fun s=>(⟨s.toArray⟩:ByteArray))[j]?=some x->w.cell? ⟨b,o+j,none⟩=some (.string x):=by
     intro j x L;rw[B92]at L;obtain⟨s,S,rfl⟩:=Option.map_eq_some_iff.1 L;obtain⟨R,G⟩:=B28.1 S;obtain⟨z,I,_,J⟩:=k j R 0 (by omega);obtain⟨rfl,_⟩:=J;have:=I.1;rw[G]at this;simpa using this
    have hb:b<w.heap.size:=by
     have F:0<l.length:=List.length_pos_iff.2 E;have:=q 0 _ (by simp[B23 F];rfl);exact World.block_lt_of_cell? w _ this
    refine (O b o A w E q hb B).mono fun e w' C=>?_;exact⟨_,_,C.1,rfl,⟨rfl,rfl⟩,C.2⟩
section
variable {P:Program}{dst:Option Tmp}{ty:TypeId}{pos:String}{af:Array Edge}{gd:Option (Nat×Bool)}{fr:Fr}{ob:Obs}
theorem C9{x:Operand}{k o:Nat}(j:opv fr x=some (.s (.one (.ref k o)))):Neu P ⟨dst,.nilCheck x,ty,pos,af,gd⟩ fr ob (fun m=>m=.s (.one (.ref k o))) :=
 E1 fun S G a w h=>by
  obtain⟨b,d,g⟩:=G9 h j;refine⟨_,?_,b,d,rfl⟩;simp only[execOp,g];rfl
theorem n_compl{x:Operand}{t:TypeId}{k:IntKind}{n r:Int}(d:opv fr x=some (H6 (.int k n)))(c:k.signed=false)(b:∀w:World,(Op.intBits .xor k k.max n).run P w=.ok (.int k r) w):Neu P ⟨dst,.unOp .xor t x,ty,pos,af,gd⟩ fr ob (fun e=>e=H6 (.int k r)) :=
 E1 fun S G a w h=>⟨_,by simp only[execOp,E9 h d];exact K2 (by simp[Op.unary,c];exact b w),rfl,rfl⟩
theorem tD{t:TypeId}{x y:Operand}{k o n:Nat}{e:TypeId}{D:List TC}{s:S1}(V:(P.info? t).map (·.size)=some n)(hx:opv fr x=some (.s (.one (.ref k o))))(W:B0 ob k=some (.tbx e D))(hy:opv fr y=some (.s s))(Y:F9 y=true)
  (X:s.cells.length=n)(J:Nat.ble (o+n) D.length=true):Eff P ⟨none,.store t x y,ty,pos,af,gd⟩ fr ob fr ((k,.tbx e (setTs D o s.cells))::ob):=by
 intro S G a w h;obtain⟨b,Q,C⟩:=G9 h hx;obtain⟨b',A,K,hh,ha⟩:=h.obs k _ W;rw[Q]at K;cases K;have hr:(SV.s s).rep (D9 (Mut S ob G) w) G (a.eval y):=U1 h hy Y;have g:=A94 hr;have q:(a.eval y).cells.size=n:=by rw[<-X,g.length];simp
 have R:o+n<=D.length:=by simpa using J
 have M:∀u∈(a.eval y).cells.toList,u.oneCell'=true:=by
  intro u C;have:∀(D:List TC) (A:List Value),All2 (TC.rep (D9 (Mut S ob G) w) G) D A->∀u∈A,u.oneCell'=true:=by
   intro D;induction D with
   | nil=>intro A h u C;cases A with | nil=>cases C | cons=>exact h.elim
   | cons t D ih =>
    intro A h u C;cases A with
    | nil=>exact h.elim
    | cons v A =>
     rcases B34.1 C with rfl | C
     ·exact TC.rep_one h.1
     ·exact ih A h.2 u C
  exact this _ _ g u C
 obtain⟨w',O,T,I,N,H,B,F⟩:=o6 (P:=P) (t:=t) (w:=w) (b:=b) (o:=o) (v:=a.eval y) (by rw[V,q]) hh M (by rw[q,<-ha.length];exact R);unfold Does;have he:(execOp a.eval ⟨none,.store t x y,ty,pos,af,gd⟩).run P w=.ok .skip w':=by
  simp[execOp,C,Instr.storeAt,Instr.sureAddr,O]
 rw[he];have E:blk (G k)=some b:=by rw[Q];rfl
 refine⟨G,h.write W E (fun i=>⟨E,trivial⟩) (fun i=>⟨E,trivial⟩) T I N (Nat.le_of_eq H.symm) (fun j _=>B j) ?_⟩;intro rd U;refine⟨b,_,Q,F,?_⟩;have Z:A.drop (o+(a.eval y).cells.size)=A.drop (o+s.cells.length):=by rw[q,X]
 unfold setTs;rw[Z];exact (((ha.take o).append g).append (ha.drop _)).mono fun _ _=>TC.rep_mono U
theorem xA{x:Operand}{t e:TypeId}{k o:Nat}{j:List TC}{s:TC}[ht:TyOne P t](y:opv fr x=some (.s (.one (.ref k o))))(q:B0 ob k=some (.tbx e j))(u:j[o]?=some s) :
  Neu P ⟨dst,.load t x,ty,pos,af,gd⟩ fr ob (fun A=>A=.s (.one s)) :=
 E1 fun S G a w h=>by
  obtain⟨b,m,v⟩:=G9 h y;obtain⟨B,C,c,p,ha⟩:=h.obs k _ q;rw[m]at c;cases c;obtain⟨z,g,i⟩:=ha.get o s u;refine⟨z,?_,i⟩;simp only[execOp,v];refine K2 ?_;simp[Instr.loadAt,Instr.sureAddr,R4 (ht:=ht) (L7 p (by simpa using g))]
theorem MI(k:Nat){e:TypeId}{z:Value}[hz:TyZero P e z](j:(H7 k fr&&J2 k ob)=true) :
  EffV P ⟨dst,.alloc e,ty,pos,af,gd⟩ fr ob (.s (.one (.ref k 0))) fr ((k,.tbx e (z.cells.toList.map fun c=>.p (.v c)))::ob):=by
 simp only[B24]at j;obtain⟨m,q⟩:=j;obtain⟨u,y,A⟩:=F7 q;intro S G a w h;refine H4 (w':=w.alloc (.cells z.cells e)) (v:=.pointer (some ⟨w.heap.size,0,none⟩)) ?_ ?_
 ·simp[execOp,Instr.alloc,newVar,newRow,O4 hz.out.1]
 ·have d:Below w.heap.size w (w.alloc (.cells z.cells e)):=(Below.refl _ _).alloc (B29 _) _;have B:∀b,blk (.pointer (some ⟨w.heap.size,0,none⟩))=some b->w.heap.size<=b:=by intro b hb;simp[blk]at hb;omega
  have g:=h.new (o:=.tbx e (z.cells.toList.map fun c=>.p (.v c))) A y d B ⟨w.heap.size,z.cells.toList,rfl,by rw[Array.toArray_toList];exact heap_alloc_new w _,Z5 _ hz.out.2⟩;rw[V4 m,u]at g;exact⟨upd G k (.pointer (some ⟨w.heap.size,0,none⟩)),g,⟨w.heap.size,H3 _ _ _,rfl⟩⟩
end
def dN(fr:Fr):Fr:=fr.map fun x=>(x.1+1000000,x.2)
theorem T8:∀(fr:Fr) (i:Nat) (s:SV),C7 (dN fr) i=some s->1000000<=i/\C7 fr (i-1000000)=some s
 | [],i,s,h=>by simp[dN,C7]at h
 | (j,x)::r,i,s,h=>by
  by_cases a:j+1000000=i
  ·subst a;simp only[dN,B50]at h;rw[C2]at h;cases h;exact⟨by omega,by rw[Nat.add_sub_cancel,C2]⟩
  ·simp only[dN,B50]at h;rw[B5 a]at h;obtain⟨b,c⟩:=T8 r i s h;exact⟨b,by rw[B5 (by omega)];exact c⟩
theorem kP{fr:Fr}:∀{i:Nat} {s:SV},C7 fr i=some s->C7 (dN fr) (i+1000000)=some s:=by
 induction fr with
 | nil=>intro i s h;simp[C7]at h
 | cons x r b =>
  obtain⟨j,y⟩:=x;intro i s h;by_cases a:j=i
  ·subst a;rw[C2]at h;cases h;simp only[dN,B50];rw[C2]
  ·rw[B5 a]at h;simp only[dN,B50];rw[B5 (by omega)];exact b h
theorem RU(k:Nat)(fr:Fr):Fr.forget k (dN fr)=dN (Fr.forget k fr):=by simp[dN,Fr.forget,Function.comp_def]
def cK:Nat->List S1->Fr
 | _,[]=>[]
 | i,p::ps=>(i,.s p)::cK (i+1) ps
theorem rP:∀(i:Nat) (ps:List S1) (k:Nat) (s:SV),C7 (cK i ps) k=some s->i<=k/\∃p,ps[k-i]?=some p/\s=.s p
 | i,[],k,s,h=>by simp[cK,C7]at h
 | i,p::ps,k,s,h=>by
  by_cases a:i=k
  ·subst a;simp only[cK,C2]at h;cases h;exact⟨B29 _,p,by simp,rfl⟩
  ·simp only[cK]at h;rw[B5 a]at h;obtain⟨d,q,b,c⟩:=rP (i+1) ps k s h;refine⟨by omega,q,?_,c⟩;have:k-i=(k-(i+1))+1:=by omega
   rw[this];simpa using b
theorem V6:∀(a b:Fr) (k:Nat),C7 (a++b) k=(C7 a k).orElse fun _=>C7 b k
 | [],b,k=>rfl
 | (i,s)::r,b,k=>by
  show C7 ((i,s)::(r++b)) k=_;by_cases h:i=k
  ·subst h;rw[C2,C2];rfl
  ·rw[B5 h,B5 h,V6 r b k]
def kQ:List S1->SV
 | [p]=>.s p
 | ps=>.tup ps
def bF(a:Rd)(G:Gh)(b:List S1)(v:Value):Prop:=(kQ b).rep a G v
def RetS(P:Program)(fn:Func)(fr:Fr)(ob:Obs)(b:List S1):Prop :=
 ∀S G a w,Sim P S fr ob G a w->∃v,(results fn a.tmps).run P w=.ok v w/\bF (D9 (Mut S ob G) w) G b v
def B2(ks:List Nat)(fr:Fr):Fr:=ks.foldl (fun f k=>Fr.forget k f) fr
theorem bG:∀{ks:List Nat} {fr:Fr} {i:Nat} {s:SV},C7 (B2 ks fr) i=some s->∃s0,C7 fr i=some s0
 | [],_,_,s,h=>⟨s,h⟩
 | k::ks,fr,i,s,h=>by
  obtain⟨s0,a⟩:=bG (ks:=ks) (fr:=Fr.forget k fr) h;rw[K5]at a;cases b:C7 fr i with
  | none=>rw[b]at a;cases a
  | some s1=>exact⟨s1,rfl⟩
theorem Z6:∀(a:List Nat) (fr:Fr),B2 a (dN fr)=dN (B2 a fr)
 | [],_=>rfl
 | k::a,fr=>by
  show B2 a (Fr.forget k (dN fr))=dN (B2 a (Fr.forget k fr));rw[RU,Z6 a]
def High(gf:Fr):Prop:=∀i s,C7 gf i=some s->1000000<=i
def Tail(gf fr:Fr):Prop:=∀i s,1000000<=i->C7 gf i=some s->C7 fr i=some s
theorem R0{gf:Fr}:Tail gf gf:=fun _ _ _ h=>h
theorem P0{gf fr:Fr}{j:Nat}{s:SV}(a:Nat.blt j 1000000=true)(h:Tail gf fr):Tail gf ((j,s)::fr):=fun i d c b=>by
 have a:j<1000000:=by simpa using a
 rw[B5 (by omega)];exact h i d c b
theorem aK(k:Nat){gf fr:Fr}(h:Tail gf fr):Tail (Fr.forget k gf) (Fr.forget k fr):=fun i s c b=>by
 rw[K5]at b ⊢;cases a:C7 gf i with
 | none=>rw[a]at b;cases b
 | some s0=>rw[a]at b;rw[h i s0 c a];exact b
def metP(P:Program)(fn:Func)(d:List Nat)(gf:Fr)(b:List S1->Obs->Prop):Post
 | .normal,fr,ob | .ret,fr,ob=>∃c ob',RetS P fn fr ob c/\Tail (B2 d gf) fr/\(∀k o,B0 ob' k=some o->B0 ob k=some o)/\b c ob'
 | _,_,_=>False
def Met(P:Program)(f:FuncId)(args:List S1)(gf:Fr)(ob:Obs)(ks:List Nat)(c:List S1->Obs->Prop):Prop :=
 Callable P f/\(High gf->∀S G a w (b:List Value),Sim P S gf ob G a w->All2 (S1.rep (D9 (Mut S ob G) w) G) args b ->
  Calls P f b.toArray w (fun e w'=>∃v g ob' G',e=.returned v/\c g ob'/\bF (D9 (Mut S ob' G') w') G' g v/\Sim P S (B2 ks gf) ob' G' a w'))
theorem Met.mono{f:FuncId}{args:List S1}{gf:Fr}{g:List Nat}{c b:List S1->Obs->Prop}(h:Met P f args gf ob g c)(p:∀rs ob,c rs ob->b rs ob):Met P f args gf ob g b :=
 ⟨h.1,fun l S G a w d q ha=>(h.2 l S G a w d q ha).mono fun e w' ⟨v,rs,ob',G',i,j,k⟩=>⟨v,rs,ob',G',i,p _ _ j,k⟩⟩
theorem Met.intro{f:FuncId}{fn:Func}{c:Code}{args:List S1}{gf:Fr}{N:List Nat}{y:List S1->Obs->Prop}(hf:P.funcs[f]?=some fn)(E:(fn.name == "runtime.NumGoroutine")=false)(hb:fn.body=some c)(J:Nat.ble args.length fn.ntmps=true)(Y:Nat.ble fn.ntmps 1000000=true)
  (h6:WpC P fn.ntmps c (cK 0 args++gf) ob (metP P fn N gf y)):Met P f args gf ob N y:=by
 refine⟨⟨fn,hf,E,by simp[hb]⟩,fun C S G a w j h B=>?_⟩;have ac:j.length=args.length:=B.length.symm;have ab:args.length<=fn.ntmps:=by simpa using J
 have X:fn.ntmps<=1000000:=by simpa using Y
 let S':Ctx:={ S with nt:=fn.ntmps,df:=[] }
 have hs:Sim P S' (cK 0 args++gf) ob G { tmps:=j.toArray++Array.replicate (fn.ntmps-j.toArray.size) undef,defers:=[] } w:=by
  refine { h with nt:=by simp[S'];omega,ntb:=X,defers:=rfl,facts:=?_ };intro i s q;rw[V6]at q;cases H:C7 (cK 0 args) i with
  | some s0 =>
   rw[H]at q;have q:some s0=some s:=q;cases q;obtain⟨_,p,hp,rfl⟩:=rP 0 args i _ H;obtain⟨u,hu,hr⟩:=B.get (i-0) p hp;have V:i<j.length:=(B28.1 hu).1;have I:(j.toArray++Array.replicate (fn.ntmps-j.toArray.size) undef).getD i undef=u:=by
    rw[B35,Array.getElem?_append_left (by simpa using V)];simpa using congrArg (fun x=>x.getD undef) hu
   rw[Ctx.sl_lt (by omega),I];exact hr
  | none =>
   rw[H]at q;have q:C7 gf i=some s:=q;have U:=C i s q;have F:=h.facts i s q;rw[Ctx.sl_ge U]at F ⊢;exact F
 refine bC hf hb (wp_mono (h6 S' _ _ w rfl hs) ?_);rintro e R w' ⟨fr',ob',G',hq,A⟩;have fin:(∃rs m,RetS P fn fr' ob' rs/\Tail (B2 N gf) fr'/\(∀k o,B0 m k=some o->B0 ob' k=some o)/\y rs m)->∀ds w',Sim P { S' with df:=ds } fr' ob' G' R w'->∃v,(results fn R.tmps).run P w'=.ok v w'/\(∃Q rs ob' G',Ending.returned v=.returned Q/\y rs ob'/\bF (D9 (Mut S ob' G') w') G' rs Q/\Sim P S (B2 N gf) ob' G' a w'):=by
  rintro⟨rs,m,hr,H,ho,hp⟩ ds w' A;obtain⟨v,hv,L⟩:=hr _ G' R w' A;have K:∀b i,Mut S' m G' b i->Mut S' ob' G' b i:=by
   rintro b i (W | ⟨k,o,hk,Z⟩)
   ·exact .inl W
   ·exact .inr ⟨k,o,ho k o hk,Z⟩
  have M:=(A.weaken (fr':=B2 N gf) (fun i s q=>by
   obtain⟨s0,T⟩:=bG q
   exact H i s (C i s0 T) q)).weakenO ho
  refine⟨v,hv,v,rs,m,G',rfl,hp,SV.rep_mono (fun b i z hz=>⟨hz.1,fun W=>hz.2 (K b i W)⟩) L,{ M with nt:=h.nt,ntb:=h.ntb,defers:=h.defers,facts:=fun i s q=>?_ }⟩;obtain⟨s0,T⟩:=bG q;have U:=C i s0 T;have F:=M.facts i s q;rw[Ctx.sl_ge U]at F ⊢;exact F
 cases e with
 | normal=>exact A.leave rfl (fin hq)
 | ret=>exact A.leave rfl (fin hq)
 | _=>exact hq.elim
theorem D7{fn:Func}{ks:List Nat}{gf:Fr}{a:List S1->Obs->Prop}{b:List S1}{ob':Obs}(h:RetS P fn fr ob b)(c:Tail (B2 ks gf) fr)(d:∀k o,B0 ob' k=some o->B0 ob k=some o)(f:a b ob'):metP P fn ks gf a .ret fr ob :=
 ⟨b,ob',h,c,d,f⟩
theorem Q0{fn:Func}{ks:List Nat}{gf:Fr}{b:List S1->Obs->Prop}{c:List S1}{ob':Obs}(h:RetS P fn fr ob c)(d:Tail (B2 ks gf) fr)(e:∀k o,B0 ob' k=some o->B0 ob k=some o)(f:b c ob'):metP P fn ks gf b .normal fr ob :=
 ⟨c,ob',h,d,e,f⟩
theorem fJ{fn:Func}(b:fn.results=#[]):RetS P fn fr ob []:=fun S G a w h=>⟨.tuple #[],by simp[results,b],[],rfl,trivial⟩
theorem rets1{fn:Func}{t:Tmp}{s:S1}(b:fn.results=#[.tmp t])(c:Z3 fr t=some (.s s)):RetS P fn fr ob [s] :=
 fun S G a w h=>⟨a.tmps.getD t undef,by simp[results,b],h.slot c⟩
theorem rets2{fn:Func}{t c:Tmp}{s d:S1}(f:fn.results=#[.tmp t,.tmp c])(g:Z3 fr t=some (.s s))(b:Z3 fr c=some (.s d)):RetS P fn fr ob [s,d] :=
 fun S G a w h=>⟨.tuple #[a.tmps.getD t undef,a.tmps.getD c undef],by simp[results,f],[_,_],rfl,h.slot g,h.slot b,trivial⟩
theorem rets3{fn:Func}{t g b:Tmp}{s i d:S1}(j:fn.results=#[.tmp t,.tmp g,.tmp b])(k:Z3 fr t=some (.s s))(f:Z3 fr g=some (.s i))(c:Z3 fr b=some (.s d)):RetS P fn fr ob [s,i,d] :=
 fun S G a w h=>⟨.tuple #[a.tmps.getD t undef,a.tmps.getD g undef,a.tmps.getD b undef],by simp[results,j],[_,_,_],rfl,h.slot k,h.slot f,h.slot c,trivial⟩
def r7(fr:Fr):List Operand->Option (List S1)
 | []=>some []
 | x::r=>match opv fr x with
  | some (.s s)=>match r7 fr r with
   | some ps=>some (s::ps)
   | none=>none
  | _=>none
theorem j2{S:Ctx}{G:Gh}{a:Act}{w:World}(h:Sim P S fr ob G a w):∀(b:List Operand) (ps:List S1),r7 fr b=some ps->b.all F9=true->All2 (S1.rep (D9 (Mut S ob G) w) G) ps (b.map a.eval)
 | [],ps,h1,_=>by simp[r7]at h1;subst h1;trivial
 | x::r,ps,h1,h2=>by
  simp only[List.all_cons,B24]at h2;unfold r7 at h1;split at h1
  ·rename_i s f;split at h1
   ·rename_i qs c;simp only[Option.some.injEq]at h1;subst h1;have d:(SV.s s).rep (D9 (Mut S ob G) w) G (a.eval x):=U1 h f h2.1;exact⟨d,j2 h r qs c h2.2⟩
   ·cases h1
  ·cases h1
theorem tE{f:FuncId}{m:List Operand}{H:Array TypeId}{ty:TypeId}{pos:String}{af:Array Edge}{args:List S1}{M:List Nat}{j:List S1->Obs->Prop}
  (R:Met P f args (dN fr) ob M j)(ha:r7 fr m=some args)(V:m.all F9=true)(W:Nat.blt d nt=true)
  (kk:∀z ob',j z ob'->WpL P nt ops rest ((d,kQ z)::B2 M fr) ob' Q):WpL P nt ops (⟨some d,.call ⟨.value (.func f),m.toArray,H⟩,ty,pos,af,none⟩::rest) fr ob Q:=by
 intro S G a w T h;have E:=j2 h m args ha V;obtain⟨F,I⟩:∃F:Nat->Value,F=fun i=>S.sl a (i-1000000):=⟨_,rfl⟩
 let S':Ctx:={ S with gv:=F }
 have C:High (dN fr):=fun i s J=>(T8 fr i s J).1;have b:∀i s,C7 (dN fr) i=some s->s.rep (D9 (Mut S' ob G) w) G (S'.sl a i):=by
  intro i s J;obtain⟨B,N⟩:=T8 fr i s J;rw[Ctx.sl_ge B];show s.rep _ _ (F i);have e:=congrFun I i;rw[e];exact h.facts (i-1000000) s N
 have hs:Sim P S' (dN fr) ob G a w:={ h with facts:=b }
 have p:=R.2 C S' G a w _ hs E;refine wpList_plain rfl fun K U=>J4 (K:=fun v w'=>∃z ob' G',j z ob'/\bF (D9 (Mut S' ob' G') w') G' z v/\Sim P S' (B2 M (dN fr)) ob' G' a w') ?_ ?_
 ·have X:(execOp a.eval ⟨some d,.call ⟨.value (.func f),m.toArray,H⟩,ty,pos,af,none⟩).run P w=.ok (.enter f (m.map a.eval).toArray) w:=by
   have:=J9 (P:=P) (f:=f) (args:=(m.map a.eval).toArray) (w:=w) R.1;have Y:m.toArray.map a.eval=(m.map a.eval).toArray:=by simp
   simp only[execOp,resolve,Act.eval,Deferred.ofValue,Sem.run_bind,Sem.run_pure,Result.andThen_ok,invoke];rw[show (#[]:Array Value)++Array.map a.eval m.toArray++#[]=(m.map a.eval).toArray by rw[<-Y];simp];exact this
  unfold Does;rw[X];refine p.mono ?_;rintro e w' ⟨v,z,ob',G',rfl,D,g,x⟩;exact⟨v,rfl,z,ob',G',D,g,x⟩
 ·rintro v w' ⟨z,ob',G',Z,g,x⟩;have O:d<S.nt:=by rw[T];simpa using W
  have q:∀i s,C7 (B2 M fr) i=some s->s.rep (D9 (Mut S ob' G') w') G' (S.sl a i):=by
   intro i s J;have B:=x.facts (i+1000000) s (by rw[Z6];exact kP J);have N:1000000<=i+1000000:=Nat.le_add_left _ _;rw[Ctx.sl_ge N]at B;have B:s.rep (D9 (Mut S ob' G') w') G' (F (i+1000000)):=B;have e:=congrFun I (i+1000000);simp only[Nat.add_sub_cancel]at e;rw[e]at B;exact B
  have L:Sim P S (B2 M fr) ob' G' a w':={ x with facts:=q }
  exact U _ _ (kk z ob' Z S G' _ w' T (L.put O g))
variable {gf:Fr}
theorem Grd.pow10{w:World}{j:Nat->Prop}(h:Grd P j w){g:Nat}(c:P.globalNamed "internal/strconv.uint64pow10"=some g):Lib.TabIs P w "internal/strconv.uint64pow10" .u64 Lib.pow10Tab:=by
 obtain⟨d,⟨_,i⟩,f,e⟩:=h;have a:=i g c;have b:g<d.heap.size:=by
  unfold Lib.TabIs World.var? at a;rw[c]at a;by_cases b:g<d.heap.size
  ·exact b
  ·rw[Option.bind_some,Array.getElem?_eq_none (by omega)]at a;cases a
 unfold Lib.TabIs World.var? at a ⊢;rw[c]at a ⊢;simp only[Option.bind_some]at a ⊢;rw[(e g b).1];exact a
theorem B11{f:FuncId}{a:List PV}{c:List PV->Prop}(k:Callable P f)
  (h:∀(w:World) (M:Nat->Nat->Prop) (g:List Value),Grd P (fun _=>False) w->(∀b i,M b i->b<w.heap.size)->All2 (PV.rep (D9 M w)) a g->Calls P f g.toArray w (fun e w'=>∃v j,e=.returned v/\c j/\ResRep (D9 M w') j v/\Below w.heap.size w w')):FnOk P f a c:=by
 unfold FnOk;exact⟨k,h⟩
theorem B02{f:FuncId}{xs:List Value}{r:Value}(g:Callable P f)(k:r.oneCell'=true)
  (h:∀w,Grd P (fun _=>False) w->Calls P f xs.toArray w (fun e w'=>e=.returned r/\Below w.heap.size w w')):FnOk P f (xs.map fun x=>.one (.v x)) (fun q=>q=[.one (.v r)]):=by
 refine B11 g fun w M a j y ha=>?_;have l:a=xs:=by
  clear h g;induction xs generalizing a with
  | nil=>cases a with
   | nil=>rfl
   | cons _ _=>exact ha.elim
  | cons x xs p=>cases a with
   | nil=>exact ha.elim
   | cons v s =>
    obtain⟨b,c⟩:=ha;rw[p s c,b.1]
 rw[l];refine (h w j).mono fun e w' i=>?_;obtain⟨b,c⟩:=i;exact⟨r,_,b,rfl,⟨rfl,k⟩,c⟩
theorem Met.copyCheck{f:FuncId}{k:Nat}{e:TypeId}{a t:TC}(W:Callable P f)
  (z:∀(b:Nat) (w:World),w.cell? ⟨b,0,none⟩=some (.pointer none)->w.shape? b=some (e,2)->w.frozen? ⟨b,0,none⟩=false ->
   Calls P f #[.pointer (some ⟨b,0,none⟩)] w fun x w'=>x=.returned (.tuple #[])/\w'=w.setCell ⟨b,0,none⟩ (.pointer (some ⟨b,0,none⟩)))
  (E:∀(b:Nat) (w:World),w.cell? ⟨b,0,none⟩=some (.pointer (some ⟨b,0,none⟩))->Calls P f #[.pointer (some ⟨b,0,none⟩)] w fun x w'=>x=.returned (.tuple #[])/\w'=w)
  (U:B0 ob k=some (.tbx e [a,t]))(ha:a=.p (.v (.pointer none))\/a=.ref k 0) :
  Met P f [.one (.ref k 0)] gf ob [] (fun Y ob'=>Y=[]/\ob'=(k,.tbx e [.ref k 0,t])::ob):=by
 refine⟨W,fun _ S G N w L V T=>?_⟩
 match L,T with
 | [u],T =>
  obtain⟨b,F,rfl⟩:∃b,G k=.pointer (some ⟨b,0,none⟩)/\u=.pointer (some ⟨b,0,none⟩):=T.1;obtain⟨b',Z,H,J,g⟩:=V.obs k _ U;rw[F]at H;cases H
  match Z,g with
  | [p,v],g =>
   have C:blk (G k)=some b:=by rw[F];rfl
   have h:w.cell? ⟨b,0,none⟩=some p:=L7 J rfl;have M:bF (D9 (Mut S ((k,.tbx e [.ref k 0,t])::ob) G) w) G [] (.tuple #[]):=⟨[],rfl,trivial⟩
   have done:∀w',(∀(K:w'.os=w.os) (y:w'.tape=w.tape) (B:w'.output=w.output) (q:w'.heap.size=w.heap.size),(∀j,j≠b->w'.heap[j]?=w.heap[j]?)->w'.heap[b]?=some (.cells #[.pointer (some ⟨b,0,none⟩),v] e (0,0)) ->
     Sim P S gf ((k,.tbx e [.ref k 0,t])::ob) G N w'):=by
    intro w' K y B q A D;refine V.write U C (fun i=>⟨C,trivial⟩) (fun i=>⟨C,trivial⟩) K y B (Nat.le_of_eq q.symm) (fun j _=>A j) fun rd R=>?_;exact⟨b,[.pointer (some ⟨b,0,none⟩),v],F,D,⟨b,F,rfl⟩,TC.rep_mono R g.2.1,trivial⟩
   rcases ha with rfl | rfl
   ·obtain⟨rfl,_⟩:p=.pointer none/\_:=g.1;refine (z b w h ?_ ?_).mono fun x w' Q=>?_
    ·unfold World.shape?;rw[J];rfl
    ·unfold World.frozen?;rw[J];rfl
    ·obtain⟨rfl,rfl⟩:=Q;refine⟨_,[],_,G,rfl,⟨rfl,rfl⟩,⟨[],rfl,trivial⟩,?_⟩;refine done _ A0 A0 A0 (by simp[World.setCell]) (fun j X=>heap_setCell_other w _ j _ X) ?_;rw[heap_setCell_same w b 0 _ e _ J];rfl
   ·obtain⟨O,I,rfl⟩:∃O,G k=.pointer (some ⟨O,0,none⟩)/\p=.pointer (some ⟨O,0,none⟩):=g.1;rw[F]at I;cases I;refine (E b w h).mono fun x w' Q=>?_;obtain⟨rfl,rfl⟩:=Q;exact⟨_,[],_,G,rfl,⟨rfl,rfl⟩,⟨[],rfl,trivial⟩,done w' rfl rfl rfl rfl (fun _ _=>rfl) J⟩
def SV.flat:SV->SV
 | .s (.one (.p (.v x)))=>.s (.one (.p (.v x)))
 | .un=>.un
 | _=>.any
theorem B16{b a:Rd}{G G':Gh}{s:SV}{u:Value}(h:s.rep b G u):s.flat.rep a G' u:=by
 unfold SV.flat
 split
 ·exact h
 ·exact h
 ·trivial
def MJ(fr:Fr):Fr:=fr.map fun x=>(x.1,x.2.flat)
theorem FW:∀(fr:Fr) (i:Nat),C7 (MJ fr) i=(C7 fr i).map SV.flat
 | [],i=>rfl
 | (j,s)::r,i=>by
  by_cases h:j=i
  ·subst h;simp[MJ,C7]
  ·have b:=FW r i;simp only[MJ,B50]at b ⊢;rw[B5 h,B5 h,b]
theorem FX{f:FuncId}{x:Operand}{J:Array TypeId}{ty:TypeId}{pos:String}{af:Array Edge}{k k':Nat}{e eb:TypeId}{a:TC}{xs:List UInt8}(W:Callable P f)
  (hf:∀(B b:Nat) (l:List UInt8) (w:World),Lib.IsBuilder e eb B b (Lib.byteCells l) w->B<=w.heap.size->Calls P f #[.pointer (some ⟨b,0,none⟩)] w fun x w'=>x=.returned (.string ⟨l.toArray⟩)/\Below B w w')
  (hx:opv fr x=some (.s (.one (.ref k 0))))(D:B0 ob k=some (.tbx e [a,.buf k' UInt8 1 RN xs]))(X:B0 ob k'=some (.spare xs.length 1 eb))(hkl:Nat.blt k 1000000=true)(Y:Nat.beq k k'=false)
  (ha:a=.p (.v (.pointer none))\/a=.ref k 0)(hd:Nat.blt d nt=true)
  (kk:WpL P nt ops rest ((d,T0 xs)::MJ fr) [] Q):WpL P nt ops (⟨some d,.call ⟨.value (.func f),#[x],J⟩,ty,pos,af,none⟩::rest) fr ob Q:=by
 intro S G H w hn h;obtain⟨b,hG,aj⟩:=G9 h hx;obtain⟨b',vs,O,hh,q⟩:=h.obs k _ D;rw[hG]at O;cases O;have T:blk (G k)=some b:=by rw[hG];rfl
 match vs,q with
 | [p,v],q =>
  obtain⟨hv,y⟩:v=G k'/\(Cell.list UInt8 1 RN xs).rep (D9 (Mut S ob G) w) v:=q.2.1;subst hv;obtain⟨ws,m⟩:=h.obs k' _ X;have M:S.B<=b:=by
   rcases h.old k _ b D T with L | L
   ·exact L
   ·have:k<1000000:=by simpa using hkl
    omega
  have E:(G k').ownBlock≠some b:=by
   rw[bA (t7 m)];intro he;have:=h.dis k k' _ _ b D X T he;rw[this]at Y;simp at Y
  have ak:ws=Lib.byteCells xs:=by
   obtain⟨ar,an,ax,aw,ad,au,ap,ai,aq,ao⟩:=m7 y;refine List.ext_getElem (by rw[m.1,Lib.byteCells_length];omega) fun j L h2=>?_;have hj:j<xs.length:=by rw[m.1]at L;omega
   rcases m.2 with ⟨_,av⟩ | ⟨g,cap',cur,hgv,_⟩
   ·omega
   ·have V:=m.cells (g:=g) (by rw[hgv];rfl) j ws[j] (by simp[L]);rw[Addr.add_lit,B70]at V;have ag:SliceAt (D9 (Mut S ob G) w) 1 xs.length (fun i j z=>∃h:i<xs.length,(RN xs[i] j).rep (D9 (Mut S ob G) w) z) (G k'):=by simpa only[Cell.rep] using y
    obtain⟨a2,c2,Z,_,_,C⟩:=ag;rcases C with h0 | ⟨b2,o2,ha2,hr2⟩
    ·omega
    ·rw[hgv]at Z;injection Z with e1 e2 e3
     rw[ha2]at e1;injection e1 with e1
     injection e1 with e4 e5 e6
     obtain⟨z,al,_,am⟩:=hr2 j hj 0 (by omega);have ac:=al.1;rw[<-e4,<-e5,show 0+j*1+0=j by omega,V]at ac;obtain⟨rfl,_⟩:=am;have:ws[j]=.int .u8 xs[j].toNat:=by simpa using ac
     rw[this];simp[Lib.byteCells]
  rw[ak]at m;have F:(Lib.byteCells xs).length=xs.length:=Lib.byteCells_length xs;have U:Lib.IsBuilder e eb S.B b (Lib.byteCells xs) w:=by
   rcases ha with rfl | rfl
   ·obtain⟨rfl,_⟩:p=.pointer none/\_:=q.1;exact .inl ⟨M,G k',hh,by rw[F];exact m,E⟩
   ·obtain⟨b2,R,rfl⟩:∃b2,G k=.pointer (some ⟨b2,0,none⟩)/\p=.pointer (some ⟨b2,0,none⟩):=q.1;rw[hG]at R;cases R;exact .inr ⟨M,G k',hh,by rw[F];exact m,E⟩
  have A:=hf S.B b xs w U h.size;refine wpList_plain rfl fun K hK=>J4 (K:=fun v w'=>v=.string ⟨xs.toArray⟩/\Below S.B w w') ?_ ?_
  ·have he:(execOp H.eval ⟨some d,.call ⟨.value (.func f),#[x],J⟩,ty,pos,af,none⟩).run P w=.ok (.enter f #[.pointer (some ⟨b,0,none⟩)]) w:=by
    have:=J9 (P:=P) (f:=f) (args:=#[.pointer (some ⟨b,0,none⟩)]) (w:=w) W;simp only[execOp,resolve,Act.eval,Deferred.ofValue,Sem.run_bind,Sem.run_pure,Result.andThen_ok,invoke];rw[show (#[]:Array Value)++Array.map H.eval #[x]++#[]=#[.pointer (some ⟨b,0,none⟩)] by simp[aj]];exact this
   unfold Does;rw[he];refine A.mono ?_;rintro e w' ⟨rfl,hb⟩;exact⟨_,rfl,rfl,hb⟩
  ·rintro v w' ⟨rfl,hb⟩;have ah:d<S.nt:=by rw[hn];simpa using hd
   have ab:Sim P S (MJ fr) [] G H w':={
    nt:=h.nt,ntb:=h.ntb,defers:=h.defers,os:=hb.os.trans h.os,tape:=hb.tape.trans h.tape,output:=hb.output.trans h.output,size:=B72 h.size hb.size,
    keep:=fun j hj ae=>(hb.block j hj).trans (h.keep j hj ae),m0:=h.m0,m0io:=h.m0io,grd:=h.grd,pin:=h.pin,
    old:=fun k o b D=>(by simp[B0]at D),dis:=fun k k' o o' b D=>(by simp[B0]at D),obs:=fun k o D=>(by simp[B0]at D),
    facts:=fun i s I=>(by
     rw[FW]at I;cases hg:C7 fr i with
     | none=>rw[hg]at I;cases I
     | some s0 =>
      rw[hg]at I;have I:some s0.flat=some s:=I;cases I
      exact B16 (h.facts i s0 hg)) }
   exact hK _ _ (kk S G _ w' hn (ab.put ah ⟨rfl,rfl⟩))
theorem qM{dst:Option Tmp}{ty:TypeId}{pos:String}{af:Array Edge}{gd:Option (Nat×Bool)}{x:Operand}{b t:TypeId}{l:IntKind}{k:IntKind}{c:UInt8}[hs:TyInt P b l][hd:TyStr P t](j:opv fr x=some (H6 (.int k c.toNat)))(d:c.toNat<128) :
  Neu P ⟨dst,.convert b t x,ty,pos,af,gd⟩ fr ob (fun m=>m=T0 [c]) :=
 E1 fun S G a w h=>by
  refine⟨.string ⟨#[c]⟩,?_,rfl,rfl⟩;simp only[execOp,E9 h j];refine K2 ?_;have f:Utf8.valid (c.toNat:Int)=true:=by
   unfold Utf8.valid;simp;omega
  simp[convert,run_underlying hs.out,run_underlying hd.out,Conv.intToString,Utf8.encode,f,d]
theorem B06(k:Nat)(α:Type)(g:Nat)(c:α->Nat->Cell)(e:TypeId){kb o:Nat}{T:TypeId}{A:List TC}(hb:B0 ob kb=some (.tbx T A))(H:A[o]?=some (.p (.v (.slice none 0 0))))(K:(H7 k fr&&J2 k ob)=true) :
  Sees P nt fr ob fr ((kb,.tbx T (A.set o (.buf k α g c [])))::(k,.spare 0 g e)::ob):=by
 simp only[B24]at K;obtain⟨M,N⟩:=K;obtain⟨O,B,U⟩:=F7 N;intro S G a w X h;have C:=h.new U (o:=.spare 0 g e) (u:=.slice none 0 0) (w1:=w) B (Below.refl _ _) (fun b hb=>by simp[blk]at hb) ⟨[],World.ownsRow_nil w _ _ _⟩;rw[V4 M,O]at C;have F:k≠kb:=fun Q=>by rw[Q,hb]at B;cases B
 have n:B0 ((k,Ob.spare 0 g e)::ob) kb=some (.tbx T A):=by rw[A7 F];exact hb
 obtain⟨b,Z,R,W,ha⟩:=C.obs kb _ n;have d:blk (upd G k (.slice none 0 0) kb)=some b:=by rw[R];rfl
 refine⟨_,C.retell n d (fun i=>⟨d,trivial⟩) (fun i=>⟨d,trivial⟩) ?_⟩;rintro Y ⟨L,J,D,E,j⟩;refine⟨L,J,D,E,A97 o (fun z V=>?_) j⟩;obtain⟨z',q,I⟩:=j.get o _ H;rw[V]at q;cases q;rw[I.1];exact⟨(H3 _ _ _).symm,X9 α g c⟩
section
variable {P:Program}{dst:Option Tmp}{ty:TypeId}{pos:String}{af:Array Edge}{gd:Option (Nat×Bool)}{fr:Fr}{ob:Obs}{nt:Nat}
theorem nE{w:World}{B:Nat}{e:TypeId}{a n:Nat}{v:Value}{b:List Value}(h:w.ownsRow B e a v n b):v.oneCell'=true:=by
 rcases h.2 with ⟨rfl,_⟩ | ⟨g,cap,cur,rfl,_⟩<;>rfl
theorem MK(k:Nat)(α:Type)(c:α->Nat->Cell){t e:TypeId}{f d:Nat}[ht:TySl P t e f d](p:(H7 k fr&&J2 k ob)=true) :
  EffV P ⟨dst,.assign (.const (.slice none 0 0)),t,pos,af,gd⟩ fr ob (.s (.one (.mut k))) fr ((k,.grow e α f c [])::ob):=by
 simp only[B24]at p;obtain⟨q,x⟩:=p;obtain⟨z,A,C⟩:=F7 x;intro S G a w h;refine H4 (w':=w) (v:=.slice none 0 0) A0 ?_;have j:=h.new C (o:=.grow e α f c []) (u:=.slice none 0 0) (w1:=w) A (Below.refl _ _) (fun b hb=>by simp[blk]at hb) ⟨[],World.ownsRow_nil w _ _ _,by simp,fun i B=>absurd B (by simp)⟩;rw[V4 q,z]at j;exact⟨upd G k (.slice none 0 0),j,(H3 _ _ _).symm,rfl⟩
theorem JE{x:Operand}{t e v:TypeId}{y d k z:Nat}{α:Type}{c:α->Nat->Cell}{q:List α}(C:opv fr x=some (.s (.one (.mut k))))(B:B0 ob k=some (.grow v α z c q))[ht:TySl P t e y d] :
  Neu P ⟨dst,.call ⟨.builtin .len,#[x],#[t]⟩,ty,pos,af,gd⟩ fr ob (fun D=>D=B1 q.length) :=
 E1 fun S G a w h=>by
  refine⟨.int .i64 q.length,?_,rfl,rfl⟩;obtain⟨j,_⟩:=G9 h C;obtain⟨E,f,_⟩:=h.obs k _ B;rcases f.2 with ⟨p,A⟩ | ⟨g,cap,cur,p,_⟩
  ·rw[p]at j;simp[execOp,resolve,invoke,builtin,j,Builtin.len_,run_underlying ht.out.1,goInt,A]
  ·rw[p]at j;simp[execOp,resolve,invoke,builtin,j,Builtin.len_,run_underlying ht.out.1,goInt]
theorem G3{x y:Operand}{t e B:TypeId}{l b k:Nat}{α:Type}{c:α->Nat->Cell}{q:List α}{I:IntKind}{i:Int}[ht:TySl P t e l b](F:opv fr x=some (.s (.one (.mut k))))(E:B0 ob k=some (.grow B α l c q))
  (H:opv fr y=some (H6 (.int I i)))(C:0<=i)(D:i<q.length):Neu P ⟨dst,.indexAddr t x y,ty,pos,af,gd⟩ fr ob (fun J=>J=.s (.one (.mref k l i.toNat 0))) :=
 E1 fun S G a w h=>by
  obtain⟨z,_⟩:=G9 h F;obtain⟨L,j,_⟩:=h.obs k _ E;rcases j.2 with ⟨v,K⟩ | ⟨g,cap,cur,v,_⟩
  ·omega
  ·rw[v]at z;refine⟨.pointer (some ⟨g,i.toNat*l,none⟩),?_,g,q.length,cap,v,rfl⟩;simp only[execOp,z,E9 h H];refine K2 ?_;have hb:0<=i/\i<(q.length:Int):=⟨C,D⟩
   simp[Instr.indexAt,run_underlying ht.out.1,asIntOf,hb,I7 ht.size,Addr.add_lit]
theorem o8{t e:TypeId}{x A:Operand}{k i o n:Nat}{α:Type}{d:Nat}{c:α->Nat->Cell}{C:List α}{v:α}(y:α){s:S1}(ar:(P.info? t).map (·.size)=some n)(hx:opv fr x=some (.s (.one (.mref k d i o))))(hk:B0 ob k=some (.grow e α d c C))
  (hv:C[i]?=some v)(hy:opv fr A=some (.s s))(Z:F9 A=true)(hn:s.cells.length=n)(ho:Nat.ble (o+n) d=true)
  (ag:∀(rd:Rd) G (us:List Value),All2 (TC.rep rd G) s.cells us->All2 (Cell.rep rd) (cellsOf c y o n) us)(ah:∀j,j<d->(j<o\/o+n<=j)->c y j=c v j) :
  Eff P ⟨none,.store t x A,ty,pos,af,gd⟩ fr ob fr ((k,.grow e α d c (C.set i y))::ob):=by
 intro S G a w h;obtain⟨b,m,al,hg,hu⟩:=G9 h hx;obtain⟨vs,O,ae,hc⟩:=h.obs k _ hk;obtain⟨ao,av⟩:=B28.1 hv;have hl:=O.1;rcases O.2 with ⟨aw,h2⟩ | ⟨b',cap',cur,hg',hB,hh,hcap,hmax,hcs,htake⟩
 ·omega
 rw[hg]at hg';cases hg';have hr:(SV.s s).rep (D9 (Mut S ob G) w) G (a.eval A):=U1 h hy Z;have q:=A94 hr;have D:(a.eval A).cells.size=n:=by rw[<-hn,q.length];simp
 have az:o+n<=d:=by simpa using ho
 have ax:i*d+d<=C.length*d:=by
  have:(i+1)*d<=C.length*d:=B56 _ ao;rw[B73,Nat.one_mul]at this;omega
 have ay:C.length*d<=cur.size:=by rw[hcs];exact B56 _ hcap
 have am:w.heap[b]?=some (.cells cur.toList.toArray e (0,0)):=by rw[Array.toArray_toList];exact hh
 obtain⟨w',ak,aq,Y,ai,X,K,T⟩:=o6 (P:=P) (t:=t) (w:=w) (b:=b) (o:=i*d+o) (v:=a.eval A) (by rw[ar,D]) am (pD q) (by rw[D];simp;omega);unfold Does;have he:(execOp a.eval ⟨none,.store t x A,ty,pos,af,gd⟩).run P w=.ok .skip w':=by
  simp[execOp,hu,Instr.storeAt,Instr.sureAddr,ak]
 rw[he];have Q:blk (G k)=some b:=by rw[hg];rfl
 refine⟨G,h.write hk Q (fun i=>⟨Q,trivial⟩) (fun i=>⟨Q,trivial⟩) aq Y ai (Nat.le_of_eq X.symm) (fun j _=>K j) ?_⟩;intro rd W;have au:(a.eval A).cells.toList.length=n:=by simpa using D
 have I:(cur.toList.take (i*d+o)).length=i*d+o:=by simp;omega
 have J:(cur.toList.take (i*d+o)++(a.eval A).cells.toList).length=i*d+o+n:=by rw[B25,I,au]
 have ad:(cur.toList.take (i*d+o)++(a.eval A).cells.toList++cur.toList.drop (i*d+o+(a.eval A).cells.size)).length=cur.size:=by
  rw[B25,J,B47,D];simp;omega
 refine⟨(cur.toList.take (i*d+o)++(a.eval A).cells.toList++cur.toList.drop (i*d+o+(a.eval A).cells.size)).take (C.length*d),⟨by simp only[B42,ad,B76];omega,.inr ⟨b,al,_,by rw[hg];simp,hB,T,by simpa using hcap,hmax,by simp only[List.size_toArray];rw[ad,hcs],by simp⟩⟩,by simpa using ae,?_⟩;intro p hp j hj;have U:p<C.length:=by simpa using hp
 have aj:p*d+j<C.length*d:=by
  have:(p+1)*d<=C.length*d:=B56 _ U;rw[B73,Nat.one_mul]at this;omega
 rw[B78 aj];have ab:vs[p*d+j]?=cur[p*d+j]?:=by rw[<-htake,B78 aj];simp
 have E:(p*d+j<i*d+o\/i*d+o+n<=p*d+j)->(cur.toList.take (i*d+o)++(a.eval A).cells.toList++cur.toList.drop (i*d+o+(a.eval A).cells.size))[p*d+j]?=vs[p*d+j]?:=by
  intro R;rw[ab];rcases R with M | M
  ·rw[B51,B59 (by rw[I];exact M),B78 M];simp
  ·rw[B61 (by rw[J];exact M),J,B85,D];have:i*d+o+n+(p*d+j-(i*d+o+n))=p*d+j:=by omega
   rw[this];simp
 by_cases V:p=i
 ·subst V;have F:(C.set p y)[p]'hp=y:=by simp
  rw[F];by_cases an:j<o\/o+n<=j
  ·rw[E (by omega),ah j hj an];obtain⟨z,H,B⟩:=hc p U j hj;rw[av]at B;exact⟨z,H,Cell.rep_mono W _ _ B⟩
  ·have ap:=ag _ _ _ q;have ac:(cellsOf c y o n)[j-o]?=some (c y j):=by
    have N:j-o<(cellsOf c y o n).length:=by rw[K3];omega
    rw[B23 N];have:=V3 c y n o (j-o) _ (B23 N);rw[this.1];congr 2;omega
   obtain⟨z,H,B⟩:=ap.get _ _ ac;refine⟨z,?_,Cell.rep_mono W _ _ B⟩;rw[B59 (by rw[J];omega),B61 (by rw[I];omega),I];have:p*d+j-(p*d+o)=j-o:=by omega
   rw[this];exact H
 ·have F:(C.set i y)[p]'hp=C[p]:=by rw[List.getElem_set_ne (Ne.symm V)]
  rw[F,E (by
   rcases Nat.lt_or_gt_of_ne V with M | M
   ·left;have:(p+1)*d<=i*d:=B56 _ M;rw[B73,Nat.one_mul]at this;omega
   ·right;have:(i+1)*d<=p*d:=B56 _ M
    rw[B73,Nat.one_mul]at this;omega)]
  obtain⟨z,H,B⟩:=hc p U j hj;exact⟨z,H,Cell.rep_mono W _ _ B⟩
theorem R5{x y:Operand}{k:Nat}{α:Type}{E L:Nat}{c:α->Nat->Cell}{F ys:List α}{t e:TypeId}{s:SV}[ht:TySl P t e E L](hx:opv fr x=some (.s (.one (.mut k))))(hk:B0 ob k=some (.grow e α E c F))
  (hy:opv fr y=some s)(hl:IsList s α E c ys)(Q:F.length+ys.length<=1073741824)(hp:Nat.blt k 1000000=true) :
  EffV P ⟨dst,.call ⟨.builtin .append,#[x,y],#[t,t]⟩,ty,pos,af,gd⟩ fr ob (.s (.one (.mut k))) (Fr.forget k fr) ((k,.grow e α E c (F++ys))::Obs.forget k ob):=by
 intro S G a w h;have am:=ht.out.2.2.1;obtain⟨ah,_⟩:=G9 h hx;have ag:=m6 h hy hl;obtain⟨ad,ac,vs,ai,J,ao,X,R,aj,U⟩:=m7 ag;obtain⟨ws,q,_,ak⟩:=h.obs k _ hk;obtain⟨v',w',V,D,f,C,ab⟩:=qJ (P:=P) (ty:=ty) S.B ht q h.size (u:=a.eval y) (ad:=ad) (m:=ys.length) (c:=ac) (news:=vs) ai J.2 J.1 X
  (fun b o hb j z hz=>by
   rcases U with h0 | ⟨b',o',A,T⟩
   ·have Y:vs=[]:=B67 (by rw[X,h0];simp);rw[Y]at hz;simp at hz
   ·rw[hb]at A;injection A with A;injection A with e1 e2;subst e1;subst e2
    exact (T j z hz).1)
  (U.imp id fun ⟨b',o',A,_⟩=>⟨b',o',A⟩) R Q
 have O:(G k).ownBlock=blk (G k):=bA (t7 q);have M:∀b i z,D9 (Mut S ob G) w b i z->w'.cell? ⟨b,i,none⟩=some z:=by
  intro b i z T;have H:b<w.heap.size:=World.block_lt_of_cell? w _ T.1;by_cases hb:blk (G k)=some b
  ·exact absurd (Or.inr ⟨k,_,hk,hb,trivial⟩) T.2
  ·rw[World.cell?_of_block (w:=w) (a:=⟨b,i,none⟩) (f.block b H (by rw[O];exact fun e=>hb e.symm))];exact T.1
 have W:=h.turn (o':=.grow e α E c (F++ys)) (u':=v') (by simpa using hp) hk f.os f.tape f.output f.size (fun j Z hb=>f.block j Z (by rw[O];exact fun e=>hb e.symm)) M C
  (by
   intro b i hb ho;rcases C b ho.1 with h1 | h1
   ·exact⟨h1,trivial⟩
   ·omega)
  (fun rd K G' al=>by
   refine⟨_,by rw[B25];exact D,by rw[B25];omega,?_⟩;intro i hi j Z;by_cases H:i<F.length
   ·obtain⟨z,I,N⟩:=ak i H j Z;refine⟨z,?_,?_⟩
    ·rw[B59 (B28.1 I).1];exact I
    ·rw[B95 H];exact Cell.rep_mono K _ _ N
   ·have ae:i-F.length<ys.length:=by simp at hi;omega
    obtain⟨z,I,N⟩:=aj (i-F.length) ae j Z;refine⟨z,?_,?_⟩
    ·have an:F.length*E<=i*E:=B56 _ (by omega);rw[B61 (by rw[q.1];omega),q.1];have:i*E+j-F.length*E=(i-F.length)*E+j:=by rw[Nat.sub_mul];omega
     rw[this];exact I
    ·rw[B96 (by omega)];exact Cell.rep_mono K _ _ N)
 exact H4 (w':=w') (v:=v') (by simp[execOp,resolve,invoke,builtin,ah,V]) ⟨upd G k v',W,(H3 _ _ _).symm,nE D⟩
theorem B14{t:Nat}{k:Nat}{e:TypeId}{α:Type}{K:Nat}{c:α->Nat->Cell}{O:List α}(ht:C7 fr t=some (.s (.one (.mut k))))(T:B0 ob k=some (.grow e α K c O))(X:Nat.blt 0 K=true) :
  Sees P nt fr ob ((t,.s (.one (.buf k α K c O)))::fr) ((k,.spare O.length K e)::ob):=by
 intro S G a w hn h;obtain⟨vs,A,M,ab⟩:=h.obs k _ T;have y:∀v C,B0 ((k,Ob.spare O.length K e)::ob) v=some C->∃L,B0 ob v=some L/\∀u b i,Own u C b i->Own u L b i:=by
  intro v C d;by_cases q:v=k
  ·subst q;exact⟨_,T,fun u b i Z=>⟨Z.1,trivial⟩⟩
  ·rw[A7 (Ne.symm q)]at d;exact⟨_,d,fun _ _ _ Z=>Z⟩
 have J:∀b i z,D9 (Mut S ob G) w b i z->D9 (Mut S ((k,Ob.spare O.length K e)::ob) G) w b i z:=by
  intro b i z hr;refine⟨hr.1,fun I=>hr.2 ?_⟩;rcases I with I | ⟨v,C,d,hb⟩
  ·exact .inl I
  ·obtain⟨L,U,D⟩:=y v C d;exact .inr ⟨v,L,U,D _ _ _ hb⟩
 refine⟨G,{ h with old:=?_,dis:=?_,obs:=?_,facts:=?_ }⟩
 ·intro v C b d hb;obtain⟨L,U,_⟩:=y v C d;exact h.old v L b U hb
 ·intro k1 k2 C o2 b Q R E F;obtain⟨oa,ha,_⟩:=y k1 C Q;obtain⟨ob',V,_⟩:=y k2 o2 R;exact h.dis k1 k2 oa ob' b ha V E F
 ·intro v C d;by_cases q:v=k
  ·subst q;rw[B4]at d;cases d;exact⟨vs,A⟩
  ·rw[A7 (Ne.symm q)]at d;exact (h.obs v C d).ext J (Below.refl _ _)
 ·intro i s D;by_cases N:t=i
  ·subst N;rw[C2]at D;cases D;have hu:=(h.facts t _ ht).1;refine⟨hu,?_⟩;rw[hu];refine bB A (by simpa using X) M ?_ (fun i D j hj=>let ⟨z,Q,R⟩:=ab i D j hj;⟨z,Q,Cell.rep_mono J _ _ R⟩);intro g Y j z hj H;refine⟨H,fun I=>?_⟩;have W:(G k).ownBlock=blk (G k):=bA (t7 A);rcases I with I | ⟨v,o',d,E,F⟩
   ·have Q:=h.m0 g j I;have R:=(A.lt g (by rw[W];exact Y)).1;rcases h.old k _ g T Y with h3 | h3<;>omega
   ·by_cases q:v=k
    ·subst q;rw[B4]at d;cases d;simp only at F;omega
    ·rw[A7 (Ne.symm q)]at d;exact q (h.dis v k o' _ g d T E Y)
  ·rw[B5 N]at D;exact SV.rep_mono J (h.facts i s D)
end
def tn(T j:Nat)(o:Oper):Bool:=Nat.beq j T||turns o.op
def StepT(P:Program)(nt:Nat)(ops:Array Oper)(T i:Nat)(φ:Fa)(ob:Obs)(K:Fa->Obs->Prop):Prop :=
 ∃o,ops[i]?=some o/\cond (tn T i o) (qL P nt ops o φ ob K) (∃s d,o.dst=some d/\YieldsN P nt ops o φ ob s/\K (Z4 φ d s) ob)
def mQ(P:Program)(nt:Nat)(ops:Array Oper)(T:Nat)(K:Fa->Obs->Prop):Nat->Array Bool->Fa->Obs->Prop
 | 0,listed,φ,ob=>Region.ready .any ops listed=[]/\K φ ob
 | fuel+1,listed,φ,ob=>(Region.ready .any ops listed=[]->K φ ob)/\∀i∈Region.ready .any ops listed,StepT P nt ops T i φ ob (mQ P nt ops T K fuel (listed.setIfInBounds i true))
theorem fK{T:Nat}{K:Fa->Obs->Prop}{S:Ctx}{Q:Exit->Act->World->Prop}(q:S.nt=nt)(g:∀(j t:Nat),(ops[j]?).bind (fun o=>o.dst)=some t->t<nt)(x:∀φ ob G a w,K φ ob->SimF P S φ ob G a w->Q .normal a w) :
  ∀(e:Nat) (f:Array Bool) (φ:Fa) (ob:Obs) (G:Gh) (a:Act) (w:World),mQ P nt ops T K e f φ ob->SimF P S φ ob G a w->wpAny P .any ops Q e f a w
 | 0,_,φ,ob,G,a,w,h,hs=>⟨h.1,x φ ob G a w h.2 hs⟩
 | e+1,f,φ,ob,G,a,w,h,hs=>by
  refine⟨fun L=>x φ ob G a w (h.1 L) hs,fun i E=>?_⟩;obtain⟨o,N,c⟩:=h.2 i E;unfold wpOp;simp only[N];cases I:tn T i o with
  | true =>
   rw[I]at c;obtain⟨M,c⟩:=c;rw[A5 (by simp[Region.wanted,M])];refine .inl (J4 (c S G a w q hs) ?_);rintro v w' ⟨V,ob',G',k,F⟩;exact fK q g x e _ V ob' G' _ w' k F
  | false =>
   rw[I]at c;obtain⟨s,d,C,⟨W,z,A,U⟩,k⟩:=c;rw[C]at z;cases z;rcases U with ⟨H,J,D,B⟩ | ⟨H,rfl⟩
   ·rw[cJ q hs H g,A5 rfl];refine .inl (J4 (B S G a w (hs.sub fun i s E=>(D i s E).1)) ?_);rintro v w' ⟨R,X,rfl,O⟩;rw[C];exact fK q g x e _ _ ob G _ w' k ((hs.ext R).put (by rw[q];exact A) O)
   ·rw[cJ q hs H g,A6 (by simp),C];exact fK q g x e _ _ ob G _ w k (hs.put (by rw[q];exact A) rfl)
theorem K4{b:Array Bool}{i:Nat}(e:i∈Region.ready .any ops b):b.getD i false=false:=by
 have c:=(mem_ready.1 e).1;simp only[B35]at c ⊢;rcases Nat.lt_or_ge i b.size with d | d
 ·rw[Array.getElem?_eq_getElem d]at c ⊢;simpa using c
 ·rw[Array.getElem?_eq_none d]at c;simp at c
theorem zC{T:Nat}{K:Fa->Obs->Prop}:∀(c:Nat) (b:Array Bool) (φ:Fa) (ob:Obs),b.getD T false=true->yR P nt ops K c b φ ob->mQ P nt ops T K c b φ ob
 | 0,_,_,_,_,h=>h
 | c+1,b,φ,ob,hT,h=>by
  refine⟨h.1,fun i A=>?_⟩;obtain⟨o,F,j⟩:=h.2 i A;have q:i≠T:=fun e=>by subst e;have:=K4 A;rw[hT]at this;cases this
  have k:(b.setIfInBounds i true).getD T false=true:=by
   simp only[B35]at hT ⊢
   rwa[Array.getElem?_setIfInBounds_ne q]
  refine⟨o,F,?_⟩;have I:tn T i o=turns o.op:=by unfold tn;rw[P3 q];rfl
  rw[I];cases y:turns o.op with
  | true =>
   rw[y]at j;refine⟨j.1,fun S G a w E H=>?_⟩;have l:=j.2 S G a w E H;unfold Does at l ⊢;have m:∀v w',(∃p ob' G',yR P nt ops K c (b.setIfInBounds i true) p ob'/\SimF P S p ob' G' (a.put o.dst v) w')->(∃p ob' G',mQ P nt ops T K c (b.setIfInBounds i true) p ob'/\SimF P S p ob' G' (a.put o.dst v) w'):=by
    rintro v w' ⟨p,ob',G',B,z⟩;exact⟨_,ob',G',zC c _ _ _ k B,z⟩
   generalize (execOp a.eval o).run P w=r at *;cases r with
   | ok n w' =>
    cases n<;>simp only at l ⊢<;>try exact l.elim
    case value v=>exact m _ _ l
    case skip=>exact m _ _ l
    case enter f args=>exact l.mono fun e M ⟨v,C,J⟩=>⟨v,C,m _ _ J⟩
   | halt x w'=>exact l
  | false =>
   rw[y]at j;obtain⟨s,d,l,L,HK⟩:=j;exact⟨s,d,l,L,zC c _ _ _ k HK⟩
theorem RV{T:Nat}{K:Fa->Obs->Prop}{i d:Nat}{w:Oper}{s:SV}(hi:ops[i]?=some w)(V:tn T i w=false)(F:w.dst=some d) :
  ∀(c:Nat) (b:Array Bool) (φ:Fa) (ob:Obs),Closed ops b ->
   (∀j l,ops[j]?=some l->j≠i->b.getD j true=false->tn T j l=true->Bef ops j i=true) ->
   (∀j l,ops[j]?=some l->j≠i->b.getD j true=false->tn T j l=false->(∃e∈l.after.toList,Region.binds .any e=true/\e.on=i)\/j7 ops w l=true) ->
   i∈Region.ready .any ops b->YieldsN P nt ops w φ ob s ->
   mQ P nt ops T K c (b.setIfInBounds i true) (Z4 φ d s) ob->mQ P nt ops T K (c+1) b φ ob:=by
 have q:∀(c:Nat) (b:Array Bool) (φ:Fa) (ob:Obs),YieldsN P nt ops w φ ob s->mQ P nt ops T K c (b.setIfInBounds i true) (Z4 φ d s) ob->StepT P nt ops T i φ ob (mQ P nt ops T K c (b.setIfInBounds i true)):=by
  intro c b φ ob D H;exact⟨w,hi,by rw[V];exact⟨s,d,F,D,H⟩⟩
 intro c;induction c with
 | zero =>
  intro b φ ob Q N O A D H;refine⟨fun h=>(by rw[h]at A;cases A),fun j I=>?_⟩;by_cases f:j=i
  ·subst f;exact q 0 b φ ob D H
  ·have:=ready_mono I f;rw[H.1]at this;cases this
 | succ c ih =>
  intro b φ ob Q N O A D H;refine⟨fun h=>(by rw[h]at A;cases A),fun j I=>?_⟩;by_cases f:j=i
  ·subst f;exact q (c+1) b φ ob D H
  ·obtain⟨g,l,p,u⟩:=mem_ready.1 I;have v:=K4 A;cases t:tn T j l with
   | true =>
    have hb:=N j l p f g t;have:=T7 Q j hb (fun o Y e R x=>by rw[p]at Y;cases Y;exact u e (Array.mem_toList_iff.1 R) x);rw[v]at this;cases this
   | false =>
    have E:j7 ops w l=true:=by
     rcases O j l p f g t with ⟨e,R,x,U⟩ | h
     ·have:=u e (Array.mem_toList_iff.1 R) x;rw[U]at this;have L:b.getD i false=true:=this;rw[v]at L;cases L
     ·exact h
    obtain⟨o',J,r⟩:=H.2 j (ready_mono I f);rw[p]at J;cases J;rw[t]at r;obtain⟨sj,X,G,W,HK⟩:=r;simp only[j7,F,G,B24,B60,List.contains_eq_mem,decide_eq_false_iff_not]at E;obtain⟨⟨Z,L⟩,M⟩:=E;have M:d≠X:=fun e=>by subst e;simp at M
    refine⟨l,p,by
     rw[t];refine⟨sj,X,G,W.unput Z,?_⟩;refine ih (b.setIfInBounds j true) _ ob (L3 Q I) ?_ ?_ (ready_mono A (Ne.symm f)) (D.put L) ?_
     ·intro k ok S z C B;refine N k ok S z ?_ B;by_cases m:j=k
      ·subst m;exact g
      ·rwa[getD_set_ne true m]at C
     ·intro k ok S z C B;refine O k ok S z ?_ B;by_cases m:j=k
      ·subst m;exact g
      ·rwa[getD_set_ne true m]at C
     ·rw[Array.setIfInBounds_comm _ _ f,<-pG M]
      exact HK⟩
def nF:Nat->Nat->Array Bool->Array Bool
 | 0,_,listed=>listed
 | n+1,k,listed=>nF n (k+1) (listed.setIfInBounds k true)
def vS(ops:Array Oper)(T:Nat):Nat->Nat->Array Bool->Bool
 | 0,_,_=>true
 | fuel+1,k,listed =>
  (match ops[k]? with
   | some o=>(Region.ready .any ops listed).contains k&&!(tn T k o) &&
    ((List.range ops.size).all fun j=>Nat.beq j k||listed.getD j true||match ops[j]? with
     | some b=>cond (tn T j b) (Bef ops j k) (b.after.toList.any (fun e=>Region.binds .any e&&Nat.beq e.on k)||j7 ops o b)
     | none=>true)
   | none=>false)&&vS ops T fuel (k+1) (listed.setIfInBounds k true)
theorem ML{T c:Nat}{K:Fa->Obs->Prop}{E:Fr->Obs->Prop}:∀(l:List Oper) (k:Nat) (b:Array Bool) (fr:Fr) (ob:Obs),(∀j,j<l.length->l[j]?=ops[k+j]?)->Closed ops b->vS ops T l.length k b=true ->
  (∀fr ob,Closed ops (nF l.length k b)->E fr ob->mQ P nt ops T K c (nF l.length k b) (C7 fr) ob)->LexD P nt ops E l fr ob->mQ P nt ops T K (c+l.length) b (C7 fr) ob
 | [],k,b,fr,ob,hl,hc,hB,hE,h=>hE fr ob hc h
 | o::l,k,b,fr,ob,hl,hc,hB,hE,h=>by
  have D:ops[k]?=some o:=by simpa using (hl 0 (by simp)).symm
  simp only[B31,vS,D,B24,B60]at hB;obtain⟨⟨⟨L,v⟩,I⟩,x⟩:=hB;have w:k∈Region.ready .any ops b:=by simpa using L
  have z:∀j,j<l.length->l[j]?=ops[k+1+j]?:=fun j J=>by have:=hl (j+1) (by simpa using J);simpa[Nat.add_assoc,Nat.add_comm 1 j] using this
  have M:turns o.op=false:=by
   cases C:turns o.op
   ·rfl
   ·simp[tn,C]at v
  simp only[LexD]at h;rw[M]at h;simp only[cond]at h;obtain⟨s,d,G,N,F⟩:=h;have t:∀j q,ops[j]?=some q->j≠k->b.getD j true=false->cond (tn T j q) (Bef ops j k) (q.after.toList.any (fun e=>Region.binds .any e&&Nat.beq e.on k)||j7 ops o q)=true:=by
   intro j q f g p;have A:j<ops.size:=(B39.1 f).1;have:=B27.1 I j (B44.2 A);rw[P3 g,p,f]at this;simp only[B83]at this;exact this
  show mQ P nt ops T K (c+(l.length+1)) b (C7 fr) ob;rw[<-Nat.add_assoc];refine RV D v G (c+l.length) b _ ob hc ?_ ?_ w N ?_
  ·intro j q f g p u;have:=t j q f g p;rw[u]at this;exact this
  ·intro j q f g p u;have:=t j q f g p;rw[u]at this;simp only[cond,B63,List.any_eq_true,B24]at this;rcases this with ⟨e,H,hb,B⟩ | h
   ·exact .inl ⟨e,H,hb,B49 B⟩
   ·exact .inr h
  ·rw[<-bD];exact ML l (k+1) _ _ ob z (L3 hc w) x hE F
theorem jR{o:Oper}{a:Act}{w:World}{R R':Value->World->Prop}(h:Does P o a w R)(b:∀v w',R v w'->R' v w'):Does P o a w R':=by
 unfold Does at h ⊢;generalize (execOp a.eval o).run P w=r at *;cases r with
 | ok n w' =>
  cases n<;>simp only at h ⊢<;>try exact h.elim
  case value v=>exact b _ _ h
  case skip=>exact b _ _ h
  case enter f args=>exact h.mono fun e g ⟨v,c,d⟩=>⟨v,c,b _ _ d⟩
 | halt x w'=>exact h
theorem fL{f:FuncId}{xs:List Operand}{E:Array TypeId}{ty:TypeId}{pos:String}{af:Array Edge}{args:List S1}{J:List Nat}{j:List S1->Obs->Prop}{fr:Fr}{ob:Obs}{d:Nat}{K:Fa->Obs->Prop}
  (N:Met P f args (dN fr) ob J j)(ha:r7 fr xs=some args)(Q:xs.all F9=true)(T:Nat.blt d nt=true)
  (Z:∀rs ob',j rs ob'->K (C7 ((d,kQ rs)::B2 J fr)) ob'):qL P nt ops ⟨some d,.call ⟨.value (.func f),xs.toArray,E⟩,ty,pos,af,none⟩ (C7 fr) ob K:=by
 refine⟨rfl,fun S G a w W O=>?_⟩;have h:=simF_iff.1 O;have C:=j2 h xs args ha Q;obtain⟨D,F⟩:∃D:Nat->Value,D=fun i=>S.sl a (i-1000000):=⟨_,rfl⟩
 let S':Ctx:={ S with gv:=D }
 have z:High (dN fr):=fun i s H=>(T8 fr i s H).1;have b:∀i s,C7 (dN fr) i=some s->s.rep (D9 (Mut S' ob G) w) G (S'.sl a i):=by
  intro i s H;obtain⟨x,L⟩:=T8 fr i s H;rw[Ctx.sl_ge x];show s.rep _ _ (D i);have e:=congrFun F i;rw[e];exact h.facts (i-1000000) s L
 have Y:Sim P S' (dN fr) ob G a w:={ h with facts:=b }
 have m:=N.2 z S' G a w _ Y C;refine jR (R:=fun v w'=>∃rs ob' G',j rs ob'/\bF (D9 (Mut S' ob' G') w') G' rs v/\Sim P S' (B2 J (dN fr)) ob' G' a w') ?_ ?_
 ·have U:(execOp a.eval ⟨some d,.call ⟨.value (.func f),xs.toArray,E⟩,ty,pos,af,none⟩).run P w=.ok (.enter f (xs.map a.eval).toArray) w:=by
   have:=J9 (P:=P) (f:=f) (args:=(xs.map a.eval).toArray) (w:=w) N.1;have V:xs.toArray.map a.eval=(xs.map a.eval).toArray:=by simp
   simp only[execOp,resolve,Act.eval,Deferred.ofValue,Sem.run_bind,Sem.run_pure,Result.andThen_ok,invoke];rw[show (#[]:Array Value)++Array.map a.eval xs.toArray++#[]=(xs.map a.eval).toArray by rw[<-V];simp];exact this
  unfold Does;rw[U];refine m.mono ?_;rintro e w' ⟨v,rs,ob',G',rfl,B,g,q⟩;exact⟨v,rfl,rs,ob',G',B,g,q⟩
 ·rintro v w' ⟨rs,ob',G',X,g,q⟩;have M:d<S.nt:=by rw[W];simpa using T
  have p:∀i s,C7 (B2 J fr) i=some s->s.rep (D9 (Mut S ob' G') w') G' (S.sl a i):=by
   intro i s H;have x:=q.facts (i+1000000) s (by rw[Z6];exact kP H);have L:1000000<=i+1000000:=Nat.le_add_left _ _;rw[Ctx.sl_ge L]at x;have x:s.rep (D9 (Mut S ob' G') w') G' (D (i+1000000)):=x;have e:=congrFun F (i+1000000);simp only[Nat.add_sub_cancel]at e;rw[e]at x;exact x
  have I:Sim P S (B2 J fr) ob' G' a w':={ q with facts:=p }
  exact⟨_,ob',G',Z rs ob' X,simF_iff.2 (I.put M g)⟩
theorem TC.forget_idem(k:Nat)(t:TC):(t.forget k).forget k=t.forget k:=by
 cases t with
 | p c=>rfl
 | buf a α b c j=>cases hb:Nat.beq a k<;>simp[TC.forget,hb]
 | ref a o=>cases hb:Nat.beq a k<;>simp[TC.forget,hb]
 | eref α b c x o=>rfl
 | «mut» a=>cases hb:Nat.beq a k<;>simp[TC.forget,hb]
 | mref a b i o=>cases hb:Nat.beq a k<;>simp[TC.forget,hb]
 | any=>rfl
 | clo f h d=>cases hb:(gM k h||gM k d)<;>simp only[TC.forget,hb,cond]
 | full α b c j=>rfl
 | msl a b o n=>cases hb:Nat.beq a k<;>simp[TC.forget,hb]
 | ifc t a o=>cases hb:Nat.beq a k<;>simp[TC.forget,hb]
 | fnc f l=>rfl
 | fncE f α b c x=>rfl
theorem S1.forget_idem(k:Nat)(s:S1):(s.forget k).forget k=s.forget k:=by
 cases s<;>simp[S1.forget,TC.forget_idem]
theorem SV.forget_idem(k:Nat)(s:SV):(s.forget k).forget k=s.forget k:=by
 cases s<;>simp[SV.forget,S1.forget_idem]
theorem Ob.forget_idem(k:Nat)(o:Ob):(o.forget k).forget k=o.forget k:=by
 cases o<;>simp[Ob.forget,TC.forget_idem]
theorem Fr.forget_idem(k:Nat)(fr:Fr):Fr.forget k (Fr.forget k fr)=Fr.forget k fr:=by
 simp[Fr.forget,Function.comp_def,SV.forget_idem]
theorem Obs.forget_idem(k:Nat)(ob:Obs):Obs.forget k (Obs.forget k ob)=Obs.forget k ob:=by
 simp[Obs.forget,Function.comp_def,Ob.forget_idem]
theorem m8{b:Rd}{G:Gh}:∀{a:List Cell} {c:List Value},All2 (TC.rep b G) (a.map .p) c->All2 (Cell.rep b) a c
 | [],[],_=>trivial
 | [],_::_,h=>h.elim
 | _::_,[],h=>h.elim
 | _::_,_::_,h=>⟨h.1,m8 h.2⟩
theorem P1{k:Nat}(h:High gf):High (Fr.forget k gf):=fun i s a=>by
 rw[K5]at a;cases b:C7 gf i with
 | none=>rw[b]at a;cases a
 | some s0=>exact h i s0 b
theorem Sees.forget(k:Nat):Sees P nt fr ob (Fr.forget k fr) (Obs.forget k ob):=by
 intro S G a w K h;have d:∀j m,B0 (Obs.forget k ob) j=some m->∃p,B0 ob j=some p/\m=p.forget k:=by
  intro j m c;rw[I8]at c;cases q:B0 ob j with
  | none=>rw[q]at c;cases c
  | some p=>rw[q]at c;cases c;exact⟨p,rfl,rfl⟩
 have y:∀b i z,D9 (Mut S ob G) w b i z->D9 (Mut S (Obs.forget k ob) G) w b i z:=by
  intro b i z E;refine⟨E.1,fun D=>E.2 ?_⟩;rcases D with D | ⟨j,m,c,hb⟩
  ·exact .inl D
  ·obtain⟨p,u,rfl⟩:=d j m c;exact .inr ⟨j,p,u,Own_forget.1 hb⟩
 refine⟨G,{ h with old:=?_,dis:=?_,obs:=?_,facts:=?_ }⟩
 ·intro j m b c hb;obtain⟨p,u,_⟩:=d j m c;exact h.old j p b u hb
 ·intro k1 k2 m I b F H B C;obtain⟨J,ha,_⟩:=d k1 m F;obtain⟨ob',A,_⟩:=d k2 I H;exact h.dis k1 k2 J ob' b ha A B C
 ·intro j m c;obtain⟨p,u,rfl⟩:=d j m c;exact ((h.obs j p u).ext y (Below.refl _ _)).forget (fun _ _=>rfl)
 ·intro i s v;rw[K5]at v;cases q:C7 fr i with
  | none=>rw[q]at v;cases v
  | some s0 =>
   rw[q]at v;cases v;exact SV.rep_forget (fun _ _=>rfl) (SV.rep_mono y (h.facts i s0 q))
theorem Met.introH{f:FuncId}{fn:Func}{c:Code}{a:List S1}{ks:List Nat}{d:List S1->Obs->Prop}(i:P.funcs[f]?=some fn)(b:(fn.name == "runtime.NumGoroutine")=false)(hb:fn.body=some c)(g:Nat.ble a.length fn.ntmps=true)(h:Nat.ble fn.ntmps 1000000=true)
  (j:High gf->WpC P fn.ntmps c (cK 0 a++gf) ob (metP P fn ks gf d)):Met P f a gf ob ks d :=
 ⟨⟨fn,i,b,by simp[hb]⟩,fun e=>(Met.intro i b hb g h (j e)).2 e⟩
theorem A91{l:Fr}{gf':Fr}{ob':Obs}(j:FrLe fr l)(g:High gf')(n:Tail gf' fr)(m:∀k o,B0 ob' k=some o->B0 ob k=some o):Sees P nt fr ob (l++gf') ob':=by
 intro S G a w q h;have c:∀i s,C7 (l++gf') i=some s->s.rep (D9 (Mut S ob G) w) G (S.sl a i):=by
  intro i s b;rw[V6]at b;cases d:C7 l i with
  | some s0 =>
   rw[d]at b;have b:some s0=some s:=b;cases b;obtain⟨s1,e,f⟩:=j.spec i _ d;exact f.rep (h.facts i s1 e)
  | none =>
   rw[d]at b;have b:C7 gf' i=some s:=b;exact h.facts i s (n i s (g i s b) b)
 have p:Sim P S (l++gf') ob G a w:={ h with facts:=c }
 exact⟨G,p.weakenO m⟩
theorem AE{a:Op}{ty:TypeId}{pos:String}{af:Array Edge}{s:SV}(h:Neu P ⟨some d,a,ty,pos,af,none⟩ (Q9 fr (nC a)) ob (fun e=>e=s))(c:Nat.blt d nt=true):YieldsN P nt ops ⟨some d,a,ty,pos,af,none⟩ (C7 fr) ob s:=by
 refine⟨d,rfl,by simpa using c,.inl ⟨rfl,_,fun i s b=>⟨l9 b,?_⟩,h⟩⟩;simpa[uses,vP] using aJ b
def JF(nt:Nat)(l:List Oper)(n:Nat):Bool :=
 let ops:=l.toArray;let L:=nF n 0 (Array.replicate l.length false)
 vS ops n n 0 (Array.replicate l.length false)&&RS nt ops&&Nat.ble (n+1) l.length&&Nat.beq (l.take n).length n &&
  ((Region.ready .any ops L).all fun j=>Nat.beq j n)&&(Region.ready .any ops L).contains n&&(L.setIfInBounds n true).getD n false&&AC ops (l.drop (n+1)).length (n+1) (L.setIfInBounds n true)
theorem j3{id:Nat}{l:List Oper}(n:Nat){C:Oper}{fr:Fr}{ob:Obs}{Q:Post}(hm:P.follows .mixedOrders=true)(H:JF nt l n=true)(hc:l[n]?=some C)
  (h:LexD P nt l.toArray (fun fr ob=>qL P nt l.toArray C (C7 fr) ob (fun φ' ob'=>∃fr',φ'=C7 fr'/\LexD P nt l.toArray (fun fr ob=>Q .normal fr ob) (l.drop (n+1)) fr' ob')) (l.take n) fr ob):WpC P nt (.region id l.toArray true) fr ob Q:=by
 intro S G a w N T;unfold JF at H;simp only[B24]at H;obtain⟨⟨⟨⟨⟨⟨⟨b1,b2⟩,b3⟩,b4⟩,b5⟩,b6⟩,D⟩,E⟩:=H;have Z:n+1<=l.length:=Nat.le_of_ble_eq_true b3;have c:(l.take n).length=n:=B49 b4;have u:∀(j t:Nat),(l.toArray[j]?).bind (fun o=>o.dst)=some t->t<nt:=by
  intro j t V;cases A:l.toArray[j]? with
  | none=>simp[A]at V
  | some o =>
   simp[A]at V;have z:o∈l:=by
    rw[B45]at A;exact B43 A
   have:=B27.1 b2 o (by simpa using z);rw[V]at this;simpa using this
 refine wp_region_any hm ?_;have I:Closed l.toArray (Array.replicate l.length false):=by
  intro j o A M;simp only[B35]at M;rcases Nat.lt_or_ge j l.length with F | F
  ·simp[F]at M
  ·simp[F]at M
 have R:l.toArray[n]?=some C:=by rw[B45];exact hc
 have B:tn n n C=true:=by unfold tn;rw[Nat.beq_refl];rfl
 have key:mQ P nt l.toArray n (fun φ ob=>∃fr',φ=C7 fr'/\Q .normal fr' ob) ((l.drop (n+1)).length+1+(l.take n).length) (Array.replicate l.length false) (C7 fr) ob:=by
  refine ML (l.take n) 0 _ fr ob (fun j Y=>?_) I (by rw[c];exact b1) (fun fr ob f X=>?_) h
  ·rw[B70,B45,B78 (by rw[c]at Y;exact Y)]
  ·rw[c]at f ⊢;have W:n∈Region.ready .any l.toArray (nF n 0 (Array.replicate l.length false)):=by simpa using b6
   have q:=L3 f W;refine⟨fun J=>(by rw[J]at W;cases W),fun j L=>?_⟩;have K:j=n:=B49 (B27.1 b5 j L);subst K;refine⟨C,R,?_⟩;rw[B];refine⟨X.1,fun S G a w N T=>jR (X.2 S G a w N T) ?_⟩;rintro v w' ⟨φ',ob',G',⟨fr',rfl,hL⟩,p⟩;exact⟨_,ob',G',zC _ _ _ _ D (jP (l.drop (j+1)) (j+1) _ fr' ob' (fun i=>by rw[B85,B45]) q E hL),p⟩
 have hx:Below w.heap.size w { w with drawn:=w.drawn+1 }:=⟨rfl,rfl,rfl,B29 _,fun _ _=>rfl⟩
 have p:SimF P S (C7 fr) ob G a { w with drawn:=w.drawn+1 }:=(simF_iff.2 T).ext hx;have:=fK (Q:=PostOf P S Q) N u (fun φ ob' G' a' w' ⟨fr',J,hq⟩ U=>⟨fr',ob',G',hq,.inl (simF_iff.1 (J ▸ U))⟩) _ _ _ ob G a _ key p;have k:(l.drop (n+1)).length+1+(l.take n).length=l.length:=by rw[B47,c];omega
 rw[k]at this;simpa using this
theorem bH(k:Nat)(h:Tail (Fr.forget k gf) fr):Tail (Fr.forget k gf) (Fr.forget k fr):=by
 have:=aK k h
 rwa[Fr.forget_idem]at this
theorem A39{k:Nat}{o b:Ob}:∀j x,B0 ((k,o)::Obs.forget k ob) j=some x->B0 ((k,o)::Obs.forget k ((k,b)::Obs.forget k ob)) j=some x:=by
 intro j x h;by_cases a:k=j
 ·subst a;rw[B4]at h ⊢;exact h
 ·rw[A7 a]at h ⊢;show B0 ((k,b.forget k)::Obs.forget k (Obs.forget k ob)) j=some x;rw[A7 a,Obs.forget_idem];exact h
theorem B19(k:Nat){l:Fr}{o:Ob}(M:FrLe fr l)(K:High gf)(N:Tail gf fr)(L:B0 ob k=some o):Sees P nt fr ob (l++Fr.forget k gf) ((k,o)::Obs.forget k ob):=by
 intro S G a w R h;have d:∀j p,B0 ((k,o)::Obs.forget k ob) j=some p->∃q,B0 ob j=some q/\(p=q\/p=q.forget k):=by
  intro j p c;by_cases B:k=j
  ·subst B;rw[B4]at c;cases c;exact⟨_,L,.inl rfl⟩
  ·rw[A7 B,I8]at c;cases A:B0 ob j with
   | none=>rw[A]at c;cases c
   | some q=>rw[A]at c;cases c;exact⟨q,rfl,.inr rfl⟩
 have v:∀b i z,D9 (Mut S ob G) w b i z->D9 (Mut S ((k,o)::Obs.forget k ob) G) w b i z:=by
  intro b i z J;refine⟨J.1,fun I=>J.2 ?_⟩;rcases I with I | ⟨j,p,c,hb⟩
  ·exact .inl I
  ·obtain⟨q,y,rfl | rfl⟩:=d j p c
   ·exact .inr ⟨j,_,y,hb⟩
   ·exact .inr ⟨j,q,y,Own_forget.1 hb⟩
 refine⟨G,{ h with old:=?_,dis:=?_,obs:=?_,facts:=?_ }⟩
 ·intro j p b c hb;obtain⟨q,y,_⟩:=d j p c;exact h.old j q b y hb
 ·intro k1 k2 p O b C D F H;obtain⟨Q,ha,_⟩:=d k1 p C;obtain⟨ob',E,_⟩:=d k2 O D;exact h.dis k1 k2 Q ob' b ha E F H
 ·intro j p c;obtain⟨q,y,rfl | rfl⟩:=d j p c
  ·exact (h.obs j _ y).ext v (Below.refl _ _)
  ·exact ((h.obs j q y).ext v (Below.refl _ _)).forget (fun _ _=>rfl)
 ·intro i s m;rw[V6]at m;cases A:C7 l i with
  | some s0 =>
   rw[A]at m;have m:some s0=some s:=m;cases m;obtain⟨s1,C,D⟩:=M.spec i _ A;exact D.rep (SV.rep_mono v (h.facts i s1 C))
  | none =>
   rw[A]at m;have m:C7 (Fr.forget k gf) i=some s:=m;rw[K5]at m;cases u:C7 gf i with
   | none=>rw[u]at m;cases m
   | some s0 =>
    rw[u]at m;cases m;exact SV.rep_forget (fun _ _=>rfl) (SV.rep_mono v (h.facts i s0 (N i s0 (K i s0 u) u)))
def AF(k:Nat)(φ:Fa):Prop:=∀i s,φ i=some s->s.free k=true
theorem MM{k:Nat}:∀{fr:Fr},H7 k fr=true->AF k (C7 fr)
 | [],_,i,s,hi=>by simp[C7]at hi
 | (j,x)::r,h,i,s,hi=>by
  simp only[H7,B24]at h;by_cases a:j=i
  ·subst a;rw[C2]at hi;cases hi;exact h.1
  ·rw[B5 a]at hi;exact MM h.2 i s hi
theorem RW{k:Nat}{e:TypeId}{z:Value}[hz:TyZero P e z]{ty:TypeId}{pos:String}{af:Array Edge}{g:Nat}{φ:Fa}{ob:Obs}(K:AF k φ)(E:J2 k ob=true)(J:Nat.blt g nt=true) :
  qL P nt ops ⟨some g,.alloc e,ty,pos,af,none⟩ φ ob (fun O ob'=>O=Z4 φ g (.s (.one (.ref k 0)))/\ob'=(k,.box (z.cells.toList.map fun c=>.p (.v c)))::ob):=by
 refine⟨rfl,fun S G a w L C=>?_⟩;obtain⟨F,H,M⟩:=F7 E;have q:g<S.nt:=by rw[L];simpa using J
 refine H4 (w':=w.alloc (.cells z.cells e)) (v:=.pointer (some ⟨w.heap.size,0,none⟩)) ?_ ?_
 ·simp[execOp,Instr.alloc,newVar,newRow,O4 hz.out.1]
 ·have u:Below w.heap.size w (w.alloc (.cells z.cells e)):=(Below.refl _ _).alloc (B29 _) _;have N:∀b,blk (.pointer (some ⟨w.heap.size,0,none⟩))=some b->w.heap.size<=b:=by intro b hb;simp[blk]at hb;omega
  have key:∀fr:Fr,Sim P S fr ob G a w->Sim P S (Fr.forget k fr) ((k,.box (z.cells.toList.map fun c=>.p (.v c)))::ob) (upd G k (.pointer (some ⟨w.heap.size,0,none⟩))) a (w.alloc (.cells z.cells e)):=by
   intro fr h;have y:=h.new (o:=.box (z.cells.toList.map fun c=>.p (.v c))) M H u N ⟨w.heap.size,z.cells.toList,e,rfl,by rw[Array.toArray_toList];exact heap_alloc_new w _,Z5 _ hz.out.2⟩;rw[F]at y;exact y
  have d:SimF P S φ ((k,.box (z.cells.toList.map fun c=>.p (.v c)))::ob) (upd G k (.pointer (some ⟨w.heap.size,0,none⟩))) a (w.alloc (.cells z.cells e)):=by
   refine⟨key [] C.1,fun i s B=>?_⟩;have D:Sim P S [(i,s)] ob G a w:=C.sub fun j t m=>by
    by_cases A:i=j
    ·subst A;rw[C2]at m;cases m;exact B
    ·rw[B5 A]at m;simp[C7]at m
   have I:=(key _ D).facts i s (by rw[K5,C2];simp[SV.forget_free (K i s B)]);exact I
  exact⟨_,_,_,⟨rfl,rfl⟩,d.put q ⟨w.heap.size,H3 _ _ _,rfl⟩⟩
def AnyB(P:Program)(nt:Nat)(ops:Array Oper)(T b k:Nat)(r:SV)(c:Nat×Ob)(ob:Obs)(E:Array Bool->Fa->Prop):Nat->Array Bool->Fa->Prop
 | 0,listed,φ=>AF k φ/\(∀j∈Region.ready .any ops listed,j=T)/\E listed φ
 | fuel+1,listed,φ=>AF k φ/\(∃p,p<T/\p∈Region.ready .any ops listed)/\∀i∈Region.ready .any ops listed,i≠T ->
   ∃o s d,ops[i]?=some o/\o.dst=some d/\turns o.op=false/\b≠d/\YieldsN P nt ops o φ ob s/\YieldsN P nt ops o (Z4 φ b r) (c::ob) s/\AnyB P nt ops T b k r c ob E fuel (listed.setIfInBounds i true) (Z4 φ d s)
theorem AnyB.free{T c k:Nat}{r:SV}{d:Nat×Ob}{ob:Obs}{E:Array Bool->Fa->Prop}{b:Nat}{a:Array Bool}{φ:Fa}(h:AnyB P nt ops T c k r d ob E b a φ):AF k φ:=by
 cases b<;>exact h.1
def LexB(P:Program)(nt:Nat)(ops:Array Oper)(a k:Nat)(r:SV)(b:Nat×Ob)(ob:Obs)(E:Fr->Prop):List Oper->Fr->Prop
 | [],fr=>H7 k fr=true/\E fr
 | o::l,fr=>∃s d,o.dst=some d/\YieldsN P nt ops o (C7 fr) ob s/\YieldsN P nt ops o (C7 ((a,r)::fr)) (b::ob) s/\LexB P nt ops a k r b ob E l ((d,s)::fr)
theorem LexB.free{a k:Nat}{r:SV}{b:Nat×Ob}{ob:Obs}{E:Fr->Prop}:∀{l:List Oper} {fr:Fr},LexB P nt ops a k r b ob E l fr->H7 k fr=true
 | [],fr,h=>h.1
 | o::l,fr,⟨s,d,_,_,_,h⟩=>by
  have:=h.free;simp only[H7,B24]at this;exact this.2
theorem A99(α:Type)(n:Nat)(c:α->Nat->Cell)(t o:Nat){m:List TC}(r:C7 fr t=some (.s (.agg m)))(j:m[o]?=some (.p (.v (.slice none 0 0)))):Sees P nt fr ob ((t,.s (.agg (m.set o (.p (.list α n c [])))))::fr) ob:=by
 intro S G a w A h;refine⟨G,{ h with facts:=fun i s f=>?_ }⟩;by_cases b:t=i
 ·subst b;rw[C2]at f;cases f;have q:=h.facts t _ r;obtain⟨y,u,ha⟩:=q;refine⟨y,u,A97 o (fun z x=>?_) ha⟩;obtain⟨B,d,k⟩:=ha.get o _ j;rw[x]at d;cases d;rw[k.1];exact X9 α n c
 ·rw[B5 b]at f;exact h.facts i s f
variable {next:Fr->Obs->Prop}{id id':Nat}
theorem k1(h:next fr ob):gN next Q .normal fr ob:=h
theorem k2{x y:Code}(h:WpC P nt x fr ob (gN (fun fr ob=>WpC P nt y fr ob Q) Q)):WpC P nt (.seq x y) fr ob Q:=c_seq h
theorem k3{c:Code}(h:WpC P nt c fr ob (l8 id Q)):WpC P nt (.block id c) fr ob Q:=c_block h
theorem k4(h:Q .normal fr ob):l8 id Q .normal fr ob:=h
theorem k5(h:Q .normal fr ob):WpC P nt .skip fr ob Q:=c_skip h
theorem k6(h:Q (.exit id) fr ob):WpC P nt (.exit id) fr ob Q:=c_exit h
theorem k7(h:Q (.exit id) fr ob):gN next Q (.exit id) fr ob:=h
theorem k8(hb:Nat.beq id' id=true)(h:Q .normal fr ob):l8 id Q (.exit id') fr ob:=A38 hb h
theorem k9(hb:Nat.beq id' id=false)(h:Q (.exit id') fr ob):l8 id Q (.exit id') fr ob:=XZ hb h
theorem k10(h:Q .ret fr ob):WpC P nt .ret fr ob Q:=c_ret h
theorem k11(h:Q .ret fr ob):gN next Q .ret fr ob:=h
theorem k12(h:Q .ret fr ob):l8 id Q .ret fr ob:=h
theorem cL{fr:Fr}{i:Nat}{s:SV}(h:C7 fr i=some s):∃s0,C7 fr i=some s0/\SvLe s0 s:=⟨_,h,.same _⟩
theorem leE{fr:Fr}{i:Nat}{s a:SV}(h:C7 fr i=some s)(e:s=a):∃s0,C7 fr i=some s0/\SvLe s0 a:=⟨_,h,.eq e⟩
attribute [irreducible] FnIo Met RetS
end Go.AL
