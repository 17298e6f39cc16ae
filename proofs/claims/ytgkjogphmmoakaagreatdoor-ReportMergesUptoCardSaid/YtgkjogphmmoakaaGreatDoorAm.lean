/- The abstract logic, its second half. No project text. -/
import Derived.Test.YtgkjogphmmoakaaGreatDoorAl
set_option linter.all false
attribute [local semireducible] Go.AL.Neu Go.AL.Eff Go.AL.EffV Go.AL.WpL Go.AL.WpC Go.AL.FnOk Go.AL.LexD Go.AL.Sees Go.AL.RetOk
namespace Go.AL
open Go Go.RowKit
set_option linter.unusedVariables false
variable {P:Program}{nt:Nat}{fr:Fr}{ob:Obs}{Q:Post}
theorem C5{c:Code}{X:Type}(E:X->Fr×Obs)(I:X->Prop)(m:X->Nat)(b:X)(f:I b)(start:Sees P nt fr ob (E b).1 (E b).2)
  (round:∀x,I x->WpC P nt c (E x).1 (E x).2 (iC (fun fr' ob'=>∃a,I a/\m a<m x/\Sees P nt fr' ob' (E a).1 (E a).2) Q)):WpC P nt (.loop c) fr ob Q :=
 c_loop (X:=ULift X) (fun x=>E x.down) (fun x=>I x.down) (fun x=>m x.down) ⟨b⟩ f start fun x j=>(round x.down j).mono fun e fr' ob' d=>by
  cases e with
  | normal=>obtain⟨a,g,h,i⟩:=d;exact⟨⟨a⟩,g,h,i⟩
  | _=>exact d
theorem K4{c:Code}(fr':Fr)(ob':Obs)(hs:Sees P nt fr ob fr' ob')(k:WpC P nt c fr' ob' Q):WpC P nt c fr ob Q:=E2 hs k
theorem bV{x y:Code}(fr':Fr)(ob':Obs)(b:WpC P nt x fr ob (iC (fun f o=>Sees P nt f o fr' ob') Q))(k:WpC P nt y fr' ob' Q):WpC P nt (.seq x y) fr ob Q :=
 c_seq (b.mono fun e f o a=>by
  cases e with
  | normal=>exact E2 a k
  | _=>exact a)
variable {ops:Array Oper}{rest:List Oper}{d:Nat}
def gd(x b:Bool)(s:SV):SV:=cond (x == b) s .un
theorem C3{m:Op}{ty:TypeId}{pos:String}{af:Array Edge}{j t:Nat}{b x:Bool}{s:SV}(f:(ops[j]?).bind (·.dst)=some t)(a:Nat.blt t nt=true)(g:D4 fr t=some (.s (.one (.p (.v (.bool x))))))(c:Nat.blt d nt=true)
  (h:x=b->Neu P ⟨some d,m,ty,pos,af,none⟩ fr ob (fun q=>q=s)) (k:WpL P nt ops rest ((d,gd x b s)::fr) ob Q):WpL P nt ops (⟨some d,m,ty,pos,af,some (j,b)⟩::rest) fr ob Q:=by
 by_cases hb:x=b
 ·refine j4 f a g hb (A7 (h hb) c ?_);have:gd x b s=s:=by simp[gd,hb]
  rwa[this]at k
 ·refine c9 f a g hb c ?_;have:gd x b s=.un:=by
   have:(x == b)=false:=by simpa using hb
   simp[gd,this]
  rwa[this]at k
theorem J5{K:Fr->Obs->Prop}{c:Op}{ty:TypeId}{pos:String}{af:Array Edge}{s:SV}{j t:Nat}{b x:Bool}(m:(ops[j]?).bind (·.dst)=some t)(r:D4 fr t=some (.s (.one (.p (.v (.bool x))))))
  (h:x=b->Neu P ⟨some d,c,ty,pos,af,none⟩ (U4 fr (qH c)) ob (fun y=>y=s)) (q:turns c=false) (g:Nat.blt d nt=true) (k:LexD P nt ops K rest ((d,gd x b s)::fr) ob) :
  LexD P nt ops K (⟨some d,c,ty,pos,af,some (j,b)⟩::rest) fr ob:=by
 by_cases hb:x=b
 ·refine d_run m r hb ?_ q g (s:=s) ?_
  ·have:=h hb;intro S G a w hs;have f:=this S G a w hs;unfold Does at f ⊢;exact f
  ·have:gd x b s=s:=by simp[gd,hb]
   rwa[this]at k
 ·refine aM m r hb q g ?_;have:gd x b s=.un:=by
   have:(x == b)=false:=by simpa using hb
   simp[gd,this]
  rwa[this]at k
theorem Wants.gd{b x c W:Bool}{s:SV}(h:Wants b s W):Wants b (AL.gd x c s) ((x == c)&&W):=by
 unfold AL.gd;cases a:(x == c) with
 | true=>simpa using h
 | false=>exact .un
theorem W8{x c y b:Bool}(h:((x == c)&&(y == b))=true):x=c/\y=b:=by simpa using h
theorem F2{α:Type}{a:Nat}{c:α->Nat->Cell}{n:Nat}:zZ fr a c [] n []:=rfl
theorem D1{α:Type}{a:Nat}{c:α->Nat->Cell}{i:Nat}{x:Operand}{r:List (Nat×Operand)}{y:α}{ys:List α}{s:S1}(f:opv fr x=some (.s s))(b:H3 x=true)(d:Nat.beq s.cells.length a=true)(e:dT s.cells=some (cellsOf c y 0 a))(h:zZ fr a c r (i+1) ys) :
  zZ fr a c ((i,x)::r) i (y::ys):=⟨rfl,b,s,y,ys,f,Nat.eq_of_beq_eq_true d,fun g G j ha=>r8 e ha,rfl,h⟩
section
variable {P:Program}{nt:Nat}{dst:Option Tmp}{ty:TypeId}{pos:String}{af:Array Edge}{gd:Option (Nat×Bool)}{fr:Fr}{ob:Obs}
def dV{α:Type}(b:Nat)(c:α->Nat->Cell):List α->List TC
 | []=>[]
 | x::xs=>(cellsOf c x 0 b).map .p++dV b c xs
theorem T5{α:Type}{b:Nat}{c:α->Nat->Cell}:∀(a:List α),(dV b c a).length=a.length*b
 | []=>by simp[dV]
 | x::a=>by simp[dV,T5 a,I7,C62];omega
theorem iI{α:Type}{a:Nat}{c:α->Nat->Cell}:∀(b:List α) (i j:Nat) (x:α),b[i]?=some x->j<a->(dV a c b)[i*a+j]?=some (.p (c x j))
 | [],i,j,x,h,_=>by simp at h
 | y::b,0,j,x,h,hj=>by
  simp at h;subst h;have d:j<(cellsOf c y 0 a).length:=by rw[I7];exact hj
  have:=U0 c y a 0 j _ (C29 d);rw[Nat.zero_mul,Nat.zero_add,dV,C46 (by simpa using d),C63,C29 d,this.1];simp
 | y::b,i+1,j,x,h,hj=>by
  have f:=iI (c:=c) b i j x (by simpa using h) hj;rw[dV,C52 (by simp[I7,C62];omega)];simp only[C55,I7];have:(i+1)*a+j-a=i*a+j:=by rw[C62];omega
  rw[this];exact f
theorem Sim.retell{S:Ctx}{G:Gh}{a:Act}{w:World}(h:Sim P S fr ob G a w){k:Nat}{o j:Ob}(l:B4 ob k=some o){b:Nat}(hb:blk (G k)=some b)(d:∀i,Own (G k) o b i)(c:∀i,Own (G k) j b i)
  (m:∀f:Rd,ObOk S f G w (G k) o->ObOk S f G w (G k) j):Sim P S fr ((k,j)::ob) G a w :=
 h.write l hb d c rfl rfl rfl (Nat.le_refl _) (fun _ _ _=>rfl) (fun f g=>m f ((h.obs k o l).ext g (Below.refl _ _)))
theorem Sees.toT(k:Nat){α:Type}{d:Nat}{c:α->Nat->Cell}{f:List α}(J:B4 ob k=some (.arr α d c f)):Sees P nt fr ob fr ((k,.tarr f.length d (dV d c f))::ob):=by
 intro S G a w U h;obtain⟨b,X,t,L,M,T,N,R⟩:=h.obs k _ J;have m:blk (G k)=some b:=by rw[L];rfl
 refine⟨G,h.retell J m (fun i=>⟨m,trivial⟩) (fun i=>⟨m,trivial⟩) ?_⟩;rintro V ⟨K,s,O,y,_,A,p,x⟩;refine⟨K,s.toList,O,y,M,by simpa using A,T5 f,cX (by rw[T5];simpa using p) fun j W z o D=>?_⟩;rcases Nat.eq_zero_or_pos d with u | u
 ·have:(dV d c f).length=0:=by rw[T5,u];simp
  rw[C49 (by omega)]at o;cases o
 ·have B:j<f.length*d:=by
   rcases Nat.lt_or_ge j (dV d c f).length with v | v
   ·rwa[T5]at v
   ·rw[C49 v]at o;cases o
  have H:j / d<f.length:=(Nat.div_lt_iff_lt_mul u).2 B;have I:j % d<d:=Nat.mod_lt _ u;have E:j / d*d+j % d=j:=by rw[Nat.mul_comm];exact Nat.div_add_mod j d
  have F:=iI (c:=c) f (j / d) (j % d) _ (C29 H) I;rw[E,o]at F;cases F;obtain⟨Q,q,C⟩:=x (j / d) H (j % d) I;rw[E]at q;have:s.toList[j]?=some Q:=by simpa using q
  rw[this]at D;cases D;exact C
theorem Sees.ofT(k:Nat){α:Type}{g:Nat}{c:α->Nat->Cell}{n:Nat}{A:List TC}(f:List α)(v:B4 ob k=some (.tarr n g A))(x:f.length=n)(p:A=dV g c f):Sees P nt fr ob fr ((k,.arr α g c f)::ob):=by
 subst p x;intro S G a w x h;obtain⟨b,N,t,D,L,K,H,J⟩:=h.obs k _ v;have d:blk (G k)=some b:=by rw[D];rfl
 refine⟨G,h.retell v d (fun i=>⟨d,trivial⟩) (fun i=>⟨d,trivial⟩) ?_⟩;rintro M ⟨B,u,I,l,o,m,y,e⟩;refine⟨B,u.toArray,I,l,o,m,by simp[<-e.length,T5],fun i E j F=>?_⟩;have C:=iI (c:=c) f i j _ (C29 E) F;obtain⟨z,q,s⟩:=e.get _ _ C;exact⟨z,by simpa using q,s⟩
theorem U3{x y:Operand}{t e:TypeId}{g c k n:Nat}{F:List TC}{D:IntKind}{i:Int}[ht:TySl P t e g c](B:opv fr x=some (.s (.one (.mut k))))(z:B4 ob k=some (.tarr n g F))
  (C:opv fr y=some (I6 (.int D i))) (q:0<=i) (v:i<n):Neu P ⟨dst,.indexAddr t x y,ty,pos,af,gd⟩ fr ob (fun E=>E=.s (.one (.mref k g i.toNat 0))) :=
 E1 fun S G a w h=>by
  obtain⟨l,_⟩:=F4 h B;obtain⟨b,I,H,j,_⟩:=h.obs k _ z;rw[j]at l;refine⟨.pointer (some ⟨b,i.toNat*g,none⟩),?_,b,n,n,j,rfl⟩;simp only[execOp,l,E9 h C];refine J8 ?_;have hb:0<=i/\i<(n:Int):=⟨q,v⟩
  simp[Instr.indexAt,run_underlying ht.out.1,asIntOf,hb,H4 ht.size,Addr.add_lit]
theorem KG{x:Operand}{t:TypeId}{k i o n g:Nat}{q:List TC}{s:TC}[ht:TyOne P t](D:opv fr x=some (.s (.one (.mref k g i o))))(A:B4 ob k=some (.tarr n g q))(C:q[i*g+o]?=some s) :
  Neu P ⟨dst,.load t x,ty,pos,af,gd⟩ fr ob (fun E=>E=.s (.one s)) :=
 E1 fun S G a w h=>by
  obtain⟨b,m,u,v,B⟩:=F4 h D;obtain⟨F,H,tt,c,_,y,_,ha⟩:=h.obs k _ A;rw[v]at c;cases c;obtain⟨z,j,p⟩:=ha.get _ s C;refine⟨z,?_,p⟩;simp only[execOp,B];refine J8 ?_;simp[Instr.loadAt,Instr.sureAddr,P2 (ht:=ht) (cell_of_heap y (by simpa using j))]
theorem FD{t:TypeId}{x E:Operand}{k i o n m y:Nat}{T:List TC}{s:S1}(Q:(P.info? t).map (·.size)=some m)(hx:opv fr x=some (.s (.one (.mref k y i o))))(U:B4 ob k=some (.tarr n y T))
  (hy:opv fr E=some (.s s)) (H:H3 E=true) (V:s.cells.length=m) (q:i*y+o+m<=T.length) :
  Eff P ⟨none,.store t x E,ty,pos,af,gd⟩ fr ob fr ((k,.tarr n y (setTs T (i*y+o) s.cells))::ob):=by
 intro S G a w h;obtain⟨b,len,W,M,hu⟩:=F4 h hx;obtain⟨b',vs,tt,I,J,Y,R,ha⟩:=h.obs k _ U;rw[M]at I;cases I;have Z:(SV.s s).rep (D9 (Mut S ob G) w) G (a.eval E):=N8 h hy H;have d:=B93 Z;have F:(a.eval E).cells.size=m:=by rw[<-V,d.length];simp
 obtain⟨w',L,N,D,K,C,g,B⟩:=Y8 (P:=P) (t:=t) (w:=w) (b:=b) (o:=i*y+o) (v:=a.eval E) (by rw[Q,F]) Y (iH d) (by rw[F,<-ha.length];exact q);unfold Does;have X:(execOp a.eval ⟨none,.store t x E,ty,pos,af,gd⟩).run P w=.ok .skip w':=by
  simp[execOp,hu,Instr.storeAt,Instr.sureAddr,L]
 rw[X];have A:blk (G k)=some b:=by rw[M];rfl
 refine⟨G,h.write U A (fun i=>⟨A,trivial⟩) (fun i=>⟨A,trivial⟩) N D K (Nat.le_of_eq C.symm) (fun j _=>g j) ?_⟩;intro rd O;refine⟨b,_,tt,M,J,B,by rw[rZ (by rw[V];exact q)];exact R,?_⟩;have:=(All2.setTs (i*y+o) ha d).mono (fun _ _=>TC.rep_mono O);simpa using this
theorem nO{α:Type}{c:α->Nat->Cell}:∀(a:List α),dV 1 c a=a.map fun x=>.p (c x 0)
 | []=>rfl
 | x::a=>by simp[dV,cellsOf,nO a]
theorem C25(k:Nat){α:Type}{c:α->Nat->Cell}{b:List α}(d:B4 ob k=some (.arr α 1 c b)):Sees P nt fr ob fr ((k,.tarr b.length 1 (b.map fun x=>.p (c x 0)))::ob):=by
 have:=Sees.toT (P:=P) (nt:=nt) (fr:=fr) k d
 rwa[nO]at this
theorem C26(k:Nat){α:Type}{c:α->Nat->Cell}{n:Nat}{e:List TC}(b:List α)(f:B4 ob k=some (.tarr n 1 e))(g:b.length=n)(d:e=b.map fun x=>.p (c x 0)):Sees P nt fr ob fr ((k,.arr α 1 c b)::ob) :=
 Sees.ofT k b f g (by rw[nO];exact d)
theorem cN{x:Operand}{t:TypeId}{k i n:Nat}{b:List TC}{s:TC}[ht:TyOne P t](h:opv fr x=some (.s (.one (.mref k 1 i 0))))(c:B4 ob k=some (.tarr n 1 b))(g:b[i]?=some s) :
  Neu P ⟨dst,.load t x,ty,pos,af,gd⟩ fr ob (fun j=>j=.s (.one s)):=KG h c (by simpa using g)
theorem A08{a:List TC}{i:Nat}{s:TC}(h:i<a.length):setTs a i [s]=a.set i s:=by
 unfold setTs;rw[List.set_eq_take_append_cons_drop,A5 h];simp
theorem lM{t:TypeId}{x h:Operand}{k i n:Nat}{g:List TC}{s:TC}(d:(P.info? t).map (·.size)=some 1)(u:opv fr x=some (.s (.one (.mref k 1 i 0))))(q:B4 ob k=some (.tarr n 1 g))
  (j:i<g.length) (v:opv fr h=some (.s (.one s))) (b:H3 h=true):Eff P ⟨none,.store t x h,ty,pos,af,gd⟩ fr ob fr ((k,.tarr n 1 (g.set i s))::ob):=by
 have:=FD (ty:=ty) (pos:=pos) (af:=af) (gd:=gd) d u q v b rfl (by omega)
 rwa[show i*1+0=i by omega,show (S1.one s).cells=[s] from rfl,A08 j]at this
theorem I1{t:TypeId}{x l:Operand}{k i:Nat}{α:Type}{c:α->Nat->Cell}{g:List α}{y:α}(d:(P.info? t).map (·.size)=some 1)(w:opv fr x=some (.s (.one (.mref k 1 i 0))))(v:B4 ob k=some (.arr α 1 c g))
  (q:i<g.length) (A:opv fr l=some (.s (.one (.p (c y 0))))) (b:H3 l=true):Eff P ⟨none,.store t x l,ty,pos,af,gd⟩ fr ob fr ((k,.arr α 1 c (g.set i y))::ob) :=
 sB d w v (C29 q) A b rfl rfl (fun D G B h=>by
  match B,h with
  | [u],h=>exact⟨h.1,trivial⟩) (fun j C h=>by omega)
theorem j5(k:Nat){t e:TypeId}{d b:Nat}{x y:Operand}{w A:IntKind}{n:Int}(α:Type)(c:α->Nat->Cell)(g:α){z:Value}[ht:TySl P t e d b][hz:TyZero P e z]
  (q:opv fr x=some (I6 (.int w n))) (v:opv fr y=some (I6 (.int A n))) (h:0<=n) (p:n<=1073741824)
  (f:∀B:Rd,All2 (Cell.rep B) (cellsOf c g 0 d) z.cells.toList) (j:(G5 k fr&&K5 k ob)=true) :
  EffV P ⟨dst,.makeSlice t x y,ty,pos,af,gd⟩ fr ob (.s (.one (.mut k))) fr ((k,.arr α d c (List.replicate n.toNat g))::ob) :=
 f_make k α c g q v h p (by rw[hz.out.1];rfl) f j
theorem C00{fr':Fr}{ob':Obs}(e:FrLe fr fr')(g:∀k o,B4 ob' k=some o->B4 ob k=some o):Sees P nt fr ob fr' ob' :=
 fun S G a w l h=>by
  have c:=(h.weakenO g)
  refine⟨G,{ c with facts:=fun i s f=>?_ }⟩;obtain⟨j,d,b⟩:=e.spec i s f;exact b.rep (c.facts i j d)
end
abbrev Mb(M:Nat->Nat->Prop)(b:Nat):Nat->Nat->Prop:=fun a i=>M a i\/a=b
def FnIo(P:Program)(f:FuncId)(args:List PV)(B:List Cell)(j:List PV->List Cell->Prop):Prop :=
 Callable P f/\∀(w:World) (M:Nat->Nat->Prop) (g:List Value) (b:Nat) (z:List Value) (t:TypeId),Grd P (fun k=>k=b) w->(∀q i,M q i->q<w.heap.size/\q≠b) ->
  w.heap[b]?=some (.cells z.toArray t (0,0))->All2 (Cell.rep (D9 (Mb M b) w)) B z->All2 (PV.rep (D9 (Mb M b) w)) args g ->
  Calls P f (.pointer (some ⟨b,0,none⟩)::g).toArray w (fun e w'=>∃v x h m,e=.returned v/\j x h/\ResRep (D9 (Mb M b) w') x v/\(∃C,w'.heap[b]?=some (.cells (List.toArray m) C (0,0)))/\All2 (Cell.rep (D9 (Mb M b) w')) h m /\
   w'.os=w.os/\w'.tape=w.tape/\w'.output=w.output/\w.heap.size<=w'.heap.size/\∀k,k<w.heap.size->k≠b->w'.heap[k]?=w.heap[k]?)
theorem FnIo.mono{P:Program}{f:FuncId}{args:List PV}{j:List Cell}{d a:List PV->List Cell->Prop}(h:FnIo P f args j d)(x:∀rs c,d rs c->a rs c):FnIo P f args j a :=
 ⟨h.1,fun w M g b y t k l q s u=>(h.2 w M g b y t k l q s u).mono fun _ _ ⟨v,rs,c,i,e,p,r⟩=>⟨v,rs,c,i,e,x _ _ p,r⟩⟩
abbrev self:Nat:=1000000
def retIoP(P:Program)(fn:Func)(d:List PV->List Cell->Prop):Post
 | .normal,fr,ob | .ret,fr,ob=>∃f g c,RetOk P fn fr ob f/\B4 ob self=some (.box g)/\dT g=some c/\d f c
 | _,_,_=>False
theorem io_ret{fn:Func}{a:List PV->List Cell->Prop}{d:List PV}{f:List TC}{c:List Cell}(h:RetOk P fn fr ob d)(i:B4 ob self=some (.box f))(g:dT f=some c)(j:a d c):retIoP P fn a .ret fr ob:=⟨d,f,c,h,i,g,j⟩
theorem FnIo.intro{f:FuncId}{fn:Func}{c:Code}{args:List PV}{cs:List Cell}{I:List PV->List Cell->Prop}(hf:P.funcs[f]?=some fn)(R:(fn.name == "runtime.NumGoroutine")=false)(hb:fn.body=some c)(al:fn.ntmps=nt)
  (ad:Nat.ble (args.length+1) nt=true) (T:Nat.ble nt 1000000=true) (h:WpC P nt c ((0,.s (.one (.ref self 0)))::sC 1 args) [(self,.box (cs.map .p))] (retIoP P fn I)):FnIo P f args cs I:=by
 refine⟨⟨fn,hf,R,by simp[hb]⟩,fun w M B b vs t hg hM ac ah ha=>?_⟩;have ao:args.length+1<=nt:=by simpa using ad
 have aq:B.length=args.length:=ha.length.symm;refine eC hf hb ?_;let G:Gh:=fun _=>.pointer (some ⟨b,0,none⟩);let S:Ctx:={ w0:=w,M0:=M,io:=fun k=>k=b,nt:=nt,pin:=G,gv:=fun _=>undef }
 have O:∀k,blk (G k)=some b:=fun _=>rfl;have am:b<w.heap.size:=(Array.getElem?_eq_some_iff.1 ac).1;have H:∀k o,B4 [(self,Ob.box (cs.map .p))] k=some o->k=self/\o=.box (cs.map .p):=by
  intro k o J;by_cases he:self=k
  ·subst he;rw[C4]at J;cases J;exact⟨rfl,rfl⟩
  ·rw[B0 he]at J;simp[B4]at J
 have X:∀E i,Mut S [(self,.box (cs.map .p))] G E i↔Mb M b E i:=fun E i=>by
  constructor
  ·rintro (h | ⟨k,o,J,ho,_⟩)
   ·exact .inl h
   ·rw[O k]at ho;cases ho;exact .inr rfl
  ·rintro (h | h)
   ·exact .inl h
   ·exact .inr ⟨self,_,C4 _ _ _,by rw[O self,h],trivial⟩
 have ae:∀E i z,D9 (Mb M b) w E i z->D9 (Mut S [(self,.box (cs.map .p))] G) w E i z:=fun E i z V=>⟨V.1,fun K=>V.2 ((X E i).1 K)⟩
 have hs:Sim P S ((0,.s (.one (.ref self 0)))::sC 1 args) [(self,.box (cs.map .p))] G { tmps:=(Value.pointer (some ⟨b,0,none⟩)::B).toArray++Array.replicate (fn.ntmps-(Value.pointer (some ⟨b,0,none⟩)::B).toArray.size) undef,defers:=[] } w:=by
  refine { nt:=by simp[al,S];omega,ntb:=by simpa using T,defers:=rfl,os:=rfl,tape:=rfl,output:=rfl,size:=Nat.le_refl _,keep:=fun _ _ _=>rfl,m0:=fun E i K=>(hM E i K).1,m0io:=fun E i K=>(hM E i K).2,grd:=hg,pin:=fun _ _=>rfl,old:=fun k o E J ab=>?_,dis:=fun k k' o o' E J ai _ _=>by rw[(H k o J).1,(H k' o' ai).1],obs:=fun k o J=>?_,facts:=?_ }
  ·rw[O k]at ab;cases ab;exact .inr ⟨rfl,by rw[(H k o J).1];exact Nat.le_refl _⟩
  ·obtain⟨rfl,rfl⟩:=H k o J;exact⟨b,vs,t,rfl,ac,KE (ah.mono fun c u=>Cell.rep_mono ae c u)⟩
  intro i s hi;by_cases h0:(0:Nat)=i
  ·subst h0;rw[C7]at hi;cases hi;have:((Value.pointer (some ⟨b,0,none⟩)::B).toArray++Array.replicate (fn.ntmps-(Value.pointer (some ⟨b,0,none⟩)::B).toArray.size) undef).getD 0 undef=.pointer (some ⟨b,0,none⟩):=by
    rw[Array.getD_eq_getD_getElem?,Array.getElem?_append_left (by simp)];simp
   have aj:nt<=1000000:=by simpa using T
   rw[Ctx.sl_lt (by omega),this];exact⟨b,rfl,rfl⟩
  ·rw[B9 h0]at hi;obtain⟨an,p,hp,rfl⟩:=uV 1 args i s hi;obtain⟨u,hu,V⟩:=ha.get (i-1) p hp;have ap:i-1<B.length:=(List.getElem?_eq_some_iff.1 hu).1;have Q:((Value.pointer (some ⟨b,0,none⟩)::B).toArray++Array.replicate (fn.ntmps-(Value.pointer (some ⟨b,0,none⟩)::B).toArray.size) undef).getD i undef=u:=by
    rw[Array.getD_eq_getD_getElem?,Array.getElem?_append_left (by simp;omega)];obtain⟨j,rfl⟩:∃j,i=j+1:=⟨i-1,by omega⟩
    simpa using congrArg (fun x=>x.getD undef) hu
   have aj:nt<=1000000:=by simpa using T
   rw[Ctx.sl_lt (by omega),Q];exact PV.rep_s1 (PV.rep_mono ae V)
 refine wp_mono (h S _ _ w Z hs) ?_;rintro e a' w' ⟨fr',ob',G',hq,C⟩
 have fin:(∃rs ts F,RetOk P fn fr' ob' rs/\B4 ob' self=some (.box ts)/\dT ts=some F/\I rs F)->∀ds w',Sim P { S with df:=ds } fr' ob' G' a' w'->∃v,(results fn a'.tmps).run P w'=.ok v w' /\
   (∃ag rs F L,Ending.returned v=.returned ag/\I rs F/\ResRep (D9 (Mb M b) w') rs ag/\(∃t',w'.heap[b]?=some (.cells (List.toArray L) t' (0,0)))/\All2 (Cell.rep (D9 (Mb M b) w')) F L /\
   w'.os=w.os/\w'.tape=w.tape/\w'.output=w.output/\w.heap.size<=w'.heap.size/\∀k,k<w.heap.size->k≠b->w'.heap[k]?=w.heap[k]?):=by
  rintro⟨rs,ts,F,V,ho,hp,U⟩ ds w' C;obtain⟨v,hv,af⟩:=V _ G' a' w' C;obtain⟨E,L,t',W,hh,Y⟩:=C.obs self _ ho;have q:=C.pin self (Nat.le_refl _);rw[W]at q;injection q with q
  injection q with q
  injection q with q
  subst q
  have N:∀b₁ i z,D9 (Mut S ob' G') w' b₁ i z->D9 (Mb M E) w' b₁ i z:=fun b₁ i z hz=>⟨hz.1,fun K=>hz.2 (by
   rcases K with K | rfl
   ·exact .inl K
   ·exact .inr ⟨self,_,ho,by rw[W];rfl,trivial⟩)⟩
  refine⟨v,hv,v,rs,F,L,rfl,U,af.mono N,⟨t',hh⟩,((r8 hp Y).mono fun c u=>Cell.rep_mono N c u),C.os,C.tape,C.output,C.size,fun k J ak=>C.keep k J ak⟩
 cases e with
 | normal=>exact C.leave rfl (fin hq)
 | ret=>exact C.leave rfl (fin hq)
 | _=>exact hq.elim
theorem NY{f:FuncId}{x:Operand}{D:List Operand}{ab:Array TypeId}{ty:TypeId}{pos:String}{af:Array Edge}{k:Nat}{ts:List TC}{cs:List Cell}{ps:List PV}{H:List PV->List Cell->Prop}
  (hf:FnIo P f ps cs H) (hx:opv fr x=some (.s (.one (.ref k 0)))) (hk:B4 ob k=some (.box ts)) (an:dT ts=some cs) (ha:eP fr D=some ps) (hc:D.all H3=true) (hd:Nat.blt d nt=true)
  (kk:∀M q,H M q->WpL P nt ops rest ((d,oV M)::fr) ((k,.box (q.map .p))::ob) Q):WpL P nt ops (⟨some d,.call ⟨.value (.func f),(x::D).toArray,ab⟩,ty,pos,af,none⟩::rest) fr ob Q:=by
 intro S G a w hn h;obtain⟨b,T,ao⟩:=F4 h hx;obtain⟨g,vs,t,N,ae,ad⟩:=h.obs k _ hk;rw[T]at N;cases N;have E:blk (G k)=some b:=by rw[T];rfl
 have aq:b<w.heap.size:=(Array.getElem?_eq_some_iff.1 ae).1;have ac:∀g i,Mb (fun g i=>Mut S ob G g i/\g≠b) b g i↔Mut S ob G g i:=fun g i=>by
  constructor
  ·rintro (R | R)
   ·exact R.1
   ·exact .inr ⟨k,_,hk,by rw[E,R],trivial⟩
  ·intro R;by_cases hb:g=b
   ·exact .inr hb
   ·exact .inl ⟨R,hb⟩
 have aj:∀(w:World) g i z,D9 (Mut S ob G) w g i z->D9 (Mb (fun g i=>Mut S ob G g i/\g≠b) b) w g i z:=fun w g i z L=>⟨L.1,fun C=>L.2 ((ac g i).1 C)⟩
 have ak:∀(w:World) g i z,D9 (Mb (fun g i=>Mut S ob G g i/\g≠b) b) w g i z->D9 (Mut S ob G) w g i z:=fun w g i z L=>⟨L.1,fun C=>L.2 ((ac g i).2 C)⟩
 have O:∀(w':World) (q:List Cell) g i z,D9 (Mb (fun g i=>Mut S ob G g i/\g≠b) b) w' g i z->D9 (Mut S ((k,.box (q.map .p))::ob) G) w' g i z:=fun w' q g i z L=>⟨L.1,fun C=>(ak w' g i z L).2 (by
  rcases C with C | ⟨k',o',hk',hb'⟩
  ·exact .inl C
  ·by_cases ah:k=k'
   ·subst ah;rw[C4]at hk';cases hk';exact .inr ⟨k,_,hk,hb'⟩
   ·rw[B0 ah]at hk';exact .inr ⟨k',o',hk',hb'⟩)⟩
 have ag:Grd P (fun j=>j=b) w:=by
  obtain⟨wg,R,h2,h3⟩:=h.grd;refine⟨wg,R,Nat.le_trans h2 h.size,fun j hj=>?_⟩;obtain⟨h4,h5⟩:=h3 j hj;have W:j<S.B:=Nat.lt_of_lt_of_le hj h2;refine⟨(h.keep j W h5).trans h4,fun e=>?_⟩;subst e;rcases h.old k _ j hk E with h6 | h6
  ·omega
  ·exact h5 h6.1
 have V:=jC h D ps ha hc;have I:=hf.2 w (fun g i=>Mut S ob G g i/\g≠b) (D.map a.eval) b vs t ag (fun g i C=>⟨h.mut_lt C.1,C.2⟩) ae ((r8 an ad).mono fun c u=>Cell.rep_mono (aj w) c u) (V.mono fun p u hp=>PV.rep_mono (aj w) hp);refine wpList_plain rfl fun K hK=>L4 (K:=fun v w'=>∃M q,H M q/\Sim P S fr ((k,.box (q.map .p))::ob) G a w'/\ResRep (D9 (Mut S ((k,.box (q.map .p))::ob) G) w') M v) ?_ ?_
 ·have he:(execOp a.eval ⟨some d,.call ⟨.value (.func f),(x::D).toArray,ab⟩,ty,pos,af,none⟩).run P w=.ok (.enter f (.pointer (some ⟨b,0,none⟩)::D.map a.eval).toArray) w:=by
   have:=Q5 (P:=P) (f:=f) (args:=(.pointer (some ⟨b,0,none⟩)::D.map a.eval).toArray) (w:=w) hf.1;have C:(x::D).toArray.map a.eval=(.pointer (some ⟨b,0,none⟩)::D.map a.eval).toArray:=by simp[ao]
   simp only[execOp,resolve,Act.eval,Deferred.ofValue,Sem.run_bind,Sem.run_pure,Result.andThen_ok,invoke];rw[show (#[]:Array Value)++Array.map a.eval (x::D).toArray++#[]=(.pointer (some ⟨b,0,none⟩)::D.map a.eval).toArray by rw[<-C];simp];exact this
  unfold Does;rw[he];refine I.mono ?_;rintro e w' ⟨v,M,q,ap,rfl,X,F,⟨t',hh⟩,U,al,Z,ai,Y,J⟩;refine⟨v,rfl,M,q,X,?_,?_⟩
  ·exact h.writeN hk E (fun i=>⟨E,trivial⟩) (fun i=>⟨E,trivial⟩) al Z ai Y J fun L=>⟨b,ap,t',T,hh,KE (U.mono fun c u=>Cell.rep_mono (O w' q) c u)⟩
  ·exact F.mono (O w' q)
 ·rintro v w' ⟨M,q,hp,am,F⟩;have W:d<S.nt:=by rw[hn];simpa using hd
  exact hK _ _ (kk M q hp S G _ w' hn (am.put W (ResRep.sv F)))
section
variable {P:Program}{dst:Option Tmp}{ty:TypeId}{pos:String}{af:Array Edge}{gd:Option (Nat×Bool)}{fr:Fr}{ob:Obs}
theorem TU(k:Nat){t e:TypeId}{A M n:Nat}{q:Array (Nat×Operand)}{α:Type}{c:α->Nat->Cell}{J:List α}[ht:TySl P t e A M](hb:zZ fr A c q.toList 0 J)(hn:q.toList.length=n)(U:Nat.ble n 100000=true)(X:Nat.ble A 100=true)
  (hk:B4 ob k=none) (ag:k<1000000):EffV P ⟨dst,.buildSlice t n q,ty,pos,af,gd⟩ fr ob (.s (.one (.buf k α A c J))) (Fr.forget k fr) ((k,.spare J.length A e)::Obs.forget k ob):=by
 intro S G a w h;have ad:=ht.out.2.2.1;have ae:n<=100000:=by simpa using U
 have W:A<=100:=by simpa using X
 have am:n*A<=100000*100:=Nat.mul_le_mul ae W;obtain⟨_,_,_,_,E⟩:=ht.out;cases hi:P.info? e with
 | none=>simp[hi]at E
 | some i =>
 cases hz:i.zero with
 | none=>simp[hi,hz]at E
 | some z =>
 have al:(P.info? e).bind (·.zero)=some z:=by simp[hi,hz]
 let C:Array Value:=(Array.range (n*A)).map ((if n*A=0 then #[] else z.cells)[· % (if n*A=0 then #[] else z.cells).size]!);have V:C.size=n*A:=by simp[C]
 obtain⟨I,hf,ah,ai,hv⟩:=iG h q.toList 0 J C hb (by rw[V,hn,Nat.zero_add]);simp only[Nat.zero_mul,List.take_zero,C58]at hf;have hp:(q.map fun x=>(x.1,a.eval x.2)).toList=q.toList.map fun x=>(x.1,a.eval x.2):=by simp
 have F:J.length=n:=by rw[ai,hn]
 refine F3 (w':=w.alloc (.cells I.toArray e)) (v:=.slice (some ⟨w.heap.size,0,none⟩) n n) ?_ ?_
 ·simp only[execOp];refine J8 ?_;simp only[Instr.buildSlice,Sem.run_bind,run_underlying ht.out.1,Result.andThen_ok,H4 ht.size];rw[A6 (by omega)];by_cases H:n*A=0
  ·simp only[H,if_true,Sem.run_bind,Sem.run_pure,Result.andThen_ok];have D:C=(Array.range 0).map ((#[]:Array Value)[· % (#[]:Array Value).size]!):=by simp only[C,H,if_true]
   rw[show (q.map fun (x:Nat×Operand)=>match x with | (i,x)=>(i,a.eval x))=q.map fun x=>(x.1,a.eval x.2) from rfl,hp,<-D,hf];simp[newRow]
  ·simp only[A6 H,Sem.run_bind,M5 al,Sem.run_pure,Result.andThen_ok];have D:C=(Array.range (n*A)).map (z.cells[· % z.cells.size]!):=by simp only[C,A6 H]
   rw[show (q.map fun (x:Nat×Operand)=>match x with | (i,x)=>(i,a.eval x))=q.map fun x=>(x.1,a.eval x.2) from rfl,hp,<-D,hf];simp[newRow]
 ·have ac:Below w.heap.size w (w.alloc (.cells I.toArray e)):=(Below.refl _ _).alloc (Nat.le_refl _) _;have hu:∀b,blk (.slice (some ⟨w.heap.size,0,none⟩) n n)=some b->w.heap.size<=b:=by intro b hb;simp[blk]at hb;omega
  have T:I.length=n*A:=by rw[ah,hn]
  have K:(w.alloc (.cells I.toArray e)).ownsRow S.B e A (.slice (some ⟨w.heap.size,0,none⟩) n n) J.length I :=
   ⟨by rw[T,F],.inr ⟨w.heap.size,n,I.toArray,by rw[F],h.size,heap_alloc_new w _,by rw[F];exact Nat.le_refl _,by unfold maxLen;omega,by simpa using T,by rw[F,<-T];simp⟩⟩
  have ab:=h.new ag hk (o:=.spare J.length A e) ac hu ⟨I,K⟩;refine⟨_,ab,(G7 _ _ _).symm,?_⟩;have Q:(w.alloc (.cells I.toArray e)).ownsRow S.B e A (.slice (some ⟨w.heap.size,0,none⟩) n n) J.length I:=K;refine aI (c:=c) (xs:=J) Q ad (by omega) ?_ ?_
  ·intro g Y j zz hj N;simp[blk]at Y;subst Y;refine⟨N,fun Z=>?_⟩;rcases Z with Z | ⟨k',o',hk',hb1,hb2⟩
   ·have:=h.m0 _ j Z;have:=h.size;omega
   ·by_cases O:k=k'
    ·subst O;rw[C4]at hk';cases hk';simp only at hb2;omega
    ·rw[B0 O,M1]at hk';cases Y:B4 ob k' with
     | none=>simp[Y]at hk'
     | some o0 =>
      rw[b9 G _ (Ne.symm O)]at hb1;have:=(h.obs k' o0 Y).blk_lt _ hb1;omega
  ·intro m Z j hj;obtain⟨zz,aj,ak⟩:=hv m Z j hj;exact⟨zz,aj,Cell.rep_mono (fun _ _ _ hr=>h.rd_new ac hu hr) _ _ ak⟩
theorem TV(k:Nat){t e:TypeId}{j h n:Nat}{g:Array (Nat×Operand)}{α:Type}{c:α->Nat->Cell}{ys:List α}[ht:TySl P t e j h](hb:zZ fr j c g.toList 0 ys)(A:g.toList.length=n)(m:Nat.ble n 100000=true)(q:Nat.ble j 100=true)
  (v:(G5 k fr&&K5 k ob)=true):EffV P ⟨dst,.buildSlice t n g,ty,pos,af,gd⟩ fr ob (.s (.one (.buf k α j c ys))) fr ((k,.spare ys.length j e)::ob):=by
 simp only[C30]at v;obtain⟨w,x⟩:=v;obtain⟨y,z,B⟩:=Q6 x;have:=TU (P:=P) (dst:=dst) (ty:=ty) (pos:=pos) (af:=af) (gd:=gd) (ht:=ht) k hb A m q z B
 rwa[T4 w,y]at this
end
def M7{α:Type}(c:α->Nat->Cell)(g:Nat->List α)(l:List Nat):Obs:=l.map fun r=>(r+1000,.arr α 1 c (g r))
theorem eR{α:Type}{c:α->Nat->Cell}{g:Nat->List α}:∀(l:List Nat) (j:Nat) (o:Ob),B4 (M7 c g l) j=some o↔∃r∈l,j=r+1000/\o=.arr α 1 c (g r)
 | [],j,o=>by simp[M7,B4]
 | r::l,j,o=>by
  have k:=eR l j o (c:=c) (g:=g);show B4 ((r+1000,Ob.arr α 1 c (g r))::M7 c g l) j=some o↔_;by_cases h:r+1000=j
  ·subst h;rw[C4];constructor
   ·intro i;cases i;exact⟨r,by simp,rfl,rfl⟩
   ·rintro⟨d,_,m,rfl⟩;obtain rfl:r=d:=by omega
    rfl
  ·rw[B0 h,k];constructor
   ·rintro⟨d,b,e⟩;exact⟨d,by simp[b],e⟩
   ·rintro⟨d,b,e,f⟩;rcases C36.1 b with rfl | b
    ·exact absurd e.symm h
    ·exact⟨d,b,e,f⟩
theorem nP{α:Type}{c:α->Nat->Cell}{g:Nat->List α}{l:List Nat}{r:Nat}(h:r∈l):B4 (M7 c g l) (r+1000)=some (.arr α 1 c (g r)):=(eR l _ _).2 ⟨r,h,rfl,rfl⟩
theorem qI{α:Type}{c:α->Nat->Cell}{g:Nat->List α}{k:Nat}(b:k<1000000):∀(l:List Nat),(∀r∈l,r+1000≠k)->K5 k (M7 c g l)=true
 | [],_=>by simpa[M7,K5] using b
 | r::l,h=>by
  have e:=qI b l (fun f d=>h f (by simp[d])) (c:=c) (g:=g);show (!(Nat.beq (r+1000) k)&&(Ob.free k (.arr α 1 c (g r))&&K5 k (M7 c g l)))=true;rw[I9 (h r (by simp)),e];rfl
theorem B97{α:Type 1}{β:Type}{R:α->β->Prop}{t:α}:∀{c:List α} {a:List β} (o:Nat),(∀z,a[o]?=some z->R t z)->All2 R c a->All2 R (c.set o t) a
 | [],[],_,_,_=>trivial
 | [],_::_,_,_,h=>h.elim
 | _::_,[],_,_,h=>h.elim
 | _::_,v::_,0,hz,h=>⟨hz v rfl,h.2⟩
 | _::c,_::a,o+1,hz,h=>⟨h.1,B97 o (fun z b=>hz z (by simpa using b)) h.2⟩
theorem B95(k:Nat)(α:Type)(g:Nat)(c:α->Nat->Cell)(e:TypeId){kb o:Nat}{A:List TC}(hb:B4 ob kb=some (.box A))(H:A[o]?=some (.p (.v (.slice none 0 0))))(K:(G5 k fr&&K5 k ob)=true) :
  Sees P nt fr ob fr ((kb,.box (A.set o (.buf k α g c [])))::(k,.spare 0 g e)::ob):=by
 simp only[C30]at K;obtain⟨M,N⟩:=K;obtain⟨O,B,T⟩:=Q6 N;intro S G a w X h;have C:=h.new T (o:=.spare 0 g e) (u:=.slice none 0 0) (w1:=w) B (Below.refl _ _) (fun b hb=>by simp[blk]at hb) ⟨[],World.ownsRow_nil w _ _ _⟩;rw[T4 M,O]at C;have F:k≠kb:=fun Q=>by rw[Q,hb]at B;cases B
 have n:B4 ((k,Ob.spare 0 g e)::ob) kb=some (.box A):=by rw[B0 F];exact hb
 obtain⟨b,Z,t,R,W,ha⟩:=C.obs kb _ n;have d:blk (upd G k (.slice none 0 0) kb)=some b:=by rw[R];rfl
 refine⟨_,C.retell n d (fun i=>⟨d,trivial⟩) (fun i=>⟨d,trivial⟩) ?_⟩;rintro Y ⟨L,J,V,D,E,j⟩;refine⟨L,J,V,D,E,B97 o (fun z U=>?_) j⟩;obtain⟨z',q,I⟩:=j.get o _ H;rw[U]at q;cases q;rw[I.1];exact⟨(G7 _ _ _).symm,F0 α g c⟩
theorem B92(α:Type)(u:Nat)(c:α->Nat->Cell)(kb o:Nat){q:List TC}(hb:B4 ob kb=some (.box q))(m:q[o]?=some (.p (.v (.slice none 0 0)))):Sees P nt fr ob fr ((kb,.box (q.set o (.p (.list α u c []))))::ob):=by
 intro S G a w E h;obtain⟨b,H,t,A,D,ha⟩:=h.obs kb _ hb;have d:blk (G kb)=some b:=by rw[A];rfl
 refine⟨_,h.retell hb d (fun i=>⟨d,trivial⟩) (fun i=>⟨d,trivial⟩) ?_⟩;rintro F ⟨y,r,C,j,k,f⟩;refine⟨y,r,C,j,k,B97 o (fun z B=>?_) f⟩;obtain⟨I,g,n⟩:=f.get o _ m;rw[B]at g;cases g;rw[n.1];exact F0 α u c
theorem GO{k:Nat}{α:Type}{a:Nat}{c:α->Nat->Cell}{b:List α}:∀{fr:Fr},G5 k fr=true->B99 (SV.freeze k α a c b) fr=fr:=by
 have e:∀{t:TC},t.free k=true->t.freeze k α a c b=t:=by
  intro t h;cases t<;>first | rfl | skip
  simp only[TC.free,Bool.not_eq_true']at h;simp[TC.freeze,h]
 have f:∀{s:S1},s.free k=true->s.freeze k α a c b=s:=by
  intro s h;cases s with
  | one t=>simp only[S1.freeze];rw[e h]
  | agg m=>simp only[S1.freeze];rw[c6 fun t d=>e (List.all_eq_true.1 h t d)]
 have g:∀{s:SV},s.free k=true->s.freeze k α a c b=s:=by
  intro s h;cases s with
  | s x=>simp only[SV.freeze];rw[f h]
  | tup l=>simp only[SV.freeze];rw[c6 fun t d=>f (List.all_eq_true.1 h t d)]
  | any=>rfl
  | un=>rfl
 intro fr;induction fr with
 | nil=>intro _;rfl
 | cons x r j =>
  intro h;obtain⟨i,s⟩:=x;simp only[G5,C30]at h;have:=j h.2;simp only[B99,C39]at this ⊢;rw[this,g h.1]
theorem lN:∀(a b:Obs) (k:Nat),B4 (a++b) k=(B4 a k).orElse fun _=>B4 b k
 | [],b,k=>rfl
 | (i,s)::r,b,k=>by
  show B4 ((i,s)::(r++b)) k=_;by_cases h:i=k
  ·subst h;rw[C4,C4];rfl
  ·rw[B0 h,B0 h,lN r b k]
theorem Q7{a b:Obs}{k:Nat}(h:B4 a k=none):B4 (a++b) k=B4 b k:=by rw[lN,h];rfl
theorem gR{a b:Obs}{k:Nat}{o:Ob}(h:B4 a k=some o):B4 (a++b) k=some o:=by rw[lN,h];rfl
def low:Obs->Bool
 | []=>true
 | (i,_)::r=>Nat.blt i 1000&&low r
theorem lO:∀{a:Obs},low a=true->∀{k:Nat},1000<=k->B4 a k=none
 | [],_,_,_=>rfl
 | (i,s)::r,h,k,hk=>by
  simp only[low,C30,Nat.blt_eq]at h;rw[B0 (by omega),lO h.2 hk]
theorem B15{α:Type}{c:α->Nat->Cell}{g:Nat->List α}{l:List Nat}{k:Nat}(b:k<1000):B4 (M7 c g l) k=none:=by
 cases h:B4 (M7 c g l) k with
 | none=>rfl
 | some o=>obtain⟨r,_,a,_⟩:=(eR l k o).1 h;omega
theorem B16{α:Type}{c:α->Nat->Cell}{g g':Nat->List α}{l:List Nat}{pre:Obs}(j:low pre=true){r:Nat}(n:r∈l)(i:∀q,q≠r->g' q=g q) :
  ∀k o,B4 (pre++M7 c g' l) k=some o->B4 ((r+1000,.arr α 1 c (g' r))::(pre++M7 c g l)) k=some o:=by
 intro k o h;by_cases b:r+1000=k
 ·subst b;rw[Q7 (lO j (by omega)),nP n]at h;rw[C4];exact h
 ·rw[B0 b];cases d:B4 pre k with
  | some p=>rw[gR d]at h ⊢;exact h
  | none =>
   rw[Q7 d]at h ⊢;obtain⟨q,f,e,rfl⟩:=(eR l k o).1 h;have m:q≠r:=by rintro rfl;exact b e.symm
   rw[e,nP f,i q m]
def Q8{α:Type}(c:α->Nat->Cell)(m k:Nat)(g:Nat->List α):List TC:=(List.range m).map fun r=>if r<k then .p (.list α 1 c (g r)) else .mut (r+1000)
theorem NZ{α:Type}{c:α->Nat->Cell}{m k r:Nat}{g:Nat->List α}(h:r<m)(a:k<=r):(Q8 c m k g)[r]?=some (.mut (r+1000)):=by
 unfold Q8;rw[C63,C79 h];simp;omega
theorem AE{α:Type}{c:α->Nat->Cell}{m k:Nat}{g:Nat->List α}:(Q8 c m k g).length=m:=by simp[Q8]
theorem TC.freeze_free{k:Nat}{α:Type}{a:Nat}{c:α->Nat->Cell}{b:List α}{t:TC}(h:t.free k=true):t.freeze k α a c b=t:=by
 cases t<;>first | rfl | skip
 simp only[TC.free,Bool.not_eq_true']at h;simp[TC.freeze,h]
theorem Ob.freeze_free{k:Nat}{α:Type}{g:Nat}{c:α->Nat->Cell}{i:List α}{o:Ob}(h:o.free k=true):o.freeze k α g c i=o:=by
 cases o with
 | box b=>simp only[Ob.freeze];rw[c6 fun t a=>TC.freeze_free (List.all_eq_true.1 h t a)]
 | tbx e b=>simp only[Ob.freeze];rw[c6 fun t a=>TC.freeze_free (List.all_eq_true.1 h t a)]
 | tarr n e b=>simp only[Ob.freeze];rw[c6 fun t a=>TC.freeze_free (List.all_eq_true.1 h t a)]
 | arr=>rfl
 | spare=>rfl
 | grow=>rfl
 | map=>rfl
 | growA f q d l j p b=>simp only[Ob.freeze];rw[c6 fun t a=>TC.freeze_free (List.all_eq_true.1 h t a)]
 | growT f m d b=>simp only[Ob.freeze];rw[c6 fun t a=>TC.freeze_free (List.all_eq_true.1 h t a)]
def nQ(k:Nat):Obs->Bool
 | []=>true
 | (_,o)::r=>Ob.free k o&&nQ k r
theorem wT{k:Nat}:∀{a:Obs},nQ k a=true->∀{i:Nat} {o:Ob},B4 a i=some o->o.free k=true
 | [],_,_,_,h=>by cases h
 | (j,s)::r,hf,i,o,h=>by
  simp only[nQ,C30]at hf;by_cases b:j=i
  ·subst b;rw[C4]at h;cases h;exact hf.1
  ·rw[B0 b]at h;exact wT hf.2 h
theorem AF{α:Type}{c:α->Nat->Cell}{m k:Nat}{g:Nat->List α}:(Q8 c m k g).map (TC.freeze (k+1000) α 1 c (g k))=Q8 c m (k+1) g:=by
 unfold Q8;rw[C71];refine List.map_congr_left fun r d=>?_;show TC.freeze (k+1000) α 1 c (g k) (if r<k then _ else _)=_;by_cases h:r<k
 ·rw[A5 h,A5 (by omega)];rfl
 ·rw[A6 h];by_cases b:r=k
  ·subst b;rw[A5 (by omega)];simp[TC.freeze]
  ·have:Nat.beq (r+1000) (k+1000)=false:=I9 (by omega);rw[A6 (by omega)];simp[TC.freeze,this]
theorem C12{P:Program}{f:FuncId}{c:List PV}{g:List PV->Prop}(l:Callable P f)
  (h:∀(w:World) (M:Nat->Nat->Prop) (a:List Value),(∀b i,M b i->b<w.heap.size)->All2 (PV.rep (D9 M w)) c a->Calls P f a.toArray w (fun e w'=>∃v j,e=.returned v/\g j/\ResRep (D9 M w') j v/\Below w.heap.size w w')):FnOk P f c g :=
 ⟨l,fun w M a _ k ha=>h w M a k ha⟩
theorem B98{P:Program}{f:FuncId}{xs:List Value}{r:Value}(g:Callable P f)(j:r.oneCell'=true)
  (h:∀w,Calls P f xs.toArray w (fun e w'=>e=.returned r/\w'=w)):FnOk P f (xs.map fun x=>.one (.v x)) (fun p=>p=[.one (.v r)]):=by
 refine C12 g fun w M a s ha=>?_;have k:a=xs:=by
  clear h g;induction xs generalizing a with
  | nil=>cases a with
   | nil=>rfl
   | cons _ _=>exact ha.elim
  | cons x xs l=>cases a with
   | nil=>exact ha.elim
   | cons v q =>
    obtain⟨b,c⟩:=ha;rw[l q c,b.1]
 rw[k];refine (h w).mono fun e w' i=>?_;obtain⟨b,c⟩:=i;exact⟨r,_,b,rfl,⟨rfl,j⟩,by rw[c];exact Below.refl _ _⟩
section
variable {P:Program}{dst:Option Tmp}{ty:TypeId}{pos:String}{af:Array Edge}{gd:Option (Nat×Bool)}{fr:Fr}{ob:Obs}
theorem E8{x:Operand}{k o:Nat}(j:opv fr x=some (.s (.one (.ref k o)))):Neu P ⟨dst,.nilCheck x,ty,pos,af,gd⟩ fr ob (fun m=>m=.s (.one (.ref k o))) :=
 E1 fun S G a w h=>by
  obtain⟨b,d,g⟩:=F4 h j;refine⟨_,?_,b,d,rfl⟩;simp only[execOp,g];rfl
theorem S6{x:Operand}{k g i o:Nat}(q:opv fr x=some (.s (.one (.mref k g i o)))):Neu P ⟨dst,.nilCheck x,ty,pos,af,gd⟩ fr ob (fun t=>t=.s (.one (.mref k g i o))) :=
 E1 fun S G a w h=>by
  obtain⟨b,n,d,j,p⟩:=F4 h q;refine⟨_,?_,b,n,d,j,rfl⟩;simp only[execOp,p];rfl
theorem n_compl{x:Operand}{t:TypeId}{k:IntKind}{n r:Int}(c:opv fr x=some (I6 (.int k n)))(hs:k.signed=false)(b:∀w:World,(Op.intBits .xor k k.max n).run P w=.ok (.int k r) w):Neu P ⟨dst,.unOp .xor t x,ty,pos,af,gd⟩ fr ob (fun d=>d=I6 (.int k r)) :=
 E1 fun S G a w h=>⟨_,by simp only[execOp,E9 h c];exact J8 (by simp[Op.unary,hs];exact b w),rfl,rfl⟩
theorem sH{t:TypeId}{x y:Operand}{k o n:Nat}{e:TypeId}{D:List TC}{s:S1}(V:(P.info? t).map (·.size)=some n)(hx:opv fr x=some (.s (.one (.ref k o))))(W:B4 ob k=some (.tbx e D))(hy:opv fr y=some (.s s))(Y:H3 y=true)
  (X:s.cells.length=n) (J:Nat.ble (o+n) D.length=true):Eff P ⟨none,.store t x y,ty,pos,af,gd⟩ fr ob fr ((k,.tbx e (setTs D o s.cells))::ob):=by
 intro S G a w h;obtain⟨b,Q,C⟩:=F4 h hx;obtain⟨b',A,K,hh,ha⟩:=h.obs k _ W;rw[Q]at K;cases K;have hr:(SV.s s).rep (D9 (Mut S ob G) w) G (a.eval y):=N8 h hy Y;have g:=B93 hr;have q:(a.eval y).cells.size=n:=by rw[<-X,g.length];simp
 have R:o+n<=D.length:=by simpa using J
 have M:∀u∈(a.eval y).cells.toList,u.oneCell'=true:=by
  intro u C;have:∀(D:List TC) (A:List Value),All2 (TC.rep (D9 (Mut S ob G) w) G) D A->∀u∈A,u.oneCell'=true:=by
   intro D;induction D with
   | nil=>intro A h u C;cases A with | nil=>cases C | cons=>exact h.elim
   | cons t D ih =>
    intro A h u C;cases A with
    | nil=>exact h.elim
    | cons v A =>
     rcases C36.1 C with rfl | C
     ·exact TC.rep_one h.1
     ·exact ih A h.2 u C
  exact this _ _ g u C
 obtain⟨w',O,T,I,N,H,B,F⟩:=Y8 (P:=P) (t:=t) (w:=w) (b:=b) (o:=o) (v:=a.eval y) (by rw[V,q]) hh M (by rw[q,<-ha.length];exact R);unfold Does;have he:(execOp a.eval ⟨none,.store t x y,ty,pos,af,gd⟩).run P w=.ok .skip w':=by
  simp[execOp,C,Instr.storeAt,Instr.sureAddr,O]
 rw[he];have E:blk (G k)=some b:=by rw[Q];rfl
 refine⟨G,h.write W E (fun i=>⟨E,trivial⟩) (fun i=>⟨E,trivial⟩) T I N (Nat.le_of_eq H.symm) (fun j _=>B j) ?_⟩;intro rd U;refine⟨b,_,Q,F,?_⟩;have Z:A.drop (o+(a.eval y).cells.size)=A.drop (o+s.cells.length):=by rw[q,X]
 unfold setTs;rw[Z];exact (((ha.take o).append g).append (ha.drop _)).mono fun _ _=>TC.rep_mono U
theorem lP{x:Operand}{t e:TypeId}{k o:Nat}{j:List TC}{s:TC}[ht:TyOne P t](y:opv fr x=some (.s (.one (.ref k o))))(q:B4 ob k=some (.tbx e j))(u:j[o]?=some s) :
  Neu P ⟨dst,.load t x,ty,pos,af,gd⟩ fr ob (fun A=>A=.s (.one s)) :=
 E1 fun S G a w h=>by
  obtain⟨b,m,v⟩:=F4 h y;obtain⟨B,C,c,p,ha⟩:=h.obs k _ q;rw[m]at c;cases c;obtain⟨z,g,i⟩:=ha.get o s u;refine⟨z,?_,i⟩;simp only[execOp,v];refine J8 ?_;simp[Instr.loadAt,Instr.sureAddr,P2 (ht:=ht) (cell_of_heap p (by simpa using g))]
theorem sI(k:Nat){e:TypeId}{z:Value}[hz:TyZero P e z](j:(G5 k fr&&K5 k ob)=true) :
  EffV P ⟨dst,.alloc e,ty,pos,af,gd⟩ fr ob (.s (.one (.ref k 0))) fr ((k,.tbx e (z.cells.toList.map fun c=>.p (.v c)))::ob):=by
 simp only[C30]at j;obtain⟨m,q⟩:=j;obtain⟨u,y,A⟩:=Q6 q;intro S G a w h;refine F3 (w':=w.alloc (.cells z.cells e)) (v:=.pointer (some ⟨w.heap.size,0,none⟩)) ?_ ?_
 ·simp[execOp,Instr.alloc,newVar,newRow,M5 hz.out.1]
 ·have d:Below w.heap.size w (w.alloc (.cells z.cells e)):=(Below.refl _ _).alloc (Nat.le_refl _) _;have B:∀b,blk (.pointer (some ⟨w.heap.size,0,none⟩))=some b->w.heap.size<=b:=by intro b hb;simp[blk]at hb;omega
  have g:=h.new (o:=.tbx e (z.cells.toList.map fun c=>.p (.v c))) A y d B ⟨w.heap.size,z.cells.toList,rfl,by rw[Array.toArray_toList];exact heap_alloc_new w _,y7 _ hz.out.2⟩;rw[T4 m,u]at g;exact⟨upd G k (.pointer (some ⟨w.heap.size,0,none⟩)),g,⟨w.heap.size,G7 _ _ _,rfl⟩⟩
end
def oN(fr:Fr):Fr:=fr.map fun x=>(x.1+1000000,x.2)
theorem aO:∀(fr:Fr) (i:Nat) (s:SV),D4 (oN fr) i=some s->1000000<=i/\D4 fr (i-1000000)=some s
 | [],i,s,h=>by simp[oN,D4]at h
 | (j,x)::r,i,s,h=>by
  by_cases a:j+1000000=i
  ·subst a;simp only[oN,C39]at h;rw[C7]at h;cases h;exact⟨by omega,by rw[Nat.add_sub_cancel,C7]⟩
  ·simp only[oN,C39]at h;rw[B9 a]at h;obtain⟨b,c⟩:=aO r i s h;exact⟨b,by rw[B9 (by omega)];exact c⟩
theorem zG{fr:Fr}:∀{i:Nat} {s:SV},D4 fr i=some s->D4 (oN fr) (i+1000000)=some s:=by
 induction fr with
 | nil=>intro i s h;simp[D4]at h
 | cons x r b =>
  obtain⟨j,y⟩:=x;intro i s h;by_cases a:j=i
  ·subst a;rw[C7]at h;cases h;simp only[oN,C39];rw[C7]
  ·rw[B9 a]at h;simp only[oN,C39];rw[B9 (by omega)];exact b h
theorem TW(k:Nat)(fr:Fr):Fr.forget k (oN fr)=oN (Fr.forget k fr):=by simp[oN,Fr.forget,Function.comp_def]
def bW:Nat->List S1->Fr
 | _,[]=>[]
 | i,p::ps=>(i,.s p)::bW (i+1) ps
theorem qJ:∀(i:Nat) (ps:List S1) (k:Nat) (s:SV),D4 (bW i ps) k=some s->i<=k/\∃p,ps[k-i]?=some p/\s=.s p
 | i,[],k,s,h=>by simp[bW,D4]at h
 | i,p::ps,k,s,h=>by
  by_cases a:i=k
  ·subst a;simp only[bW,C7]at h;cases h;exact⟨Nat.le_refl _,p,by simp,rfl⟩
  ·simp only[bW]at h;rw[B9 a]at h;obtain⟨d,q,b,c⟩:=qJ (i+1) ps k s h;refine⟨by omega,q,?_,c⟩;have:k-i=(k-(i+1))+1:=by omega
   rw[this];simpa using b
theorem Y1:∀(a b:Fr) (k:Nat),D4 (a++b) k=(D4 a k).orElse fun _=>D4 b k
 | [],b,k=>rfl
 | (i,s)::r,b,k=>by
  show D4 ((i,s)::(r++b)) k=_;by_cases h:i=k
  ·subst h;rw[C7,C7];rfl
  ·rw[B9 h,B9 h,Y1 r b k]
def AH:List S1->SV
 | [p]=>.s p
 | ps=>.tup ps
def aP(a:Rd)(G:Gh)(b:List S1)(v:Value):Prop:=(AH b).rep a G v
def RetS(P:Program)(fn:Func)(fr:Fr)(ob:Obs)(b:List S1):Prop :=
 ∀S G a w,Sim P S fr ob G a w->∃v,(results fn a.tmps).run P w=.ok v w/\aP (D9 (Mut S ob G) w) G b v
def C8(ks:List Nat)(fr:Fr):Fr:=ks.foldl (fun f k=>Fr.forget k f) fr
theorem aQ:∀{ks:List Nat} {fr:Fr} {i:Nat} {s:SV},D4 (C8 ks fr) i=some s->∃b,D4 fr i=some b
 | [],_,_,s,h=>⟨s,h⟩
 | k::ks,fr,i,s,h=>by
  obtain⟨b,a⟩:=aQ (ks:=ks) (fr:=Fr.forget k fr) h;rw[P1]at a;cases c:D4 fr i with
  | none=>rw[c]at a;cases a
  | some s1=>exact⟨s1,rfl⟩
theorem cY:∀(a:List Nat) (fr:Fr),C8 a (oN fr)=oN (C8 a fr)
 | [],_=>rfl
 | k::a,fr=>by
  show C8 a (Fr.forget k (oN fr))=oN (C8 a (Fr.forget k fr));rw[TW,cY a]
def High(gf:Fr):Prop:=∀i s,D4 gf i=some s->1000000<=i
def Tail(gf fr:Fr):Prop:=∀i s,1000000<=i->D4 gf i=some s->D4 fr i=some s
theorem bX{gf:Fr}:Tail gf gf:=fun _ _ _ h=>h
theorem tail_cons{gf fr:Fr}{j:Nat}{s:SV}(a:Nat.blt j 1000000=true)(h:Tail gf fr):Tail gf ((j,s)::fr):=fun i d c b=>by
 have a:j<1000000:=by simpa using a
 rw[B9 (by omega)];exact h i d c b
theorem fP(k:Nat){gf fr:Fr}(h:Tail gf fr):Tail (Fr.forget k gf) (Fr.forget k fr):=fun i s c b=>by
 rw[P1]at b ⊢;cases a:D4 gf i with
 | none=>rw[a]at b;cases b
 | some d=>rw[a]at b;rw[h i d c a];exact b
def metP(P:Program)(fn:Func)(d:List Nat)(gf:Fr)(b:List S1->Obs->Prop):Post
 | .normal,fr,ob | .ret,fr,ob=>∃c ob',RetS P fn fr ob c/\Tail (C8 d gf) fr/\(∀k o,B4 ob' k=some o->B4 ob k=some o)/\b c ob'
 | _,_,_=>False
def Met(P:Program)(f:FuncId)(args:List S1)(gf:Fr)(ob:Obs)(h:List Nat)(c:List S1->Obs->Prop):Prop :=
 Callable P f/\(High gf->∀S G a w (b:List Value),Sim P S gf ob G a w->All2 (S1.rep (D9 (Mut S ob G) w) G) args b ->
  Calls P f b.toArray w (fun e w'=>∃v g ob' G',e=.returned v/\c g ob'/\aP (D9 (Mut S ob' G') w') G' g v/\Sim P S (C8 h gf) ob' G' a w'))
theorem Met.mono{f:FuncId}{args:List S1}{gf:Fr}{g:List Nat}{c b:List S1->Obs->Prop}(h:Met P f args gf ob g c)(p:∀rs ob,c rs ob->b rs ob):Met P f args gf ob g b :=
 ⟨h.1,fun l S G a w d hs ha=>(h.2 l S G a w d hs ha).mono fun e w' ⟨v,rs,ob',G',i,j,k⟩=>⟨v,rs,ob',G',i,p _ _ j,k⟩⟩
theorem Met.intro{f:FuncId}{fn:Func}{c:Code}{args:List S1}{gf:Fr}{N:List Nat}{y:List S1->Obs->Prop}(hf:P.funcs[f]?=some fn)(E:(fn.name == "runtime.NumGoroutine")=false)(hb:fn.body=some c)(J:Nat.ble args.length fn.ntmps=true)(Z:Nat.ble fn.ntmps 1000000=true)
  (h6:WpC P fn.ntmps c (bW 0 args++gf) ob (metP P fn N gf y)):Met P f args gf ob N y:=by
 refine⟨⟨fn,hf,E,by simp[hb]⟩,fun C S G a w j h B=>?_⟩;have ad:j.length=args.length:=B.length.symm;have ac:args.length<=fn.ntmps:=by simpa using J
 have Y:fn.ntmps<=1000000:=by simpa using Z
 let S':Ctx:={ S with nt:=fn.ntmps,df:=[] }
 have hs:Sim P S' (bW 0 args++gf) ob G { tmps:=j.toArray++Array.replicate (fn.ntmps-j.toArray.size) undef,defers:=[] } w:=by
  refine { h with nt:=by simp[S'];omega,ntb:=Y,defers:=rfl,facts:=?_ };intro i s q;rw[Y1]at q;cases H:D4 (bW 0 args) i with
  | some Q =>
   rw[H]at q;have q:some Q=some s:=q;cases q;obtain⟨_,p,hp,rfl⟩:=qJ 0 args i _ H;obtain⟨u,hu,hr⟩:=B.get (i-0) p hp;have W:i<j.length:=(List.getElem?_eq_some_iff.1 hu).1;have I:(j.toArray++Array.replicate (fn.ntmps-j.toArray.size) undef).getD i undef=u:=by
    rw[Array.getD_eq_getD_getElem?,Array.getElem?_append_left (by simpa using W)];simpa using congrArg (fun x=>x.getD undef) hu
   rw[Ctx.sl_lt (by omega),I];exact hr
  | none =>
   rw[H]at q;have q:D4 gf i=some s:=q;have V:=C i s q;have F:=h.facts i s q;rw[Ctx.sl_ge V]at F ⊢;exact F
 refine eC hf hb (wp_mono (h6 S' _ _ w rfl hs) ?_);rintro e T w' ⟨fr',ob',G',hq,A⟩;have fin:(∃rs m,RetS P fn fr' ob' rs/\Tail (C8 N gf) fr'/\(∀k o,B4 m k=some o->B4 ob' k=some o)/\y rs m)->∀ds w',Sim P { S' with df:=ds } fr' ob' G' T w'->∃v,(results fn T.tmps).run P w'=.ok v w'/\(∃R rs ob' G',Ending.returned v=.returned R/\y rs ob'/\aP (D9 (Mut S ob' G') w') G' rs R/\Sim P S (C8 N gf) ob' G' a w'):=by
  rintro⟨rs,m,hr,H,ho,hp⟩ ds w' A;obtain⟨v,hv,L⟩:=hr _ G' T w' A;have K:∀b i,Mut S' m G' b i->Mut S' ob' G' b i:=by
   rintro b i (X | ⟨k,o,hk,ab⟩)
   ·exact .inl X
   ·exact .inr ⟨k,o,ho k o hk,ab⟩
  have M:=(A.weaken (fr':=C8 N gf) (fun i s q=>by
   obtain⟨Q,U⟩:=aQ q
   exact H i s (C i Q U) q)).weakenO ho
  refine⟨v,hv,v,rs,m,G',rfl,hp,SV.rep_mono (fun b i z hz=>⟨hz.1,fun X=>hz.2 (K b i X)⟩) L,{ M with nt:=h.nt,ntb:=h.ntb,defers:=h.defers,facts:=fun i s q=>?_ }⟩;obtain⟨Q,U⟩:=aQ q;have V:=C i Q U;have F:=M.facts i s q;rw[Ctx.sl_ge V]at F ⊢;exact F
 cases e with
 | normal=>exact A.leave rfl (fin hq)
 | ret=>exact A.leave rfl (fin hq)
 | _=>exact hq.elim
theorem F1{fn:Func}{c:List Nat}{gf:Fr}{a:List S1->Obs->Prop}{b:List S1}{ob':Obs}(h:RetS P fn fr ob b)(d:Tail (C8 c gf) fr)(f:∀k o,B4 ob' k=some o->B4 ob k=some o)(g:a b ob'):metP P fn c gf a .ret fr ob :=
 ⟨b,ob',h,d,f,g⟩
theorem AI{fn:Func}{d:List Nat}{gf:Fr}{b:List S1->Obs->Prop}{c:List S1}{ob':Obs}(h:RetS P fn fr ob c)(e:Tail (C8 d gf) fr)(f:∀k o,B4 ob' k=some o->B4 ob k=some o)(g:b c ob'):metP P fn d gf b .normal fr ob :=
 ⟨c,ob',h,e,f,g⟩
theorem rets0{fn:Func}(b:fn.results=#[]):RetS P fn fr ob []:=fun S G a w h=>⟨.tuple #[],by simp[results,b],[],rfl,trivial⟩
theorem O3{fn:Func}{t:Tmp}{s:S1}(b:fn.results=#[.tmp t])(c:cW fr t=some (.s s)):RetS P fn fr ob [s] :=
 fun S G a w h=>⟨a.tmps.getD t undef,by simp[results,b],h.slot c⟩
theorem dW{fn:Func}{t c:Tmp}{s d:S1}(f:fn.results=#[.tmp t,.tmp c])(g:cW fr t=some (.s s))(b:cW fr c=some (.s d)):RetS P fn fr ob [s,d] :=
 fun S G a w h=>⟨.tuple #[a.tmps.getD t undef,a.tmps.getD c undef],by simp[results,f],[_,_],rfl,h.slot g,h.slot b,trivial⟩
def fQ(fr:Fr):List Operand->Option (List S1)
 | []=>some []
 | x::r=>match opv fr x with
  | some (.s s)=>match fQ fr r with
   | some ps=>some (s::ps)
   | none=>none
  | _=>none
theorem bY{S:Ctx}{G:Gh}{a:Act}{w:World}(h:Sim P S fr ob G a w):∀(b:List Operand) (ps:List S1),fQ fr b=some ps->b.all H3=true->All2 (S1.rep (D9 (Mut S ob G) w) G) ps (b.map a.eval)
 | [],ps,h1,_=>by simp[fQ]at h1;subst h1;trivial
 | x::r,ps,h1,h2=>by
  simp only[List.all_cons,C30]at h2;unfold fQ at h1;split at h1
  ·rename_i s d;split at h1
   ·rename_i f c;simp only[Option.some.injEq]at h1;subst h1;have hs:(SV.s s).rep (D9 (Mut S ob G) w) G (a.eval x):=N8 h d h2.1;exact⟨hs,bY h r f c h2.2⟩
   ·cases h1
  ·cases h1
theorem S9{f:FuncId}{xs:List Operand}{E:Array TypeId}{ty:TypeId}{pos:String}{af:Array Edge}{args:List S1}{J:List Nat}{j:List S1->Obs->Prop}
  (N:Met P f args (oN fr) ob J j) (ha:fQ fr xs=some args) (T:xs.all H3=true) (U:Nat.blt d nt=true)
  (Y:∀rs ob',j rs ob'->WpL P nt ops rest ((d,AH rs)::C8 J fr) ob' Q):WpL P nt ops (⟨some d,.call ⟨.value (.func f),xs.toArray,E⟩,ty,pos,af,none⟩::rest) fr ob Q:=by
 intro S G a w O h;have C:=bY h xs args ha T;obtain⟨D,F⟩:∃D:Nat->Value,D=fun i=>S.sl a (i-1000000):=⟨_,rfl⟩
 let S':Ctx:={ S with gv:=D }
 have z:High (oN fr):=fun i s H=>(aO fr i s H).1;have b:∀i s,D4 (oN fr) i=some s->s.rep (D9 (Mut S' ob G) w) G (S'.sl a i):=by
  intro i s H;obtain⟨x,L⟩:=aO fr i s H;rw[Ctx.sl_ge x];show s.rep _ _ (D i);have e:=congrFun F i;rw[e];exact h.facts (i-1000000) s L
 have hs:Sim P S' (oN fr) ob G a w:={ h with facts:=b }
 have m:=N.2 z S' G a w _ hs C;refine wpList_plain rfl fun K R=>L4 (K:=fun v w'=>∃rs ob' G',j rs ob'/\aP (D9 (Mut S' ob' G') w') G' rs v/\Sim P S' (C8 J (oN fr)) ob' G' a w') ?_ ?_
 ·have V:(execOp a.eval ⟨some d,.call ⟨.value (.func f),xs.toArray,E⟩,ty,pos,af,none⟩).run P w=.ok (.enter f (xs.map a.eval).toArray) w:=by
   have:=Q5 (P:=P) (f:=f) (args:=(xs.map a.eval).toArray) (w:=w) N.1;have W:xs.toArray.map a.eval=(xs.map a.eval).toArray:=by simp
   simp only[execOp,resolve,Act.eval,Deferred.ofValue,Sem.run_bind,Sem.run_pure,Result.andThen_ok,invoke];rw[show (#[]:Array Value)++Array.map a.eval xs.toArray++#[]=(xs.map a.eval).toArray by rw[<-W];simp];exact this
  unfold Does;rw[V];refine m.mono ?_;rintro e w' ⟨v,rs,ob',G',rfl,B,g,q⟩;exact⟨v,rfl,rs,ob',G',B,g,q⟩
 ·rintro v w' ⟨rs,ob',G',X,g,q⟩;have M:d<S.nt:=by rw[O];simpa using U
  have p:∀i s,D4 (C8 J fr) i=some s->s.rep (D9 (Mut S ob' G') w') G' (S.sl a i):=by
   intro i s H;have x:=q.facts (i+1000000) s (by rw[cY];exact zG H);have L:1000000<=i+1000000:=Nat.le_add_left _ _;rw[Ctx.sl_ge L]at x;have x:s.rep (D9 (Mut S ob' G') w') G' (D (i+1000000)):=x;have e:=congrFun F (i+1000000);simp only[Nat.add_sub_cancel]at e;rw[e]at x;exact x
  have I:Sim P S (C8 J fr) ob' G' a w':={ q with facts:=p }
  exact R _ _ (Y rs ob' X S G' _ w' O (I.put M g))
variable {gf:Fr}
theorem Grd.pow10{w:World}{j:Nat->Prop}(h:Grd P j w){g:Nat}(c:P.globalNamed "internal/strconv.uint64pow10"=some g):Lib.TabIs P w "internal/strconv.uint64pow10" .u64 Lib.pow10Tab:=by
 obtain⟨d,⟨_,i⟩,f,e⟩:=h;have a:=i g c;have b:g<d.heap.size:=by
  unfold Lib.TabIs World.var? at a;rw[c]at a;by_cases b:g<d.heap.size
  ·exact b
  ·rw[Option.bind_some,Array.getElem?_eq_none (by omega)]at a;cases a
 unfold Lib.TabIs World.var? at a ⊢;rw[c]at a ⊢;simp only[Option.bind_some]at a ⊢;rw[(e g b).1];exact a
theorem C09{f:FuncId}{a:List PV}{c:List PV->Prop}(k:Callable P f)
  (h:∀(w:World) (M:Nat->Nat->Prop) (g:List Value),Grd P (fun _=>False) w->(∀b i,M b i->b<w.heap.size)->All2 (PV.rep (D9 M w)) a g->Calls P f g.toArray w (fun e w'=>∃v j,e=.returned v/\c j/\ResRep (D9 M w') j v/\Below w.heap.size w w')):FnOk P f a c:=by
 unfold FnOk;exact⟨k,h⟩
theorem C03{f:FuncId}{xs:List Value}{r:Value}(g:Callable P f)(k:r.oneCell'=true)
  (h:∀w,Grd P (fun _=>False) w->Calls P f xs.toArray w (fun e w'=>e=.returned r/\Below w.heap.size w w')):FnOk P f (xs.map fun x=>.one (.v x)) (fun q=>q=[.one (.v r)]):=by
 refine C09 g fun w M a j y ha=>?_;have l:a=xs:=by
  clear h g;induction xs generalizing a with
  | nil=>cases a with
   | nil=>rfl
   | cons _ _=>exact ha.elim
  | cons x xs p=>cases a with
   | nil=>exact ha.elim
   | cons v s =>
    obtain⟨b,c⟩:=ha;rw[p s c,b.1]
 rw[l];refine (h w j).mono fun e w' i=>?_;obtain⟨b,c⟩:=i;exact⟨r,_,b,rfl,⟨rfl,k⟩,c⟩
theorem Met.copyCheck{f:FuncId}{k:Nat}{e:TypeId}{a t:TC}(V:Callable P f)
  (z:∀(b:Nat) (w:World),w.cell? ⟨b,0,none⟩=some (.pointer none)->w.shape? b=some (e,2)->w.frozen? ⟨b,0,none⟩=false ->
   Calls P f #[.pointer (some ⟨b,0,none⟩)] w fun x w'=>x=.returned (.tuple #[])/\w'=w.setCell ⟨b,0,none⟩ (.pointer (some ⟨b,0,none⟩)))
  (E:∀(b:Nat) (w:World),w.cell? ⟨b,0,none⟩=some (.pointer (some ⟨b,0,none⟩))->Calls P f #[.pointer (some ⟨b,0,none⟩)] w fun x w'=>x=.returned (.tuple #[])/\w'=w)
  (U:B4 ob k=some (.tbx e [a,t])) (ha:a=.p (.v (.pointer none))\/a=.ref k 0) :
  Met P f [.one (.ref k 0)] gf ob [] (fun X ob'=>X=[]/\ob'=(k,.tbx e [.ref k 0,t])::ob):=by
 refine⟨V,fun _ S G N w L hs T=>?_⟩
 match L,T with
 | [u],T =>
  obtain⟨b,F,rfl⟩:∃b,G k=.pointer (some ⟨b,0,none⟩)/\u=.pointer (some ⟨b,0,none⟩):=T.1;obtain⟨b',Y,H,J,g⟩:=hs.obs k _ U;rw[F]at H;cases H
  match Y,g with
  | [p,v],g =>
   have C:blk (G k)=some b:=by rw[F];rfl
   have h:w.cell? ⟨b,0,none⟩=some p:=cell_of_heap J rfl;have M:aP (D9 (Mut S ((k,.tbx e [.ref k 0,t])::ob) G) w) G [] (.tuple #[]):=⟨[],rfl,trivial⟩
   have done:∀w',(∀(K:w'.os=w.os) (y:w'.tape=w.tape) (B:w'.output=w.output) (q:w'.heap.size=w.heap.size),(∀j,j≠b->w'.heap[j]?=w.heap[j]?)->w'.heap[b]?=some (.cells #[.pointer (some ⟨b,0,none⟩),v] e (0,0)) ->
     Sim P S gf ((k,.tbx e [.ref k 0,t])::ob) G N w'):=by
    intro w' K y B q A D;refine hs.write U C (fun i=>⟨C,trivial⟩) (fun i=>⟨C,trivial⟩) K y B (Nat.le_of_eq q.symm) (fun j _=>A j) fun rd R=>?_;exact⟨b,[.pointer (some ⟨b,0,none⟩),v],F,D,⟨b,F,rfl⟩,TC.rep_mono R g.2.1,trivial⟩
   rcases ha with rfl | rfl
   ·obtain⟨rfl,_⟩:p=.pointer none/\_:=g.1;refine (z b w h ?_ ?_).mono fun x w' Q=>?_
    ·unfold World.shape?;rw[J];rfl
    ·unfold World.frozen?;rw[J];rfl
    ·obtain⟨rfl,rfl⟩:=Q;refine⟨_,[],_,G,rfl,⟨rfl,rfl⟩,⟨[],rfl,trivial⟩,?_⟩;refine done _ Z Z Z (by simp[World.setCell]) (fun j W=>heap_setCell_other w _ j _ W) ?_;rw[heap_setCell_same w b 0 _ e _ J];rfl
   ·obtain⟨O,I,rfl⟩:∃O,G k=.pointer (some ⟨O,0,none⟩)/\p=.pointer (some ⟨O,0,none⟩):=g.1;rw[F]at I;cases I;refine (E b w h).mono fun x w' Q=>?_;obtain⟨rfl,rfl⟩:=Q;exact⟨_,[],_,G,rfl,⟨rfl,rfl⟩,⟨[],rfl,trivial⟩,done w' rfl rfl rfl rfl (fun _ _=>rfl) J⟩
def SV.flat:SV->SV
 | .s (.one (.p (.v x)))=>.s (.one (.p (.v x)))
 | .un=>.un
 | _=>.any
theorem C14{b a:Rd}{G G':Gh}{s:SV}{u:Value}(h:s.rep b G u):s.flat.rep a G' u:=by
 unfold SV.flat
 split
 ·exact h
 ·exact h
 ·trivial
def OA(fr:Fr):Fr:=fr.map fun x=>(x.1,x.2.flat)
theorem GP:∀(fr:Fr) (i:Nat),D4 (OA fr) i=(D4 fr i).map SV.flat
 | [],i=>rfl
 | (j,s)::r,i=>by
  by_cases h:j=i
  ·subst h;simp[OA,D4]
  ·have b:=GP r i;simp only[OA,C39]at b ⊢;rw[B9 h,B9 h,b]
theorem nR{f:FuncId}{x:Operand}{J:Array TypeId}{ty:TypeId}{pos:String}{af:Array Edge}{k k':Nat}{e eb:TypeId}{a:TC}{xs:List UInt8}(W:Callable P f)
  (hf:∀(B b:Nat) (l:List UInt8) (w:World),Lib.IsBuilder e eb B b (Lib.byteCells l) w->B<=w.heap.size->Calls P f #[.pointer (some ⟨b,0,none⟩)] w fun x w'=>x=.returned (.string ⟨l.toArray⟩)/\Below B w w')
  (hx:opv fr x=some (.s (.one (.ref k 0)))) (D:B4 ob k=some (.tbx e [a,.buf k' UInt8 1 rX xs])) (X:B4 ob k'=some (.spare xs.length 1 eb)) (hkl:Nat.blt k 1000000=true) (Y:Nat.beq k k'=false)
  (ha:a=.p (.v (.pointer none))\/a=.ref k 0) (hd:Nat.blt d nt=true)
  (kk:WpL P nt ops rest ((d,H6 xs)::OA fr) [] Q):WpL P nt ops (⟨some d,.call ⟨.value (.func f),#[x],J⟩,ty,pos,af,none⟩::rest) fr ob Q:=by
 intro S G H w hn h;obtain⟨b,hG,aj⟩:=F4 h hx;obtain⟨b',vs,O,hh,q⟩:=h.obs k _ D;rw[hG]at O;cases O;have T:blk (G k)=some b:=by rw[hG];rfl
 match vs,q with
 | [p,v],q =>
  obtain⟨hv,y⟩:v=G k'/\(Cell.list UInt8 1 rX xs).rep (D9 (Mut S ob G) w) v:=q.2.1;subst hv;obtain⟨ws,m⟩:=h.obs k' _ X;have M:S.B<=b:=by
   rcases h.old k _ b D T with L | L
   ·exact L
   ·have:k<1000000:=by simpa using hkl
    omega
  have E:(G k').ownBlock≠some b:=by
   rw[r7 (c5 m)];intro he;have:=h.dis k k' _ _ b D X T he;rw[this]at Y;simp at Y
  have ak:ws=Lib.byteCells xs:=by
   obtain⟨ar,an,ax,aw,ad,au,ap,ai,aq,ao⟩:=U1 y;refine List.ext_getElem (by rw[m.1,Lib.byteCells_length];omega) fun j L h2=>?_;have hj:j<xs.length:=by rw[m.1]at L;omega
   rcases m.2 with ⟨_,av⟩ | ⟨g,cap',cur,hgv,_⟩
   ·omega
   ·have V:=m.cells (g:=g) (by rw[hgv];rfl) j ws[j] (by simp[L]);rw[Addr.add_lit,Nat.zero_add]at V;have ag:SliceAt (D9 (Mut S ob G) w) 1 xs.length (fun i j z=>∃h:i<xs.length,(rX xs[i] j).rep (D9 (Mut S ob G) w) z) (G k'):=by simpa only[Cell.rep] using y
    obtain⟨a2,c2,Z,_,_,C⟩:=ag;rcases C with h0 | ⟨b2,o2,ha2,hr2⟩
    ·omega
    ·rw[hgv]at Z;injection Z with e1 e2 e3
     rw[ha2]at e1;injection e1 with e1
     injection e1 with e4 e5 e6
     obtain⟨z,al,_,am⟩:=hr2 j hj 0 (by omega);have ac:=al.1;rw[<-e4,<-e5,show 0+j*1+0=j by omega,V]at ac;obtain⟨rfl,_⟩:=am;have:ws[j]=.int .u8 xs[j].toNat:=by simpa using ac
     rw[this];simp[Lib.byteCells]
  rw[ak]at m;have F:(Lib.byteCells xs).length=xs.length:=Lib.byteCells_length xs;have U:Lib.IsBuilder e eb S.B b (Lib.byteCells xs) w:=by
   rcases ha with rfl | rfl
   ·obtain⟨rfl,_⟩:p=.pointer none/\_:=q.1;exact .inl ⟨M,G k',hh,by rw[F];exact m,E⟩
   ·obtain⟨b2,R,rfl⟩:∃b2,G k=.pointer (some ⟨b2,0,none⟩)/\p=.pointer (some ⟨b2,0,none⟩):=q.1;rw[hG]at R;cases R;exact .inr ⟨M,G k',hh,by rw[F];exact m,E⟩
  have A:=hf S.B b xs w U h.size;refine wpList_plain rfl fun K hK=>L4 (K:=fun v w'=>v=.string ⟨xs.toArray⟩/\Below S.B w w') ?_ ?_
  ·have he:(execOp H.eval ⟨some d,.call ⟨.value (.func f),#[x],J⟩,ty,pos,af,none⟩).run P w=.ok (.enter f #[.pointer (some ⟨b,0,none⟩)]) w:=by
    have:=Q5 (P:=P) (f:=f) (args:=#[.pointer (some ⟨b,0,none⟩)]) (w:=w) W;simp only[execOp,resolve,Act.eval,Deferred.ofValue,Sem.run_bind,Sem.run_pure,Result.andThen_ok,invoke];rw[show (#[]:Array Value)++Array.map H.eval #[x]++#[]=#[.pointer (some ⟨b,0,none⟩)] by simp[aj]];exact this
   unfold Does;rw[he];refine A.mono ?_;rintro e w' ⟨rfl,hb⟩;exact⟨_,rfl,rfl,hb⟩
  ·rintro v w' ⟨rfl,hb⟩;have ah:d<S.nt:=by rw[hn];simpa using hd
   have ab:Sim P S (OA fr) [] G H w':={
    nt:=h.nt,ntb:=h.ntb,defers:=h.defers,os:=hb.os.trans h.os,tape:=hb.tape.trans h.tape,output:=hb.output.trans h.output,size:=Nat.le_trans h.size hb.size,
    keep:=fun j hj ae=>(hb.block j hj).trans (h.keep j hj ae),m0:=h.m0,m0io:=h.m0io,grd:=h.grd,pin:=h.pin,
    old:=fun k o b D=>(by simp[B4]at D),dis:=fun k k' o o' b D=>(by simp[B4]at D),obs:=fun k o D=>(by simp[B4]at D),
    facts:=fun i s I=>(by
     rw[GP]at I;cases hg:D4 fr i with
     | none=>rw[hg]at I;cases I
     | some s0 =>
      rw[hg]at I;have I:some s0.flat=some s:=I;cases I
      exact C14 (h.facts i s0 hg)) }
   exact hK _ _ (kk S G _ w' hn (ab.put ah ⟨rfl,rfl⟩))
theorem oX{dst:Option Tmp}{ty:TypeId}{pos:String}{af:Array Edge}{gd:Option (Nat×Bool)}{x:Operand}{b t:TypeId}{l:IntKind}{k:IntKind}{c:UInt8}[hs:TyInt P b l][hd:TyStr P t](j:opv fr x=some (I6 (.int k c.toNat)))(d:c.toNat<128) :
  Neu P ⟨dst,.convert b t x,ty,pos,af,gd⟩ fr ob (fun m=>m=H6 [c]) :=
 E1 fun S G a w h=>by
  refine⟨.string ⟨#[c]⟩,?_,rfl,rfl⟩;simp only[execOp,E9 h j];refine J8 ?_;have f:Utf8.valid (c.toNat:Int)=true:=by
   unfold Utf8.valid;simp;omega
  simp[convert,run_underlying hs.out,run_underlying hd.out,Conv.intToString,Utf8.encode,f,d]
theorem C02(k:Nat)(α:Type)(g:Nat)(c:α->Nat->Cell)(e:TypeId){kb o:Nat}{T:TypeId}{A:List TC}(hb:B4 ob kb=some (.tbx T A))(H:A[o]?=some (.p (.v (.slice none 0 0))))(K:(G5 k fr&&K5 k ob)=true) :
  Sees P nt fr ob fr ((kb,.tbx T (A.set o (.buf k α g c [])))::(k,.spare 0 g e)::ob):=by
 simp only[C30]at K;obtain⟨M,N⟩:=K;obtain⟨O,B,U⟩:=Q6 N;intro S G a w X h;have C:=h.new U (o:=.spare 0 g e) (u:=.slice none 0 0) (w1:=w) B (Below.refl _ _) (fun b hb=>by simp[blk]at hb) ⟨[],World.ownsRow_nil w _ _ _⟩;rw[T4 M,O]at C;have F:k≠kb:=fun Q=>by rw[Q,hb]at B;cases B
 have n:B4 ((k,Ob.spare 0 g e)::ob) kb=some (.tbx T A):=by rw[B0 F];exact hb
 obtain⟨b,Z,R,W,ha⟩:=C.obs kb _ n;have d:blk (upd G k (.slice none 0 0) kb)=some b:=by rw[R];rfl
 refine⟨_,C.retell n d (fun i=>⟨d,trivial⟩) (fun i=>⟨d,trivial⟩) ?_⟩;rintro Y ⟨L,J,D,E,j⟩;refine⟨L,J,D,E,B97 o (fun z V=>?_) j⟩;obtain⟨z',q,I⟩:=j.get o _ H;rw[V]at q;cases q;rw[I.1];exact⟨(G7 _ _ _).symm,F0 α g c⟩
section
variable {P:Program}{dst:Option Tmp}{ty:TypeId}{pos:String}{af:Array Edge}{gd:Option (Nat×Bool)}{fr:Fr}{ob:Obs}{nt:Nat}
theorem lQ{w:World}{B:Nat}{e:TypeId}{a n:Nat}{v:Value}{b:List Value}(h:w.ownsRow B e a v n b):v.oneCell'=true:=by
 rcases h.2 with ⟨rfl,_⟩ | ⟨g,cap,cur,rfl,_⟩<;>rfl
theorem B17(k:Nat)(α:Type)(c:α->Nat->Cell){t e:TypeId}{f d:Nat}[ht:TySl P t e f d](p:(G5 k fr&&K5 k ob)=true) :
  EffV P ⟨dst,.assign (.const (.slice none 0 0)),t,pos,af,gd⟩ fr ob (.s (.one (.mut k))) fr ((k,.grow e α f c [])::ob):=by
 simp only[C30]at p;obtain⟨q,x⟩:=p;obtain⟨z,A,C⟩:=Q6 x;intro S G a w h;refine F3 (w':=w) (v:=.slice none 0 0) Z ?_;have j:=h.new C (o:=.grow e α f c []) (u:=.slice none 0 0) (w1:=w) A (Below.refl _ _) (fun b hb=>by simp[blk]at hb) ⟨[],World.ownsRow_nil w _ _ _,by simp,fun i B=>absurd B (by simp)⟩;rw[T4 q,z]at j;exact⟨upd G k (.slice none 0 0),j,(G7 _ _ _).symm,rfl⟩
theorem KH{x:Operand}{t e q:TypeId}{v d k ec:Nat}{α:Type}{c:α->Nat->Cell}{xs:List α}(A:opv fr x=some (.s (.one (.mut k))))(z:B4 ob k=some (.grow q α ec c xs))[ht:TySl P t e v d] :
  Neu P ⟨dst,.call ⟨.builtin .len,#[x],#[t]⟩,ty,pos,af,gd⟩ fr ob (fun B=>B=B2 xs.length) :=
 E1 fun S G a w h=>by
  refine⟨.int .i64 xs.length,?_,rfl,rfl⟩;obtain⟨j,_⟩:=F4 h A;obtain⟨C,f,_⟩:=h.obs k _ z;rcases f.2 with ⟨p,y⟩ | ⟨g,cap,cur,p,_⟩
  ·rw[p]at j;simp[execOp,resolve,invoke,builtin,j,Builtin.len_,run_underlying ht.out.1,goInt,y]
  ·rw[p]at j;simp[execOp,resolve,invoke,builtin,j,Builtin.len_,run_underlying ht.out.1,goInt]
theorem U2{x y:Operand}{t e v:TypeId}{ec b k:Nat}{α:Type}{c:α->Nat->Cell}{xs:List α}{F:IntKind}{i:Int}[ht:TySl P t e ec b](D:opv fr x=some (.s (.one (.mut k))))(C:B4 ob k=some (.grow v α ec c xs))
  (E:opv fr y=some (I6 (.int F i))) (z:0<=i) (B:i<xs.length):Neu P ⟨dst,.indexAddr t x y,ty,pos,af,gd⟩ fr ob (fun H=>H=.s (.one (.mref k ec i.toNat 0))) :=
 E1 fun S G a w h=>by
  obtain⟨q,_⟩:=F4 h D;obtain⟨J,j,_⟩:=h.obs k _ C;rcases j.2 with ⟨l,I⟩ | ⟨g,cap,cur,l,_⟩
  ·omega
  ·rw[l]at q;refine⟨.pointer (some ⟨g,i.toNat*ec,none⟩),?_,g,xs.length,cap,l,rfl⟩;simp only[execOp,q,E9 h E];refine J8 ?_;have hb:0<=i/\i<(xs.length:Int):=⟨z,B⟩
   simp[Instr.indexAt,run_underlying ht.out.1,asIntOf,hb,H4 ht.size,Addr.add_lit]
theorem iJ{t e:TypeId}{x q:Operand}{k i o n:Nat}{α:Type}{ec:Nat}{c:α->Nat->Cell}{xs:List α}{v:α}(y:α){s:S1}(ap:(P.info? t).map (·.size)=some n)(hx:opv fr x=some (.s (.one (.mref k ec i o))))(hk:B4 ob k=some (.grow e α ec c xs))
  (hv:xs[i]?=some v) (hy:opv fr q=some (.s s)) (X:H3 q=true) (hn:s.cells.length=n) (ho:Nat.ble (o+n) ec=true)
  (ad:∀(rd:Rd) G (us:List Value),All2 (TC.rep rd G) s.cells us->All2 (Cell.rep rd) (cellsOf c y o n) us) (ae:∀j,j<ec->(j<o\/o+n<=j)->c y j=c v j) :
  Eff P ⟨none,.store t x q,ty,pos,af,gd⟩ fr ob fr ((k,.grow e α ec c (xs.set i y))::ob):=by
 intro S G a w h;obtain⟨b,m,aj,hg,hu⟩:=F4 h hx;obtain⟨vs,M,ac,hc⟩:=h.obs k _ hk;obtain⟨am,ar⟩:=List.getElem?_eq_some_iff.1 hv;have hl:=M.1;rcases M.2 with ⟨au,h2⟩ | ⟨b',cap',cur,hg',hB,hh,hcap,hmax,hcs,htake⟩
 ·omega
 rw[hg]at hg';cases hg';have hr:(SV.s s).rep (D9 (Mut S ob G) w) G (a.eval q):=N8 h hy X;have d:=B93 hr;have B:(a.eval q).cells.size=n:=by rw[<-hn,d.length];simp
 have ax:o+n<=ec:=by simpa using ho
 have av:i*ec+ec<=xs.length*ec:=by
  have:(i+1)*ec<=xs.length*ec:=C47 _ am;rw[C62,Nat.one_mul]at this;omega
 have aw:xs.length*ec<=cur.size:=by rw[hcs];exact C47 _ hcap
 have ak:w.heap[b]?=some (.cells cur.toList.toArray e (0,0)):=by rw[Array.toArray_toList];exact hh
 obtain⟨w',ai,ao,W,ag,V,I,Q⟩:=Y8 (P:=P) (t:=t) (w:=w) (b:=b) (o:=i*ec+o) (v:=a.eval q) (by rw[ap,B]) ak (iH d) (by rw[B];simp;omega);unfold Does;have he:(execOp a.eval ⟨none,.store t x q,ty,pos,af,gd⟩).run P w=.ok .skip w':=by
  simp[execOp,hu,Instr.storeAt,Instr.sureAddr,ai]
 rw[he];have N:blk (G k)=some b:=by rw[hg];rfl
 refine⟨G,h.write hk N (fun i=>⟨N,trivial⟩) (fun i=>⟨N,trivial⟩) ao W ag (Nat.le_of_eq V.symm) (fun j _=>I j) ?_⟩;intro rd U;have aq:(a.eval q).cells.toList.length=n:=by simpa using B
 have F:(cur.toList.take (i*ec+o)).length=i*ec+o:=by simp;omega
 have H:(cur.toList.take (i*ec+o)++(a.eval q).cells.toList).length=i*ec+o+n:=by rw[C32,F,aq]
 have ab:(cur.toList.take (i*ec+o)++(a.eval q).cells.toList++cur.toList.drop (i*ec+o+(a.eval q).cells.size)).length=cur.size:=by
  rw[C32,H,C45,B];simp;omega
 refine⟨(cur.toList.take (i*ec+o)++(a.eval q).cells.toList++cur.toList.drop (i*ec+o+(a.eval q).cells.size)).take (xs.length*ec),⟨by simp only[C41,ab,C73];omega,.inr ⟨b,aj,_,by rw[hg];simp,hB,Q,by simpa using hcap,hmax,by simp only[List.size_toArray];rw[ab,hcs],by simp⟩⟩,by simpa using ac,?_⟩;intro p hp j hj;have R:p<xs.length:=by simpa using hp
 have ah:p*ec+j<xs.length*ec:=by
  have:(p+1)*ec<=xs.length*ec:=C47 _ R;rw[C62,Nat.one_mul]at this;omega
 rw[C59 ah];have Y:vs[p*ec+j]?=cur[p*ec+j]?:=by rw[<-htake,C59 ah];simp
 have C:(p*ec+j<i*ec+o\/i*ec+o+n<=p*ec+j)->(cur.toList.take (i*ec+o)++(a.eval q).cells.toList++cur.toList.drop (i*ec+o+(a.eval q).cells.size))[p*ec+j]?=vs[p*ec+j]?:=by
  intro O;rw[Y];rcases O with J | J
  ·rw[C42,C46 (by rw[F];exact J),C59 J];simp
  ·rw[C52 (by rw[H];exact J),H,C61,B];have:i*ec+o+n+(p*ec+j-(i*ec+o+n))=p*ec+j:=by omega
   rw[this];simp
 by_cases T:p=i
 ·subst T;have D:(xs.set p y)[p]'hp=y:=by simp
  rw[D];by_cases al:j<o\/o+n<=j
  ·rw[C (by omega),ae j hj al];obtain⟨z,E,A⟩:=hc p R j hj;rw[ar]at A;exact⟨z,E,Cell.rep_mono U _ _ A⟩
  ·have an:=ad _ _ _ d;have Z:(cellsOf c y o n)[j-o]?=some (c y j):=by
    have K:j-o<(cellsOf c y o n).length:=by rw[I7];omega
    rw[C29 K];have:=U0 c y n o (j-o) _ (C29 K);rw[this.1];congr 2;omega
   obtain⟨z,E,A⟩:=an.get _ _ Z;refine⟨z,?_,Cell.rep_mono U _ _ A⟩;rw[C46 (by rw[H];omega),C52 (by rw[F];omega),F];have:p*ec+j-(p*ec+o)=j-o:=by omega
   rw[this];exact E
 ·have D:(xs.set i y)[p]'hp=xs[p]:=by rw[List.getElem_set_ne (Ne.symm T)]
  rw[D,C (by
   rcases Nat.lt_or_gt_of_ne T with J | J
   ·left;have:(p+1)*ec<=i*ec:=C47 _ J;rw[C62,Nat.one_mul]at this;omega
   ·right;have:(i+1)*ec<=p*ec:=C47 _ J
    rw[C62,Nat.one_mul]at this;omega)]
  obtain⟨z,E,A⟩:=hc p R j hj;exact⟨z,E,Cell.rep_mono U _ _ A⟩
theorem x8{x y:Operand}{k:Nat}{α:Type}{E L:Nat}{c:α->Nat->Cell}{F ys:List α}{t e:TypeId}{s:SV}[ht:TySl P t e E L](hx:opv fr x=some (.s (.one (.mut k))))(hk:B4 ob k=some (.grow e α E c F))
  (hy:opv fr y=some s) (hl:IsList s α E c ys) (Q:F.length+ys.length<=1073741824) (hp:Nat.blt k 1000000=true) :
  EffV P ⟨dst,.call ⟨.builtin .append,#[x,y],#[t,t]⟩,ty,pos,af,gd⟩ fr ob (.s (.one (.mut k))) (Fr.forget k fr) ((k,.grow e α E c (F++ys))::Obs.forget k ob):=by
 intro S G a w h;have am:=ht.out.2.2.1;obtain⟨ah,_⟩:=F4 h hx;have ag:=Z6 h hy hl;obtain⟨ad,ac,vs,ai,J,ao,X,R,aj,U⟩:=U1 ag;obtain⟨ws,q,_,ak⟩:=h.obs k _ hk;obtain⟨v',w',V,D,f,C,ab⟩:=gQ (P:=P) (ty:=ty) S.B ht q h.size (u:=a.eval y) (ad:=ad) (m:=ys.length) (c:=ac) (news:=vs) ai J.2 J.1 X
  (fun b o hb j z hz=>by
   rcases U with h0 | ⟨b',o',A,T⟩
   ·have Y:vs=[]:=List.eq_nil_of_length_eq_zero (by rw[X,h0];simp);rw[Y]at hz;simp at hz
   ·rw[hb]at A;injection A with A;injection A with e1 e2;subst e1;subst e2
    exact (T j z hz).1)
  (U.imp id fun ⟨b',o',A,_⟩=>⟨b',o',A⟩) R Q
 have O:(G k).ownBlock=blk (G k):=r7 (c5 q);have M:∀b i z,D9 (Mut S ob G) w b i z->w'.cell? ⟨b,i,none⟩=some z:=by
  intro b i z T;have H:b<w.heap.size:=World.block_lt_of_cell? w _ T.1;by_cases hb:blk (G k)=some b
  ·exact absurd (Or.inr ⟨k,_,hk,hb,trivial⟩) T.2
  ·rw[World.cell?_of_block (w:=w) (a:=⟨b,i,none⟩) (f.block b H (by rw[O];exact fun e=>hb e.symm))];exact T.1
 have W:=h.turn (o':=.grow e α E c (F++ys)) (u':=v') (by simpa using hp) hk f.os f.tape f.output f.size (fun j Z hb=>f.block j Z (by rw[O];exact fun e=>hb e.symm)) M C
  (by
   intro b i hb ho;rcases C b ho.1 with h1 | h1
   ·exact⟨h1,trivial⟩
   ·omega)
  (fun rd K G' al=>by
   refine⟨_,by rw[C32];exact D,by rw[C32];omega,?_⟩;intro i hi j Z;by_cases H:i<F.length
   ·obtain⟨z,I,N⟩:=ak i H j Z;refine⟨z,?_,?_⟩
    ·rw[C46 (List.getElem?_eq_some_iff.1 I).1];exact I
    ·rw[C82 H];exact Cell.rep_mono K _ _ N
   ·have ae:i-F.length<ys.length:=by simp at hi;omega
    obtain⟨z,I,N⟩:=aj (i-F.length) ae j Z;refine⟨z,?_,?_⟩
    ·have an:F.length*E<=i*E:=C47 _ (by omega);rw[C52 (by rw[q.1];omega),q.1];have:i*E+j-F.length*E=(i-F.length)*E+j:=by rw[Nat.sub_mul];omega
     rw[this];exact I
    ·rw[C81 (by omega)];exact Cell.rep_mono K _ _ N)
 exact F3 (w':=w') (v:=v') (by simp[execOp,resolve,invoke,builtin,ah,V]) ⟨upd G k v',W,(G7 _ _ _).symm,lQ D⟩
theorem C13{t:Nat}{k:Nat}{e:TypeId}{α:Type}{K:Nat}{c:α->Nat->Cell}{O:List α}(ht:D4 fr t=some (.s (.one (.mut k))))(T:B4 ob k=some (.grow e α K c O))(X:Nat.blt 0 K=true) :
  Sees P nt fr ob ((t,.s (.one (.buf k α K c O)))::fr) ((k,.spare O.length K e)::ob):=by
 intro S G a w hn h;obtain⟨vs,A,M,ab⟩:=h.obs k _ T;have y:∀v C,B4 ((k,Ob.spare O.length K e)::ob) v=some C->∃L,B4 ob v=some L/\∀u b i,Own u C b i->Own u L b i:=by
  intro v C d;by_cases q:v=k
  ·subst q;exact⟨_,T,fun u b i Z=>⟨Z.1,trivial⟩⟩
  ·rw[B0 (Ne.symm q)]at d;exact⟨_,d,fun _ _ _ Z=>Z⟩
 have J:∀b i z,D9 (Mut S ob G) w b i z->D9 (Mut S ((k,Ob.spare O.length K e)::ob) G) w b i z:=by
  intro b i z hr;refine⟨hr.1,fun I=>hr.2 ?_⟩;rcases I with I | ⟨v,C,d,hb⟩
  ·exact .inl I
  ·obtain⟨L,U,D⟩:=y v C d;exact .inr ⟨v,L,U,D _ _ _ hb⟩
 refine⟨G,{ h with old:=?_,dis:=?_,obs:=?_,facts:=?_ }⟩
 ·intro v C b d hb;obtain⟨L,U,_⟩:=y v C d;exact h.old v L b U hb
 ·intro k1 k2 C o2 b Q R E F;obtain⟨oa,ha,_⟩:=y k1 C Q;obtain⟨ob',V,_⟩:=y k2 o2 R;exact h.dis k1 k2 oa ob' b ha V E F
 ·intro v C d;by_cases q:v=k
  ·subst q;rw[C4]at d;cases d;exact⟨vs,A⟩
  ·rw[B0 (Ne.symm q)]at d;exact (h.obs v C d).ext J (Below.refl _ _)
 ·intro i s D;by_cases N:t=i
  ·subst N;rw[C7]at D;cases D;have hu:=(h.facts t _ ht).1;refine⟨hu,?_⟩;rw[hu];refine aI A (by simpa using X) M ?_ (fun i D j hj=>let ⟨z,Q,R⟩:=ab i D j hj;⟨z,Q,Cell.rep_mono J _ _ R⟩);intro g Y j z hj H;refine⟨H,fun I=>?_⟩;have W:(G k).ownBlock=blk (G k):=r7 (c5 A);rcases I with I | ⟨v,o',d,E,F⟩
   ·have Q:=h.m0 g j I;have R:=(A.lt g (by rw[W];exact Y)).1;rcases h.old k _ g T Y with h3 | h3<;>omega
   ·by_cases q:v=k
    ·subst q;rw[C4]at d;cases d;simp only at F;omega
    ·rw[B0 (Ne.symm q)]at d;exact q (h.dis v k o' _ g d T E Y)
  ·rw[B9 N]at D;exact SV.rep_mono J (h.facts i s D)
end
def tn(T j:Nat)(o:Oper):Bool:=Nat.beq j T||turns o.op
def StepT(P:Program)(nt:Nat)(ops:Array Oper)(T i:Nat)(φ:Fa)(ob:Obs)(K:Fa->Obs->Prop):Prop :=
 ∃o,ops[i]?=some o/\cond (tn T i o) (sG P nt ops o φ ob K) (∃s d,o.dst=some d/\YieldsN P nt ops o φ ob s/\K (l5 φ d s) ob)
def yQ(P:Program)(nt:Nat)(ops:Array Oper)(T:Nat)(K:Fa->Obs->Prop):Nat->Array Bool->Fa->Obs->Prop
 | 0,listed,φ,ob=>Region.ready .any ops listed=[]/\K φ ob
 | fuel+1,listed,φ,ob=>(Region.ready .any ops listed=[]->K φ ob)/\∀i∈Region.ready .any ops listed,StepT P nt ops T i φ ob (yQ P nt ops T K fuel (listed.setIfInBounds i true))
theorem jF{T:Nat}{K:Fa->Obs->Prop}{S:Ctx}{Q:Exit->Act->World->Prop}(q:S.nt=nt)(g:∀(j t:Nat),(ops[j]?).bind (fun o=>o.dst)=some t->t<nt)(x:∀φ ob G a w,K φ ob->SimF P S φ ob G a w->Q .normal a w) :
  ∀(e:Nat) (f:Array Bool) (φ:Fa) (ob:Obs) (G:Gh) (a:Act) (w:World),yQ P nt ops T K e f φ ob->SimF P S φ ob G a w->wpAny P .any ops Q e f a w
 | 0,_,φ,ob,G,a,w,h,hs=>⟨h.1,x φ ob G a w h.2 hs⟩
 | e+1,f,φ,ob,G,a,w,h,hs=>by
  refine⟨fun L=>x φ ob G a w (h.1 L) hs,fun i E=>?_⟩;obtain⟨o,N,c⟩:=h.2 i E;unfold wpOp;simp only[N];cases I:tn T i o with
  | true =>
   rw[I]at c;obtain⟨M,c⟩:=c;rw[A5 (by simp[Region.wanted,M])];refine .inl (L4 (c S G a w q hs) ?_);rintro v w' ⟨V,ob',G',k,F⟩;exact jF q g x e _ V ob' G' _ w' k F
  | false =>
   rw[I]at c;obtain⟨s,d,C,⟨W,z,A,U⟩,k⟩:=c;rw[C]at z;cases z;rcases U with ⟨H,J,D,B⟩ | ⟨H,rfl⟩
   ·rw[bU q hs H g,A5 rfl];refine .inl (L4 (B S G a w (hs.sub fun i s E=>(D i s E).1)) ?_);rintro v w' ⟨R,X,rfl,O⟩;rw[C];exact jF q g x e _ _ ob G _ w' k ((hs.ext R).put (by rw[q];exact A) O)
   ·rw[bU q hs H g,A6 (by simp),C];exact jF q g x e _ _ ob G _ w k (hs.put (by rw[q];exact A) rfl)
theorem R2{b:Array Bool}{i:Nat}(e:i∈Region.ready .any ops b):b.getD i false=false:=by
 have c:=(mem_ready.1 e).1;simp only[Array.getD_eq_getD_getElem?]at c ⊢;rcases Nat.lt_or_ge i b.size with d | d
 ·rw[Array.getElem?_eq_getElem d]at c ⊢;simpa using c
 ·rw[Array.getElem?_eq_none d]at c;simp at c
theorem KI{T:Nat}{K:Fa->Obs->Prop}:∀(c:Nat) (b:Array Bool) (φ:Fa) (ob:Obs),b.getD T false=true->yP P nt ops K c b φ ob->yQ P nt ops T K c b φ ob
 | 0,_,_,_,_,h=>h
 | c+1,b,φ,ob,hT,h=>by
  refine⟨h.1,fun i A=>?_⟩;obtain⟨o,F,j⟩:=h.2 i A;have q:i≠T:=fun e=>by subst e;have:=R2 A;rw[hT]at this;cases this
  have k:(b.setIfInBounds i true).getD T false=true:=by
   simp only[Array.getD_eq_getD_getElem?]at hT ⊢
   rwa[Array.getElem?_setIfInBounds_ne q]
  refine⟨o,F,?_⟩;have H:tn T i o=turns o.op:=by unfold tn;rw[I9 q];rfl
  rw[H];cases y:turns o.op with
  | true =>
   rw[y]at j;refine⟨j.1,fun S G a w E hs=>?_⟩;have l:=j.2 S G a w E hs;unfold Does at l ⊢;have m:∀v w',(∃p ob' G',yP P nt ops K c (b.setIfInBounds i true) p ob'/\SimF P S p ob' G' (a.put o.dst v) w')->(∃p ob' G',yQ P nt ops T K c (b.setIfInBounds i true) p ob'/\SimF P S p ob' G' (a.put o.dst v) w'):=by
    rintro v w' ⟨p,ob',G',B,z⟩;exact⟨_,ob',G',KI c _ _ _ k B,z⟩
   generalize (execOp a.eval o).run P w=r at *;cases r with
   | ok n w' =>
    cases n<;>simp only at l ⊢<;>try exact l.elim
    case value v=>exact m _ _ l
    case skip=>exact m _ _ l
    case enter f args=>exact l.mono fun e L ⟨v,C,I⟩=>⟨v,C,m _ _ I⟩
   | halt x w'=>exact l
  | false =>
   rw[y]at j;obtain⟨s,d,l,J,HK⟩:=j;exact⟨s,d,l,J,KI c _ _ _ k HK⟩
theorem TX{T:Nat}{K:Fa->Obs->Prop}{i d:Nat}{w:Oper}{s:SV}(hi:ops[i]?=some w)(V:tn T i w=false)(F:w.dst=some d) :
  ∀(c:Nat) (b:Array Bool) (φ:Fa) (ob:Obs),Closed ops b ->
   (∀j l,ops[j]?=some l->j≠i->b.getD j true=false->tn T j l=true->Bef ops j i=true) ->
   (∀j l,ops[j]?=some l->j≠i->b.getD j true=false->tn T j l=false->(∃e∈l.after.toList,Region.binds .any e=true/\e.on=i)\/aL ops w l=true) ->
   i∈Region.ready .any ops b->YieldsN P nt ops w φ ob s ->
   yQ P nt ops T K c (b.setIfInBounds i true) (l5 φ d s) ob->yQ P nt ops T K (c+1) b φ ob:=by
 have q:∀(c:Nat) (b:Array Bool) (φ:Fa) (ob:Obs),YieldsN P nt ops w φ ob s->yQ P nt ops T K c (b.setIfInBounds i true) (l5 φ d s) ob->StepT P nt ops T i φ ob (yQ P nt ops T K c (b.setIfInBounds i true)):=by
  intro c b φ ob D H;exact⟨w,hi,by rw[V];exact⟨s,d,F,D,H⟩⟩
 intro c;induction c with
 | zero =>
  intro b φ ob Q N O A D H;refine⟨fun h=>(by rw[h]at A;cases A),fun j I=>?_⟩;by_cases f:j=i
  ·subst f;exact q 0 b φ ob D H
  ·have:=ready_mono I f;rw[H.1]at this;cases this
 | succ c ih =>
  intro b φ ob Q N O A D H;refine⟨fun h=>(by rw[h]at A;cases A),fun j I=>?_⟩;by_cases f:j=i
  ·subst f;exact q (c+1) b φ ob D H
  ·obtain⟨g,l,p,u⟩:=mem_ready.1 I;have v:=R2 A;cases t:tn T j l with
   | true =>
    have hb:=N j l p f g t;have:=l8 Q j hb (fun o Y e R x=>by rw[p]at Y;cases Y;exact u e (Array.mem_toList_iff.1 R) x);rw[v]at this;cases this
   | false =>
    have E:aL ops w l=true:=by
     rcases O j l p f g t with ⟨e,R,x,U⟩ | h
     ·have:=u e (Array.mem_toList_iff.1 R) x;rw[U]at this;have L:b.getD i false=true:=this;rw[v]at L;cases L
     ·exact h
    obtain⟨o',J,r⟩:=H.2 j (ready_mono I f);rw[p]at J;cases J;rw[t]at r;obtain⟨sj,X,G,W,HK⟩:=r;simp only[aL,F,G,C30,Bool.not_eq_true',List.contains_eq_mem,decide_eq_false_iff_not]at E;obtain⟨⟨Z,L⟩,M⟩:=E;have M:d≠X:=fun e=>by subst e;simp at M
    refine⟨l,p,by
     rw[t];refine⟨sj,X,G,W.unput Z,?_⟩;refine ih (b.setIfInBounds j true) _ ob (U5 Q I) ?_ ?_ (ready_mono A (Ne.symm f)) (D.put L) ?_
     ·intro k ok S z C B;refine N k ok S z ?_ B;by_cases m:j=k
      ·subst m;exact g
      ·rwa[getD_set_ne true m]at C
     ·intro k ok S z C B;refine O k ok S z ?_ B;by_cases m:j=k
      ·subst m;exact g
      ·rwa[getD_set_ne true m]at C
     ·rw[Array.setIfInBounds_comm _ _ f,<-uW M]
      exact HK⟩
def wU:Nat->Nat->Array Bool->Array Bool
 | 0,_,listed=>listed
 | n+1,k,listed=>wU n (k+1) (listed.setIfInBounds k true)
def uX(ops:Array Oper)(T:Nat):Nat->Nat->Array Bool->Bool
 | 0,_,_=>true
 | fuel+1,k,listed =>
  (match ops[k]? with
   | some o=>(Region.ready .any ops listed).contains k&&!(tn T k o) &&
    ((List.range ops.size).all fun j=>Nat.beq j k||listed.getD j true||match ops[j]? with
     | some b=>cond (tn T j b) (Bef ops j k) (b.after.toList.any (fun e=>Region.binds .any e&&Nat.beq e.on k)||aL ops o b)
     | none=>true)
   | none=>false)&&uX ops T fuel (k+1) (listed.setIfInBounds k true)
theorem OB{T c:Nat}{K:Fa->Obs->Prop}{E:Fr->Obs->Prop}:∀(l:List Oper) (k:Nat) (b:Array Bool) (fr:Fr) (ob:Obs),(∀j,j<l.length->l[j]?=ops[k+j]?)->Closed ops b->uX ops T l.length k b=true ->
  (∀fr ob,Closed ops (wU l.length k b)->E fr ob->yQ P nt ops T K c (wU l.length k b) (D4 fr) ob)->LexD P nt ops E l fr ob->yQ P nt ops T K (c+l.length) b (D4 fr) ob
 | [],k,b,fr,ob,hl,hc,hB,hE,h=>hE fr ob hc h
 | o::l,k,b,fr,ob,hl,hc,hB,hE,h=>by
  have D:ops[k]?=some o:=by simpa using (hl 0 (by simp)).symm
  simp only[C34,uX,D,C30,Bool.not_eq_true']at hB;obtain⟨⟨⟨L,v⟩,I⟩,x⟩:=hB;have w:k∈Region.ready .any ops b:=by simpa using L
  have z:∀j,j<l.length->l[j]?=ops[k+1+j]?:=fun j J=>by have:=hl (j+1) (by simpa using J);simpa[Nat.add_assoc,Nat.add_comm 1 j] using this
  have M:turns o.op=false:=by
   cases C:turns o.op
   ·rfl
   ·simp[tn,C]at v
  simp only[LexD]at h;rw[M]at h;simp only[cond]at h;obtain⟨s,d,G,N,F⟩:=h;have t:∀j q,ops[j]?=some q->j≠k->b.getD j true=false->cond (tn T j q) (Bef ops j k) (q.after.toList.any (fun e=>Region.binds .any e&&Nat.beq e.on k)||aL ops o q)=true:=by
   intro j q f g p;have A:j<ops.size:=(Array.getElem?_eq_some_iff.1 f).1;have:=List.all_eq_true.1 I j (C40.2 A);rw[I9 g,p,f]at this;simp only[Bool.false_or]at this;exact this
  show yQ P nt ops T K (c+(l.length+1)) b (D4 fr) ob;rw[<-Nat.add_assoc];refine TX D v G (c+l.length) b _ ob hc ?_ ?_ w N ?_
  ·intro j q f g p u;have:=t j q f g p;rw[u]at this;exact this
  ·intro j q f g p u;have:=t j q f g p;rw[u]at this;simp only[cond,C64,List.any_eq_true,C30]at this;rcases this with ⟨e,H,hb,B⟩ | h
   ·exact .inl ⟨e,H,hb,Nat.eq_of_beq_eq_true B⟩
   ·exact .inr h
  ·rw[<-eQ];exact OB l (k+1) _ _ ob z (U5 hc w) x hE F
theorem sJ{o:Oper}{a:Act}{w:World}{R R':Value->World->Prop}(h:Does P o a w R)(b:∀v w',R v w'->R' v w'):Does P o a w R':=by
 unfold Does at h ⊢;generalize (execOp a.eval o).run P w=r at *;cases r with
 | ok n w' =>
  cases n<;>simp only at h ⊢<;>try exact h.elim
  case value v=>exact b _ _ h
  case skip=>exact b _ _ h
  case enter f args=>exact h.mono fun e g ⟨v,c,d⟩=>⟨v,c,b _ _ d⟩
 | halt x w'=>exact h
theorem lR{f:FuncId}{xs:List Operand}{E:Array TypeId}{ty:TypeId}{pos:String}{af:Array Edge}{args:List S1}{J:List Nat}{j:List S1->Obs->Prop}{fr:Fr}{ob:Obs}{d:Nat}{K:Fa->Obs->Prop}
  (N:Met P f args (oN fr) ob J j) (ha:fQ fr xs=some args) (Q:xs.all H3=true) (T:Nat.blt d nt=true)
  (Y:∀rs ob',j rs ob'->K (D4 ((d,AH rs)::C8 J fr)) ob'):sG P nt ops ⟨some d,.call ⟨.value (.func f),xs.toArray,E⟩,ty,pos,af,none⟩ (D4 fr) ob K:=by
 refine⟨rfl,fun S G a w W O=>?_⟩;have h:=simF_iff.1 O;have C:=bY h xs args ha Q;obtain⟨D,F⟩:∃D:Nat->Value,D=fun i=>S.sl a (i-1000000):=⟨_,rfl⟩
 let S':Ctx:={ S with gv:=D }
 have z:High (oN fr):=fun i s H=>(aO fr i s H).1;have b:∀i s,D4 (oN fr) i=some s->s.rep (D9 (Mut S' ob G) w) G (S'.sl a i):=by
  intro i s H;obtain⟨x,L⟩:=aO fr i s H;rw[Ctx.sl_ge x];show s.rep _ _ (D i);have e:=congrFun F i;rw[e];exact h.facts (i-1000000) s L
 have hs:Sim P S' (oN fr) ob G a w:={ h with facts:=b }
 have m:=N.2 z S' G a w _ hs C;refine sJ (R:=fun v w'=>∃rs ob' G',j rs ob'/\aP (D9 (Mut S' ob' G') w') G' rs v/\Sim P S' (C8 J (oN fr)) ob' G' a w') ?_ ?_
 ·have U:(execOp a.eval ⟨some d,.call ⟨.value (.func f),xs.toArray,E⟩,ty,pos,af,none⟩).run P w=.ok (.enter f (xs.map a.eval).toArray) w:=by
   have:=Q5 (P:=P) (f:=f) (args:=(xs.map a.eval).toArray) (w:=w) N.1;have V:xs.toArray.map a.eval=(xs.map a.eval).toArray:=by simp
   simp only[execOp,resolve,Act.eval,Deferred.ofValue,Sem.run_bind,Sem.run_pure,Result.andThen_ok,invoke];rw[show (#[]:Array Value)++Array.map a.eval xs.toArray++#[]=(xs.map a.eval).toArray by rw[<-V];simp];exact this
  unfold Does;rw[U];refine m.mono ?_;rintro e w' ⟨v,rs,ob',G',rfl,B,g,q⟩;exact⟨v,rfl,rs,ob',G',B,g,q⟩
 ·rintro v w' ⟨rs,ob',G',X,g,q⟩;have M:d<S.nt:=by rw[W];simpa using T
  have p:∀i s,D4 (C8 J fr) i=some s->s.rep (D9 (Mut S ob' G') w') G' (S.sl a i):=by
   intro i s H;have x:=q.facts (i+1000000) s (by rw[cY];exact zG H);have L:1000000<=i+1000000:=Nat.le_add_left _ _;rw[Ctx.sl_ge L]at x;have x:s.rep (D9 (Mut S ob' G') w') G' (D (i+1000000)):=x;have e:=congrFun F (i+1000000);simp only[Nat.add_sub_cancel]at e;rw[e]at x;exact x
  have I:Sim P S (C8 J fr) ob' G' a w':={ q with facts:=p }
  exact⟨_,ob',G',Y rs ob' X,simF_iff.2 (I.put M g)⟩
theorem TC.forget_idem(k:Nat)(t:TC):(t.forget k).forget k=t.forget k:=by
 cases t with
 | p c=>rfl
 | buf a α b c j=>cases hb:Nat.beq a k<;>simp[TC.forget,hb]
 | ref a o=>cases hb:Nat.beq a k<;>simp[TC.forget,hb]
 | eref α b c x o=>rfl
 | «mut» a=>cases hb:Nat.beq a k<;>simp[TC.forget,hb]
 | mref a b i o=>cases hb:Nat.beq a k<;>simp[TC.forget,hb]
 | any=>rfl
 | clo f h d=>cases hb:(jA k h||jA k d)<;>simp only[TC.forget,hb,cond]
 | full α b c j=>rfl
 | msl a b o n=>cases hb:Nat.beq a k<;>simp[TC.forget,hb]
 | ifc t a o=>cases hb:Nat.beq a k<;>simp[TC.forget,hb]
 | fnc f l=>rfl
 | fncE f α b c x=>rfl
theorem S1.forget_idem(k:Nat)(s:S1):(s.forget k).forget k=s.forget k:=by
 cases s<;>simp[S1.forget,TC.forget_idem]
theorem SV.forget_idem(k:Nat)(s:SV):(s.forget k).forget k=s.forget k:=by
 cases s<;>simp[SV.forget,S1.forget_idem]
theorem Ob.forget_idem(k:Nat)(o:Ob):(o.forget k).forget k=o.forget k:=by
 cases o<;>simp[Ob.forget,TC.forget_idem]
theorem Fr.forget_idem(k:Nat)(fr:Fr):Fr.forget k (Fr.forget k fr)=Fr.forget k fr:=by
 simp[Fr.forget,Function.comp_def,SV.forget_idem]
theorem Obs.forget_idem(k:Nat)(ob:Obs):Obs.forget k (Obs.forget k ob)=Obs.forget k ob:=by
 simp[Obs.forget,Function.comp_def,Ob.forget_idem]
theorem eS{b:Rd}{G:Gh}:∀{a:List Cell} {c:List Value},All2 (TC.rep b G) (a.map .p) c->All2 (Cell.rep b) a c
 | [],[],_=>trivial
 | [],_::_,h=>h.elim
 | _::_,[],h=>h.elim
 | _::_,_::_,h=>⟨h.1,eS h.2⟩
theorem Y2{k:Nat}(h:High gf):High (Fr.forget k gf):=fun i s a=>by
 rw[P1]at a;cases b:D4 gf i with
 | none=>rw[b]at a;cases a
 | some c=>exact h i c b
theorem Sees.forget(k:Nat):Sees P nt fr ob (Fr.forget k fr) (Obs.forget k ob):=by
 intro S G a w L h;have d:∀j m,B4 (Obs.forget k ob) j=some m->∃p,B4 ob j=some p/\m=p.forget k:=by
  intro j m c;rw[M1]at c;cases q:B4 ob j with
  | none=>rw[q]at c;cases c
  | some p=>rw[q]at c;cases c;exact⟨p,rfl,rfl⟩
 have y:∀b i z,D9 (Mut S ob G) w b i z->D9 (Mut S (Obs.forget k ob) G) w b i z:=by
  intro b i z E;refine⟨E.1,fun D=>E.2 ?_⟩;rcases D with D | ⟨j,m,c,hb⟩
  ·exact .inl D
  ·obtain⟨p,u,rfl⟩:=d j m c;exact .inr ⟨j,p,u,Own_forget.1 hb⟩
 refine⟨G,{ h with old:=?_,dis:=?_,obs:=?_,facts:=?_ }⟩
 ·intro j m b c hb;obtain⟨p,u,_⟩:=d j m c;exact h.old j p b u hb
 ·intro k1 k2 m I b F H B C;obtain⟨J,ha,_⟩:=d k1 m F;obtain⟨ob',A,_⟩:=d k2 I H;exact h.dis k1 k2 J ob' b ha A B C
 ·intro j m c;obtain⟨p,u,rfl⟩:=d j m c;exact ((h.obs j p u).ext y (Below.refl _ _)).forget (fun _ _=>rfl)
 ·intro i s v;rw[P1]at v;cases q:D4 fr i with
  | none=>rw[q]at v;cases v
  | some K =>
   rw[q]at v;cases v;exact SV.rep_forget (fun _ _=>rfl) (SV.rep_mono y (h.facts i K q))
theorem Met.introH{f:FuncId}{fn:Func}{c:Code}{a:List S1}{j:List Nat}{d:List S1->Obs->Prop}(i:P.funcs[f]?=some fn)(b:(fn.name == "runtime.NumGoroutine")=false)(hb:fn.body=some c)(g:Nat.ble a.length fn.ntmps=true)(h:Nat.ble fn.ntmps 1000000=true)
  (k:High gf->WpC P fn.ntmps c (bW 0 a++gf) ob (metP P fn j gf d)):Met P f a gf ob j d :=
 ⟨⟨fn,i,b,by simp[hb]⟩,fun e=>(Met.intro i b hb g h (k e)).2 e⟩
theorem B91{l:Fr}{gf':Fr}{ob':Obs}(j:FrLe fr l)(g:High gf')(n:Tail gf' fr)(m:∀k o,B4 ob' k=some o->B4 ob k=some o):Sees P nt fr ob (l++gf') ob':=by
 intro S G a w r h;have c:∀i s,D4 (l++gf') i=some s->s.rep (D9 (Mut S ob G) w) G (S.sl a i):=by
  intro i s b;rw[Y1]at b;cases d:D4 l i with
  | some q =>
   rw[d]at b;have b:some q=some s:=b;cases b;obtain⟨s1,e,f⟩:=j.spec i _ d;exact f.rep (h.facts i s1 e)
  | none =>
   rw[d]at b;have b:D4 gf' i=some s:=b;exact h.facts i s (n i s (g i s b) b)
 have p:Sim P S (l++gf') ob G a w:={ h with facts:=c }
 exact⟨G,p.weakenO m⟩
def KJ(nt:Nat)(l:List Oper)(n:Nat):Bool :=
 let ops:=l.toArray;let L:=wU n 0 (Array.replicate l.length false)
 uX ops n n 0 (Array.replicate l.length false)&&dstsIn nt ops&&Nat.ble (n+1) l.length&&Nat.beq (l.take n).length n &&
  ((Region.ready .any ops L).all fun j=>Nat.beq j n)&&(Region.ready .any ops L).contains n&&(L.setIfInBounds n true).getD n false&&GL ops (l.drop (n+1)).length (n+1) (L.setIfInBounds n true)
theorem oY{id:Nat}{l:List Oper}(n:Nat){C:Oper}{fr:Fr}{ob:Obs}{Q:Post}(hm:P.follows .mixedOrders=true)(H:KJ nt l n=true)(hc:l[n]?=some C)
  (h:LexD P nt l.toArray (fun fr ob=>sG P nt l.toArray C (D4 fr) ob (fun φ' ob'=>∃fr',φ'=D4 fr'/\LexD P nt l.toArray (fun fr ob=>Q .normal fr ob) (l.drop (n+1)) fr' ob')) (l.take n) fr ob):WpC P nt (.region id l.toArray true) fr ob Q:=by
 intro S G a w N hs;unfold KJ at H;simp only[C30]at H;obtain⟨⟨⟨⟨⟨⟨⟨b1,b2⟩,b3⟩,b4⟩,b5⟩,b6⟩,D⟩,E⟩:=H;have Z:n+1<=l.length:=Nat.le_of_ble_eq_true b3;have c:(l.take n).length=n:=Nat.eq_of_beq_eq_true b4;have u:∀(j t:Nat),(l.toArray[j]?).bind (fun o=>o.dst)=some t->t<nt:=by
  intro j t U;cases A:l.toArray[j]? with
  | none=>simp[A]at U
  | some o =>
   simp[A]at U;have z:o∈l:=by
    rw[List.getElem?_toArray]at A;exact C53 A
   have:=List.all_eq_true.1 b2 o (by simpa using z);rw[U]at this;simpa using this
 refine wp_region_any hm ?_;have I:Closed l.toArray (Array.replicate l.length false):=by
  intro j o A M;simp only[Array.getD_eq_getD_getElem?]at M;rcases Nat.lt_or_ge j l.length with F | F
  ·simp[F]at M
  ·simp[F]at M
 have R:l.toArray[n]?=some C:=by rw[List.getElem?_toArray];exact hc
 have B:tn n n C=true:=by unfold tn;rw[Nat.beq_refl];rfl
 have V:yQ P nt l.toArray n (fun φ ob=>∃fr',φ=D4 fr'/\Q .normal fr' ob) ((l.drop (n+1)).length+1+(l.take n).length) (Array.replicate l.length false) (D4 fr) ob:=by
  refine OB (l.take n) 0 _ fr ob (fun j Y=>?_) I (by rw[c];exact b1) (fun fr ob f X=>?_) h
  ·rw[Nat.zero_add,List.getElem?_toArray,C59 (by rw[c]at Y;exact Y)]
  ·rw[c]at f ⊢;have W:n∈Region.ready .any l.toArray (wU n 0 (Array.replicate l.length false)):=by simpa using b6
   have q:=U5 f W;refine⟨fun J=>(by rw[J]at W;cases W),fun j L=>?_⟩;have K:j=n:=Nat.eq_of_beq_eq_true (List.all_eq_true.1 b5 j L);subst K;refine⟨C,R,?_⟩;rw[B];refine⟨X.1,fun S G a w N hs=>sJ (X.2 S G a w N hs) ?_⟩;rintro v w' ⟨φ',ob',G',⟨fr',rfl,hL⟩,p⟩;exact⟨_,ob',G',KI _ _ _ _ D (lL (l.drop (j+1)) (j+1) _ fr' ob' (fun i=>by rw[C61,List.getElem?_toArray]) q E hL),p⟩
 have hx:Below w.heap.size w { w with drawn:=w.drawn+1 }:=⟨rfl,rfl,rfl,Nat.le_refl _,fun _ _=>rfl⟩
 have p:SimF P S (D4 fr) ob G a { w with drawn:=w.drawn+1 }:=(simF_iff.2 hs).ext hx;have:=jF (Q:=PostOf P S Q) N u (fun φ ob' G' a' w' ⟨fr',J,hq⟩ T=>⟨fr',ob',G',hq,.inl (simF_iff.1 (J ▸ T))⟩) _ _ _ ob G a _ V p;have k:(l.drop (n+1)).length+1+(l.take n).length=l.length:=by rw[C45,c];omega
 rw[k]at this;simpa using this
theorem jG(k:Nat)(h:Tail (Fr.forget k gf) fr):Tail (Fr.forget k gf) (Fr.forget k fr):=by
 have:=fP k h
 rwa[Fr.forget_idem]at this
def AJ(k:Nat)(φ:Fa):Prop:=∀i s,φ i=some s->s.free k=true
theorem OC{k:Nat}:∀{fr:Fr},G5 k fr=true->AJ k (D4 fr)
 | [],_,i,s,hi=>by simp[D4]at hi
 | (j,x)::r,h,i,s,hi=>by
  simp only[G5,C30]at h;by_cases a:j=i
  ·subst a;rw[C7]at hi;cases hi;exact h.1
  ·rw[B9 a]at hi;exact OC h.2 i s hi
theorem TY{k:Nat}{e:TypeId}{z:Value}[hz:TyZero P e z]{ty:TypeId}{pos:String}{af:Array Edge}{m:Nat}{φ:Fa}{ob:Obs}(K:AJ k φ)(E:K5 k ob=true)(J:Nat.blt m nt=true) :
  sG P nt ops ⟨some m,.alloc e,ty,pos,af,none⟩ φ ob (fun O ob'=>O=l5 φ m (.s (.one (.ref k 0)))/\ob'=(k,.box (z.cells.toList.map fun c=>.p (.v c)))::ob):=by
 refine⟨rfl,fun S G a w L hs=>?_⟩;obtain⟨F,H,M⟩:=Q6 E;have u:m<S.nt:=by rw[L];simpa using J
 refine F3 (w':=w.alloc (.cells z.cells e)) (v:=.pointer (some ⟨w.heap.size,0,none⟩)) ?_ ?_
 ·simp[execOp,Instr.alloc,newVar,newRow,M5 hz.out.1]
 ·have y:Below w.heap.size w (w.alloc (.cells z.cells e)):=(Below.refl _ _).alloc (Nat.le_refl _) _;have N:∀b,blk (.pointer (some ⟨w.heap.size,0,none⟩))=some b->w.heap.size<=b:=by intro b hb;simp[blk]at hb;omega
  have g:∀fr:Fr,Sim P S fr ob G a w->Sim P S (Fr.forget k fr) ((k,.box (z.cells.toList.map fun c=>.p (.v c)))::ob) (upd G k (.pointer (some ⟨w.heap.size,0,none⟩))) a (w.alloc (.cells z.cells e)):=by
   intro fr h;have A:=h.new (o:=.box (z.cells.toList.map fun c=>.p (.v c))) M H y N ⟨w.heap.size,z.cells.toList,e,rfl,by rw[Array.toArray_toList];exact heap_alloc_new w _,y7 _ hz.out.2⟩;rw[F]at A;exact A
  have d:SimF P S φ ((k,.box (z.cells.toList.map fun c=>.p (.v c)))::ob) (upd G k (.pointer (some ⟨w.heap.size,0,none⟩))) a (w.alloc (.cells z.cells e)):=by
   refine⟨g [] hs.1,fun i s C=>?_⟩;have D:Sim P S [(i,s)] ob G a w:=hs.sub fun j t q=>by
    by_cases B:i=j
    ·subst B;rw[C7]at q;cases q;exact C
    ·rw[B9 B]at q;simp[D4]at q
   have I:=(g _ D).facts i s (by rw[P1,C7];simp[SV.forget_free (K i s C)]);exact I
  exact⟨_,_,_,⟨rfl,rfl⟩,d.put u ⟨w.heap.size,G7 _ _ _,rfl⟩⟩
def AnyB(P:Program)(nt:Nat)(ops:Array Oper)(T b k:Nat)(r:SV)(c:Nat×Ob)(ob:Obs)(E:Array Bool->Fa->Prop):Nat->Array Bool->Fa->Prop
 | 0,listed,φ=>AJ k φ/\(∀j∈Region.ready .any ops listed,j=T)/\E listed φ
 | fuel+1,listed,φ=>AJ k φ/\(∃p,p<T/\p∈Region.ready .any ops listed)/\∀i∈Region.ready .any ops listed,i≠T ->
   ∃o s d,ops[i]?=some o/\o.dst=some d/\turns o.op=false/\b≠d/\YieldsN P nt ops o φ ob s/\YieldsN P nt ops o (l5 φ b r) (c::ob) s/\AnyB P nt ops T b k r c ob E fuel (listed.setIfInBounds i true) (l5 φ d s)
theorem AnyB.free{T c k:Nat}{r:SV}{d:Nat×Ob}{ob:Obs}{E:Array Bool->Fa->Prop}{b:Nat}{a:Array Bool}{φ:Fa}(h:AnyB P nt ops T c k r d ob E b a φ):AJ k φ:=by
 cases b<;>exact h.1
def LexB(P:Program)(nt:Nat)(ops:Array Oper)(a k:Nat)(r:SV)(b:Nat×Ob)(ob:Obs)(E:Fr->Prop):List Oper->Fr->Prop
 | [],fr=>G5 k fr=true/\E fr
 | o::l,fr=>∃s d,o.dst=some d/\YieldsN P nt ops o (D4 fr) ob s/\YieldsN P nt ops o (D4 ((a,r)::fr)) (b::ob) s/\LexB P nt ops a k r b ob E l ((d,s)::fr)
theorem LexB.free{a k:Nat}{r:SV}{b:Nat×Ob}{ob:Obs}{E:Fr->Prop}:∀{l:List Oper} {fr:Fr},LexB P nt ops a k r b ob E l fr->G5 k fr=true
 | [],fr,h=>h.1
 | o::l,fr,⟨s,d,_,_,_,h⟩=>by
  have:=h.free;simp only[G5,C30]at this;exact this.2
theorem C15(α:Type)(n:Nat)(c:α->Nat->Cell)(t o:Nat){m:List TC}(r:D4 fr t=some (.s (.agg m)))(j:m[o]?=some (.p (.v (.slice none 0 0)))):Sees P nt fr ob ((t,.s (.agg (m.set o (.p (.list α n c [])))))::fr) ob:=by
 intro S G a w A h;refine⟨G,{ h with facts:=fun i s f=>?_ }⟩;by_cases b:t=i
 ·subst b;rw[C7]at f;cases f;have q:=h.facts t _ r;obtain⟨y,u,ha⟩:=q;refine⟨y,u,B97 o (fun z x=>?_) ha⟩;obtain⟨B,d,k⟩:=ha.get o _ j;rw[x]at d;cases d;rw[k.1];exact F0 α n c
 ·rw[B9 b]at f;exact h.facts i s f
variable {next:Fr->Obs->Prop}{id id':Nat}
theorem k1(h:next fr ob):iC next Q .normal fr ob:=h
theorem k2{x y:Code}(h:WpC P nt x fr ob (iC (fun fr ob=>WpC P nt y fr ob Q) Q)):WpC P nt (.seq x y) fr ob Q:=c_seq h
theorem k3{c:Code}(h:WpC P nt c fr ob (l6 id Q)):WpC P nt (.block id c) fr ob Q:=YB h
theorem k4(h:Q .normal fr ob):l6 id Q .normal fr ob:=h
theorem k5(h:Q .normal fr ob):WpC P nt .skip fr ob Q:=TR h
theorem k6(h:Q (.exit id) fr ob):WpC P nt (.exit id) fr ob Q:=c_exit h
theorem k7(h:Q (.exit id) fr ob):iC next Q (.exit id) fr ob:=h
theorem k8(hb:Nat.beq id' id=true)(h:Q .normal fr ob):l6 id Q (.exit id') fr ob:=B14 hb h
theorem k9(hb:Nat.beq id' id=false)(h:Q (.exit id') fr ob):l6 id Q (.exit id') fr ob:=A07 hb h
theorem yR(h:Q .ret fr ob):WpC P nt .ret fr ob Q:=c_ret h
theorem cO(h:Q .ret fr ob):iC next Q .ret fr ob:=h
theorem sK(h:Q .ret fr ob):l6 id Q .ret fr ob:=h
theorem jH{fr:Fr}{i:Nat}{s:SV}(h:D4 fr i=some s):∃b,D4 fr i=some b/\SvLe b s:=⟨_,h,.same _⟩
theorem leE{fr:Fr}{i:Nat}{s a:SV}(h:D4 fr i=some s)(e:s=a):∃b,D4 fr i=some b/\SvLe b a:=⟨_,h,.eq e⟩
theorem leL{fr:Fr}{i k:Nat}{α:Type}{a:Nat}{c:α->Nat->Cell}{g:List α}(h:D4 fr i=some (.s (.one (.buf k α a c g)))):∃d,D4 fr i=some d/\SvLe d (.s (.one (.p (.list α a c g)))):=⟨_,h,.list _ _ _ _ _⟩
attribute [irreducible] FnIo Met RetS
end Go.AL
