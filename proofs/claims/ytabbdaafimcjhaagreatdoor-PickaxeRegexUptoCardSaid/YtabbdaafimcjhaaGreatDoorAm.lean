/- The abstract logic, its second half. No project text. -/
import Derived.Test.YtabbdaafimcjhaaGreatDoorAl
set_option linter.all false
attribute [local semireducible] Go.AL.Neu Go.AL.Eff Go.AL.EffV Go.AL.WpL Go.AL.WpC Go.AL.FnOk Go.AL.LexD Go.AL.Sees Go.AL.RetOk
namespace Go.AL
open Go Go.RowKit
set_option linter.unusedVariables false
variable {P:Program}{nt:Nat}{fr:Fr}{ob:Obs}{Q:Post}
theorem B9{c:Code}{X:Type}(E:X->Fr×Obs)(I:X->Prop)(m:X->Nat)(b:X)(f:I b)(start:Sees P nt fr ob (E b).1 (E b).2)
  (round:∀x,I x->WpC P nt c (E x).1 (E x).2 (eD (fun fr' ob'=>∃a,I a/\m a<m x/\Sees P nt fr' ob' (E a).1 (E a).2) Q)):WpC P nt (.loop c) fr ob Q :=
 c_loop (X:=ULift X) (fun x=>E x.down) (fun x=>I x.down) (fun x=>m x.down) ⟨b⟩ f start fun x j=>(round x.down j).mono fun e fr' ob' d=>by
  cases e with
  | normal=>obtain⟨a,g,h,i⟩:=d;exact⟨⟨a⟩,g,h,i⟩
  | _=>exact d
theorem aN{c:Code}(fr':Fr)(ob':Obs)(a:Sees P nt fr ob fr' ob')(k:WpC P nt c fr' ob' Q):WpC P nt c fr ob Q:=C3 a k
theorem oM{x y:Code}(fr':Fr)(ob':Obs)(b:WpC P nt x fr ob (eD (fun f o=>Sees P nt f o fr' ob') Q))(k:WpC P nt y fr' ob' Q):WpC P nt (.seq x y) fr ob Q :=
 c_seq (b.mono fun e f o a=>by
  cases e with
  | normal=>exact C3 a k
  | _=>exact a)
variable {ops:Array Oper}{rest:List Oper}{d:Nat}
def gd(x b:Bool)(s:SV):SV:=cond (x == b) s .un
theorem D7{m:Op}{ty:TypeId}{pos:String}{af:Array Edge}{j t:Nat}{b x:Bool}{s:SV}(f:(ops[j]?).bind (·.dst)=some t)(a:Nat.blt t nt=true)(g:D5 fr t=some (.s (.one (.p (.v (.bool x))))))(c:Nat.blt d nt=true)
  (h:x=b->Neu P ⟨some d,m,ty,pos,af,none⟩ fr ob (fun q=>q=s))(k:WpL P nt ops rest ((d,gd x b s)::fr) ob Q):WpL P nt ops (⟨some d,m,ty,pos,af,some (j,b)⟩::rest) fr ob Q:=by
 by_cases hb:x=b
 ·refine G7 f a g hb (B2 (h hb) c ?_);have:gd x b s=s:=by simp[gd,hb]
  rwa[this]at k
 ·refine L1 f a g hb c ?_;have:gd x b s=.un:=by
   have:(x == b)=false:=by simpa using hb
   simp[gd,this]
  rwa[this]at k
theorem F9{K:Fr->Obs->Prop}{c:Op}{ty:TypeId}{pos:String}{af:Array Edge}{s:SV}{j t:Nat}{b x:Bool}(m:(ops[j]?).bind (·.dst)=some t)(r:D5 fr t=some (.s (.one (.p (.v (.bool x))))))
  (h:x=b->Neu P ⟨some d,c,ty,pos,af,none⟩ (o8 fr (sW c)) ob (fun z=>z=s))(q:turns c=false)(g:Nat.blt d nt=true)(k:LexD P nt ops K rest ((d,gd x b s)::fr) ob) :
  LexD P nt ops K (⟨some d,c,ty,pos,af,some (j,b)⟩::rest) fr ob:=by
 by_cases hb:x=b
 ·refine d_run m r hb ?_ q g (s:=s) ?_
  ·have:=h hb;intro S G a w y;have f:=this S G a w y;unfold Does at f ⊢;exact f
  ·have:gd x b s=s:=by simp[gd,hb]
   rwa[this]at k
 ·refine bH m r hb q g ?_;have:gd x b s=.un:=by
   have:(x == b)=false:=by simpa using hb
   simp[gd,this]
  rwa[this]at k
theorem Wants.gd{b x c W:Bool}{s:SV}(h:Wants b s W):Wants b (AL.gd x c s) ((x == c)&&W):=by
 unfold AL.gd;cases a:(x == c) with
 | true=>simpa using h
 | false=>exact .un
theorem N0{x c y b:Bool}(h:((x == c)&&(y == b))=true):x=c/\y=b:=by simpa using h
theorem qI{x c y b z e:Bool}(h:((x == c)&&((y == b)&&(z == e)))=true):x=c/\y=b/\z=e:=by simpa using h
theorem D2{α:Type}{a:Nat}{c:α->Nat->Cell}{n:Nat}:AV fr a c [] n []:=rfl
theorem C0{α:Type}{a:Nat}{c:α->Nat->Cell}{i:Nat}{x:Operand}{r:List (Nat×Operand)}{y:α}{ys:List α}{s:S1}(f:opv fr x=some (.s s))(b:H2 x=true)(d:Nat.beq s.cells.length a=true)(e:gQ s.cells=some (cellsOf c y 0 a))(h:AV fr a c r (i+1) ys) :
  AV fr a c ((i,x)::r) i (y::ys):=⟨rfl,b,s,y,ys,f,C72 d,fun g G j ha=>bT e ha,rfl,h⟩
section
variable {P:Program}{nt:Nat}{dst:Option Tmp}{ty:TypeId}{pos:String}{af:Array Edge}{gd:Option (Nat×Bool)}{fr:Fr}{ob:Obs}
def fR{α:Type}(b:Nat)(c:α->Nat->Cell):List α->List TC
 | []=>[]
 | x::xs=>(cellsOf c x 0 b).map .p++fR b c xs
theorem W9{α:Type}{b:Nat}{c:α->Nat->Cell}:∀(a:List α),(fR b c a).length=a.length*b
 | []=>by simp[fR]
 | x::a=>by simp[fR,W9 a,M4,C88];omega
theorem kW{α:Type}{a:Nat}{c:α->Nat->Cell}:∀(b:List α) (i j:Nat) (x:α),b[i]?=some x->j<a->(fR a c b)[i*a+j]?=some (.p (c x j))
 | [],i,j,x,h,_=>by simp at h
 | y::b,0,j,x,h,hj=>by
  simp at h;subst h;have d:j<(cellsOf c y 0 a).length:=by rw[M4];exact hj
  have:=a6 c y a 0 j _ (C36 d);rw[Nat.zero_mul,C91,fR,C68 (by simpa using d),C96,C36 d,this.1];simp
 | y::b,i+1,j,x,h,hj=>by
  have f:=kW (c:=c) b i j x (by simpa using h) hj;rw[fR,C76 (by simp[M4,C88];omega)];simp only[C74,M4];have:(i+1)*a+j-a=i*a+j:=by rw[C88];omega
  rw[this];exact f
theorem Sim.retell{S:Ctx}{G:Gh}{a:Act}{w:World}(h:Sim P S fr ob G a w){k:Nat}{o j:Ob}(l:B5 ob k=some o){b:Nat}(hb:blk (G k)=some b)(d:∀i,Own (G k) o b i)(c:∀i,Own (G k) j b i)
  (m:∀f:Rd,ObOk S f G w (G k) o->ObOk S f G w (G k) j):Sim P S fr ((k,j)::ob) G a w :=
 h.write l hb d c rfl rfl rfl (C45 _) (fun _ _ _=>rfl) (fun f g=>m f ((h.obs k o l).ext g (Below.refl _ _)))
theorem Sees.toT(k:Nat){α:Type}{d:Nat}{c:α->Nat->Cell}{f:List α}(J:B5 ob k=some (.arr α d c f)):Sees P nt fr ob fr ((k,.tarr f.length d (fR d c f))::ob):=by
 intro S G a w U h;obtain⟨b,X,t,L,M,T,N,R⟩:=h.obs k _ J;have m:blk (G k)=some b:=by rw[L];rfl
 refine⟨G,h.retell J m (fun i=>⟨m,trivial⟩) (fun i=>⟨m,trivial⟩) ?_⟩;rintro V ⟨K,s,O,y,_,A,p,x⟩;refine⟨K,s.toList,O,y,M,by simpa using A,W9 f,eF (by rw[W9];simpa using p) fun j W z o D=>?_⟩;rcases Nat.eq_zero_or_pos d with u | u
 ·have:(fR d c f).length=0:=by rw[W9,u];simp
  rw[C63 (by omega)]at o;cases o
 ·have B:j<f.length*d:=by
   rcases Nat.lt_or_ge j (fR d c f).length with v | v
   ·rwa[W9]at v
   ·rw[C63 v]at o;cases o
  have H:j / d<f.length:=(Nat.div_lt_iff_lt_mul u).2 B;have I:j % d<d:=Nat.mod_lt _ u;have E:j / d*d+j % d=j:=by rw[Nat.mul_comm];exact Nat.div_add_mod j d
  have F:=kW (c:=c) f (j / d) (j % d) _ (C36 H) I;rw[E,o]at F;cases F;obtain⟨Q,q,C⟩:=x (j / d) H (j % d) I;rw[E]at q;have:s.toList[j]?=some Q:=by simpa using q
  rw[this]at D;cases D;exact C
theorem Sees.ofT(k:Nat){α:Type}{g:Nat}{c:α->Nat->Cell}{n:Nat}{A:List TC}(f:List α)(v:B5 ob k=some (.tarr n g A))(x:f.length=n)(p:A=fR g c f):Sees P nt fr ob fr ((k,.arr α g c f)::ob):=by
 subst p x;intro S G a w x h;obtain⟨b,N,t,D,L,K,H,J⟩:=h.obs k _ v;have d:blk (G k)=some b:=by rw[D];rfl
 refine⟨G,h.retell v d (fun i=>⟨d,trivial⟩) (fun i=>⟨d,trivial⟩) ?_⟩;rintro M ⟨B,u,I,l,o,m,y,e⟩;refine⟨B,u.toArray,I,l,o,m,by simp[<-e.length,W9],fun i E j F=>?_⟩;have C:=kW (c:=c) f i j _ (C36 E) F;obtain⟨z,q,s⟩:=e.get _ _ C;exact⟨z,by simpa using q,s⟩
theorem M6{x y:Operand}{t e:TypeId}{g c k n:Nat}{F:List TC}{D:IntKind}{i:Int}[ht:TySl P t e g c](B:opv fr x=some (.s (.one (.mut k))))(z:B5 ob k=some (.tarr n g F))
  (C:opv fr y=some (I7 (.int D i)))(q:0<=i)(v:i<n):Neu P ⟨dst,.indexAddr t x y,ty,pos,af,gd⟩ fr ob (fun E=>E=.s (.one (.mref k g i.toNat 0))) :=
 E6 fun S G a w h=>by
  obtain⟨l,_⟩:=H8 h B;obtain⟨b,I,H,j,_⟩:=h.obs k _ z;rw[j]at l;refine⟨.pointer (some ⟨b,i.toNat*g,none⟩),?_,b,n,n,j,rfl⟩;simp only[execOp,l,F7 h C];refine M3 ?_;have hb:0<=i/\i<(n:Int):=⟨q,v⟩
  simp[Instr.indexAt,run_underlying ht.out.1,asIntOf,hb,J1 ht.size,Addr.add_lit]
theorem LV{x:Operand}{t:TypeId}{k i o n g:Nat}{q:List TC}{s:TC}[ht:TyOne P t](D:opv fr x=some (.s (.one (.mref k g i o))))(A:B5 ob k=some (.tarr n g q))(C:q[i*g+o]?=some s) :
  Neu P ⟨dst,.load t x,ty,pos,af,gd⟩ fr ob (fun E=>E=.s (.one s)) :=
 E6 fun S G a w h=>by
  obtain⟨b,m,u,v,B⟩:=H8 h D;obtain⟨F,H,tt,c,_,y,_,ha⟩:=h.obs k _ A;rw[v]at c;cases c;obtain⟨z,j,p⟩:=ha.get _ s C;refine⟨z,?_,p⟩;simp only[execOp,B];refine M3 ?_;simp[Instr.loadAt,Instr.sureAddr,V5 (ht:=ht) (cell_of_heap y (by simpa using j))]
theorem HI{t:TypeId}{x E:Operand}{k i o n m y:Nat}{T:List TC}{s:S1}(Q:(P.info? t).map (·.size)=some m)(hx:opv fr x=some (.s (.one (.mref k y i o))))(U:B5 ob k=some (.tarr n y T))
  (hy:opv fr E=some (.s s))(H:H2 E=true)(V:s.cells.length=m)(q:i*y+o+m<=T.length) :
  Eff P ⟨none,.store t x E,ty,pos,af,gd⟩ fr ob fr ((k,.tarr n y (setTs T (i*y+o) s.cells))::ob):=by
 intro S G a w h;obtain⟨b,len,W,M,hu⟩:=H8 h hx;obtain⟨b',vs,tt,I,J,Y,R,ha⟩:=h.obs k _ U;rw[M]at I;cases I;have Z:(SV.s s).rep (E5 (Mut S ob G) w) G (a.eval E):=Y7 h hy H;have d:=C08 Z;have F:(a.eval E).cells.size=m:=by rw[<-V,d.length];simp
 obtain⟨w',L,N,D,K,C,g,B⟩:=fZ (P:=P) (t:=t) (w:=w) (b:=b) (o:=i*y+o) (v:=a.eval E) (by rw[Q,F]) Y (qF d) (by rw[F,<-ha.length];exact q);unfold Does;have X:(execOp a.eval ⟨none,.store t x E,ty,pos,af,gd⟩).run P w=.ok .skip w':=by
  simp[execOp,hu,Instr.storeAt,Instr.sureAddr,L]
 rw[X];have A:blk (G k)=some b:=by rw[M];rfl
 refine⟨G,h.write U A (fun i=>⟨A,trivial⟩) (fun i=>⟨A,trivial⟩) N D K (Nat.le_of_eq C.symm) (fun j _=>g j) ?_⟩;intro rd O;refine⟨b,_,tt,M,J,B,by rw[LS (by rw[V];exact q)];exact R,?_⟩;have:=(All2.setTs (i*y+o) ha d).mono (fun _ _=>TC.rep_mono O);simpa using this
theorem qJ{α:Type}{c:α->Nat->Cell}:∀(a:List α),fR 1 c a=a.map fun x=>.p (c x 0)
 | []=>rfl
 | x::a=>by simp[fR,cellsOf,qJ a]
theorem C29(k:Nat){α:Type}{c:α->Nat->Cell}{b:List α}(d:B5 ob k=some (.arr α 1 c b)):Sees P nt fr ob fr ((k,.tarr b.length 1 (b.map fun x=>.p (c x 0)))::ob):=by
 have:=Sees.toT (P:=P) (nt:=nt) (fr:=fr) k d
 rwa[qJ]at this
theorem C30(k:Nat){α:Type}{c:α->Nat->Cell}{n:Nat}{e:List TC}(b:List α)(f:B5 ob k=some (.tarr n 1 e))(g:b.length=n)(d:e=b.map fun x=>.p (c x 0)):Sees P nt fr ob fr ((k,.arr α 1 c b)::ob) :=
 Sees.ofT k b f g (by rw[qJ];exact d)
theorem P0{x:Operand}{t:TypeId}{k i n:Nat}{b:List TC}{s:TC}[ht:TyOne P t](h:opv fr x=some (.s (.one (.mref k 1 i 0))))(c:B5 ob k=some (.tarr n 1 b))(g:b[i]?=some s) :
  Neu P ⟨dst,.load t x,ty,pos,af,gd⟩ fr ob (fun j=>j=.s (.one s)):=LV h c (by simpa using g)
theorem A49{a:List TC}{i:Nat}{s:TC}(h:i<a.length):setTs a i [s]=a.set i s:=by
 unfold setTs;rw[List.set_eq_take_append_cons_drop,A6 h];simp
theorem gU{t:TypeId}{x h:Operand}{k i n:Nat}{g:List TC}{s:TC}(d:(P.info? t).map (·.size)=some 1)(u:opv fr x=some (.s (.one (.mref k 1 i 0))))(q:B5 ob k=some (.tarr n 1 g))
  (j:i<g.length)(v:opv fr h=some (.s (.one s)))(b:H2 h=true):Eff P ⟨none,.store t x h,ty,pos,af,gd⟩ fr ob fr ((k,.tarr n 1 (g.set i s))::ob):=by
 have:=HI (ty:=ty) (pos:=pos) (af:=af) (gd:=gd) d u q v b rfl (by omega)
 rwa[show i*1+0=i by omega,show (S1.one s).cells=[s] from rfl,A49 j]at this
theorem G3{t:TypeId}{x l:Operand}{k i:Nat}{α:Type}{c:α->Nat->Cell}{g:List α}{y:α}(d:(P.info? t).map (·.size)=some 1)(w:opv fr x=some (.s (.one (.mref k 1 i 0))))(v:B5 ob k=some (.arr α 1 c g))
  (q:i<g.length)(A:opv fr l=some (.s (.one (.p (c y 0)))))(b:H2 l=true):Eff P ⟨none,.store t x l,ty,pos,af,gd⟩ fr ob fr ((k,.arr α 1 c (g.set i y))::ob) :=
 uP d w v (C36 q) A b rfl rfl (fun D G B h=>by
  match B,h with
  | [u],h=>exact⟨h.1,trivial⟩) (fun j C h=>by omega)
theorem UX{α β:Type}{c:α->Nat->Cell}{k d i:Nat}{b:β->Nat->Cell}{f:List β}{y:α}{g:List α}(j:c y 0=.list β d b f) :
  ((g.map fun x=>TC.p (c x 0)).set i (.mut k)).map (TC.freeze k β d b f)=(g.set i y).map fun x=>.p (c x 0):=by
 rw[List.map_set,List.map_set,D01];have h:TC.freeze k β d b f (.mut k)=.p (c y 0):=by simp[TC.freeze,j]
 rw[h];rfl
theorem a8(k:Nat){t e:TypeId}{ec b:Nat}{x y:Operand}{v w:IntKind}{n:Int}(α:Type)(c:α->Nat->Cell)(f:α){z:Value}[ht:TySl P t e ec b][hz:TyZero P e z]
  (p:opv fr x=some (I7 (.int v n)))(q:opv fr y=some (I7 (.int w n)))(g:0<=n)(j:n<=1073741824)
  (d:∀A:Rd,All2 (Cell.rep A) (cellsOf c f 0 ec) z.cells.toList)(h:(J2 k fr&&J9 k ob)=true) :
  EffV P ⟨dst,.makeSlice t x y,ty,pos,af,gd⟩ fr ob (.s (.one (.mut k))) fr ((k,.arr α ec c (List.replicate n.toNat f))::ob) :=
 f_make k α c f p q g j (by rw[hz.out.1];rfl) d h
theorem C11{fr':Fr}{ob':Obs}(e:FrLe fr fr')(g:∀k o,B5 ob' k=some o->B5 ob k=some o):Sees P nt fr ob fr' ob' :=
 fun S G a w j h=>by
  have c:=(h.weakenO g)
  refine⟨G,{ c with facts:=fun i s f=>?_ }⟩;obtain⟨s0,d,b⟩:=e.spec i s f;exact b.rep (c.facts i s0 d)
end
abbrev Mb(M:Nat->Nat->Prop)(b:Nat):Nat->Nat->Prop:=fun a i=>M a i\/a=b
def FnIo(P:Program)(f:FuncId)(h:List PV)(C:List Cell)(m:List PV->List Cell->Prop):Prop :=
 Callable P f/\∀(w:World) (M:Nat->Nat->Prop) (g:List Value) (b:Nat) (B:List Value) (t:TypeId),Grd P (fun k=>k=b) w->(∀x i,M x i->x<w.heap.size/\x≠b) ->
  w.heap[b]?=some (.cells B.toArray t (0,0))->All2 (Cell.rep (E5 (Mb M b) w)) C B->All2 (PV.rep (E5 (Mb M b) w)) h g ->
  Calls P f (.pointer (some ⟨b,0,none⟩)::g).toArray w (fun e w'=>∃v z j q,e=.returned v/\m z j/\ResRep (E5 (Mb M b) w') z v/\(∃D,w'.heap[b]?=some (.cells (List.toArray q) D (0,0)))/\All2 (Cell.rep (E5 (Mb M b) w')) j q /\
   w'.os=w.os/\w'.tape=w.tape/\w'.output=w.output/\w.heap.size<=w'.heap.size/\∀k,k<w.heap.size->k≠b->w'.heap[k]?=w.heap[k]?)
theorem FnIo.mono{P:Program}{f:FuncId}{args:List PV}{j:List Cell}{d a:List PV->List Cell->Prop}(h:FnIo P f args j d)(x:∀rs c,d rs c->a rs c):FnIo P f args j a :=
 ⟨h.1,fun w M g b y t k l q s u=>(h.2 w M g b y t k l q s u).mono fun _ _ ⟨v,rs,c,i,e,p,r⟩=>⟨v,rs,c,i,e,x _ _ p,r⟩⟩
abbrev self:Nat:=1000000
def retIoP(P:Program)(fn:Func)(d:List PV->List Cell->Prop):Post
 | .normal,fr,ob | .ret,fr,ob=>∃f g c,RetOk P fn fr ob f/\B5 ob self=some (.box g)/\gQ g=some c/\d f c
 | _,_,_=>False
theorem FnIo.intro{f:FuncId}{fn:Func}{c:Code}{args:List PV}{cs:List Cell}{I:List PV->List Cell->Prop}(hf:P.funcs[f]?=some fn)(R:(fn.name == "runtime.NumGoroutine")=false)(hb:fn.body=some c)(ak:fn.ntmps=nt)
  (ac:Nat.ble (args.length+1) nt=true)(T:Nat.ble nt 1000000=true)(h:WpC P nt c ((0,.s (.one (.ref self 0)))::oK 1 args) [(self,.box (cs.map .p))] (retIoP P fn I)):FnIo P f args cs I:=by
 refine⟨⟨fn,hf,R,by simp[hb]⟩,fun w M B b vs t hg hM ab ag ha=>?_⟩;have an:args.length+1<=nt:=by simpa using ac
 have ap:B.length=args.length:=ha.length.symm;refine cF hf hb ?_;let G:Gh:=fun _=>.pointer (some ⟨b,0,none⟩);let S:Ctx:={ w0:=w,M0:=M,io:=fun k=>k=b,nt:=nt,pin:=G,gv:=fun _=>undef }
 have O:∀k,blk (G k)=some b:=fun _=>rfl;have al:b<w.heap.size:=(C58.1 ab).1;have H:∀k o,B5 [(self,Ob.box (cs.map .p))] k=some o->k=self/\o=.box (cs.map .p):=by
  intro k o J;by_cases he:self=k
  ·subst he;rw[B3]at J;cases J;exact⟨rfl,rfl⟩
  ·rw[A8 he]at J;simp[B5]at J
 have X:∀E i,Mut S [(self,.box (cs.map .p))] G E i↔Mb M b E i:=fun E i=>by
  constructor
  ·rintro (h | ⟨k,o,J,ho,_⟩)
   ·exact .inl h
   ·rw[O k]at ho;cases ho;exact .inr rfl
  ·rintro (h | h)
   ·exact .inl h
   ·exact .inr ⟨self,_,B3 _ _ _,by rw[O self,h],trivial⟩
 have ad:∀E i z,E5 (Mb M b) w E i z->E5 (Mut S [(self,.box (cs.map .p))] G) w E i z:=fun E i z V=>⟨V.1,fun K=>V.2 ((X E i).1 K)⟩
 have hs:Sim P S ((0,.s (.one (.ref self 0)))::oK 1 args) [(self,.box (cs.map .p))] G { tmps:=(Value.pointer (some ⟨b,0,none⟩)::B).toArray++Array.replicate (fn.ntmps-(Value.pointer (some ⟨b,0,none⟩)::B).toArray.size) undef,defers:=[] } w:=by
  refine { nt:=by simp[ak,S];omega,ntb:=by simpa using T,defers:=rfl,os:=rfl,tape:=rfl,output:=rfl,size:=C45 _,keep:=fun _ _ _=>rfl,m0:=fun E i K=>(hM E i K).1,m0io:=fun E i K=>(hM E i K).2,grd:=hg,pin:=fun _ _=>rfl,old:=fun k o E J Z=>?_,dis:=fun k k' o o' E J ah _ _=>by rw[(H k o J).1,(H k' o' ah).1],obs:=fun k o J=>?_,facts:=?_ }
  ·rw[O k]at Z;cases Z;exact .inr ⟨rfl,by rw[(H k o J).1];exact C45 _⟩
  ·obtain⟨rfl,rfl⟩:=H k o J;exact⟨b,vs,t,rfl,ab,UU (ag.mono fun c u=>Cell.rep_mono ad c u)⟩
  intro i s hi;by_cases h0:(0:Nat)=i
  ·subst h0;rw[D4]at hi;cases hi;have:((Value.pointer (some ⟨b,0,none⟩)::B).toArray++Array.replicate (fn.ntmps-(Value.pointer (some ⟨b,0,none⟩)::B).toArray.size) undef).getD 0 undef=.pointer (some ⟨b,0,none⟩):=by
    rw[C54,Array.getElem?_append_left (by simp)];simp
   have ai:nt<=1000000:=by simpa using T
   rw[Ctx.sl_lt (by omega),this];exact⟨b,rfl,rfl⟩
  ·rw[C4 h0]at hi;obtain⟨am,p,hp,rfl⟩:=qH 1 args i s hi;obtain⟨u,hu,V⟩:=ha.get (i-1) p hp;have ao:i-1<B.length:=(C44.1 hu).1;have Q:((Value.pointer (some ⟨b,0,none⟩)::B).toArray++Array.replicate (fn.ntmps-(Value.pointer (some ⟨b,0,none⟩)::B).toArray.size) undef).getD i undef=u:=by
    rw[C54,Array.getElem?_append_left (by simp;omega)];obtain⟨j,rfl⟩:∃j,i=j+1:=⟨i-1,by omega⟩
    simpa using congrArg (fun x=>x.getD undef) hu
   have ai:nt<=1000000:=by simpa using T
   rw[Ctx.sl_lt (by omega),Q];exact PV.rep_s1 (PV.rep_mono ad V)
 refine wp_mono (h S _ _ w A0 hs) ?_;rintro e a' w' ⟨fr',ob',G',hq,C⟩
 have fin:(∃rs ts F,RetOk P fn fr' ob' rs/\B5 ob' self=some (.box ts)/\gQ ts=some F/\I rs F)->∀ds w',Sim P { S with df:=ds } fr' ob' G' a' w'->∃v,(results fn a'.tmps).run P w'=.ok v w' /\
   (∃af rs F L,Ending.returned v=.returned af/\I rs F/\ResRep (E5 (Mb M b) w') rs af/\(∃t',w'.heap[b]?=some (.cells (List.toArray L) t' (0,0)))/\All2 (Cell.rep (E5 (Mb M b) w')) F L /\
   w'.os=w.os/\w'.tape=w.tape/\w'.output=w.output/\w.heap.size<=w'.heap.size/\∀k,k<w.heap.size->k≠b->w'.heap[k]?=w.heap[k]?):=by
  rintro⟨rs,ts,F,V,ho,hp,U⟩ ds w' C;obtain⟨v,hv,ae⟩:=V _ G' a' w' C;obtain⟨E,L,t',W,hh,Y⟩:=C.obs self _ ho;have q:=C.pin self (C45 _);rw[W]at q;injection q with q
  injection q with q
  injection q with q
  subst q
  have N:∀b₁ i z,E5 (Mut S ob' G') w' b₁ i z->E5 (Mb M E) w' b₁ i z:=fun b₁ i z hz=>⟨hz.1,fun K=>hz.2 (by
   rcases K with K | rfl
   ·exact .inl K
   ·exact .inr ⟨self,_,ho,by rw[W];rfl,trivial⟩)⟩
  refine⟨v,hv,v,rs,F,L,rfl,U,ae.mono N,⟨t',hh⟩,((bT hp Y).mono fun c u=>Cell.rep_mono N c u),C.os,C.tape,C.output,C.size,fun k J aj=>C.keep k J aj⟩
 cases e with
 | normal=>exact C.leave rfl (fin hq)
 | ret=>exact C.leave rfl (fin hq)
 | _=>exact hq.elim
section
variable {P:Program}{dst:Option Tmp}{ty:TypeId}{pos:String}{af:Array Edge}{gd:Option (Nat×Bool)}{fr:Fr}{ob:Obs}
theorem sX(k:Nat){t e:TypeId}{A K n:Nat}{q:Array (Nat×Operand)}{α:Type}{c:α->Nat->Cell}{ys:List α}[ht:TySl P t e A K](hb:AV fr A c q.toList 0 ys)(hn:q.toList.length=n)(T:Nat.ble n 100000=true)(W:Nat.ble A 100=true)
  (hk:B5 ob k=none)(ae:k<1000000):EffV P ⟨dst,.buildSlice t n q,ty,pos,af,gd⟩ fr ob (.s (.one (.buf k α A c ys))) (Fr.forget k fr) ((k,.spare ys.length A e)::Obs.forget k ob):=by
 intro S G a w h;have ac:=ht.out.2.2.1;have ad:n<=100000:=by simpa using T
 have V:A<=100:=by simpa using W
 have al:n*A<=100000*100:=Nat.mul_le_mul ad V;obtain⟨_,_,_,_,E⟩:=ht.out;cases hi:P.info? e with
 | none=>simp[hi]at E
 | some i =>
 cases hz:i.zero with
 | none=>simp[hi,hz]at E
 | some z =>
 have ak:(P.info? e).bind (·.zero)=some z:=by simp[hi,hz]
 let C:Array Value:=(Array.range (n*A)).map ((if n*A=0 then #[] else z.cells)[· % (if n*A=0 then #[] else z.cells).size]!);have U:C.size=n*A:=by simp[C]
 obtain⟨I,hf,ag,ah,hv⟩:=qE h q.toList 0 ys C hb (by rw[U,hn,C91]);simp only[Nat.zero_mul,C79,D06]at hf;have hp:(q.map fun x=>(x.1,a.eval x.2)).toList=q.toList.map fun x=>(x.1,a.eval x.2):=by simp
 have F:ys.length=n:=by rw[ah,hn]
 refine J4 (w':=w.alloc (.cells I.toArray e)) (v:=.slice (some ⟨w.heap.size,0,none⟩) n n) ?_ ?_
 ·simp only[execOp];refine M3 ?_;simp only[Instr.buildSlice,Sem.run_bind,run_underlying ht.out.1,Result.andThen_ok,J1 ht.size];rw[A7 (by omega)];by_cases H:n*A=0
  ·simp only[H,if_true,Sem.run_bind,Sem.run_pure,Result.andThen_ok];have D:C=(Array.range 0).map ((#[]:Array Value)[· % (#[]:Array Value).size]!):=by simp only[C,H,if_true]
   rw[show (q.map fun (x:Nat×Operand)=>match x with | (i,x)=>(i,a.eval x))=q.map fun x=>(x.1,a.eval x.2) from rfl,hp,<-D,hf];simp[newRow]
  ·simp only[A7 H,Sem.run_bind,T5 ak,Sem.run_pure,Result.andThen_ok];have D:C=(Array.range (n*A)).map (z.cells[· % z.cells.size]!):=by simp only[C,A7 H]
   rw[show (q.map fun (x:Nat×Operand)=>match x with | (i,x)=>(i,a.eval x))=q.map fun x=>(x.1,a.eval x.2) from rfl,hp,<-D,hf];simp[newRow]
 ·have ab:Below w.heap.size w (w.alloc (.cells I.toArray e)):=(Below.refl _ _).alloc (C45 _) _;have hu:∀b,blk (.slice (some ⟨w.heap.size,0,none⟩) n n)=some b->w.heap.size<=b:=by intro b hb;simp[blk]at hb;omega
  have Q:I.length=n*A:=by rw[ag,hn]
  have J:(w.alloc (.cells I.toArray e)).ownsRow S.B e A (.slice (some ⟨w.heap.size,0,none⟩) n n) ys.length I :=
   ⟨by rw[Q,F],.inr ⟨w.heap.size,n,I.toArray,by rw[F],h.size,heap_alloc_new w _,by rw[F];exact C45 _,by unfold maxLen;omega,by simpa using Q,by rw[F,<-Q];simp⟩⟩
  have Z:=h.new ae hk (o:=.spare ys.length A e) ab hu ⟨I,J⟩;refine⟨_,Z,(I8 _ _ _).symm,?_⟩;have O:(w.alloc (.cells I.toArray e)).ownsRow S.B e A (.slice (some ⟨w.heap.size,0,none⟩) n n) ys.length I:=J;refine gC (c:=c) (xs:=ys) O ac (by omega) ?_ ?_
  ·intro g X j zz hj M;simp[blk]at X;subst X;refine⟨M,fun Y=>?_⟩;rcases Y with Y | ⟨k',o',hk',hb1,hb2⟩
   ·have:=h.m0 _ j Y;have:=h.size;omega
   ·by_cases N:k=k'
    ·subst N;rw[B3]at hk';cases hk';simp only at hb2;omega
    ·rw[A8 N,K3]at hk';cases X:B5 ob k' with
     | none=>simp[X]at hk'
     | some o0 =>
      rw[bS G _ (Ne.symm N)]at hb1;have:=(h.obs k' o0 X).blk_lt _ hb1;omega
  ·intro m Y j hj;obtain⟨zz,ai,aj⟩:=hv m Y j hj;exact⟨zz,ai,Cell.rep_mono (fun _ _ _ hr=>h.rd_new ab hu hr) _ _ aj⟩
theorem sY(k:Nat){t e:TypeId}{h g n:Nat}{parts:Array (Nat×Operand)}{α:Type}{c:α->Nat->Cell}{ys:List α}[ht:TySl P t e h g](hb:AV fr h c parts.toList 0 ys)(z:parts.toList.length=n)(j:Nat.ble n 100000=true)(m:Nat.ble h 100=true)
  (q:(J2 k fr&&J9 k ob)=true):EffV P ⟨dst,.buildSlice t n parts,ty,pos,af,gd⟩ fr ob (.s (.one (.buf k α h c ys))) fr ((k,.spare ys.length h e)::ob):=by
 simp only[C39]at q;obtain⟨v,w⟩:=q;obtain⟨x,y,A⟩:=H4 w;have:=sX (P:=P) (dst:=dst) (ty:=ty) (pos:=pos) (af:=af) (gd:=gd) (ht:=ht) k hb z j m y A
 rwa[i7 v,x]at this
end
def U1{α:Type}(c:α->Nat->Cell)(g:Nat->List α)(l:List Nat):Obs:=l.map fun r=>(r+1000,.arr α 1 c (g r))
theorem kX{α:Type}{c:α->Nat->Cell}{g:Nat->List α}:∀(l:List Nat) (j:Nat) (o:Ob),B5 (U1 c g l) j=some o↔∃r∈l,j=r+1000/\o=.arr α 1 c (g r)
 | [],j,o=>by simp[U1,B5]
 | r::l,j,o=>by
  have k:=kX l j o (c:=c) (g:=g);show B5 ((r+1000,Ob.arr α 1 c (g r))::U1 c g l) j=some o↔_;by_cases h:r+1000=j
  ·subst h;rw[B3];constructor
   ·intro i;cases i;exact⟨r,by simp,rfl,rfl⟩
   ·rintro⟨d,_,m,rfl⟩;obtain rfl:r=d:=by omega
    rfl
  ·rw[A8 h,k];constructor
   ·rintro⟨d,b,e⟩;exact⟨d,by simp[b],e⟩
   ·rintro⟨d,b,e,f⟩;rcases C50.1 b with rfl | b
    ·exact absurd e.symm h
    ·exact⟨d,b,e,f⟩
theorem mG{α:Type}{c:α->Nat->Cell}{g:Nat->List α}{l:List Nat}{r:Nat}(h:r∈l):B5 (U1 c g l) (r+1000)=some (.arr α 1 c (g r)):=(kX l _ _).2 ⟨r,h,rfl,rfl⟩
theorem CA{α:Type}{c:α->Nat->Cell}{g:Nat->List α}{k:Nat}(b:k<1000000):∀(l:List Nat),(∀r∈l,r+1000≠k)->J9 k (U1 c g l)=true
 | [],_=>by simpa[U1,J9] using b
 | r::l,h=>by
  have e:=CA b l (fun f d=>h f (by simp[d])) (c:=c) (g:=g);show (!(Nat.beq (r+1000) k)&&(Ob.free k (.arr α 1 c (g r))&&J9 k (U1 c g l)))=true;rw[S4 (h r (by simp)),e];rfl
theorem C13{α:Type 1}{β:Type}{R:α->β->Prop}{t:α}:∀{c:List α} {a:List β} (o:Nat),(∀z,a[o]?=some z->R t z)->All2 R c a->All2 R (c.set o t) a
 | [],[],_,_,_=>trivial
 | [],_::_,_,_,h=>h.elim
 | _::_,[],_,_,h=>h.elim
 | _::_,v::_,0,hz,h=>⟨hz v rfl,h.2⟩
 | _::c,_::a,o+1,hz,h=>⟨h.1,C13 o (fun z b=>hz z (by simpa using b)) h.2⟩
theorem C18(k:Nat)(α:Type)(g:Nat)(c:α->Nat->Cell)(e:TypeId){kb o:Nat}{A:List TC}(hb:B5 ob kb=some (.box A))(H:A[o]?=some (.p (.v (.slice none 0 0))))(K:(J2 k fr&&J9 k ob)=true) :
  Sees P nt fr ob fr ((kb,.box (A.set o (.buf k α g c [])))::(k,.spare 0 g e)::ob):=by
 simp only[C39]at K;obtain⟨M,N⟩:=K;obtain⟨O,B,T⟩:=H4 N;intro S G a w X h;have C:=h.new T (o:=.spare 0 g e) (u:=.slice none 0 0) (w1:=w) B (Below.refl _ _) (fun b hb=>by simp[blk]at hb) ⟨[],World.ownsRow_nil w _ _ _⟩;rw[i7 M,O]at C;have F:k≠kb:=fun Q=>by rw[Q,hb]at B;cases B
 have n:B5 ((k,Ob.spare 0 g e)::ob) kb=some (.box A):=by rw[A8 F];exact hb
 obtain⟨b,Z,t,R,W,ha⟩:=C.obs kb _ n;have d:blk (upd G k (.slice none 0 0) kb)=some b:=by rw[R];rfl
 refine⟨_,C.retell n d (fun i=>⟨d,trivial⟩) (fun i=>⟨d,trivial⟩) ?_⟩;rintro Y ⟨L,J,V,D,E,j⟩;refine⟨L,J,V,D,E,C13 o (fun z U=>?_) j⟩;obtain⟨z',q,I⟩:=j.get o _ H;rw[U]at q;cases q;rw[I.1];exact⟨(I8 _ _ _).symm,t7 α g c⟩
theorem A50{k:Nat}{α:Type}{a:Nat}{c:α->Nat->Cell}{b:List α}:∀{fr:Fr},J2 k fr=true->C12 (SV.freeze k α a c b) fr=fr:=by
 have e:∀{t:TC},t.free k=true->t.freeze k α a c b=t:=by
  intro t h;cases t<;>first | rfl | skip
  simp only[TC.free,C80]at h;simp[TC.freeze,h]
 have f:∀{s:S1},s.free k=true->s.freeze k α a c b=s:=by
  intro s h;cases s with
  | one t=>simp only[S1.freeze];rw[e h]
  | agg m=>simp only[S1.freeze];rw[X6 fun t d=>e (C47.1 h t d)]
 have g:∀{s:SV},s.free k=true->s.freeze k α a c b=s:=by
  intro s h;cases s with
  | s x=>simp only[SV.freeze];rw[f h]
  | tup l=>simp only[SV.freeze];rw[X6 fun t d=>f (C47.1 h t d)]
  | any=>rfl
  | un=>rfl
 intro fr;induction fr with
 | nil=>intro _;rfl
 | cons x r j =>
  intro h;obtain⟨i,s⟩:=x;simp only[J2,C39]at h;have:=j h.2;simp only[C12,C73]at this ⊢;rw[this,g h.1]
theorem oN:∀(a b:Obs) (k:Nat),B5 (a++b) k=(B5 a k).orElse fun _=>B5 b k
 | [],b,k=>rfl
 | (i,s)::r,b,k=>by
  show B5 ((i,s)::(r++b)) k=_;by_cases h:i=k
  ·subst h;rw[B3,B3];rfl
  ·rw[A8 h,A8 h,oN r b k]
theorem X4{a b:Obs}{k:Nat}(h:B5 a k=none):B5 (a++b) k=B5 b k:=by rw[oN,h];rfl
theorem jV{a b:Obs}{k:Nat}{o:Ob}(h:B5 a k=some o):B5 (a++b) k=some o:=by rw[oN,h];rfl
def low:Obs->Bool
 | []=>true
 | (i,_)::r=>Nat.blt i 1000&&low r
theorem oO:∀{a:Obs},low a=true->∀{k:Nat},1000<=k->B5 a k=none
 | [],_,_,_=>rfl
 | (i,s)::r,h,k,hk=>by
  simp only[low,C39,Nat.blt_eq]at h;rw[A8 (by omega),oO h.2 hk]
theorem B36{α:Type}{c:α->Nat->Cell}{g g':Nat->List α}{l:List Nat}{pre:Obs}(j:low pre=true){r:Nat}(n:r∈l)(i:∀q,q≠r->g' q=g q) :
  ∀k o,B5 (pre++U1 c g' l) k=some o->B5 ((r+1000,.arr α 1 c (g' r))::(pre++U1 c g l)) k=some o:=by
 intro k o h;by_cases b:r+1000=k
 ·subst b;rw[X4 (oO j (by omega)),mG n]at h;rw[B3];exact h
 ·rw[A8 b];cases d:B5 pre k with
  | some p=>rw[jV d]at h ⊢;exact h
  | none =>
   rw[X4 d]at h ⊢;obtain⟨q,f,e,rfl⟩:=(kX l k o).1 h;have m:q≠r:=by rintro rfl;exact b e.symm
   rw[e,mG f,i q m]
def Y8{α:Type}(c:α->Nat->Cell)(m k:Nat)(g:Nat->List α):List TC:=(List.range m).map fun r=>if r<k then .p (.list α 1 c (g r)) else .mut (r+1000)
theorem PP{α:Type}{c:α->Nat->Cell}{m k r:Nat}{g:Nat->List α}(h:r<m)(a:k<=r):(Y8 c m k g)[r]?=some (.mut (r+1000)):=by
 unfold Y8;rw[C96,D02 h];simp;omega
theorem TC.freeze_free{k:Nat}{α:Type}{a:Nat}{c:α->Nat->Cell}{b:List α}{t:TC}(h:t.free k=true):t.freeze k α a c b=t:=by
 cases t<;>first | rfl | skip
 simp only[TC.free,C80]at h;simp[TC.freeze,h]
theorem Ob.freeze_free{k:Nat}{α:Type}{g:Nat}{c:α->Nat->Cell}{i:List α}{o:Ob}(h:o.free k=true):o.freeze k α g c i=o:=by
 cases o with
 | box b=>simp only[Ob.freeze];rw[X6 fun t a=>TC.freeze_free (C47.1 h t a)]
 | tbx e b=>simp only[Ob.freeze];rw[X6 fun t a=>TC.freeze_free (C47.1 h t a)]
 | tarr n e b=>simp only[Ob.freeze];rw[X6 fun t a=>TC.freeze_free (C47.1 h t a)]
 | arr=>rfl
 | spare=>rfl
 | grow=>rfl
 | map=>rfl
 | growA f q d l j p b=>simp only[Ob.freeze];rw[X6 fun t a=>TC.freeze_free (C47.1 h t a)]
 | growT f m d b=>simp only[Ob.freeze];rw[X6 fun t a=>TC.freeze_free (C47.1 h t a)]
def uR(k:Nat):Obs->Bool
 | []=>true
 | (_,o)::r=>Ob.free k o&&uR k r
theorem yW{k:Nat}:∀{a:Obs},uR k a=true->∀{i:Nat} {o:Ob},B5 a i=some o->o.free k=true
 | [],_,_,_,h=>by cases h
 | (j,s)::r,hf,i,o,h=>by
  simp only[uR,C39]at hf;by_cases b:j=i
  ·subst b;rw[B3]at h;cases h;exact hf.1
  ·rw[A8 b]at h;exact yW hf.2 h
theorem CB{α:Type}{c:α->Nat->Cell}{m k:Nat}{g:Nat->List α}:(Y8 c m k g).map (TC.freeze (k+1000) α 1 c (g k))=Y8 c m (k+1) g:=by
 unfold Y8;rw[D01];refine C81 fun r d=>?_;show TC.freeze (k+1000) α 1 c (g k) (if r<k then _ else _)=_;by_cases h:r<k
 ·rw[A6 h,A6 (by omega)];rfl
 ·rw[A7 h];by_cases b:r=k
  ·subst b;rw[A6 (by omega)];simp[TC.freeze]
  ·have:Nat.beq (r+1000) (k+1000)=false:=S4 (by omega);rw[A7 (by omega)];simp[TC.freeze,this]
theorem C31{P:Program}{f:FuncId}{c:List PV}{g:List PV->Prop}(l:Callable P f)
  (h:∀(w:World) (M:Nat->Nat->Prop) (a:List Value),(∀b i,M b i->b<w.heap.size)->All2 (PV.rep (E5 M w)) c a->Calls P f a.toArray w (fun e w'=>∃v j,e=.returned v/\g j/\ResRep (E5 M w') j v/\Below w.heap.size w w')):FnOk P f c g :=
 ⟨l,fun w M a _ k ha=>h w M a k ha⟩
theorem C09{P:Program}{f:FuncId}{xs:List Value}{r:Value}(g:Callable P f)(j:r.oneCell'=true)
  (h:∀w,Calls P f xs.toArray w (fun e w'=>e=.returned r/\w'=w)):FnOk P f (xs.map fun x=>.one (.v x)) (fun p=>p=[.one (.v r)]):=by
 refine C31 g fun w M a s ha=>?_;have k:a=xs:=by
  clear h g;induction xs generalizing a with
  | nil=>cases a with
   | nil=>rfl
   | cons _ _=>exact ha.elim
  | cons x xs l=>cases a with
   | nil=>exact ha.elim
   | cons v q =>
    obtain⟨b,c⟩:=ha;rw[l q c,b.1]
 rw[k];refine (h w).mono fun e w' i=>?_;obtain⟨b,c⟩:=i;exact⟨r,_,b,rfl,⟨rfl,j⟩,by rw[c];exact Below.refl _ _⟩
section
variable {P:Program}{dst:Option Tmp}{ty:TypeId}{pos:String}{af:Array Edge}{gd:Option (Nat×Bool)}{fr:Fr}{ob:Obs}
theorem F3{x:Operand}{k o:Nat}(j:opv fr x=some (.s (.one (.ref k o)))):Neu P ⟨dst,.nilCheck x,ty,pos,af,gd⟩ fr ob (fun m=>m=.s (.one (.ref k o))) :=
 E6 fun S G a w h=>by
  obtain⟨b,d,g⟩:=H8 h j;refine⟨_,?_,b,d,rfl⟩;simp only[execOp,g];rfl
theorem n_compl{x:Operand}{t:TypeId}{k:IntKind}{n r:Int}(d:opv fr x=some (I7 (.int k n)))(c:k.signed=false)(b:∀w:World,(Op.intBits .xor k k.max n).run P w=.ok (.int k r) w):Neu P ⟨dst,.unOp .xor t x,ty,pos,af,gd⟩ fr ob (fun e=>e=I7 (.int k r)) :=
 E6 fun S G a w h=>⟨_,by simp only[execOp,F7 h d];exact M3 (by simp[Op.unary,c];exact b w),rfl,rfl⟩
end
def eJ(fr:Fr):Fr:=fr.map fun x=>(x.1+1000000,x.2)
theorem Y1:∀(fr:Fr) (i:Nat) (s:SV),D5 (eJ fr) i=some s->1000000<=i/\D5 fr (i-1000000)=some s
 | [],i,s,h=>by simp[eJ,D5]at h
 | (j,x)::r,i,s,h=>by
  by_cases a:j+1000000=i
  ·subst a;simp only[eJ,C73]at h;rw[D4]at h;cases h;exact⟨by omega,by rw[Nat.add_sub_cancel,D4]⟩
  ·simp only[eJ,C73]at h;rw[C4 a]at h;obtain⟨b,c⟩:=Y1 r i s h;exact⟨b,by rw[C4 (by omega)];exact c⟩
theorem mH{fr:Fr}:∀{i:Nat} {s:SV},D5 fr i=some s->D5 (eJ fr) (i+1000000)=some s:=by
 induction fr with
 | nil=>intro i s h;simp[D5]at h
 | cons x r b =>
  obtain⟨j,y⟩:=x;intro i s h;by_cases a:j=i
  ·subst a;rw[D4]at h;cases h;simp only[eJ,C73];rw[D4]
  ·rw[C4 a]at h;simp only[eJ,C73];rw[C4 (by omega)];exact b h
theorem UY(k:Nat)(fr:Fr):Fr.forget k (eJ fr)=eJ (Fr.forget k fr):=by simp[eJ,Fr.forget,Function.comp_def]
def dG:Nat->List S1->Fr
 | _,[]=>[]
 | i,p::ps=>(i,.s p)::dG (i+1) ps
theorem sZ:∀(i:Nat) (ps:List S1) (k:Nat) (s:SV),D5 (dG i ps) k=some s->i<=k/\∃p,ps[k-i]?=some p/\s=.s p
 | i,[],k,s,h=>by simp[dG,D5]at h
 | i,p::ps,k,s,h=>by
  by_cases a:i=k
  ·subst a;simp only[dG,D4]at h;cases h;exact⟨C45 _,p,by simp,rfl⟩
  ·simp only[dG]at h;rw[C4 a]at h;obtain⟨d,q,b,c⟩:=sZ (i+1) ps k s h;refine⟨by omega,q,?_,c⟩;have:k-i=(k-(i+1))+1:=by omega
   rw[this];simpa using b
theorem l9:∀(a b:Fr) (k:Nat),D5 (a++b) k=(D5 a k).orElse fun _=>D5 b k
 | [],b,k=>rfl
 | (i,s)::r,b,k=>by
  show D5 ((i,s)::(r++b)) k=_;by_cases h:i=k
  ·subst h;rw[D4,D4];rfl
  ·rw[C4 h,C4 h,l9 r b k]
def mI:List S1->SV
 | [p]=>.s p
 | ps=>.tup ps
def dT(a:Rd)(G:Gh)(b:List S1)(v:Value):Prop:=(mI b).rep a G v
def RetS(P:Program)(fn:Func)(fr:Fr)(ob:Obs)(b:List S1):Prop :=
 ∀S G a w,Sim P S fr ob G a w->∃v,(results fn a.tmps).run P w=.ok v w/\dT (E5 (Mut S ob G) w) G b v
def B4(ks:List Nat)(fr:Fr):Fr:=ks.foldl (fun f k=>Fr.forget k f) fr
theorem cK:∀{ks:List Nat} {fr:Fr} {i:Nat} {s:SV},D5 (B4 ks fr) i=some s->∃s0,D5 fr i=some s0
 | [],_,_,s,h=>⟨s,h⟩
 | k::ks,fr,i,s,h=>by
  obtain⟨s0,a⟩:=cK (ks:=ks) (fr:=Fr.forget k fr) h;rw[O7]at a;cases b:D5 fr i with
  | none=>rw[b]at a;cases a
  | some s1=>exact⟨s1,rfl⟩
theorem m6:∀(a:List Nat) (fr:Fr),B4 a (eJ fr)=eJ (B4 a fr)
 | [],_=>rfl
 | k::a,fr=>by
  show B4 a (Fr.forget k (eJ fr))=eJ (B4 a (Fr.forget k fr));rw[UY,m6 a]
def High(gf:Fr):Prop:=∀i s,D5 gf i=some s->1000000<=i
def Tail(gf fr:Fr):Prop:=∀i s,1000000<=i->D5 gf i=some s->D5 fr i=some s
theorem Z6{gf:Fr}:Tail gf gf:=fun _ _ _ h=>h
theorem Z7{gf fr:Fr}{j:Nat}{s:SV}(a:Nat.blt j 1000000=true)(h:Tail gf fr):Tail gf ((j,s)::fr):=fun i d c b=>by
 have a:j<1000000:=by simpa using a
 rw[C4 (by omega)];exact h i d c b
theorem eK(k:Nat){gf fr:Fr}(h:Tail gf fr):Tail (Fr.forget k gf) (Fr.forget k fr):=fun i s c b=>by
 rw[O7]at b ⊢;cases a:D5 gf i with
 | none=>rw[a]at b;cases b
 | some s0=>rw[a]at b;rw[h i s0 c a];exact b
def metP(P:Program)(fn:Func)(d:List Nat)(gf:Fr)(b:List S1->Obs->Prop):Post
 | .normal,fr,ob | .ret,fr,ob=>∃c ob',RetS P fn fr ob c/\Tail (B4 d gf) fr/\(∀k o,B5 ob' k=some o->B5 ob k=some o)/\b c ob'
 | _,_,_=>False
def Met(P:Program)(f:FuncId)(args:List S1)(gf:Fr)(ob:Obs)(ks:List Nat)(c:List S1->Obs->Prop):Prop :=
 Callable P f/\(High gf->∀S G a w (b:List Value),Sim P S gf ob G a w->All2 (S1.rep (E5 (Mut S ob G) w) G) args b ->
  Calls P f b.toArray w (fun e w'=>∃v g ob' G',e=.returned v/\c g ob'/\dT (E5 (Mut S ob' G') w') G' g v/\Sim P S (B4 ks gf) ob' G' a w'))
theorem Met.mono{f:FuncId}{args:List S1}{gf:Fr}{g:List Nat}{c b:List S1->Obs->Prop}(h:Met P f args gf ob g c)(p:∀rs ob,c rs ob->b rs ob):Met P f args gf ob g b :=
 ⟨h.1,fun l S G a w d q ha=>(h.2 l S G a w d q ha).mono fun e w' ⟨v,rs,ob',G',i,j,k⟩=>⟨v,rs,ob',G',i,p _ _ j,k⟩⟩
theorem Met.intro{f:FuncId}{fn:Func}{c:Code}{args:List S1}{gf:Fr}{N:List Nat}{y:List S1->Obs->Prop}(hf:P.funcs[f]?=some fn)(E:(fn.name == "runtime.NumGoroutine")=false)(hb:fn.body=some c)(J:Nat.ble args.length fn.ntmps=true)(Y:Nat.ble fn.ntmps 1000000=true)
  (h6:WpC P fn.ntmps c (dG 0 args++gf) ob (metP P fn N gf y)):Met P f args gf ob N y:=by
 refine⟨⟨fn,hf,E,by simp[hb]⟩,fun C S G a w j h B=>?_⟩;have ac:j.length=args.length:=B.length.symm;have ab:args.length<=fn.ntmps:=by simpa using J
 have X:fn.ntmps<=1000000:=by simpa using Y
 let S':Ctx:={ S with nt:=fn.ntmps,df:=[] }
 have hs:Sim P S' (dG 0 args++gf) ob G { tmps:=j.toArray++Array.replicate (fn.ntmps-j.toArray.size) undef,defers:=[] } w:=by
  refine { h with nt:=by simp[S'];omega,ntb:=X,defers:=rfl,facts:=?_ };intro i s q;rw[l9]at q;cases H:D5 (dG 0 args) i with
  | some s0 =>
   rw[H]at q;have q:some s0=some s:=q;cases q;obtain⟨_,p,hp,rfl⟩:=sZ 0 args i _ H;obtain⟨u,hu,hr⟩:=B.get (i-0) p hp;have V:i<j.length:=(C44.1 hu).1;have I:(j.toArray++Array.replicate (fn.ntmps-j.toArray.size) undef).getD i undef=u:=by
    rw[C54,Array.getElem?_append_left (by simpa using V)];simpa using congrArg (fun x=>x.getD undef) hu
   rw[Ctx.sl_lt (by omega),I];exact hr
  | none =>
   rw[H]at q;have q:D5 gf i=some s:=q;have U:=C i s q;have F:=h.facts i s q;rw[Ctx.sl_ge U]at F ⊢;exact F
 refine cF hf hb (wp_mono (h6 S' _ _ w rfl hs) ?_);rintro e R w' ⟨fr',ob',G',hq,A⟩;have fin:(∃rs m,RetS P fn fr' ob' rs/\Tail (B4 N gf) fr'/\(∀k o,B5 m k=some o->B5 ob' k=some o)/\y rs m)->∀ds w',Sim P { S' with df:=ds } fr' ob' G' R w'->∃v,(results fn R.tmps).run P w'=.ok v w'/\(∃Q rs ob' G',Ending.returned v=.returned Q/\y rs ob'/\dT (E5 (Mut S ob' G') w') G' rs Q/\Sim P S (B4 N gf) ob' G' a w'):=by
  rintro⟨rs,m,hr,H,ho,hp⟩ ds w' A;obtain⟨v,hv,L⟩:=hr _ G' R w' A;have K:∀b i,Mut S' m G' b i->Mut S' ob' G' b i:=by
   rintro b i (W | ⟨k,o,hk,Z⟩)
   ·exact .inl W
   ·exact .inr ⟨k,o,ho k o hk,Z⟩
  have M:=(A.weaken (fr':=B4 N gf) (fun i s q=>by
   obtain⟨s0,T⟩:=cK q
   exact H i s (C i s0 T) q)).weakenO ho
  refine⟨v,hv,v,rs,m,G',rfl,hp,SV.rep_mono (fun b i z hz=>⟨hz.1,fun W=>hz.2 (K b i W)⟩) L,{ M with nt:=h.nt,ntb:=h.ntb,defers:=h.defers,facts:=fun i s q=>?_ }⟩;obtain⟨s0,T⟩:=cK q;have U:=C i s0 T;have F:=M.facts i s q;rw[Ctx.sl_ge U]at F ⊢;exact F
 cases e with
 | normal=>exact A.leave rfl (fin hq)
 | ret=>exact A.leave rfl (fin hq)
 | _=>exact hq.elim
theorem D1{fn:Func}{ks:List Nat}{gf:Fr}{a:List S1->Obs->Prop}{b:List S1}{ob':Obs}(h:RetS P fn fr ob b)(c:Tail (B4 ks gf) fr)(d:∀k o,B5 ob' k=some o->B5 ob k=some o)(f:a b ob'):metP P fn ks gf a .ret fr ob :=
 ⟨b,ob',h,c,d,f⟩
theorem V6{fn:Func}{ks:List Nat}{gf:Fr}{b:List S1->Obs->Prop}{c:List S1}{ob':Obs}(h:RetS P fn fr ob c)(d:Tail (B4 ks gf) fr)(e:∀k o,B5 ob' k=some o->B5 ob k=some o)(f:b c ob'):metP P fn ks gf b .normal fr ob :=
 ⟨c,ob',h,d,e,f⟩
theorem iZ{fn:Func}(b:fn.results=#[]):RetS P fn fr ob []:=fun S G a w h=>⟨.tuple #[],by simp[results,b],[],rfl,trivial⟩
theorem rets1{fn:Func}{t:Tmp}{s:S1}(b:fn.results=#[.tmp t])(c:w7 fr t=some (.s s)):RetS P fn fr ob [s] :=
 fun S G a w h=>⟨a.tmps.getD t undef,by simp[results,b],h.slot c⟩
theorem rets2{fn:Func}{t c:Tmp}{s d:S1}(f:fn.results=#[.tmp t,.tmp c])(g:w7 fr t=some (.s s))(b:w7 fr c=some (.s d)):RetS P fn fr ob [s,d] :=
 fun S G a w h=>⟨.tuple #[a.tmps.getD t undef,a.tmps.getD c undef],by simp[results,f],[_,_],rfl,h.slot g,h.slot b,trivial⟩
theorem rets3{fn:Func}{t g b:Tmp}{s i d:S1}(j:fn.results=#[.tmp t,.tmp g,.tmp b])(k:w7 fr t=some (.s s))(f:w7 fr g=some (.s i))(c:w7 fr b=some (.s d)):RetS P fn fr ob [s,i,d] :=
 fun S G a w h=>⟨.tuple #[a.tmps.getD t undef,a.tmps.getD g undef,a.tmps.getD b undef],by simp[results,j],[_,_,_],rfl,h.slot k,h.slot f,h.slot c,trivial⟩
def aB(fr:Fr):List Operand->Option (List S1)
 | []=>some []
 | x::r=>match opv fr x with
  | some (.s s)=>match aB fr r with
   | some ps=>some (s::ps)
   | none=>none
  | _=>none
theorem p8{S:Ctx}{G:Gh}{a:Act}{w:World}(h:Sim P S fr ob G a w):∀(b:List Operand) (ps:List S1),aB fr b=some ps->b.all H2=true->All2 (S1.rep (E5 (Mut S ob G) w) G) ps (b.map a.eval)
 | [],ps,h1,_=>by simp[aB]at h1;subst h1;trivial
 | x::r,ps,h1,h2=>by
  simp only[List.all_cons,C39]at h2;unfold aB at h1;split at h1
  ·rename_i s f;split at h1
   ·rename_i qs c;simp only[Option.some.injEq]at h1;subst h1;have d:(SV.s s).rep (E5 (Mut S ob G) w) G (a.eval x):=Y7 h f h2.1;exact⟨d,p8 h r qs c h2.2⟩
   ·cases h1
  ·cases h1
theorem CC{f:FuncId}{m:List Operand}{H:Array TypeId}{ty:TypeId}{pos:String}{af:Array Edge}{args:List S1}{M:List Nat}{j:List S1->Obs->Prop}
  (R:Met P f args (eJ fr) ob M j)(ha:aB fr m=some args)(V:m.all H2=true)(W:Nat.blt d nt=true)
  (kk:∀z ob',j z ob'->WpL P nt ops rest ((d,mI z)::B4 M fr) ob' Q):WpL P nt ops (⟨some d,.call ⟨.value (.func f),m.toArray,H⟩,ty,pos,af,none⟩::rest) fr ob Q:=by
 intro S G a w T h;have E:=p8 h m args ha V;obtain⟨F,I⟩:∃F:Nat->Value,F=fun i=>S.sl a (i-1000000):=⟨_,rfl⟩
 let S':Ctx:={ S with gv:=F }
 have C:High (eJ fr):=fun i s J=>(Y1 fr i s J).1;have b:∀i s,D5 (eJ fr) i=some s->s.rep (E5 (Mut S' ob G) w) G (S'.sl a i):=by
  intro i s J;obtain⟨B,N⟩:=Y1 fr i s J;rw[Ctx.sl_ge B];show s.rep _ _ (F i);have e:=congrFun I i;rw[e];exact h.facts (i-1000000) s N
 have hs:Sim P S' (eJ fr) ob G a w:={ h with facts:=b }
 have p:=R.2 C S' G a w _ hs E;refine wpList_plain rfl fun K U=>N4 (K:=fun v w'=>∃z ob' G',j z ob'/\dT (E5 (Mut S' ob' G') w') G' z v/\Sim P S' (B4 M (eJ fr)) ob' G' a w') ?_ ?_
 ·have X:(execOp a.eval ⟨some d,.call ⟨.value (.func f),m.toArray,H⟩,ty,pos,af,none⟩).run P w=.ok (.enter f (m.map a.eval).toArray) w:=by
   have:=M2 (P:=P) (f:=f) (args:=(m.map a.eval).toArray) (w:=w) R.1;have Y:m.toArray.map a.eval=(m.map a.eval).toArray:=by simp
   simp only[execOp,resolve,Act.eval,Deferred.ofValue,Sem.run_bind,Sem.run_pure,Result.andThen_ok,invoke];rw[show (#[]:Array Value)++Array.map a.eval m.toArray++#[]=(m.map a.eval).toArray by rw[<-Y];simp];exact this
  unfold Does;rw[X];refine p.mono ?_;rintro e w' ⟨v,z,ob',G',rfl,D,g,x⟩;exact⟨v,rfl,z,ob',G',D,g,x⟩
 ·rintro v w' ⟨z,ob',G',Z,g,x⟩;have O:d<S.nt:=by rw[T];simpa using W
  have q:∀i s,D5 (B4 M fr) i=some s->s.rep (E5 (Mut S ob' G') w') G' (S.sl a i):=by
   intro i s J;have B:=x.facts (i+1000000) s (by rw[m6];exact mH J);have N:1000000<=i+1000000:=Nat.le_add_left _ _;rw[Ctx.sl_ge N]at B;have B:s.rep (E5 (Mut S ob' G') w') G' (F (i+1000000)):=B;have e:=congrFun I (i+1000000);simp only[Nat.add_sub_cancel]at e;rw[e]at B;exact B
  have L:Sim P S (B4 M fr) ob' G' a w':={ x with facts:=q }
  exact U _ _ (kk z ob' Z S G' _ w' T (L.put O g))
variable {gf:Fr}
theorem C25{f:FuncId}{a:List PV}{c:List PV->Prop}(k:Callable P f)
  (h:∀(w:World) (M:Nat->Nat->Prop) (g:List Value),Grd P (fun _=>False) w->(∀b i,M b i->b<w.heap.size)->All2 (PV.rep (E5 M w)) a g->Calls P f g.toArray w (fun e w'=>∃v j,e=.returned v/\c j/\ResRep (E5 M w') j v/\Below w.heap.size w w')):FnOk P f a c:=by
 unfold FnOk;exact⟨k,h⟩
theorem C15{f:FuncId}{xs:List Value}{r:Value}(g:Callable P f)(k:r.oneCell'=true)
  (h:∀w,Grd P (fun _=>False) w->Calls P f xs.toArray w (fun e w'=>e=.returned r/\Below w.heap.size w w')):FnOk P f (xs.map fun x=>.one (.v x)) (fun q=>q=[.one (.v r)]):=by
 refine C25 g fun w M a j y ha=>?_;have l:a=xs:=by
  clear h g;induction xs generalizing a with
  | nil=>cases a with
   | nil=>rfl
   | cons _ _=>exact ha.elim
  | cons x xs p=>cases a with
   | nil=>exact ha.elim
   | cons v s =>
    obtain⟨b,c⟩:=ha;rw[p s c,b.1]
 rw[l];refine (h w j).mono fun e w' i=>?_;obtain⟨b,c⟩:=i;exact⟨r,_,b,rfl,⟨rfl,k⟩,c⟩
def SV.flat:SV->SV
 | .s (.one (.p (.v x)))=>.s (.one (.p (.v x)))
 | .un=>.un
 | _=>.any
section
variable {P:Program}{dst:Option Tmp}{ty:TypeId}{pos:String}{af:Array Edge}{gd:Option (Nat×Bool)}{fr:Fr}{ob:Obs}{nt:Nat}
theorem jA{w:World}{B:Nat}{e:TypeId}{a n:Nat}{v:Value}{b:List Value}(h:w.ownsRow B e a v n b):v.oneCell'=true:=by
 rcases h.2 with ⟨rfl,_⟩ | ⟨g,cap,cur,rfl,_⟩<;>rfl
theorem CD(k:Nat)(α:Type)(c:α->Nat->Cell){t e:TypeId}{f d:Nat}[ht:TySl P t e f d](p:(J2 k fr&&J9 k ob)=true) :
  EffV P ⟨dst,.assign (.const (.slice none 0 0)),t,pos,af,gd⟩ fr ob (.s (.one (.mut k))) fr ((k,.grow e α f c [])::ob):=by
 simp only[C39]at p;obtain⟨q,x⟩:=p;obtain⟨z,A,C⟩:=H4 x;intro S G a w h;refine J4 (w':=w) (v:=.slice none 0 0) A0 ?_;have j:=h.new C (o:=.grow e α f c []) (u:=.slice none 0 0) (w1:=w) A (Below.refl _ _) (fun b hb=>by simp[blk]at hb) ⟨[],World.ownsRow_nil w _ _ _,by simp,fun i B=>absurd B (by simp)⟩;rw[i7 q,z]at j;exact⟨upd G k (.slice none 0 0),j,(I8 _ _ _).symm,rfl⟩
theorem LW{x:Operand}{t e v:TypeId}{y d k z:Nat}{α:Type}{c:α->Nat->Cell}{q:List α}(C:opv fr x=some (.s (.one (.mut k))))(B:B5 ob k=some (.grow v α z c q))[ht:TySl P t e y d] :
  Neu P ⟨dst,.call ⟨.builtin .len,#[x],#[t]⟩,ty,pos,af,gd⟩ fr ob (fun D=>D=B6 q.length) :=
 E6 fun S G a w h=>by
  refine⟨.int .i64 q.length,?_,rfl,rfl⟩;obtain⟨j,_⟩:=H8 h C;obtain⟨E,f,_⟩:=h.obs k _ B;rcases f.2 with ⟨p,A⟩ | ⟨g,cap,cur,p,_⟩
  ·rw[p]at j;simp[execOp,resolve,invoke,builtin,j,Builtin.len_,run_underlying ht.out.1,goInt,A]
  ·rw[p]at j;simp[execOp,resolve,invoke,builtin,j,Builtin.len_,run_underlying ht.out.1,goInt]
theorem K9{x y:Operand}{t e B:TypeId}{l b k:Nat}{α:Type}{c:α->Nat->Cell}{q:List α}{I:IntKind}{i:Int}[ht:TySl P t e l b](F:opv fr x=some (.s (.one (.mut k))))(E:B5 ob k=some (.grow B α l c q))
  (H:opv fr y=some (I7 (.int I i)))(C:0<=i)(D:i<q.length):Neu P ⟨dst,.indexAddr t x y,ty,pos,af,gd⟩ fr ob (fun J=>J=.s (.one (.mref k l i.toNat 0))) :=
 E6 fun S G a w h=>by
  obtain⟨z,_⟩:=H8 h F;obtain⟨L,j,_⟩:=h.obs k _ E;rcases j.2 with ⟨v,K⟩ | ⟨g,cap,cur,v,_⟩
  ·omega
  ·rw[v]at z;refine⟨.pointer (some ⟨g,i.toNat*l,none⟩),?_,g,q.length,cap,v,rfl⟩;simp only[execOp,z,F7 h H];refine M3 ?_;have hb:0<=i/\i<(q.length:Int):=⟨C,D⟩
   simp[Instr.indexAt,run_underlying ht.out.1,asIntOf,hb,J1 ht.size,Addr.add_lit]
theorem dH{t e:TypeId}{x A:Operand}{k i o n:Nat}{α:Type}{d:Nat}{c:α->Nat->Cell}{C:List α}{v:α}(y:α){s:S1}(ar:(P.info? t).map (·.size)=some n)(hx:opv fr x=some (.s (.one (.mref k d i o))))(hk:B5 ob k=some (.grow e α d c C))
  (hv:C[i]?=some v)(hy:opv fr A=some (.s s))(Z:H2 A=true)(hn:s.cells.length=n)(ho:Nat.ble (o+n) d=true)
  (ag:∀(rd:Rd) G (us:List Value),All2 (TC.rep rd G) s.cells us->All2 (Cell.rep rd) (cellsOf c y o n) us)(ah:∀j,j<d->(j<o\/o+n<=j)->c y j=c v j) :
  Eff P ⟨none,.store t x A,ty,pos,af,gd⟩ fr ob fr ((k,.grow e α d c (C.set i y))::ob):=by
 intro S G a w h;obtain⟨b,m,al,hg,hu⟩:=H8 h hx;obtain⟨vs,O,ae,hc⟩:=h.obs k _ hk;obtain⟨ao,av⟩:=C44.1 hv;have hl:=O.1;rcases O.2 with ⟨aw,h2⟩ | ⟨b',cap',cur,hg',hB,hh,hcap,hmax,hcs,htake⟩
 ·omega
 rw[hg]at hg';cases hg';have hr:(SV.s s).rep (E5 (Mut S ob G) w) G (a.eval A):=Y7 h hy Z;have q:=C08 hr;have D:(a.eval A).cells.size=n:=by rw[<-hn,q.length];simp
 have az:o+n<=d:=by simpa using ho
 have ax:i*d+d<=C.length*d:=by
  have:(i+1)*d<=C.length*d:=C70 _ ao;rw[C88,Nat.one_mul]at this;omega
 have ay:C.length*d<=cur.size:=by rw[hcs];exact C70 _ hcap
 have am:w.heap[b]?=some (.cells cur.toList.toArray e (0,0)):=by rw[Array.toArray_toList];exact hh
 obtain⟨w',ak,aq,Y,ai,X,K,T⟩:=fZ (P:=P) (t:=t) (w:=w) (b:=b) (o:=i*d+o) (v:=a.eval A) (by rw[ar,D]) am (qF q) (by rw[D];simp;omega);unfold Does;have he:(execOp a.eval ⟨none,.store t x A,ty,pos,af,gd⟩).run P w=.ok .skip w':=by
  simp[execOp,hu,Instr.storeAt,Instr.sureAddr,ak]
 rw[he];have Q:blk (G k)=some b:=by rw[hg];rfl
 refine⟨G,h.write hk Q (fun i=>⟨Q,trivial⟩) (fun i=>⟨Q,trivial⟩) aq Y ai (Nat.le_of_eq X.symm) (fun j _=>K j) ?_⟩;intro rd W;have au:(a.eval A).cells.toList.length=n:=by simpa using D
 have I:(cur.toList.take (i*d+o)).length=i*d+o:=by simp;omega
 have J:(cur.toList.take (i*d+o)++(a.eval A).cells.toList).length=i*d+o+n:=by rw[C40,I,au]
 have ad:(cur.toList.take (i*d+o)++(a.eval A).cells.toList++cur.toList.drop (i*d+o+(a.eval A).cells.size)).length=cur.size:=by
  rw[C40,J,C61,D];simp;omega
 refine⟨(cur.toList.take (i*d+o)++(a.eval A).cells.toList++cur.toList.drop (i*d+o+(a.eval A).cells.size)).take (C.length*d),⟨by simp only[C59,ad,C78];omega,.inr ⟨b,al,_,by rw[hg];simp,hB,T,by simpa using hcap,hmax,by simp only[List.size_toArray];rw[ad,hcs],by simp⟩⟩,by simpa using ae,?_⟩;intro p hp j hj;have U:p<C.length:=by simpa using hp
 have aj:p*d+j<C.length*d:=by
  have:(p+1)*d<=C.length*d:=C70 _ U;rw[C88,Nat.one_mul]at this;omega
 rw[D04 aj];have ab:vs[p*d+j]?=cur[p*d+j]?:=by rw[<-htake,D04 aj];simp
 have E:(p*d+j<i*d+o\/i*d+o+n<=p*d+j)->(cur.toList.take (i*d+o)++(a.eval A).cells.toList++cur.toList.drop (i*d+o+(a.eval A).cells.size))[p*d+j]?=vs[p*d+j]?:=by
  intro R;rw[ab];rcases R with M | M
  ·rw[C65,C68 (by rw[I];exact M),D04 M];simp
  ·rw[C76 (by rw[J];exact M),J,C66,D];have:i*d+o+n+(p*d+j-(i*d+o+n))=p*d+j:=by omega
   rw[this];simp
 by_cases V:p=i
 ·subst V;have F:(C.set p y)[p]'hp=y:=by simp
  rw[F];by_cases an:j<o\/o+n<=j
  ·rw[E (by omega),ah j hj an];obtain⟨z,H,B⟩:=hc p U j hj;rw[av]at B;exact⟨z,H,Cell.rep_mono W _ _ B⟩
  ·have ap:=ag _ _ _ q;have ac:(cellsOf c y o n)[j-o]?=some (c y j):=by
    have N:j-o<(cellsOf c y o n).length:=by rw[M4];omega
    rw[C36 N];have:=a6 c y n o (j-o) _ (C36 N);rw[this.1];congr 2;omega
   obtain⟨z,H,B⟩:=ap.get _ _ ac;refine⟨z,?_,Cell.rep_mono W _ _ B⟩;rw[C68 (by rw[J];omega),C76 (by rw[I];omega),I];have:p*d+j-(p*d+o)=j-o:=by omega
   rw[this];exact H
 ·have F:(C.set i y)[p]'hp=C[p]:=by rw[List.getElem_set_ne (Ne.symm V)]
  rw[F,E (by
   rcases Nat.lt_or_gt_of_ne V with M | M
   ·left;have:(p+1)*d<=i*d:=C70 _ M;rw[C88,Nat.one_mul]at this;omega
   ·right;have:(i+1)*d<=p*d:=C70 _ M
    rw[C88,Nat.one_mul]at this;omega)]
  obtain⟨z,H,B⟩:=hc p U j hj;exact⟨z,H,Cell.rep_mono W _ _ B⟩
theorem R4{x y:Operand}{k:Nat}{α:Type}{E L:Nat}{c:α->Nat->Cell}{F ys:List α}{t e:TypeId}{s:SV}[ht:TySl P t e E L](hx:opv fr x=some (.s (.one (.mut k))))(hk:B5 ob k=some (.grow e α E c F))
  (hy:opv fr y=some s)(hl:IsList s α E c ys)(Q:F.length+ys.length<=1073741824)(hp:Nat.blt k 1000000=true) :
  EffV P ⟨dst,.call ⟨.builtin .append,#[x,y],#[t,t]⟩,ty,pos,af,gd⟩ fr ob (.s (.one (.mut k))) (Fr.forget k fr) ((k,.grow e α E c (F++ys))::Obs.forget k ob):=by
 intro S G a w h;have am:=ht.out.2.2.1;obtain⟨ah,_⟩:=H8 h hx;have ag:=cD h hy hl;obtain⟨ad,ac,vs,ai,J,ao,X,R,aj,U⟩:=eH ag;obtain⟨ws,q,_,ak⟩:=h.obs k _ hk;obtain⟨v',w',V,D,f,C,ab⟩:=jU (P:=P) (ty:=ty) S.B ht q h.size (u:=a.eval y) (ad:=ad) (m:=ys.length) (c:=ac) (news:=vs) ai J.2 J.1 X
  (fun b o hb j z hz=>by
   rcases U with h0 | ⟨b',o',A,T⟩
   ·have Y:vs=[]:=C99 (by rw[X,h0];simp);rw[Y]at hz;simp at hz
   ·rw[hb]at A;injection A with A;injection A with e1 e2;subst e1;subst e2
    exact (T j z hz).1)
  (U.imp id fun ⟨b',o',A,_⟩=>⟨b',o',A⟩) R Q
 have O:(G k).ownBlock=blk (G k):=gB (dS q);have M:∀b i z,E5 (Mut S ob G) w b i z->w'.cell? ⟨b,i,none⟩=some z:=by
  intro b i z T;have H:b<w.heap.size:=World.block_lt_of_cell? w _ T.1;by_cases hb:blk (G k)=some b
  ·exact absurd (Or.inr ⟨k,_,hk,hb,trivial⟩) T.2
  ·rw[World.cell?_of_block (w:=w) (a:=⟨b,i,none⟩) (f.block b H (by rw[O];exact fun e=>hb e.symm))];exact T.1
 have W:=h.turn (o':=.grow e α E c (F++ys)) (u':=v') (by simpa using hp) hk f.os f.tape f.output f.size (fun j Z hb=>f.block j Z (by rw[O];exact fun e=>hb e.symm)) M C
  (by
   intro b i hb ho;rcases C b ho.1 with h1 | h1
   ·exact⟨h1,trivial⟩
   ·omega)
  (fun rd K G' al=>by
   refine⟨_,by rw[C40];exact D,by rw[C40];omega,?_⟩;intro i hi j Z;by_cases H:i<F.length
   ·obtain⟨z,I,N⟩:=ak i H j Z;refine⟨z,?_,?_⟩
    ·rw[C68 (C44.1 I).1];exact I
    ·rw[D23 H];exact Cell.rep_mono K _ _ N
   ·have ae:i-F.length<ys.length:=by simp at hi;omega
    obtain⟨z,I,N⟩:=aj (i-F.length) ae j Z;refine⟨z,?_,?_⟩
    ·have an:F.length*E<=i*E:=C70 _ (by omega);rw[C76 (by rw[q.1];omega),q.1];have:i*E+j-F.length*E=(i-F.length)*E+j:=by rw[Nat.sub_mul];omega
     rw[this];exact I
    ·rw[D21 (by omega)];exact Cell.rep_mono K _ _ N)
 exact J4 (w':=w') (v:=v') (by simp[execOp,resolve,invoke,builtin,ah,V]) ⟨upd G k v',W,(I8 _ _ _).symm,jA D⟩
end
def tn(T j:Nat)(o:Oper):Bool:=Nat.beq j T||turns o.op
def StepT(P:Program)(nt:Nat)(ops:Array Oper)(T i:Nat)(φ:Fa)(ob:Obs)(K:Fa->Obs->Prop):Prop :=
 ∃o,ops[i]?=some o/\cond (tn T i o) (BY P nt ops o φ ob K) (∃s d,o.dst=some d/\YieldsN P nt ops o φ ob s/\K (cH φ d s) ob)
def AX(P:Program)(nt:Nat)(ops:Array Oper)(T:Nat)(K:Fa->Obs->Prop):Nat->Array Bool->Fa->Obs->Prop
 | 0,listed,φ,ob=>Region.ready .any ops listed=[]/\K φ ob
 | fuel+1,listed,φ,ob=>(Region.ready .any ops listed=[]->K φ ob)/\∀i∈Region.ready .any ops listed,StepT P nt ops T i φ ob (AX P nt ops T K fuel (listed.setIfInBounds i true))
theorem mJ{T:Nat}{K:Fa->Obs->Prop}{S:Ctx}{Q:Exit->Act->World->Prop}(q:S.nt=nt)(g:∀(j t:Nat),(ops[j]?).bind (fun o=>o.dst)=some t->t<nt)(x:∀φ ob G a w,K φ ob->SimF P S φ ob G a w->Q .normal a w) :
  ∀(e:Nat) (f:Array Bool) (φ:Fa) (ob:Obs) (G:Gh) (a:Act) (w:World),AX P nt ops T K e f φ ob->SimF P S φ ob G a w->wpAny P .any ops Q e f a w
 | 0,_,φ,ob,G,a,w,h,hs=>⟨h.1,x φ ob G a w h.2 hs⟩
 | e+1,f,φ,ob,G,a,w,h,hs=>by
  refine⟨fun L=>x φ ob G a w (h.1 L) hs,fun i E=>?_⟩;obtain⟨o,N,c⟩:=h.2 i E;unfold wpOp;simp only[N];cases I:tn T i o with
  | true =>
   rw[I]at c;obtain⟨M,c⟩:=c;rw[A6 (by simp[Region.wanted,M])];refine .inl (N4 (c S G a w q hs) ?_);rintro v w' ⟨V,ob',G',k,F⟩;exact mJ q g x e _ V ob' G' _ w' k F
  | false =>
   rw[I]at c;obtain⟨s,d,C,⟨W,z,A,U⟩,k⟩:=c;rw[C]at z;cases z;rcases U with ⟨H,J,D,B⟩ | ⟨H,rfl⟩
   ·rw[dF q hs H g,A6 rfl];refine .inl (N4 (B S G a w (hs.sub fun i s E=>(D i s E).1)) ?_);rintro v w' ⟨R,X,rfl,O⟩;rw[C];exact mJ q g x e _ _ ob G _ w' k ((hs.ext R).put (by rw[q];exact A) O)
   ·rw[dF q hs H g,A7 (by simp),C];exact mJ q g x e _ _ ob G _ w k (hs.put (by rw[q];exact A) rfl)
theorem j3{b:Array Bool}{i:Nat}(e:i∈Region.ready .any ops b):b.getD i false=false:=by
 have c:=(mem_ready.1 e).1;simp only[C54]at c ⊢;rcases Nat.lt_or_ge i b.size with d | d
 ·rw[Array.getElem?_eq_getElem d]at c ⊢;simpa using c
 ·rw[Array.getElem?_eq_none d]at c;simp at c
theorem LX{T:Nat}{K:Fa->Obs->Prop}:∀(c:Nat) (b:Array Bool) (φ:Fa) (ob:Obs),b.getD T false=true->AW P nt ops K c b φ ob->AX P nt ops T K c b φ ob
 | 0,_,_,_,_,h=>h
 | c+1,b,φ,ob,hT,h=>by
  refine⟨h.1,fun i A=>?_⟩;obtain⟨o,F,j⟩:=h.2 i A;have q:i≠T:=fun e=>by subst e;have:=j3 A;rw[hT]at this;cases this
  have k:(b.setIfInBounds i true).getD T false=true:=by
   simp only[C54]at hT ⊢
   rwa[Array.getElem?_setIfInBounds_ne q]
  refine⟨o,F,?_⟩;have I:tn T i o=turns o.op:=by unfold tn;rw[S4 q];rfl
  rw[I];cases y:turns o.op with
  | true =>
   rw[y]at j;refine⟨j.1,fun S G a w E H=>?_⟩;have l:=j.2 S G a w E H;unfold Does at l ⊢;have m:∀v w',(∃p ob' G',AW P nt ops K c (b.setIfInBounds i true) p ob'/\SimF P S p ob' G' (a.put o.dst v) w')->(∃p ob' G',AX P nt ops T K c (b.setIfInBounds i true) p ob'/\SimF P S p ob' G' (a.put o.dst v) w'):=by
    rintro v w' ⟨p,ob',G',B,z⟩;exact⟨_,ob',G',LX c _ _ _ k B,z⟩
   generalize (execOp a.eval o).run P w=r at *;cases r with
   | ok n w' =>
    cases n<;>simp only at l ⊢<;>try exact l.elim
    case value v=>exact m _ _ l
    case skip=>exact m _ _ l
    case enter f args=>exact l.mono fun e M ⟨v,C,J⟩=>⟨v,C,m _ _ J⟩
   | halt x w'=>exact l
  | false =>
   rw[y]at j;obtain⟨s,d,l,L,HK⟩:=j;exact⟨s,d,l,L,LX c _ _ _ k HK⟩
theorem UZ{T:Nat}{K:Fa->Obs->Prop}{i d:Nat}{w:Oper}{s:SV}(hi:ops[i]?=some w)(V:tn T i w=false)(F:w.dst=some d) :
  ∀(c:Nat) (b:Array Bool) (φ:Fa) (ob:Obs),Closed ops b ->
   (∀j l,ops[j]?=some l->j≠i->b.getD j true=false->tn T j l=true->Bef ops j i=true) ->
   (∀j l,ops[j]?=some l->j≠i->b.getD j true=false->tn T j l=false->(∃e∈l.after.toList,Region.binds .any e=true/\e.on=i)\/cI ops w l=true) ->
   i∈Region.ready .any ops b->YieldsN P nt ops w φ ob s ->
   AX P nt ops T K c (b.setIfInBounds i true) (cH φ d s) ob->AX P nt ops T K (c+1) b φ ob:=by
 have q:∀(c:Nat) (b:Array Bool) (φ:Fa) (ob:Obs),YieldsN P nt ops w φ ob s->AX P nt ops T K c (b.setIfInBounds i true) (cH φ d s) ob->StepT P nt ops T i φ ob (AX P nt ops T K c (b.setIfInBounds i true)):=by
  intro c b φ ob D H;exact⟨w,hi,by rw[V];exact⟨s,d,F,D,H⟩⟩
 intro c;induction c with
 | zero =>
  intro b φ ob Q N O A D H;refine⟨fun h=>(by rw[h]at A;cases A),fun j I=>?_⟩;by_cases f:j=i
  ·subst f;exact q 0 b φ ob D H
  ·have:=ready_mono I f;rw[H.1]at this;cases this
 | succ c ih =>
  intro b φ ob Q N O A D H;refine⟨fun h=>(by rw[h]at A;cases A),fun j I=>?_⟩;by_cases f:j=i
  ·subst f;exact q (c+1) b φ ob D H
  ·obtain⟨g,l,p,u⟩:=mem_ready.1 I;have v:=j3 A;cases t:tn T j l with
   | true =>
    have hb:=N j l p f g t;have:=gS Q j hb (fun o Y e R x=>by rw[p]at Y;cases Y;exact u e (Array.mem_toList_iff.1 R) x);rw[v]at this;cases this
   | false =>
    have E:cI ops w l=true:=by
     rcases O j l p f g t with ⟨e,R,x,U⟩ | h
     ·have:=u e (Array.mem_toList_iff.1 R) x;rw[U]at this;have L:b.getD i false=true:=this;rw[v]at L;cases L
     ·exact h
    obtain⟨o',J,r⟩:=H.2 j (ready_mono I f);rw[p]at J;cases J;rw[t]at r;obtain⟨sj,X,G,W,HK⟩:=r;simp only[cI,F,G,C39,C80,List.contains_eq_mem,decide_eq_false_iff_not]at E;obtain⟨⟨Z,L⟩,M⟩:=E;have M:d≠X:=fun e=>by subst e;simp at M
    refine⟨l,p,by
     rw[t];refine⟨sj,X,G,W.unput Z,?_⟩;refine ih (b.setIfInBounds j true) _ ob (d8 Q I) ?_ ?_ (ready_mono A (Ne.symm f)) (D.put L) ?_
     ·intro k ok S z C B;refine N k ok S z ?_ B;by_cases m:j=k
      ·subst m;exact g
      ·rwa[getD_set_ne true m]at C
     ·intro k ok S z C B;refine O k ok S z ?_ B;by_cases m:j=k
      ·subst m;exact g
      ·rwa[getD_set_ne true m]at C
     ·rw[Array.setIfInBounds_comm _ _ f,<-xJ M]
      exact HK⟩
def yX:Nat->Nat->Array Bool->Array Bool
 | 0,_,listed=>listed
 | n+1,k,listed=>yX n (k+1) (listed.setIfInBounds k true)
def xK(ops:Array Oper)(T:Nat):Nat->Nat->Array Bool->Bool
 | 0,_,_=>true
 | fuel+1,k,listed =>
  (match ops[k]? with
   | some o=>(Region.ready .any ops listed).contains k&&!(tn T k o) &&
    ((List.range ops.size).all fun j=>Nat.beq j k||listed.getD j true||match ops[j]? with
     | some b=>cond (tn T j b) (Bef ops j k) (b.after.toList.any (fun e=>Region.binds .any e&&Nat.beq e.on k)||cI ops o b)
     | none=>true)
   | none=>false)&&xK ops T fuel (k+1) (listed.setIfInBounds k true)
theorem PQ{T c:Nat}{K:Fa->Obs->Prop}{E:Fr->Obs->Prop}:∀(l:List Oper) (k:Nat) (b:Array Bool) (fr:Fr) (ob:Obs),(∀j,j<l.length->l[j]?=ops[k+j]?)->Closed ops b->xK ops T l.length k b=true ->
  (∀fr ob,Closed ops (yX l.length k b)->E fr ob->AX P nt ops T K c (yX l.length k b) (D5 fr) ob)->LexD P nt ops E l fr ob->AX P nt ops T K (c+l.length) b (D5 fr) ob
 | [],k,b,fr,ob,hl,hc,hB,hE,h=>hE fr ob hc h
 | o::l,k,b,fr,ob,hl,hc,hB,hE,h=>by
  have D:ops[k]?=some o:=by simpa using (hl 0 (by simp)).symm
  simp only[C46,xK,D,C39,C80]at hB;obtain⟨⟨⟨L,v⟩,I⟩,x⟩:=hB;have w:k∈Region.ready .any ops b:=by simpa using L
  have z:∀j,j<l.length->l[j]?=ops[k+1+j]?:=fun j J=>by have:=hl (j+1) (by simpa using J);simpa[Nat.add_assoc,Nat.add_comm 1 j] using this
  have M:turns o.op=false:=by
   cases C:turns o.op
   ·rfl
   ·simp[tn,C]at v
  simp only[LexD]at h;rw[M]at h;simp only[cond]at h;obtain⟨s,d,G,N,F⟩:=h;have t:∀j q,ops[j]?=some q->j≠k->b.getD j true=false->cond (tn T j q) (Bef ops j k) (q.after.toList.any (fun e=>Region.binds .any e&&Nat.beq e.on k)||cI ops o q)=true:=by
   intro j q f g p;have A:j<ops.size:=(C58.1 f).1;have:=C47.1 I j (C62.2 A);rw[S4 g,p,f]at this;simp only[C98]at this;exact this
  show AX P nt ops T K (c+(l.length+1)) b (D5 fr) ob;rw[<-Nat.add_assoc];refine UZ D v G (c+l.length) b _ ob hc ?_ ?_ w N ?_
  ·intro j q f g p u;have:=t j q f g p;rw[u]at this;exact this
  ·intro j q f g p u;have:=t j q f g p;rw[u]at this;simp only[cond,C67,List.any_eq_true,C39]at this;rcases this with ⟨e,H,hb,B⟩ | h
   ·exact .inl ⟨e,H,hb,C72 B⟩
   ·exact .inr h
  ·rw[<-gT];exact PQ l (k+1) _ _ ob z (d8 hc w) x hE F
theorem uS{o:Oper}{a:Act}{w:World}{R R':Value->World->Prop}(h:Does P o a w R)(b:∀v w',R v w'->R' v w'):Does P o a w R':=by
 unfold Does at h ⊢;generalize (execOp a.eval o).run P w=r at *;cases r with
 | ok n w' =>
  cases n<;>simp only at h ⊢<;>try exact h.elim
  case value v=>exact b _ _ h
  case skip=>exact b _ _ h
  case enter f args=>exact h.mono fun e g ⟨v,c,d⟩=>⟨v,c,b _ _ d⟩
 | halt x w'=>exact h
theorem CE{f:FuncId}{m:List Operand}{F:Array TypeId}{ty:TypeId}{pos:String}{af:Array Edge}{args:List S1}{L:List Nat}{j:List S1->Obs->Prop}{fr:Fr}{ob:Obs}{d:Nat}{K:Fa->Obs->Prop}
  (O:Met P f args (eJ fr) ob L j)(ha:aB fr m=some args)(T:m.all H2=true)(U:Nat.blt d nt=true)
  (kk:∀rs ob',j rs ob'->K (D5 ((d,mI rs)::B4 L fr)) ob'):BY P nt ops ⟨some d,.call ⟨.value (.func f),m.toArray,F⟩,ty,pos,af,none⟩ (D5 fr) ob K:=by
 refine⟨rfl,fun S G a w X Q=>?_⟩;have h:=simF_iff.1 Q;have D:=p8 h m args ha T;obtain⟨E,H⟩:∃E:Nat->Value,E=fun i=>S.sl a (i-1000000):=⟨_,rfl⟩
 let S':Ctx:={ S with gv:=E }
 have B:High (eJ fr):=fun i s I=>(Y1 fr i s I).1;have b:∀i s,D5 (eJ fr) i=some s->s.rep (E5 (Mut S' ob G) w) G (S'.sl a i):=by
  intro i s I;obtain⟨z,M⟩:=Y1 fr i s I;rw[Ctx.sl_ge z];show s.rep _ _ (E i);have e:=congrFun H i;rw[e];exact h.facts (i-1000000) s M
 have Z:Sim P S' (eJ fr) ob G a w:={ h with facts:=b }
 have p:=O.2 B S' G a w _ Z D;refine uS (R:=fun v w'=>∃rs ob' G',j rs ob'/\dT (E5 (Mut S' ob' G') w') G' rs v/\Sim P S' (B4 L (eJ fr)) ob' G' a w') ?_ ?_
 ·have V:(execOp a.eval ⟨some d,.call ⟨.value (.func f),m.toArray,F⟩,ty,pos,af,none⟩).run P w=.ok (.enter f (m.map a.eval).toArray) w:=by
   have:=M2 (P:=P) (f:=f) (args:=(m.map a.eval).toArray) (w:=w) O.1;have W:m.toArray.map a.eval=(m.map a.eval).toArray:=by simp
   simp only[execOp,resolve,Act.eval,Deferred.ofValue,Sem.run_bind,Sem.run_pure,Result.andThen_ok,invoke];rw[show (#[]:Array Value)++Array.map a.eval m.toArray++#[]=(m.map a.eval).toArray by rw[<-W];simp];exact this
  unfold Does;rw[V];refine p.mono ?_;rintro e w' ⟨v,rs,ob',G',rfl,C,g,x⟩;exact⟨v,rfl,rs,ob',G',C,g,x⟩
 ·rintro v w' ⟨rs,ob',G',Y,g,x⟩;have N:d<S.nt:=by rw[X];simpa using U
  have q:∀i s,D5 (B4 L fr) i=some s->s.rep (E5 (Mut S ob' G') w') G' (S.sl a i):=by
   intro i s I;have z:=x.facts (i+1000000) s (by rw[m6];exact mH I);have M:1000000<=i+1000000:=Nat.le_add_left _ _;rw[Ctx.sl_ge M]at z;have z:s.rep (E5 (Mut S ob' G') w') G' (E (i+1000000)):=z;have e:=congrFun H (i+1000000);simp only[Nat.add_sub_cancel]at e;rw[e]at z;exact z
  have J:Sim P S (B4 L fr) ob' G' a w':={ x with facts:=q }
  exact⟨_,ob',G',kk rs ob' Y,simF_iff.2 (J.put N g)⟩
theorem TC.forget_idem(k:Nat)(t:TC):(t.forget k).forget k=t.forget k:=by
 cases t with
 | p c=>rfl
 | buf a α b c j=>cases hb:Nat.beq a k<;>simp[TC.forget,hb]
 | ref a o=>cases hb:Nat.beq a k<;>simp[TC.forget,hb]
 | eref α b c x o=>rfl
 | «mut» a=>cases hb:Nat.beq a k<;>simp[TC.forget,hb]
 | mref a b i o=>cases hb:Nat.beq a k<;>simp[TC.forget,hb]
 | any=>rfl
 | clo f h d=>cases hb:(iU k h||iU k d)<;>simp only[TC.forget,hb,cond]
 | full α b c j=>rfl
 | msl a b o n=>cases hb:Nat.beq a k<;>simp[TC.forget,hb]
 | ifc t a o=>cases hb:Nat.beq a k<;>simp[TC.forget,hb]
 | fnc f l=>rfl
 | fncE f α b c x=>rfl
theorem S1.forget_idem(k:Nat)(s:S1):(s.forget k).forget k=s.forget k:=by
 cases s<;>simp[S1.forget,TC.forget_idem]
theorem SV.forget_idem(k:Nat)(s:SV):(s.forget k).forget k=s.forget k:=by
 cases s<;>simp[SV.forget,S1.forget_idem]
theorem Ob.forget_idem(k:Nat)(o:Ob):(o.forget k).forget k=o.forget k:=by
 cases o<;>simp[Ob.forget,TC.forget_idem]
theorem Fr.forget_idem(k:Nat)(fr:Fr):Fr.forget k (Fr.forget k fr)=Fr.forget k fr:=by
 simp[Fr.forget,Function.comp_def,SV.forget_idem]
theorem Obs.forget_idem(k:Nat)(ob:Obs):Obs.forget k (Obs.forget k ob)=Obs.forget k ob:=by
 simp[Obs.forget,Function.comp_def,Ob.forget_idem]
theorem cL{b:Rd}{G:Gh}:∀{a:List Cell} {c:List Value},All2 (TC.rep b G) (a.map .p) c->All2 (Cell.rep b) a c
 | [],[],_=>trivial
 | [],_::_,h=>h.elim
 | _::_,[],h=>h.elim
 | _::_,_::_,h=>⟨h.1,cL h.2⟩
theorem eL{k:Nat}(h:High gf):High (Fr.forget k gf):=fun i s a=>by
 rw[O7]at a;cases b:D5 gf i with
 | none=>rw[b]at a;cases a
 | some s0=>exact h i s0 b
theorem Sees.forget(k:Nat):Sees P nt fr ob (Fr.forget k fr) (Obs.forget k ob):=by
 intro S G a w K h;have d:∀j m,B5 (Obs.forget k ob) j=some m->∃p,B5 ob j=some p/\m=p.forget k:=by
  intro j m c;rw[K3]at c;cases q:B5 ob j with
  | none=>rw[q]at c;cases c
  | some p=>rw[q]at c;cases c;exact⟨p,rfl,rfl⟩
 have y:∀b i z,E5 (Mut S ob G) w b i z->E5 (Mut S (Obs.forget k ob) G) w b i z:=by
  intro b i z E;refine⟨E.1,fun D=>E.2 ?_⟩;rcases D with D | ⟨j,m,c,hb⟩
  ·exact .inl D
  ·obtain⟨p,u,rfl⟩:=d j m c;exact .inr ⟨j,p,u,Own_forget.1 hb⟩
 refine⟨G,{ h with old:=?_,dis:=?_,obs:=?_,facts:=?_ }⟩
 ·intro j m b c hb;obtain⟨p,u,_⟩:=d j m c;exact h.old j p b u hb
 ·intro k1 k2 m I b F H B C;obtain⟨J,ha,_⟩:=d k1 m F;obtain⟨ob',A,_⟩:=d k2 I H;exact h.dis k1 k2 J ob' b ha A B C
 ·intro j m c;obtain⟨p,u,rfl⟩:=d j m c;exact ((h.obs j p u).ext y (Below.refl _ _)).forget (fun _ _=>rfl)
 ·intro i s v;rw[O7]at v;cases q:D5 fr i with
  | none=>rw[q]at v;cases v
  | some s0 =>
   rw[q]at v;cases v;exact SV.rep_forget (fun _ _=>rfl) (SV.rep_mono y (h.facts i s0 q))
theorem Met.introH{f:FuncId}{fn:Func}{c:Code}{a:List S1}{ks:List Nat}{d:List S1->Obs->Prop}(i:P.funcs[f]?=some fn)(b:(fn.name == "runtime.NumGoroutine")=false)(hb:fn.body=some c)(g:Nat.ble a.length fn.ntmps=true)(h:Nat.ble fn.ntmps 1000000=true)
  (j:High gf->WpC P fn.ntmps c (dG 0 a++gf) ob (metP P fn ks gf d)):Met P f a gf ob ks d :=
 ⟨⟨fn,i,b,by simp[hb]⟩,fun e=>(Met.intro i b hb g h (j e)).2 e⟩
theorem C04{l:Fr}{gf':Fr}{ob':Obs}(j:FrLe fr l)(g:High gf')(n:Tail gf' fr)(m:∀k o,B5 ob' k=some o->B5 ob k=some o):Sees P nt fr ob (l++gf') ob':=by
 intro S G a w q h;have c:∀i s,D5 (l++gf') i=some s->s.rep (E5 (Mut S ob G) w) G (S.sl a i):=by
  intro i s b;rw[l9]at b;cases d:D5 l i with
  | some s0 =>
   rw[d]at b;have b:some s0=some s:=b;cases b;obtain⟨s1,e,f⟩:=j.spec i _ d;exact f.rep (h.facts i s1 e)
  | none =>
   rw[d]at b;have b:D5 gf' i=some s:=b;exact h.facts i s (n i s (g i s b) b)
 have p:Sim P S (l++gf') ob G a w:={ h with facts:=c }
 exact⟨G,p.weakenO m⟩
def LY(nt:Nat)(l:List Oper)(n:Nat):Bool :=
 let ops:=l.toArray;let L:=yX n 0 (Array.replicate l.length false)
 xK ops n n 0 (Array.replicate l.length false)&&dstsIn nt ops&&Nat.ble (n+1) l.length&&Nat.beq (l.take n).length n &&
  ((Region.ready .any ops L).all fun j=>Nat.beq j n)&&(Region.ready .any ops L).contains n&&(L.setIfInBounds n true).getD n false&&IT ops (l.drop (n+1)).length (n+1) (L.setIfInBounds n true)
theorem rY{id:Nat}{l:List Oper}(n:Nat){C:Oper}{fr:Fr}{ob:Obs}{Q:Post}(hm:P.follows .mixedOrders=true)(H:LY nt l n=true)(hc:l[n]?=some C)
  (h:LexD P nt l.toArray (fun fr ob=>BY P nt l.toArray C (D5 fr) ob (fun φ' ob'=>∃fr',φ'=D5 fr'/\LexD P nt l.toArray (fun fr ob=>Q .normal fr ob) (l.drop (n+1)) fr' ob')) (l.take n) fr ob):WpC P nt (.region id l.toArray true) fr ob Q:=by
 intro S G a w N T;unfold LY at H;simp only[C39]at H;obtain⟨⟨⟨⟨⟨⟨⟨b1,b2⟩,b3⟩,b4⟩,b5⟩,b6⟩,D⟩,E⟩:=H;have Z:n+1<=l.length:=Nat.le_of_ble_eq_true b3;have c:(l.take n).length=n:=C72 b4;have u:∀(j t:Nat),(l.toArray[j]?).bind (fun o=>o.dst)=some t->t<nt:=by
  intro j t V;cases A:l.toArray[j]? with
  | none=>simp[A]at V
  | some o =>
   simp[A]at V;have z:o∈l:=by
    rw[C87]at A;exact C60 A
   have:=C47.1 b2 o (by simpa using z);rw[V]at this;simpa using this
 refine wp_region_any hm ?_;have I:Closed l.toArray (Array.replicate l.length false):=by
  intro j o A M;simp only[C54]at M;rcases Nat.lt_or_ge j l.length with F | F
  ·simp[F]at M
  ·simp[F]at M
 have R:l.toArray[n]?=some C:=by rw[C87];exact hc
 have B:tn n n C=true:=by unfold tn;rw[Nat.beq_refl];rfl
 have key:AX P nt l.toArray n (fun φ ob=>∃fr',φ=D5 fr'/\Q .normal fr' ob) ((l.drop (n+1)).length+1+(l.take n).length) (Array.replicate l.length false) (D5 fr) ob:=by
  refine PQ (l.take n) 0 _ fr ob (fun j Y=>?_) I (by rw[c];exact b1) (fun fr ob f X=>?_) h
  ·rw[C91,C87,D04 (by rw[c]at Y;exact Y)]
  ·rw[c]at f ⊢;have W:n∈Region.ready .any l.toArray (yX n 0 (Array.replicate l.length false)):=by simpa using b6
   have q:=d8 f W;refine⟨fun J=>(by rw[J]at W;cases W),fun j L=>?_⟩;have K:j=n:=C72 (C47.1 b5 j L);subst K;refine⟨C,R,?_⟩;rw[B];refine⟨X.1,fun S G a w N T=>uS (X.2 S G a w N T) ?_⟩;rintro v w' ⟨φ',ob',G',⟨fr',rfl,hL⟩,p⟩;exact⟨_,ob',G',LX _ _ _ _ D (oL (l.drop (j+1)) (j+1) _ fr' ob' (fun i=>by rw[C66,C87]) q E hL),p⟩
 have hx:Below w.heap.size w { w with drawn:=w.drawn+1 }:=⟨rfl,rfl,rfl,C45 _,fun _ _=>rfl⟩
 have p:SimF P S (D5 fr) ob G a { w with drawn:=w.drawn+1 }:=(simF_iff.2 T).ext hx;have:=mJ (Q:=PostOf P S Q) N u (fun φ ob' G' a' w' ⟨fr',J,hq⟩ U=>⟨fr',ob',G',hq,.inl (simF_iff.1 (J ▸ U))⟩) _ _ _ ob G a _ key p;have k:(l.drop (n+1)).length+1+(l.take n).length=l.length:=by rw[C61,c];omega
 rw[k]at this;simpa using this
theorem mK(k:Nat)(h:Tail (Fr.forget k gf) fr):Tail (Fr.forget k gf) (Fr.forget k fr):=by
 have:=eK k h
 rwa[Fr.forget_idem]at this
theorem BF{x y:Code}{id:Nat}{Q2 Q3:Post}(fr':Fr)(ob':Obs)(b:WpC P nt x fr ob (eD (fun f o=>Sees P nt f o fr' ob') (j1 id (eD (fun f o=>WpC P nt y f o Q2) Q3))))(k:WpC P nt y fr' ob' Q2):WpC P nt x fr ob (j1 id (eD (fun f o=>WpC P nt y f o Q2) Q3)) :=
 b.mono fun e f o a=>by
  cases e with
  | normal=>exact C3 a k
  | _=>exact a
def ZZ(k:Nat)(φ:Fa):Prop:=∀i s,φ i=some s->s.free k=true
def AnyB(P:Program)(nt:Nat)(ops:Array Oper)(T b k:Nat)(r:SV)(c:Nat×Ob)(ob:Obs)(E:Array Bool->Fa->Prop):Nat->Array Bool->Fa->Prop
 | 0,listed,φ=>ZZ k φ/\(∀j∈Region.ready .any ops listed,j=T)/\E listed φ
 | fuel+1,listed,φ=>ZZ k φ/\(∃p,p<T/\p∈Region.ready .any ops listed)/\∀i∈Region.ready .any ops listed,i≠T ->
   ∃o s d,ops[i]?=some o/\o.dst=some d/\turns o.op=false/\b≠d/\YieldsN P nt ops o φ ob s/\YieldsN P nt ops o (cH φ b r) (c::ob) s/\AnyB P nt ops T b k r c ob E fuel (listed.setIfInBounds i true) (cH φ d s)
theorem AnyB.free{T c k:Nat}{r:SV}{d:Nat×Ob}{ob:Obs}{E:Array Bool->Fa->Prop}{b:Nat}{a:Array Bool}{φ:Fa}(h:AnyB P nt ops T c k r d ob E b a φ):ZZ k φ:=by
 cases b<;>exact h.1
def LexB(P:Program)(nt:Nat)(ops:Array Oper)(a k:Nat)(r:SV)(b:Nat×Ob)(ob:Obs)(E:Fr->Prop):List Oper->Fr->Prop
 | [],fr=>J2 k fr=true/\E fr
 | o::l,fr=>∃s d,o.dst=some d/\YieldsN P nt ops o (D5 fr) ob s/\YieldsN P nt ops o (D5 ((a,r)::fr)) (b::ob) s/\LexB P nt ops a k r b ob E l ((d,s)::fr)
theorem LexB.free{a k:Nat}{r:SV}{b:Nat×Ob}{ob:Obs}{E:Fr->Prop}:∀{l:List Oper} {fr:Fr},LexB P nt ops a k r b ob E l fr->J2 k fr=true
 | [],fr,h=>h.1
 | o::l,fr,⟨s,d,_,_,_,h⟩=>by
  have:=h.free;simp only[J2,C39]at this;exact this.2
theorem C07(α:Type)(n:Nat)(c:α->Nat->Cell)(t o:Nat){m:List TC}(r:D5 fr t=some (.s (.agg m)))(j:m[o]?=some (.p (.v (.slice none 0 0)))):Sees P nt fr ob ((t,.s (.agg (m.set o (.p (.list α n c [])))))::fr) ob:=by
 intro S G a w A h;refine⟨G,{ h with facts:=fun i s f=>?_ }⟩;by_cases b:t=i
 ·subst b;rw[D4]at f;cases f;have q:=h.facts t _ r;obtain⟨y,u,ha⟩:=q;refine⟨y,u,C13 o (fun z x=>?_) ha⟩;obtain⟨B,d,k⟩:=ha.get o _ j;rw[x]at d;cases d;rw[k.1];exact t7 α n c
 ·rw[C4 b]at f;exact h.facts i s f
variable {next:Fr->Obs->Prop}{id id':Nat}
theorem k1(h:next fr ob):eD next Q .normal fr ob:=h
theorem k2{x y:Code}(h:WpC P nt x fr ob (eD (fun fr ob=>WpC P nt y fr ob Q) Q)):WpC P nt (.seq x y) fr ob Q:=c_seq h
theorem k3{c:Code}(h:WpC P nt c fr ob (j1 id Q)):WpC P nt (.block id c) fr ob Q:=c_block h
theorem k4(h:Q .normal fr ob):j1 id Q .normal fr ob:=h
theorem k5(h:Q .normal fr ob):WpC P nt .skip fr ob Q:=LO h
theorem k6(h:Q (.exit id) fr ob):WpC P nt (.exit id) fr ob Q:=c_exit h
theorem k7(h:Q (.exit id) fr ob):eD next Q (.exit id) fr ob:=h
theorem k8(hb:Nat.beq id' id=true)(h:Q .normal fr ob):j1 id Q (.exit id') fr ob:=B34 hb h
theorem k9(hb:Nat.beq id' id=false)(h:Q (.exit id') fr ob):j1 id Q (.exit id') fr ob:=A48 hb h
theorem k10(h:Q .ret fr ob):WpC P nt .ret fr ob Q:=c_ret h
theorem k11(h:Q .ret fr ob):eD next Q .ret fr ob:=h
theorem k12(h:Q .ret fr ob):j1 id Q .ret fr ob:=h
theorem i6{fr:Fr}{i:Nat}{s:SV}(h:D5 fr i=some s):∃s0,D5 fr i=some s0/\SvLe s0 s:=⟨_,h,.same _⟩
theorem leE{fr:Fr}{i:Nat}{s a:SV}(h:D5 fr i=some s)(e:s=a):∃s0,D5 fr i=some s0/\SvLe s0 a:=⟨_,h,.eq e⟩
attribute [irreducible] FnIo Met RetS
end Go.AL
