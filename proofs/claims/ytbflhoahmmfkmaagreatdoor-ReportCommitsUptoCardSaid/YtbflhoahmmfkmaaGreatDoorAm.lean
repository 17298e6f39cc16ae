/- The abstract logic, its second half. No project text. -/
import Derived.Test.YtbflhoahmmfkmaaGreatDoorAl
set_option linter.all false
attribute [local semireducible] Go.AL.Neu Go.AL.Eff Go.AL.EffV Go.AL.WpL Go.AL.WpC Go.AL.FnOk Go.AL.LexD Go.AL.Sees Go.AL.RetOk
namespace Go.AL
open Go Go.RowKit
set_option linter.unusedVariables false
variable {P:Program}{nt:Nat}{fr:Fr}{ob:Obs}{Q:Post}
theorem D9{c:Code}{X:Type}(E:X->Fr×Obs)(I:X->Prop)(m:X->Nat)(b:X)(f:I b)(start:Sees P nt fr ob (E b).1 (E b).2)
  (round:∀x,I x->WpC P nt c (E x).1 (E x).2 (aZ (fun fr' ob'=>∃a,I a/\m a<m x/\Sees P nt fr' ob' (E a).1 (E a).2) Q)):WpC P nt (.loop c) fr ob Q :=
 OO (X:=ULift X) (fun x=>E x.down) (fun x=>I x.down) (fun x=>m x.down) ⟨b⟩ f start fun x j=>(round x.down j).mono fun e fr' ob' d=>by
  cases e with
  | normal=>obtain⟨a,g,h,i⟩:=d;exact⟨⟨a⟩,g,h,i⟩
  | _=>exact d
theorem sL{c:Code}(fr':Fr)(ob':Obs)(a:Sees P nt fr ob fr' ob')(k:WpC P nt c fr' ob' Q):WpC P nt c fr ob Q:=I7 a k
theorem AZ{x y:Code}(fr':Fr)(ob':Obs)(b:WpC P nt x fr ob (aZ (fun f o=>Sees P nt f o fr' ob') Q))(k:WpC P nt y fr' ob' Q):WpC P nt (.seq x y) fr ob Q :=
 NY (b.mono fun e f o a=>by
  cases e with
  | normal=>exact I7 a k
  | _=>exact a)
variable {ops:Array Oper}{rest:List Oper}{d:Nat}
def gd(x b:Bool)(s:SV):SV:=cond (x == b) s .un
theorem B3{m:Op}{ty:TypeId}{pos:String}{af:Array Edge}{j t:Nat}{b x:Bool}{s:SV}(f:(ops[j]?).bind (·.dst)=some t)(a:Nat.blt t nt=true)(g:E0 fr t=some (.s (.one (.p (.v (.bool x))))))(c:Nat.blt d nt=true)
  (h:x=b->Neu P ⟨some d,m,ty,pos,af,none⟩ fr ob (fun q=>q=s)) (k:WpL P nt ops rest ((d,gd x b s)::fr) ob Q):WpL P nt ops (⟨some d,m,ty,pos,af,some (j,b)⟩::rest) fr ob Q:=by
 by_cases hb:x=b
 ·refine gB f a g hb (A6 (h hb) c ?_);have:gd x b s=s:=by simp[gd,hb]
  rwa[this]at k
 ·refine aH f a g hb c ?_;have:gd x b s=.un:=by
   have:(x == b)=false:=by simpa using hb
   simp[gd,this]
  rwa[this]at k
theorem F8{K:Fr->Obs->Prop}{c:Op}{ty:TypeId}{pos:String}{af:Array Edge}{s:SV}{j t:Nat}{b x:Bool}(m:(ops[j]?).bind (·.dst)=some t)(r:E0 fr t=some (.s (.one (.p (.v (.bool x))))))
  (h:x=b->Neu P ⟨some d,c,ty,pos,af,none⟩ (O6 fr (iI c)) ob (fun z=>z=s)) (q:turns c=false) (g:Nat.blt d nt=true) (k:LexD P nt ops K rest ((d,gd x b s)::fr) ob) :
  LexD P nt ops K (⟨some d,c,ty,pos,af,some (j,b)⟩::rest) fr ob:=by
 by_cases hb:x=b
 ·refine RM m r hb ?_ q g (s:=s) ?_
  ·have:=h hb;intro S G a w y;have f:=this S G a w y;unfold Does at f ⊢;exact f
  ·have:gd x b s=s:=by simp[gd,hb]
   rwa[this]at k
 ·refine oP m r hb q g ?_;have:gd x b s=.un:=by
   have:(x == b)=false:=by simpa using hb
   simp[gd,this]
  rwa[this]at k
theorem Wants.gd{b x c W:Bool}{s:SV}(h:Wants b s W):Wants b (AL.gd x c s) ((x == c)&&W):=by
 unfold AL.gd;cases a:(x == c) with
 | true=>simpa using h
 | false=>exact .un
theorem Y2{x c y b:Bool}(h:((x == c)&&(y == b))=true):x=c/\y=b:=by simpa using h
theorem G1{α:Type}{ec:Nat}{c:α->Nat->Cell}{n:Nat}:nK fr ec c [] n []:=rfl
theorem D6{α:Type}{ec:Nat}{c:α->Nat->Cell}{i:Nat}{x:Operand}{r:List (Nat×Operand)}{y:α}{ys:List α}{s:S1}(e:opv fr x=some (.s s))(a:G7 x=true)(b:Nat.beq s.cells.length ec=true)(d:dS s.cells=some (cellsOf c y 0 ec))(h:nK fr ec c r (i+1) ys) :
  nK fr ec c ((i,x)::r) i (y::ys):=⟨rfl,a,s,y,ys,e,Nat.eq_of_beq_eq_true b,fun f G g ha=>t7 d ha,rfl,h⟩
section
variable {P:Program}{nt:Nat}{dst:Option Tmp}{ty:TypeId}{pos:String}{af:Array Edge}{gd:Option (Nat×Bool)}{fr:Fr}{ob:Obs}
theorem Sim.retell{S:Ctx}{G:Gh}{a:Act}{w:World}(h:Sim P S fr ob G a w){k:Nat}{o j:Ob}(l:C5 ob k=some o){b:Nat}(hb:blk (G k)=some b)(d:∀i,Own (G k) o b i)(c:∀i,Own (G k) j b i)
  (m:∀f:Rd,ObOk S f G w (G k) o->ObOk S f G w (G k) j):Sim P S fr ((k,j)::ob) G a w :=
 h.write l hb d c rfl rfl rfl (Nat.le_refl _) (fun _ _ _=>rfl) (fun f g=>m f ((h.obs k o l).ext g (Below.refl _ _)))
theorem K9{t:TypeId}{x l:Operand}{k i:Nat}{α:Type}{c:α->Nat->Cell}{g:List α}{y:α}(d:(P.info? t).map (·.size)=some 1)(w:opv fr x=some (.s (.one (.mref k 1 i 0))))(v:C5 ob k=some (.arr α 1 c g))
  (q:i<g.length) (A:opv fr l=some (.s (.one (.p (c y 0))))) (b:G7 l=true):Eff P ⟨none,.store t x l,ty,pos,af,gd⟩ fr ob fr ((k,.arr α 1 c (g.set i y))::ob) :=
 jM d w v (VA q) A b rfl rfl (fun D G B h=>by
  match B,h with
  | [u],h=>exact⟨h.1,trivial⟩) (fun j C h=>by omega)
theorem fG(k:Nat){t e:TypeId}{d b:Nat}{x y:Operand}{w A:IntKind}{n:Int}(α:Type)(c:α->Nat->Cell)(g:α){z:Value}[ht:TySl P t e d b][hz:TyZero P e z]
  (q:opv fr x=some (H6 (.int w n))) (v:opv fr y=some (H6 (.int A n))) (h:0<=n) (p:n<=1073741824)
  (f:∀B:Rd,All2 (Cell.rep B) (cellsOf c g 0 d) z.cells.toList) (j:(H4 k fr&&M1 k ob)=true) :
  EffV P ⟨dst,.makeSlice t x y,ty,pos,af,gd⟩ fr ob (.s (.one (.mut k))) fr ((k,.arr α d c (List.replicate n.toNat g))::ob) :=
 OV k α c g q v h p (by rw[hz.out.1];rfl) f j
end
abbrev Mb(M:Nat->Nat->Prop)(b:Nat):Nat->Nat->Prop:=fun a i=>M a i\/a=b
def FnIo(P:Program)(f:FuncId)(h:List PV)(C:List Cell)(m:List PV->List Cell->Prop):Prop :=
 Callable P f/\∀(w:World) (M:Nat->Nat->Prop) (g:List Value) (b:Nat) (B:List Value) (t:TypeId),Grd P (fun k=>k=b) w->(∀x i,M x i->x<w.heap.size/\x≠b) ->
  w.heap[b]?=some (.cells B.toArray t (0,0))->All2 (Cell.rep (E4 (Mb M b) w)) C B->All2 (PV.rep (E4 (Mb M b) w)) h g ->
  Calls P f (.pointer (some ⟨b,0,none⟩)::g).toArray w (fun e w'=>∃v z j q,e=.returned v/\m z j/\ResRep (E4 (Mb M b) w') z v/\(∃D,w'.heap[b]?=some (.cells (List.toArray q) D (0,0)))/\All2 (Cell.rep (E4 (Mb M b) w')) j q /\
   w'.os=w.os/\w'.tape=w.tape/\w'.output=w.output/\w.heap.size<=w'.heap.size/\∀k,k<w.heap.size->k≠b->w'.heap[k]?=w.heap[k]?)
theorem FnIo.mono{P:Program}{f:FuncId}{args:List PV}{j:List Cell}{d a:List PV->List Cell->Prop}(h:FnIo P f args j d)(x:∀rs c,d rs c->a rs c):FnIo P f args j a :=
 ⟨h.1,fun w M g b y t k l q s u=>(h.2 w M g b y t k l q s u).mono fun _ _ ⟨v,rs,c,i,e,p,r⟩=>⟨v,rs,c,i,e,x _ _ p,r⟩⟩
abbrev self:Nat:=1000000
def OW(P:Program)(fn:Func)(d:List PV->List Cell->Prop):Post
 | .normal,fr,ob | .ret,fr,ob=>∃f g c,RetOk P fn fr ob f/\C5 ob self=some (.box g)/\dS g=some c/\d f c
 | _,_,_=>False
theorem FnIo.intro{f:FuncId}{fn:Func}{c:Code}{args:List PV}{cs:List Cell}{I:List PV->List Cell->Prop}(hf:P.funcs[f]?=some fn)(R:(fn.name == "runtime.NumGoroutine")=false)(hb:fn.body=some c)(al:fn.ntmps=nt)
  (ad:Nat.ble (args.length+1) nt=true) (T:Nat.ble nt 1000000=true) (h:WpC P nt c ((0,.s (.one (.ref self 0)))::jN 1 args) [(self,.box (cs.map .p))] (OW P fn I)):FnIo P f args cs I:=by
 refine⟨⟨fn,hf,R,by simp[hb]⟩,fun w M B b vs t hg hM ac ah ha=>?_⟩;have ao:args.length+1<=nt:=by simpa using ad
 have aq:B.length=args.length:=ha.length.symm;refine r7 hf hb ?_;let G:Gh:=fun _=>.pointer (some ⟨b,0,none⟩);let S:Ctx:={ w0:=w,M0:=M,io:=fun k=>k=b,nt:=nt,pin:=G,gv:=fun _=>undef }
 have O:∀k,blk (G k)=some b:=fun _=>rfl;have am:b<w.heap.size:=(Array.getElem?_eq_some_iff.1 ac).1;have H:∀k o,C5 [(self,Ob.box (cs.map .p))] k=some o->k=self/\o=.box (cs.map .p):=by
  intro k o J;by_cases he:self=k
  ·subst he;rw[E8]at J;cases J;exact⟨rfl,rfl⟩
  ·rw[C7 he]at J;simp[C5]at J
 have X:∀E i,Mut S [(self,.box (cs.map .p))] G E i↔Mb M b E i:=fun E i=>by
  constructor
  ·rintro (h | ⟨k,o,J,ho,_⟩)
   ·exact .inl h
   ·rw[O k]at ho;cases ho;exact .inr rfl
  ·rintro (h | h)
   ·exact .inl h
   ·exact .inr ⟨self,_,E8 _ _ _,by rw[O self,h],trivial⟩
 have ae:∀E i z,E4 (Mb M b) w E i z->E4 (Mut S [(self,.box (cs.map .p))] G) w E i z:=fun E i z V=>⟨V.1,fun K=>V.2 ((X E i).1 K)⟩
 have hs:Sim P S ((0,.s (.one (.ref self 0)))::jN 1 args) [(self,.box (cs.map .p))] G { tmps:=(Value.pointer (some ⟨b,0,none⟩)::B).toArray++Array.replicate (fn.ntmps-(Value.pointer (some ⟨b,0,none⟩)::B).toArray.size) undef,defers:=[] } w:=by
  refine { nt:=by simp[al,S];omega,ntb:=by simpa using T,defers:=rfl,os:=rfl,tape:=rfl,output:=rfl,size:=Nat.le_refl _,keep:=fun _ _ _=>rfl,m0:=fun E i K=>(hM E i K).1,m0io:=fun E i K=>(hM E i K).2,grd:=hg,pin:=fun _ _=>rfl,old:=fun k o E J ab=>?_,dis:=fun k k' o o' E J ai _ _=>by rw[(H k o J).1,(H k' o' ai).1],obs:=fun k o J=>?_,facts:=?_ }
  ·rw[O k]at ab;cases ab;exact .inr ⟨rfl,by rw[(H k o J).1];exact Nat.le_refl _⟩
  ·obtain⟨rfl,rfl⟩:=H k o J;exact⟨b,vs,t,rfl,ac,AX (ah.mono fun c u=>Cell.rep_mono ae c u)⟩
  intro i s hi;by_cases h0:(0:Nat)=i
  ·subst h0;rw[D7]at hi;cases hi;have:((Value.pointer (some ⟨b,0,none⟩)::B).toArray++Array.replicate (fn.ntmps-(Value.pointer (some ⟨b,0,none⟩)::B).toArray.size) undef).getD 0 undef=.pointer (some ⟨b,0,none⟩):=by
    rw[Array.getD_eq_getD_getElem?,Array.getElem?_append_left (by simp)];simp
   have aj:nt<=1000000:=by simpa using T
   rw[Ctx.sl_lt (by omega),this];exact⟨b,rfl,rfl⟩
  ·rw[C6 h0]at hi;obtain⟨an,p,hp,rfl⟩:=lK 1 args i s hi;obtain⟨u,hu,V⟩:=ha.get (i-1) p hp;have ap:i-1<B.length:=(List.getElem?_eq_some_iff.1 hu).1;have Q:((Value.pointer (some ⟨b,0,none⟩)::B).toArray++Array.replicate (fn.ntmps-(Value.pointer (some ⟨b,0,none⟩)::B).toArray.size) undef).getD i undef=u:=by
    rw[Array.getD_eq_getD_getElem?,Array.getElem?_append_left (by simp;omega)];obtain⟨j,rfl⟩:∃j,i=j+1:=⟨i-1,by omega⟩
    simpa using congrArg (fun x=>x.getD undef) hu
   have aj:nt<=1000000:=by simpa using T
   rw[Ctx.sl_lt (by omega),Q];exact PV.rep_s1 (PV.rep_mono ae V)
 refine wp_mono (h S _ _ w Z hs) ?_;rintro e a' w' ⟨fr',ob',G',hq,C⟩
 have fin:(∃rs ts F,RetOk P fn fr' ob' rs/\C5 ob' self=some (.box ts)/\dS ts=some F/\I rs F)->∀ds w',Sim P { S with df:=ds } fr' ob' G' a' w'->∃v,(results fn a'.tmps).run P w'=.ok v w' /\
   (∃ag rs F L,Ending.returned v=.returned ag/\I rs F/\ResRep (E4 (Mb M b) w') rs ag/\(∃t',w'.heap[b]?=some (.cells (List.toArray L) t' (0,0)))/\All2 (Cell.rep (E4 (Mb M b) w')) F L /\
   w'.os=w.os/\w'.tape=w.tape/\w'.output=w.output/\w.heap.size<=w'.heap.size/\∀k,k<w.heap.size->k≠b->w'.heap[k]?=w.heap[k]?):=by
  rintro⟨rs,ts,F,V,ho,hp,U⟩ ds w' C;obtain⟨v,hv,af⟩:=V _ G' a' w' C;obtain⟨E,L,t',W,hh,Y⟩:=C.obs self _ ho;have q:=C.pin self (Nat.le_refl _);rw[W]at q;injection q with q
  injection q with q
  injection q with q
  subst q
  have N:∀b₁ i z,E4 (Mut S ob' G') w' b₁ i z->E4 (Mb M E) w' b₁ i z:=fun b₁ i z hz=>⟨hz.1,fun K=>hz.2 (by
   rcases K with K | rfl
   ·exact .inl K
   ·exact .inr ⟨self,_,ho,by rw[W];rfl,trivial⟩)⟩
  refine⟨v,hv,v,rs,F,L,rfl,U,af.mono N,⟨t',hh⟩,((t7 hp Y).mono fun c u=>Cell.rep_mono N c u),C.os,C.tape,C.output,C.size,fun k J ak=>C.keep k J ak⟩
 cases e with
 | normal=>exact C.leave rfl (fin hq)
 | ret=>exact C.leave rfl (fin hq)
 | _=>exact hq.elim
section
variable {P:Program}{dst:Option Tmp}{ty:TypeId}{pos:String}{af:Array Edge}{gd:Option (Nat×Bool)}{fr:Fr}{ob:Obs}
theorem BA(k:Nat){t e:TypeId}{A M n:Nat}{q:Array (Nat×Operand)}{α:Type}{c:α->Nat->Cell}{J:List α}[ht:TySl P t e A M](hb:nK fr A c q.toList 0 J)(hn:q.toList.length=n)(U:Nat.ble n 100000=true)(X:Nat.ble A 100=true)
  (hk:C5 ob k=none) (ag:k<1000000):EffV P ⟨dst,.buildSlice t n q,ty,pos,af,gd⟩ fr ob (.s (.one (.buf k α A c J))) (Fr.forget k fr) ((k,.spare J.length A e)::Obs.forget k ob):=by
 intro S G a w h;have ad:=ht.out.2.2.1;have ae:n<=100000:=by simpa using U
 have W:A<=100:=by simpa using X
 have am:n*A<=100000*100:=Nat.mul_le_mul ae W;obtain⟨_,_,_,_,E⟩:=ht.out;cases hi:P.info? e with
 | none=>simp[hi]at E
 | some i =>
 cases hz:i.zero with
 | none=>simp[hi,hz]at E
 | some z =>
 have al:(P.info? e).bind (·.zero)=some z:=by simp[hi,hz]
 let C:Array Value:=(Array.range (n*A)).map ((if n*A=0 then #[] else z.cells)[· % (if n*A=0 then #[] else z.cells).size]!);have V:C.size=n*A:=by simp[C]
 obtain⟨I,hf,ah,ai,hv⟩:=fE h q.toList 0 J C hb (by rw[V,hn,Nat.zero_add]);simp only[Nat.zero_mul,List.take_zero,WF]at hf;have hp:(q.map fun x=>(x.1,a.eval x.2)).toList=q.toList.map fun x=>(x.1,a.eval x.2):=by simp
 have F:J.length=n:=by rw[ai,hn]
 refine G3 (w':=w.alloc (.cells I.toArray e)) (v:=.slice (some ⟨w.heap.size,0,none⟩) n n) ?_ ?_
 ·simp only[execOp];refine J3 ?_;simp only[Instr.buildSlice,Sem.run_bind,run_underlying ht.out.1,Result.andThen_ok,I1 ht.size];rw[A5 (by omega)];by_cases H:n*A=0
  ·simp only[H,if_true,Sem.run_bind,Sem.run_pure,Result.andThen_ok];have D:C=(Array.range 0).map ((#[]:Array Value)[· % (#[]:Array Value).size]!):=by simp only[C,H,if_true]
   rw[show (q.map fun (x:Nat×Operand)=>match x with | (i,x)=>(i,a.eval x))=q.map fun x=>(x.1,a.eval x.2) from rfl,hp,<-D,hf];simp[newRow]
  ·simp only[A5 H,Sem.run_bind,J4 al,Sem.run_pure,Result.andThen_ok];have D:C=(Array.range (n*A)).map (z.cells[· % z.cells.size]!):=by simp only[C,A5 H]
   rw[show (q.map fun (x:Nat×Operand)=>match x with | (i,x)=>(i,a.eval x))=q.map fun x=>(x.1,a.eval x.2) from rfl,hp,<-D,hf];simp[newRow]
 ·have ac:Below w.heap.size w (w.alloc (.cells I.toArray e)):=(Below.refl _ _).alloc (Nat.le_refl _) _;have hu:∀b,blk (.slice (some ⟨w.heap.size,0,none⟩) n n)=some b->w.heap.size<=b:=by intro b hb;simp[blk]at hb;omega
  have T:I.length=n*A:=by rw[ah,hn]
  have K:(w.alloc (.cells I.toArray e)).ownsRow S.B e A (.slice (some ⟨w.heap.size,0,none⟩) n n) J.length I :=
   ⟨by rw[T,F],.inr ⟨w.heap.size,n,I.toArray,by rw[F],h.size,heap_alloc_new w _,by rw[F];exact Nat.le_refl _,by unfold maxLen;omega,by simpa using T,by rw[F,<-T];simp⟩⟩
  have ab:=h.new ag hk (o:=.spare J.length A e) ac hu ⟨I,K⟩;refine⟨_,ab,(G6 _ _ _).symm,?_⟩;have Q:(w.alloc (.cells I.toArray e)).ownsRow S.B e A (.slice (some ⟨w.heap.size,0,none⟩) n n) J.length I:=K;refine bR (c:=c) (xs:=J) Q ad (by omega) ?_ ?_
  ·intro g Y j zz hj N;simp[blk]at Y;subst Y;refine⟨N,fun Z=>?_⟩;rcases Z with Z | ⟨k',o',hk',hb1,hb2⟩
   ·have:=h.m0 _ j Z;have:=h.size;omega
   ·by_cases O:k=k'
    ·subst O;rw[E8]at hk';cases hk';simp only at hb2;omega
    ·rw[C7 O,J8]at hk';cases Y:C5 ob k' with
     | none=>simp[Y]at hk'
     | some o0 =>
      rw[Y8 G _ (Ne.symm O)]at hb1;have:=(h.obs k' o0 Y).blk_lt _ hb1;omega
  ·intro m Z j hj;obtain⟨zz,aj,ak⟩:=hv m Z j hj;exact⟨zz,aj,Cell.rep_mono (fun _ _ _ hr=>h.rd_new ac hu hr) _ _ ak⟩
theorem BB(k:Nat){t e:TypeId}{j h n:Nat}{g:Array (Nat×Operand)}{α:Type}{c:α->Nat->Cell}{ys:List α}[ht:TySl P t e j h](hb:nK fr j c g.toList 0 ys)(A:g.toList.length=n)(m:Nat.ble n 100000=true)(q:Nat.ble j 100=true)
  (v:(H4 k fr&&M1 k ob)=true):EffV P ⟨dst,.buildSlice t n g,ty,pos,af,gd⟩ fr ob (.s (.one (.buf k α j c ys))) fr ((k,.spare ys.length j e)::ob):=by
 simp only[VB]at v;obtain⟨w,x⟩:=v;obtain⟨y,z,B⟩:=R5 x;have:=BA (P:=P) (dst:=dst) (ty:=ty) (pos:=pos) (af:=af) (gd:=gd) (ht:=ht) k hb A m q z B
 rwa[R4 w,y]at this
end
theorem UK{α:Type 1}{β:Type}{R:α->β->Prop}{t:α}:∀{c:List α} {a:List β} (o:Nat),(∀z,a[o]?=some z->R t z)->All2 R c a->All2 R (c.set o t) a
 | [],[],_,_,_=>trivial
 | [],_::_,_,_,h=>h.elim
 | _::_,[],_,_,h=>h.elim
 | _::_,v::_,0,hz,h=>⟨hz v rfl,h.2⟩
 | _::c,_::a,o+1,hz,h=>⟨h.1,UK o (fun z b=>hz z (by simpa using b)) h.2⟩
theorem UQ(k:Nat)(α:Type)(g:Nat)(c:α->Nat->Cell)(e:TypeId){kb o:Nat}{A:List TC}(hb:C5 ob kb=some (.box A))(H:A[o]?=some (.p (.v (.slice none 0 0))))(K:(H4 k fr&&M1 k ob)=true) :
  Sees P nt fr ob fr ((kb,.box (A.set o (.buf k α g c [])))::(k,.spare 0 g e)::ob):=by
 simp only[VB]at K;obtain⟨M,N⟩:=K;obtain⟨O,B,T⟩:=R5 N;intro S G a w X h;have C:=h.new T (o:=.spare 0 g e) (u:=.slice none 0 0) (w1:=w) B (Below.refl _ _) (fun b hb=>by simp[blk]at hb) ⟨[],World.ownsRow_nil w _ _ _⟩;rw[R4 M,O]at C;have F:k≠kb:=fun Q=>by rw[Q,hb]at B;cases B
 have n:C5 ((k,Ob.spare 0 g e)::ob) kb=some (.box A):=by rw[C7 F];exact hb
 obtain⟨b,Z,t,R,W,ha⟩:=C.obs kb _ n;have d:blk (upd G k (.slice none 0 0) kb)=some b:=by rw[R];rfl
 refine⟨_,C.retell n d (fun i=>⟨d,trivial⟩) (fun i=>⟨d,trivial⟩) ?_⟩;rintro Y ⟨L,J,V,D,E,j⟩;refine⟨L,J,V,D,E,UK o (fun z U=>?_) j⟩;obtain⟨z',q,I⟩:=j.get o _ H;rw[U]at q;cases q;rw[I.1];exact⟨(G6 _ _ _).symm,J2 α g c⟩
def low:Obs->Bool
 | []=>true
 | (i,_)::r=>Nat.blt i 1000&&low r
theorem TC.freeze_free{k:Nat}{α:Type}{a:Nat}{c:α->Nat->Cell}{b:List α}{t:TC}(h:t.free k=true):t.freeze k α a c b=t:=by
 cases t<;>first | rfl | skip
 simp only[TC.free,Bool.not_eq_true']at h;simp[TC.freeze,h]
theorem Ob.freeze_free{k:Nat}{α:Type}{g:Nat}{c:α->Nat->Cell}{i:List α}{o:Ob}(h:o.free k=true):o.freeze k α g c i=o:=by
 cases o with
 | box b=>simp only[Ob.freeze];rw[Q0 fun t a=>TC.freeze_free (List.all_eq_true.1 h t a)]
 | tbx e b=>simp only[Ob.freeze];rw[Q0 fun t a=>TC.freeze_free (List.all_eq_true.1 h t a)]
 | tarr n e b=>simp only[Ob.freeze];rw[Q0 fun t a=>TC.freeze_free (List.all_eq_true.1 h t a)]
 | arr=>rfl
 | spare=>rfl
 | grow=>rfl
 | map=>rfl
 | growA f q d l j p b=>simp only[Ob.freeze];rw[Q0 fun t a=>TC.freeze_free (List.all_eq_true.1 h t a)]
 | growT f m d b=>simp only[Ob.freeze];rw[Q0 fun t a=>TC.freeze_free (List.all_eq_true.1 h t a)]
theorem UV{P:Program}{f:FuncId}{c:List PV}{g:List PV->Prop}(l:Callable P f)
  (h:∀(w:World) (M:Nat->Nat->Prop) (a:List Value),(∀b i,M b i->b<w.heap.size)->All2 (PV.rep (E4 M w)) c a->Calls P f a.toArray w (fun e w'=>∃v j,e=.returned v/\g j/\ResRep (E4 M w') j v/\Below w.heap.size w w')):FnOk P f c g :=
 ⟨l,fun w M a _ k ha=>h w M a k ha⟩
theorem UI{P:Program}{f:FuncId}{xs:List Value}{r:Value}(g:Callable P f)(j:r.oneCell'=true)
  (h:∀w,Calls P f xs.toArray w (fun e w'=>e=.returned r/\w'=w)):FnOk P f (xs.map fun x=>.one (.v x)) (fun p=>p=[.one (.v r)]):=by
 refine UV g fun w M a s ha=>?_;have k:a=xs:=by
  clear h g;induction xs generalizing a with
  | nil=>cases a with
   | nil=>rfl
   | cons _ _=>exact ha.elim
  | cons x xs l=>cases a with
   | nil=>exact ha.elim
   | cons v q =>
    obtain⟨b,c⟩:=ha;rw[l q c,b.1]
 rw[k];refine (h w).mono fun e w' i=>?_;obtain⟨b,c⟩:=i;exact⟨r,_,b,rfl,⟨rfl,j⟩,by rw[c];exact Below.refl _ _⟩
section
variable {P:Program}{dst:Option Tmp}{ty:TypeId}{pos:String}{af:Array Edge}{gd:Option (Nat×Bool)}{fr:Fr}{ob:Obs}
theorem C4{x:Operand}{k o:Nat}(j:opv fr x=some (.s (.one (.ref k o)))):Neu P ⟨dst,.nilCheck x,ty,pos,af,gd⟩ fr ob (fun m=>m=.s (.one (.ref k o))) :=
 E3 fun S G a w h=>by
  obtain⟨b,d,g⟩:=F9 h j;refine⟨_,?_,b,d,rfl⟩;simp only[execOp,g];rfl
theorem jR{t:TypeId}{x y:Operand}{k o n:Nat}{e:TypeId}{D:List TC}{s:S1}(V:(P.info? t).map (·.size)=some n)(hx:opv fr x=some (.s (.one (.ref k o))))(W:C5 ob k=some (.tbx e D))(hy:opv fr y=some (.s s))(Y:G7 y=true)
  (X:s.cells.length=n) (J:Nat.ble (o+n) D.length=true):Eff P ⟨none,.store t x y,ty,pos,af,gd⟩ fr ob fr ((k,.tbx e (setTs D o s.cells))::ob):=by
 intro S G a w h;obtain⟨b,Q,C⟩:=F9 h hx;obtain⟨b',A,K,hh,ha⟩:=h.obs k _ W;rw[Q]at K;cases K;have hr:(SV.s s).rep (E4 (Mut S ob G) w) G (a.eval y):=M2 h hy Y;have g:=UG hr;have q:(a.eval y).cells.size=n:=by rw[<-X,g.length];simp
 have R:o+n<=D.length:=by simpa using J
 have M:∀u∈(a.eval y).cells.toList,u.oneCell'=true:=by
  intro u C;have:∀(D:List TC) (A:List Value),All2 (TC.rep (E4 (Mut S ob G) w) G) D A->∀u∈A,u.oneCell'=true:=by
   intro D;induction D with
   | nil=>intro A h u C;cases A with | nil=>cases C | cons=>exact h.elim
   | cons t D ih =>
    intro A h u C;cases A with
    | nil=>exact h.elim
    | cons v A =>
     rcases VH.1 C with rfl | C
     ·exact TC.rep_one h.1
     ·exact ih A h.2 u C
  exact this _ _ g u C
 obtain⟨w',O,T,I,N,H,B,F⟩:=b8 (P:=P) (t:=t) (w:=w) (b:=b) (o:=o) (v:=a.eval y) (by rw[V,q]) hh M (by rw[q,<-ha.length];exact R);unfold Does;have he:(execOp a.eval ⟨none,.store t x y,ty,pos,af,gd⟩).run P w=.ok .skip w':=by
  simp[execOp,C,Instr.storeAt,Instr.sureAddr,O]
 rw[he];have E:blk (G k)=some b:=by rw[Q];rfl
 refine⟨G,h.write W E (fun i=>⟨E,trivial⟩) (fun i=>⟨E,trivial⟩) T I N (Nat.le_of_eq H.symm) (fun j _=>B j) ?_⟩;intro rd U;refine⟨b,_,Q,F,?_⟩;have Z:A.drop (o+(a.eval y).cells.size)=A.drop (o+s.cells.length):=by rw[q,X]
 unfold setTs;rw[Z];exact (((ha.take o).append g).append (ha.drop _)).mono fun _ _=>TC.rep_mono U
theorem dV{x:Operand}{t e:TypeId}{k o:Nat}{j:List TC}{s:TC}[ht:TyOne P t](y:opv fr x=some (.s (.one (.ref k o))))(q:C5 ob k=some (.tbx e j))(u:j[o]?=some s) :
  Neu P ⟨dst,.load t x,ty,pos,af,gd⟩ fr ob (fun A=>A=.s (.one s)) :=
 E3 fun S G a w h=>by
  obtain⟨b,m,v⟩:=F9 h y;obtain⟨B,C,c,p,ha⟩:=h.obs k _ q;rw[m]at c;cases c;obtain⟨z,g,i⟩:=ha.get o s u;refine⟨z,?_,i⟩;simp only[execOp,v];refine J3 ?_;simp[Instr.loadAt,Instr.sureAddr,P3 (ht:=ht) (cell_of_heap p (by simpa using g))]
theorem xE(k:Nat){e:TypeId}{z:Value}[hz:TyZero P e z](j:(H4 k fr&&M1 k ob)=true) :
  EffV P ⟨dst,.alloc e,ty,pos,af,gd⟩ fr ob (.s (.one (.ref k 0))) fr ((k,.tbx e (z.cells.toList.map fun c=>.p (.v c)))::ob):=by
 simp only[VB]at j;obtain⟨m,q⟩:=j;obtain⟨u,y,A⟩:=R5 q;intro S G a w h;refine G3 (w':=w.alloc (.cells z.cells e)) (v:=.pointer (some ⟨w.heap.size,0,none⟩)) ?_ ?_
 ·simp[execOp,Instr.alloc,newVar,newRow,J4 hz.out.1]
 ·have d:Below w.heap.size w (w.alloc (.cells z.cells e)):=(Below.refl _ _).alloc (Nat.le_refl _) _;have B:∀b,blk (.pointer (some ⟨w.heap.size,0,none⟩))=some b->w.heap.size<=b:=by intro b hb;simp[blk]at hb;omega
  have g:=h.new (o:=.tbx e (z.cells.toList.map fun c=>.p (.v c))) A y d B ⟨w.heap.size,z.cells.toList,rfl,by rw[Array.toArray_toList];exact heap_alloc_new w _,T7 _ hz.out.2⟩;rw[R4 m,u]at g;exact⟨upd G k (.pointer (some ⟨w.heap.size,0,none⟩)),g,⟨w.heap.size,G6 _ _ _,rfl⟩⟩
end
def fH(fr:Fr):Fr:=fr.map fun x=>(x.1+1000000,x.2)
theorem c5:∀(fr:Fr) (i:Nat) (s:SV),E0 (fH fr) i=some s->1000000<=i/\E0 fr (i-1000000)=some s
 | [],i,s,h=>by simp[fH,E0]at h
 | (j,x)::r,i,s,h=>by
  by_cases a:j+1000000=i
  ·subst a;simp only[fH,VR]at h;rw[D7]at h;cases h;exact⟨by omega,by rw[Nat.add_sub_cancel,D7]⟩
  ·simp only[fH,VR]at h;rw[C6 a]at h;obtain⟨b,c⟩:=c5 r i s h;exact⟨b,by rw[C6 (by omega)];exact c⟩
theorem nW{fr:Fr}:∀{i:Nat} {s:SV},E0 fr i=some s->E0 (fH fr) (i+1000000)=some s:=by
 induction fr with
 | nil=>intro i s h;simp[E0]at h
 | cons x r b =>
  obtain⟨j,y⟩:=x;intro i s h;by_cases a:j=i
  ·subst a;rw[D7]at h;cases h;simp only[fH,VR];rw[D7]
  ·rw[C6 a]at h;simp only[fH,VR];rw[C6 (by omega)];exact b h
theorem BC(k:Nat)(fr:Fr):Fr.forget k (fH fr)=fH (Fr.forget k fr):=by simp[fH,Fr.forget,Function.comp_def]
def j3:Nat->List S1->Fr
 | _,[]=>[]
 | i,p::ps=>(i,.s p)::j3 (i+1) ps
theorem iJ:∀(i:Nat) (ps:List S1) (k:Nat) (s:SV),E0 (j3 i ps) k=some s->i<=k/\∃p,ps[k-i]?=some p/\s=.s p
 | i,[],k,s,h=>by simp[j3,E0]at h
 | i,p::ps,k,s,h=>by
  by_cases a:i=k
  ·subst a;simp only[j3,D7]at h;cases h;exact⟨Nat.le_refl _,p,by simp,rfl⟩
  ·simp only[j3]at h;rw[C6 a]at h;obtain⟨d,q,b,c⟩:=iJ (i+1) ps k s h;refine⟨by omega,q,?_,c⟩;have:k-i=(k-(i+1))+1:=by omega
   rw[this];simpa using b
theorem l9:∀(a b:Fr) (k:Nat),E0 (a++b) k=(E0 a k).orElse fun _=>E0 b k
 | [],b,k=>rfl
 | (i,s)::r,b,k=>by
  show E0 ((i,s)::(r++b)) k=_;by_cases h:i=k
  ·subst h;rw[D7,D7];rfl
  ·rw[C6 h,C6 h,l9 r b k]
def xF:List S1->SV
 | [p]=>.s p
 | ps=>.tup ps
def X3(a:Rd)(G:Gh)(b:List S1)(v:Value):Prop:=(xF b).rep a G v
def RetS(P:Program)(fn:Func)(fr:Fr)(ob:Obs)(b:List S1):Prop :=
 ∀S G a w,Sim P S fr ob G a w->∃v,(results fn a.tmps).run P w=.ok v w/\X3 (E4 (Mut S ob G) w) G b v
def C9(ks:List Nat)(fr:Fr):Fr:=ks.foldl (fun f k=>Fr.forget k f) fr
theorem c6:∀{ks:List Nat} {fr:Fr} {i:Nat} {s:SV},E0 (C9 ks fr) i=some s->∃b,E0 fr i=some b
 | [],_,_,s,h=>⟨s,h⟩
 | k::ks,fr,i,s,h=>by
  obtain⟨b,a⟩:=c6 (ks:=ks) (fr:=Fr.forget k fr) h;rw[N0]at a;cases c:E0 fr i with
  | none=>rw[c]at a;cases a
  | some s1=>exact⟨s1,rfl⟩
theorem m6:∀(a:List Nat) (fr:Fr),C9 a (fH fr)=fH (C9 a fr)
 | [],_=>rfl
 | k::a,fr=>by
  show C9 a (Fr.forget k (fH fr))=fH (C9 a (Fr.forget k fr));rw[BC,m6 a]
def High(gf:Fr):Prop:=∀i s,E0 gf i=some s->1000000<=i
def Tail(gf fr:Fr):Prop:=∀i s,1000000<=i->E0 gf i=some s->E0 fr i=some s
theorem B7{gf:Fr}:Tail gf gf:=fun _ _ _ h=>h
theorem B8{gf fr:Fr}{j:Nat}{s:SV}(a:Nat.blt j 1000000=true)(h:Tail gf fr):Tail gf ((j,s)::fr):=fun i d c b=>by
 have a:j<1000000:=by simpa using a
 rw[C6 (by omega)];exact h i d c b
theorem E1(k:Nat){gf fr:Fr}(h:Tail gf fr):Tail (Fr.forget k gf) (Fr.forget k fr):=fun i s c b=>by
 rw[N0]at b ⊢;cases a:E0 gf i with
 | none=>rw[a]at b;cases b
 | some d=>rw[a]at b;rw[h i d c a];exact b
def MJ(P:Program)(fn:Func)(d:List Nat)(gf:Fr)(b:List S1->Obs->Prop):Post
 | .normal,fr,ob | .ret,fr,ob=>∃c ob',RetS P fn fr ob c/\Tail (C9 d gf) fr/\(∀k o,C5 ob' k=some o->C5 ob k=some o)/\b c ob'
 | _,_,_=>False
def Met(P:Program)(f:FuncId)(args:List S1)(gf:Fr)(ob:Obs)(ks:List Nat)(c:List S1->Obs->Prop):Prop :=
 Callable P f/\(High gf->∀S G a w (b:List Value),Sim P S gf ob G a w->All2 (S1.rep (E4 (Mut S ob G) w) G) args b ->
  Calls P f b.toArray w (fun e w'=>∃v g ob' G',e=.returned v/\c g ob'/\X3 (E4 (Mut S ob' G') w') G' g v/\Sim P S (C9 ks gf) ob' G' a w'))
theorem Met.mono{f:FuncId}{args:List S1}{gf:Fr}{g:List Nat}{c b:List S1->Obs->Prop}(h:Met P f args gf ob g c)(p:∀rs ob,c rs ob->b rs ob):Met P f args gf ob g b :=
 ⟨h.1,fun l S G a w d q ha=>(h.2 l S G a w d q ha).mono fun e w' ⟨v,rs,ob',G',i,j,k⟩=>⟨v,rs,ob',G',i,p _ _ j,k⟩⟩
theorem Met.intro{f:FuncId}{fn:Func}{c:Code}{args:List S1}{gf:Fr}{N:List Nat}{y:List S1->Obs->Prop}(hf:P.funcs[f]?=some fn)(E:(fn.name == "runtime.NumGoroutine")=false)(hb:fn.body=some c)(J:Nat.ble args.length fn.ntmps=true)(Z:Nat.ble fn.ntmps 1000000=true)
  (h6:WpC P fn.ntmps c (j3 0 args++gf) ob (MJ P fn N gf y)):Met P f args gf ob N y:=by
 refine⟨⟨fn,hf,E,by simp[hb]⟩,fun C S G a w j h B=>?_⟩;have ad:j.length=args.length:=B.length.symm;have ac:args.length<=fn.ntmps:=by simpa using J
 have Y:fn.ntmps<=1000000:=by simpa using Z
 let S':Ctx:={ S with nt:=fn.ntmps,df:=[] }
 have hs:Sim P S' (j3 0 args++gf) ob G { tmps:=j.toArray++Array.replicate (fn.ntmps-j.toArray.size) undef,defers:=[] } w:=by
  refine { h with nt:=by simp[S'];omega,ntb:=Y,defers:=rfl,facts:=?_ };intro i s q;rw[l9]at q;cases H:E0 (j3 0 args) i with
  | some Q =>
   rw[H]at q;have q:some Q=some s:=q;cases q;obtain⟨_,p,hp,rfl⟩:=iJ 0 args i _ H;obtain⟨u,hu,hr⟩:=B.get (i-0) p hp;have W:i<j.length:=(List.getElem?_eq_some_iff.1 hu).1;have I:(j.toArray++Array.replicate (fn.ntmps-j.toArray.size) undef).getD i undef=u:=by
    rw[Array.getD_eq_getD_getElem?,Array.getElem?_append_left (by simpa using W)];simpa using congrArg (fun x=>x.getD undef) hu
   rw[Ctx.sl_lt (by omega),I];exact hr
  | none =>
   rw[H]at q;have q:E0 gf i=some s:=q;have V:=C i s q;have F:=h.facts i s q;rw[Ctx.sl_ge V]at F ⊢;exact F
 refine r7 hf hb (wp_mono (h6 S' _ _ w rfl hs) ?_);rintro e T w' ⟨fr',ob',G',hq,A⟩;have fin:(∃rs m,RetS P fn fr' ob' rs/\Tail (C9 N gf) fr'/\(∀k o,C5 m k=some o->C5 ob' k=some o)/\y rs m)->∀ds w',Sim P { S' with df:=ds } fr' ob' G' T w'->∃v,(results fn T.tmps).run P w'=.ok v w'/\(∃R rs ob' G',Ending.returned v=.returned R/\y rs ob'/\X3 (E4 (Mut S ob' G') w') G' rs R/\Sim P S (C9 N gf) ob' G' a w'):=by
  rintro⟨rs,m,hr,H,ho,hp⟩ ds w' A;obtain⟨v,hv,L⟩:=hr _ G' T w' A;have K:∀b i,Mut S' m G' b i->Mut S' ob' G' b i:=by
   rintro b i (X | ⟨k,o,hk,ab⟩)
   ·exact .inl X
   ·exact .inr ⟨k,o,ho k o hk,ab⟩
  have M:=(A.weaken (fr':=C9 N gf) (fun i s q=>by
   obtain⟨Q,U⟩:=c6 q
   exact H i s (C i Q U) q)).weakenO ho
  refine⟨v,hv,v,rs,m,G',rfl,hp,SV.rep_mono (fun b i z hz=>⟨hz.1,fun X=>hz.2 (K b i X)⟩) L,{ M with nt:=h.nt,ntb:=h.ntb,defers:=h.defers,facts:=fun i s q=>?_ }⟩;obtain⟨Q,U⟩:=c6 q;have V:=C i Q U;have F:=M.facts i s q;rw[Ctx.sl_ge V]at F ⊢;exact F
 cases e with
 | normal=>exact A.leave rfl (fin hq)
 | ret=>exact A.leave rfl (fin hq)
 | _=>exact hq.elim
theorem G9{fn:Func}{c:List Nat}{gf:Fr}{a:List S1->Obs->Prop}{b:List S1}{ob':Obs}(h:RetS P fn fr ob b)(d:Tail (C9 c gf) fr)(f:∀k o,C5 ob' k=some o->C5 ob k=some o)(g:a b ob'):MJ P fn c gf a .ret fr ob :=
 ⟨b,ob',h,d,f,g⟩
theorem R6{fn:Func}{ks:List Nat}{gf:Fr}{b:List S1->Obs->Prop}{c:List S1}{ob':Obs}(h:RetS P fn fr ob c)(d:Tail (C9 ks gf) fr)(e:∀k o,C5 ob' k=some o->C5 ob k=some o)(f:b c ob'):MJ P fn ks gf b .normal fr ob :=
 ⟨c,ob',h,d,e,f⟩
theorem gF{fn:Func}(b:fn.results=#[]):RetS P fn fr ob []:=fun S G a w h=>⟨.tuple #[],by simp[results,b],[],rfl,trivial⟩
theorem O9{fn:Func}{t:Tmp}{s:S1}(b:fn.results=#[.tmp t])(c:aG fr t=some (.s s)):RetS P fn fr ob [s] :=
 fun S G a w h=>⟨a.tmps.getD t undef,by simp[results,b],h.slot c⟩
theorem EC{fn:Func}{t c:Tmp}{s d:S1}(f:fn.results=#[.tmp t,.tmp c])(g:aG fr t=some (.s s))(b:aG fr c=some (.s d)):RetS P fn fr ob [s,d] :=
 fun S G a w h=>⟨.tuple #[a.tmps.getD t undef,a.tmps.getD c undef],by simp[results,f],[_,_],rfl,h.slot g,h.slot b,trivial⟩
def gG(fr:Fr):List Operand->Option (List S1)
 | []=>some []
 | x::r=>match opv fr x with
  | some (.s s)=>match gG fr r with
   | some ps=>some (s::ps)
   | none=>none
  | _=>none
theorem j4{S:Ctx}{G:Gh}{a:Act}{w:World}(h:Sim P S fr ob G a w):∀(b:List Operand) (ps:List S1),gG fr b=some ps->b.all G7=true->All2 (S1.rep (E4 (Mut S ob G) w) G) ps (b.map a.eval)
 | [],ps,h1,_=>by simp[gG]at h1;subst h1;trivial
 | x::r,ps,h1,h2=>by
  simp only[List.all_cons,VB]at h2;unfold gG at h1;split at h1
  ·rename_i s f;split at h1
   ·rename_i g c;simp only[Option.some.injEq]at h1;subst h1;have d:(SV.s s).rep (E4 (Mut S ob G) w) G (a.eval x):=M2 h f h2.1;exact⟨d,j4 h r g c h2.2⟩
   ·cases h1
  ·cases h1
theorem W7{f:FuncId}{xs:List Operand}{E:Array TypeId}{ty:TypeId}{pos:String}{af:Array Edge}{args:List S1}{J:List Nat}{j:List S1->Obs->Prop}
  (N:Met P f args (fH fr) ob J j) (ha:gG fr xs=some args) (T:xs.all G7=true) (U:Nat.blt d nt=true)
  (Z:∀rs ob',j rs ob'->WpL P nt ops rest ((d,xF rs)::C9 J fr) ob' Q):WpL P nt ops (⟨some d,.call ⟨.value (.func f),xs.toArray,E⟩,ty,pos,af,none⟩::rest) fr ob Q:=by
 intro S G a w O h;have C:=j4 h xs args ha T;obtain⟨D,F⟩:∃D:Nat->Value,D=fun i=>S.sl a (i-1000000):=⟨_,rfl⟩
 let S':Ctx:={ S with gv:=D }
 have z:High (fH fr):=fun i s H=>(c5 fr i s H).1;have b:∀i s,E0 (fH fr) i=some s->s.rep (E4 (Mut S' ob G) w) G (S'.sl a i):=by
  intro i s H;obtain⟨x,L⟩:=c5 fr i s H;rw[Ctx.sl_ge x];show s.rep _ _ (D i);have e:=congrFun F i;rw[e];exact h.facts (i-1000000) s L
 have Y:Sim P S' (fH fr) ob G a w:={ h with facts:=b }
 have m:=N.2 z S' G a w _ Y C;refine wpList_plain rfl fun K R=>J7 (K:=fun v w'=>∃rs ob' G',j rs ob'/\X3 (E4 (Mut S' ob' G') w') G' rs v/\Sim P S' (C9 J (fH fr)) ob' G' a w') ?_ ?_
 ·have V:(execOp a.eval ⟨some d,.call ⟨.value (.func f),xs.toArray,E⟩,ty,pos,af,none⟩).run P w=.ok (.enter f (xs.map a.eval).toArray) w:=by
   have:=N8 (P:=P) (f:=f) (args:=(xs.map a.eval).toArray) (w:=w) N.1;have W:xs.toArray.map a.eval=(xs.map a.eval).toArray:=by simp
   simp only[execOp,resolve,Act.eval,Deferred.ofValue,Sem.run_bind,Sem.run_pure,Result.andThen_ok,invoke];rw[show (#[]:Array Value)++Array.map a.eval xs.toArray++#[]=(xs.map a.eval).toArray by rw[<-W];simp];exact this
  unfold Does;rw[V];refine m.mono ?_;rintro e w' ⟨v,rs,ob',G',rfl,B,g,q⟩;exact⟨v,rfl,rs,ob',G',B,g,q⟩
 ·rintro v w' ⟨rs,ob',G',X,g,q⟩;have M:d<S.nt:=by rw[O];simpa using U
  have p:∀i s,E0 (C9 J fr) i=some s->s.rep (E4 (Mut S ob' G') w') G' (S.sl a i):=by
   intro i s H;have x:=q.facts (i+1000000) s (by rw[m6];exact nW H);have L:1000000<=i+1000000:=Nat.le_add_left _ _;rw[Ctx.sl_ge L]at x;have x:s.rep (E4 (Mut S ob' G') w') G' (D (i+1000000)):=x;have e:=congrFun F (i+1000000);simp only[Nat.add_sub_cancel]at e;rw[e]at x;exact x
  have I:Sim P S (C9 J fr) ob' G' a w':={ q with facts:=p }
  exact R _ _ (Z rs ob' X S G' _ w' O (I.put M g))
variable {gf:Fr}
theorem Grd.pow10{w:World}{j:Nat->Prop}(h:Grd P j w){g:Nat}(c:P.globalNamed "internal/strconv.uint64pow10"=some g):Lib.TabIs P w "internal/strconv.uint64pow10" .u64 Lib.pow10Tab:=by
 obtain⟨d,⟨_,i⟩,f,e⟩:=h;have a:=i g c;have b:g<d.heap.size:=by
  unfold Lib.TabIs World.var? at a;rw[c]at a;by_cases b:g<d.heap.size
  ·exact b
  ·rw[Option.bind_some,Array.getElem?_eq_none (by omega)]at a;cases a
 unfold Lib.TabIs World.var? at a ⊢;rw[c]at a ⊢;simp only[Option.bind_some]at a ⊢;rw[(e g b).1];exact a
theorem UT{f:FuncId}{a:List PV}{c:List PV->Prop}(k:Callable P f)
  (h:∀(w:World) (M:Nat->Nat->Prop) (g:List Value),Grd P (fun _=>False) w->(∀b i,M b i->b<w.heap.size)->All2 (PV.rep (E4 M w)) a g->Calls P f g.toArray w (fun e w'=>∃v j,e=.returned v/\c j/\ResRep (E4 M w') j v/\Below w.heap.size w w')):FnOk P f a c:=by
 unfold FnOk;exact⟨k,h⟩
theorem UN{f:FuncId}{xs:List Value}{r:Value}(g:Callable P f)(k:r.oneCell'=true)
  (h:∀w,Grd P (fun _=>False) w->Calls P f xs.toArray w (fun e w'=>e=.returned r/\Below w.heap.size w w')):FnOk P f (xs.map fun x=>.one (.v x)) (fun q=>q=[.one (.v r)]):=by
 refine UT g fun w M a j y ha=>?_;have l:a=xs:=by
  clear h g;induction xs generalizing a with
  | nil=>cases a with
   | nil=>rfl
   | cons _ _=>exact ha.elim
  | cons x xs p=>cases a with
   | nil=>exact ha.elim
   | cons v s =>
    obtain⟨b,c⟩:=ha;rw[p s c,b.1]
 rw[l];refine (h w j).mono fun e w' i=>?_;obtain⟨b,c⟩:=i;exact⟨r,_,b,rfl,⟨rfl,k⟩,c⟩
theorem Met.copyCheck{f:FuncId}{k:Nat}{e:TypeId}{a t:TC}(W:Callable P f)
  (z:∀(b:Nat) (w:World),w.cell? ⟨b,0,none⟩=some (.pointer none)->w.shape? b=some (e,2)->w.frozen? ⟨b,0,none⟩=false ->
   Calls P f #[.pointer (some ⟨b,0,none⟩)] w fun x w'=>x=.returned (.tuple #[])/\w'=w.setCell ⟨b,0,none⟩ (.pointer (some ⟨b,0,none⟩)))
  (E:∀(b:Nat) (w:World),w.cell? ⟨b,0,none⟩=some (.pointer (some ⟨b,0,none⟩))->Calls P f #[.pointer (some ⟨b,0,none⟩)] w fun x w'=>x=.returned (.tuple #[])/\w'=w)
  (U:C5 ob k=some (.tbx e [a,t])) (ha:a=.p (.v (.pointer none))\/a=.ref k 0) :
  Met P f [.one (.ref k 0)] gf ob [] (fun Y ob'=>Y=[]/\ob'=(k,.tbx e [.ref k 0,t])::ob):=by
 refine⟨W,fun _ S G N w L V T=>?_⟩
 match L,T with
 | [u],T =>
  obtain⟨b,F,rfl⟩:∃b,G k=.pointer (some ⟨b,0,none⟩)/\u=.pointer (some ⟨b,0,none⟩):=T.1;obtain⟨b',vs,H,J,g⟩:=V.obs k _ U;rw[F]at H;cases H
  match vs,g with
  | [p,v],g =>
   have C:blk (G k)=some b:=by rw[F];rfl
   have h:w.cell? ⟨b,0,none⟩=some p:=cell_of_heap J rfl;have M:X3 (E4 (Mut S ((k,.tbx e [.ref k 0,t])::ob) G) w) G [] (.tuple #[]):=⟨[],rfl,trivial⟩
   have done:∀w',(∀(K:w'.os=w.os) (y:w'.tape=w.tape) (B:w'.output=w.output) (q:w'.heap.size=w.heap.size),(∀j,j≠b->w'.heap[j]?=w.heap[j]?)->w'.heap[b]?=some (.cells #[.pointer (some ⟨b,0,none⟩),v] e (0,0)) ->
     Sim P S gf ((k,.tbx e [.ref k 0,t])::ob) G N w'):=by
    intro w' K y B q A D;refine V.write U C (fun i=>⟨C,trivial⟩) (fun i=>⟨C,trivial⟩) K y B (Nat.le_of_eq q.symm) (fun j _=>A j) fun rd R=>?_;exact⟨b,[.pointer (some ⟨b,0,none⟩),v],F,D,⟨b,F,rfl⟩,TC.rep_mono R g.2.1,trivial⟩
   rcases ha with rfl | rfl
   ·obtain⟨rfl,_⟩:p=.pointer none/\_:=g.1;refine (z b w h ?_ ?_).mono fun x w' Q=>?_
    ·unfold World.shape?;rw[J];rfl
    ·unfold World.frozen?;rw[J];rfl
    ·obtain⟨rfl,rfl⟩:=Q;refine⟨_,[],_,G,rfl,⟨rfl,rfl⟩,⟨[],rfl,trivial⟩,?_⟩;refine done _ Z Z Z (by simp[World.setCell]) (fun j X=>heap_setCell_other w _ j _ X) ?_;rw[heap_setCell_same w b 0 _ e _ J];rfl
   ·obtain⟨O,I,rfl⟩:∃O,G k=.pointer (some ⟨O,0,none⟩)/\p=.pointer (some ⟨O,0,none⟩):=g.1;rw[F]at I;cases I;refine (E b w h).mono fun x w' Q=>?_;obtain⟨rfl,rfl⟩:=Q;exact⟨_,[],_,G,rfl,⟨rfl,rfl⟩,⟨[],rfl,trivial⟩,done w' rfl rfl rfl rfl (fun _ _=>rfl) J⟩
def SV.flat:SV->SV
 | .s (.one (.p (.v x)))=>.s (.one (.p (.v x)))
 | .un=>.un
 | _=>.any
theorem UX{b a:Rd}{G G':Gh}{s:SV}{u:Value}(h:s.rep b G u):s.flat.rep a G' u:=by
 unfold SV.flat
 split
 ·exact h
 ·exact h
 ·trivial
def xG(fr:Fr):Fr:=fr.map fun x=>(x.1,x.2.flat)
theorem sM:∀(fr:Fr) (i:Nat),E0 (xG fr) i=(E0 fr i).map SV.flat
 | [],i=>rfl
 | (j,s)::r,i=>by
  by_cases h:j=i
  ·subst h;simp[xG,E0]
  ·have b:=sM r i;simp only[xG,VR]at b ⊢;rw[C6 h,C6 h,b]
theorem sN{f:FuncId}{x:Operand}{J:Array TypeId}{ty:TypeId}{pos:String}{af:Array Edge}{k k':Nat}{e eb:TypeId}{a:TC}{xs:List UInt8}(W:Callable P f)
  (hf:∀(B b:Nat) (l:List UInt8) (w:World),Lib.IsBuilder e eb B b (Lib.byteCells l) w->B<=w.heap.size->Calls P f #[.pointer (some ⟨b,0,none⟩)] w fun x w'=>x=.returned (.string ⟨l.toArray⟩)/\Below B w w')
  (hx:opv fr x=some (.s (.one (.ref k 0)))) (D:C5 ob k=some (.tbx e [a,.buf k' UInt8 1 AU xs])) (X:C5 ob k'=some (.spare xs.length 1 eb)) (hkl:Nat.blt k 1000000=true) (Y:Nat.beq k k'=false)
  (ha:a=.p (.v (.pointer none))\/a=.ref k 0) (hd:Nat.blt d nt=true)
  (kk:WpL P nt ops rest ((d,P4 xs)::xG fr) [] Q):WpL P nt ops (⟨some d,.call ⟨.value (.func f),#[x],J⟩,ty,pos,af,none⟩::rest) fr ob Q:=by
 intro S G H w hn h;obtain⟨b,hG,aj⟩:=F9 h hx;obtain⟨b',vs,O,hh,q⟩:=h.obs k _ D;rw[hG]at O;cases O;have T:blk (G k)=some b:=by rw[hG];rfl
 match vs,q with
 | [p,v],q =>
  obtain⟨hv,y⟩:v=G k'/\(Cell.list UInt8 1 AU xs).rep (E4 (Mut S ob G) w) v:=q.2.1;subst hv;obtain⟨ws,m⟩:=h.obs k' _ X;have M:S.B<=b:=by
   rcases h.old k _ b D T with L | L
   ·exact L
   ·have:k<1000000:=by simpa using hkl
    omega
  have E:(G k').ownBlock≠some b:=by
   rw[b9 (W6 m)];intro he;have:=h.dis k k' _ _ b D X T he;rw[this]at Y;simp at Y
  have ak:ws=Lib.byteCells xs:=by
   obtain⟨ar,an,ax,aw,ad,au,ap,ai,aq,ao⟩:=l8 y;refine List.ext_getElem (by rw[m.1,Lib.byteCells_length];omega) fun j L h2=>?_;have hj:j<xs.length:=by rw[m.1]at L;omega
   rcases m.2 with ⟨_,av⟩ | ⟨g,cap',cur,hgv,_⟩
   ·omega
   ·have V:=m.cells (g:=g) (by rw[hgv];rfl) j ws[j] (by simp[L]);rw[Addr.add_lit,Nat.zero_add]at V;have ag:SliceAt (E4 (Mut S ob G) w) 1 xs.length (fun i j z=>∃h:i<xs.length,(AU xs[i] j).rep (E4 (Mut S ob G) w) z) (G k'):=by simpa only[Cell.rep] using y
    obtain⟨a2,c2,Z,_,_,C⟩:=ag;rcases C with h0 | ⟨b2,o2,ha2,hr2⟩
    ·omega
    ·rw[hgv]at Z;injection Z with e1 e2 e3
     rw[ha2]at e1;injection e1 with e1
     injection e1 with e4 e5 e6
     obtain⟨z,al,_,am⟩:=hr2 j hj 0 (by omega);have ac:=al.1;rw[<-e4,<-e5,show 0+j*1+0=j by omega,V]at ac;obtain⟨rfl,_⟩:=am;have:ws[j]=.int .u8 xs[j].toNat:=by simpa using ac
     rw[this];simp[Lib.byteCells]
  rw[ak]at m;have F:(Lib.byteCells xs).length=xs.length:=Lib.byteCells_length xs;have U:Lib.IsBuilder e eb S.B b (Lib.byteCells xs) w:=by
   rcases ha with rfl | rfl
   ·obtain⟨rfl,_⟩:p=.pointer none/\_:=q.1;exact .inl ⟨M,G k',hh,by rw[F];exact m,E⟩
   ·obtain⟨b2,R,rfl⟩:∃b2,G k=.pointer (some ⟨b2,0,none⟩)/\p=.pointer (some ⟨b2,0,none⟩):=q.1;rw[hG]at R;cases R;exact .inr ⟨M,G k',hh,by rw[F];exact m,E⟩
  have A:=hf S.B b xs w U h.size;refine wpList_plain rfl fun K hK=>J7 (K:=fun v w'=>v=.string ⟨xs.toArray⟩/\Below S.B w w') ?_ ?_
  ·have he:(execOp H.eval ⟨some d,.call ⟨.value (.func f),#[x],J⟩,ty,pos,af,none⟩).run P w=.ok (.enter f #[.pointer (some ⟨b,0,none⟩)]) w:=by
    have:=N8 (P:=P) (f:=f) (args:=#[.pointer (some ⟨b,0,none⟩)]) (w:=w) W;simp only[execOp,resolve,Act.eval,Deferred.ofValue,Sem.run_bind,Sem.run_pure,Result.andThen_ok,invoke];rw[show (#[]:Array Value)++Array.map H.eval #[x]++#[]=#[.pointer (some ⟨b,0,none⟩)] by simp[aj]];exact this
   unfold Does;rw[he];refine A.mono ?_;rintro e w' ⟨rfl,hb⟩;exact⟨_,rfl,rfl,hb⟩
  ·rintro v w' ⟨rfl,hb⟩;have ah:d<S.nt:=by rw[hn];simpa using hd
   have ab:Sim P S (xG fr) [] G H w':={
    nt:=h.nt,ntb:=h.ntb,defers:=h.defers,os:=hb.os.trans h.os,tape:=hb.tape.trans h.tape,output:=hb.output.trans h.output,size:=Nat.le_trans h.size hb.size,
    keep:=fun j hj ae=>(hb.block j hj).trans (h.keep j hj ae),m0:=h.m0,m0io:=h.m0io,grd:=h.grd,pin:=h.pin,
    old:=fun k o b D=>(by simp[C5]at D),dis:=fun k k' o o' b D=>(by simp[C5]at D),obs:=fun k o D=>(by simp[C5]at D),
    facts:=fun i s I=>(by
     rw[sM]at I;cases hg:E0 fr i with
     | none=>rw[hg]at I;cases I
     | some s0 =>
      rw[hg]at I;have I:some s0.flat=some s:=I;cases I
      exact UX (h.facts i s0 hg)) }
   exact hK _ _ (kk S G _ w' hn (ab.put ah ⟨rfl,rfl⟩))
theorem gH{dst:Option Tmp}{ty:TypeId}{pos:String}{af:Array Edge}{gd:Option (Nat×Bool)}{x:Operand}{b t:TypeId}{l:IntKind}{k:IntKind}{c:UInt8}[hs:TyInt P b l][hd:TyStr P t](j:opv fr x=some (H6 (.int k c.toNat)))(d:c.toNat<128) :
  Neu P ⟨dst,.convert b t x,ty,pos,af,gd⟩ fr ob (fun m=>m=P4 [c]) :=
 E3 fun S G a w h=>by
  refine⟨.string ⟨#[c]⟩,?_,rfl,rfl⟩;simp only[execOp,F2 h j];refine J3 ?_;have f:Utf8.valid (c.toNat:Int)=true:=by
   unfold Utf8.valid;simp;omega
  simp[convert,run_underlying hs.out,run_underlying hd.out,Conv.intToString,Utf8.encode,f,d]
theorem UR(k:Nat)(α:Type)(g:Nat)(c:α->Nat->Cell)(e:TypeId){kb o:Nat}{T:TypeId}{A:List TC}(hb:C5 ob kb=some (.tbx T A))(H:A[o]?=some (.p (.v (.slice none 0 0))))(K:(H4 k fr&&M1 k ob)=true) :
  Sees P nt fr ob fr ((kb,.tbx T (A.set o (.buf k α g c [])))::(k,.spare 0 g e)::ob):=by
 simp only[VB]at K;obtain⟨M,N⟩:=K;obtain⟨O,B,U⟩:=R5 N;intro S G a w X h;have C:=h.new U (o:=.spare 0 g e) (u:=.slice none 0 0) (w1:=w) B (Below.refl _ _) (fun b hb=>by simp[blk]at hb) ⟨[],World.ownsRow_nil w _ _ _⟩;rw[R4 M,O]at C;have F:k≠kb:=fun Q=>by rw[Q,hb]at B;cases B
 have n:C5 ((k,Ob.spare 0 g e)::ob) kb=some (.tbx T A):=by rw[C7 F];exact hb
 obtain⟨b,Z,R,W,ha⟩:=C.obs kb _ n;have d:blk (upd G k (.slice none 0 0) kb)=some b:=by rw[R];rfl
 refine⟨_,C.retell n d (fun i=>⟨d,trivial⟩) (fun i=>⟨d,trivial⟩) ?_⟩;rintro Y ⟨L,J,D,E,j⟩;refine⟨L,J,D,E,UK o (fun z V=>?_) j⟩;obtain⟨z',q,I⟩:=j.get o _ H;rw[V]at q;cases q;rw[I.1];exact⟨(G6 _ _ _).symm,J2 α g c⟩
section
variable {P:Program}{dst:Option Tmp}{ty:TypeId}{pos:String}{af:Array Edge}{gd:Option (Nat×Bool)}{fr:Fr}{ob:Obs}{nt:Nat}
theorem dW{w:World}{B:Nat}{e:TypeId}{a n:Nat}{v:Value}{b:List Value}(h:w.ownsRow B e a v n b):v.oneCell'=true:=by
 rcases h.2 with ⟨rfl,_⟩ | ⟨g,cap,cur,rfl,_⟩<;>rfl
theorem oQ(k:Nat)(α:Type)(c:α->Nat->Cell){t e:TypeId}{ec d:Nat}[ht:TySl P t e ec d](j:(H4 k fr&&M1 k ob)=true) :
  EffV P ⟨dst,.assign (.const (.slice none 0 0)),t,pos,af,gd⟩ fr ob (.s (.one (.mut k))) fr ((k,.grow e α ec c [])::ob):=by
 simp only[VB]at j;obtain⟨p,q⟩:=j;obtain⟨x,z,B⟩:=R5 q;intro S G a w h;refine G3 (w':=w) (v:=.slice none 0 0) Z ?_;have f:=h.new B (o:=.grow e α ec c []) (u:=.slice none 0 0) (w1:=w) z (Below.refl _ _) (fun b hb=>by simp[blk]at hb) ⟨[],World.ownsRow_nil w _ _ _,by simp,fun i A=>absurd A (by simp)⟩;rw[R4 p,x]at f;exact⟨upd G k (.slice none 0 0),f,(G6 _ _ _).symm,rfl⟩
theorem P9{x:Operand}{t e q:TypeId}{v d k ec:Nat}{α:Type}{c:α->Nat->Cell}{xs:List α}(A:opv fr x=some (.s (.one (.mut k))))(z:C5 ob k=some (.grow q α ec c xs))[ht:TySl P t e v d] :
  Neu P ⟨dst,.call ⟨.builtin .len,#[x],#[t]⟩,ty,pos,af,gd⟩ fr ob (fun B=>B=D1 xs.length) :=
 E3 fun S G a w h=>by
  refine⟨.int .i64 xs.length,?_,rfl,rfl⟩;obtain⟨j,_⟩:=F9 h A;obtain⟨C,f,_⟩:=h.obs k _ z;rcases f.2 with ⟨p,y⟩ | ⟨g,cap,cur,p,_⟩
  ·rw[p]at j;simp[execOp,resolve,invoke,builtin,j,Builtin.len_,run_underlying ht.out.1,goInt,y]
  ·rw[p]at j;simp[execOp,resolve,invoke,builtin,j,Builtin.len_,run_underlying ht.out.1,goInt]
theorem F0{x y:Operand}{t e v:TypeId}{ec b k:Nat}{α:Type}{c:α->Nat->Cell}{xs:List α}{F:IntKind}{i:Int}[ht:TySl P t e ec b](D:opv fr x=some (.s (.one (.mut k))))(C:C5 ob k=some (.grow v α ec c xs))
  (E:opv fr y=some (H6 (.int F i))) (z:0<=i) (B:i<xs.length):Neu P ⟨dst,.indexAddr t x y,ty,pos,af,gd⟩ fr ob (fun H=>H=.s (.one (.mref k ec i.toNat 0))) :=
 E3 fun S G a w h=>by
  obtain⟨q,_⟩:=F9 h D;obtain⟨J,j,_⟩:=h.obs k _ C;rcases j.2 with ⟨l,I⟩ | ⟨g,cap,cur,l,_⟩
  ·omega
  ·rw[l]at q;refine⟨.pointer (some ⟨g,i.toNat*ec,none⟩),?_,g,xs.length,cap,l,rfl⟩;simp only[execOp,q,F2 h E];refine J3 ?_;have hb:0<=i/\i<(xs.length:Int):=⟨z,B⟩
   simp[Instr.indexAt,run_underlying ht.out.1,asIntOf,hb,I1 ht.size,Addr.add_lit]
theorem Z1{t e:TypeId}{x q:Operand}{k i o n:Nat}{α:Type}{ec:Nat}{c:α->Nat->Cell}{xs:List α}{v:α}(y:α){s:S1}(ap:(P.info? t).map (·.size)=some n)(hx:opv fr x=some (.s (.one (.mref k ec i o))))(hk:C5 ob k=some (.grow e α ec c xs))
  (hv:xs[i]?=some v) (hy:opv fr q=some (.s s)) (X:G7 q=true) (hn:s.cells.length=n) (ho:Nat.ble (o+n) ec=true)
  (ad:∀(rd:Rd) G (us:List Value),All2 (TC.rep rd G) s.cells us->All2 (Cell.rep rd) (cellsOf c y o n) us) (ae:∀j,j<ec->(j<o\/o+n<=j)->c y j=c v j) :
  Eff P ⟨none,.store t x q,ty,pos,af,gd⟩ fr ob fr ((k,.grow e α ec c (xs.set i y))::ob):=by
 intro S G a w h;obtain⟨b,m,aj,hg,hu⟩:=F9 h hx;obtain⟨vs,M,ac,hc⟩:=h.obs k _ hk;obtain⟨am,ar⟩:=List.getElem?_eq_some_iff.1 hv;have hl:=M.1;rcases M.2 with ⟨au,h2⟩ | ⟨b',cap',cur,hg',hB,hh,hcap,hmax,hcs,htake⟩
 ·omega
 rw[hg]at hg';cases hg';have hr:(SV.s s).rep (E4 (Mut S ob G) w) G (a.eval q):=M2 h hy X;have d:=UG hr;have B:(a.eval q).cells.size=n:=by rw[<-hn,d.length];simp
 have ax:o+n<=ec:=by simpa using ho
 have av:i*ec+ec<=xs.length*ec:=by
  have:(i+1)*ec<=xs.length*ec:=VQ _ am;rw[WG,Nat.one_mul]at this;omega
 have aw:xs.length*ec<=cur.size:=by rw[hcs];exact VQ _ hcap
 have ak:w.heap[b]?=some (.cells cur.toList.toArray e (0,0)):=by rw[Array.toArray_toList];exact hh
 obtain⟨w',ai,ao,W,ag,V,I,Q⟩:=b8 (P:=P) (t:=t) (w:=w) (b:=b) (o:=i*ec+o) (v:=a.eval q) (by rw[ap,B]) ak (lJ d) (by rw[B];simp;omega);unfold Does;have he:(execOp a.eval ⟨none,.store t x q,ty,pos,af,gd⟩).run P w=.ok .skip w':=by
  simp[execOp,hu,Instr.storeAt,Instr.sureAddr,ai]
 rw[he];have N:blk (G k)=some b:=by rw[hg];rfl
 refine⟨G,h.write hk N (fun i=>⟨N,trivial⟩) (fun i=>⟨N,trivial⟩) ao W ag (Nat.le_of_eq V.symm) (fun j _=>I j) ?_⟩;intro rd U;have aq:(a.eval q).cells.toList.length=n:=by simpa using B
 have F:(cur.toList.take (i*ec+o)).length=i*ec+o:=by simp;omega
 have H:(cur.toList.take (i*ec+o)++(a.eval q).cells.toList).length=i*ec+o+n:=by rw[VF,F,aq]
 have ab:(cur.toList.take (i*ec+o)++(a.eval q).cells.toList++cur.toList.drop (i*ec+o+(a.eval q).cells.size)).length=cur.size:=by
  rw[VF,H,WA,B];simp;omega
 refine⟨(cur.toList.take (i*ec+o)++(a.eval q).cells.toList++cur.toList.drop (i*ec+o+(a.eval q).cells.size)).take (xs.length*ec),⟨by simp only[VM,ab,VY];omega,.inr ⟨b,aj,_,by rw[hg];simp,hB,Q,by simpa using hcap,hmax,by simp only[List.size_toArray];rw[ab,hcs],by simp⟩⟩,by simpa using ac,?_⟩;intro p hp j hj;have R:p<xs.length:=by simpa using hp
 have ah:p*ec+j<xs.length*ec:=by
  have:(p+1)*ec<=xs.length*ec:=VQ _ R;rw[WG,Nat.one_mul]at this;omega
 rw[WH ah];have Y:vs[p*ec+j]?=cur[p*ec+j]?:=by rw[<-htake,WH ah];simp
 have C:(p*ec+j<i*ec+o\/i*ec+o+n<=p*ec+j)->(cur.toList.take (i*ec+o)++(a.eval q).cells.toList++cur.toList.drop (i*ec+o+(a.eval q).cells.size))[p*ec+j]?=vs[p*ec+j]?:=by
  intro O;rw[Y];rcases O with J | J
  ·rw[VV,VP (by rw[F];exact J),WH J];simp
  ·rw[VO (by rw[H];exact J),H,WD,B];have:i*ec+o+n+(p*ec+j-(i*ec+o+n))=p*ec+j:=by omega
   rw[this];simp
 by_cases T:p=i
 ·subst T;have D:(xs.set p y)[p]'hp=y:=by simp
  rw[D];by_cases al:j<o\/o+n<=j
  ·rw[C (by omega),ae j hj al];obtain⟨z,E,A⟩:=hc p R j hj;rw[ar]at A;exact⟨z,E,Cell.rep_mono U _ _ A⟩
  ·have an:=ad _ _ _ d;have Z:(cellsOf c y o n)[j-o]?=some (c y j):=by
    have K:j-o<(cellsOf c y o n).length:=by rw[N1];omega
    rw[VA K];have:=Q8 c y n o (j-o) _ (VA K);rw[this.1];congr 2;omega
   obtain⟨z,E,A⟩:=an.get _ _ Z;refine⟨z,?_,Cell.rep_mono U _ _ A⟩;rw[VP (by rw[H];omega),VO (by rw[F];omega),F];have:p*ec+j-(p*ec+o)=j-o:=by omega
   rw[this];exact E
 ·have D:(xs.set i y)[p]'hp=xs[p]:=by rw[List.getElem_set_ne (Ne.symm T)]
  rw[D,C (by
   rcases Nat.lt_or_gt_of_ne T with J | J
   ·left;have:(p+1)*ec<=i*ec:=VQ _ J;rw[WG,Nat.one_mul]at this;omega
   ·right;have:(i+1)*ec<=p*ec:=VQ _ J
    rw[WG,Nat.one_mul]at this;omega)]
  obtain⟨z,E,A⟩:=hc p R j hj;exact⟨z,E,Cell.rep_mono U _ _ A⟩
theorem T9{x y:Operand}{k:Nat}{α:Type}{ec J:Nat}{c:α->Nat->Cell}{xs ys:List α}{t e:TypeId}{s:SV}[ht:TySl P t e ec J](hx:opv fr x=some (.s (.one (.mut k))))(hk:C5 ob k=some (.grow e α ec c xs))
  (hy:opv fr y=some s) (hl:IsList s α ec c ys) (N:xs.length+ys.length<=1073741824) (hp:Nat.blt k 1000000=true) :
  EffV P ⟨dst,.call ⟨.builtin .append,#[x,y],#[t,t]⟩,ty,pos,af,gd⟩ fr ob (.s (.one (.mut k))) (Fr.forget k fr) ((k,.grow e α ec c (xs++ys))::Obs.forget k ob):=by
 intro S G a w h;have ak:=ht.out.2.2.1;obtain⟨ae,_⟩:=F9 h hx;have ac:=u6 h hy hl;obtain⟨ad,Z,vs,ag,H,am,V,O,ah,R⟩:=l8 ac;obtain⟨ws,q,_,ai⟩:=h.obs k _ hk;obtain⟨v',w',T,D,f,C,Y⟩:=aI (P:=P) (ty:=ty) S.B ht q h.size (u:=a.eval y) (ad:=ad) (m:=ys.length) (c:=Z) (news:=vs) ag H.2 H.1 V
  (fun b o hb j z hz=>by
   rcases R with h0 | ⟨b',o',A,Q⟩
   ·have W:vs=[]:=List.eq_nil_of_length_eq_zero (by rw[V,h0];simp);rw[W]at hz;simp at hz
   ·rw[hb]at A;injection A with A;injection A with e1 e2;subst e1;subst e2
    exact (Q j z hz).1)
  (R.imp id fun ⟨b',o',A,_⟩=>⟨b',o',A⟩) O N
 have M:(G k).ownBlock=blk (G k):=b9 (W6 q);have K:∀b i z,E4 (Mut S ob G) w b i z->w'.cell? ⟨b,i,none⟩=some z:=by
  intro b i z Q;have E:b<w.heap.size:=World.block_lt_of_cell? w _ Q.1;by_cases hb:blk (G k)=some b
  ·exact absurd (Or.inr ⟨k,_,hk,hb,trivial⟩) Q.2
  ·rw[World.cell?_of_block (w:=w) (a:=⟨b,i,none⟩) (f.block b E (by rw[M];exact fun e=>hb e.symm))];exact Q.1
 have U:=h.turn (o':=.grow e α ec c (xs++ys)) (u':=v') (by simpa using hp) hk f.os f.tape f.output f.size (fun j X hb=>f.block j X (by rw[M];exact fun e=>hb e.symm)) K C
  (by
   intro b i hb ho;rcases C b ho.1 with h1 | h1
   ·exact⟨h1,trivial⟩
   ·omega)
  (fun rd I G' aj=>by
   refine⟨_,by rw[VF];exact D,by rw[VF];omega,?_⟩;intro i hi j X;by_cases E:i<xs.length
   ·obtain⟨z,F,L⟩:=ai i E j X;refine⟨z,?_,?_⟩
    ·rw[VP (List.getElem?_eq_some_iff.1 F).1];exact F
    ·rw[WS E];exact Cell.rep_mono I _ _ L
   ·have ab:i-xs.length<ys.length:=by simp at hi;omega
    obtain⟨z,F,L⟩:=ah (i-xs.length) ab j X;refine⟨z,?_,?_⟩
    ·have al:xs.length*ec<=i*ec:=VQ _ (by omega);rw[VO (by rw[q.1];omega),q.1];have:i*ec+j-xs.length*ec=(i-xs.length)*ec+j:=by rw[Nat.sub_mul];omega
     rw[this];exact F
    ·rw[WQ (by omega)];exact Cell.rep_mono I _ _ L)
 exact G3 (w':=w') (v:=v') (by simp[execOp,resolve,invoke,builtin,ae,T]) ⟨upd G k v',U,(G6 _ _ _).symm,dW D⟩
end
def tn(T j:Nat)(o:Oper):Bool:=Nat.beq j T||turns o.op
theorem Q1{b:Array Bool}{i:Nat}(e:i∈Region.ready .any ops b):b.getD i false=false:=by
 have c:=(mem_ready.1 e).1;simp only[Array.getD_eq_getD_getElem?]at c ⊢;rcases Nat.lt_or_ge i b.size with d | d
 ·rw[Array.getElem?_eq_getElem d]at c ⊢;simpa using c
 ·rw[Array.getElem?_eq_none d]at c;simp at c
def xH:Nat->Nat->Array Bool->Array Bool
 | 0,_,listed=>listed
 | n+1,k,listed=>xH n (k+1) (listed.setIfInBounds k true)
def uR(ops:Array Oper)(T:Nat):Nat->Nat->Array Bool->Bool
 | 0,_,_=>true
 | fuel+1,k,listed =>
  (match ops[k]? with
   | some o=>(Region.ready .any ops listed).contains k&&!(tn T k o) &&
    ((List.range ops.size).all fun j=>Nat.beq j k||listed.getD j true||match ops[j]? with
     | some b=>cond (tn T j b) (Bef ops j k) (b.after.toList.any (fun e=>Region.binds .any e&&Nat.beq e.on k)||aK ops o b)
     | none=>true)
   | none=>false)&&uR ops T fuel (k+1) (listed.setIfInBounds k true)
theorem oR{o:Oper}{a:Act}{w:World}{R R':Value->World->Prop}(h:Does P o a w R)(b:∀v w',R v w'->R' v w'):Does P o a w R':=by
 unfold Does at h ⊢;generalize (execOp a.eval o).run P w=r at *;cases r with
 | ok n w' =>
  cases n<;>simp only at h ⊢<;>try exact h.elim
  case value v=>exact b _ _ h
  case skip=>exact b _ _ h
  case enter f args=>exact h.mono fun e g ⟨v,c,d⟩=>⟨v,c,b _ _ d⟩
 | halt x w'=>exact h
theorem IT{f:FuncId}{m:List Operand}{F:Array TypeId}{ty:TypeId}{pos:String}{af:Array Edge}{args:List S1}{L:List Nat}{j:List S1->Obs->Prop}{fr:Fr}{ob:Obs}{d:Nat}{K:Fa->Obs->Prop}
  (O:Met P f args (fH fr) ob L j) (ha:gG fr m=some args) (T:m.all G7=true) (U:Nat.blt d nt=true)
  (kk:∀rs ob',j rs ob'->K (E0 ((d,xF rs)::C9 L fr)) ob'):oO P nt ops ⟨some d,.call ⟨.value (.func f),m.toArray,F⟩,ty,pos,af,none⟩ (E0 fr) ob K:=by
 refine⟨rfl,fun S G a w X Q=>?_⟩;have h:=RL.1 Q;have D:=j4 h m args ha T;obtain⟨E,H⟩:∃E:Nat->Value,E=fun i=>S.sl a (i-1000000):=⟨_,rfl⟩
 let S':Ctx:={ S with gv:=E }
 have B:High (fH fr):=fun i s I=>(c5 fr i s I).1;have b:∀i s,E0 (fH fr) i=some s->s.rep (E4 (Mut S' ob G) w) G (S'.sl a i):=by
  intro i s I;obtain⟨z,M⟩:=c5 fr i s I;rw[Ctx.sl_ge z];show s.rep _ _ (E i);have e:=congrFun H i;rw[e];exact h.facts (i-1000000) s M
 have Z:Sim P S' (fH fr) ob G a w:={ h with facts:=b }
 have p:=O.2 B S' G a w _ Z D;refine oR (R:=fun v w'=>∃rs ob' G',j rs ob'/\X3 (E4 (Mut S' ob' G') w') G' rs v/\Sim P S' (C9 L (fH fr)) ob' G' a w') ?_ ?_
 ·have V:(execOp a.eval ⟨some d,.call ⟨.value (.func f),m.toArray,F⟩,ty,pos,af,none⟩).run P w=.ok (.enter f (m.map a.eval).toArray) w:=by
   have:=N8 (P:=P) (f:=f) (args:=(m.map a.eval).toArray) (w:=w) O.1;have W:m.toArray.map a.eval=(m.map a.eval).toArray:=by simp
   simp only[execOp,resolve,Act.eval,Deferred.ofValue,Sem.run_bind,Sem.run_pure,Result.andThen_ok,invoke];rw[show (#[]:Array Value)++Array.map a.eval m.toArray++#[]=(m.map a.eval).toArray by rw[<-W];simp];exact this
  unfold Does;rw[V];refine p.mono ?_;rintro e w' ⟨v,rs,ob',G',rfl,C,g,x⟩;exact⟨v,rfl,rs,ob',G',C,g,x⟩
 ·rintro v w' ⟨rs,ob',G',Y,g,x⟩;have N:d<S.nt:=by rw[X];simpa using U
  have q:∀i s,E0 (C9 L fr) i=some s->s.rep (E4 (Mut S ob' G') w') G' (S.sl a i):=by
   intro i s I;have z:=x.facts (i+1000000) s (by rw[m6];exact nW I);have M:1000000<=i+1000000:=Nat.le_add_left _ _;rw[Ctx.sl_ge M]at z;have z:s.rep (E4 (Mut S ob' G') w') G' (E (i+1000000)):=z;have e:=congrFun H (i+1000000);simp only[Nat.add_sub_cancel]at e;rw[e]at z;exact z
  have J:Sim P S (C9 L fr) ob' G' a w':={ x with facts:=q }
  exact⟨_,ob',G',kk rs ob' Y,RL.2 (J.put N g)⟩
theorem TC.forget_idem(k:Nat)(t:TC):(t.forget k).forget k=t.forget k:=by
 cases t with
 | p c=>rfl
 | buf a α b c j=>cases hb:Nat.beq a k<;>simp[TC.forget,hb]
 | ref a o=>cases hb:Nat.beq a k<;>simp[TC.forget,hb]
 | eref α b c x o=>rfl
 | «mut» a=>cases hb:Nat.beq a k<;>simp[TC.forget,hb]
 | mref a b i o=>cases hb:Nat.beq a k<;>simp[TC.forget,hb]
 | any=>rfl
 | clo f h d=>cases hb:(fV k h||fV k d)<;>simp only[TC.forget,hb,cond]
 | full α b c j=>rfl
 | msl a b o n=>cases hb:Nat.beq a k<;>simp[TC.forget,hb]
 | ifc t a o=>cases hb:Nat.beq a k<;>simp[TC.forget,hb]
 | fnc f l=>rfl
 | fncE f α b c x=>rfl
theorem S1.forget_idem(k:Nat)(s:S1):(s.forget k).forget k=s.forget k:=by
 cases s<;>simp[S1.forget,TC.forget_idem]
theorem SV.forget_idem(k:Nat)(s:SV):(s.forget k).forget k=s.forget k:=by
 cases s<;>simp[SV.forget,S1.forget_idem]
theorem Ob.forget_idem(k:Nat)(o:Ob):(o.forget k).forget k=o.forget k:=by
 cases o<;>simp[Ob.forget,TC.forget_idem]
theorem Fr.forget_idem(k:Nat)(fr:Fr):Fr.forget k (Fr.forget k fr)=Fr.forget k fr:=by
 simp[Fr.forget,Function.comp_def,SV.forget_idem]
theorem Obs.forget_idem(k:Nat)(ob:Obs):Obs.forget k (Obs.forget k ob)=Obs.forget k ob:=by
 simp[Obs.forget,Function.comp_def,Ob.forget_idem]
theorem W8{b:Rd}{G:Gh}:∀{a:List Cell} {c:List Value},All2 (TC.rep b G) (a.map .p) c->All2 (Cell.rep b) a c
 | [],[],_=>trivial
 | [],_::_,h=>h.elim
 | _::_,[],h=>h.elim
 | _::_,_::_,h=>⟨h.1,W8 h.2⟩
theorem xI{k:Nat}(h:High gf):High (Fr.forget k gf):=fun i s a=>by
 rw[N0]at a;cases b:E0 gf i with
 | none=>rw[b]at a;cases a
 | some c=>exact h i c b
theorem Sees.forget(k:Nat):Sees P nt fr ob (Fr.forget k fr) (Obs.forget k ob):=by
 intro S G a w L h;have d:∀j m,C5 (Obs.forget k ob) j=some m->∃p,C5 ob j=some p/\m=p.forget k:=by
  intro j m c;rw[J8]at c;cases q:C5 ob j with
  | none=>rw[q]at c;cases c
  | some p=>rw[q]at c;cases c;exact⟨p,rfl,rfl⟩
 have y:∀b i z,E4 (Mut S ob G) w b i z->E4 (Mut S (Obs.forget k ob) G) w b i z:=by
  intro b i z E;refine⟨E.1,fun D=>E.2 ?_⟩;rcases D with D | ⟨j,m,c,hb⟩
  ·exact .inl D
  ·obtain⟨p,u,rfl⟩:=d j m c;exact .inr ⟨j,p,u,OP.1 hb⟩
 refine⟨G,{ h with old:=?_,dis:=?_,obs:=?_,facts:=?_ }⟩
 ·intro j m b c hb;obtain⟨p,u,_⟩:=d j m c;exact h.old j p b u hb
 ·intro k1 k2 m I b F H B C;obtain⟨J,ha,_⟩:=d k1 m F;obtain⟨ob',A,_⟩:=d k2 I H;exact h.dis k1 k2 J ob' b ha A B C
 ·intro j m c;obtain⟨p,u,rfl⟩:=d j m c;exact ((h.obs j p u).ext y (Below.refl _ _)).forget (fun _ _=>rfl)
 ·intro i s v;rw[N0]at v;cases q:E0 fr i with
  | none=>rw[q]at v;cases v
  | some K =>
   rw[q]at v;cases v;exact SV.rep_forget (fun _ _=>rfl) (SV.rep_mono y (h.facts i K q))
theorem Met.introH{f:FuncId}{fn:Func}{c:Code}{a:List S1}{ks:List Nat}{d:List S1->Obs->Prop}(i:P.funcs[f]?=some fn)(b:(fn.name == "runtime.NumGoroutine")=false)(hb:fn.body=some c)(g:Nat.ble a.length fn.ntmps=true)(h:Nat.ble fn.ntmps 1000000=true)
  (j:High gf->WpC P fn.ntmps c (j3 0 a++gf) ob (MJ P fn ks gf d)):Met P f a gf ob ks d :=
 ⟨⟨fn,i,b,by simp[hb]⟩,fun e=>(Met.intro i b hb g h (j e)).2 e⟩
theorem UF{l:Fr}{gf':Fr}{ob':Obs}(j:FrLe fr l)(g:High gf')(n:Tail gf' fr)(m:∀k o,C5 ob' k=some o->C5 ob k=some o):Sees P nt fr ob (l++gf') ob':=by
 intro S G a w r h;have c:∀i s,E0 (l++gf') i=some s->s.rep (E4 (Mut S ob G) w) G (S.sl a i):=by
  intro i s b;rw[l9]at b;cases d:E0 l i with
  | some q =>
   rw[d]at b;have b:some q=some s:=b;cases b;obtain⟨s1,e,f⟩:=j.spec i _ d;exact f.rep (h.facts i s1 e)
  | none =>
   rw[d]at b;have b:E0 gf' i=some s:=b;exact h.facts i s (n i s (g i s b) b)
 have p:Sim P S (l++gf') ob G a w:={ h with facts:=c }
 exact⟨G,p.weakenO m⟩
def IU(nt:Nat)(l:List Oper)(n:Nat):Bool :=
 let ops:=l.toArray;let L:=xH n 0 (Array.replicate l.length false)
 uR ops n n 0 (Array.replicate l.length false)&&IQ nt ops&&Nat.ble (n+1) l.length&&Nat.beq (l.take n).length n &&
  ((Region.ready .any ops L).all fun j=>Nat.beq j n)&&(Region.ready .any ops L).contains n&&(L.setIfInBounds n true).getD n false&&sK ops (l.drop (n+1)).length (n+1) (L.setIfInBounds n true)
theorem V4(k:Nat)(h:Tail (Fr.forget k gf) fr):Tail (Fr.forget k gf) (Fr.forget k fr):=by
 have:=E1 k h
 rwa[Fr.forget_idem]at this
def oS(k:Nat)(φ:Fa):Prop:=∀i s,φ i=some s->s.free k=true
theorem xJ{k:Nat}:∀{fr:Fr},H4 k fr=true->oS k (E0 fr)
 | [],_,i,s,hi=>by simp[E0]at hi
 | (j,x)::r,h,i,s,hi=>by
  simp only[H4,VB]at h;by_cases a:j=i
  ·subst a;rw[D7]at hi;cases hi;exact h.1
  ·rw[C6 a]at hi;exact xJ h.2 i s hi
theorem BD{k:Nat}{e:TypeId}{z:Value}[hz:TyZero P e z]{ty:TypeId}{pos:String}{af:Array Edge}{m:Nat}{φ:Fa}{ob:Obs}(L:oS k φ)(F:M1 k ob=true)(K:Nat.blt m nt=true) :
  oO P nt ops ⟨some m,.alloc e,ty,pos,af,none⟩ φ ob (fun Q ob'=>Q=V8 φ m (.s (.one (.ref k 0)))/\ob'=(k,.box (z.cells.toList.map fun c=>.p (.v c)))::ob):=by
 refine⟨rfl,fun S G a w M D=>?_⟩;obtain⟨H,I,N⟩:=R5 F;have u:m<S.nt:=by rw[M];simpa using K
 refine G3 (w':=w.alloc (.cells z.cells e)) (v:=.pointer (some ⟨w.heap.size,0,none⟩)) ?_ ?_
 ·simp[execOp,Instr.alloc,newVar,newRow,J4 hz.out.1]
 ·have y:Below w.heap.size w (w.alloc (.cells z.cells e)):=(Below.refl _ _).alloc (Nat.le_refl _) _;have O:∀b,blk (.pointer (some ⟨w.heap.size,0,none⟩))=some b->w.heap.size<=b:=by intro b hb;simp[blk]at hb;omega
  have g:∀fr:Fr,Sim P S fr ob G a w->Sim P S (Fr.forget k fr) ((k,.box (z.cells.toList.map fun c=>.p (.v c)))::ob) (upd G k (.pointer (some ⟨w.heap.size,0,none⟩))) a (w.alloc (.cells z.cells e)):=by
   intro fr h;have A:=h.new (o:=.box (z.cells.toList.map fun c=>.p (.v c))) N I y O ⟨w.heap.size,z.cells.toList,e,rfl,by rw[Array.toArray_toList];exact heap_alloc_new w _,T7 _ hz.out.2⟩;rw[H]at A;exact A
  have d:SimF P S φ ((k,.box (z.cells.toList.map fun c=>.p (.v c)))::ob) (upd G k (.pointer (some ⟨w.heap.size,0,none⟩))) a (w.alloc (.cells z.cells e)):=by
   refine⟨g [] D.1,fun i s C=>?_⟩;have E:Sim P S [(i,s)] ob G a w:=D.sub fun j t q=>by
    by_cases B:i=j
    ·subst B;rw[D7]at q;cases q;exact C
    ·rw[C6 B]at q;simp[E0]at q
   have J:=(g _ E).facts i s (by rw[N0,D7];simp[SV.forget_free (L i s C)]);exact J
  exact⟨_,_,_,⟨rfl,rfl⟩,d.put u ⟨w.heap.size,G6 _ _ _,rfl⟩⟩
def AnyB(P:Program)(nt:Nat)(ops:Array Oper)(T b k:Nat)(r:SV)(c:Nat×Ob)(ob:Obs)(E:Array Bool->Fa->Prop):Nat->Array Bool->Fa->Prop
 | 0,listed,φ=>oS k φ/\(∀j∈Region.ready .any ops listed,j=T)/\E listed φ
 | fuel+1,listed,φ=>oS k φ/\(∃p,p<T/\p∈Region.ready .any ops listed)/\∀i∈Region.ready .any ops listed,i≠T ->
   ∃o s d,ops[i]?=some o/\o.dst=some d/\turns o.op=false/\b≠d/\YieldsN P nt ops o φ ob s/\YieldsN P nt ops o (V8 φ b r) (c::ob) s/\AnyB P nt ops T b k r c ob E fuel (listed.setIfInBounds i true) (V8 φ d s)
theorem AnyB.free{T c k:Nat}{r:SV}{d:Nat×Ob}{ob:Obs}{E:Array Bool->Fa->Prop}{b:Nat}{a:Array Bool}{φ:Fa}(h:AnyB P nt ops T c k r d ob E b a φ):oS k φ:=by
 cases b<;>exact h.1
def LexB(P:Program)(nt:Nat)(ops:Array Oper)(a k:Nat)(r:SV)(b:Nat×Ob)(ob:Obs)(E:Fr->Prop):List Oper->Fr->Prop
 | [],fr=>H4 k fr=true/\E fr
 | o::l,fr=>∃s d,o.dst=some d/\YieldsN P nt ops o (E0 fr) ob s/\YieldsN P nt ops o (E0 ((a,r)::fr)) (b::ob) s/\LexB P nt ops a k r b ob E l ((d,s)::fr)
theorem LexB.free{a k:Nat}{r:SV}{b:Nat×Ob}{ob:Obs}{E:Fr->Prop}:∀{l:List Oper} {fr:Fr},LexB P nt ops a k r b ob E l fr->H4 k fr=true
 | [],fr,h=>h.1
 | o::l,fr,⟨s,d,_,_,_,h⟩=>by
  have:=h.free;simp only[H4,VB]at this;exact this.2
theorem UY(α:Type)(n:Nat)(c:α->Nat->Cell)(t o:Nat){m:List TC}(r:E0 fr t=some (.s (.agg m)))(j:m[o]?=some (.p (.v (.slice none 0 0)))):Sees P nt fr ob ((t,.s (.agg (m.set o (.p (.list α n c [])))))::fr) ob:=by
 intro S G a w A h;refine⟨G,{ h with facts:=fun i s f=>?_ }⟩;by_cases b:t=i
 ·subst b;rw[D7]at f;cases f;have q:=h.facts t _ r;obtain⟨y,u,ha⟩:=q;refine⟨y,u,UK o (fun z x=>?_) ha⟩;obtain⟨B,d,k⟩:=ha.get o _ j;rw[x]at d;cases d;rw[k.1];exact J2 α n c
 ·rw[C6 b]at f;exact h.facts i s f
variable {next:Fr->Obs->Prop}{id id':Nat}
theorem k1(h:next fr ob):aZ next Q .normal fr ob:=h
theorem k2{x y:Code}(h:WpC P nt x fr ob (aZ (fun fr ob=>WpC P nt y fr ob Q) Q)):WpC P nt (.seq x y) fr ob Q:=NY h
theorem k3{c:Code}(h:WpC P nt c fr ob (T5 id Q)):WpC P nt (.block id c) fr ob Q:=MD h
theorem k4(h:Q .normal fr ob):T5 id Q .normal fr ob:=h
theorem k5(h:Q .normal fr ob):WpC P nt .skip fr ob Q:=OM h
theorem k6(h:Q (.exit id) fr ob):WpC P nt (.exit id) fr ob Q:=ON h
theorem k7(h:Q (.exit id) fr ob):aZ next Q (.exit id) fr ob:=h
theorem k8(hb:Nat.beq id' id=true)(h:Q .normal fr ob):T5 id Q (.exit id') fr ob:=IP hb h
theorem k9(hb:Nat.beq id' id=false)(h:Q (.exit id') fr ob):T5 id Q (.exit id') fr ob:=FM hb h
theorem I8(h:Q .ret fr ob):WpC P nt .ret fr ob Q:=RH h
theorem M6(h:Q .ret fr ob):aZ next Q .ret fr ob:=h
theorem X4(h:Q .ret fr ob):T5 id Q .ret fr ob:=h
theorem B1{fr:Fr}{i:Nat}{s:SV}(h:E0 fr i=some s):∃b,E0 fr i=some b/\SvLe b s:=⟨_,h,.same _⟩
theorem UA{fr:Fr}{i:Nat}{s a:SV}(h:E0 fr i=some s)(e:s=a):∃b,E0 fr i=some b/\SvLe b a:=⟨_,h,.eq e⟩
attribute [irreducible] FnIo Met RetS
end Go.AL
