/- From contracts to statements; no project text. -/
import Derived.Test.YtgkjogphmmoakaaGreatDoorRows
import Derived.Test.YtgkjogphmmoakaaGreatDoorAm
import Derived.ProofKit
import Derived.OpenShut
import Derived.JoinedCond
import Derived.Below
import Derived.DataShut
import Derived.ChangeSame
import Derived.Deep.DeepHandedRow
import Derived.Deep.DeepLaidRun
import Derived.Lib.LaidU8
import Derived.Lib.TrailingZeros
set_option linter.all false
namespace Go.Proofs.YtgkjogphmmoakaaGreatDoor
open Go Go.AL Go.ChangeShapes Go.WideShapes Go.RowKit
abbrev rd0(W:World):Rd:=D9 (fun _ _=>False) W
theorem rd0_mk{W:World}{b i:Nat}{z:Value}(h:W.cell? ⟨b,i,none⟩=some z):rd0 W b i z:=⟨h,fun f=>f⟩
structure Reads (P:Program) (t:TypeId) (α:Type) (ec:Nat) (c:α->Nat->Cell) (good:α->Prop) (m:α->Nat):Prop where
 cells:P.cellsOf t=ec
 read:∀{H:Type} {enc:TypeId×Value->H} {W:World} {fuel:Nat} {cs:List Value} {x:DataW H×List MemPlace},DataW.trod enc P W 0 (fun _=>true) true fuel t cs=some x->Rows.uptoBulk x.1<=1048576 ->
  cs.length=ec/\∃a,good a/\m a<=Rows.uptoBulk x.1/\∀j,j<ec->∃z,cs[j]?=some z/\(c a j).rep (rd0 W) z
 again:∀{H:Type} {enc:TypeId×Value->H} {W:World} {fuel:Nat} {cs:List Value} {x:DataW H×List MemPlace} {sp:Nat->Bool},DataW.trod enc P W 0 (fun _=>true) true fuel t cs=some x->(∀p∈x.2,sp p.block=true) ->
  DataW.trod enc P W 0 sp true fuel t cs=some x
theorem B11{H:Type}{d:DataW H}{l:List (DataW H)}(h:d∈l):Rows.uptoBulk d<=Rows.uptoBulkAll l:=by
 induction l with
 | nil=>cases h
 | cons x r a =>
  simp only[Rows.uptoBulkAll];cases C36.1 h with
  | inl e=>subst e;omega
  | inr e=>have:=a e;omega
section
variable {P:Program}
theorem wP{t:TypeId}{k:IntKind}(b:P.underlying t=some (.int k))(d:P.cellsOf t=1):Reads P t Int 1 (fun n _=>.v (.int k n)) (fun n=>(Lit.int k n).wf=true) (fun _=>1) where
 cells:=d
 read:=fun h _=>by
  obtain⟨n,rfl,rfl,c⟩:=DataW.trod_int b h;exact⟨rfl,n,c,by simp[Rows.uptoBulk],fun j l=>by (have e:j=0:=by omega);subst e;exact⟨_,rfl,rfl,rfl⟩⟩
 again:=fun {H enc W a g x m} h _=>by
  obtain⟨n,rfl,rfl,c⟩:=DataW.trod_int b h;cases a with
  | zero=>simp[DataW.trod]at h
  | succ n=>simpa[DataW.trod,b] using h
theorem uR{β:Type}{R:Nat->β->Prop}:∀(n:Nat),(∀j,j<n->∃z,R j z)->∃b:List β,b.length=n/\∀j z,b[j]?=some z->R j z
 | 0,_=>⟨[],rfl,by simp⟩
 | n+1,h=>by
  obtain⟨b,e,f⟩:=uR n (fun j i=>h j (by omega));obtain⟨z,m⟩:=h n (by omega);refine⟨b++[z],by simp[e],fun j y a=>?_⟩;by_cases i:j<n
  ·exact f j y (by rwa[C46 (by omega)]at a)
  ·rw[C52 (by omega)]at a;have g:j-b.length=0:=by
    cases l:j-b.length with
    | zero=>rfl
    | succ k=>rw[l]at a;simp at a
   rw[g]at a;have c:z=y:=by simpa using a
   have d:j=n:=by omega
   rw[d,<-c];exact m
theorem XZ{H:Type}{α:Type}{m:α->Nat}:∀{xs:List α} {ys:List (DataW H×List MemPlace)},xs.length=ys.length->(∀(i:Nat) a y,xs[i]?=some a->ys[i]?=some y->m a<=Rows.uptoBulk y.1)->(xs.map m).sum<=Rows.uptoBulkAll (ys.map (·.1))
 | [],[],_,_=>by simp[Rows.uptoBulkAll]
 | [],_::_,h,_=>by simp at h
 | _::_,[],h,_=>by simp at h
 | a::xs,y::ys,h,hm=>by
  have f:=hm 0 a y rfl rfl;have g:=XZ (xs:=xs) (ys:=ys) (by simpa using h) (fun i b e c d=>hm (i+1) b e c d);simp only[C39,C67,Rows.uptoBulkAll];omega
theorem TO{a:Addr}(h:a.spot=none)(i:Nat):a.add i=⟨a.block,a.off+i,none⟩:=by
 obtain⟨b,o,s⟩:=a;simp only at h;subst h;unfold Addr.add;split
 ·rename_i c;subst c;rfl
 ·rfl
theorem NP{W:World}{a:Addr}{v:Value}(h:W.cell? a=some v):a.spot=none:=by
 unfold World.cell? at h;split at h
 ·split at h
  ·cases h
  ·rename_i hs;cases b:a.spot with
   | none=>rfl
   | some _=>simp[b]at hs
 ·cases h
theorem TP{t e:TypeId}{α:Type}{J:Nat}{c:α->Nat->Cell}{good:α->Prop}{m:α->Nat}(R:Reads P e α J c good m)(O:0<J)(S:P.underlying t=some (.slice e))(hc:P.cellsOf t=1) :
  Reads P t (List α) 1 (fun l _=>.list α J c l) (fun l=>∀a∈l,good a) (fun l=>1+(l.map m).sum) where
 cells:=hc
 read := fun {H enc W E cs x} h hB=>by
  rcases DataW.trod_slice S h with ⟨rfl,rfl⟩ | ⟨a,len,cap,elems,rest,n,rfl,rfl,rfl,hb,hl,hm,hlen,hel,hsp,hns⟩
  ·exact⟨rfl,[],by simp,by simp[Rows.uptoBulk],fun j K=>by (have e:j=0:=by omega);subst e;exact⟨_,rfl,F0 _ _ _⟩⟩
  ·have ae:Rows.uptoBulkAll (elems.map (·.1))+Rows.uptoBulkAll (rest.map (·.1))+1<=1048576:=hB;have F:∀i,i<len->∃(g:List Value) (y:DataW H×List MemPlace),elems[i]?=some y/\W.cells? 0 (a.add (i*P.cellsOf e)) (P.cellsOf e)=some g/\DataW.trod enc P W 0 (fun _=>true) true n e g=some y:=by
    intro i f;have w:=hel i f;have q:elems[i]?=some (elems[i]'(by omega)):=C29 (by omega);rw[q]at w;obtain⟨g,A,B⟩:=Option.bind_eq_some_iff.1 w;exact⟨g,_,q,A,B⟩
   have hR:∀i,i<len->∃v:α,∃(y:DataW H×List MemPlace),elems[i]?=some y/\good v/\m v<=Rows.uptoBulk y.1/\1<=Rows.uptoBulk y.1/\∀j,j<J->∃z,W.cell? ((a.add (i*J)).add j)=some z/\(c v j).rep (rd0 W) z:=by
    intro i f;obtain⟨g,y,q,A,B⟩:=F i f;have ah:=B11 (d:=y.1) (l:=elems.map (·.1)) (C54.2 ⟨y,C53 q,rfl⟩);obtain⟨Q,v,hg,X,hz⟩:=R.read B (by omega);obtain⟨_,h5,h6⟩:=World.cells?_some A;refine⟨v,y,q,hg,X,?_,fun j K=>?_⟩
    ·cases y.1 with
     | lit l=>cases l<;>simp[Rows.uptoBulk]
     | _=>simp[Rows.uptoBulk]
    ·obtain⟨z,ac,ad⟩:=hz j K;rw[R.cells]at h6;exact⟨z,by rw[h6 j K];exact ac,ad⟩
   obtain⟨xs,ab,D⟩:=uR len hR;have ag:(xs.map m).sum<=Rows.uptoBulkAll (elems.map (·.1)):=by
    refine XZ (by omega) fun i v y w A=>?_;obtain⟨y',B,_,Q,_⟩:=D i v w;rw[A]at B;cases B;exact Q
   have af:elems.length<=Rows.uptoBulkAll (elems.map (·.1)):=by
    have:((List.range len).map fun _=>1).sum<=Rows.uptoBulkAll (elems.map (·.1)):=by
     refine XZ (m:=fun _=>1) (xs:=List.range len) (by simp[hlen]) fun i v y w A=>?_;have f:i<len:=by have:=(List.getElem?_eq_some_iff.1 w).1;simpa using this
     obtain⟨y',B,_,_,Q,_⟩:=(hR i f).choose_spec;rw[A]at B;cases B;exact Q
    have e:((List.range len).map fun _=>1).sum=len:=by rw[List.map_const',C72,List.sum_replicate_nat];omega
    omega
   refine⟨rfl,xs,fun v hv=>?_,?_,fun j K=>?_⟩
   ·obtain⟨i,f,rfl⟩:=List.mem_iff_getElem.1 hv;obtain⟨_,_,w,_⟩:=D i _ (C29 f);exact w
   ·show 1+_<=Rows.uptoBulkAll (elems.map (·.1))+Rows.uptoBulkAll (rest.map (·.1))+1;omega
   ·obtain rfl:j=0:=by omega
    refine⟨_,rfl,?_⟩;show SliceAt (rd0 W) J xs.length (fun i j z=>∃h:i<xs.length,(c xs[i] j).rep (rd0 W) z) _;refine⟨some a,cap,by rw[ab],⟨by omega,by simp⟩,by omega,?_⟩;by_cases h0:xs.length=0
    ·exact .inl h0
    ·right;have C:a.spot=none:=by
      obtain⟨_,_,_,_,_,w⟩:=D 0 xs[0] (C29 (by omega));obtain⟨z,A,_⟩:=w 0 O;have:=NP A;simpa[Addr.add] using this
     refine⟨a.block,a.off,?_,fun i f j K=>?_⟩
     ·cases a;simp only at C;subst C;rfl
     ·obtain⟨_,_,_,_,_,w⟩:=D i xs[i] (C29 f);obtain⟨z,A,B⟩:=w j K;rw[TO C,TO rfl]at A;exact⟨z,rd0_mk A,f,B⟩
 again:=fun {H enc W E cs x L} h hs=>by
  rcases DataW.trod_slice S h with ⟨rfl,rfl⟩ | ⟨a,len,cap,elems,rest,n,rfl,rfl,rfl,hb,hl,hm,hlen,hel,hsp,hns⟩
  ·cases E with
   | zero=>simp[DataW.trod]at h
   | succ n=>simp[DataW.trod,S]
  ·obtain⟨Y,G⟩:=hsp rfl;have V:∀y∈elems++rest,∀p∈y.2,L p.block=true:=fun y q p hp=>hs p (List.mem_append_right _ (List.mem_flatMap.2 ⟨y,q,hp⟩));have step:∀(k:Nat) (y:DataW H×List MemPlace),y∈elems++rest->(W.cells? 0 (a.add (k*P.cellsOf e)) (P.cellsOf e)).bind (DataW.trod enc P W 0 (fun _=>true) true n e)=some y->(W.cells? 0 (a.add (k*P.cellsOf e)) (P.cellsOf e)).bind (DataW.trod enc P W 0 L true n e)=some y:=by
    intro k y q w;obtain⟨g,A,B⟩:=Option.bind_eq_some_iff.1 w;exact Option.bind_eq_some_iff.2 ⟨g,A,R.again B (V y q)⟩
   have T:(List.range len).mapM (fun i=>(W.cells? 0 (a.add (i*P.cellsOf e)) (P.cellsOf e)).bind (DataW.trod enc P W 0 L true n e))=some elems:=by
    refine mapM_some_of_get _ _ (by simp[hlen]) fun i x I=>?_;have f:i<len:=by have:=(List.getElem?_eq_some_iff.1 I).1;simpa using this
    obtain rfl:i=x:=by rw[C79 f]at I;exact Option.some.inj I
    have q:elems[i]?=some (elems[i]'(by omega)):=C29 (by omega);rw[q];exact step i _ (by simp) (by rw[hel i f,q])
   have U:(if L a.block=true then (List.range (cap-len)).mapM (fun j=>(W.cells? 0 (a.add ((len+j)*P.cellsOf e)) (P.cellsOf e)).bind (DataW.trod enc P W 0 L true n e)) else some [])=some rest:=by
    by_cases N:cap-len=0
    ·have:rest=[]:=List.eq_nil_of_length_eq_zero (by omega);rw[this,N];split<;>rfl
    ·have Z:L a.block=true:=by
      refine hs (.cell a.block (a.off+0)) (List.mem_append_left _ (C54.2 ⟨0,C40.2 ?_,rfl⟩));have:0<elems.length+rest.length:=by omega
      rw[R.cells];exact Nat.mul_pos this O
     rw[A5 Z];refine mapM_some_of_get _ _ (by simp[Y]) fun i x I=>?_;have f:i<cap-len:=by have:=(List.getElem?_eq_some_iff.1 I).1;simpa using this
     obtain rfl:i=x:=by rw[C79 f]at I;exact Option.some.inj I
     have q:rest[i]?=some (rest[i]'(by omega)):=C29 (by omega);rw[q];exact step (len+i) _ (by simp) (by rw[G i f,q])
   unfold DataW.trod;rw[S];simp only;rw[A5 ⟨hb,hl,hm⟩,T,Option.bind_some,U];rfl
section
variable {H:Type}{enc:TypeId×Value->H}{W:World}{r:Reach}{b0:Nat}{t:TypeId}{v:Value}{d:DataW H}{ps:List MemPlace}
def A04(P:Program)(W:World)(enc:TypeId×Value->H)(t:TypeId)(v:Value)(d:DataW H)(ps:List MemPlace)(p:PV):Prop :=
 p.rep (rd0 W) v/\∀a:Nat->Bool,(∀p∈ps,a p.block=true)->DataW.Trod enc P W 0 a true t v d ps
theorem A05{α:Type}{c:α->Nat->Cell}{good:α->Prop}{m:α->Nat}(R:Reads P t α 1 c good m)(f:v.cells=#[v])(h:DataW.Trod enc P W 0 (fun _=>true) true t v d ps)(k:Rows.uptoBulk d<=1048576) :
  ∃a,good a/\m a<=Rows.uptoBulk d/\A04 P W enc t v d ps (.one (c a 0)):=by
 obtain⟨b,h⟩:=h;obtain⟨_,a,l,p,q⟩:=R.read h k;obtain⟨z,g,i⟩:=q 0 (by omega);refine⟨a,l,p,?_,fun r j=>⟨b,R.again h j⟩⟩;rw[f]at g;have:v=z:=by simpa using g
 rw[<-this]at i;exact i
theorem B12{e:TypeId}{α:Type}{c:α->Nat->Cell}{good:α->Prop}{m:α->Nat}(R:Reads P t α 1 c good m)(g:P.underlying t=some (.slice e))(j:Value.okWide P W r b0 t v)(h:DataW.Trod enc P W 0 (fun _=>true) true t v d ps)(f:Rows.uptoBulk d<=1048576) :
  ∃a,good a/\m a<=Rows.uptoBulk d/\A04 P W enc t v d ps (.one (c a 0)):=by
 obtain⟨a,len,b,rfl⟩:=okWide_slice g j;exact A05 R rfl h f
theorem A06{k:IntKind}{α:Type}{c:α->Nat->Cell}{good:α->Prop}{m:α->Nat}(R:Reads P t α 1 c good m)(f:P.underlying t=some (.int k))(g:Value.okWide P W r b0 t v)(h:DataW.Trod enc P W 0 (fun _=>true) true t v d ps)(b:Rows.uptoBulk d<=1048576) :
  ∃a,good a/\m a<=Rows.uptoBulk d/\A04 P W enc t v d ps (.one (c a 0)):=by
 obtain⟨n,rfl⟩:=okWide_int f g;exact A05 R rfl h b
end
end
variable {H:Type}{enc:TypeId×Value->H}{P:Program}
theorem EZ{W W':World}{c:Nat->Bool}(hb:Below W.heap.size W W'):∀{ts:List TypeId} {vs:List Value} {ds:List (DataW H)} {ps:List MemPlace},DataW.TrodAll enc P W 0 c true ts vs ds ps->DataW.TrodAll enc P W' 0 c true ts vs ds ps
 | [],[],[],_,h=>h
 | t::ts,v::vs,d::ds,ps,h=>by
  obtain⟨p,q,⟨a,e⟩,f,g⟩:=h;have b:∀x∈p,x.block<W.heap.size:=by
   have:=DataW.TrodAll.lt (enc:=enc) (P:=P) (w:=W) (base:=0) (spare:=c) (held:=true) (ts:=[t]) (vs:=[v]) (ds:=[d]) (ps:=p) ⟨p,[],⟨a,e⟩,rfl,by simp⟩;exact this
  exact⟨p,q,⟨a,DataW.trod_carry _ _ _ _ e fun x i=>hb.same (b x i)⟩,EZ hb f,g⟩
theorem B13{P:Program}{W:World}(h:W.ShapedOpen P)(a:YA P W):Grd P (fun _=>False) W:=⟨W,⟨h,a⟩,Nat.le_refl _,fun _ _=>⟨rfl,id⟩⟩
def ArgsAre(P:Program)(W:World)(enc:TypeId×Value->H):List TypeId->List Value->List (DataW H)->List MemPlace->List PV->Prop
 | [],[],[],ps,[]=>ps=[]
 | t::ts,v::vs,d::ds,ps,p::pvs=>∃q r,A04 P W enc t v d q p/\ArgsAre P W enc ts vs ds r pvs/\ps=q++r
 | _,_,_,_,_=>False
theorem ArgsAre.rep{P:Program}{W:World}:∀{f:List TypeId} {b:List Value} {c:List (DataW H)} {ps:List MemPlace} {a:List PV},ArgsAre P W enc f b c ps a->All2 (PV.rep (rd0 W)) a b
 | [],[],[],_,[],_=>trivial
 | _::_,_::_,_::_,_,_::_,h=>by obtain⟨q,r,d,e,_⟩:=h;exact⟨d.1,e.rep⟩
theorem ArgsAre.trod{P:Program}{W:World}{c:Nat->Bool}:∀{e:List TypeId} {f:List Value} {d:List (DataW H)} {ps:List MemPlace} {b:List PV},ArgsAre P W enc e f d ps b->(∀p∈ps,c p.block=true)->DataW.TrodAll enc P W 0 c true e f d ps
 | [],[],[],_,[],h,_=>h
 | _::_,_::_,_::_,_,_::_,h,hs=>by
  obtain⟨q,r,g,i,rfl⟩:=h;exact⟨q,r,g.2 c (fun p a=>hs p (by simp[a])),i.trod (fun p a=>hs p (by simp[a])),rfl⟩
theorem B89{P:Program}{f:FuncId}{fn:Func}{s:ChangeSpec}{k C m again:Bool}{W:World}{c:Array Value}{x:List (DataW H)}{before p:List MemPlace}{pvs:List PV}{tb:TypeId}
  (R:W.ShapedOpen P) (V:YA P W) (E:s.vars=[]) (K:fn.resultTypes=#[tb]) (hb:P.underlying tb=some .bool)
  (N:DataW.Whole enc P fn.params.toList s.vars k W c.toList x [] before) (F:before=p) (X:ArgsAre P W enc fn.params.toList c.toList x p pvs)
  (T:(s.fn H (x++[])).results=[.lit (.bool true)]) (Q:(s.fn H (x++[])).args=x) (U:(s.fn H (x++[])).vars=[])
  (hf:FnOk P f pvs (fun rs=>rs=[D5 true])):Calls P f c W fun e W'=>∃v,e=.returned v/\s.post enc P fn k C m again W c v W':=by
 subst F;unfold FnOk at hf;have Y:=hf.2 W (fun _ _=>False) c.toList (B13 R V) (fun _ _ h=>h.elim) X.rep;rw[Array.toArray_toList]at Y;refine Y.mono fun e W' h=>?_;obtain⟨v,rs,rfl,rfl,hr,D⟩:=h;obtain⟨rfl,_⟩:v=.bool true/\_:=hr;have I:∀q∈before,q.block<W.heap.size:=fun q A=>N.lt q A;have J:∀q∈before,(fun b=>decide (b<W.heap.size)) q.block=true:=fun q A=>by simpa using I q A
 have B:∀(b:Nat) (z:Nat->Bool) (Z:Bool),DataW.TrodAll enc P W' b z Z fn.resultTypes.toList ((Value.bool true).resultList fn.resultTypes.size) (s.fn H (x++[])).results []:=by
  intro b z Z;rw[K,T];exact trodAll_cons_mk (shut_bool hb _) trodAll_mk0
 have w:∀z:Nat->Bool,(∀q∈before,z q.block=true)->DataW.TrodAll enc P W' 0 z true fn.params.toList c.toList (s.fn H (x++[])).args before:=by
  intro z S;rw[Q];exact EZ D (X.trod S)
 have M:∀z:Nat->Bool,DataW.TrodVars enc P W' z s.vars (s.fn H (x++[])).vars []:=by
  intro z;rw[E,U];rfl
 have O:∀(j:Nat) (t:TypeId) (r:Value),fn.resultTypes[j]?=some t->((Value.bool true).resultList fn.resultTypes.size)[j]?=some r->Value.okWide P W' .any 0 t r:=by
  exact ok_one K rfl (okWide_bool_mk hb _)
 refine⟨_,rfl,x,[],before,[],before,[],N,B _ _ _,w _ J,M _,World.keptBut_mono (fun q A=>⟨A,.inr (.inl A)⟩) (D.frame (·∈before)),fun _=>?_⟩;obtain⟨_,_,_,_,_,V,hn⟩:=N;refine⟨O,_,_,([]++before)++[],⟨[]++before,[],trodAll_append (w _ (fun _ _=>rfl)) (B _ _ _),M _,rfl,?_,?_⟩,?_⟩
 ·intro b off hp;have G:MemPlace.cell b off∈before:=by simpa using hp
  rw[D.frozen (I _ G)];exact V b off G
 ·intro ha;simpa using hn ha
 ·intro q A _;simpa using A
theorem uS{P:Program}{w:World}{n:String}{d:DataW Unit}:∀{l:List (String×DataW Unit)} {ps:List MemPlace},DataW.LaidVars P w l ps->(n,d)∈l ->
  ∃g t c b p,P.globalNamed n=some g/\(P.globals[g]?).map (·.type)=some t/\w.var? P n=some c/\DataW.trod (fun _=>()) P w 0 (fun _=>true) false b t c.toList=some (d,p)
 | [],_,_,h=>by cases h
 | (n',d')::r,ps,⟨g,t,c,b,p,q,h1,h2,h3,h4,h5,h6⟩,h=>by
  rcases C36.1 h with f | h
  ·cases f;exact⟨g,t,c,b,p,h1,h2,h3,h4⟩
  ·exact uS h5 h
theorem NQ{P:Program}{W:World}{name:String}{k:IntKind}{s:List Int}{l:List (String×DataW Unit)}{g:Nat}{t e:TypeId}{n:Nat}
  (x:P.globalNamed name=some g) (o:(P.globals[g]?).map (·.type)=some t) (A:P.underlying t=some (.array n e)) (w:P.underlying e=some (.int k)) (c:P.cellsOf e=1) (d:P.cellsOf t=n)
  (h:laidMet P l W) (z:(name,Lib.tabData k s)∈l):Lib.TabIs P W name k s:=by
 obtain⟨ps,u,_⟩:=h;obtain⟨C,D,B,q,p,f,j,b,v⟩:=uS u z;obtain rfl:=Option.some.inj (x.symm.trans f);obtain rfl:=Option.some.inj (o.symm.trans j);unfold Lib.TabIs;rw[b,<-Lib.cells_of_tab A w c d v]
end Go.Proofs.YtgkjogphmmoakaaGreatDoor
