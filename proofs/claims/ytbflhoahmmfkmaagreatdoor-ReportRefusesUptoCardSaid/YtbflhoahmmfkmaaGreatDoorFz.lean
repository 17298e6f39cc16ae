/- From contracts to statements; no project text. -/
import Derived.Test.YtbflhoahmmfkmaaGreatDoorRows
import Derived.ProofKit
import Derived.OpenShut
import Derived.JoinedCond
import Derived.Below
import Derived.DataShut
import Derived.ChangeSame
import Derived.Deep.DeepHandedRow
import Derived.Deep.DeepLaidRun
import Derived.Lib.LaidU8
import Derived.Lib.TrailingZeros
import Derived.Test.YtbflhoahmmfkmaaGreatDoorFb
set_option linter.all false
namespace Go.Proofs.YtbflhoahmmfkmaaGreatDoor
open Go Go.AL Go.ChangeShapes Go.WideShapes Go.RowKit
abbrev DM(W:World):Rd:=D1 (fun _ _=>False) W
theorem DN{W:World}{b i:Nat}{z:Value}(h:W.cell? ⟨b,i,none⟩=some z):DM W b i z:=⟨h,fun f=>f⟩
structure Reads (P:Program) (t:TypeId) (α:Type) (ec:Nat) (c:α->Nat->Cell) (good:α->Prop) (m:α->Nat):Prop where
 cells:P.cellsOf t=ec
 read:∀{H:Type} {enc:TypeId×Value->H} {W:World} {fuel:Nat} {cs:List Value} {x:DataW H×List MemPlace},DataW.trod enc P W 0 (fun _=>true) true fuel t cs=some x->Rows.uptoBulk x.1<=1048576 ->
  cs.length=ec/\∃a,good a/\m a<=Rows.uptoBulk x.1/\∀j,j<ec->∃z,cs[j]?=some z/\(c a j).rep (DM W) z
 again:∀{H:Type} {enc:TypeId×Value->H} {W:World} {fuel:Nat} {cs:List Value} {x:DataW H×List MemPlace} {sp:Nat->Bool},DataW.trod enc P W 0 (fun _=>true) true fuel t cs=some x->(∀p∈x.2,sp p.block=true) ->
  DataW.trod enc P W 0 sp true fuel t cs=some x
theorem wY{H:Type}{d:DataW H}{l:List (DataW H)}(h:d∈l):Rows.uptoBulk d<=Rows.uptoBulkAll l:=by
 induction l with
 | nil=>cases h
 | cons x r a =>
  simp only[Rows.uptoBulkAll];cases HZ.1 h with
  | inl e=>subst e;omega
  | inr e=>have:=a e;omega
section
variable {P:Program}
theorem U6{t:TypeId}{k:IntKind}(b:P.underlying t=some (.int k))(d:P.cellsOf t=1):Reads P t Int 1 (fun n _=>.v (.int k n)) (fun n=>(Lit.int k n).wf=true) (fun _=>1) where
 cells:=d
 read:=fun h _=>by
  obtain⟨n,rfl,rfl,c⟩:=DataW.trod_int b h;exact⟨rfl,n,c,by simp[Rows.uptoBulk],fun j l=>by (have e:j=0:=by omega);subst e;exact⟨_,rfl,rfl,rfl⟩⟩
 again:=fun {H enc W a g x m} h _=>by
  obtain⟨n,rfl,rfl,c⟩:=DataW.trod_int b h;cases a with
  | zero=>simp[DataW.trod]at h
  | succ n=>simpa[DataW.trod,b] using h
theorem tO{t:TypeId}(c:P.underlying t=some .bool)(d:P.cellsOf t=1):Reads P t Bool 1 (fun b _=>.v (.bool b)) (fun _=>True) (fun _=>1) where
 cells:=d
 read:=fun h _=>by
  obtain⟨n,rfl,rfl⟩:=DataW.trod_bool c h;exact⟨rfl,n,trivial,by simp[Rows.uptoBulk],fun j g=>by (have e:j=0:=by omega);subst e;exact⟨_,rfl,rfl,rfl⟩⟩
 again:=fun {H enc W a f x i} h _=>by
  obtain⟨n,rfl,rfl⟩:=DataW.trod_bool c h;cases a with
  | zero=>simp[DataW.trod]at h
  | succ n=>simp[DataW.trod,c]
theorem Y2{t:TypeId}(b:P.underlying t=some .string)(d:P.cellsOf t=1):Reads P t (List UInt8) 1 n9 (fun _=>True) (fun s=>s.length+1) where
 cells:=d
 read:=fun h _=>by
  obtain⟨s,rfl,rfl,c⟩:=DataW.trod_string b h;exact⟨rfl,s.data.toList,trivial,by simp[Rows.uptoBulk],fun j k=>by (have e:j=0:=by omega);subst e;exact⟨_,rfl,by simp,rfl⟩⟩
 again:=fun {H enc W a f x l} h _=>by
  obtain⟨s,rfl,rfl,c⟩:=DataW.trod_string b h;cases a with
  | zero=>simp[DataW.trod]at h
  | succ n=>simp[DataW.trod,b,c]
theorem eM{β:Type}{R:Nat->β->Prop}:∀(n:Nat),(∀j,j<n->∃z,R j z)->∃b:List β,b.length=n/\∀j z,b[j]?=some z->R j z
 | 0,_=>⟨[],rfl,by simp⟩
 | n+1,h=>by
  obtain⟨b,e,f⟩:=eM n (fun j i=>h j (by omega));obtain⟨z,m⟩:=h n (by omega);refine⟨b++[z],by simp[e],fun j y a=>?_⟩;by_cases i:j<n
  ·exact f j y (by rwa[IJ (by omega)]at a)
  ·rw[II (by omega)]at a;have g:j-b.length=0:=by
    cases l:j-b.length with
    | zero=>rfl
    | succ k=>rw[l]at a;simp at a
   rw[g]at a;have c:z=y:=by simpa using a
   have d:j=n:=by omega
   rw[d,<-c];exact m
theorem tP{H:Type}{α:Type}{m:α->Nat}:∀{xs:List α} {ys:List (DataW H×List MemPlace)},xs.length=ys.length->(∀(i:Nat) a y,xs[i]?=some a->ys[i]?=some y->m a<=Rows.uptoBulk y.1)->(xs.map m).sum<=Rows.uptoBulkAll (ys.map (·.1))
 | [],[],_,_=>by simp[Rows.uptoBulkAll]
 | [],_::_,h,_=>by simp at h
 | _::_,[],h,_=>by simp at h
 | a::xs,y::ys,h,hm=>by
  have f:=hm 0 a y rfl rfl;have g:=tP (xs:=xs) (ys:=ys) (by simpa using h) (fun i b e c d=>hm (i+1) b e c d);simp only[IC,JQ,Rows.uptoBulkAll];omega
theorem rK{a:Addr}(h:a.spot=none)(i:Nat):a.add i=⟨a.block,a.off+i,none⟩:=by
 obtain⟨b,o,s⟩:=a;simp only at h;subst h;unfold Addr.add;split
 ·rename_i c;subst c;rfl
 ·rfl
theorem oH{W:World}{a:Addr}{v:Value}(h:W.cell? a=some v):a.spot=none:=by
 unfold World.cell? at h;split at h
 ·split at h
  ·cases h
  ·rename_i c;cases b:a.spot with
   | none=>rfl
   | some _=>simp[b]at c
 ·cases h
theorem aH{t e:TypeId}{α:Type}{J:Nat}{c:α->Nat->Cell}{good:α->Prop}{m:α->Nat}(R:Reads P e α J c good m)(O:0<J)(S:P.underlying t=some (.slice e))(hc:P.cellsOf t=1) :
  Reads P t (List α) 1 (fun l _=>.list α J c l) (fun l=>∀a∈l,good a) (fun l=>1+(l.map m).sum) where
 cells:=hc
 read := fun {H enc W E cs x} h hB=>by
  rcases DataW.trod_slice S h with ⟨rfl,rfl⟩ | ⟨a,len,cap,elems,rest,n,rfl,rfl,rfl,hb,hl,hm,hlen,hel,hsp,hns⟩
  ·exact⟨rfl,[],by simp,by simp[Rows.uptoBulk],fun j K=>by (have e:j=0:=by omega);subst e;exact⟨_,rfl,I7 _ _ _⟩⟩
  ·have ad:Rows.uptoBulkAll (elems.map (·.1))+Rows.uptoBulkAll (rest.map (·.1))+1<=1048576:=hB;have F:∀i,i<len->∃(g:List Value) (y:DataW H×List MemPlace),elems[i]?=some y/\W.cells? 0 (a.add (i*P.cellsOf e)) (P.cellsOf e)=some g/\DataW.trod enc P W 0 (fun _=>true) true n e g=some y:=by
    intro i f;have w:=hel i f;have q:elems[i]?=some (elems[i]'(by omega)):=HQ (by omega);rw[q]at w;obtain⟨g,A,B⟩:=Option.bind_eq_some_iff.1 w;exact⟨g,_,q,A,B⟩
   have hR:∀i,i<len->∃v:α,∃(y:DataW H×List MemPlace),elems[i]?=some y/\good v/\m v<=Rows.uptoBulk y.1/\1<=Rows.uptoBulk y.1/\∀j,j<J->∃z,W.cell? ((a.add (i*J)).add j)=some z/\(c v j).rep (DM W) z:=by
    intro i f;obtain⟨g,y,q,A,B⟩:=F i f;have ag:=wY (d:=y.1) (l:=elems.map (·.1)) (IQ.2 ⟨y,IP q,rfl⟩);obtain⟨Q,v,hg,X,hz⟩:=R.read B (by omega);obtain⟨_,h5,h6⟩:=World.cells?_some A;refine⟨v,y,q,hg,X,?_,fun j K=>?_⟩
    ·cases y.1 with
     | lit l=>cases l<;>simp[Rows.uptoBulk]
     | _=>simp[Rows.uptoBulk]
    ·obtain⟨z,ab,ac⟩:=hz j K;rw[R.cells]at h6;exact⟨z,by rw[h6 j K];exact ab,ac⟩
   obtain⟨xs,aa,D⟩:=eM len hR;have af:(xs.map m).sum<=Rows.uptoBulkAll (elems.map (·.1)):=by
    refine tP (by omega) fun i v y w A=>?_;obtain⟨y',B,_,Q,_⟩:=D i v w;rw[A]at B;cases B;exact Q
   have ae:elems.length<=Rows.uptoBulkAll (elems.map (·.1)):=by
    have:((List.range len).map fun _=>1).sum<=Rows.uptoBulkAll (elems.map (·.1)):=by
     refine tP (m:=fun _=>1) (xs:=List.range len) (by simp[hlen]) fun i v y w A=>?_;have f:i<len:=by have:=(List.getElem?_eq_some_iff.1 w).1;simpa using this
     obtain⟨y',B,_,_,Q,_⟩:=(hR i f).choose_spec;rw[A]at B;cases B;exact Q
    have e:((List.range len).map fun _=>1).sum=len:=by rw[List.map_const',IW,List.sum_replicate_nat];omega
    omega
   refine⟨rfl,xs,fun v hv=>?_,?_,fun j K=>?_⟩
   ·obtain⟨i,f,rfl⟩:=List.mem_iff_getElem.1 hv;obtain⟨_,_,w,_⟩:=D i _ (HQ f);exact w
   ·show 1+_<=Rows.uptoBulkAll (elems.map (·.1))+Rows.uptoBulkAll (rest.map (·.1))+1;omega
   ·obtain rfl:j=0:=by omega
    refine⟨_,rfl,?_⟩;show SliceAt (DM W) J xs.length (fun i j z=>∃h:i<xs.length,(c xs[i] j).rep (DM W) z) _;refine⟨some a,cap,by rw[aa],⟨by omega,by simp⟩,by omega,?_⟩;by_cases h0:xs.length=0
    ·exact .inl h0
    ·right;have C:a.spot=none:=by
      obtain⟨_,_,_,_,_,w⟩:=D 0 xs[0] (HQ (by omega));obtain⟨z,A,_⟩:=w 0 O;have:=oH A;simpa[Addr.add] using this
     refine⟨a.block,a.off,?_,fun i f j K=>?_⟩
     ·cases a;simp only at C;subst C;rfl
     ·obtain⟨_,_,_,_,_,w⟩:=D i xs[i] (HQ f);obtain⟨z,A,B⟩:=w j K;rw[rK C,rK rfl]at A;exact⟨z,DN A,f,B⟩
 again:=fun {H enc W E cs x L} h hs=>by
  rcases DataW.trod_slice S h with ⟨rfl,rfl⟩ | ⟨a,len,cap,elems,rest,n,rfl,rfl,rfl,hb,hl,hm,hlen,hel,hsp,hns⟩
  ·cases E with
   | zero=>simp[DataW.trod]at h
   | succ n=>simp[DataW.trod,S]
  ·obtain⟨Y,G⟩:=hsp rfl;have V:∀y∈elems++rest,∀p∈y.2,L p.block=true:=fun y q p hp=>hs p (List.mem_append_right _ (List.mem_flatMap.2 ⟨y,q,hp⟩));have step:∀(k:Nat) (y:DataW H×List MemPlace),y∈elems++rest->(W.cells? 0 (a.add (k*P.cellsOf e)) (P.cellsOf e)).bind (DataW.trod enc P W 0 (fun _=>true) true n e)=some y->(W.cells? 0 (a.add (k*P.cellsOf e)) (P.cellsOf e)).bind (DataW.trod enc P W 0 L true n e)=some y:=by
    intro k y q w;obtain⟨g,A,B⟩:=Option.bind_eq_some_iff.1 w;exact Option.bind_eq_some_iff.2 ⟨g,A,R.again B (V y q)⟩
   have T:(List.range len).mapM (fun i=>(W.cells? 0 (a.add (i*P.cellsOf e)) (P.cellsOf e)).bind (DataW.trod enc P W 0 L true n e))=some elems:=by
    refine mapM_some_of_get _ _ (by simp[hlen]) fun i x I=>?_;have f:i<len:=by have:=(List.getElem?_eq_some_iff.1 I).1;simpa using this
    obtain rfl:i=x:=by rw[List.getElem?_range f]at I;exact Option.some.inj I
    have q:elems[i]?=some (elems[i]'(by omega)):=HQ (by omega);rw[q];exact step i _ (by simp) (by rw[hel i f,q])
   have U:(if L a.block=true then (List.range (cap-len)).mapM (fun j=>(W.cells? 0 (a.add ((len+j)*P.cellsOf e)) (P.cellsOf e)).bind (DataW.trod enc P W 0 L true n e)) else some [])=some rest:=by
    by_cases N:cap-len=0
    ·have:rest=[]:=List.eq_nil_of_length_eq_zero (by omega);rw[this,N];split<;>rfl
    ·have Z:L a.block=true:=by
      refine hs (.cell a.block (a.off+0)) (List.mem_append_left _ (IQ.2 ⟨0,IA.2 ?_,rfl⟩));have:0<elems.length+rest.length:=by omega
      rw[R.cells];exact Nat.mul_pos this O
     rw[A4 Z];refine mapM_some_of_get _ _ (by simp[Y]) fun i x I=>?_;have f:i<cap-len:=by have:=(List.getElem?_eq_some_iff.1 I).1;simpa using this
     obtain rfl:i=x:=by rw[List.getElem?_range f]at I;exact Option.some.inj I
     have q:rest[i]?=some (rest[i]'(by omega)):=HQ (by omega);rw[q];exact step (len+i) _ (by simp) (by rw[G i f,q])
   unfold DataW.trod;rw[S];simp only;rw[A4 ⟨hb,hl,hm⟩,T,Option.bind_some,U];rfl
theorem kW{t:TypeId}{w y:Field}{β:Type}{J:Type}{e0:Nat}{c0:J->Nat->Cell}{g0:J->Prop}{m0:J->Nat}{K:Type}{e1:Nat}{c1:K->Nat->Cell}{g1:K->Prop}{m1:K->Nat}(R0:Reads P w.type J e0 c0 g0 m0)(R1:Reads P y.type K e1 c1 g1 m1)(Y:P.underlying t=some (.struct #[w,y]))(hc:P.cellsOf t=e0+e1)(V:w.offset=0)(X:y.offset=e0)(F:J->K->β)(c:β->Nat->Cell)(A:∀a0 b,(∀j,j<e0->c (F a0 b) (j)=c0 a0 j)/\(∀j,j<e1->c (F a0 b) (e0+j)=c1 b j))(good:β->Prop)(hg:∀a0 b,g0 a0->g1 b->good (F a0 b))(m:β->Nat)(hm:∀a0 b,m (F a0 b)<=1+m0 a0+m1 b) :
  Reads P t β (e0+e1) c good m where
 cells:=hc
 read:=fun {H enc W C cs x} h hB=>by
  obtain⟨l,n,rfl,rfl,O,v,N⟩:=DataW.trod_struct Y h;have T:Rows.uptoBulkAll (l.map (·.1))+1<=1048576:=hB;obtain⟨G,I,rfl⟩:∃G I,l=[G,I]:=by
   match l,v with
   | [G,I],_=>exact⟨G,I,rfl⟩
  simp only[IC,JG,Rows.uptoBulkAll]at T;have t0:=N 0 w rfl;rw[V,R0.cells]at t0;obtain⟨l0,a0,R,ac,Z⟩:=R0.read t0 (by omega);have t1:=N 1 y rfl;rw[X,R1.cells]at t1;obtain⟨l1,b,S,ad,aa⟩:=R1.read t1 (by omega);rw[hc]at O;refine⟨O,F a0 b,hg a0 b R S,?_,fun j hj=>?_⟩
  ·have:=hm a0 b;show _<=Rows.uptoBulkAll (List.map (·.1) [G,I])+1;simp only[IC,JG,Rows.uptoBulkAll];omega
  ·obtain⟨h0,D⟩:=A a0 b;by_cases b0:j<e0
   ·obtain⟨z,g,B⟩:=Z j (by omega);refine⟨z,?_,by rw[h0 j (by omega)];exact B⟩;rw[ID (by omega),IE]at g;simpa using g
   obtain⟨q,rfl⟩:∃q,j=e0+q:=⟨j-(e0),by omega⟩
   obtain⟨z,g,B⟩:=aa q (by omega);refine⟨z,?_,by rw[D q (by omega)];exact B⟩;rw[ID (by omega),IE]at g;simpa using g
 again:=fun {H enc W C cs x sp} h hs=>by
  obtain⟨l,n,rfl,rfl,O,v,N⟩:=DataW.trod_struct Y h;unfold DataW.trod;rw[Y];simp only;rw[A4 O];have U:(#[w,y]:Array Field).toList.mapM (fun f=>DataW.trod enc P W 0 sp true n f.type ((cs.drop f.offset).take (P.cellsOf f.type)))=some l:=by
   refine mapM_some_of_get _ _ (by simpa using v) fun i f hi=>?_;have d:(#[w,y]:Array Field)[i]?=some f:=by simpa using hi
   have D:=N i f d;have E:i<l.length:=by rw[v];exact (Array.getElem?_eq_some_iff.1 d).1
   have hy:l[i]?=some l[i]:=HQ E;have Q:∀p∈l[i].2,sp p.block=true:=fun p Q=>hs p (List.mem_flatMap.2 ⟨l[i],HT E,Q⟩);rw[hy]at D ⊢;have ab:i<2:=(Array.getElem?_eq_some_iff.1 d).1;by_cases i0:i=0
   ·subst i0;obtain rfl:w=f:=Option.some.inj d;exact R0.again D Q
   by_cases i1:i=1
   ·subst i1;obtain rfl:y=f:=Option.some.inj d;exact R1.again D Q
   omega
  rw[U];rfl
theorem kX{t:TypeId}{y A B:Field}{β:Type}{Q:Type}{e0:Nat}{c0:Q->Nat->Cell}{g0:Q->Prop}{m0:Q->Nat}{R:Type}{e1:Nat}{c1:R->Nat->Cell}{g1:R->Prop}{m1:R->Nat}{S:Type}{e2:Nat}{c2:S->Nat->Cell}{g2:S->Prop}{m2:S->Nat}(R0:Reads P y.type Q e0 c0 g0 m0)(R1:Reads P A.type R e1 c1 g1 m1)(R2:Reads P B.type S e2 c2 g2 m2)(ht:P.underlying t=some (.struct #[y,A,B]))(hc:P.cellsOf t=e0+e1+e2)(aa:y.offset=0)(ab:A.offset=e0)(ac:B.offset=e0+e1)(E:Q->R->S->β)(c:β->Nat->Cell)(C:∀a0 d a2,(∀j,j<e0->c (E a0 d a2) (j)=c0 a0 j)/\(∀j,j<e1->c (E a0 d a2) (e0+j)=c1 d j)/\(∀j,j<e2->c (E a0 d a2) (e0+e1+j)=c2 a2 j))(good:β->Prop)(hg:∀a0 d a2,g0 a0->g1 d->g2 a2->good (E a0 d a2))(m:β->Nat)(hm:∀a0 d a2,m (E a0 d a2)<=1+m0 a0+m1 d+m2 a2) :
  Reads P t β (e0+e1+e2) c good m where
 cells:=hc
 read:=fun {H enc W F cs x} h hB=>by
  obtain⟨v,n,rfl,rfl,T,w,G⟩:=DataW.trod_struct ht h;have Y:Rows.uptoBulkAll (v.map (·.1))+1<=1048576:=hB;obtain⟨K,N,O,rfl⟩:∃K N O,v=[K,N,O]:=by
   match v,w with
   | [K,N,O],_=>exact⟨K,N,O,rfl⟩
  simp only[IC,JG,Rows.uptoBulkAll]at Y;have t0:=G 0 y rfl;rw[aa,R0.cells]at t0;obtain⟨l0,a0,U,ah,ad⟩:=R0.read t0 (by omega);have t1:=G 1 A rfl;rw[ab,R1.cells]at t1;obtain⟨l1,d,V,ai,ae⟩:=R1.read t1 (by omega);have t2:=G 2 B rfl;rw[ac,R2.cells]at t2;obtain⟨l2,a2,X,aj,af⟩:=R2.read t2 (by omega);rw[hc]at T;refine⟨T,E a0 d a2,hg a0 d a2 U V X,?_,fun j hj=>?_⟩
  ·have:=hm a0 d a2;show _<=Rows.uptoBulkAll (List.map (·.1) [K,N,O])+1;simp only[IC,JG,Rows.uptoBulkAll];omega
  ·obtain⟨h0,D,h2⟩:=C a0 d a2;by_cases b0:j<e0
   ·obtain⟨z,b,l⟩:=ad j (by omega);refine⟨z,?_,by rw[h0 j (by omega)];exact l⟩;rw[ID (by omega),IE]at b;simpa using b
   by_cases b1:j<e0+e1
   ·obtain⟨q,rfl⟩:∃q,j=e0+q:=⟨j-(e0),by omega⟩
    obtain⟨z,b,l⟩:=ae q (by omega);refine⟨z,?_,by rw[D q (by omega)];exact l⟩;rw[ID (by omega),IE]at b;simpa using b
   obtain⟨q,rfl⟩:∃q,j=e0+e1+q:=⟨j-(e0+e1),by omega⟩
   obtain⟨z,b,l⟩:=af q (by omega);refine⟨z,?_,by rw[h2 q (by omega)];exact l⟩;rw[ID (by omega),IE]at b;simpa using b
 again:=fun {H enc W F cs x sp} h hs=>by
  obtain⟨v,n,rfl,rfl,T,w,G⟩:=DataW.trod_struct ht h;unfold DataW.trod;rw[ht];simp only;rw[A4 T];have Z:(#[y,A,B]:Array Field).toList.mapM (fun f=>DataW.trod enc P W 0 sp true n f.type ((cs.drop f.offset).take (P.cellsOf f.type)))=some v:=by
   refine mapM_some_of_get _ _ (by simpa using w) fun i f hi=>?_;have g:(#[y,A,B]:Array Field)[i]?=some f:=by simpa using hi
   have D:=G i f g;have I:i<v.length:=by rw[w];exact (Array.getElem?_eq_some_iff.1 g).1
   have hy:v[i]?=some v[i]:=HQ I;have J:∀p∈v[i].2,sp p.block=true:=fun p J=>hs p (List.mem_flatMap.2 ⟨v[i],HT I,J⟩);rw[hy]at D ⊢;have ag:i<3:=(Array.getElem?_eq_some_iff.1 g).1;by_cases i0:i=0
   ·subst i0;obtain rfl:y=f:=Option.some.inj g;exact R0.again D J
   by_cases i1:i=1
   ·subst i1;obtain rfl:A=f:=Option.some.inj g;exact R1.again D J
   by_cases i2:i=2
   ·subst i2;obtain rfl:B=f:=Option.some.inj g;exact R2.again D J
   omega
  rw[Z];rfl
section
variable {H:Type}{enc:TypeId×Value->H}{W:World}{r:Reach}{b0:Nat}{t:TypeId}{v:Value}{d:DataW H}{ps:List MemPlace}
def mL(P:Program)(W:World)(enc:TypeId×Value->H)(t:TypeId)(v:Value)(d:DataW H)(ps:List MemPlace)(p:PV):Prop :=
 p.rep (DM W) v/\∀a:Nat->Bool,(∀p∈ps,a p.block=true)->DataW.Trod enc P W 0 a true t v d ps
theorem oI{α:Type}{c:α->Nat->Cell}{good:α->Prop}{m:α->Nat}(R:Reads P t α 1 c good m)(f:v.cells=#[v])(h:DataW.Trod enc P W 0 (fun _=>true) true t v d ps)(k:Rows.uptoBulk d<=1048576) :
  ∃a,good a/\m a<=Rows.uptoBulk d/\mL P W enc t v d ps (.one (c a 0)):=by
 obtain⟨b,h⟩:=h;obtain⟨_,a,l,p,q⟩:=R.read h k;obtain⟨z,g,i⟩:=q 0 (by omega);refine⟨a,l,p,?_,fun r j=>⟨b,R.again h j⟩⟩;rw[f]at g;have:v=z:=by simpa using g
 rw[<-this]at i;exact i
theorem xA{e:TypeId}{α:Type}{c:α->Nat->Cell}{good:α->Prop}{m:α->Nat}(R:Reads P t α 1 c good m)(g:P.underlying t=some (.slice e))(j:Value.okWide P W r b0 t v)(h:DataW.Trod enc P W 0 (fun _=>true) true t v d ps)(f:Rows.uptoBulk d<=1048576) :
  ∃a,good a/\m a<=Rows.uptoBulk d/\mL P W enc t v d ps (.one (c a 0)):=by
 obtain⟨a,len,b,rfl⟩:=okWide_slice g j;exact oI R rfl h f
theorem BC{k:IntKind}{α:Type}{c:α->Nat->Cell}{good:α->Prop}{m:α->Nat}(R:Reads P t α 1 c good m)(f:P.underlying t=some (.int k))(g:Value.okWide P W r b0 t v)(h:DataW.Trod enc P W 0 (fun _=>true) true t v d ps)(b:Rows.uptoBulk d<=1048576) :
  ∃a,good a/\m a<=Rows.uptoBulk d/\mL P W enc t v d ps (.one (c a 0)):=by
 obtain⟨n,rfl⟩:=okWide_int f g;exact oI R rfl h b
theorem tQ{α:Type}{c:α->Nat->Cell}{good:α->Prop}{m:α->Nat}(R:Reads P t α 1 c good m)(f:P.underlying t=some .string)(j:Value.okWide P W r b0 t v)(h:DataW.Trod enc P W 0 (fun _=>true) true t v d ps)(b:Rows.uptoBulk d<=1048576) :
  ∃a,good a/\m a<=Rows.uptoBulk d/\mL P W enc t v d ps (.one (c a 0)):=by
 obtain⟨n,rfl⟩:=okWide_string f j;exact oI R rfl h b
theorem tR{i:Rd}{c:Nat->Cell}:∀(n:Nat) (b:List Value),b.length=n->(∀j,j<n->∃z,b[j]?=some z/\(c j).rep i z)->All2 (Cell.rep i) ((List.range n).map c) b:=by
 intro n;induction n generalizing c with
 | zero=>intro b h _;obtain rfl:=List.eq_nil_of_length_eq_zero h;trivial
 | succ n o =>
  intro b h g
  match b,h with
  | v::b,h =>
   rw[List.range_succ_eq_map,IC,JD];obtain⟨z,d,f⟩:=g 0 (by omega);obtain rfl:v=z:=by simpa using d
   refine⟨f,o (c:=c ∘ Nat.succ) b (by simpa using h) fun j q=>?_⟩;obtain⟨z,k,l⟩:=g (j+1) (by omega);exact⟨z,by simpa using k,l⟩
theorem tS{j:Array Field}{α:Type}{e:Nat}{c:α->Nat->Cell}{good:α->Prop}{m:α->Nat}(R:Reads P t α e c good m)(w:P.underlying t=some (.struct j))(x:Value.okWide P W r b0 t v)(h:DataW.Trod enc P W 0 (fun _=>true) true t v d ps)(k:Rows.uptoBulk d<=1048576) :
  ∃a,good a/\m a<=Rows.uptoBulk d/\mL P W enc t v d ps (.agg ((List.range e).map (c a))):=by
 obtain⟨i,rfl,q⟩:=okWide_struct w x;obtain⟨b,h⟩:=h;obtain⟨n,a,l,o,y⟩:=R.read h k;exact⟨a,l,o,⟨i.toList,by simp,tR e i.toList n y⟩,fun z f=>⟨b,R.again h f⟩⟩
end
end
variable {H:Type}{enc:TypeId×Value->H}{P:Program}
theorem kE{W W':World}{c:Nat->Bool}(hb:Below W.heap.size W W'):∀{ts:List TypeId} {vs:List Value} {ds:List (DataW H)} {ps:List MemPlace},DataW.TrodAll enc P W 0 c true ts vs ds ps->DataW.TrodAll enc P W' 0 c true ts vs ds ps
 | [],[],[],_,h=>h
 | t::ts,v::vs,d::ds,ps,h=>by
  obtain⟨p,q,⟨a,e⟩,f,g⟩:=h;have b:∀x∈p,x.block<W.heap.size:=by
   have:=DataW.TrodAll.lt (enc:=enc) (P:=P) (w:=W) (base:=0) (spare:=c) (held:=true) (ts:=[t]) (vs:=[v]) (ds:=[d]) (ps:=p) ⟨p,[],⟨a,e⟩,rfl,by simp⟩;exact this
  exact⟨p,q,⟨a,DataW.trod_carry _ _ _ _ e fun x i=>hb.same (b x i)⟩,kE hb f,g⟩
theorem xB{P:Program}{W:World}(h:W.ShapedOpen P)(a:tV P W):Grd P (fun _=>False) W:=⟨W,⟨h,a⟩,Nat.le_refl _,fun _ _=>⟨rfl,id⟩⟩
def ArgsAre(P:Program)(W:World)(enc:TypeId×Value->H):List TypeId->List Value->List (DataW H)->List MemPlace->List PV->Prop
 | [],[],[],ps,[]=>ps=[]
 | t::ts,v::vs,d::ds,ps,p::pvs=>∃q r,mL P W enc t v d q p/\ArgsAre P W enc ts vs ds r pvs/\ps=q++r
 | _,_,_,_,_=>False
theorem ArgsAre.rep{P:Program}{W:World}:∀{f:List TypeId} {b:List Value} {c:List (DataW H)} {ps:List MemPlace} {a:List PV},ArgsAre P W enc f b c ps a->All2 (PV.rep (DM W)) a b
 | [],[],[],_,[],_=>trivial
 | _::_,_::_,_::_,_,_::_,h=>by obtain⟨q,r,d,e,_⟩:=h;exact⟨d.1,e.rep⟩
theorem ArgsAre.trod{P:Program}{W:World}{c:Nat->Bool}:∀{e:List TypeId} {f:List Value} {d:List (DataW H)} {ps:List MemPlace} {b:List PV},ArgsAre P W enc e f d ps b->(∀p∈ps,c p.block=true)->DataW.TrodAll enc P W 0 c true e f d ps
 | [],[],[],_,[],h,_=>h
 | _::_,_::_,_::_,_,_::_,h,hs=>by
  obtain⟨q,r,g,i,rfl⟩:=h;exact⟨q,r,g.2 c (fun p a=>hs p (by simp[a])),i.trod (fun p a=>hs p (by simp[a])),rfl⟩
theorem zQ{P:Program}{f:FuncId}{fn:Func}{s:ChangeSpec}{k C m again:Bool}{W:World}{c:Array Value}{x:List (DataW H)}{before p:List MemPlace}{pvs:List PV}{tb:TypeId}
  (R:W.ShapedOpen P) (V:tV P W) (E:s.vars=[]) (K:fn.resultTypes=#[tb]) (hb:P.underlying tb=some .bool)
  (N:DataW.Whole enc P fn.params.toList s.vars k W c.toList x [] before) (F:before=p) (X:ArgsAre P W enc fn.params.toList c.toList x p pvs)
  (T:(s.fn H (x++[])).results=[.lit (.bool true)]) (Q:(s.fn H (x++[])).args=x) (U:(s.fn H (x++[])).vars=[])
  (hf:FnOk P f pvs (fun rs=>rs=[G1 true])):Calls P f c W fun e W'=>∃v,e=.returned v/\s.post enc P fn k C m again W c v W':=by
 subst F;unfold FnOk at hf;have Y:=hf.2 W (fun _ _=>False) c.toList (xB R V) (fun _ _ h=>h.elim) X.rep;rw[Array.toArray_toList]at Y;refine Y.mono fun e W' h=>?_;obtain⟨v,rs,rfl,rfl,hr,D⟩:=h;obtain⟨rfl,_⟩:v=.bool true/\_:=hr;have I:∀q∈before,q.block<W.heap.size:=fun q A=>N.lt q A;have J:∀q∈before,(fun b=>decide (b<W.heap.size)) q.block=true:=fun q A=>by simpa using I q A
 have B:∀(b:Nat) (z:Nat->Bool) (Z:Bool),DataW.TrodAll enc P W' b z Z fn.resultTypes.toList ((Value.bool true).resultList fn.resultTypes.size) (s.fn H (x++[])).results []:=by
  intro b z Z;rw[K,T];exact trodAll_cons_mk (shut_bool hb _) trodAll_mk0
 have w:∀z:Nat->Bool,(∀q∈before,z q.block=true)->DataW.TrodAll enc P W' 0 z true fn.params.toList c.toList (s.fn H (x++[])).args before:=by
  intro z S;rw[Q];exact kE D (X.trod S)
 have M:∀z:Nat->Bool,DataW.TrodVars enc P W' z s.vars (s.fn H (x++[])).vars []:=by
  intro z;rw[E,U];rfl
 have O:∀(j:Nat) (t:TypeId) (r:Value),fn.resultTypes[j]?=some t->((Value.bool true).resultList fn.resultTypes.size)[j]?=some r->Value.okWide P W' .any 0 t r:=by
  exact ok_one K rfl (okWide_bool_mk hb _)
 refine⟨_,rfl,x,[],before,[],before,[],N,B _ _ _,w _ J,M _,World.keptBut_mono (fun q A=>⟨A,.inr (.inl A)⟩) (D.frame (·∈before)),fun _=>?_⟩;obtain⟨_,_,_,_,_,V,hn⟩:=N;refine⟨O,_,_,([]++before)++[],⟨[]++before,[],trodAll_append (w _ (fun _ _=>rfl)) (B _ _ _),M _,rfl,?_,?_⟩,?_⟩
 ·intro b off hp;have G:MemPlace.cell b off∈before:=by simpa using hp
  rw[D.frozen (I _ G)];exact V b off G
 ·intro ha;simpa using hn ha
 ·intro q A _;simpa using A
theorem eN{P:Program}{w:World}{n:String}{d:DataW Unit}:∀{l:List (String×DataW Unit)} {ps:List MemPlace},DataW.LaidVars P w l ps->(n,d)∈l ->
  ∃g t c b p,P.globalNamed n=some g/\(P.globals[g]?).map (·.type)=some t/\w.var? P n=some c/\DataW.trod (fun _=>()) P w 0 (fun _=>true) false b t c.toList=some (d,p)
 | [],_,_,h=>by cases h
 | (n',d')::r,ps,⟨g,t,c,b,p,q,h1,h2,h3,h4,h5,h6⟩,h=>by
  rcases HZ.1 h with f | h
  ·cases f;exact⟨g,t,c,b,p,h1,h2,h3,h4⟩
  ·exact eN h5 h
theorem oJ{P:Program}{W:World}{b:String}{k:IntKind}{u:List Int}{l:List (String×DataW Unit)}{g:Nat}{t e:TypeId}{n:Nat}
  (z:P.globalNamed b=some g) (q:(P.globals[g]?).map (·.type)=some t) (B:P.underlying t=some (.array n e)) (x:P.underlying e=some (.int k)) (d:P.cellsOf e=1) (f:P.cellsOf t=n)
  (h:laidMet P l W) (A:(b,Lib.tabData k u)∈l):Lib.TabIs P W b k u:=by
 obtain⟨ps,v,_⟩:=h;obtain⟨D,E,C,s,p,j,o,c,w⟩:=eN v A;obtain rfl:=Option.some.inj (z.symm.trans j);obtain rfl:=Option.some.inj (q.symm.trans o);unfold Lib.TabIs;rw[c,<-Lib.cells_of_tab B x d f w]
set_option maxRecDepth 100000
def eO(f:File):Nat:=f.Path.length+f.Blob.length
def d9(c:Commit):Nat:=c.Parents.length+(c.Files.map eO).sum+c.Files.length
theorem rL{α:Type}:∀l:List α,(l.map fun _=>1).sum=l.length
 | []=>rfl
 | x::r=>by simp only[IC,JQ,HU,rL r];omega
theorem rM{α:Type}(f:α->Nat):∀l:List α,(l.map fun x=>1+f x).sum=(l.map f).sum+l.length
 | []=>rfl
 | x::r=>by simp only[IC,JQ,HU,rM f r];omega
theorem tT{α:Type}(f:α->Nat):∀{l:List α} {x:α},x∈l->f x<=(l.map f).sum
 | y::r,x,h=>by
  simp only[IC,JQ];rcases HZ.1 h with rfl | h
  ·omega
  ·have:=tT f h;omega
theorem rN:Reads Tryz.prog 22 (List Int) 1 ES (fun l=>∀a∈l,(Lit.int .i64 a).wf=true) (fun l=>1+(l.map fun _=>1).sum) :=
 aH (U6 Tryz.underlying3 (by kernel_rfl)) (by omega) Tryz.underlying22 (by kernel_rfl)
theorem tU:Reads Tryz.prog 72 File 2 V4 (fun _=>True) (fun f=>1+eO f) :=
 kW (e0:=1) (e1:=1) (Y2 Tryz.underlying9 (by kernel_rfl)) (Y2 Tryz.underlying9 (by kernel_rfl)) Tryz.underlying72 (by kernel_rfl) rfl rfl
  (fun a b=>⟨a,b⟩) V4 (fun a b=>⟨fun j c=>by (have e:j=0:=by omega);subst e;rfl,fun j c=>by (have e:j=0:=by omega);subst e;rfl⟩)
  _ (fun a b _ _=>trivial) _ (fun a b=>by simp only[eO];omega)
theorem rO:Reads Tryz.prog 30 (List File) 1 CW (fun l=>∀a∈l,True) (fun l=>1+(l.map fun f=>1+eO f).sum) :=
 aH tU (by omega) Tryz.underlying30 (by kernel_rfl)
theorem oK:Reads Tryz.prog 32 Commit 3 E6 (fun _=>True) d9 :=
 kX (e0:=1) (e1:=1) (e2:=1) rN (U6 Tryz.underlying3 (by kernel_rfl)) rO Tryz.underlying32 (by kernel_rfl) rfl rfl rfl
  (fun a b s=>⟨a,b,s⟩) E6 (fun a b s=>⟨fun j c=>by (have e:j=0:=by omega);subst e;rfl,fun j c=>by (have e:j=0:=by omega);subst e;rfl,fun j c=>by (have e:j=0:=by omega);subst e;rfl⟩)
  _ (fun a b s _ _ _=>trivial) _ (fun a b s=>by
   have d:=rL a;have f:=rM eO s
   simp only[d9];omega)
theorem kY:Reads Tryz.prog 23 (List Commit) 1 (fun l _=>.list Commit 3 E6 l) (fun l=>∀a∈l,True) (fun l=>1+(l.map d9).sum) :=
 aH oK (by omega) Tryz.underlying23 (by kernel_rfl)
theorem few_of{g:Graph}(j:g.length<=1000)(h:(g.map d9).sum<=1048576):FewT g:=by
 have d:∀c∈g,d9 c<=1048576:=fun c a=>Nat.le_trans (tT d9 a) h;refine⟨⟨j,fun c a=>by have:=d c a;unfold d9 at this;omega⟩,fun c a=>?_⟩;have i:=d c a;unfold d9 at i;have e:∀f∈c.Files,eO f<=1048576:=fun f b=>by have:=tT eO b;omega
 exact⟨by omega,fun f b=>by have:=e f b;unfold eO at this;omega,fun f b=>by have:=e f b;unfold eO at this;omega⟩
theorem kZ{t:TypeId}{D E F G I J:Field}{β:Type}{X:Type}{e0:Nat}{c0:X->Nat->Cell}{g0:X->Prop}{m0:X->Nat}{Y:Type}{e1:Nat}{c1:Y->Nat->Cell}{g1:Y->Prop}{m1:Y->Nat}{Z:Type}{e2:Nat}{c2:Z->Nat->Cell}{g2:Z->Prop}{m2:Z->Nat}{α3:Type}{e3:Nat}{c3:α3->Nat->Cell}{g3:α3->Prop}{m3:α3->Nat}{α4:Type}{e4:Nat}{c4:α4->Nat->Cell}{g4:α4->Prop}{m4:α4->Nat}{α5:Type}{e5:Nat}{c5:α5->Nat->Cell}{g5:α5->Prop}{m5:α5->Nat}(R0:Reads P D.type X e0 c0 g0 m0)(R1:Reads P E.type Y e1 c1 g1 m1)(R2:Reads P F.type Z e2 c2 g2 m2)(R3:Reads P G.type α3 e3 c3 g3 m3)(R4:Reads P I.type α4 e4 c4 g4 m4)(R5:Reads P J.type α5 e5 c5 g5 m5)(ht:P.underlying t=some (.struct #[D,E,F,G,I,J]))(hc:P.cellsOf t=e0+e1+e2+e3+e4+e5)(ai:D.offset=0)(aj:E.offset=e0)(ak:F.offset=e0+e1)(al:G.offset=e0+e1+e2)(am:I.offset=e0+e1+e2+e3)(an:J.offset=e0+e1+e2+e3+e4)(A:X->Y->Z->α3->α4->α5->β)(c:β->Nat->Cell)(K:∀a0 l a2 a3 a4 a5,(∀j,j<e0->c (A a0 l a2 a3 a4 a5) (j)=c0 a0 j)/\(∀j,j<e1->c (A a0 l a2 a3 a4 a5) (e0+j)=c1 l j)/\(∀j,j<e2->c (A a0 l a2 a3 a4 a5) (e0+e1+j)=c2 a2 j)/\(∀j,j<e3->c (A a0 l a2 a3 a4 a5) (e0+e1+e2+j)=c3 a3 j)/\(∀j,j<e4->c (A a0 l a2 a3 a4 a5) (e0+e1+e2+e3+j)=c4 a4 j)/\(∀j,j<e5->c (A a0 l a2 a3 a4 a5) (e0+e1+e2+e3+e4+j)=c5 a5 j))(good:β->Prop)(hg:∀a0 l a2 a3 a4 a5,g0 a0->g1 l->g2 a2->g3 a3->g4 a4->g5 a5->good (A a0 l a2 a3 a4 a5))(m:β->Nat)(hm:∀a0 l a2 a3 a4 a5,m (A a0 l a2 a3 a4 a5)<=1+m0 a0+m1 l+m2 a2+m3 a3+m4 a4+m5 a5) :
  Reads P t β (e0+e1+e2+e3+e4+e5) c good m where
 cells:=hc
 read:=fun {H enc W N cs x} h hB=>by
  obtain⟨v,n,rfl,rfl,hl,y,B⟩:=DataW.trod_struct ht h;have ag:Rows.uptoBulkAll (v.map (·.1))+1<=1048576:=hB;obtain⟨Q,R,S,T,U,V,rfl⟩:∃Q R S T U V,v=[Q,R,S,T,U,V]:=by
   match v,y with
   | [Q,R,S,T,U,V],_=>exact⟨Q,R,S,T,U,V,rfl⟩
  simp only[IC,JG,Rows.uptoBulkAll]at ag;have t0:=B 0 D rfl;rw[ai,R0.cells]at t0;obtain⟨l0,a0,aa,ax,ao⟩:=R0.read t0 (by omega);have t1:=B 1 E rfl;rw[aj,R1.cells]at t1;obtain⟨l1,l,ab,ay,ap⟩:=R1.read t1 (by omega);have t2:=B 2 F rfl;rw[ak,R2.cells]at t2;obtain⟨l2,a2,ac,az,aq⟩:=R2.read t2 (by omega);have t3:=B 3 G rfl;rw[al,R3.cells]at t3;obtain⟨l3,a3,ad,ba,ar⟩:=R3.read t3 (by omega);have t4:=B 4 I rfl;rw[am,R4.cells]at t4;obtain⟨l4,a4,ae,bb,au⟩:=R4.read t4 (by omega);have t5:=B 5 J rfl;rw[an,R5.cells]at t5;obtain⟨l5,a5,af,bc,av⟩:=R5.read t5 (by omega);rw[hc]at hl;refine⟨hl,A a0 l a2 a3 a4 a5,hg a0 l a2 a3 a4 a5 aa ab ac ad ae af,?_,fun j hj=>?_⟩
  ·have:=hm a0 l a2 a3 a4 a5;show _<=Rows.uptoBulkAll (List.map (·.1) [Q,R,S,T,U,V])+1;simp only[IC,JG,Rows.uptoBulkAll];omega
  ·obtain⟨h0,w,h2,h3,h4,h5⟩:=K a0 l a2 a3 a4 a5;by_cases b0:j<e0
   ·obtain⟨z,b,d⟩:=ao j (by omega);refine⟨z,?_,by rw[h0 j (by omega)];exact d⟩;rw[ID (by omega),IE]at b;simpa using b
   by_cases b1:j<e0+e1
   ·obtain⟨q,rfl⟩:∃q,j=e0+q:=⟨j-(e0),by omega⟩
    obtain⟨z,b,d⟩:=ap q (by omega);refine⟨z,?_,by rw[w q (by omega)];exact d⟩;rw[ID (by omega),IE]at b;simpa using b
   by_cases b2:j<e0+e1+e2
   ·obtain⟨q,rfl⟩:∃q,j=e0+e1+q:=⟨j-(e0+e1),by omega⟩
    obtain⟨z,b,d⟩:=aq q (by omega);refine⟨z,?_,by rw[h2 q (by omega)];exact d⟩;rw[ID (by omega),IE]at b;simpa using b
   by_cases b3:j<e0+e1+e2+e3
   ·obtain⟨q,rfl⟩:∃q,j=e0+e1+e2+q:=⟨j-(e0+e1+e2),by omega⟩
    obtain⟨z,b,d⟩:=ar q (by omega);refine⟨z,?_,by rw[h3 q (by omega)];exact d⟩;rw[ID (by omega),IE]at b;simpa using b
   by_cases b4:j<e0+e1+e2+e3+e4
   ·obtain⟨q,rfl⟩:∃q,j=e0+e1+e2+e3+q:=⟨j-(e0+e1+e2+e3),by omega⟩
    obtain⟨z,b,d⟩:=au q (by omega);refine⟨z,?_,by rw[h4 q (by omega)];exact d⟩;rw[ID (by omega),IE]at b;simpa using b
   obtain⟨q,rfl⟩:∃q,j=e0+e1+e2+e3+e4+q:=⟨j-(e0+e1+e2+e3+e4),by omega⟩
   obtain⟨z,b,d⟩:=av q (by omega);refine⟨z,?_,by rw[h5 q (by omega)];exact d⟩;rw[ID (by omega),IE]at b;simpa using b
 again:=fun {H enc W N cs x sp} h hs=>by
  obtain⟨v,n,rfl,rfl,hl,y,B⟩:=DataW.trod_struct ht h;unfold DataW.trod;rw[ht];simp only;rw[A4 hl];have ah:(#[D,E,F,G,I,J]:Array Field).toList.mapM (fun f=>DataW.trod enc P W 0 sp true n f.type ((cs.drop f.offset).take (P.cellsOf f.type)))=some v:=by
   refine mapM_some_of_get _ _ (by simpa using y) fun i f hi=>?_;have g:(#[D,E,F,G,I,J]:Array Field)[i]?=some f:=by simpa using hi
   have w:=B i f g;have O:i<v.length:=by rw[y];exact (Array.getElem?_eq_some_iff.1 g).1
   have hy:v[i]?=some v[i]:=HQ O;have C:∀p∈v[i].2,sp p.block=true:=fun p C=>hs p (List.mem_flatMap.2 ⟨v[i],HT O,C⟩);rw[hy]at w ⊢;have aw:i<6:=(Array.getElem?_eq_some_iff.1 g).1;by_cases i0:i=0
   ·subst i0;obtain rfl:D=f:=Option.some.inj g;exact R0.again w C
   by_cases i1:i=1
   ·subst i1;obtain rfl:E=f:=Option.some.inj g;exact R1.again w C
   by_cases i2:i=2
   ·subst i2;obtain rfl:F=f:=Option.some.inj g;exact R2.again w C
   by_cases i3:i=3
   ·subst i3;obtain rfl:G=f:=Option.some.inj g;exact R3.again w C
   by_cases i4:i=4
   ·subst i4;obtain rfl:I=f:=Option.some.inj g;exact R4.again w C
   by_cases i5:i=5
   ·subst i5;obtain rfl:J=f:=Option.some.inj g;exact R5.again w C
   omega
  rw[ah];rfl
def BU:Cmd->Nat->Cell:=fun c j=>(FI c).getD j (.v undef)
def FT(c:Cmd):Nat:=c.Text.length
theorem xC:Reads Tryz.prog 37 Cmd 6 BU (fun _=>True) FT :=
 kZ (e0:=1) (e1:=1) (e2:=1) (e3:=1) (e4:=1) (e5:=1) (U6 Tryz.underlying3 (by kernel_rfl)) (U6 Tryz.underlying3 (by kernel_rfl)) (U6 Tryz.underlying3 (by kernel_rfl)) (U6 Tryz.underlying3 (by kernel_rfl)) (tO Tryz.underlying4 (by kernel_rfl)) (Y2 Tryz.underlying9 (by kernel_rfl)) Tryz.underlying37 (by kernel_rfl) rfl rfl rfl rfl rfl rfl
  (fun a b c d e f=>⟨a,b,c,d,e,f⟩) BU (fun a b c d e f=>⟨fun j g=>by (have e:j=0:=by omega);subst e;rfl,fun j g=>by (have e:j=0:=by omega);subst e;rfl,fun j g=>by (have e:j=0:=by omega);subst e;rfl,fun j g=>by (have e:j=0:=by omega);subst e;rfl,fun j g=>by (have e:j=0:=by omega);subst e;rfl,fun j g=>by (have e:j=0:=by omega);subst e;rfl⟩)
  _ (fun a b c d e f _ _ _ _ _ _=>trivial) _ (fun a b c d e f=>by simp only[FT];omega)
end Go.Proofs.YtbflhoahmmfkmaaGreatDoor
