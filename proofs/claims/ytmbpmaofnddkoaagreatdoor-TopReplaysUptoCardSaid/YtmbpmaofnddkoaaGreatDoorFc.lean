
/- Walks of the program's functions. -/
import Derived.Test.YtmbpmaofnddkoaaGreatDoorFb
set_option linter.all false
namespace Go.Proofs.YtmbpmaofnddkoaaGreatDoor
open Go Go.AL
open Go.Proofs.Tryz (prog)
set_option maxRecDepth 100000
set_option maxHeartbeats 4000000
def oZ(ks:List Nat)(ob:Obs):Obs:=(F2 ks ob).filter fun p=>!E8 ks p.1
theorem BL(k:Nat)(o:Ob):(o.forget k).free k=true:=by
 have key:∀b:List TC,(b.map (TC.forget k)).all (TC.free k)=true:=fun b=>by
  rw[List.all_map,B27];intro t _;exact TC.free_forget k t
 cases o with
 | box b=>exact key b
 | tbx e b=>exact key b
 | tarr n m b=>exact key b
 | growT e n m b=>exact key b
 | growA e α d c g p b=>exact key b
 | _=>rfl
theorem BM{k:Nat}:∀{Z:Obs},Nat.blt k 1000000=true->(∀p∈Z,p.1≠k/\p.2.free k=true)->J2 k Z=true
 | [],h,_=>h
 | (i,o)::r,h,hp=>by
  have a:=hp (i,o) (B52 ..);simp only[J2,B24,B60];exact⟨P3 a.1,a.2,BM h fun p b=>hp p (B46 _ b)⟩
theorem rX{k:Nat}:∀{Z:Obs} {j:Nat} {x:Ob},J2 k Z=true->B0 Z j=some x->j≠k/\x.free k=true
 | [],j,x,_,h=>by cases h
 | (i,o)::r,j,x,hz,h=>by
  simp only[J2,B24,B60]at hz;by_cases e:i=j
  ·subst e;rw[B4]at h;cases h;exact⟨fun e=>(by rw[e,Nat.beq_refl]at hz;cases hz.1),hz.2.1⟩
  ·rw[A7 e]at h;exact rX hz.2.2 h
theorem tT{k:Nat}{ks:List Nat}{ob:Obs}(c:E8 ks k=true)(hb:Nat.blt k 1000000=true):J2 k (oZ ks ob)=true:=by
 refine BM hb fun p d=>?_;obtain⟨a,b⟩:=List.mem_filter.1 d;refine⟨fun e=>(by rw[e,c]at b;cases b),?_⟩;rw[<-iW c]at a;obtain⟨q,_,rfl⟩:=B62.1 a;exact BL k q.2
theorem nW{f:Nat->Bool}:∀{ob:Obs} {j:Nat} {x:Ob},B0 (ob.filter fun p=>f p.1) j=some x->B0 ob j=some x
 | [],_,_,h=>by cases h
 | (i, o)::r,j,x,h=>by
  by_cases e:i=j
  ·subst e;rw[B99]at h;split at h
   ·rw[B4]at h ⊢;exact h
   ·rename_i g;exfalso;have:∀(r:Obs),B0 (r.filter fun p=>f p.1) i=none:=by
     intro r;induction r with
     | nil=>rfl
     | cons p r d =>
      obtain⟨a,b⟩:=p;rw[B99];split
      ·rename_i c;have:a≠i:=fun e=>g (by rw[e]at c;exact c);rw[A7 this];exact d
      ·exact d
    rw[this r]at h;cases h
  ·rw[B99]at h;rw[A7 e];split at h
   ·rw[A7 e]at h;exact nW h
   ·exact nW h
theorem oZ_base{K ks:List Nat}{ob:Obs}:∀j x,E8 K j=false->B0 (oZ ks ob) j=some x->B0 (F2 ks ob) j=some x:=fun _ _ _ h=>nW (f:=fun i=>!E8 ks i) h
theorem rA{K:List Nat}{k:Nat}{T Z:Obs}(c:J2 k Z=true)(h:∀j x,E8 K j=false->B0 Z j=some x->B0 T j=some x):∀j x,E8 K j=false->B0 Z j=some x->B0 (Obs.forget k T) j=some x:=by
 intro j x b a;rw[I8,h j x b a];show some (x.forget k)=some x;rw[Ob.forget_free (rX c a).2]
theorem getO_mapO(f:Ob->Ob):∀(ob:Obs) (j:Nat),B0 (A93 f ob) j=(B0 ob j).map f
 | [],_=>rfl
 | (i,o)::r,j=>by
  show B0 ((i,f o)::A93 f r) j=_;by_cases e:i=j
  ·subst e;rw[B4,B4];rfl
  ·rw[A7 e,A7 e,getO_mapO f r j]
theorem jY{k j:Nat}(h:j≠k):∀(ob:Obs),B0 (Obs.drop k ob) j=B0 ob j
 | []=>rfl
 | (i,o)::r=>by
  unfold Obs.drop;cases hb:Nat.beq i k
  ·show B0 ((i,o)::Obs.drop k r) j=_;by_cases e:i=j
   ·subst e;rw[B4,B4]
   ·rw[A7 e,A7 e,jY h r]
  ·have:i≠j:=fun e=>h (by rw[<-e];exact B49 hb);rw[A7 this];exact jY h r
theorem dD{K:List Nat}{k:Nat}{α:Type}{ec:Nat}{c:α->Nat->Cell}{xs:List α}{T Z:Obs}(f:J2 k Z=true)(h:∀j x,E8 K j=false->B0 Z j=some x->B0 T j=some x) :
  ∀j x,E8 K j=false->B0 Z j=some x->B0 (A93 (Ob.freeze k α ec c xs) (Obs.drop k T)) j=some x:=by
 intro j x e a;obtain⟨b,d⟩:=rX f a;rw[getO_mapO,jY b,h j x e a];show some (x.freeze k α ec c xs)=some x;rw[Ob.freeze_free d]
theorem BN{k:Nat}{α:Type}{e:Nat}{c:α->Nat->Cell}{g:List α}{s:SV}(h:s.free k=true):s.freeze k α e c g=s:=by
 cases s with
 | s x=>cases x with
  | one t=>simp only[SV.freeze,S1.freeze,TC.freeze_free (show t.free k=true from h)]
  | agg b=>simp only[SV.freeze,S1.freeze];rw[Y1 fun t a=>TC.freeze_free (B27.1 (show b.all (TC.free k)=true from h) t a)]
 | tup l =>
  simp only[SV.freeze];rw[Y1 fun x f=>?_];have d:=B27.1 (show l.all (S1.free k)=true from h) x f;cases x with
  | one t=>simp only[S1.freeze,TC.freeze_free (show t.free k=true from d)]
  | agg b=>simp only[S1.freeze];rw[Y1 fun t a=>TC.freeze_free (B27.1 (show b.all (TC.free k)=true from d) t a)]
 | _=>rfl
theorem rY{k:Nat}:∀{F:Fr},(∀p∈F,p.2.free k=true)->H7 k F=true
 | [],_=>rfl
 | (i,s)::r,h=>by
  simp only[H7,B24];exact⟨h (i,s) (B52 ..),rY fun p a=>h p (B46 _ a)⟩
theorem A54{F:Fr}{i:Nat}{s:SV}:C7 F i=some s->∃p∈F,p.2=s:=by
 induction F with
 | nil=>intro h;cases h
 | cons p r c =>
  obtain⟨j,t⟩:=p;intro h;by_cases e:j=i
  ·subst e;rw[C2]at h;cases h;exact⟨_,B52 ..,rfl⟩
  ·rw[B5 e]at h;obtain⟨q,a,b⟩:=c h;exact⟨q,B46 _ a,b⟩
theorem A55{a:List Nat}{k:Nat}{α:Type}{b:Nat}{c:α->Nat->Cell}{e:List α}{gf fr:Fr}(g:E8 a k=true)(h:Tail (B2 a gf) fr):Tail (B2 a gf) (B01 (SV.freeze k α b c e) fr):=by
 intro i s f d;have:=h i s f d;rw[pE,this];obtain⟨p,j,rfl⟩:=A54 d;show some (p.2.freeze k α b c e)=some p.2;rw[BN (u6 g p j)]
theorem N9{i k:Nat}{o:Ob}{r:Obs}(a:Nat.beq i k=false)(b:o.free k=true)(c:J2 k r=true):J2 k ((i,o)::r)=true:=by
 simp only[J2,a,b,c,Bool.not_false,Bool.and_self]
theorem nX{i k:Nat}{s:SV}{r:Fr}(a:s.free k=true)(b:H7 k r=true):H7 k ((i,s)::r)=true:=by
 simp only[H7,a,b,Bool.and_self]
theorem TM{b:Bool}(h:b=true):(true&&b)=true:=h
theorem and_tt{a b:Bool}(c:a=true)(d:b=true):(a&&b)=true:=by rw[c,d];rfl
theorem BO{X:Obs}:∀{Z:Obs} {a:List Nat},(∀j x,E8 a j=false->B0 Z j=some x->B0 X j=some x)->WG X a Z
 | [],_,_=>trivial
 | (k,o)::r,a,h=>by
  refine⟨?_,BO fun j x b f=>?_⟩
  ·cases c:E8 a k
   ·exact .inr (h k o c (B4 _ _ _))
   ·exact .inl rfl
  ·have d:k≠j/\E8 a j=false:=by
    refine⟨fun e=>?_,?_⟩
    ·have:E8 (k::a) j=true:=by rw[t8];exact e ▸ B52 ..
     rw[this]at b;cases b
    ·cases c:E8 a j
     ·rfl
     ·have:E8 (k::a) j=true:=by rw[t8];exact B46 _ (t8.1 c)
      rw[this]at b;cases b
   exact h j x d.2 (by rw[A7 d.1];exact f)
abbrev auto5:AL.Auto:=⟨[qAcc,qEnd,qSp,qSet,qSet,qSta],5⟩
theorem nY{gf:Fr}{ob:Obs}(i n:Int)(h:B0 ob 3=some (.box [.p (.v (.int .i64 n))])) :
  AL.Met prog 149 [Q5 i,.one (.ref 3 0)] gf ob [] (fun rs ob'=>rs=[qY (decide (0<=i/\i<n))]/\ob'=ob):=by
 refine AL.Met.intro Tryz.func149 F5 A0 A0 A0 (R9 ?_);refine E3 A0 A0 A0 A0 (fun a=>by rw[a];exact D1 A0 h A0) ?_;refine I0 ?_;refine D7 Y5 bZ (fun _ _ h=>h) ⟨?_,rfl⟩;rw[and_pick]
abbrev aa:Str:=[97,97]
structure AS where
 opn:List Int
 th:List AL.Thread
 sn:List Bool
def YV(x:AS):Int:=I6 x.opn (x.opn.length-1)
def addStep(a:Nat)(fr:Int)(x:AS):AS :=
 if L1 x.sn (YV x).toNat=true then ⟨x.opn.take (x.opn.length-1),x.th,x.sn⟩
 else ⟨x.opn.take (x.opn.length-1)++d5 (auto5.States.getD (YV x).toNat cY) (decide ((a:Int)=0)) (decide ((a:Int)=(aa.length:Int))),x.th++[⟨YV x,fr⟩],x.sn.set (YV x).toNat true⟩
def addIt(a:Nat)(fr:Int)(x:AS):Nat->AS
 | 0=>x
 | n+1=>addStep a fr (addIt a fr x n)
def TN(y:AS):Prop:=0<y.opn.length/\y.opn.length<=10/\0<=YV y/\YV y<6/\y.sn.length=6/\y.th.length<=10
instance (y:AS):Decidable (TN y):=by unfold TN;infer_instance
def addOk(a:Nat)(fr:Int)(x:AS)(n:Nat):Bool:=(List.range n).all (fun k=>decide (TN (addIt a fr x k)))
theorem KE(n:Nat)(d:n<=1000000):AL.Met prog 112 [.one (.p (.v (.slice none 0 0))),Q5 n] [] [] [] (fun rs ob'=>rs=[.one (.mut 803)]/\ob'=[(803,WS [])]):=by
 refine AL.Met.intro Tryz.func112 F5 A0 A0 A0 (H2 ?_);refine A9 (K8 _ 2 iK) A0 ?_;refine zc 7 (fun a=>?_) fun a=>?_
 ·have b:=A1 a;omega
 refine zz 13 ?_;rw[show (n:Int)-(0-0)=(n:Int) by omega];refine zc 5 (fun a=>?_) fun a=>?_
 ·have b:=A1 a;skip;refine R6 ?_;refine A9 (qP A0 A0) A0 (F8 ?_);refine B6 (GM 803 A0 A0 B3 B3 A0 A0) A0 (N0 ?_);rw[show Int.toNat 0=0 from rfl,B68];refine C3 (B07 (k:=803) (Str×Str) iK A0) (I0 ?_);exact D7 Y5 bZ (ObIn.spec (ob':=[(803,WS [])]) ⟨rfl,trivial⟩) ⟨rfl,rfl⟩
 ·refine C3 (B05 0 803 (Str×Str) 2 iK 95 A0 A0) (J5 ?_);exact D7 Y5 bZ (ObIn.spec (ob':=[(803,WS [])]) ⟨rfl,trivial⟩) ⟨rfl,rfl⟩
theorem EZ(B:List (List (Str×Str)))(f:FewB B):FnOk prog 69 [LR B] (fun rs=>rs=[pPairs B.flatten]):=by
 have C:=f.len;have j:B.flatten=bJ B B.length:=by unfold bJ;rw[B38]
 rw[j];refine FnOk.intro Tryz.func69 F5 A0 A0 A0 A0 (zz 16 ?_);refine C1 (X:=Nat) (fun i=>([(0,B9 (List (Str×Str)) 1 oS B),(3,B1 ((bJ B i).length:Nat)),(9,B9 (List (Str×Str)) 1 oS B),(10,B1 B.length),(11,B1 i)],[])) (fun i=>i<=B.length) (fun i=>B.length-i) 0 (B37 _) (C6) ?_;intro i x;dsimp only at x ⊢;have w:=lA f i;refine zc 5 (fun b=>?_) fun b=>?_
 ·have a:i<B.length:=by have c:=A1 b;(try dsimp only at c);omega
  obtain⟨l,d⟩:∃l,l=B[i]:=⟨_,rfl⟩
  have D:B[i]?=some l:=by rw[d];simp[a]
  have z:=f.lens l (by rw[d];exact B32 a);have v:((bJ B (i+1)).length:Int)=(bJ B i).length+l.length:=by rw[xH a,B25,d];omega
  refine zc 22 (fun b=>?_) fun b=>?_
  ·have c:=A1 b;omega
  refine I0 ?_;refine⟨i+1,by omega,by omega,?_⟩;rw[v];exact (C6)
 have y:i=B.length:=by have c:=A2 b;(try dsimp only at c);omega
 rw[y];have A:=lA f B.length;refine R6 ?_;refine mK (KE (bJ B B.length).length B3) A0 A0 A0 A0 ?_;rintro _ _ ⟨rfl,rfl⟩;refine⟨rfl,?_⟩;refine H2 ?_;refine X0 ?_;refine C1 (X:=Nat) (fun i=>([(6,.s (.one (.mut 803))),(25,B9 (List (Str×Str)) 1 oS B),(26,B1 B.length),(27,B1 i)],[(803,WS (bJ B i))])) (fun i=>i<=B.length) (fun i=>B.length-i) 0 (B37 _) (C6) ?_;intro i x;dsimp only at x ⊢;have w:=lA f i;refine zc 5 (fun b=>?_) fun b=>?_
 ·have a:i<B.length:=by have c:=A1 b;(try dsimp only at c);omega
  obtain⟨l,d⟩:∃l,l=B[i]:=⟨_,rfl⟩
  have D:B[i]?=some l:=by rw[d];simp[a]
  have z:=f.lens l (by rw[d];exact B32 a);have v:=xH a;rw[<-d]at v;refine eI ?_;refine B6 (R5 A0 A0 A0 (.pure _ _ _ _) B3 A0) A0 (N0 ?_);refine⟨i+1,by omega,by omega,?_⟩;rw[v];exact (C6)
 have q:i=B.length:=by have c:=A2 b;(try dsimp only at c);omega
 rw[q];refine H2 ?_;refine C3 (Sees.freezeG (k:=803) A0 A0) (I0 ?_);exact A8 (rs:=[pPairs (bJ B B.length)]) M3 rfl
def W4(B:List (List Str))(i:Nat):List Str:=(B.take i).flatten
theorem eX{B:List (List Str)}{i:Nat}(h:i<B.length):W4 B (i+1)=W4 B i++B[i]:=by
 unfold W4;rw[B48,B23 h,B54,B64];simp
theorem dW{B:List (List Str)}(h:B.flatten.length<=1000000)(i:Nat):(W4 B i).length<=1000000:=by
 have e:B.flatten=(B.take i).flatten++(B.drop i).flatten:=by rw[<-B64,B87]
 rw[e,B25]at h;unfold W4;omega
abbrev KF(l:List Str):Ob:=.grow 9 Str 1 K6 l
theorem OG(n:Nat)(d:n<=1000000):AL.Met prog 114 [.one (.p (.v (.slice none 0 0))),Q5 n] [] [] [] (fun rs ob'=>rs=[.one (.mut 804)]/\ob'=[(804,KF [])]):=by
 refine AL.Met.intro Tryz.func114 F5 A0 A0 A0 (H2 ?_);refine A9 (K8 _ 1 K6) A0 ?_;refine zc 7 (fun a=>?_) fun a=>?_
 ·have b:=A1 a;omega
 refine zz 13 ?_;rw[show (n:Int)-(0-0)=(n:Int) by omega];refine zc 5 (fun a=>?_) fun a=>?_
 ·have b:=A1 a;skip;refine R6 ?_;refine A9 (qP A0 A0) A0 (F8 ?_);refine B6 (GM 804 A0 A0 B3 B3 A0 A0) A0 (N0 ?_);rw[show Int.toNat 0=0 from rfl,B68];refine C3 (B07 (k:=804) Str K6 A0) (I0 ?_);exact D7 Y5 bZ (ObIn.spec (ob':=[(804,KF [])]) ⟨rfl,trivial⟩) ⟨rfl,rfl⟩
 ·refine C3 (B05 0 804 Str 1 K6 9 A0 A0) (J5 ?_);exact D7 Y5 bZ (ObIn.spec (ob':=[(804,KF [])]) ⟨rfl,trivial⟩) ⟨rfl,rfl⟩
theorem KG(B:List (List Str))(x:B.length<=1000)(b:B.flatten.length<=1000000):FnOk prog 71 [pStrss B] (fun rs=>rs=[aI B.flatten]):=by
 have E:=x;have j:B.flatten=W4 B B.length:=by unfold W4;rw[B38]
 rw[j];refine FnOk.intro Tryz.func71 F5 A0 A0 A0 A0 (zz 16 ?_);refine C1 (X:=Nat) (fun i=>([(0,B9 (List Str) 1 strsC B),(3,B1 ((W4 B i).length:Nat)),(9,B9 (List Str) 1 strsC B),(10,B1 B.length),(11,B1 i)],[])) (fun i=>i<=B.length) (fun i=>B.length-i) 0 (B37 _) (C6) ?_;intro i A;dsimp only at A ⊢;have y:=dW b i;refine zc 5 (fun c=>?_) fun c=>?_
 ·have a:i<B.length:=by have d:=A1 c;(try dsimp only at d);omega
  obtain⟨l,f⟩:∃l,l=B[i]:=⟨_,rfl⟩
  have F:B[i]?=some l:=by rw[f];simp[a]
  have q:=dW b (i+1);have z:(W4 B (i+1)).length=(W4 B i).length+l.length:=by rw[eX a,B25,f]
  have w:((W4 B (i+1)).length:Int)=(W4 B i).length+l.length:=by rw[eX a,B25,f];omega
  refine zc 22 (fun c=>?_) fun c=>?_
  ·have d:=A1 c;omega
  refine I0 ?_;refine⟨i+1,by omega,by omega,?_⟩;rw[w];exact (C6)
 have C:i=B.length:=by have d:=A2 c;(try dsimp only at d);omega
 rw[C];have D:=dW b B.length;refine R6 ?_;refine mK (OG (W4 B B.length).length B3) A0 A0 A0 A0 ?_;rintro _ _ ⟨rfl,rfl⟩;refine⟨rfl,?_⟩;refine H2 ?_;refine X0 ?_;refine C1 (X:=Nat) (fun i=>([(6,.s (.one (.mut 804))),(25,B9 (List Str) 1 strsC B),(26,B1 B.length),(27,B1 i)],[(804,KF (W4 B i))])) (fun i=>i<=B.length) (fun i=>B.length-i) 0 (B37 _) (C6) ?_;intro i A;dsimp only at A ⊢;have y:=dW b i;refine zc 5 (fun c=>?_) fun c=>?_
 ·have a:i<B.length:=by have d:=A1 c;(try dsimp only at d);omega
  obtain⟨l,f⟩:∃l,l=B[i]:=⟨_,rfl⟩
  have F:B[i]?=some l:=by rw[f];simp[a]
  have q:=dW b (i+1);have z:(W4 B (i+1)).length=(W4 B i).length+l.length:=by rw[eX a,B25,f]
  have w:=eX a;rw[<-f]at w;refine eI ?_;refine B6 (R5 A0 A0 A0 (.pure _ _ _ _) B3 A0) A0 (N0 ?_);refine⟨i+1,by omega,by omega,?_⟩;rw[w];exact (C6)
 have v:i=B.length:=by have d:=A2 c;(try dsimp only at d);omega
 rw[v];refine H2 ?_;refine C3 (Sees.freezeG (k:=804) A0 A0) (I0 ?_);exact A8 (rs:=[aI (W4 B B.length)]) M3 rfl
abbrev BP(l:List Int):Ob:=.arr Int 1 E0 l
abbrev U6(l:List Int):Ob:=.grow 3 Int 1 E0 l
theorem b0x{p:Prop}(h:p:=by repeat (first | exact R0 | refine P0 rfl ?_ | refine bH _ ?_)):p:=h
theorem HA{gf:Fr}{ob:Obs}(a d:List Int)(c:Nat)(C:c<a.length)(_hl:a.length<=1000000)(D:d.length<=1000000)(y:B0 ob 5=some (.box [.mut 753]))(z:B0 ob 7=some (.box [.mut 754]))(j:B0 ob 753=some (BP a))(k:B0 ob 754=some (U6 d)) :
  AL.Met prog 80 [.one (.p (.v (.int .i64 c))),.one (.ref 5 0),.one (.ref 7 0)] gf ob [754]
   (fun B ob'=>B=[]/\ob'=(5,.box [.mut 753])::(7,.box [.mut 754])::(753,BP (if I6 a c<0 then a.set c 0 else a))::(754,U6 (if I6 a c<0 then d++[(c:Int)] else d))::Obs.forget 754 ob):=by
 have q:=rV (l:=a) (p:=(c:Int)) B3;rw[B26]at q;refine AL.Met.introH Tryz.func80 F5 rfl rfl rfl (fun A=>?_);refine C3 (A92 754 (l:=[(0,B1 c),(1,.s (.one (.ref 5 0))),(2,.s (.one (.ref 7 0)))]) (L:=[(5,_),(7,_),(753,_),(754,_)]) lf A L6 ⟨y,z,j,k,trivial⟩) ?_;refine I0 ?_;refine A9 (N6 A0 A0 q A0) A0 ?_;refine zc 2 (fun w=>?_) fun w=>?_
 ·have g:I6 a c<0:=A1 w;rw[A5 g,A5 g];refine I0 ?_;refine V2 (L4 TySz.out A0 A0 B3 A0 A0) (R6 ?_);refine A9 (B8 (c:=E0) (ys:=[(c:Int)]) (C5 A0 A0 A0 A0 E5) A0 A0 A0) A0 (B6 (R5 A0 A0 A0 (.pure _ _ _ _) NZ A0) A0 (H2 ?_));skip;exact Q0 (fJ rfl) b0x (D4 (L:=[(5,_),(7,_),(753,_),(754,_)]) ⟨rfl,rfl,rfl,rfl,trivial⟩ b7w) ⟨rfl,rfl⟩
 ·have g:¬I6 a c<0:=A2 w;rw[A6 g,A6 g];refine k5 ?_;exact Q0 (fJ rfl) b0x (fun _ _ h=>h) ⟨rfl,rfl⟩
def iX(n i:Nat):List Int:=List.replicate i (-1)++List.replicate (n-i) 0
theorem TO{n i:Nat}(h:i<n):(iX n i).set i (-1)=iX n (i+1):=by
 unfold iX;rw[List.set_append_right _ _ eR,B86,B98,show n-i=(n-(i+1))+1 by omega,List.replicate_succ,List.set_cons_zero,List.replicate_succ',B51];rfl
theorem TP{n i:Nat}(h:i<=n):(iX n i).length=n:=by unfold iX;simp;omega
theorem DInv.last{g:Graph}{e:List Bool}{st:List Int}{k i:Nat}{l b D:List Int}(h:DInv g e st k i l b D)(m:0<b.length):∃c:Nat,b=b.take (b.length-1)++[(c:Int)]/\c<g.length/\b[b.length-1]?=some (c:Int):=by
 have d:b.length-1<b.length:=by omega
 have n:=h.on b[b.length-1] (List.mem_append_right _ (B32 d));have f:b[b.length-1]=(b[b.length-1].toNat:Int):=by omega
 refine⟨b[b.length-1].toNat,?_,by omega,by rw[B23 d];exact congrArg some f⟩;have j:b.take (b.length-1+1)=b:=B77 B3;rw[B48,B23 d,B54]at j;rw[<-f];exact j.symm
theorem KH(g:Graph)(s:List Int)(G:FewG g)(hr:related g=true)(hs:∀f∈s,0<=f/\f<g.length)(ap:s.length<=1048576) :
  AL.Met prog 40 [.one (.p (.list Commit 3 H0 g)),.one (.p (.list Int 1 E0 s))] [] [] [] (fun rs ob'=>∃h,rs=[.one (.mut 753)]/\ob'=[(753,BP h)]/\h.length=g.length/\∀p,p<g.length->I6 h p=if L1 (U3 g s) p=true then (wR g (U3 g s) [] p:Int) else -1):=by
 have hg:=G.len;have ae:=pQ hr hs;have U:=lM hr s hs;obtain⟨v,P⟩:∃v,v=U3 g s:=⟨_,rfl⟩
 have W:=@DInv.fin g s;rw[<-P]at ae U;refine AL.Met.intro Tryz.func40 F5 A0 A0 A0 (X0 ?_);refine B6 (eW 753 Int E0 0 A0 A0 B3 B3 (fun _=>b1w) b3x) A0 (B6 (E6 5 A0) A0 (N0 ?_));refine A9 (vO A0 A0) A0 (H8 ?_);rw[B26];refine C1 (X:=Nat) (fun i=>([(0,B9 Commit 3 H0 g),(1,B9 Int 1 E0 s),(5,.s (.one (.ref 5 0))),(18,B1 g.length),(19,B1 i)],[(5,.box [.mut 753]),(753,BP (iX g.length i))])) (fun i=>i<=g.length) (fun i=>g.length-i) 0 (B37 _) (by rw[show iX g.length 0=List.replicate g.length 0 by unfold iX;simp];exact (Sees.of ⟨cL rfl,cL rfl,cL rfl,leE A0 (by first | (simp;done) | (simp;omega)),cL rfl,trivial⟩ ⟨rfl,rfl,trivial⟩)) ?_;intro i hi;dsimp only at hi ⊢;have Z:=TP hi;refine zc 5 (fun C=>?_) fun C=>?_
 ·have B:i<g.length:=by have w:=A1 C;(try dsimp only at w);omega
  have al:=TO B;refine o9 ?_;refine A9 (I5 A0 A0 A0 B3 (by (rw[Z];omega))) A0 ?_;refine V2 (L4 TySz.out A0 A0 (by (rw[Z];omega)) A0 A0) ?_;refine I0 ?_;refine⟨i+1,by omega,by omega,?_⟩;rw[B26,al];exact (C6)
 have ag:i=g.length:=by have w:=A2 C;(try dsimp only at w);omega
 rw[ag,show iX g.length g.length=List.replicate g.length (-1) by unfold iX;simp];have af:=DInv.start g v;refine H8 ?_;refine B6 (E6 7 A0) A0 (H2 ?_);refine C3 (A96 754 Int 1 E0 3 (kb:=7) (o:=0) A0 A0 A0) (eI ?_);refine C1 (X:=Nat×List Int×List Int) (fun x=>([(0,B9 Commit 3 H0 g),(5,.s (.one (.ref 5 0))),(7,.s (.one (.ref 7 0))),(8,.s (.one (.clo 80 [] [(5,0),(7,0)]))),(27,B9 Int 1 E0 s),(28,B1 s.length),(29,B1 x.1)],[(5,.box [.mut 753]),(7,.box [.mut 754]),(753,BP x.2.1),(754,U6 x.2.2)])) (fun x=>x.1<=s.length/\DInv g v (s.take x.1) 0 0 x.2.1 x.2.2 []) (fun x=>s.length-x.1) (0,List.replicate g.length (-1),[]) ⟨B37 _,af⟩ (C6) ?_;rintro⟨j,h,d⟩ ⟨hj,q⟩;dsimp only at hj q ⊢;have L:=q.le;have F:=q.len;rw[List.length_nil,B70]at L;refine zc 5 (fun C=>?_) fun C=>?_
 ·have B:j<s.length:=by have w:=A1 C;(try dsimp only at w);omega
  have aq:=hs _ (B32 B);obtain⟨c,hc⟩:∃c:Nat,s[j]=(c:Int):=⟨s[j].toNat,by omega⟩
  have hv:s[j]?=some (c:Int):=by rw[B23 B,hc]
  have E:c<g.length:=by omega
  have aj:L1 v c=true:=(ae c).2 ⟨c,by rw[<-hc];exact B32 B,.inl rfl⟩
  obtain⟨K,_⟩:=q.reach (B29 _) E aj (s.take (j+1)) (fun f G=>by
   rw[S9 B]at G;rcases G with G | G
   ·exact .inl G
   ·right;rw[G,hc])
  refine eI ?_;refine iP (HA h d c B3 B3 B3 A0 A0 A0 A0) A0 A0 A0 A0 ?_;rintro _ _ ⟨rfl,rfl⟩;refine I0 ?_;exact⟨(j+1,if I6 h c<0 then h.set c 0 else h,if I6 h c<0 then d++[(c:Int)] else d),⟨B,K⟩,by dsimp only;omega,(C6)⟩
 have ah:j=s.length:=by have w:=A2 C;(try dsimp only at w);omega
 rw[ah,B38]at q;refine H8 ?_;refine C1 (X:=List Int×List Int×List Int) (fun x=>([(0,B9 Commit 3 H0 g),(5,.s (.one (.ref 5 0))),(7,.s (.one (.ref 7 0))),(8,.s (.one (.clo 80 [] [(5,0),(7,0)])))],[(5,.box [.mut 753]),(7,.box [.mut 754]),(753,BP x.1),(754,U6 x.2.1)])) (fun x=>DInv g v s x.2.2.length 0 x.1 x.2.1 x.2.2) (fun x=>g.length-x.2.2.length) (h,d,[]) q (C6) ?_;rintro⟨h,d,D⟩ q;dsimp only at q ⊢;have L:=q.le;have F:=q.len;refine zc 7 (fun C=>?_) fun C=>?_;rotate_left
 ·have w:d=[]:=by
   have w:=A2 C;exact List.length_eq_zero_iff.1 B3
  rw[w]at q;have hF:=W hr hs (by rw[<-P];exact q);refine J5 ?_;exact D7 Y5 bZ (ObIn.spec (ob':=[(753,BP h)]) ⟨rfl,trivial⟩) ⟨h,rfl,rfl,F,hF⟩
 have h0:0<d.length:=by have w:=A1 C;omega
 obtain⟨c,e1,E,S⟩:=DInv.last q h0;obtain⟨z,ad⟩:∃z,z=d.take (d.length-1):=⟨_,rfl⟩
 have S:d[((d.length:Int)-1).toNat]?=some (c:Int):=by rw[show ((d.length:Int)-1).toNat=d.length-1 by omega];exact S
 have V:d.take ((d.length:Int)-1).toNat=z:=by rw[ad];congr 1;omega
 rw[<-ad]at e1;have hP:=(by rw[e1]at q;exact q:DInv g v s D.length 0 h (z++[(c:Int)]) D).pop;obtain⟨A,Q⟩:∃A,A=g[c]:=⟨_,rfl⟩
 have ar:g[((c:Nat):Int).toNat]?=some A:=by rw[Q];simp[E]
 have H:D8 g c=A.Parents:=by rw[bQ E,Q]
 have ao:=G.pars A (by rw[Q];exact B32 E);have ab:L1 v c=true:=by
  have:=(hP.on (c:Int) eR).2.2
  rwa[B26]at this
 have Y:(D++[(c:Int)]).getD D.length 0=(c:Int):=by
  rw[B30,B61 (B29 _),B98];rfl
 refine U7 ?_;refine A9 (V8 A0 A0 S A0) A0 (o9 ?_);rw[V];refine o9 ?_;refine C1 (X:=Nat×List Int×List Int) (fun x=>([(0,B9 Commit 3 H0 g),(5,.s (.one (.ref 5 0))),(7,.s (.one (.ref 7 0))),(8,.s (.one (.clo 80 [] [(5,0),(7,0)]))),(55,B9 Int 1 E0 A.Parents),(56,B1 A.Parents.length),(57,B1 x.1)],[(5,.box [.mut 753]),(7,.box [.mut 754]),(753,BP x.2.1),(754,U6 x.2.2)])) (fun x=>x.1<=A.Parents.length/\DInv g v s D.length x.1 x.2.1 x.2.2 (D++[(c:Int)])) (fun x=>A.Parents.length-x.1) (0,h,z) ⟨B37 _,hP⟩ (C6) ?_;rintro⟨i,h,d⟩ ⟨hi,q⟩;dsimp only at hi q ⊢;have L:=q.le;have F:=q.len;rw[B25,B41]at L;refine zc 5 (fun C=>?_) fun C=>?_;rotate_left
 ·have w:i=A.Parents.length:=by have w:=A2 C;(try dsimp only at w);omega
  rw[w,<-H]at q;have hN:=q.next (k:=D.length) eR Y;refine F8 ?_;exact⟨(h,d,D++[(c:Int)]),hN,by dsimp only;rw[B25,B41];omega,(C6)⟩
 have y:i<A.Parents.length:=by have w:=A1 C;(try dsimp only at w);omega
 have an:=(K9 hr c).1 A.Parents[i] (by rw[H];exact B32 y);obtain⟨p,hp⟩:∃p:Nat,A.Parents[i]=(p:Int):=⟨A.Parents[i].toNat,by omega⟩
 have au:A.Parents[i]?=some (p:Int):=by rw[B23 y,hp]
 have ak:p<g.length:=by omega
 have ac:L1 v p=true:=by
  have:=U c ab (p:Int) (by rw[H,<-hp];exact B32 y)
  rwa[B26]at this
 obtain⟨K,ai⟩:=q.reach eR ak ac s (fun f G=>.inl G);obtain⟨q1,q2,T⟩:=K.count hr Y (i:=i) (p:=p) (by rw[H];exact y) (by simp only[H];exact hp) ai;have M:=K.len;refine zz 13 ?_;refine iP (HA h d p B3 B3 B3 A0 A0 A0 A0) A0 A0 A0 A0 ?_;rintro _ _ ⟨rfl,rfl⟩;refine F8 ?_;obtain⟨J,O⟩:∃J,J=(if I6 h p<0 then h.set p 0 else h):=⟨_,rfl⟩
 obtain⟨I,R⟩:∃I,I=(if I6 h p<0 then d++[(p:Int)] else d):=⟨_,rfl⟩
 rw[<-O]at q1 q2 M;rw[<-O,<-R]at T ⊢;have am:=rV (l:=J) (p:=(p:Int)) B3;refine H8 ?_;refine A9 (I5 A0 A0 A0 B3 (by (rw[M];omega))) A0 ?_;refine A9 (N6 A0 A0 am A0) A0 (A9 (X6 A0 A0 (by (rw[B26];omega))) A0 ?_);refine A9 (I5 A0 A0 A0 B3 (by (rw[M];omega))) A0 ?_;refine V2 (L4 TySz.out A0 A0 (by (rw[M];omega)) A0 A0) ?_;refine I0 ?_;exact⟨(i+1,bump J p,I),⟨y,T⟩,by dsimp only;omega,(C6)⟩
abbrev lC(g:Graph):Ob:=.box [.mut 741,.fnc 41 [.list Commit 3 H0 g]]
abbrev sI(n:Int):S1:=.one (.p (.v (.int .i64 n)))
abbrev sIf(n:Int):S1:=.one (.p (.v (.iface 3 (.int .i64 n))))
abbrev FA:S1:=.one (.ifc 102 740 0)
theorem WV{g:Graph}{c:Int}(h:0<=c/\c<g.length):∃b,g[c.toNat]?=some b/\eM g c.toNat=b.Date:=by
 have a:c.toNat<g.length:=by omega
 exact⟨g[c.toNat],by simp[a],by unfold eM;rw[B23 a];rfl⟩
theorem YW(g:Graph)(a b:Int)(_hg:g.length<=1048576)(ha:0<=a/\a<g.length)(hb:0<=b/\b<g.length):FnOk prog 41 [N2 g,E2 a,E2 b] (fun h=>h=[F6 (T5 g a b)]):=by
 obtain⟨x,i,d⟩:=WV ha;obtain⟨y,j,e⟩:=WV hb;unfold T5;rw[d,e];refine FnOk.intro Tryz.func41 F5 A0 A0 A0 A0 (zz 17 ?_);refine D2 (zT A0 A0) A0 A0 ?_;refine zc 1 (fun c=>?_) fun c=>?_
 ·have f:x.Date≠y.Date:=A1 c;refine zz 16 ?_;refine A8 M3 (congrArg (fun b=>[F6 b]) (decide_eq_decide.2 ?_));omega
 ·have f:¬x.Date≠y.Date:=A2 c;refine U7 ?_;refine A8 M3 (congrArg (fun b=>[F6 b]) (decide_eq_decide.2 ?_));omega
theorem BQ{gf:Fr}{ob:Obs}(g:Graph)(l:List Int)(a:B0 ob 740=some (lC g))(b:B0 ob 741=some (U6 l)) :
  AL.Met prog 43 [.one (.ref 740 0)] gf ob [] (fun rs ob'=>rs=[sI l.length]/\ob'=ob):=by
 refine AL.Met.intro Tryz.func43 F5 A0 A0 A0 (U7 ?_);refine A9 (D1 A0 a A0) A0 (A9 (JE A0 b) A0 (H8 ?_));exact D7 Y5 bZ (fun _ _ h=>h) ⟨rfl,rfl⟩
theorem wD{gf:Fr}{ob:Obs}(g:Graph)(l:List Int)(i j:Nat)(w:g.length<=1048576)(u:∀x∈l,0<=x/\x<(g.length:Int))(d:i<l.length)(k:j<l.length)(m:B0 ob 740=some (lC g))(c:B0 ob 741=some (U6 l)) :
  AL.Met prog 259 [.one (.ref 740 0),sI i,sI j] gf ob [] (fun y ob'=>y=[.one (.p (.v (.bool (T5 g (I6 l i) (I6 l j)))))]/\ob'=ob):=by
 have q:l[((i:Nat):Int).toNat]?=some (I6 l i):=by rw[B26,P7 d];simp[d]
 have s:l[((j:Nat):Int).toNat]?=some (I6 l j):=by rw[B26,P7 k];simp[k]
 have hb:=YW g (I6 l i) (I6 l j) w (by rw[P7 d];exact u _ (B32 d)) (by rw[P7 k];exact u _ (B32 k));refine AL.Met.intro Tryz.func259 F5 A0 A0 A0 (U7 ?_);refine D2 (D1 A0 m A0) A0 A0 (H8 ?_);refine D2 (D1 A0 m A0) A0 A0 (F8 ?_);refine D2 (G3 A0 c A0 B3 B3) A0 A0 (D2 (V8 A0 c q A0) A0 A0 (H8 ?_));refine D2 (D1 A0 m A0) A0 A0 (F8 ?_);refine D2 (G3 A0 c A0 B3 B3) A0 A0 (D2 (V8 A0 c s A0) A0 A0 (D2 (n_callC (hb) A0 A0 A0) A0 A0 (H8 ?_)));exact D7 Y5 bZ (fun _ _ h=>h) ⟨rfl,rfl⟩
theorem wE{gf:Fr}{ob:Obs}(g:Graph)(l:List Int)(i j:Nat)(x:i<l.length)(q:j<l.length)(y:B0 ob 740=some (lC g))(v:B0 ob 741=some (U6 l)) :
  AL.Met prog 262 [.one (.ref 740 0),sI i,sI j] gf ob [] (fun B ob'=>B=[]/\ob'=(741,U6 (o4 l i j))::ob):=by
 have d:l[((i:Nat):Int).toNat]?=some (I6 l i):=by rw[B26,P7 x];simp[x]
 have m:l[((j:Nat):Int).toNat]?=some (I6 l j):=by rw[B26,P7 q];simp[q]
 obtain⟨a,ha⟩:∃a,a=I6 l i:=⟨_,rfl⟩
 obtain⟨b,hb⟩:∃b,b=I6 l j:=⟨_,rfl⟩
 rw[<-ha]at d;rw[<-hb]at m;have p:(l.set ((i:Nat):Int).toNat b)[((j:Nat):Int).toNat]?=some (I6 (l.set i b) j):=by
  rw[B26,B26];have:j<(l.set i b).length:=by rw[B76];exact q
  rw[P7 this];simp[q]
 have w:(l.set ((i:Nat):Int).toNat b).set ((j:Nat):Int).toNat a=o4 l i j:=by rw[ha,hb];rfl
 have c:B0 ((741,U6 l)::ob) 740=some (lC g):=by rw[A7 F5];exact y
 refine AL.Met.introH Tryz.func262 F5 rfl rfl rfl (fun A=>?_);refine C3 (A91 (l:=[(0,.s (.one (.ref 740 0))),(1,B1 i),(2,B1 j)]) (ob':=(741,U6 l)::ob) lf A L6 (D4 (L:=[(741,_)]) ⟨v,trivial⟩ N7)) ?_;skip;refine L8 [27,25] [[],[25],[27,25]] [(25,([],[])),(27,([],[]))] [(0,[]),(1,[]),(2,[]),(3,[]),(4,[]),(5,[]),(6,[]),(7,[]),(8,[]),(9,[]),(10,[]),(11,[]),(12,[]),(13,[]),(14,[]),(15,[]),(16,[]),(17,[]),(18,[]),(19,[]),(20,[]),(21,[]),(22,[]),(23,[]),(24,[]),(25,[]),(26,[25]),(27,[25])] [(9,[25])] E7 E7 (C8 A0 A0 E7 A0 A0 (C4 A0 A0) (C8 A0 A0 E7 A0 A0 (C9 A0) (C8 A0 A0 E7 A0 A0 (D3 A0) (C8 A0 A0 E7 A0 A0 (D1 A0 c A0) (C8 A0 A0 E7 A0 A0 (C4 A0 A0) (C8 A0 A0 E7 A0 A0 (C4 A0 A0) (C8 A0 A0 E7 A0 A0 (C9 A0) (C8 A0 A0 E7 A0 A0 (D3 A0) (C8 A0 A0 E7 A0 A0 (D1 A0 c A0) (C8 A0 A0 E7 A0 A0 (C4 A0 A0) (C8 A0 A0 E7 A0 A0 (C4 A0 A0) (C8 A0 A0 E7 A0 A0 (C9 A0) (C8 A0 A0 E7 A0 A0 (D3 A0) (C8 A0 A0 E7 A0 A0 (D1 A0 c A0) (C8 A0 A0 E7 A0 A0 (C4 A0 A0) (C8 A0 A0 E7 A0 A0 (G3 A0 A0 A0 B3 B3) (C8 A0 A0 E7 A0 A0 (V8 A0 A0 m A0) (C8 A0 A0 E7 A0 A0 (C4 A0 A0) (C8 A0 A0 E7 A0 A0 (C9 A0) (C8 A0 A0 E7 A0 A0 (D3 A0) (C8 A0 A0 E7 A0 A0 (D1 A0 c A0) (C8 A0 A0 E7 A0 A0 (C4 A0 A0) (C8 A0 A0 E7 A0 A0 (G3 A0 A0 A0 B3 (by (first | omega | (rw[B76];omega)))) ?_)))))))))))))))))))))));refine C8 A0 A0 E7 A0 A0 (V8 A0 A0 d A0) (C8 A0 A0 E7 A0 A0 (G3 A0 A0 A0 B3 B3) (Y4 A0 A0 E7 A0 A0 (gS (fun u k=>o8 (b) TySz.out (T4 k A0) A0 d (T4 k A0) A0 A0 A0 (fun _ _ _ h=>m8 h) (by intro j v z;rcases j with _ | _ | _ | _ | _ | _ | _ | j<;>first | rfl | omega))) A0 ?_));refine C8 A0 A0 E7 A0 A0 (G3 A0 A0 A0 B3 (by (rw[B76];omega))) ?_;refine Y4 A0 A0 E7 A0 A0 (gS (fun u k=>o8 (a) TySz.out (T4 k A0) A0 p (T4 k A0) A0 A0 A0 (fun _ _ _ h=>m8 h) (by intro j v z;rcases j with _ | _ | _ | _ | _ | _ | _ | j<;>first | rfl | omega))) A0 ?_;refine xB E7 rfl ?_ ?_
 ·refine J1 A0 A0 E7 A0 A0 (C4 A0 A0) ?_;exact jT
 rw[w];skip;exact Q0 (fJ rfl) b2y (D4 (L:=[(741,_)]) ⟨rfl,trivial⟩ SY) ⟨rfl,rfl⟩
theorem YX{gf:Fr}{ob:Obs}(g:Graph)(l:List Int)(c:Int)(k:l.length<=1048576)(d:B0 ob 740=some (lC g))(h:B0 ob 741=some (U6 l)) :
  AL.Met prog 261 [.one (.ref 740 0),sIf c] gf ob [741] (fun j ob'=>j=[]/\ob'=(740,lC g)::(741,U6 (l++[c]))::Obs.forget 741 ob):=by
 refine AL.Met.introH Tryz.func261 F5 rfl rfl rfl (fun i=>?_);refine C3 (A92 741 (l:=[(0,.s (.one (.ref 740 0))),(1,.s (sIf c))]) (L:=[(740,_),(741,_)]) lf i L6 ⟨d,h,trivial⟩) ?_;skip;refine L8 [11,8] [[],[8],[11,8]] [(8,([741],[8])),(11,([],[]))] [(0,[]),(1,[]),(2,[]),(3,[]),(4,[]),(5,[]),(6,[]),(7,[]),(8,[]),(9,[8]),(10,[8]),(11,[8])] [(0,[8])] E7 E7 (C8 A0 A0 E7 A0 A0 (C4 A0 A0) (C8 A0 A0 E7 A0 A0 (C4 A0 A0) (C8 A0 A0 E7 A0 A0 (C9 A0) (C8 A0 A0 E7 A0 A0 (D3 A0) (C8 A0 A0 E7 A0 A0 (D1 A0 A0 A0) (C8 A0 A0 E7 A0 A0 (C4 A0 A0) (C8 A0 A0 E7 A0 A0 (xE A0 A0) (C8 A0 A0 E7 A0 A0 (B8 (c:=E0) (ys:=[c]) (C5 A0 A0 A0 A0 E5) A0 A0 A0) (Y4 A0 A0 E7 A0 A0 (vX (fun b a=>R5 (T4 a A0) A0 (T4 a A0) (.pure _ _ _ _) NZ A0)) A0 (C8 A0 A0 E7 A0 A0 (C9 A0) (C8 A0 A0 E7 A0 A0 (D3 A0) (Y4 A0 A0 E7 A0 A0 (gS (fun b a=>I9 TySz.out (T4 a A0) A0 (T4 a A0) A0 A0 A0)) A0 ?_))))))))))));refine vY (ks:=[741]) rfl E7 rfl ?_ ?_
 ·refine J1 A0 A0 E7 A0 A0 (C4 A0 A0) ?_;exact jT
 skip;exact Q0 (fJ rfl) b9w (D4 (L:=[(740,_),(741,_)]) ⟨rfl,rfl,trivial⟩ b7w) ⟨rfl,rfl⟩
theorem b9x{p:Prop}(h:p:=by repeat (first | exact R0 | refine P0 rfl ?_ | refine bH _ ?_ | refine aK _ ?_)):p:=h
theorem A56{gf:Fr}{ob:Obs}(g:Graph)(l:List Int)(p:l.length<=1048576)(m:0<l.length)(c:B0 ob 740=some (lC g))(d:B0 ob 741=some (U6 l)) :
  AL.Met prog 260 [.one (.ref 740 0)] gf ob [741] (fun k ob'=>k=[sIf (I6 l (l.length-1))]/\ob'=(740,lC g)::(741,U6 (l.take (l.length-1)))::Obs.forget 741 ob):=by
 have b:l.length-1<l.length:=by omega
 have j:l[((l.length:Int)-1).toNat]?=some (I6 l (l.length-1)):=by rw[show ((l.length:Int)-1).toNat=l.length-1 by omega,P7 b];simp[b]
 have i:l.take ((l.length:Int)-1).toNat=l.take (l.length-1):=by congr 1;omega
 refine AL.Met.introH Tryz.func260 F5 rfl rfl rfl (fun h=>?_);refine C3 (A92 741 (l:=[(0,.s (.one (.ref 740 0)))]) (L:=[(740,_),(741,_)]) ⟨cL rfl,trivial⟩ h L6 ⟨c,d,trivial⟩) ?_;refine zz 22 ?_;refine A9 (V8 A0 A0 j A0) A0 (zz 15 ?_);rw[i];refine J5 ?_;exact D7 Y5 b9x (D4 (L:=[(740,_),(741,_)]) ⟨rfl,rfl,trivial⟩ b7w) ⟨rfl,rfl⟩
theorem up_div(j:Nat)(a:j<=1048576):IntKind.i64.wrap (((j:Int)-1).tdiv 2)=(((j-1) / 2:Nat):Int):=by
 have h:((j:Int)-1).tdiv 2=(((j-1) / 2:Nat):Int):=by
  cases j with
  | zero=>rfl
  | succ j =>
   rw[show (((j+1:Nat):Int)-1)=(j:Int) by omega,Int.tdiv_eq_ediv_of_nonneg B3];omega
 rw[h];exact IntWalk.i64_in _ ⟨by omega,by omega⟩
theorem BR{l:List Int}{n:Int}{i j:Nat}(a:i<l.length)(b:j<l.length)(h:∀x∈l,0<=x/\x<n):∀x∈o4 l i j,0<=x/\x<n:=fun x c=>h x ((IL a b x).1 c)
theorem hUp_met{gf:Fr}{ob:Obs}(g:Graph)(l:List Int)(j:Nat)(F:g.length<=1048576)(K:l.length<=1048576)(H:∀x∈l,0<=x/\x<(g.length:Int))(G:j<l.length)(D:B0 ob 740=some (lC g))(E:B0 ob 741=some (U6 l)) :
  AL.Met prog 81 [FA,sI j] gf ob [] (fun I ob'=>I=[]/\ob'=(741,U6 (upH (T5 g) (j+1) l j))::ob):=by
 have q:∀o,B0 ((741,o)::ob) 740=some (lC g):=fun o=>by rw[A7 F5];exact D
 refine AL.Met.introH Tryz.func81 F5 rfl rfl rfl (fun z=>?_);refine k3 ?_;obtain⟨R,A⟩:∃R,R=upH (T5 g) (j+1) l j:=⟨_,rfl⟩
 rw[<-A];refine C1 (X:=Nat×List Int×Nat) (fun x=>([(0,.s FA),(1,B1 x.2.2)]++gf,(741,U6 x.2.1)::ob)) (fun x=>upH (T5 g) x.1 x.2.1 x.2.2=R/\x.2.2<x.1/\x.2.1.length=l.length/\x.2.2<l.length/\∀y∈x.2.1,0<=y/\y<(g.length:Int)) (fun x=>x.1) (j+1,l,j) ⟨A.symm,by dsimp only;omega,rfl,G,H⟩ ?_ ?_
 ·exact A91 lf z L6 (D4 (L:=[(741,_)]) ⟨E,trivial⟩ N7)
 rintro⟨f,d,k⟩ ⟨c,v,t,hkl,m⟩;dsimp only at c v t hkl m ⊢;obtain⟨f,rfl⟩:∃C,f=C+1:=⟨f-1,by omega⟩
 rw[upH]at c;have u:=up_div k B3;have e:(k-1) / 2<d.length:=by omega
 refine I0 ?_;refine A9 (IX A0 A0 F5) A0 (H2 ?_);rw[u];refine H2 ?_;by_cases B:(k-1) / 2=k
 ·rw[A5 (.inl B)]at c;have b:decide ((((k-1) / 2:Nat):Int)=(k:Int))=true:=A3 B3;refine I0 ?_;refine H5 A0 A0 A0 (by rw[b];decide) A0 ?_;refine H5 A0 A0 A0 (by rw[b];decide) A0 ?_;refine H5 A0 A0 A0 (by rw[b];decide) A0 ?_;refine H5 A0 A0 A0 (by rw[b];decide) A0 ?_;refine H5 A0 A0 A0 (by rw[b];decide) A0 ?_;refine A9 (Y2 A0 (b) A0) A0 ?_;refine zc 1 (fun p=>?_) fun p=>?_
  ·refine F8 ?_;rw[<-c];exact Q0 (fJ rfl) bZ (fun _ _ h=>h) ⟨rfl,rfl⟩
  ·cases p
 ·have b:decide ((((k-1) / 2:Nat):Int)=(k:Int))=false:=A4 B3;refine I0 ?_;refine E4 A0 A0 A0 b (F8 ?_);refine E4 A0 A0 A0 b (F8 ?_);refine E4 A0 A0 A0 b (F8 ?_);refine E4 A0 A0 A0 b (iR (fun a J w=>by kernel_rfl) (wD g d k ((k-1) / 2) F m B3 e (q _) A0) A0 A0 A0 A0 ?_);rintro _ _ ⟨rfl,rfl⟩;refine E4 A0 A0 A0 b (F8 ?_);refine A9 (Y3 A0 (b) A0) A0 ?_;refine zc 1 (fun p=>?_) fun p=>?_
  ·have hb:T5 g (I6 d k) (I6 d ((k-1) / 2))=false:=by simpa using p
   rw[A5 (.inr hb)]at c;refine F8 ?_;rw[<-c];exact Q0 (fJ rfl) bZ (fun _ _ h=>h) ⟨rfl,rfl⟩
  ·have hb:T5 g (I6 d k) (I6 d ((k-1) / 2))=true:=by simpa using p
   rw[A6 (by rw[hb];simp[B])]at c;refine N0 ?_;refine iR (fun a J w=>by kernel_rfl) (wE g d ((k-1) / 2) k e B3 (q _) A0) A0 A0 A0 A0 ?_;rintro _ _ ⟨rfl,rfl⟩;refine I0 ?_;refine⟨(f,o4 d ((k-1) / 2) k,(k-1) / 2),⟨c,by dsimp only;omega,by dsimp only;rw[O1];exact t,by dsimp only;omega,BR e B3 m⟩,by dsimp only;omega,?_⟩;exact A91 lf z L6 (D4 (L:=[(741,_)]) ⟨rfl,trivial⟩ SY)
theorem YY{gf:Fr}{ob:Obs}(g:Graph)(l:List Int)(n:Nat)(K:g.length<=1048576)(Z:l.length<=1048576)(W:∀x∈l,0<=x/\x<(g.length:Int))(hn:n<=l.length)(S:B0 ob 740=some (lC g))(T:B0 ob 741=some (U6 l)) :
  AL.Met prog 82 [FA,sI 0,sI n] gf ob [] (fun Y ob'=>∃b,Y=[.one (.p (.v (.bool b)))]/\ob'=(741,U6 (gC (T5 g) n (n+1) l 0))::ob):=by
 have u:∀o,B0 ((741,o)::ob) 740=some (lC g):=fun o=>by rw[A7 F5];exact S
 refine AL.Met.introH Tryz.func82 F5 rfl rfl rfl (fun C=>?_);refine o9 ?_;obtain⟨R,J⟩:∃R,R=gC (T5 g) n (n+1) l 0:=⟨_,rfl⟩
 rw[<-J];refine C1 (X:=Nat×List Int×Nat) (fun x=>([(0,.s FA),(1,B1 0),(2,B1 n),(7,B1 x.2.2)]++gf,(741,U6 x.2.1)::ob)) (fun x=>gC (T5 g) n x.1 x.2.1 x.2.2=R/\n<x.1+x.2.2/\x.2.1.length=l.length/\x.2.2<=l.length/\∀y∈x.2.1,0<=y/\y<(g.length:Int)) (fun x=>x.1) (n+1,l,0) ⟨J.symm,by dsimp only;omega,rfl,B37 _,W⟩ ?_ ?_
 ·exact A91 lf C L6 (D4 (L:=[(741,_)]) ⟨T,trivial⟩ N7)
 rintro⟨f,c,i⟩ ⟨q,H,D,F,r⟩;dsimp only at q H D F r ⊢;have A:n<=2*i+1->c=R:=fun h=>by
  cases f with
  | zero=>exact q
  | succ f=>rw[gC,A5 h]at q;exact q
 refine zc 19 (fun m=>?_) fun m=>?_
 ·have U:=A1 (or_pick.symm.trans m);rw[A B3];refine U7 ?_;exact D7 Y5 bZ (fun _ _ h=>h) ⟨_,rfl,rfl⟩
 have U:=A2 (or_pick.symm.trans m);have G:2*i+1<n:=by omega
 obtain⟨f,rfl⟩:∃Q,f=Q+1:=⟨f-1,by omega⟩
 rw[gC,A6 B3]at q;obtain⟨N,O,P⟩:=XR (bf:=T5 g) (l:=c) G;have t:yZ (T5 g) n c i=if 2*i+2<n/\T5 g (I6 c (2*i+2)) (I6 c (2*i+1))=true then 2*i+2 else 2*i+1:=rfl
 obtain⟨j,V⟩:∃j,j=yZ (T5 g) n c i:=⟨_,rfl⟩
 rw[<-V]at q N O P t;rw[show 2*(i:Int)+1=((2*i+1:Nat):Int) by omega];refine zz 13 ?_;rw[show ((2*i+1:Nat):Int)+1=((2*i+2:Nat):Int) by omega];refine F8 ?_;obtain⟨B,E⟩:∃B,B=(decide (2*i+2<n)&&T5 g (I6 c (2*i+2)) (I6 c (2*i+1))):=⟨_,rfl⟩
 have d:j=if B=true then 2*i+2 else 2*i+1:=by rw[t,E];simp only[B24,decide_eq_true_eq]
 refine kT ([(0,.s FA),(1,B1 0),(2,B1 n),(7,B1 i),(9,B1 ((2*i+1:Nat):Int)),(10,B1 ((2*i+2:Nat):Int)),(33,S6 B)]++gf) ((741,U6 c)::ob) ?_ ?_
 ·by_cases I:2*i+2<n
  ·have k:decide (((2*i+2:Nat):Int)<(n:Int))=true:=A3 B3;have z:B=T5 g (I6 c (2*i+2)) (I6 c (2*i+1)):=by rw[E,A3 I,B79]
   rw[z];refine I0 ?_;refine E4 A0 A0 A0 k (F8 ?_);refine E4 A0 A0 A0 k (F8 ?_);refine E4 A0 A0 A0 k (F8 ?_);refine E4 A0 A0 A0 k (iR (fun a M w=>by kernel_rfl) (wD g c (2*i+2) (2*i+1) K r B3 B3 (u _) A0) A0 A0 A0 A0 ?_);rintro _ _ ⟨rfl,rfl⟩;refine A9 (Y2 A0 (k) A0) A0 (F8 ?_);exact A91 lf C L6 (fun _ _ h=>h)
  ·have k:decide (((2*i+2:Nat):Int)<(n:Int))=false:=A4 B3;have z:B=false:=by rw[E,A4 I,Bool.false_and]
   rw[z];refine I0 ?_;refine H5 A0 A0 A0 (by rw[k];decide) A0 ?_;refine H5 A0 A0 A0 (by rw[k];decide) A0 ?_;refine H5 A0 A0 A0 (by rw[k];decide) A0 ?_;refine H5 A0 A0 A0 (by rw[k];decide) A0 ?_;refine A9 (Y3 A0 (k) A0) A0 (F8 ?_);exact A91 lf C L6 (fun _ _ h=>h)
 skip;refine kT ([(0,.s FA),(1,B1 0),(2,B1 n),(7,B1 i),(9,B1 j)]++gf) ((741,U6 c)::ob) ?_ ?_
 ·refine zc 0 (fun m=>?_) fun m=>?_
  ·rw[A5 m]at d;skip;refine R6 ?_;rw[d];exact A91 lf C L6 (fun _ _ h=>h)
  ·rw[A6 (by rw[m];decide)]at d;refine F8 ?_;rw[d];exact A91 lf C L6 (fun _ _ h=>h)
 refine N0 ?_;refine iR (fun a M w=>by kernel_rfl) (wD g c j i K r B3 B3 (u _) A0) A0 A0 A0 A0 ?_;rintro _ _ ⟨rfl,rfl⟩;refine zc 2 (fun m=>?_) fun m=>?_
 ·have hb:T5 g (I6 c j) (I6 c i)=false:=by simpa using m
  rw[A5 hb]at q;rw[<-q];refine U7 ?_;exact D7 Y5 bZ (fun _ _ h=>h) ⟨_,rfl,rfl⟩
 ·have hb:T5 g (I6 c j) (I6 c i)=true:=by simpa using m
  rw[A6 (by rw[hb];decide)]at q;refine N0 ?_;refine iR (fun a M w=>by kernel_rfl) (wE g c i j B3 B3 (u _) A0) A0 A0 A0 A0 ?_;rintro _ _ ⟨rfl,rfl⟩;refine I0 ?_;refine⟨(f,o4 c i j,j),⟨q,by dsimp only;omega,by dsimp only;rw[O1];exact D,by dsimp only;omega,BR B3 B3 r⟩,by dsimp only;omega,?_⟩;exact A91 lf C L6 (D4 (L:=[(741,_)]) ⟨rfl,trivial⟩ SY)
theorem HB{gf:Fr}{ob:Obs}(g:Graph)(l:List Int)(c:Int)(r:g.length<=1000)(u:l.length<=1000)(p:∀x∈l,0<=x/\x<(g.length:Int))(m:0<=c/\c<g.length)(i:B0 ob 740=some (lC g))(j:B0 ob 741=some (U6 l)) :
  AL.Met prog 42 [FA,sIf c] gf ob [741] (fun rs ob'=>rs=[]/\ob'=(740,lC g)::(741,U6 (vA (T5 g) l c))::Obs.forget 741 ob):=by
 have f:∀x∈l++[c],0<=x/\x<(g.length:Int):=fun x d=>by
  rcases B36.1 d with d | d
  ·exact p x d
  ·rw[B33.1 d];exact m
 have b:(l++[c]).length=l.length+1:=by simp
 have o:upH (T5 g) (l.length+1) (l++[c]) l.length=vA (T5 g) l c:=rfl;refine AL.Met.introH Tryz.func42 F5 rfl rfl rfl (fun k=>?_);refine C3 (A92 741 (l:=[(0,.s FA),(1,.s (sIf c))]) (L:=[(740,_),(741,_)]) lf k L6 ⟨i,j,trivial⟩) ?_;refine R6 ?_;refine iR (fun a q w=>by kernel_rfl) (YX g l c B3 A0 A0) A0 A0 A0 A0 ?_;rintro _ _ ⟨rfl,rfl⟩;refine R6 ?_;refine iR (fun a q w=>by kernel_rfl) (BQ g (l++[c]) A0 A0) A0 A0 A0 A0 ?_;rintro _ _ ⟨rfl,rfl⟩;refine A9 (S7 A0 A0 (by (rw[b];omega))) A0 ?_;refine tE ((by rw[b,show (((l.length+1:Nat):Int))-1=((l.length:Nat):Int) by omega];exact hUp_met g (l++[c]) l.length B3 B3 f B3 A0 A0)) A0 A0 A0 ?_;rintro _ _ ⟨rfl,rfl⟩;refine F8 ?_;rw[o];skip;exact Q0 (fJ rfl) b9x (D4 (L:=[(740,_),(741,_)]) ⟨rfl,rfl,trivial⟩ b7w) ⟨rfl,rfl⟩
theorem A57{gf:Fr}{ob:Obs}(g:Graph)(l:List Int)(A:g.length<=1000)(B:l.length<=1000)(o:0<l.length)(v:∀x∈l,0<=x/\x<(g.length:Int))(q:B0 ob 740=some (lC g))(r:B0 ob 741=some (U6 l)) :
  AL.Met prog 44 [FA] gf ob [741] (fun rs ob'=>rs=[sIf (I6 (sN (T5 g) l) (l.length-1))]/\ob'=(740,lC g)::(741,U6 ((sN (T5 g) l).take (l.length-1)))::Obs.forget 741 ob):=by
 have y:=O1 l 0 (l.length-1);have m:=BR (n:=(g.length:Int)) (i:=0) (j:=l.length-1) o B3 v;have c:gC (T5 g) (l.length-1) (l.length-1+1) (o4 l 0 (l.length-1)) 0=sN (T5 g) l:=by unfold sN;rw[show l.length-1+1=l.length by omega]
 have d:(sN (T5 g) l).length=l.length:=by
  rw[<-c]
  exact (by
   have key:∀(f i:Nat) (x:List Int),(gC (T5 g) (l.length-1) f x i).length=x.length:=by
    intro f;induction f with
    | zero=>intro i x;rfl
    | succ f z =>
     intro i x;rw[gC];split
     ·rfl
     ·split
      ·rfl
      ·rw[z,O1]
   rw[key,O1])
 refine AL.Met.introH Tryz.func44 F5 rfl rfl rfl (fun u=>?_);refine C3 (A92 741 (l:=[(0,.s FA)]) (L:=[(740,_),(741,_)]) ⟨cL rfl,trivial⟩ u L6 ⟨q,r,trivial⟩) ?_;refine J5 ?_;refine iR (fun a p w=>by kernel_rfl) (BQ g l A0 A0) A0 A0 A0 A0 ?_;rintro _ _ ⟨rfl,rfl⟩;refine H8 ?_;rw[show ((l.length:Nat):Int)-1=((l.length-1:Nat):Int) by omega];refine R6 ?_;refine iR (fun a p w=>by kernel_rfl) (wE g l 0 (l.length-1) o B3 A0 A0) A0 A0 A0 A0 ?_;rintro _ _ ⟨rfl,rfl⟩;refine I0 ?_;refine tE (YY g (o4 l 0 (l.length-1)) (l.length-1) B3 B3 m B3 A0 A0) A0 A0 A0 ?_;rintro _ _ ⟨b,rfl,rfl⟩;refine F8 ?_;rw[c];refine H8 ?_;refine iR (fun a p w=>by kernel_rfl) ((by rw[<-d];exact A56 g (sN (T5 g) l) B3 B3 A0 A0)) A0 A0 A0 A0 ?_;rintro _ _ ⟨rfl,rfl⟩;refine H2 ?_;rw[d];refine F8 ?_;exact D7 Y5 b9x (D4 (L:=[(740,_),(741,_)]) ⟨rfl,rfl,trivial⟩ b7w) ⟨rfl,rfl⟩
theorem OInv.ub{g:Graph}{a:List Bool}{k i:Nat}{d c b:List Int}(h:OInv g a k i d c b)(p:Nat)(c:p<g.length):-1<=I6 d p/\I6 d p<=g.length:=by
 cases e:L1 a p
 ·have:=h.off p c e;omega
 ·have f:=h.cnt p c e;have j:=LQ g a (b.take k) p;split at f<;>omega
theorem HC(g:Graph)(s:Int)(h:FewT g):FnOk prog 15 [N2 g,L5 [s]] (fun rs=>rs=[L5 (o5 g s).1,E2 (o5 g s).2]):=by
 have hg:=h.few.len;refine FnOk.intro Tryz.func15 F5 A0 A0 A0 A0 (U7 ?_);refine F0 (WQ g h) ?_;refine zc 7 (fun d=>?_) fun d=>?_
 ·have D:O6 g≠0:=A1 d;refine H8 ?_;refine A9 (K8 _ 1 E0) A0 (H8 ?_);exact A8 (rs:=[L5 [],E2 (O6 g)]) nP (by unfold o5;rw[A5 D])
 have D:¬O6 g≠0:=A2 d;have K:=fV (B84.1 D);refine U7 ?_;refine C1 (X:=Nat) (fun i=>([(0,B9 Commit 3 H0 g),(1,B9 Int 1 E0 [s]),(23,B9 Int 1 E0 [s]),(24,B1 1),(25,B1 i)],[])) (fun i=>i<=1/\(i=1->w9 g s)) (fun i=>1-i) 0 ⟨B37 _,fun h=>by cases h⟩ (C6) ?_;rintro i ⟨U,hs⟩;dsimp only at U hs ⊢;refine zc 5 (fun d=>?_) fun d=>?_
 ·have G:i=0:=by have D:=A1 d;omega
  subst G;have hv:[s][((0:Nat):Int).toNat]?=some s:=rfl;refine zz 13 ?_;refine F0 (dis_ok g s) ?_;refine zc 2 (fun d=>?_) fun d=>?_
  ·have z:¬w9 g s:=by simpa using d
   refine H2 ?_;refine A9 (K8 _ 1 E0) A0 (H8 ?_);exact A8 (rs:=[L5 [],E2 5]) nP (by unfold o5;rw[A6 D,A6 z])
  ·have z:w9 g s:=by simpa using d
   refine I0 ?_;exact⟨1,⟨B29 _,fun _=>z⟩,by omega,(C6)⟩
 have ah:i=1:=by have D:=A2 d;omega
 have hs:=hs ah;have ab:o5 g s=(vC g [s],0):=by unfold o5;rw[A6 D,A5 hs]
 rw[ab];have ad:∀f∈[s],0<=f/\f<g.length:=fun f hf=>by rw[B33.1 hf];exact hs
 refine R9 ?_;refine mK (KH g [s] h.few K.rel ad eR) A0 A0 A0 A0 ?_;rintro _ _ ⟨q,rfl,rfl,j,O⟩;refine⟨rfl,?_⟩;refine H2 ?_;have T:=lM K.rel [s] ad;obtain⟨y,E⟩:∃y,y=U3 g [s]:=⟨_,rfl⟩
 have aj:y.length=g.length:=by rw[E];exact PN g _
 have W:vC g [s]=wQ g y (g.length+1) []:=by rw[E];rfl
 rw[<-E]at O T;rw[W];have am:∀p,p<g.length -> -1<=I6 q p/\I6 q p<=g.length:=fun p v=>by
  rw[O p v];have:=LQ g y [] p;split<;>omega
 refine H8 ?_;refine A9 (NA (cs:=[.list Commit 3 H0 g]) A0 A0) A0 (F8 ?_);refine B6 (V5 740 A0 A0 A0) A0 (R6 ?_);refine C3 (A96 741 Int 1 E0 3 (kb:=740) (o:=0) A0 A0 A0) (H2 ?_);refine A9 (vO A0 A0) A0 (H8 ?_);refine C1 (X:=Nat×List Int) (fun x=>([(0,B9 Commit 3 H0 g),(10,.s (.one (.mut 753))),(11,.s (.one (.ref 740 0))),(42,.s (.one (.mut 753))),(43,B1 g.length),(44,B1 x.1)],[(740,lC g),(741,U6 x.2),(753,BP q)])) (fun x=>x.1<=g.length/\HInv g q x.2 x.1) (fun x=>g.length-x.1) (0,[]) ⟨B37 _,HInv.nil g q⟩ (by rw[<-j];exact (C6)) ?_;rintro⟨i,v⟩ ⟨U,R⟩;dsimp only at U R ⊢;have Z:=R.le;refine zc 5 (fun d=>?_) fun d=>?_
 ·have G:i<g.length:=by have D:=A1 d;(try dsimp only at D);omega
  have J:=rV (l:=q) (p:=(i:Int)) B3;rw[B26]at J;have S:=R.step;have ak:∀x∈v,0<=x/\x<(g.length:Int):=fun x hx=>by have:=R.rng x hx;omega
  refine J5 ?_;refine A9 (N6 A0 A0 J A0) A0 ?_;refine zc 8 (fun d=>?_) fun d=>?_
  ·have z:I6 q i=0:=A1 d;rw[A5 z]at S;skip;refine H2 ?_;refine A9 (kU A0 E7) A0 (H2 ?_);refine M9 (HB g v i hg B3 ak B3 A0 A0) A0 A0 A0 (I0 ?_);exact⟨(i+1,vA (T5 g) v i),⟨G,S⟩,by dsimp only;omega,(C6)⟩
  ·have z:¬I6 q i=0:=A2 d;rw[A6 z]at S;refine I0 ?_;exact⟨(i+1,v),⟨G,S⟩,by dsimp only;omega,(C6)⟩
 have ai:i=g.length:=by have D:=A2 d;(try dsimp only at D);omega
 rw[ai]at R;have w:=OInv.start j aj O R;refine H8 ?_;refine B6 (U2 14 _ E0 A0) A0 (H8 ?_);refine C1 (X:=List Int×List Int×List Int) (fun x=>([(0,B9 Commit 3 H0 g),(10,.s (.one (.mut 753))),(11,.s (.one (.ref 740 0))),(14,.s (.one (.buf 14 Int 1 E0 x.2.2)))],[(14,.spare x.2.2.length 1 3),(740,lC g),(741,U6 x.2.1),(753,BP x.1)])) (fun x=>OInv g y x.2.2.length 0 x.1 x.2.1 x.2.2/\wQ g y (g.length+1-x.2.2.length) x.2.2=wQ g y (g.length+1) []) (fun x=>g.length+1-x.2.2.length) (q,v,[]) ⟨w,rfl⟩ (C6) ?_;rintro⟨q,v,B⟩ ⟨w,F⟩;dsimp only at w F ⊢;obtain⟨an,Z⟩:=w.le;have j:=w.len;refine R6 ?_;refine M9 (BQ g v A0 A0) A0 A0 A0 ?_;refine zc 2 (fun d=>?_) fun d=>?_;rotate_left
 ·have z:v=[]:=by
   have z:=A2 d;exact List.length_eq_zero_iff.1 B3
  rw[z]at w;have hb:=w.fin;rw[A83 B3]at F;rw[<-F];refine X0 ?_;exact A8 (rs:=[L5 B,E2 0]) nP rfl
 have H:0<v.length:=by have z:=A1 d;omega
 obtain⟨b1,b2,b3⟩:=w.pop H;have hm:I6 v 0∈v:=by rw[P7 H];exact B32 H
 have ap:=w.hpr _ hm;obtain⟨c,hc⟩:∃c:Nat,I6 v 0=(c:Int):=⟨(I6 v 0).toNat,by omega⟩
 rw[A26 B3 B3,b1,hc]at F;rw[hc]at b2 b3;have M:c<g.length:=by omega
 obtain⟨C,P⟩:∃C,C=g[c]:=⟨_,rfl⟩
 have ar:g[((c:Nat):Int).toNat]?=some C:=by rw[P];simp[M]
 have I:D8 g c=C.Parents:=by rw[bQ M,P]
 have al:=h.few.pars C (by rw[P];exact B32 M);obtain⟨Q,L⟩:∃Q,Q=(sN (T5 g) v).take (v.length-1):=⟨_,rfl⟩
 refine I0 ?_;refine A9 (kU A0 E7) A0 (M9 (A57 g v hg B3 H w.hpr A0 A0) A0 A0 A0 (A9 (xE A0 A0) A0 (H2 ?_)));rw[b3,<-L];rw[<-L]at b2;refine R6 ?_;refine A9 (B8 (c:=E0) (ys:=[(c:Int)]) (C5 A0 A0 A0 A0 E5) A0 A0 A0) A0 (zz 14 ?_);refine C1 (X:=Nat×List Int×List Int) (fun x=>([(0,B9 Commit 3 H0 g),(10,.s (.one (.mut 753))),(11,.s (.one (.ref 740 0))),(14,.s (.one (.buf 14 Int 1 E0 (B++[(c:Int)])))),(72,B9 Int 1 E0 C.Parents),(73,B1 C.Parents.length),(74,B1 x.1)],[(14,.spare (B++[(c:Int)]).length 1 3),(740,lC g),(741,U6 x.2.2),(753,BP x.2.1)])) (fun x=>x.1<=C.Parents.length/\OInv g y B.length x.1 x.2.1 x.2.2 (B++[(c:Int)])) (fun x=>C.Parents.length-x.1) (0,q,Q) ⟨B37 _,b2⟩ (C6) ?_;rintro⟨i,q,v⟩ ⟨U,w⟩;dsimp only at U w ⊢;obtain⟨V,Z⟩:=w.le;have j:=w.len;have aq:=OInv.ub w;have af:(B++[(c:Int)])[B.length]?=some (c:Int):=by rw[B61 (B29 _),B98];rfl
 rw[B25,B41]at V;refine zc 5 (fun d=>?_) fun d=>?_;rotate_left
 ·have z:i=C.Parents.length:=by have D:=A2 d;(try dsimp only at D);omega
  rw[z,<-I]at w;have S:=w.next eR af;refine F8 ?_;refine⟨(q,v,B++[(c:Int)]),⟨S,?_⟩,by dsimp only;rw[B25,B41];omega,(C6)⟩;dsimp only;rw[<-F,B25,B41]
  congr 1<;>omega
 have A:i<C.Parents.length:=by have D:=A1 d;(try dsimp only at D);omega
 have ao:=(K9 K.rel c).1 C.Parents[i] (by rw[I];exact B32 A);obtain⟨p,Y⟩:∃p:Nat,C.Parents[i]=(p:Int):=⟨C.Parents[i].toNat,by omega⟩
 have au:C.Parents[i]?=some (p:Int):=by rw[B23 A,Y]
 obtain⟨s1,s2,s3,s4,s5⟩:=w.step K.rel T eR af (i:=i) (p:=p) (by rw[I];exact A) (by simp only[I];exact Y);have J:=rV (l:=q) (p:=(p:Int)) B3;have ae:(Z8 q p)[((p:Nat):Int).toNat]?=some (I6 q p-1):=by
  unfold Z8;rw[B26,C05 B3]
 have ag:(Z8 q p).length=g.length:=by unfold Z8;rw[B76,j]
 have ac:q.set ((p:Nat):Int).toNat (I6 q ((p:Nat):Int).toNat-1)=Z8 q p:=rfl;refine zz 13 ?_;refine A9 (I5 A0 A0 A0 B3 (by (rw[j];omega))) A0 ?_;refine A9 (N6 A0 A0 J A0) A0 (A9 (S7 A0 A0 (by (rw[B26];omega))) A0 ?_);refine A9 (I5 A0 A0 A0 B3 (by (rw[j];omega))) A0 ?_;refine V2 (L4 TySz.out A0 A0 (by (rw[j];omega)) A0 A0) ?_;refine F8 ?_;rw[ac];refine R6 ?_;refine A9 (I5 A0 A0 A0 B3 (by (rw[ag];omega))) A0 ?_;refine A9 (N6 A0 A0 ae A0) A0 ?_;refine zc 2 (fun d=>?_) fun d=>?_
 ·have z:I6 q p-1=0:=A1 d;rw[A5 z]at s5;skip;refine H2 ?_;refine A9 (kU A0 E7) A0 (H2 ?_);refine M9 (HB g v p hg B3 w.hpr B3 A0 A0) A0 A0 A0 (I0 ?_);exact⟨(i+1,Z8 q p,vA (T5 g) v p),⟨A,s5⟩,by dsimp only;omega,(C6)⟩
 ·have z:¬I6 q p-1=0:=A2 d;rw[A6 z]at s5;refine I0 ?_;exact⟨(i+1,Z8 q p,v),⟨A,s5⟩,by dsimp only;omega,(C6)⟩
abbrev isS(l:List Int):S1:=.one (.p (.list Int 1 E0 l))
theorem A58(f:Str×Str->Bool)(g:Graph)(c:Nat):(U0 g c).flatten.any f=x9 f g c:=by
 unfold x9;rw[List.any_flatten]
theorem OH(g:Graph)(s:Int)(f:FuncId)(α:Type)(H:Nat)(G:α->Nat->Cell)(v:α)(j:Str×Str->Bool)(h:FewT g)(P:Short g)
  (Z:Valid g->∀c:Nat,c<g.length->∀x∈(U0 g c).flatten,AL.Met prog f [WR x,.one (.eref α H G v 0)] [] [] [] (fun rs ob'=>rs=[qY (j x)]/\ob'=[])) :
  AL.Met prog 35 [.one (.p (.list Commit 3 H0 g)),Q5 s,.one (.fncE f α H G v)] [] [] [] (fun rs ob'=>rs=[isS (x5 j g s).1,Q5 (x5 j g s).2]/\ob'=[]):=by
 refine AL.Met.intro Tryz.func35 F5 A0 A0 A0 (U7 ?_);refine A9 (B8 (c:=E0) (ys:=[s]) (C5 A0 A0 A0 A0 E5) A0 A0 A0) A0 (F0 (HC g s h) ?_);refine zc 12 (fun q=>?_) fun q=>?_
 ·have B:(o5 g s).2≠0:=A1 q;refine H8 ?_;refine A9 (K8 _ 1 E0) A0 (H8 ?_);exact D7 (RetOk.s2 nP) bZ (ObIn.spec (ob':=[]) trivial) ⟨by unfold x5;rw[A5 B],rfl⟩
 have B:¬(o5 g s).2≠0:=A2 q;obtain⟨Q,A,D⟩:Valid g/\(∀x∈(o5 g s).1,0<=x/\x<(g.length:Int))/\(o5 g s).1.Nodup:=by
  unfold o5 at B ⊢;split at B
  ·rename_i I;exact absurd I B
  ·rename_i I;rw[A6 I];have:=fV (B84.1 I);split
   ·exact⟨this,(yG g [s]).2,(yG g [s]).1⟩
   ·exact⟨this,(fun _ h=>by cases h),List.nodup_nil⟩
 have z:x5 j g s=((o5 g s).1.filter fun c=>x9 j g c.toNat,0):=by unfold x5;rw[A6 B]
 rw[z];obtain⟨O,U⟩:∃O,O=(o5 g s).1:=⟨_,rfl⟩
 rw[<-U]at A D ⊢;have V:=bP D A;have hg:=h.few.len;refine H8 ?_;refine B6 (U2 10 _ E0 A0) A0 (U7 ?_);refine C1 (X:=Nat) (fun k=>([(0,B9 Commit 3 H0 g),(2,.s (.one (.fncE f α H G v))),(10,.s (.one (.buf 10 Int 1 E0 ((O.take k).filter fun c=>x9 j g c.toNat)))),(23,B9 Int 1 E0 O),(24,B1 O.length),(25,B1 k)],[(10,.spare ((O.take k).filter fun c=>x9 j g c.toNat).length 1 3)])) (fun k=>k<=O.length) (fun k=>O.length-k) 0 (B37 _) (C6) ?_;intro k hk;dsimp only at hk ⊢;have C:=List.length_filter_le (fun c:Int=>x9 j g c.toNat) (O.take k);rw[B42]at C;refine zc 5 (fun q=>?_) fun q=>?_;rotate_left
 ·have M:k=O.length:=by have J:=A2 q;(try dsimp only at J);omega
  rw[M,B38];refine X0 ?_;exact D7 (RetOk.s2 nP) bZ (ObIn.spec (ob':=[]) trivial) ⟨rfl,rfl⟩
 have y:k<O.length:=by have J:=A1 q;(try dsimp only at J);omega
 have Y:=A _ (B32 y);obtain⟨c,W⟩:∃c:Nat,O[k]=(c:Int):=⟨O[k].toNat,by omega⟩
 have R:O[k]?=some (c:Int):=by rw[B23 y,W]
 have m:(O.take (k+1)).filter (fun c=>x9 j g c.toNat)=((O.take k).filter fun c=>x9 j g c.toNat)++(if x9 j g c=true then [(c:Int)] else []):=by
  rw[B48,R,B54,C04]
  congr 1
  rw[B99,B26];rfl
 obtain⟨F,T⟩:∃F,F=(O.take k).filter fun c=>x9 j g c.toNat:=⟨_,rfl⟩
 rw[<-T]at C m ⊢;have S:=YP h Q c;have w:=lA S (U0 g c).length;unfold bJ at w;rw[B38]at w;have L:=Z Q c B3;have K:=A58 j g c;refine zz 13 ?_;refine F0 (YT g c h Q P B3) (F0 (EZ (U0 g c) S) (F8 ?_));refine mK (wC f α H G v j (U0 g c).flatten B3 L) A0 A0 A0 A0 ?_;rintro _ _ ⟨rfl,rfl⟩;refine⟨rfl,?_⟩;refine F8 ?_;rw[K];refine zc 0 (fun q=>?_) fun q=>?_
 ·rw[A5 q]at m;skip;refine H8 ?_;refine A9 (B8 (c:=E0) (ys:=[(c:Int)]) (C5 A0 A0 A0 A0 E5) A0 A0 A0) A0 (J5 ?_);refine⟨k+1,by omega,by omega,?_⟩;rw[m];exact (C6)
 ·rw[q,A6 F5,B71]at m;refine I0 ?_;refine⟨k+1,by omega,by omega,?_⟩;rw[m];exact (C6)
theorem gY(a b:UInt8):decide ((a.toNat:Int)≠(b.toNat:Int))=decide (a≠b):=by
 by_cases h:a=b
 ·subst h;simp
 ·have:(a.toNat:Int)≠(b.toNat:Int):=fun e=>h (B88.1 B3);rw[A3 this,A3 h]
theorem kn32(c:UInt8):decide ((c.toNat:Int)≠32)=decide (c≠32):=gY c 32
theorem YZ(c:UInt8):decide ((c.toNat:Int)≠45)=decide (c≠45):=gY c 45
theorem ZA(c:UInt8):decide ((c.toNat:Int)≠43)=decide (c≠43):=gY c 43
theorem ZB(b:Bool):(!b)=decide (b=false):=by cases b<;>rfl
theorem OI(b:List PatchLine)(n:Nat)(h:n<b.length):l4 (b.take (n+1))=(if l4 (b.take n)=true then true else decide (b[n].Kind≠32)):=by
 unfold l4;rw[B57 h,List.any_append];cases (b.take n).any _<;>simp
theorem pL(s:Str):FnOk prog 20 [G5 s] (fun rs=>rs=[F6 (c9 s)]):=by
 refine FnOk.intro Tryz.func20 F5 A0 A0 A0 A0 (zz 17 ?_);refine A8 M3 ?_;simp only[and_pick]
 congr 4
 unfold c9
 congr 1
 apply propext;omega
theorem TQ(s:Str)(c:s.length<=1099511627776):FnOk prog 167 [G5 s] (fun d=>d=[F6 (N1 s)]):=by
 refine FnOk.intro Tryz.func167 F5 A0 A0 A0 A0 (R9 ?_);refine E3 A0 A0 A0 A0 (fun a=>by have b:=a;(try simp at b);rw[a];exact I2 (NM s c) A0 A0) ?_;refine E3 A0 A0 A0 A0 (fun a=>by have b:=a;(try simp at b);rw[a];exact I2 (JV (s8 s) 10) A0 A0) ?_;refine I0 ?_;exact A8 M3 (by rw[A12])
theorem HD(h:PatchHunk)(A:h.Lines.length<=268435456):FnOk prog 99 [pPhunk h] (fun z=>z=[E2 (M6 h),E2 (P8 h)]):=by
 refine FnOk.intro Tryz.func99 F5 A0 A0 A0 A0 (H2 ?_);refine B6 (V5 1 A0 A0 A0) A0 (zz 17 ?_);refine C1 (X:=Nat) (fun i=>([(4,B1 (C0 (h.Lines.take i) 43).length),(5,B1 (C0 (h.Lines.take i) 45).length),(9,B9 PatchLine 2 plineC h.Lines),(10,B1 h.Lines.length),(11,B1 i)],[])) (fun i=>i<=h.Lines.length) (fun i=>h.Lines.length-i) 0 (B37 _) (C6) ?_;intro i q;dsimp only at q ⊢;have k:=O8 (h.Lines.take i) 43;have m:=O8 (h.Lines.take i) 45;rw[B42]at k m;refine zc 5 (fun a=>?_) fun a=>?_
 ·have d:i<h.Lines.length:=by have:=A1 a;omega
  have w:h.Lines[i]?=some h.Lines[i]:=by simp[d]
  have s1:=dK h.Lines 43 i d;have s2:=dK h.Lines 45 i d;obtain⟨x,y⟩:∃x,x=h.Lines[i]:=⟨_,rfl⟩
  rw[<-y]at w s1 s2;refine J5 ?_;refine B6 (E6 7 A0) A0 (H2 ?_);refine kO [(4,B1 (C0 (h.Lines.take (i+1)) 43).length),(5,B1 (C0 (h.Lines.take i) 45).length),(7,.s (.one (.ref 7 0))),(9,B9 PatchLine 2 plineC h.Lines),(10,B1 h.Lines.length),(11,B1 i)] [(7,.box [.p (.v (.int .u8 x.Kind.toNat)),.p (.v (.string ⟨x.Text.toArray⟩))])] ?_ ?_
  ·refine zc 6 (fun a=>?_) fun a=>?_
   ·rw[ZA]at a;have c:x.Kind≠43:=A1 a;rw[A5 c]at s1;skip;refine I0 ?_;rw[s1,B25,Int.natCast_add];exact C6
   ·rw[ZA]at a;have c:¬x.Kind≠43:=A2 a;rw[A6 c]at s1;refine F8 ?_;rw[s1];exact C6
  ·refine zc 6 (fun a=>?_) fun a=>?_
   ·rw[YZ]at a;have c:x.Kind≠45:=A1 a;rw[A5 c]at s2;skip;refine U7 ?_;refine⟨i+1,by omega,by omega,?_⟩;rw[s2,B25,Int.natCast_add];exact C6
   ·rw[YZ]at a;have c:¬x.Kind≠45:=A2 a;rw[A6 c]at s2;refine I0 ?_;refine⟨i+1,by omega,by omega,?_⟩;rw[s2];exact C6
 ·have j:i=h.Lines.length:=by have:=A2 a;omega
  subst j;rw[B38];refine U7 ?_;exact A8 nP rfl
theorem BS(h:PatchHunk)(a:h.Lines.length<=268435456)(c:-4611686018427387904<=h.Old/\h.Old<=4611686018427387904)(b:-4611686018427387904<=h.New/\h.New<=4611686018427387904):FnOk prog 58 [pPhunk h] (fun d=>d=[G5 (v7 h)]):=by
 have e:=O8 h.Lines 43;have f:=O8 h.Lines 45;have g:0<=M6 h/\M6 h<=268435456:=by unfold M6;omega
 have i:0<=P8 h/\P8 h<=268435456:=by unfold P8;omega
 have j:=iE h.Old (M6 h);have k:=iE h.New (P8 h);refine FnOk.intro Tryz.func58 F5 A0 A0 A0 A0 (H2 ?_);refine B6 (V5 1 A0 A0 A0) A0 (I0 ?_);refine F0 (HD h a) (o9 ?_);refine D2 (I2 (GQ h.Old (M6 h) c B3) A0 A0) A0 A0 (D2 (l5 A0 A0 NZ) A0 A0 (R6 ?_));refine D2 (I2 (GQ h.New (P8 h) b B3) A0 A0) A0 A0 (I0 ?_);exact A8 M3 rfl
theorem BT(h:PatchHunk)(z:(h.Lines.map FL).sum<=1099511627776):FnOk prog 137 [pPhunk h] (fun w=>w=[F6 (h.Lines.all aB&&l4 h.Lines)]):=by
 have y:=lQ h.Lines;refine FnOk.intro Tryz.func137 F5 A0 A0 A0 A0 (H2 ?_);refine B6 (V5 1 A0 A0 A0) A0 (zz 15 ?_);refine C1 (X:=Nat) (fun n=>([(3,H6 (.bool (l4 (h.Lines.take n)))),(7,B9 PatchLine 2 plineC h.Lines),(8,B1 h.Lines.length),(9,B1 n)],[])) (fun n=>n<=h.Lines.length/\h.Lines.all aB=(h.Lines.drop n).all aB) (fun n=>h.Lines.length-n) 0 ⟨B37 _,rfl⟩ (C6) ?_;rintro n ⟨k,c⟩;dsimp only at k c ⊢;refine zc 5 (fun f=>?_) fun f=>?_
 ·have d:n<h.Lines.length:=by have:=A1 f;omega
  have p:h.Lines[n]?=some h.Lines[n]:=by simp[d]
  have g:=zK (B32 d);have e:=OI h.Lines n d;rw[B40 d,List.all_cons]at c;obtain⟨x,q⟩:∃x,x=h.Lines[n]:=⟨_,rfl⟩
  rw[<-q]at p g e c;refine J5 ?_;refine B6 (E6 5 A0) A0 (zz 21 ?_);refine E3 A0 A0 A0 A0 (fun r=>by have v:=r;(try simp at v);rw[r];exact I2 (TQ x.Text B3) A0 A0) ?_;refine zc 3 (fun f=>?_) fun f=>?_
  ·simp only[kn32,YZ,ZA,and_pick,ZB,or_pick]at f;have hb:QF x:=A1 f;refine I0 ?_;refine A8 M3 ?_;have:aB x=false:=A4 (fun t=>t hb);rw[c,this];rfl
  ·simp only[kn32,YZ,ZA,and_pick,ZB,or_pick]at f;have hb:¬QF x:=A2 f;have i:aB x=true:=A3 hb;rw[i,B79]at c;refine zz 14 ?_;refine⟨n+1,⟨by omega,c⟩,by omega,?_⟩;rw[kn32,<-e];exact C6
 ·have j:n=h.Lines.length:=by have:=A2 f;omega
  subst j;rw[B38];rw[B53 (B29 _)]at c;refine J5 ?_;exact A8 M3 (by rw[c];rfl)
theorem jZ{gf:Fr}{ob:Obs}{k:Nat}{e:Int}{o:Bool}{t:Str}(a:B0 ob k=some (.box [.p (.v (.int .i64 e)),.p (.v (.bool o))]))(c:t.length<=1099511627776) :
  AL.Met prog 168 [.one (.ref k 0),.one (.p (.v (.string ⟨t.toArray⟩)))] gf ob [] (fun d ob'=>d=[.one (.p (.v (.bool (!o))))]/\ob'=(k,.box [.p (.v (.int .i64 e)),.p (.v (.bool (!ended t)))])::ob):=by
 refine AL.Met.intro Tryz.func168 F5 A0 A0 A0 (U7 ?_);refine A9 (D1 A0 a A0) A0 (J5 ?_);refine F0 (pJ t c) (H8 ?_);refine V2 (I9 TySz.out A0 a A0 A0 A0 A0) (J5 ?_);exact D7 Y5 bZ (fun _ _ h=>h) ⟨rfl,rfl⟩
theorem ZC(a b:List Str)(i:Nat)(ha:i<a.length)(hb:i<b.length):(a.drop i=b.drop i)↔(a[i]=b[i]/\a.drop (i+1)=b.drop (i+1)):=by
 rw[B40 ha,B40 hb,List.cons.injEq]
theorem A59(a b:List Str):FnOk prog 61 [aI a,aI b] (fun o=>o=[F6 (decide (a=b))]):=by
 refine FnOk.intro Tryz.func61 F5 A0 A0 A0 A0 ?_;refine WA (t:=0) rfl (.pure _ _ _ _) fun l=>?_;refine zc 13 (fun c=>?_) fun c=>?_
 ·have h:=A1 c;refine I0 ?_;exact A8 M3 (by rw[A4 (fun d=>h (by rw[d]))])
 have h:=A2 c;have q:a.length=b.length:=by omega
 refine U7 ?_;refine C1 (X:=Nat) (fun i=>([(0,B9 Str 1 K6 a),(1,B9 Str 1 K6 b),(12,B1 a.length),(13,B1 i)],[])) (fun i=>i<=a.length/\decide (a=b)=decide (a.drop i=b.drop i)) (fun i=>a.length-i) 0 ⟨B37 _,rfl⟩ (C6) ?_;rintro i ⟨m,g⟩;dsimp only at m g ⊢;refine zc 5 (fun c=>?_) fun c=>?_
 ·have f:i<a.length:=by have:=A1 c;omega
  have s:a[i]?=some a[i]:=by simp[f]
  have n:b[i]?=some (b[i]'B3):=by simp
  rw[decide_eq_decide.2 (ZC a b i f B3)]at g;refine zz 18 ?_;refine D2 (VY A0 A0) A0 A0 ?_;refine zc 1 (fun c=>?_) fun c=>?_
  ·have j:a[i]≠b[i]'B3:=A1 c;refine I0 ?_;exact A8 M3 (by rw[g,A4 (fun d=>j d.1)])
  ·have j:a[i]=b[i]'B3:=B84.1 (A2 c);refine I0 ?_;exact⟨i+1,⟨f,by rw[g];exact decide_eq_decide.2 ⟨fun d=>d.2,fun d=>⟨j,d⟩⟩⟩,by omega,C6⟩
 ·have k:i=a.length:=by have:=A2 c;omega
  subst k;refine N0 ?_;refine A8 M3 ?_;rw[g,B53 (B29 _),B53 B3];rfl
theorem TR(h:PatchHunk)(x:List Str)(f:0<=h.Old):(if (if decide (h.Old<=(x.length:Int))=true then decide (((C0 h.Lines 43).length:Int)<=(x.length:Int)-h.Old) else false)=true then decide (sub x h.Old (h.Old+((C0 h.Lines 43).length:Int))=C0 h.Lines 43) else false)=fW h x:=by
 have d:0<=M6 h:=by unfold M6;omega
 unfold fW;by_cases c:(x.length:Int)<h.Old+M6 h
 ·rw[A5 c];unfold M6 at c;simp only[and_pick];exact A4 (fun b=>by omega)
 ·rw[A6 c];unfold M6 at c;simp only[and_pick];have e:sub x h.Old (h.Old+((C0 h.Lines 43).length:Int))=(x.drop h.Old.toNat).take (C0 h.Lines 43).length:=by
   unfold sub;congr 1;omega
  rw[e];exact decide_eq_decide.2 ⟨fun b=>b.2,fun b=>⟨by omega,b⟩⟩
theorem ZD(h:PatchHunk)(x:List Str)(i:h.Lines.length<=268435456)(d:0<=h.Old/\h.Old<=4096)(j:x.length<=1073741824):FnOk prog 30 [aI x,E2 h.Old,aI (C0 h.Lines 43)] (fun f=>f=[F6 (fW h x)]):=by
 have c:=O8 h.Lines 43;refine FnOk.intro Tryz.func30 F5 A0 A0 A0 A0 (zz 16 ?_);refine E3 A0 A0 A0 A0 (fun a=>by have b:=a;(try simp at b);rw[a];exact S7 A0 A0 B3) ?_;refine X0 ?_;refine E3 A0 A0 A0 A0 (fun a=>by have b:=a;(try simp at b);rw[a];exact X6 A0 A0 B3) ?_;refine E3 A0 A0 A0 A0 (fun a=>by have b:=a;(try simp at b);rw[a];exact cG A0 (.pure _ _ _ _) A0 A0 B3 B3 B3) ?_;refine F8 ?_;refine E3 A0 A0 A0 A0 (fun a=>by have b:=a;(try simp at b);rw[a];exact I2 (A59 (sub x h.Old (h.Old+((C0 h.Lines 43).length:Int))) (C0 h.Lines 43)) A0 A0) ?_;refine R6 ?_;exact A8 M3 (by rw[TR h x d.1])
theorem ZE(h:PatchHunk)(C:h.Lines.length<=268435456):FnOk prog 29 [pPhunk h] (fun B=>B=[aI (C0 h.Lines 43),aI (C0 h.Lines 45)]):=by
 refine FnOk.intro Tryz.func29 F5 A0 A0 A0 A0 (H2 ?_);refine B6 (V5 1 A0 A0 A0) A0 (B6 (U2 2 _ K6 A0) A0 (B6 (U2 3 _ K6 A0) A0 (R9 ?_)));refine C1 (X:=Nat) (fun i=>([(2,.s (.one (.buf 2 Str 1 K6 (C0 (h.Lines.take i) 43)))),(3,.s (.one (.buf 3 Str 1 K6 (C0 (h.Lines.take i) 45)))),(7,B9 PatchLine 2 plineC h.Lines),(8,B1 h.Lines.length),(9,B1 i)],[(2,.spare (C0 (h.Lines.take i) 43).length 1 9),(3,.spare (C0 (h.Lines.take i) 45).length 1 9)])) (fun i=>i<=h.Lines.length) (fun i=>h.Lines.length-i) 0 (B37 _) (C6) ?_;intro i y;dsimp only at y ⊢;have q:=O8 (h.Lines.take i) 43;have w:=O8 (h.Lines.take i) 45;rw[B42]at q w;refine zc 5 (fun d=>?_) fun d=>?_
 ·have k:i<h.Lines.length:=by have:=A1 d;omega
  have z:h.Lines[i]?=some h.Lines[i]:=by simp[k]
  have s1:=dK h.Lines 43 i k;have s2:=dK h.Lines 45 i k;obtain⟨x,A⟩:∃x,x=h.Lines[i]:=⟨_,rfl⟩
  rw[<-A]at z s1 s2;refine J5 ?_;refine B6 (E6 5 A0) A0 (H2 ?_);refine kO [(2,.s (.one (.buf 2 Str 1 K6 (C0 (h.Lines.take (i+1)) 43)))),(3,.s (.one (.buf 3 Str 1 K6 (C0 (h.Lines.take i) 45)))),(5,.s (.one (.ref 5 0))),(7,B9 PatchLine 2 plineC h.Lines),(8,B1 h.Lines.length),(9,B1 i)] [(2,.spare (C0 (h.Lines.take (i+1)) 43).length 1 9),(3,.spare (C0 (h.Lines.take i) 45).length 1 9),(5,.box [.p (.v (.int .u8 x.Kind.toNat)),.p (.v (.string ⟨x.Text.toArray⟩))])] ?_ ?_
  ·refine zc 6 (fun d=>?_) fun d=>?_
   ·rw[ZA]at d;have j:x.Kind≠43:=A1 d;rw[A5 j]at s1;skip;refine R6 ?_;refine A9 (B8 (c:=K6) (ys:=[x.Text]) (C5 A0 A0 A0 A0 E5) A0 A0 A0) A0 (H8 ?_);rw[s1];exact C6
   ·rw[ZA]at d;have j:¬x.Kind≠43:=A2 d;rw[A6 j]at s1;refine F8 ?_;rw[s1];exact C6
  ·refine zc 6 (fun d=>?_) fun d=>?_
   ·rw[YZ]at d;have j:x.Kind≠45:=A1 d;rw[A5 j]at s2;skip;refine R6 ?_;refine A9 (B8 (c:=K6) (ys:=[x.Text]) (C5 A0 A0 A0 A0 E5) A0 A0 A0) A0 (J5 ?_);refine⟨i+1,by omega,by omega,?_⟩;rw[s2];exact C6
   ·rw[YZ]at d;have j:¬x.Kind≠45:=A2 d;rw[A6 j]at s2;refine I0 ?_;refine⟨i+1,by omega,by omega,?_⟩;rw[s2];exact C6
 ·have m:i=h.Lines.length:=by have:=A2 d;omega
  subst m;rw[B38];refine U7 ?_;exact A8 nP rfl
end Go.Proofs.YtmbpmaofnddkoaaGreatDoor
