
/- Walks of the program's functions. -/
import Derived.Test.YtmbpmaofnddkoaaGreatDoorFa
import Derived.Lib.Bytealg
import Derived.RecoverIn
set_option linter.all false
namespace Go.Proofs.YtmbpmaofnddkoaaGreatDoor
open Go Go.AL
open Go.Proofs.Tryz (prog)
set_option maxRecDepth 100000
set_option maxHeartbeats 4000000
theorem cmp_lt:∀(a b:Str),decide (Lib.compareBytes a b<0)=jO a b
 | [],[]=>rfl
 | [],_::_=>rfl
 | _::_,[]=>rfl
 | a::x,b::y=>by
  rw[Lib.compareBytes,kB];have f:=cmp_lt x y;by_cases c:a<b
  ·simp[c]
  ·by_cases d:b<a
   ·have:¬a=b:=fun e=>by subst e;exact c d
    simp[c,d,this]
   ·have:a=b:=B88.1 (by rw[UInt8.lt_iff_toNat_lt]at c d;omega);subst this;simpa[c] using f
theorem SQ(a b:Str):FnOk prog 177 [G5 a,G5 b] (fun c=>c=[E2 (Lib.compareBytes a b)]) :=
 A95 (xs:=[.string ⟨a.toArray⟩,.string ⟨b.toArray⟩]) ⟨_,rfl,rfl,rfl⟩ rfl fun w=>by simpa using Tryz.strings_Compare ⟨a.toArray⟩ ⟨b.toArray⟩ w
theorem YQ(x y:Delta):FnOk prog 176 [pDelta x,pDelta y] (fun a=>a=[E2 (Lib.compareBytes x.Path y.Path)]):=by
 refine FnOk.intro Tryz.func176 F5 A0 A0 A0 A0 (H2 ?_);refine B6 (V5 2 A0 A0 A0) A0 (B6 (V5 3 A0 A0 A0) A0 (X0 ?_));refine F0 (SQ x.Path y.Path) (H8 ?_);exact A8 M3 rfl
def cC(a:List Delta)(x:Delta)(m:Nat)(rest:List Delta):List Delta:=(a.drop m).reverse++x::((a.take m).reverse++rest)
theorem YR{a:List Delta}{x:Delta}{m:Nat}{rest:List Delta}(b:m<=a.length):(cC a x m rest).length=a.length+1+rest.length:=by
 unfold cC;simp only[B25,B97,B47,B31,B42];omega
theorem insAt_x{a:List Delta}{x:Delta}{m:Nat}{rest:List Delta}(_hm:m<=a.length):(cC a x m rest)[a.length-m]?=some x:=by
 unfold cC;rw[B61 eR,B97,B47,B98];rfl
theorem insAt_p{a:List Delta}{x:Delta}{m:Nat}{rest:List Delta}(b:m<a.length):(cC a x m rest)[a.length-m-1]?=some a[m]:=by
 unfold cC;rw[B59 SH,List.getElem?_reverse SH,B47,B85];rw[show m+(a.length-m-1-(a.length-m-1))=m by omega,B23 b]
theorem SR{a:List Delta}{x:Delta}{m:Nat}{rest:List Delta}(c:m<a.length):((cC a x m rest).set (a.length-m) a[m]).set (a.length-m-1) x=cC a x (m+1) rest:=by
 have d:(a.drop m).reverse=(a.drop (m+1)).reverse++[a[m]]:=by rw[B40 c,List.reverse_cons]
 have f:(a.take (m+1)).reverse=a[m]::(a.take m).reverse:=by rw[B48,B23 c,B54,List.reverse_append];rfl
 have b:(a.drop (m+1)).reverse.length=a.length-m-1:=by rw[B97,B47];omega
 unfold cC;rw[d,f,B51,B66,B74];generalize (a.drop (m+1)).reverse=P at b ⊢;rw[<-b,show a.length-m=P.length+1 by omega];rw[List.set_append_right _ _ B3,show P.length+1-P.length=1 by omega];rw[List.set_append_right _ _ B3,B98];rfl
theorem insR_at{b:List Delta}{x:Delta}:∀{m:Nat},m<=b.length->(∀k,(h:k<m)->(c:k<b.length)->jO x.Path b[k].Path=true)->(∀h:m<b.length,jO x.Path b[m].Path=false)->qH x b=b.take m++x::b.drop m:=by
 induction b with
 | nil=>intro m _ _ _;rw[List.take_nil,List.drop_nil];rfl
 | cons y r i =>
  intro m g e c;cases m with
  | zero =>
   have:=c eR;unfold qH;rw[A6 (by rw[show y.Path=((y::r)[0]).Path from rfl,this];decide)];rfl
  | succ m =>
   have f:jO x.Path y.Path=true:=e 0 B3 eR;unfold qH;rw[A5 f,i (m:=m) (by simpa using g) (fun k j d=>e (k+1) B3 (by simpa using d)) (fun h=>c (by simpa using h))];rfl
theorem SS{b:List Delta}{x:Delta}{m:Nat}{rest:List Delta}(f:m<=b.length)(d:∀k,(h:k<m)->(c:k<b.length)->jO x.Path b[k].Path=true)(c:∀h:m<b.length,jO x.Path b[m].Path=false):cC b x m rest=(qH x b).reverse++rest:=by
 rw[insR_at f d c];unfold cC;rw[List.reverse_append,List.reverse_cons];simp only[B51,List.singleton_append,B66,B74]
theorem GX(l a:List Delta):(cD a l).length=a.length+l.length:=by
 induction l generalizing a with
 | nil=>rfl
 | cons x r b=>rw[cD,b,xQ,B31];omega
theorem ST(l:List Delta)(i:Nat)(h:i<l.length):cD [] (l.take (i+1))=qH l[i] (cD [] (l.take i)):=by
 have key:∀(a b c:List Delta),cD c (a++b)=cD (cD c a) b:=by
  intro a;induction a with
  | nil=>intro b c;rfl
  | cons x r d=>intro b c;exact d b _
 rw[B48,B23 h,B54,key];rfl
def fO(l:List Delta)(i:Nat):List Delta:=(cD [] (l.take i)).reverse++l.drop i
theorem SU(l:List Delta)(i:Nat):(fO l i).length=l.length:=by
 unfold fO;rw[B25,B97,GX,B42,B47,List.length_nil];omega
theorem SW(l:List Delta):fO l 1=l:=by
 cases l with
 | nil=>rfl
 | cons x r=>rfl
theorem SX{l:List Delta}{i:Nat}(h:i<l.length):cC (cD [] (l.take i)) l[i] 0 (l.drop (i+1))=fO l i:=by
 unfold cC fO;rw[List.drop_zero,B68,B40 h];rfl
theorem NV{l:List Delta}{i:Nat}(h:i<l.length):fO l (i+1)=(qH l[i] (cD [] (l.take i))).reverse++l.drop (i+1):=by
 unfold fO;rw[ST l i h]
abbrev qX(l:List Delta):Ob:=.grow 216 Delta 2 lJ l
theorem b2y{p:Prop}(h:p:=by repeat (first | exact R0 | refine tail_drop rfl ?_ | refine P0 rfl ?_)):p:=h
theorem SY{p:Prop}(h:p:=by repeat (first | exact N7 | refine R8 rfl ?_)):p:=h
theorem NW{gf:Fr}{ob:Obs}(l:List Delta)(hl:l.length<=1048576)(h0:B0 ob 802=some (qX l)) :
  AL.Met prog 201 [.one (.mut 802),.one (.p (.v (.int .i64 0))),.one (.p (.v (.int .i64 l.length))),.one (.p (.v (.func (.func 176) #[] #[])))] gf ob []
   (fun rs ob'=>rs=[]/\ob'=(802,qX (rE l))::ob):=by
 refine AL.Met.introH Tryz.func201 F5 rfl rfl rfl (fun R=>?_);refine J5 ?_;refine C1 (X:=Nat) (fun i=>([(0,.s (.one (.mut 802))),(1,B1 0),(2,B1 l.length),(3,H6 (.func (.func 176) #[] #[])),(8,B1 i)]++gf,(802,qX (fO l i))::ob)) (fun i=>1<=i/\(i<=l.length\/(i=1/\l=[]))) (fun i=>l.length-i) 1 ⟨B29 _,by cases l;exact .inr ⟨rfl,rfl⟩;left;simp⟩ ?_ ?_
 ·rw[SW];exact A91 lf R L6 (D4 (L:=[(802,_)]) ⟨h0,trivial⟩ N7)
 rintro i ⟨V,I⟩;dsimp only at V I ⊢;have ab:=SU l i;refine zc 7 (fun B=>?_) fun B=>?_;rotate_left
 ·have U:=A2 B;have he:fO l i=rE l:=by
   rcases I with G | ⟨G,h3⟩
   ·have:i=l.length:=by omega
    rw[this];unfold fO rE;rw[B38,List.drop_length,B71]
   ·rw[G,h3];rfl
  rw[he];refine F8 ?_;exact Q0 (fJ rfl) bZ (fun _ _ h=>h) ⟨rfl,rfl⟩
 have J:i<l.length:=by have U:=A1 B;omega
 obtain⟨x,hx⟩:∃x,x=l[i]:=⟨_,rfl⟩
 obtain⟨b,E⟩:∃b,b=cD [] (l.take i):=⟨_,rfl⟩
 obtain⟨rest,A⟩:∃rest,rest=l.drop (i+1):=⟨_,rfl⟩
 have K:b.length=i:=by rw[E,GX,B42,List.length_nil];omega
 have S:rest.length=l.length-(i+1):=by rw[A,B47]
 have Z:=SX J;have e1:=NV J;rw[<-hx,<-E,<-A]at Z e1;rw[<-Z];refine U7 ?_;refine C1 (X:=Nat) (fun m=>([(0,.s (.one (.mut 802))),(1,B1 0),(2,B1 l.length),(3,H6 (.func (.func 176) #[] #[])),(8,B1 i),(9,B1 ((i-m:Nat):Int))]++gf,(802,qX (cC b x m rest))::ob)) (fun m=>m<=i/\∀k,(h:k<m)->(G:k<b.length)->jO x.Path b[k].Path=true) (fun m=>i-m) 0 ⟨B37 _,fun k h=>by omega⟩ ?_ ?_
 ·exact A91 lf R L6 (D4 (L:=[(802,_)]) ⟨rfl,trivial⟩ SY)
 rintro m ⟨hm,z⟩;dsimp only at hm z ⊢;have d:=YR (x:=x) (rest:=rest) (show m<=b.length by omega);have w:=insAt_x (x:=x) (rest:=rest) (show m<=b.length by omega);rw[K]at d w;have w:(cC b x m rest)[((i-m:Nat):Int).toNat]?=some x:=by rw[B26];exact w
 have q:(0:Int)<((i-m:Nat):Int)->(cC b x m rest)[(((i-m:Nat):Int)-1).toNat]?=some (b.getD m ⟨[],0⟩):=fun h=>by
  have:=insAt_p (x:=x) (rest:=rest) (show m<b.length by omega);rw[show (((i-m:Nat):Int)-1).toNat=b.length-m-1 by omega,this,B30,B23 B3];rfl
 obtain⟨y,Y⟩:∃y,y=b.getD m ⟨[],0⟩:=⟨_,rfl⟩
 rw[<-Y]at q;have D:=cmp_lt x.Path y.Path;refine R9 ?_;refine G6 A0 A0 (fun g=>by have F:=g;(try simp at F);rw[g];exact G3 A0 A0 A0 B3 (by (rw[d];omega))) A0 A0 ?_;refine G6 A0 A0 (fun g=>by rw[g];exact cM A0 A0 w A0) A0 A0 ?_;refine H2 ?_;refine G6 A0 A0 (fun g=>by have F:=g;(try simp at F);rw[g];exact S7 A0 A0 B3) A0 A0 ?_;refine G6 A0 A0 (fun g=>by have F:=g;(try simp at F);rw[g];exact G3 A0 A0 A0 B3 (by (rw[d];omega))) A0 A0 ?_;refine G6 A0 A0 (fun g=>by have F:=g;(try simp at F);rw[g];exact cM A0 A0 (q B3) A0) A0 A0 ?_;refine G6 A0 A0 (fun g=>by rw[g];exact JL (YQ x y) A0 A0 A0) A0 A0 ?_;refine zc 3 (fun B=>?_) fun B=>?_
 ·rw[xP,B24,decide_eq_true_eq,D]at B;have C:m<b.length:=by omega
  have Q:y=b[m]:=by rw[Y,B30,B23 C];rfl
  have M:=SR (x:=x) (rest:=rest) C;rw[K,<-Q]at M;have q:=q B.1;have O:((cC b x m rest).set ((i-m:Nat):Int).toNat y)[(((i-m:Nat):Int)-1).toNat]?=some y:=by
   rw[List.getElem?_set_ne B3];exact q
  refine H8 ?_;refine L8 [17,15] [[],[15],[17,15]] [(15,([],[])),(17,([],[]))] [(0,[]),(1,[]),(2,[]),(3,[]),(4,[]),(5,[]),(6,[]),(7,[]),(8,[]),(9,[]),(10,[]),(11,[]),(12,[]),(13,[]),(14,[]),(15,[]),(16,[15]),(17,[15])] [(2,[15]),(3,[15]),(4,[15])] E7 E7 (C8 A0 A0 E7 A0 A0 (C4 A0 A0) (C8 A0 A0 E7 A0 A0 (C4 A0 A0) (C8 A0 A0 E7 A0 A0 (C4 A0 A0) (C8 A0 A0 E7 A0 A0 (C4 A0 A0) (C8 A0 A0 E7 A0 A0 (S7 A0 A0 B3) (C8 A0 A0 E7 A0 A0 (C4 A0 A0) (C8 A0 A0 E7 A0 A0 (C4 A0 A0) (C8 A0 A0 E7 A0 A0 (S7 A0 A0 B3) (C8 A0 A0 E7 A0 A0 (G3 A0 A0 A0 B3 (by (rw[d];omega))) ?_)))))))));refine C8 A0 A0 E7 A0 A0 (cM A0 A0 q A0) (C8 A0 A0 E7 A0 A0 (C4 A0 A0) (C8 A0 A0 E7 A0 A0 (C4 A0 A0) (C8 A0 A0 E7 A0 A0 (G3 A0 A0 A0 B3 (by (first | (rw[d];omega) | (rw[B76,d];omega)))) ?_)));refine C8 A0 A0 E7 A0 A0 (cM A0 A0 w A0) (C8 A0 A0 E7 A0 A0 (G3 A0 A0 A0 B3 (by (rw[d];omega))) ?_);refine Y4 A0 A0 E7 A0 A0 (gS (fun T H=>o8 (y) TySz.out (T4 H A0) A0 w (T4 H A0) A0 A0 A0 (fun _ _ _ h=>m8 h) (by intro j U G;rcases j with _ | _ | _ | _ | _ | _ | _ | j<;>first | rfl | omega))) A0 ?_;refine C8 A0 A0 E7 A0 A0 (G3 A0 A0 A0 B3 (by (rw[B76,d];omega))) ?_;refine Y4 A0 A0 E7 A0 A0 (gS (fun T H=>o8 (x) TySz.out (T4 H A0) A0 O (T4 H A0) A0 A0 A0 (fun _ _ _ h=>m8 h) (by intro j U G;rcases j with _ | _ | _ | _ | _ | _ | _ | j<;>first | rfl | omega))) A0 ?_;refine xB E7 rfl ?_ ?_
  ·refine J1 A0 A0 E7 A0 A0 (C4 A0 A0) (J1 A0 A0 E7 A0 A0 (C4 A0 A0) (J1 A0 A0 E7 A0 A0 (S7 A0 A0 B3) ?_));exact jT
  refine I0 ?_;refine⟨m+1,⟨by omega,fun k hk W=>?_⟩,by omega,?_⟩
  ·by_cases e:k=m
   ·subst e;rw[<-Q];exact B.2
   ·exact z k B3 W
  ·rw[B26,show (((i-m:Nat):Int)-1).toNat=i-m-1 by omega,M,show ((i-(m+1):Nat):Int)=((i-m:Nat):Int)-1 by omega];exact A91 lf R b2y (D4 (L:=[(802,_)]) ⟨rfl,trivial⟩ SY)
 ·rw[xP,Bool.and_eq_false_iff,decide_eq_false_iff_not,D]at B;have hd:cC b x m rest=fO l (i+1):=by
   rw[e1];refine SS B3 z fun C=>?_;rcases B with h | h
   ·omega
   ·rw[Y,B30,B23 C]at h;exact h
  rw[hd];refine N0 ?_;refine⟨i+1,⟨by omega,.inl B3⟩,by omega,?_⟩;exact A91 lf R L6 (D4 (L:=[(802,_)]) ⟨rfl,trivial⟩ SY)
theorem pdq_met{gf:Fr}{ob:Obs}(l:List Delta)(n:Int)(k:l.length<=12)(b:B0 ob 802=some (qX l)) :
  AL.Met prog 189 [.one (.mut 802),.one (.p (.v (.int .i64 0))),.one (.p (.v (.int .i64 l.length))),.one (.p (.v (.int .i64 n))),.one (.p (.v (.func (.func 176) #[] #[])))] gf ob []
   (fun g ob'=>g=[]/\ob'=(802,qX (rE l))::ob):=by
 refine AL.Met.introH Tryz.func189 F5 rfl rfl rfl (fun d=>?_);refine U7 ?_;refine C1 (X:=Nat) (fun _=>([(0,.s (.one (.mut 802))),(1,B1 0),(2,B1 l.length),(3,B1 n),(4,H6 (.func (.func 176) #[] #[])),(10,S6 true),(11,S6 true)]++gf,ob)) (fun _=>True) (fun _=>0) 0 trivial ?_ ?_
 ·exact A91 lf d L6 (fun _ _ h=>h)
 intro _ _;dsimp only;refine zc 14 (fun a=>?_) fun a=>?_
 ·refine N0 ?_;refine M9 (NW l B3 b) A0 A0 A0 (H2 ?_);exact D7 (fJ rfl) bZ (fun _ _ h=>h) ⟨rfl,rfl⟩
 ·have j:=A2 a;omega
theorem A49(n:Nat)(b:n<256):FnOk prog 210 [.one (.v (.int .u64 n))] (fun a=>a=[E2 (Lib.bitLen n:Nat)]) :=
 A95 (xs:=[.int .u64 n]) ⟨_,rfl,rfl,rfl⟩ rfl fun w=>by simpa using Tryz.bits_Len64 (n:Int) w B3 B3
theorem SZ(n:Nat)(a:n<256):FnOk prog 190 [.one (.v (.int .u64 n))] (fun b=>∃r:Int,b=[E2 r]):=by
 refine FnOk.intro Tryz.func190 F5 A0 A0 A0 A0 (I0 ?_);refine c_condF (R6 ?_);refine F0 (A49 n a) (H8 ?_);exact A8 M3 ⟨_,rfl⟩
theorem KB{gf:Fr}{ob:Obs}(l:List Delta)(b:l.length<=12)(a:B0 ob 802=some (qX l)) :
  AL.Met prog 175 [.one (.mut 802),.one (.p (.v (.func (.func 176) #[] #[])))] gf ob []
   (fun rs ob'=>rs=[]/\ob'=(802,qX (rE l))::ob):=by
 have d:IntKind.u64.wrap (l.length:Int)=(l.length:Nat):=by unfold IntKind.wrap;simp[IntKind.signed,IntKind.bits];omega
 refine AL.Met.intro Tryz.func175 F5 A0 A0 A0 (H8 ?_);refine A9 (JE A0 a) A0 (J5 ?_);refine y5 ((by rw[d];exact SZ l.length B3)) A0 A0 A0 ?_;rintro _ ⟨r,rfl⟩;refine F8 ?_;refine M9 (pdq_met l r b a) A0 A0 A0 (F8 ?_);skip;exact Q0 (fJ rfl) bZ (fun _ _ h=>h) ⟨rfl,rfl⟩
def nR(b:List File)(a:List File)(i:Nat):List Delta:=(a.take i).filterMap (jC b)
theorem NX{b a:List File}{i:Nat}(h:i<a.length):nR b a (i+1)=nR b a i++(jC b a[i]).toList:=by
 have e:[a[i]].filterMap (jC b)=(jC b a[i]).toList:=by
  cases c:jC b a[i] with
  | none=>rw[List.filterMap_cons_none c];rfl
  | some d=>rw[List.filterMap_cons_some c];rfl
 unfold nR;rw[B48,B23 h,B54,List.filterMap_append,e]
def iV(a:List File)(b:List File)(i:Nat):List Delta:=(b.take i).filterMap (qG a)
theorem NY{a b:List File}{i:Nat}(h:i<b.length):iV a b (i+1)=iV a b i++(qG a b[i]).toList:=by
 have e:[b[i]].filterMap (qG a)=(qG a b[i]).toList:=by
  cases c:qG a b[i] with
  | none=>rw[List.filterMap_cons_none c];rfl
  | some d=>rw[List.filterMap_cons_some c];rfl
 unfold iV;rw[B48,B23 h,B54,List.filterMap_append,e]
theorem TA(b a:List File)(i:Nat):(nR b a i).length<=a.length:=by
 unfold nR;have:=List.length_filterMap_le (jC b) (a.take i);rw[B42]at this;omega
theorem TB(a b:List File)(i:Nat):(iV a b i).length<=b.length:=by
 unfold iV;have:=List.length_filterMap_le (qG a) (b.take i);rw[B42]at this;omega
def nS(a b:List File):Int:=if F3 a≠0 then F3 a else F3 b
theorem NZ{p:Prop}(h:p:=by (simp only[B31,List.length_nil];omega)):p:=h
theorem A50(a b:List File)(ha:FewF a)(hb:FewF b)(G:nS a b=0->a.length+b.length<=12):FnOk prog 148 [b9 a,b9 b] (fun rs=>rs=[KY (if nS a b≠0 then [] else i6 a b),E2 (nS a b)]):=by
 have H:=ha.len;have J:=hb.len;refine FnOk.intro Tryz.func148 F5 A0 A0 A0 A0 (R9 ?_);refine F0 (A48 a b ha hb) ?_;refine zc 7 (fun d=>?_) fun d=>?_
 ·have q:nS a b≠0:=A1 d;refine H8 ?_;refine A9 (K8 _ 2 lJ) A0 (H8 ?_);exact A8 (rs:=[KY [],E2 (nS a b)]) nP (by rw[A5 q])
 have q:¬nS a b≠0:=A2 d;have w:nS a b=0:=B84.1 q;have N:=G w;have B:F3 a=0:=by
  apply B55;intro h;unfold nS at w;rw[A5 h]at w;exact h w
 have I:F3 b=0:=by unfold nS at w;rw[A6 (fun h=>h B)]at w;exact w
 have C:=(dH B).1;have D:=(dH I).1;have K:=tM C;have L:=tM D;rw[w,A6 (show ¬(0:Int)≠0 from fun h=>h rfl),<-A08 C D];refine R6 ?_;refine mK (NG a H) A0 A0 A0 A0 ?_;rintro _ _ ⟨rfl,rfl⟩;refine⟨rfl,?_⟩;refine F8 ?_;refine mK (BG b J) A0 A0 A0 A0 ?_;rintro _ _ ⟨rfl,rfl⟩;refine⟨rfl,?_⟩;refine H8 ?_;refine H2 ?_;refine B6 (MK 802 _ lJ A0) A0 (U7 ?_);refine C1 (X:=Nat) (fun i=>([(1,B9 File 2 Z7 b),(7,.s (.one (.mut 801))),(8,.s (.one (.mut 800))),(9,.s (.one (.mut 802))),(28,B9 File 2 Z7 a),(29,B1 a.length),(30,B1 i)],[(800,.map Str bI (V9 b)),(801,.map Str bI (V9 a)),(802,qX (nR b a i))])) (fun i=>i<=a.length) (fun i=>a.length-i) 0 (B37 _) (C6) ?_;intro i M;dsimp only at M ⊢;have T:=TA b a i;refine zc 5 (fun d=>?_) fun d=>?_
 ·have v:i<a.length:=by have q:=A1 d;(try dsimp only at q);omega
  obtain⟨f,E⟩:∃f,f=a[i]:=⟨_,rfl⟩
  have U:a[i]?=some f:=by rw[E];simp[v]
  have l:=NX (b:=b) v;rw[<-E]at l;refine J5 ?_;refine B6 (E6 11 A0) A0 (J5 ?_);refine A9 (nL (f.Path) (r:=((K0 b f.Path).map EU)) A0 A0 A0 dT dU (L f.Path)) A0 (o9 ?_);cases j:K0 b f.Path with
  | none =>
   have g:jC b f=some ⟨f.Path,2⟩:=by unfold jC;rw[j]
   rw[g]at l;refine zc 0 (fun d=>?_) fun d=>?_
   ·skip;refine I0 ?_;refine A9 (B8 (c:=lJ) (ys:=[⟨f.Path,2⟩]) (C5 A0 A0 A0 A0 E5) A0 A0 A0) A0 (B6 (R5 A0 A0 A0 (.pure _ _ _ _) NZ A0) A0 (N0 ?_));refine⟨i+1,by omega,by omega,?_⟩;rw[l];exact (C6)
   ·cases d
  | some y =>
   refine zc 0 (fun d=>?_) fun d=>?_
   ·cases d
   refine zc 7 (fun d=>?_) fun d=>?_
   ·have F:y≠f.Blob:=A1 d;have g:jC b f=some ⟨f.Path,3⟩:=by unfold jC;rw[j];dsimp only;rw[A5 F]
    rw[g]at l;skip;refine I0 ?_;refine A9 (B8 (c:=lJ) (ys:=[⟨f.Path,3⟩]) (C5 A0 A0 A0 A0 E5) A0 A0 A0) A0 (B6 (R5 A0 A0 A0 (.pure _ _ _ _) NZ A0) A0 (N0 ?_));refine⟨i+1,by omega,by omega,?_⟩;rw[l];exact (C6)
   ·have F:¬y≠f.Blob:=A2 d;have g:jC b f=none:=by unfold jC;rw[j];dsimp only;rw[A6 F]
    rw[g]at l;refine I0 ?_;refine⟨i+1,by omega,by omega,?_⟩;rw[l];simp only[Option.toList_none,B71];exact (C6)
 have z:i=a.length:=by have q:=A2 d;(try dsimp only at q);omega
 have P:nR b a a.length=a.filterMap (jC b):=by unfold nR;rw[B38]
 obtain⟨A,x⟩:∃A,A=a.filterMap (jC b):=⟨_,rfl⟩
 have Q:A.length<=a.length:=by rw[x];exact List.length_filterMap_le _ _
 rw[z,P,<-x];refine U7 ?_;refine C1 (X:=Nat) (fun i=>([(7,.s (.one (.mut 801))),(9,.s (.one (.mut 802))),(60,B9 File 2 Z7 b),(61,B1 b.length),(62,B1 i)],[(801,.map Str bI (V9 a)),(802,qX (A++iV a b i))])) (fun i=>i<=b.length) (fun i=>b.length-i) 0 (B37 _) (by rw[show A++iV a b 0=A by unfold iV;simp];exact (C6)) ?_;intro i M;dsimp only at M ⊢;have O:=TB a b i;refine zc 5 (fun d=>?_) fun d=>?_
 ·have v:i<b.length:=by have q:=A1 d;(try dsimp only at q);omega
  obtain⟨f,E⟩:∃f,f=b[i]:=⟨_,rfl⟩
  have U:b[i]?=some f:=by rw[E];simp[v]
  have l:=NY (a:=a) v;rw[<-E]at l;refine J5 ?_;refine B6 (E6 15 A0) A0 (J5 ?_);refine A9 (nL (f.Path) (r:=((K0 a f.Path).map EU)) A0 A0 A0 dT dU (K f.Path)) A0 (o9 ?_);cases j:K0 a f.Path with
  | none =>
   have g:qG a f=some ⟨f.Path,1⟩:=by unfold qG;rw[j]
   rw[g]at l;refine zc 0 (fun d=>?_) fun d=>?_
   ·skip;refine I0 ?_;refine A9 (B8 (c:=lJ) (ys:=[⟨f.Path,1⟩]) (C5 A0 A0 A0 A0 E5) A0 A0 A0) A0 (B6 (R5 A0 A0 A0 (.pure _ _ _ _) b5x A0) A0 (N0 ?_));refine⟨i+1,by omega,by omega,?_⟩;rw[l,<-B51];exact (C6)
   ·cases d
  | some y =>
   have g:qG a f=none:=by unfold qG;rw[j]
   rw[g]at l;refine zc 0 (fun d=>?_) fun d=>?_
   ·cases d
   ·refine I0 ?_;refine⟨i+1,by omega,by omega,?_⟩;rw[l];simp only[Option.toList_none,B71];exact (C6)
 have z:i=b.length:=by have q:=A2 d;(try dsimp only at q);omega
 have R:A++iV a b b.length=dG a b:=by unfold iV dG;rw[B38,x]
 have S:=UX a b;rw[z,R];refine R6 ?_;refine M9 (KB (dG a b) B3 A0) A0 A0 A0 (H2 ?_);refine C3 (Sees.freezeG (k:=802) A0 A0) (N0 ?_);exact A8 (rs:=[KY (diffOf a b),E2 0]) nP rfl
theorem OA{g:Graph}{c:Int}(h:mC g c=0):Valid g/\0<=c/\c<g.length:=by
 unfold mC at h;split at h
 ·rename_i a;exact absurd h a
 ·rename_i a;split at h
  ·rename_i b;exact⟨fV (B84.1 a),b⟩
  ·cases h
theorem TD(g:Graph)(c:Int)(h:FewT g):FnOk prog 17 [N2 g,E2 c] (fun rs=>rs=[E2 (mC g c)]):=by
 refine FnOk.intro Tryz.func17 F5 A0 A0 A0 A0 (X0 ?_);refine F0 (WQ g h) ?_;refine zc 7 (fun a=>?_) fun a=>?_
 ·have b:O6 g≠0:=A1 a;refine N0 ?_;exact A8 (rs:=[E2 (O6 g)]) M3 (by unfold mC;rw[A5 b])
 have b:¬O6 g≠0:=A2 a;refine N0 ?_;refine F0 (dis_ok g c) ?_;refine zc 2 (fun a=>?_) fun a=>?_
 ·have d:¬w9 g c:=by simpa using a
  refine I0 ?_;exact A8 (rs:=[E2 5]) M3 (by unfold mC;rw[A6 b,A6 d])
 ·have d:w9 g c:=by simpa using a
  refine N0 ?_;exact A8 (rs:=[E2 0]) M3 (by unfold mC;rw[A6 b,A5 d])
theorem nT(g:Graph)(c:Nat)(D:FewG g)(H:related g=true)(y:c<g.length):FnOk prog 18 [N2 g,E2 c] (fun rs=>rs=[KZ (N4 g c)]):=by
 obtain⟨d,m⟩:∃d,d=g[c]:=⟨_,rfl⟩
 have K:g[((c:Nat):Int).toNat]?=some d:=by rw[m];simp[y]
 have w:D8 g c=d.Parents:=by rw[bQ y,m]
 have hpr:=(K9 H c).1;have G:=D.pars d (by rw[m];exact B32 y);have A:N4 g c=if d.Parents=[] then [[]] else dB g d.Parents d.Parents.length:=by unfold N4 dB;rw[w,B38]
 rw[w]at hpr;rw[A];refine FnOk.intro Tryz.func18 F5 A0 A0 A0 A0 ?_;refine zc 15 (fun v=>?_) fun v=>?_
 ·have j:d.Parents=[]:=by
   have j:=A1 v;exact List.length_eq_zero_iff.1 B3
  rw[A5 j];refine H2 ?_;refine A9 (B8 (c:=nZ) (ys:=[[]]) (A44 A0 A0 E5) A0 A0 A0) A0 (H8 ?_);exact A8 (rs:=[KZ [[]]]) M3 rfl
 have j:¬d.Parents=[]:=fun e=>by
  have j:=A2 v;rw[e]at j;exact j rfl
 rw[A6 j];refine H8 ?_;refine B6 (U2 5 _ nZ A0) A0 (zz 13 ?_);refine C1 (X:=Nat) (fun i=>([(0,B9 Commit 3 H0 g),(5,.s (.one (.buf 5 (List File) 1 nZ (dB g d.Parents i)))),(20,B9 Int 1 E0 d.Parents),(21,B1 d.Parents.length),(22,B1 i)],[(5,.spare (dB g d.Parents i).length 1 37)])) (fun i=>i<=d.Parents.length) (fun i=>d.Parents.length-i) 0 (B37 _) (C6) ?_;intro i E;dsimp only at E ⊢;have I:=NS g d.Parents i;refine zc 5 (fun v=>?_) fun v=>?_
 ·have q:i<d.Parents.length:=by have j:=A1 v;(try dsimp only at j);omega
  have F:=hpr _ (B32 q);obtain⟨p,B⟩:∃p:Nat,d.Parents[i]=(p:Int):=⟨d.Parents[i].toNat,by omega⟩
  have J:d.Parents[i]?=some (p:Int):=by rw[B23 q,B]
  obtain⟨x,hpm⟩:∃x,x=g[p]:=⟨_,rfl⟩
  have k:g[((p:Nat):Int).toNat]?=some x:=by rw[hpm,B26];simp[show p<g.length by omega]
  have C:=JY (g:=g) q;rw[B,B26,pK (by rw[B26]at k;exact k)]at C;refine zz 16 ?_;refine A9 (B8 (c:=nZ) (ys:=[x.Files]) (C5 A0 A0 A0 A0 E5) A0 A0 A0) A0 (J5 ?_);refine⟨i+1,by omega,by omega,?_⟩;rw[C];exact (C6)
 ·have z:i=d.Parents.length:=by have j:=A2 v;(try dsimp only at j);omega
  rw[z];refine J5 ?_;exact A8 (rs:=[KZ (dB g d.Parents d.Parents.length)]) M3 rfl
def Short(g:Graph):Prop:=∀c:Nat,(J0 g c).length<=6
theorem Short.tree{g:Graph}(h:Short g){c:Nat}{t:List File}(a:t∈N4 g c):t.length<=6:=by
 unfold N4 at a;split at a
 ·rw[B33.1 a];simp
 ·obtain⟨p,_,rfl⟩:=B62.1 a;exact h _
theorem YS{g:Graph}(h:FewT g){c:Nat}{t:List File}(a:t∈N4 g c):FewF t:=by
 unfold N4 at a;split at a
 ·rw[B33.1 a];exact⟨by simp,(fun _ h=>by cases h),(fun _ h=>by cases h)⟩
 ·obtain⟨p,_,rfl⟩:=B62.1 a;exact h.files _
theorem Valid.check{g:Graph}(h:Valid g)(c:Nat):F3 (J0 g c)=0:=by
 unfold J0;by_cases a:c<g.length
 ·rw[B23 a];exact h.tree _ (B32 a)
 ·rw[B58 B3];decide
theorem Valid.checks{g:Graph}(h:Valid g){c:Nat}{t:List File}(a:t∈N4 g c):F3 t=0:=by
 unfold N4 at a;split at a
 ·rw[B33.1 a];decide
 ·obtain⟨p,_,rfl⟩:=B62.1 a;exact Valid.check h _
def jW(g:Graph)(c:Nat):List (List Delta):=(N4 g c).map fun t=>i6 t (J0 g c)
def Q1(b:List (List File))(u:List File)(i:Nat):List (List Delta):=(b.take i).map fun t=>i6 t u
theorem BJ{a:List (List File)}{u:List File}{i:Nat}(h:i<a.length):Q1 a u (i+1)=Q1 a u i++[i6 a[i] u]:=by
 unfold Q1;rw[B48,B23 h,B54,B65];rfl
theorem EX(a:List (List File))(u:List File)(i:Nat):(Q1 a u i).length<=a.length:=by
 unfold Q1;rw[B75,B42];omega
theorem cof_ok(g:Graph)(c:Nat)(h:FewT g)(F:Valid g)(z:Short g)(P:c<g.length):FnOk prog 113 [N2 g,E2 c] (fun rs=>rs=[.one (.list (List Delta) 1 lK (jW g c))]):=by
 obtain⟨w,H⟩:∃w,w=g[c]:=⟨_,rfl⟩
 have E:g[((c:Nat):Int).toNat]?=some w:=by rw[H];simp[P]
 have x:J0 g c=w.Files:=pK (by rw[B26]at E;exact E);have L:=nQ F c;have A:∀t∈N4 g c,FewF t/\F3 t=0/\t.length<=6:=fun t m=>⟨YS h m,Valid.checks F m,z.tree m⟩
 have D:=h.files c;have C:=Valid.check F c;have O:=z c;obtain⟨d,v⟩:∃d,d=N4 g c:=⟨_,rfl⟩
 obtain⟨u,M⟩:∃u,u=w.Files:=⟨_,rfl⟩
 have y:jW g c=Q1 d u d.length:=by unfold jW Q1;rw[B38,x,v,M]
 rw[x,<-M]at D C O;rw[<-v]at L A;rw[y];refine FnOk.intro Tryz.func113 F5 A0 A0 A0 A0 (N0 ?_);refine B6 (U2 5 _ lK A0) A0 (N0 ?_);refine F0 (nT g c h.few F.rel P) (H8 ?_);rw[<-v];refine F8 ?_;refine C1 (X:=Nat) (fun p=>([(0,B9 Commit 3 H0 g),(1,B1 c),(5,.s (.one (.buf 5 (List Delta) 1 lK (Q1 d u p)))),(12,B9 (List File) 1 nZ d),(13,B1 d.length),(14,B1 p)],[(5,.spare (Q1 d u p).length 1 214)])) (fun p=>p<=d.length) (fun p=>d.length-p) 0 (B37 _) (C6) ?_;intro p S;dsimp only at S ⊢;have R:=EX d u p;refine zc 5 (fun m=>?_) fun m=>?_
 ·have k:p<d.length:=by have G:=A1 m;(try dsimp only at G);omega
  have Q:=BJ (u:=u) k;obtain⟨t,q⟩:∃t,t=d[p]:=⟨_,rfl⟩
  have U:d[p]?=some t:=by rw[q];simp[k]
  obtain⟨B,J,T⟩:=A t (by rw[q];exact B32 k);rw[<-q]at Q;have K:nS t u=0:=by unfold nS;rw[J,A6 (fun h=>h rfl),C]
  have j:=A50 t u B D (fun _=>by omega);rw[K,A6 (fun h=>h rfl),show b9 u=b9 w.Files by rw[M]]at j;refine zz 17 ?_;refine F0 (j) (U7 ?_);refine A9 (B8 (c:=lK) (ys:=[i6 t u]) (C5 A0 A0 A0 A0 E5) A0 A0 A0) A0 (J5 ?_);refine⟨p+1,by omega,by omega,?_⟩;rw[Q];exact (C6)
 ·have I:p=d.length:=by have G:=A2 m;(try dsimp only at G);omega
  rw[I];refine J5 ?_;exact A8 (rs:=[.one (.list (List Delta) 1 lK (Q1 d u d.length))]) M3 rfl
theorem GY{g:Graph}(h:FewT g)(c:Nat):(J0 g c).length<=1073741824:=(h.files c).len
theorem b1y{p:Prop}(h:p:=by exact ret3 rfl rfl rfl rfl rfl rfl rfl):p:=h
theorem OB(g:Graph)(c:Nat)(b:Str)(h:FewT g)(x:mC g c=0):FnOk prog 7 [N2 g,E2 c,E2 0,G5 b] (fun rs=>rs=[G5 (Q7 (R2 g c) b),G5 (Q7 (J0 g c) b),E2 0]):=by
 obtain⟨z,_,A⟩:=OA x;have k:c<g.length:=by omega
 have m:=TD g c h;rw[x]at m;have f:=RA g c;have y:0<(N4 g c).length:=by
  cases e:N4 g c with
  | nil=>rw[e]at f;cases f
  | cons _ _=>simp
 have q:(R2 g c).length<=1073741824:=by
  rcases vD g c with ⟨d,u⟩ | u
  ·rw[u];exact GY h d
  ·rw[u];exact B37 _
 obtain⟨i,s⟩:∃i,i=g[c]:=⟨_,rfl⟩
 have r:g[((c:Nat):Int).toNat]?=some i:=by rw[s];simp[k]
 have v:J0 g c=i.Files:=pK (by rw[B26]at r;exact r);have p:=GY h c;rw[v]at p ⊢;obtain⟨t,w⟩:∃t,t=R2 g c:=⟨_,rfl⟩
 rw[<-w]at f q ⊢;refine FnOk.intro Tryz.func7 F5 A0 A0 A0 A0 (o9 ?_);refine F0 (m) ?_;refine zc 7 (fun j=>?_) fun j=>?_
 ·exact absurd rfl (A1 j)
 refine I0 ?_;refine F0 (nT g c h.few z.rel k) ?_;refine zc 14 (fun j=>?_) fun j=>?_
 ·exfalso;rw[or_pick]at j;have:=A1 j;omega
 refine X0 ?_;refine F0 (tQ t b q) (zz 14 ?_);refine F0 (tQ i.Files b p) (zz 15 ?_);exact A8 (rs:=[G5 (Q7 t b),G5 (Q7 i.Files b),E2 0]) b1y rfl
theorem YT(g:Graph)(c:Nat)(h:FewT g)(V:Valid g)(C:Short g)(L:c<g.length):FnOk prog 70 [N2 g,E2 c] (fun rs=>rs=[LR (U0 g c)]):=by
 obtain⟨D,M⟩:∃D,D=g[c]:=⟨_,rfl⟩
 have J:g[((c:Nat):Int).toNat]?=some D:=by rw[M];simp[L]
 have B:J0 g c=D.Files:=pK (by rw[B26]at J;exact J);have U:=nQ V c;have H:∀t∈N4 g c,t.length<=6:=fun t v=>C.tree v;have I:=C c;rw[B]at I;obtain⟨j,x⟩:∃j,j=N4 g c:=⟨_,rfl⟩
 obtain⟨u,K⟩:∃u,u=D.Files:=⟨_,rfl⟩
 have F:U0 g c=x6 j u j.length:=by unfold U0 x6;rw[B38,B,x,K]
 have P:jW g c=Q1 j u j.length:=by unfold jW Q1;rw[B38,B,x,K]
 rw[<-K]at I;rw[<-x]at U H;rw[F];obtain⟨DS,A⟩:∃DS,DS=Q1 j u j.length:=⟨_,rfl⟩
 have ac:DS.length=j.length:=by rw[A];unfold Q1;rw[B75,B38]
 refine FnOk.intro Tryz.func70 F5 A0 A0 A0 A0 (N0 ?_);refine B6 (U2 5 _ oS A0) A0 (I0 ?_);refine F0 (nT g c h.few V.rel L) (H2 ?_);rw[<-x];refine I0 ?_;refine F0 (cof_ok g c h V C L) (H8 ?_);rw[P,<-A];refine F8 ?_;refine C1 (X:=Nat) (fun p=>([(0,B9 Commit 3 H0 g),(1,B1 c),(5,.s (.one (.buf 5 (List (Str×Str)) 1 oS (x6 j u p)))),(6,B9 (List File) 1 nZ j),(21,.s (.one (.p (.list (List Delta) 1 lK DS)))),(22,B1 DS.length),(23,B1 p)],[(5,.spare (x6 j u p).length 1 143)])) (fun p=>p<=j.length) (fun p=>j.length-p) 0 (B37 _) (C6) ?_;intro p hp;dsimp only at hp ⊢;have ad:=NU j u p;refine zc 5 (fun v=>?_) fun v=>?_;rotate_left
 ·have R:p=j.length:=by have z:=A2 v;(try dsimp only at z);omega
  rw[R];refine J5 ?_;exact A8 (rs:=[LR (x6 j u j.length)]) M3 rfl
 have m:p<j.length:=by have z:=A1 v;(try dsimp only at z);omega
 have T:=JZ (u:=u) m;obtain⟨t,w⟩:∃t,t=j[p]:=⟨_,rfl⟩
 have ag:j[p]?=some t:=by rw[w];simp[m]
 have Z:=H t (by rw[w];exact B32 m);rw[<-w]at T;have O:=BI t u;obtain⟨k,q⟩:∃k,k=i6 t u:=⟨_,rfl⟩
 have af:DS[p]?=some k:=by
  rw[A,q,w];unfold Q1;rw[B38,B92,B23 m];rfl
 have S:mB t u=dC t u k k.length:=by unfold mB dC;rw[B38,q]
 rw[S]at T;rw[<-q]at O;refine zz 13 ?_;refine B6 (U2 9 _ iK A0) A0 (U7 ?_);refine C1 (X:=Nat) (fun i=>([(0,B9 Commit 3 H0 g),(1,B1 c),(5,.s (.one (.buf 5 (List (Str×Str)) 1 oS (x6 j u p)))),(6,B9 (List File) 1 nZ j),(7,B1 p),(9,.s (.one (.buf 9 (Str×Str) 2 iK (dC t u k i)))),(21,.s (.one (.p (.list (List Delta) 1 lK DS)))),(22,B1 DS.length),(23,B1 p),(28,B9 Delta 2 lJ k),(29,B1 k.length),(30,B1 i)],[(5,.spare (x6 j u p).length 1 143),(9,.spare (dC t u k i).length 2 95)])) (fun i=>i<=k.length) (fun i=>k.length-i) 0 (B37 _) (C6) ?_;intro i hi;dsimp only at hi ⊢;have ae:=xG t u k i;refine zc 5 (fun v=>?_) fun v=>?_
 ·have y:i<k.length:=by have z:=A1 v;(try dsimp only at z);omega
  have G:=KA (t:=t) (u:=u) y;obtain⟨d,W⟩:∃d,d=k[i]:=⟨_,rfl⟩
  have ab:k[i]?=some d:=by rw[W];simp[y]
  rw[<-W]at G;have E:=tQ u d.Path B3;rw[show b9 u=b9 D.Files by rw[K]]at E;refine J5 ?_;refine B6 (E6 11 A0) A0 (R9 ?_);refine D2 (I2 (tQ t d.Path B3) A0 A0) A0 A0 (zz 15 ?_);refine D2 (I2 (E) A0 A0) A0 A0 (o9 ?_);refine A9 (B8 (c:=iK) (ys:=[(Q7 t d.Path,Q7 u d.Path)]) (C5 A0 A0 A0 A0 E5) A0 A0 A0) A0 (J5 ?_);refine⟨i+1,by omega,by omega,?_⟩;rw[G];exact (C6)
 ·have Q:i=k.length:=by have z:=A2 v;(try dsimp only at z);omega
  rw[Q];have Y:=xG t u k k.length;refine R6 ?_;refine A9 (B8 (c:=oS) (ys:=[dC t u k k.length]) (C5 A0 A0 A0 A0 E5) A0 A0 A0) A0 (J5 ?_);refine⟨p+1,by omega,by omega,?_⟩;rw[T];exact (C6)
abbrev WR(x:Str×Str):S1:=.agg [.p (iK x 0),.p (iK x 1)]
abbrev qY(b:Bool):S1:=.one (.p (.v (.bool b)))
abbrev Q5(i:Int):S1:=.one (.p (.v (.int .i64 i)))
theorem EY(f:FuncId)(α:Type)(j:Nat)(c:α->Nat->Cell)(v:α)(q:Str×Str->Bool)(l:List (Str×Str))(B:l.length<=1073741824)(w:∀x∈l,AL.Met prog f [WR x,.one (.eref α j c v 0)] [] [] [] (fun u ob'=>u=[qY (q x)]/\ob'=[])) :
  AL.Met prog 111 [.one (.p (.list (Str×Str) 2 iK l)),.one (.fncE f α j c v)] [] [] [] (fun u ob'=>(∃i:Int,u=[Q5 i]/\decide (0<=i)=l.any q)/\ob'=[]):=by
 refine AL.Met.intro Tryz.func111 F5 A0 A0 A0 (eI ?_);refine C1 (X:=Nat) (fun i=>([(0,B9 (Str×Str) 2 iK l),(1,.s (.one (.fncE f α j c v))),(7,B1 l.length),(8,B1 i)],[])) (fun i=>i<=l.length/\(l.take i).any q=false) (fun i=>l.length-i) 0 ⟨B37 _,rfl⟩ (C6) ?_;rintro i ⟨z,h⟩;dsimp only at z h ⊢;refine zc 5 (fun d=>?_) fun d=>?_;rotate_left
 ·have g:i=l.length:=by have g:=A2 d;(try dsimp only at g);omega
  rw[g,B38]at h;refine N0 ?_;exact D7 Y5 bZ (ObIn.spec (ob':=[]) trivial) ⟨⟨-1,rfl,by rw[h];rfl⟩,rfl⟩
 have b:i<l.length:=by have g:=A1 d;(try dsimp only at g);omega
 obtain⟨x,m⟩:∃x,x=l[i]:=⟨_,rfl⟩
 have A:l[i]?=some x:=by rw[m];simp[b]
 have k:=w x (by rw[m];exact B32 b);refine zz 15 ?_;refine A9 (n_callE (k) A0 A0 A0) A0 ?_;refine zc 1 (fun d=>?_) fun d=>?_
 ·refine N0 ?_;refine D7 Y5 bZ (ObIn.spec (ob':=[]) trivial) ⟨⟨i,rfl,?_⟩,rfl⟩;rw[List.any_eq_true.2 ⟨x,by rw[m];exact B32 b,d⟩];exact A3 B3
 ·refine I0 ?_;refine⟨i+1,⟨b,?_⟩,by omega,(C6)⟩;rw[B48,A,B54,List.any_append,h,B83,List.any_cons,List.any_nil,Bool.or_false];exact d
theorem wC(f:FuncId)(α:Type)(a:Nat)(c:α->Nat->Cell)(v:α)(b:Str×Str->Bool)(l:List (Str×Str))(j:l.length<=1073741824)(g:∀x∈l,AL.Met prog f [WR x,.one (.eref α a c v 0)] [] [] [] (fun d ob'=>d=[qY (b x)]/\ob'=[])) :
  AL.Met prog 68 [.one (.p (.list (Str×Str) 2 iK l)),.one (.fncE f α a c v)] [] [] [] (fun d ob'=>d=[qY (l.any b)]/\ob'=[]):=by
 refine AL.Met.intro Tryz.func68 F5 A0 A0 A0 (X0 ?_);refine mK (EY f α a c v b l j g) A0 A0 A0 A0 ?_;rintro _ _ ⟨⟨i,rfl,h⟩,rfl⟩;refine⟨rfl,?_⟩;refine H8 ?_;refine F8 ?_;exact D7 Y5 bZ (ObIn.spec (ob':=[]) trivial) ⟨by rw[<-h],rfl⟩
def bJ(B:List (List (Str×Str)))(i:Nat):List (Str×Str):=(B.take i).flatten
theorem xH{B:List (List (Str×Str))}{i:Nat}(h:i<B.length):bJ B (i+1)=bJ B i++B[i]:=by
 unfold bJ;rw[B48,B23 h,B54,B64];simp
theorem GZ:∀{B:List (List (Str×Str))},(∀l∈B,l.length<=400)->B.flatten.length<=400*B.length
 | [],_=>by simp
 | l::B,h=>by
  have:=GZ fun x a=>h x (B46 l a);have:=h l B52;rw[B69,B25,B31];omega
theorem lA{B:List (List (Str×Str))}(a:FewB B)(i:Nat):(bJ B i).length<=13200:=by
 have b:=GZ (B:=B.take i) fun l c=>a.lens l (B90 c);have d:=a.len;rw[B42]at b;unfold bJ;omega
abbrev WS(l:List (Str×Str)):Ob:=.grow 95 (Str×Str) 2 iK l
abbrev qD(s:Str)(a d:Nat):Ob:=.box [.p (.v (.string ⟨s.toArray⟩)),.p (.v (.int .i64 a)),.p (.v (.int .i64 d)),.mut 811]
abbrev nU(l:List AL.Node):Ob:=.grow 242 AL.Node 8 gF l
abbrev eS(c:UInt8):S1:=.one (.p (.v (.int .u8 c.toNat)))
abbrev K7:S1:=.one (.ref 810 0)
theorem jX{gf:Fr}{ob:Obs}(s:Str)(a d:Nat)(ha:a<=s.length)(_hs:s.length<=1000)(c:B0 ob 810=some (qD s a d)) :
  AL.Met prog 170 [K7] gf ob [] (fun g ob'=>g=[eS (s.getD a 0),qY (decide (a<s.length))]/\ob'=ob):=by
 refine AL.Met.intro Tryz.func170 F5 A0 A0 A0 (o9 ?_);refine D2 (D1 A0 c A0) A0 A0 (H8 ?_);refine D2 (D1 A0 c A0) A0 A0 (D2 (pA A0) A0 A0 ?_);refine zc 2 (fun e=>?_) fun e=>?_
 ·have b:a=s.length:=by have b:=A1 e;omega
  refine N0 ?_;refine D7 b4y bZ (fun _ _ h=>h) ⟨?_,rfl⟩;rw[b,A4 B3,B30,B58 B3];rfl
 ·have b:a<s.length:=by have b:=A2 e;omega
  have f:s[((a:Nat):Int).toNat]?=some (s.getD a 0):=by rw[B26,B30,B23 b];rfl
  refine N0 ?_;refine D2 (D1 A0 c A0) A0 A0 (H8 ?_);refine D2 (D1 A0 c A0) A0 A0 (D2 (P9 A0 A0 B3 f) A0 A0 (R6 ?_));refine D7 b4y bZ (fun _ _ h=>h) ⟨?_,rfl⟩;rw[A3 b]
theorem x7{gf:Fr}{ob:Obs}(s:Str)(a d:Nat)(c:UInt8)(ha:a<=s.length)(o:s.length<=1000)(g:B0 ob 810=some (qD s a d)) :
  AL.Met prog 142 [K7,eS c] gf ob [] (fun q ob'=>q=[qY (decide (s[a]?=some c))]/\ob'=(810,qD s (if s[a]?=some c then a+1 else a) d)::ob):=by
 have p:∀x y:UInt8,((x.toNat:Int)=y.toNat)↔x=y:=fun x y=>⟨fun h=>B88.1 B3,fun h=>by rw[h]⟩
 refine AL.Met.introH Tryz.func142 F5 rfl rfl rfl (fun m=>?_);refine C3 (A91 (l:=[(0,.s K7),(1,.s (eS c))]) (ob':=(810,qD s a d)::ob) lf m L6 (D4 (L:=[(810,_)]) ⟨g,trivial⟩ N7)) ?_;refine J5 ?_;refine M9 (jX s a d ha o A0) A0 A0 A0 (zz 17 ?_);by_cases e:s[a]?=some c
 ·have f:a<s.length:=(B28.1 e).1;have n:s.getD a 0=c:=by rw[B30,e];rfl
  rw[A3 e,A5 e];refine zc 0 (fun b=>?_) fun b=>?_
  ·rw[PK,A3 f,n]at b;simp at b
  ·refine zz 17 ?_;exact D7 Y5 bZ (D4 (L:=[(810,_)]) ⟨rfl,trivial⟩ SY) ⟨rfl,rfl⟩
 ·rw[A4 e,A6 e];refine zc 0 (fun b=>?_) fun b=>?_
  ·refine I0 ?_;exact D7 Y5 bZ (fun _ _ h=>h) ⟨rfl,rfl⟩
  ·rw[PK,B89]at b;have i:a<s.length:=by simpa using b.1
   have j:=A2 b.2;exfalso;refine e ?_;have k:s.getD a 0=c:=(p _ _).1 (B84.1 j);rw[<-k,B30,B23 i];rfl
theorem b9w{p:Prop}(h:p:=by repeat (first | exact R0 | refine tail_drop rfl ?_ | refine P0 rfl ?_ | refine bH _ ?_ | refine aK _ ?_)):p:=h
theorem b7w{p:Prop}(h:p:=by repeat (first | exact N7 | refine R8 rfl ?_ | refine obs_fgt _ ?_)):p:=h
theorem tR{gf:Fr}{ob:Obs}(s:Str)(a d:Nat)(l:List AL.Node)(n:AL.Node)(x:l.length<=1000)(m:B0 ob 810=some (qD s a d))(q:B0 ob 811=some (nU l)) :
  AL.Met prog 172 [K7,(vF n).s1] gf ob [811] (fun w ob'=>w=[Q5 l.length]/\ob'=(810,qD s a d)::(811,nU (l++[n]))::Obs.forget 811 ob):=by
 refine AL.Met.introH Tryz.func172 F5 rfl rfl rfl (fun k=>?_);refine C3 (A92 811 (l:=[(0,.s K7),(1,.s (vF n).s1)]) (L:=[(810,_),(811,_)]) lf k L6 ⟨m,q,trivial⟩) ?_;refine N0 ?_;refine C3 (A91 (gf':=Fr.forget 811 gf) (l:=[(0,.s K7),(3,.s (.one (.eref Unit 8 (fun _ j=>(cellsOf gF n 0 8).getD j (.v undef)) () 0)))]) (ob':=[(810,qD s a d),(811,nU l)]++Obs.forget 811 ob) lf (P1 k) L6 (fun _ _ h=>h)) ?_;refine L8 [10,7] [[],[7],[10,7]] [(7,([811],[9])),(10,([],[]))] [(0,[]),(1,[]),(2,[]),(3,[]),(4,[]),(5,[]),(6,[]),(7,[]),(8,[7]),(9,[7]),(10,[7])] [(0,[7])] E7 E7 (C8 A0 A0 E7 A0 A0 (C4 A0 A0) (C8 A0 A0 E7 A0 A0 (C4 A0 A0) (C8 A0 A0 E7 A0 A0 (C9 A0) (C8 A0 A0 E7 A0 A0 (D3 A0) (C8 A0 A0 E7 A0 A0 (D1 A0 A0 A0) (C8 A0 A0 E7 A0 A0 (I1 A0 A0) (C8 A0 A0 E7 A0 A0 (B8 (c:=gF) (ys:=[n]) (C5 A0 A0 A0 A0 E5) A0 A0 A0) (Y4 A0 A0 E7 A0 A0 (vX (fun i b=>R5 (T4 b A0) A0 (T4 b A0) (.pure _ _ _ _) NZ A0)) A0 (C8 A0 A0 E7 A0 A0 (C9 A0) (C8 A0 A0 E7 A0 A0 (D3 A0) (Y4 A0 A0 E7 A0 A0 (gS (fun i b=>I9 TySz.out (T4 b A0) A0 (T4 b A0) A0 A0 A0)) A0 ?_)))))))))));refine vY (ks:=[811]) rfl E7 rfl ?_ ?_
 ·refine J1 A0 A0 E7 A0 A0 (C4 A0 A0) ?_;exact jT
 refine J5 ?_;refine A9 (S7 A0 A0 (by (simp only[B25,B41];omega))) A0 (H8 ?_);refine D7 Y5 b9w (D4 (L:=[(810,_),(811,_)]) ⟨rfl,rfl,trivial⟩ b7w) ⟨?_,rfl⟩;rw[B25,B41]
 congr 5
 omega
theorem A51{gf:Fr}{ob:Obs}(s:Str)(a d:Nat)(l:List AL.Node)(z:Set4)(f:l.length<=1000)(b:B0 ob 810=some (qD s a d))(c:B0 ob 811=some (nU l)) :
  AL.Met prog 218 [K7,(W9 z).s1] gf ob [811] (fun g ob'=>g=[Q5 l.length]/\ob'=(810,qD s a d)::(811,nU (l++[⟨1,z,0,0,[]⟩]))::Obs.forget 811 ob):=by
 refine AL.Met.introH Tryz.func218 F5 rfl rfl rfl (fun e=>?_);refine C3 (A92 811 (l:=[(0,.s K7),(1,.s (W9 z).s1)]) (L:=[(810,_),(811,_)]) lf e L6 ⟨b,c,trivial⟩) ?_;refine R9 ?_;refine zZ ((A99 Int 1 E0 7 7 A0 A0)) (M9 (tR s a d l ⟨1,z,0,0,[]⟩ f A0 A0) A0 A0 A0 (H8 ?_));exact D7 Y5 b9w (D4 (L:=[(810,_),(811,_)]) ⟨rfl,rfl,trivial⟩ b7w) ⟨rfl,rfl⟩
theorem TE{gf:Fr}{ob:Obs}(s:Str)(a d:Nat)(l:List AL.Node)(b:Int)(kids:List Int)(m:2<=kids.length)(j:l.length<=1000)(f:B0 ob 810=some (qD s a d))(g:B0 ob 811=some (nU l)) :
  AL.Met prog 143 [K7,Q5 b,.one (.p (.list Int 1 E0 kids))] gf ob [811] (fun k ob'=>k=[Q5 l.length]/\ob'=(810,qD s a d)::(811,nU (l++[⟨b,⟨0,0,0,0⟩,0,0,kids⟩]))::Obs.forget 811 ob):=by
 refine AL.Met.introH Tryz.func143 F5 rfl rfl rfl (fun h=>?_);refine C3 (A92 811 (l:=[(0,.s K7),(1,.s (Q5 b)),(2,B9 Int 1 E0 kids)]) (L:=[(810,_),(811,_)]) lf h L6 ⟨f,g,trivial⟩) ?_;refine zc 16 (fun c=>?_) fun c=>?_
 ·have:=A1 c;omega
 refine zc 5 (fun c=>?_) fun c=>?_
 ·have:=A1 c;omega
 refine J5 ?_;refine M9 (tR s a d l ⟨b,⟨0,0,0,0⟩,0,0,kids⟩ j A0 A0) A0 A0 A0 (H8 ?_);exact D7 Y5 b9w (D4 (L:=[(810,_),(811,_)]) ⟨rfl,rfl,trivial⟩ b7w) ⟨rfl,rfl⟩
theorem TF{gf:Fr}{ob:Obs}(b x:Int) :
  AL.Met prog 143 [K7,Q5 b,.one (.p (.list Int 1 E0 [x]))] gf ob [] (fun c ob'=>c=[Q5 x]/\ob'=ob):=by
 have d:[x][Int.toNat 0]?=some x:=rfl;refine AL.Met.intro Tryz.func143 F5 A0 A0 A0 ?_;refine zc 16 (fun a=>?_) fun a=>?_
 ·exact absurd (A1 a) eR
 refine zc 5 (fun a=>?_) fun a=>?_
 ·refine X0 ?_;exact D7 Y5 bZ (fun _ _ h=>h) ⟨rfl,rfl⟩
 ·exact absurd rfl (A2 a)
theorem A52(st:AL.State)(b e:Bool):FnOk prog 178 [VN st,F6 b,F6 e] (fun rs=>rs=[L5 (d5 st b e)]):=by
 refine FnOk.intro Tryz.func178 F5 A0 A0 A0 A0 (H2 ?_);refine B6 (V5 3 A0 A0 A0) A0 (A9 (K8 _ 1 E0) A0 ?_);refine zc 13 (fun a=>?_) fun a=>?_
 ·have g:st.Kind=1:=A1 a;refine N0 ?_;refine A9 (B8 (c:=E0) (ys:=[st.Next,st.Other]) (C5 A0 A0 A0 A0 (C5 A0 A0 A0 A0 E5)) A0 A0 A0) A0 (H8 ?_);exact A8 (rs:=[L5 [st.Next,st.Other]]) M3 (by unfold d5;simp[g])
 have g:¬st.Kind=1:=A2 a;refine zc 5 (fun a=>?_) fun a=>?_
 ·have d:st.Kind=2:=A1 a;refine zc 4 (fun a=>?_) fun a=>?_
  ·refine R6 ?_;refine A9 (B8 (c:=E0) (ys:=[st.Next]) (C5 A0 A0 A0 A0 E5) A0 A0 A0) A0 (H8 ?_);exact A8 (rs:=[L5 [st.Next]]) M3 (by unfold d5;simp[d,a])
  ·refine H8 ?_;refine A9 (K8 _ 1 E0) A0 (H2 ?_);exact A8 (rs:=[L5 []]) M3 (by unfold d5;simp[d,a])
 have d:¬st.Kind=2:=A2 a;refine zc 5 (fun a=>?_) fun a=>?_
 ·have f:st.Kind=3:=A1 a;refine zc 4 (fun a=>?_) fun a=>?_
  ·refine R6 ?_;refine A9 (B8 (c:=E0) (ys:=[st.Next]) (C5 A0 A0 A0 A0 E5) A0 A0 A0) A0 (H8 ?_);exact A8 (rs:=[L5 [st.Next]]) M3 (by unfold d5;simp[f,a])
  ·refine H8 ?_;refine A9 (K8 _ 1 E0) A0 (H2 ?_);exact A8 (rs:=[L5 []]) M3 (by unfold d5;simp[f,a])
 have f:¬st.Kind=3:=A2 a;refine H8 ?_;refine A9 (K8 _ 1 E0) A0 (H2 ?_);exact A8 (rs:=[L5 []]) M3 (by unfold d5;simp[g,d,f])
theorem OC(n:AL.Node)(h:0<=n.Min/\n.Min<=100/\(n.Max = -1\/n.Min<=n.Max/\n.Max<=100)):FnOk prog 188 [vF n] (fun i=>i=[F6 true]):=by
 refine FnOk.intro Tryz.func188 F5 A0 A0 A0 A0 (o9 ?_);refine E3 A0 A0 A0 A0 (fun e=>by rw[e];exact N3 A0) ?_;refine E3 A0 A0 A0 A0 (fun e=>by rw[e];exact S8 A0 A0) ?_;refine H8 ?_;refine E3 A0 A0 A0 A0 (fun e=>by rw[e];exact N3 A0) ?_;refine E3 A0 A0 A0 A0 (fun e=>by rw[e];exact S8 A0 A0) ?_;refine H2 ?_;refine M4 A0 A0 A0 (.gd (.val _)) A0 (fun e=>by obtain⟨b,c⟩:=bE e;(try rw[b]);(try rw[c]);exact N3 A0) ?_;refine M4 A0 A0 A0 (.gd (.val _)) A0 (fun e=>by obtain⟨b,c⟩:=bE e;(try rw[b]);(try rw[c]);exact S8 A0 A0) ?_;refine M4 A0 A0 A0 (.gd (.val _)) A0 (fun e=>by obtain⟨b,c⟩:=bE e;(try rw[b]);(try rw[c]);exact N3 A0) ?_;refine M4 A0 A0 A0 (.gd (.val _)) A0 (fun e=>by obtain⟨b,c⟩:=bE e;(try rw[b]);(try rw[c]);exact S8 A0 A0) ?_;refine M4 A0 A0 A0 (.gd (.val _)) A0 (fun e=>by obtain⟨b,c⟩:=bE e;(try rw[b]);(try rw[c]);exact n_geq A0 A0) ?_;refine F8 ?_;refine M4 A0 A0 A0 (.gd (.gd (.val _))) A0 (fun e=>by obtain⟨b,c,f⟩:=JC e;(try rw[b]);(try rw[c]);(try rw[f]);exact N3 A0) ?_;refine M4 A0 A0 A0 (.gd (.gd (.val _))) A0 (fun e=>by obtain⟨b,c,f⟩:=JC e;(try rw[b]);(try rw[c]);(try rw[f]);exact S8 A0 A0) ?_;refine M4 A0 A0 A0 (.gd (.gd (.val _))) A0 (fun e=>by obtain⟨b,c,f⟩:=JC e;(try rw[b]);(try rw[c]);(try rw[f]);exact n_leq A0 A0) ?_;refine M4 A0 A0 A0 (.gd (.val _)) A0 (fun e=>by obtain⟨b,c⟩:=bE e;(try rw[b]);(try rw[c]);exact aE A0 (fun h=>by first | rfl | (rw[h];rfl)) (fun h=>by first | rfl | (rw[h];rfl))) ?_;refine I0 ?_;refine A8 M3 ?_;simp only[and_pick,or_pick];rw[A3 B3]
theorem lB{n:AL.Node}{i:Int}(h:gH n i=true):(∀k∈n.Kids,0<=k/\k<i)/\((n.Kind=0\/n.Kind=1\/n.Kind=2\/n.Kind=3)/\n.Kids.length=0\/(n.Kind=4\/n.Kind=5)/\2<=n.Kids.length\/n.Kind=6/\n.Kids.length=1/\0<=n.Min/\n.Min<=100/\(n.Max = -1\/n.Min<=n.Max/\n.Max<=100)):=by
 unfold gH at h;rw[B24,B27]at h;refine⟨fun k b=>A1 (h.1 k b),?_⟩;have a:=h.2;split at a
 ·rename_i b;exact .inl ⟨b,A1 a⟩
 ·split at a
  ·rename_i b;exact .inr (.inl ⟨b,A1 a⟩)
  ·split at a
   ·rename_i b;exact .inr (.inr ⟨b,A1 a⟩)
   ·cases a
theorem fP{L:List AL.Node}(h:oW L=0):1<=L.length/\L.length<=4000/\∀(i:Nat) n,L[i]?=some n->gH n i=true:=by
 unfold oW at h;split at h
 ·cases h
 ·split at h
  ·rename_i d b;refine⟨by omega,by omega,fun i n a=>?_⟩;have c:=B27.1 b i (B44.2 (B28.1 a).1)
   rwa[B30,a]at c
  ·cases h
theorem A53(n:AL.Node)(i:Int)(y:gH n i=true)(k:n.Kids.length<=4000):FnOk prog 173 [vF n,E2 i] (fun rs=>rs=[F6 true]):=by
 obtain⟨A,E⟩:=lB y;refine FnOk.intro Tryz.func173 F5 A0 A0 A0 A0 (zz 14 ?_);refine C1 (X:=Nat) (fun j=>([(1,B1 i),(2,.s (.one (.eref Unit 8 (fun _ j=>(cellsOf gF n 0 8).getD j (.v undef)) () 0))),(8,B9 Int 1 E0 n.Kids),(9,B1 n.Kids.length),(10,B1 j)],[])) (fun j=>j<=n.Kids.length) (fun j=>n.Kids.length-j) 0 (B37 _) (C6) ?_;intro j z;dsimp only at z ⊢;refine zc 5 (fun a=>?_) fun a=>?_
 ·have h:j<n.Kids.length:=by have:=A1 a;omega
  have C:=getI h;have B:=A _ (B43 C);refine zc 19 (fun a=>?_) fun a=>?_
  ·simp only[or_pick]at a;have:=A1 a;omega
  refine I0 ?_;exact⟨j+1,by omega,by omega,C6⟩
 refine zc 14 (fun a=>?_) fun a=>?_
 ·have c:=A1 a;have b:decide ((n.Kids.length:Int)=0)=true:=A3 B3;refine zc 1 (fun a=>?_) fun a=>?_;rotate_left
  ·exact absurd c (A2 a)
  refine U7 ?_;exact A8 M3 (by rw[b])
 have l:=A2 a;refine zc 5 (fun a=>?_) fun a=>?_
 ·have c:=A1 a;have b:decide ((n.Kids.length:Int)=0)=true:=A3 B3;refine zc 1 (fun a=>?_) fun a=>?_;rotate_left
  ·exact absurd c (A2 a)
  refine U7 ?_;exact A8 M3 (by rw[b])
 have m:=A2 a;refine zc 5 (fun a=>?_) fun a=>?_
 ·have c:=A1 a;have b:decide ((n.Kids.length:Int)=0)=true:=A3 B3;refine zc 1 (fun a=>?_) fun a=>?_;rotate_left
  ·exact absurd c (A2 a)
  refine U7 ?_;exact A8 M3 (by rw[b])
 have p:=A2 a;skip;refine zc 4 (fun a=>?_) fun a=>?_
 ·have c:=A1 a;have b:decide ((n.Kids.length:Int)=0)=true:=A3 B3;refine U7 ?_;exact A8 M3 (by rw[b])
 have q:=A2 a;refine zc 6 (fun a=>?_) fun a=>?_
 ·have c:=A1 a;have b:decide ((n.Kids.length:Int)>=2)=true:=A3 B3;refine zc 1 (fun a=>?_) fun a=>?_;rotate_left
  ·exact absurd c (A2 a)
  refine U7 ?_;exact A8 M3 (by rw[b])
 have u:=A2 a;skip;refine zc 4 (fun a=>?_) fun a=>?_
 ·have c:=A1 a;have b:decide ((n.Kids.length:Int)>=2)=true:=A3 B3;refine U7 ?_;exact A8 M3 (by rw[b])
 have w:=A2 a;refine zc 5 (fun a=>?_) fun a=>?_
 ·have c:=A1 a;have d:decide ((n.Kids.length:Int)=1)=true:=A3 B3;refine J5 ?_;refine E4 A0 A0 A0 d (F8 ?_);refine E4 A0 A0 A0 d (F0 (OC n B3) (A9 (Y2 A0 (d) A0) A0 (H8 ?_)));exact A8 M3 rfl
 have x:=A2 a;exfalso;omega
theorem TG(L:List AL.Node)(e:oW L=0)(hkl:∀n∈L,n.Kids.length<=4000):FnOk prog 144 [cW L] (fun rs=>rs=[E2 0]):=by
 obtain⟨h,j,g⟩:=fP e;refine FnOk.intro Tryz.func144 F5 A0 A0 A0 A0 ?_;refine zc 16 (fun a=>?_) fun a=>?_
 ·simp only[or_pick]at a;have:=A1 a;omega
 refine U7 ?_;refine C1 (X:=Nat) (fun i=>([(13,.s (cW L).s1),(14,B1 L.length),(15,B1 i)],[])) (fun i=>i<=L.length) (fun i=>L.length-i) 0 (B37 _) (C6) ?_;intro i f;dsimp only at f ⊢;refine zc 5 (fun a=>?_) fun a=>?_
 ·have c:i<L.length:=by have:=A1 a;omega
  obtain⟨n,k⟩:∃n,n=L[i]:=⟨_,rfl⟩
  have d:L[i]?=some n:=by rw[k];simp[c]
  have b:=g i n d;refine X0 ?_;refine B6 (E6 4 A0) A0 (J5 ?_);refine F0 (A53 n i b (hkl n (B43 d))) ?_;refine zc 2 (fun a=>?_) fun a=>?_
  ·cases a
  refine I0 ?_;exact⟨i+1,by omega,by omega,C6⟩
 refine N0 ?_;exact A8 (rs:=[E2 0]) M3 rfl
theorem WT(w:List Int)(a:∀v∈w,0<=v/\v<=4001)(k:Int):0<=I6 w k.toNat/\I6 w k.toNat<=4001:=by
 unfold I6;cases h:w[k.toNat]? with
 | none=>simp
 | some v=>exact a v (B43 h)
theorem b0z{p:Prop}(h:p:=by ((try dsimp only);omega)):p:=h
theorem TH(n:AL.Node)(w:List Int)(i:Int)(G:gH n i=true)(C:n.Kids.length<=4000)(R:i<=w.length)(P:∀v∈w,0<=v/\v<=4001):FnOk prog 145 [vF n,L5 w] (fun rs=>rs=[E2 (iN n w)]):=by
 obtain⟨B,Q⟩:=lB G;have A:∀k∈n.Kids,0<=k/\k<w.length:=fun k A=>by have:=B k A;omega
 refine FnOk.intro Tryz.func145 F5 A0 A0 A0 A0 (zz 18 ?_);refine C1 (X:=Nat×Int) (fun x=>([(1,B9 Int 1 E0 w),(2,.s (.one (.eref Unit 8 (fun _ j=>(cellsOf gF n 0 8).getD j (.v undef)) () 0))),(5,B1 x.2),(9,B9 Int 1 E0 n.Kids),(10,B1 n.Kids.length),(11,B1 x.1)],[])) (fun x=>x.1<=n.Kids.length/\0<=x.2/\x.2<=4001/\LU w x.2 (n.Kids.drop x.1)=LU w 0 n.Kids) (fun x=>n.Kids.length-x.1) (0,0) ⟨B37 _,by decide,by decide,rfl⟩ (C6) ?_;rintro⟨j,a⟩ ⟨H,E,F,h⟩;dsimp only at H E F h ⊢;refine zc 5 (fun b=>?_) fun b=>?_
 ·have q:j<n.Kids.length:=by have:=A1 b;omega
  obtain⟨k,p⟩:∃k,k=n.Kids[j]:=⟨_,rfl⟩
  have N:n.Kids[j]?=some k:=by rw[p];simp[q]
  have I:=A k (B43 N);have hb:=WT w P k;have O:w[k.toNat]?=some (I6 w k.toNat):=by
   unfold I6;rw[B23 B3];rfl
  rw[B40 q,<-p,LU]at h;refine zz 23 ?_;exact⟨(j+1,iM (a+I6 w k.toNat) 4001),⟨by dsimp only;omega,by dsimp only[iM];split<;>omega,by dsimp only[iM];split<;>omega,h⟩,by dsimp only;omega,C6⟩
 have z:j=n.Kids.length:=by have:=A2 b;omega
 have h:a=LU w 0 n.Kids:=by
  rw[z,List.drop_length]at h;exact h
 have m:iN n w=if n.Kind=4 then a else if n.Kind=5 then iM (a+n.Kids.length-1) 4001 else if n.Kind=6 then (if n.Max<0 then iM (n.Min*a+a+1) 4001 else iM (n.Min*a+(n.Max-n.Min)*(a+1)) 4001) else 1:=by
  rw[h];rfl
 refine zc 13 (fun b=>?_) fun b=>?_
 ·have l:n.Kind=4:=A1 b;refine N0 ?_;exact A8 (rs:=[E2 a]) M3 (by rw[m,A5 l])
 have c:¬n.Kind=4:=A2 b;refine zc 5 (fun b=>?_) fun b=>?_
 ·have l:n.Kind=5:=A1 b;refine eI ?_;exact A8 M3 (by rw[m,A6 c,A5 l];rfl)
 have d:¬n.Kind=5:=A2 b;refine zc 5 (fun b=>?_) fun b=>?_
 ·have l:n.Kind=6:=A1 b;have J:0<=n.Min*a:=Int.mul_nonneg B3 B3;have K:n.Min*a<=100*4001:=Int.mul_le_mul B3 B3 B3 B3;refine zc 7 (fun b=>?_) fun b=>?_
  ·have y:n.Max<0:=A1 b;refine I0 ?_;refine A9 (mH A0 A0 b0z) A0 (J5 ?_);exact A8 M3 (by rw[m,A6 c,A6 d,A5 l,A5 y];rfl)
  ·have y:¬n.Max<0:=A2 b;have L:0<=(n.Max-n.Min)*(a+1):=Int.mul_nonneg B3 B3;have M:(n.Max-n.Min)*(a+1)<=100*4002:=Int.mul_le_mul B3 B3 B3 B3;refine N0 ?_;refine A9 (mH A0 A0 b0z) A0 (R6 ?_);refine A9 (S7 A0 A0 b0z) A0 (H2 ?_);refine A9 (mH A0 A0 b0z) A0 (I0 ?_);exact A8 M3 (by rw[m,A6 c,A6 d,A5 l,A6 y];rfl)
 have u:¬n.Kind=6:=A2 b;refine N0 ?_;exact A8 (rs:=[E2 1]) M3 (by rw[m,A6 c,A6 d,A6 u])
def TI(L:List AL.Node)(i:Nat):List Int:=Z2 (L.take i) 0 (List.replicate L.length 0)
theorem qZ:∀(l:List AL.Node) (i:Nat) (w:List Int),(Z2 l i w).length=w.length
 | [],_,_=>rfl
 | n::r,i,w=>by rw[Z2,qZ r,B76]
theorem nV:∀(l:List AL.Node) (n:AL.Node) (i:Nat) (w:List Int),Z2 (l++[n]) i w=(Z2 l i w).set (i+l.length) (iN n (Z2 l i w))
 | [],n,i,w=>rfl
 | x::r,n,i,w=>by
  rw[B66,Z2,nV r,Z2,B31,show i+1+r.length=i+(r.length+1) by omega]
theorem OD{L:List AL.Node}{i:Nat}{n:AL.Node}(h:L[i]?=some n):TI L (i+1)=(TI L i).set i (iN n (TI L i)):=by
 have a:=(B28.1 h).1;unfold TI;rw[B48,h,B54,nV,B42,B70,Nat.min_eq_left B3]
theorem KC(L:List AL.Node)(i:Nat):(TI L i).length=L.length:=by unfold TI;rw[qZ,B86]
theorem KD(L:List AL.Node):TI L L.length=j6 L:=by unfold TI j6;rw[B38]
theorem WU(w:List Int)(b:∀v∈w,0<=v/\v<=4001):∀(c:List Int) (a:Int),0<=a/\a<=4001->0<=LU w a c/\LU w a c<=4001
 | [],_,h=>h
 | k::r,a,h=>by
  have:=WT w b k;exact WU w b r _ (by unfold iM;split<;>omega)
theorem TJ{n:AL.Node}{i:Int}(f:gH n i=true){w:List Int}(j:∀v∈w,0<=v/\v<=4001):0<=iN n w/\iN n w<=4001:=by
 obtain⟨_,l⟩:=lB f;obtain⟨c,d⟩:=WU w j n.Kids 0 F5;have b:∀a:Int,0<=a->0<=iM a 4001/\iM a 4001<=4001:=fun a ha=>by unfold iM;split<;>omega
 unfold iN;obtain⟨s,e⟩:∃s,s=LU w 0 n.Kids:=⟨_,rfl⟩
 rw[<-e]at c d;rw[<-e];dsimp only;split
 ·exact⟨c,d⟩
 split
 ·exact b _ B3
 split
 ·rename_i k;have g:0<=n.Min*s:=Int.mul_nonneg B3 c;split
  ·exact b _ B3
  ·have h:0<=(n.Max-n.Min)*(s+1):=Int.mul_nonneg B3 B3;exact b _ B3
 ·decide
theorem TK{L:List AL.Node}(a:∀(i:Nat) n,L[i]?=some n->gH n i=true):∀i,i<=L.length->∀v∈TI L i,0<=v/\v<=4001
 | 0,_,v,hv=>by
  unfold TI at hv;rw[B68,Z2]at hv;rw[(List.mem_replicate.1 hv).2];decide
 | i+1,hi,v,hv=>by
  have b:L[i]?=some L[i]:=B23 B3;rw[OD b]at hv;rcases List.mem_or_eq_of_mem_set hv with h | rfl
  ·exact TK a i B3 v h
  ·exact TJ (a i _ b) (TK a i B3)
theorem xI(L:List AL.Node)(l:oW L=0)(hkl:∀n∈L,n.Kids.length<=4000):FnOk prog 108 [cW L] (fun rs=>rs=[L5 (j6 L)]):=by
 obtain⟨p,q,j⟩:=fP l;refine FnOk.intro Tryz.func108 F5 A0 A0 A0 A0 (X0 ?_);refine B6 (eW 764 Int E0 0 A0 A0 B3 B3 (fun _=>b1w) b3x) A0 (R9 ?_);refine C1 (X:=Nat) (fun i=>([(3,.s (.one (.mut 764))),(9,.s (cW L).s1),(10,B1 L.length),(11,B1 i)],[(764,.arr Int 1 E0 (TI L i))])) (fun i=>i<=L.length) (fun i=>L.length-i) 0 (B37 _) ?_ ?_
 ·rw[show TI L 0=List.replicate ((L.length:Nat):Int).toNat 0 by rw[B26];rfl];exact C6
 intro i g;dsimp only at g ⊢;have x:=KC L i;have hb:=TK j i g;refine zc 5 (fun d=>?_) fun d=>?_
 ·have c:i<L.length:=by have:=A1 d;omega
  obtain⟨n,v⟩:∃n,n=L[i]:=⟨_,rfl⟩
  have f:L[i]?=some n:=by rw[v];simp[c]
  have w:(TI L i)[i]?=some ((TI L i)[i]'B3):=B23 B3;refine X0 ?_;refine B6 (E6 5 A0) A0 (X0 ?_);refine A43 (Sees.freeze (k:=764) A0) (TH n (TI L i) i (j i n f) (hkl n (B43 f)) B3 hb) A0 A0 A0 ?_;rintro _ rfl;refine⟨fun _ _ _ h=>h,?_⟩;refine F8 ?_;refine V2 (L4 TySz.out A0 A0 SH A0 A0) (F8 ?_);rw[B26,<-OD f];refine R6 ?_;exact⟨i+1,by omega,by omega,C6⟩
 have b:i=L.length:=by have:=A2 d;omega
 rw[b,KD];refine C3 (Sees.freeze (k:=764) A0) (J5 ?_);exact A8 (rs:=[L5 (j6 L)]) M3 rfl
def YU(L:List AL.Node):Int:=I6 (j6 L) (L.length-1)
theorem OE(L:List AL.Node)(b:oW L=0)(hkl:∀n∈L,n.Kids.length<=4000):FnOk prog 107 [cW L] (fun rs=>rs=[E2 (YU L),E2 0]):=by
 obtain⟨d,f,j⟩:=fP b;have i:(j6 L).length=L.length:=by rw[<-KD];exact KC L _
 refine FnOk.intro Tryz.func107 F5 A0 A0 A0 A0 (U7 ?_);refine F0 (TG L b hkl) ?_;refine zc 7 (fun c=>?_) fun c=>?_
 ·cases c
 refine H2 ?_;have k:(j6 L)[((L.length:Int)-1).toNat]?=some (YU L):=by
  rw[show ((L.length:Int)-1).toNat=L.length-1 by omega,YU,I6,B23 B3];rfl
 refine H2 ?_;refine F0 (xI L b hkl) (U7 ?_);exact A8 (rs:=[E2 (YU L),E2 0]) nP rfl
theorem BK(k q:Nat)(o:Ob):(o.forget q).forget k=(o.forget k).forget q:=by
 cases o with
 | box l=>simp only[Ob.forget,B94];congr 1;exact B80 fun t _=>TC.forget_comm k q t
 | tbx e l=>simp only[Ob.forget,B94];congr 1;exact B80 fun t _=>TC.forget_comm k q t
 | tarr n m l=>simp only[Ob.forget,B94];congr 1;exact B80 fun t _=>TC.forget_comm k q t
 | growT e n m l=>simp only[Ob.forget,B94];congr 1;exact B80 fun t _=>TC.forget_comm k q t
 | growA e α a c b p l=>simp only[Ob.forget,B94];congr 1;exact B80 fun t _=>TC.forget_comm k q t
 | _=>rfl
theorem yT(k q:Nat)(ob:Obs):Obs.forget k (Obs.forget q ob)=Obs.forget q (Obs.forget k ob):=by
 simp only[Obs.forget,B94,Function.comp_def,BK k q]
theorem OF:IdleFn prog 105 2:=by
 intro vs w hl;obtain⟨x,y,rfl⟩:∃x y,vs=[x,y]:=by
  match vs,hl with
  | [x,y],_=>exact⟨x,y,rfl⟩
 refine⟨J9 ⟨_,rfl,rfl,rfl⟩,?_⟩;have hta:(Instr.typeAssert .nilIface 20 29 true).run prog w=.ok (.tuple #[.int .i64 0,.bool false]) w:=by
  simp only[Instr.typeAssert];rfl
 refine callsDIn_of_wpSIn Tryz.func105 rfl trivial fun c₀ cs hu=>?_;simp only[Tryz.ntmps105,List.size_toArray,B31,List.length_nil,Nat.reduceAdd,Nat.reduceSub,Array.replicate_succ,Array.replicate_zero,List.push_toArray,List.append_toArray,B74,B66];apply wpSIn_seq;apply wpSIn_region;simp[wpOpsSIn,go_sem,recoverD,hu,Exit.thenS,hta];apply wpSIn_seq;apply wpSIn_region;simp[wpOpsSIn,go_sem,Exit.thenS];refine wpSIn_cond (t:=false) (by simp[Act.eval]) ?_;simp only[Bool.false_eq_true,if_false];refine wpSIn_of_wpIn rfl (wpIn_skip ?_);cases c₀;simp_all [bodyPostS,results,Tryz.results105]
theorem zH{P:Program}{fr:Fr}{ob:Obs}{S:Ctx}{G:Gh}{a:Act}{w:World}(h:Sim P S fr ob G a w){t:Tmp}{k:Nat}{tt:TypeId}{l:List TC}{c:Cell}[hty:TyOne P tt](ht:Z3 fr t=some (.s (.one (.ref k 0))))(y:B0 ob k=some (.box l))(m:l[0]?=some (.p c)) :
  ∃b z,a.tmps.getD t undef=.pointer (some ⟨b,0,none⟩)/\(loadVar tt ⟨b,0,none⟩).run P w=.ok z w/\(PV.one c).rep (D9 (Mut S ob G) w) z:=by
 obtain⟨b,q,A⟩:=h.slot ht;obtain⟨C,D,B,d,v,ha⟩:=h.box y;rw[q]at d;cases d;obtain⟨z,g,j⟩:=ha.get 0 _ m;exact⟨b,z,A,R4 (ht:=hty) (L7 v (by simpa using g)),j⟩
theorem retcc{P:Program}{fn:Func}{fr:Fr}{ob:Obs}{t C:Tmp}{k B:Nat}{tt d:TypeId}{D i:List TC}{c y:Cell}[TyOne P tt][TyOne P d](J:fn.results=#[.cell t tt,.cell C d])(K:Z3 fr t=some (.s (.one (.ref k 0))))(I:B0 ob k=some (.box D))(E:D[0]?=some (.p c))
  (v:Z3 fr C=some (.s (.one (.ref B 0))))(u:B0 ob B=some (.box i))(j:i[0]?=some (.p y)):RetOk P fn fr ob [.one c,.one y]:=by
 unfold RetOk;intro S G a w h;obtain⟨b,z,A,F,H⟩:=zH h (tt:=tt) K I E;obtain⟨L,M,g,m,q⟩:=zH h (tt:=d) v u j;rw[B35]at A g;exact⟨_,by simp[results,J,A,g,asAddr,F,m],[_,_],rfl,H,q,trivial⟩
theorem five{p:Nat->Prop}(a:p 0)(b:p 1)(c:p 2)(d:p 3)(e:p 4):∀i,i<5->p i
 | 0,_=>a
 | 1,_=>b
 | 2,_=>c
 | 3,_=>d
 | 4,_=>e
theorem G8{K:List Nat}{T rest:Obs}{k:Nat}{o:Ob}(a:B0 rest k=none)(h:∀j x,E8 K j=false->B0 rest j=some x->B0 T j=some x):∀j x,E8 K j=false->B0 rest j=some x->B0 ((k,o)::T) j=some x:=by
 intro j x c b;have:k≠j:=fun e=>by rw[e,b]at a;cases a
 rw[A7 this];exact h j x c b
def F2(ks:List Nat)(ob:Obs):Obs:=ks.foldl (fun f k=>Obs.forget k f) ob
theorem X2{k:Nat}:∀{ks:List Nat} {ob:Obs},B0 ob k=none->B0 (F2 ks ob) k=none
 | [],_,h=>h
 | q::ks,ob,h=>X2 (ks:=ks) (ob:=Obs.forget q ob) (by rw[I8,h];rfl)
theorem tS(k:Nat):∀(a:List Nat) (ob:Obs),F2 a (Obs.forget k ob)=Obs.forget k (F2 a ob)
 | [],_=>rfl
 | q::a,ob=>by
  show F2 a (Obs.forget q (Obs.forget k ob))=Obs.forget k (F2 a (Obs.forget q ob));rw[yT q k,tS k a]
theorem iW{k:Nat}:∀{a:List Nat} {ob:Obs},E8 a k=true->Obs.forget k (F2 a ob)=F2 a ob
 | [],ob,h=>by cases h
 | q::a,ob,h=>by
  show Obs.forget k (F2 a (Obs.forget q ob))=F2 a (Obs.forget q ob);by_cases b:k=q
  ·subst b;rw[tS,Obs.forget_idem]
  ·have c:E8 a k=true:=by
    rw[t8]at h ⊢;rcases B34.1 h with h | h
    ·exact absurd h b
    ·exact h
   exact iW c
theorem TL{K b:List Nat}{T ob:Obs}(k:Nat)(e:E8 b k=true)(h:∀j x,E8 K j=false->B0 (F2 b ob) j=some x->B0 T j=some x) :
  ∀j x,E8 K j=false->B0 (F2 b ob) j=some x->B0 (Obs.forget k T) j=some x:=by
 intro j x d a;rw[<-iW e,I8]at a;rw[I8];cases c:B0 (F2 b ob) j with
 | none=>rw[c]at a;cases a
 | some y=>rw[c]at a;rw[h j y d c];exact a
abbrev qAcc:AL.State:=⟨4,⟨0,0,0,0⟩,0,0⟩
abbrev qEnd:AL.State:=⟨3,⟨0,0,0,0⟩,0,0⟩
abbrev qSet:AL.State:=⟨0,⟨0,8589934592,0,0⟩,2,0⟩
abbrev qSp:AL.State:=⟨1,⟨0,0,0,0⟩,3,1⟩
abbrev qSta:AL.State:=⟨2,⟨0,0,0,0⟩,4,0⟩
end Go.Proofs.YtmbpmaofnddkoaaGreatDoor
