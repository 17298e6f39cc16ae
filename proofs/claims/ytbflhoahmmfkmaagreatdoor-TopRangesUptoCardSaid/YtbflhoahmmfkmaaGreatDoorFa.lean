/- Walks of the program's functions. -/
import Derived.Test.YtbflhoahmmfkmaaGreatDoorTy
import Derived.Test.YtbflhoahmmfkmaaGreatDoorFs
import Derived.Test.YtbflhoahmmfkmaaGreatDoorSh
import Derived.Lib.AppendIntMem
set_option linter.all false
namespace Go.Proofs.YtbflhoahmmfkmaaGreatDoor
open Go Go.AL
set_option maxRecDepth 100000
theorem DG(p:Int):0<=IntKind.u64.wrap p:=by simp[IntKind.wrap,IntKind.signed,IntKind.bits];omega
theorem zV(b:Str)(hb:b.length<=536870912):FnOk Tryz.prog 12 [I3 b] (fun rs=>rs=[aY (D4 b)]):=by
 refine FnOk.intro Tryz.func12 (by decide) Z Z Z Z ?_;refine k2 ?_;refine A7 (A6 (A9 Z Z) Z (B0 ?_));refine k1 (k2 ?_);refine A7 (D6 (y6 3 _ R8 Z) Z (B0 ?_));refine k1 (k2 ?_);refine A7 (A6 (A9 Z Z) Z (B0 ?_));refine k1 (k2 (k2 ?_));refine A7 (A6 (A9 Z Z) Z (B0 ?_));refine k1 (k3 ?_);refine E4 (X:=Nat×Nat×List Str) (fun x=>([(0,P2 b),(3,.s (.one (.buf 3 Str 1 R8 x.2.2))),(4,C7 x.2.1),(5,C7 x.1)],[(3,.spare x.2.2.length 1 9)]))
  (fun x=>x.1<=b.length/\x.2.1<=x.1/\x.2.2.length<=x.1/\(x.1=b.length->x.2.1=x.1)/\x.2.2++I0 ((b.drop x.2.1).take (x.1-x.2.1)) (b.drop x.1)=D4 b) (fun x=>b.length-x.1) (0,0,[]) (by simp[D4]) ?_ ?_
 ·exact Sees.of ⟨⟨_,rfl,.same _⟩,⟨_,rfl,.same _⟩,⟨_,rfl,.same _⟩,⟨_,rfl,.same _⟩,trivial⟩ ⟨rfl,trivial⟩
 ·rintro⟨i,d,B⟩ ⟨E,y,F,C,v⟩;dsimp only at E y F C v ⊢;refine k2 (k2 ?_);refine A7 (A6 (A8 Z Z) Z (A6 (A8 Z Z) Z (A6 (P6 Z) Z (A6 (F3 Z Z) Z (B0 ?_)))));refine k1 ?_;refine B9 rfl (fun A=>?_) (fun A=>?_)
  ·have g:i<b.length:=by simpa using A
   have H:b[i]?=some b[i]:=by simp[g]
   refine k5 (k1 (k2 (k3 (k2 ?_))));refine A7 (A6 (A8 Z Z) Z (A6 (A8 Z Z) Z (A6 (S2 Z Z (by omega) H) Z (A6 (K4 Z Z) Z (A6 (A8 Z Z) Z (B6 Z Z Z Z (fun q=>by rw[q];exact A8 Z Z) ?_))))));refine B6 Z Z Z Z (fun q=>by have G:=q;(try simp at G);rw[q];exact D5 Z Z (by omega)) ?_;refine B6 Z Z Z Z (fun q=>by rw[q];exact A8 Z Z) ?_;refine B6 Z Z Z Z (fun q=>by rw[q];exact P6 Z) ?_;refine B6 Z Z Z Z (fun q=>by rw[q];exact K4 Z Z) ?_;refine A6 (C6 Z (fun h=>by first | rfl | (rw[h];rfl)) (fun h=>by first | rfl | (rw[h];rfl))) Z ?_;refine B0 ?_;refine k1 ?_;refine B9 rfl (fun j=>?_) (fun j=>?_)
   ·refine k2 ?_;refine A7 (A6 (A8 Z Z) Z (A6 (A8 Z Z) Z (A6 (A8 Z Z) Z (A6 (A8 Z Z) Z (A6 (D5 Z Z (by omega)) Z (A6 (qD Z Z Z (by omega) (by omega) (by omega)) Z (A6 (D9 (c:=R8) (ys:=[_]) (D8 Z Z Z Z H5) Z Z Z) Z (D6 (N6 Z Z Z (.pure _ _ _ _) (by simp;omega) Z) Z (A6 (A9 Z Z) Z (B0 ?_))))))))));refine k1 ?_;refine A7 (A6 (A8 Z Z) Z (A6 (D5 Z Z (by omega)) Z (A6 (A9 Z Z) Z (B0 ?_))));refine k4 (k1 ?_);refine A7 (A6 (A8 Z Z) Z (A6 (D5 Z Z (by omega)) Z (A6 (A9 Z Z) Z (B0 ?_))));refine k1 ?_;refine⟨(i+1,i+1,_),⟨?_,?_,?_,?_,?_⟩,?_,Sees.of ⟨⟨_,rfl,.same _⟩,⟨_,rfl,.same _⟩,⟨_,rfl,.same _⟩,⟨_,rfl,.same _⟩,trivial⟩ ⟨rfl,trivial⟩⟩
    all_goals dsimp only
    ·omega
    ·omega
    ·simp;omega
    ·omega
    ·have w:b[i]=10\/i+1=b.length:=by
      simp only[TQ]at j;by_cases h:b[i]=10
      ·exact .inl h
      ·simp[h]at j;exact .inr (by omega)
     rw[EP,WV,YK,List.take_zero,<-vO b d i y g,XH,<-v,XA g,cI];rcases w with h | h
     ·rw[A4 h];rfl
     ·have D:b.drop (i+1)=[]:=XO (by omega);rw[D];split
      ·rfl
      ·rw[show I0 ([]:Str) []=[] from rfl,yA _ (by simp)];simp
    ·omega
   ·refine k5 (k4 (k1 ?_));refine A7 (A6 (A8 Z Z) Z (A6 (D5 Z Z (by omega)) Z (A6 (A9 Z Z) Z (B0 ?_))));refine k1 ?_;refine⟨(i+1,d,B),⟨?_,?_,?_,?_,?_⟩,?_,Sees.of ⟨⟨_,rfl,.same _⟩,⟨_,rfl,.same _⟩,⟨_,rfl,.same _⟩,⟨_,rfl,.same _⟩,trivial⟩ ⟨rfl,trivial⟩⟩
    all_goals dsimp only
    ·omega
    ·omega
    ·omega
    ·intro h;simp[show (i:Int)+1=(b.length:Int) by omega]at j
    ·have w:b[i]≠10:=fun h=>by simp[h]at j
     rw[<-vO b d i y g,<-v,XA g,cI,A5 w]
    ·omega
  ·refine k6 (k2 ?_);refine A7 (A6 (A8 Z Z) Z (A6 (A9 Z Z) Z (B0 ?_)));refine k1 (I9 ?_);refine C2 (J5 Z Z Z) ?_;have z:i=b.length:=by simp at A;omega
   subst z;have:=C rfl;subst this;rw[YK,List.take_zero,XO (Nat.le_refl _)]at v;rw[<-v];simp[I0]
theorem QX{n:Int}(h:0<=n/\n<18446744073709551616):IntKind.u64.wrap n=n:=by simp[IntKind.wrap,IntKind.signed,IntKind.bits];omega
def R5(a n:Int):Int:=IntKind.u64.wrap a % n
theorem T3(a:Int){n:Int}(h:1<=n):0<=R5 a n/\R5 a n<n:=⟨Int.emod_nonneg _ (by omega),Int.emod_lt_of_pos _ (by omega)⟩
theorem cC(a n:Int)(f:1<=n)(g:n<=9223372036854775807):FnOk Tryz.prog 9 [E8 a,E8 n] (fun rs=>rs=[E8 (R5 a n)]):=by
 refine FnOk.intro Tryz.func9 (by decide) Z Z Z Z ?_;refine k2 ?_;refine A7 (A6 (A9 Z Z) Z (B0 ?_));refine k1 (k2 ?_);have b:IntKind.u64.wrap n=n:=QX (by omega);refine A7 (A6 (A8 Z Z) Z (A6 (V0 Z) Z (A6 (A8 Z Z) Z (A6 (V0 Z) Z (A6 (iC Z Z (by (rw[b];omega))) Z ?_)))));refine A6 (V0 Z) Z (A6 (A9 Z Z) Z (B0 ?_));refine k1 (I9 ?_);refine C2 (J5 Z Z Z) ?_;have c:=DG a;have e:(IntKind.u64.wrap a).tmod n=IntKind.u64.wrap a % n:=Int.tmod_eq_emod_of_nonneg c;have h:=T3 a f;unfold R5 at *;rw[b,e,zC ⟨by omega,by omega⟩]
def MC(a b:Int):Int:=IntKind.u64.wrap ((BitVec.ofInt IntKind.u64.bits a ^^^ BitVec.ofInt IntKind.u64.bits b).toNat:Int)
def MD(a n:Int):Int:=a.fdiv (2 ^ (min n.toNat IntKind.u64.bits))
def UY(k:Int):Int:=IntKind.u64.wrap (IntKind.u64.wrap (k+1)*11400714819323198485)
def TN(b:List Int)(k:Int):Int:=if 0<b.length then MC (UY k) (IntKind.u64.wrap (b.getD (k.tmod b.length).toNat 0)) else UY k
def VP(x:Int):Int:=IntKind.u64.wrap (MC x (MD x 31)*13787848793156543929)
def Z8(a:List Int)(k:Int):Int:=IntKind.i64.wrap (MD (MC (VP (TN a k)) (MD (VP (TN a k)) 29)) 1)
theorem bG(b:List Int)(k:Int)(g:0<=k)(m:k<=1099511627776):FnOk Tryz.prog 26 [O6 b,E8 k] (fun rs=>rs=[E8 (Z8 b k)]):=by
 refine FnOk.intro Tryz.func26 (by decide) Z Z Z Z ?_;refine OJ (t:=0) rfl (.pure _ _ _ _) fun f=>?_;refine k2 ?_;refine A7 (A6 (A9 Z Z) Z (B0 ?_));refine k1 (k2 ?_);refine A7 (A6 (A8 Z Z) Z (A6 (D5 Z Z (by omega)) Z (A6 (V0 Z) Z (A6 (wW Z Z) Z (A6 (A9 Z Z) Z (B0 ?_))))));refine Q8 ?_;refine qI [(0,E3 Int 1 G1 b),(1,C7 k),(5,J0 (.int .u64 (TN b k)))] [] ?_ ?_
 ·refine k2 ?_;refine A7 (A6 (A8 Z Z) Z (A6 (F0 Z (.pure _ _ _ _)) Z (A6 (P5 Z Z) Z (B0 ?_))));refine k1 ?_;refine B9 rfl (fun d=>?_) (fun d=>?_)
  ·have c:0<b.length:=by have:=A0 d;omega
   have h:0<=k.tmod b.length:=Int.tmod_nonneg _ g;have j:k.tmod b.length<b.length:=Int.tmod_lt_of_pos _ (by omega);have l:b[(k.tmod b.length).toNat]?=some (b.getD (k.tmod b.length).toNat 0):=by
    rw[XC,WT (by omega)];rfl
   skip;refine A7 (A6 (A8 Z Z) Z (A6 (A8 Z Z) Z (A6 (A8 Z Z) Z (A6 (A8 Z Z) Z (A6 (F0 Z (.pure _ _ _ _)) Z (A6 (iC Z Z (by omega)) Z (A6 (B8 Z (.pure _ _ _ _) Z (by omega) l) Z (A6 (C0 Z Z) Z (A6 (V0 Z) Z (A6 (pZ Z Z Z (fun _=>rfl)) Z (A6 (A9 Z Z) Z (B0 ?_))))))))))));refine k1 ?_;rw[TN,A4 c];exact Sees.of ⟨B4 rfl,B4 rfl,B4 rfl,trivial⟩ trivial
  ·have c:¬0<b.length:=by have:=A1 d;omega
   refine k5 (k1 ?_);rw[TN,A5 c];exact Sees.of ⟨B4 rfl,B4 rfl,B4 rfl,trivial⟩ trivial
 ·refine k2 ?_;refine A7 (A6 (A8 Z Z) Z (A6 (A8 Z Z) Z (A6 (yZ Z Z (by omega)) Z (A6 (pZ Z Z Z (fun _=>rfl)) Z (A6 (wW Z Z) Z (A6 (A9 Z Z) Z (B0 ?_)))))));refine k1 (k2 ?_);refine A7 (A6 (A8 Z Z) Z (A6 (A8 Z Z) Z (A6 (yZ Z Z (by omega)) Z (A6 (pZ Z Z Z (fun _=>rfl)) Z (A6 (yZ Z Z (by omega)) Z (A6 (V0 Z) Z (A6 (A9 Z Z) Z (B0 ?_))))))));refine k1 (I9 ?_);exact C2 (J5 rfl rfl rfl) rfl
def lineTab:List Str:=[[97],[98],[99],[97,98],[98,97],[],[97,97],[98,32,97],[120,43,121],[92]]
def d8(k:Int):Str:=lineTab.getD (R5 k 10).toNat []
theorem zW:∀s∈lineTab,s.length<=3:=by decide
theorem dM(k:Int):(d8 k).length<=3:=by
 unfold d8;rw[XC];cases h:lineTab[(R5 k 10).toNat]? with
 | none=>simp
 | some s=>exact zW s (XL h)
theorem zX(k:Int):FnOk Tryz.prog 111 [E8 k] (fun d=>d=[I3 (d8 k)]):=by
 refine FnOk.intro Tryz.func111 (by decide) Z Z Z Z ?_;refine k2 ?_;refine A7 (A6 (A9 Z Z) Z (B0 ?_));refine k1 (k2 ?_);have f:=T3 k (n:=10) (by decide);have b:lineTab[(R5 k 10).toNat]?=some (d8 k):=by
  unfold d8;rw[XC,WT (show (R5 k 10).toNat<lineTab.length by simp[lineTab];omega)];rfl
 refine A7 (A6 (D9 (c:=R8) (ys:=lineTab) (D8 Z Z Z Z (D8 Z Z Z Z (D8 Z Z Z Z (D8 Z Z Z Z (D8 Z Z Z Z (D8 Z Z Z Z (D8 Z Z Z Z (D8 Z Z Z Z (D8 Z Z Z Z (D8 Z Z Z Z H5)))))))))) Z Z Z) Z (A6 (A8 Z Z) Z (D1 (cC k 10 (by decide) (by decide)) Z Z Z ?_)));rintro _ rfl;refine A6 (B8 Z (.pure _ _ _ _) Z (by omega) b) Z (A6 (C0 Z Z) Z (A6 (A9 Z Z) Z (B0 ?_)));refine k1 (I9 ?_);exact C2 (J5 rfl rfl rfl) rfl
def V2(d:List Int)(b:Int)(c:Int)(m:Nat):Str:=((List.range m).map fun (i:Nat)=>d8 (R5 (Z8 d (b+1+(i:Int))) c)++[10]).flatten
def dN(e:List Int)(b n c:Int):Str :=
 let s:=V2 e b c (R5 (Z8 e b) (n+1)).toNat
 if ((Z8 e (b+90)).tmod 4=0/\(1:Int)<s.length)/\((s.getD (s.length-2) 0).toNat:Int)≠10 then s.take (s.length-1) else s
theorem aK(c:List Int)(a b:Int)(m:Nat):V2 c a b (m+1)=V2 c a b m++d8 (R5 (Z8 c (a+1+(m:Int))) b)++[10]:=by
 unfold V2;rw[YR,YC,YL];simp
theorem iK(c:List Int)(a b:Int)(m:Nat):(V2 c a b m).length<=4*m:=by
 induction m with
 | zero=>simp[V2]
 | succ m d=>have:=dM (R5 (Z8 c (a+1+(m:Int))) b);rw[aK];simp only[WX,WW,XD];omega
theorem OT(e:List Int)(b n c:Int)(A:0<=b/\b<=1073741824)(B:0<=n/\n<=1048576)(C:1<=c/\c<=1048576) :
  FnOk Tryz.prog 66 [O6 e,E8 b,E8 n,E8 c] (fun rs=>rs=[I3 (dN e b n c)]):=by
 obtain⟨m,r⟩:∃m:Nat,R5 (Z8 e b) (n+1)=m:=⟨(R5 (Z8 e b) (n+1)).toNat,by have:=T3 (Z8 e b) (n:=n+1) (by omega);omega⟩
 have x:=T3 (Z8 e b) (n:=n+1) (by omega);have y:m<=1048576:=by omega
 refine FnOk.intro Tryz.func66 (by decide) Z Z Z Z ?_;refine k2 ?_;refine A7 (A6 (A9 Z Z) Z (B0 ?_));refine k1 (k2 ?_);refine A7 (A6 (A8 Z Z) Z (A6 (A8 Z Z) Z (D1 (bG e b (by omega) (by omega)) Z Z Z ?_)));rintro _ rfl;refine A6 (A8 Z Z) Z (A6 (D5 Z Z (by omega)) Z (D1 (cC _ (n+1) (by omega) (by omega)) Z Z Z ?_));rintro _ rfl;refine A6 (A9 Z Z) Z (B0 ?_);refine k1 (k2 ?_);rw[r];refine A7 (A6 (A9 Z Z) Z (B0 ?_));refine k1 (k2 (k2 ?_));refine A7 (A6 (A9 Z Z) Z (B0 ?_));refine k1 (k3 ?_);refine E4 (X:=Nat) (fun i=>([(0,E3 Int 1 G1 e),(1,C7 b),(2,C7 m),(3,C7 c),(9,P2 (V2 e b c i)),(10,C7 i)],[])) (fun i=>i<=m) (fun i=>m-i) 0 (Nat.zero_le _) (Sees.of ⟨B4 rfl,B4 rfl,B4 rfl,B4 rfl,B4 rfl,B4 rfl,trivial⟩ trivial) ?_;intro i u;dsimp only at u ⊢;have k:=iK e b c i;refine k2 (k2 ?_);refine A7 (A6 (A8 Z Z) Z (A6 (A8 Z Z) Z (A6 (F3 Z Z) Z (B0 ?_))));refine k1 ?_;refine B9 rfl (fun g=>?_) (fun g=>?_)
 ·have w:i<m:=by have:=A0 g;omega
  have v:=dM (R5 (Z8 e (b+1+(i:Int))) c);refine k5 (k1 (k2 (k3 ?_)));refine A7 (A6 (A8 Z Z) Z (A6 (A8 Z Z) Z (A6 (A8 Z Z) Z (A6 (D5 Z Z (by omega)) Z (A6 (A8 Z Z) Z (A6 (D5 Z Z (by omega)) Z (D1 (bG e _ (by omega) (by omega)) Z Z Z ?_)))))));rintro _ rfl;refine A6 (A8 Z Z) Z (D1 (cC _ c (by omega) (by omega)) Z Z Z ?_);rintro _ rfl;refine D1 (zX _) Z Z Z ?_;rintro _ rfl;refine A6 (K8 Z Z (by omega)) Z (A6 (K8 Z Z (by (simp only[WX,WW,XD];omega))) Z (A6 (A9 Z Z) Z (B0 ?_)));refine k4 (k1 ?_);refine A7 (A6 (A8 Z Z) Z (A6 (D5 Z Z (by omega)) Z (A6 (A9 Z Z) Z (B0 ?_))));refine k1 ?_;refine⟨i+1,by omega,by omega,?_⟩;rw[aK];exact Sees.of ⟨B4 rfl,B4 rfl,B4 rfl,B4 rfl,B4 rfl,B4 rfl,trivial⟩ trivial
 ·have l:i=m:=by have:=A1 g;omega
  subst l;obtain⟨s,q⟩:∃s,s=V2 e b c i:=⟨_,rfl⟩
  have z:(1:Int)<s.length->s[((s.length:Int)-2).toNat]?=some (s.getD (s.length-2) 0):=fun h=>by
   rw[show ((s.length:Int)-2).toNat=s.length-2 by omega,XC,WT (by omega)];rfl
  have j:dN e b n c=if ((Z8 e (b+90)).tmod 4=0/\(1:Int)<s.length)/\((s.getD (s.length-2) 0).toNat:Int)≠10 then s.take (s.length-1) else s:=by
   simp only[dN,r,WV,<-q]
  rw[<-q]at k;refine k6 (k2 (k2 ?_));rw[<-q];refine A7 (A6 (A8 Z Z) Z (A6 (A8 Z Z) Z (A6 (D5 Z Z (by omega)) Z (D1 (bG e _ (by omega) (by omega)) Z Z Z ?_))));rintro _ rfl;refine A6 (iC Z Z (by omega)) Z (A6 (K4 Z Z) Z (A6 (A8 Z Z) Z (B6 Z Z Z Z (fun f=>by rw[f];exact A8 Z Z) ?_)));refine B6 Z Z Z Z (fun f=>by rw[f];exact P6 Z) ?_;refine B6 Z Z Z Z (fun f=>by rw[f];exact P5 Z Z) ?_;refine A6 (C6 Z (fun h=>by first | rfl | (rw[h];rfl)) (fun h=>by first | rfl | (rw[h];rfl))) Z ?_;refine A6 (A8 Z Z) Z (B6 Z Z Z Z (fun f=>by rw[f];exact A8 Z Z) ?_);refine B6 Z Z Z Z (fun f=>by rw[f];exact A8 Z Z) ?_;refine B6 Z Z Z Z (fun f=>by rw[f];exact P6 Z) ?_;refine B6 Z Z Z Z (fun f=>by have p:=f;(try simp at p);rw[f];exact O5 Z Z (by omega)) ?_;refine B6 Z Z Z Z (fun f=>by have p:=f;(try simp at p);rw[f];exact S2 Z Z (by omega) (z (by omega))) ?_;refine B6 Z Z Z Z (fun f=>by rw[f];exact N5 Z Z) ?_;refine A6 (C6 Z (fun h=>by first | rfl | (rw[h];rfl)) (fun h=>by first | rfl | (rw[h];rfl))) Z ?_;refine B0 ?_;refine k1 ?_;refine B9 rfl (fun g=>?_) (fun g=>?_)
  ·simp only[and_pick]at g;have h:=A0 g;skip;refine A7 (A6 (A8 Z Z) Z (A6 (A8 Z Z) Z (A6 (P6 Z) Z (A6 (O5 Z Z (by omega)) Z (A6 (wY Z Z (by omega) (by omega)) Z (A6 (A9 Z Z) Z (B0 ?_)))))));refine k1 (k2 ?_);refine A7 (A6 (A8 Z Z) Z (A6 (A9 Z Z) Z (B0 ?_)));refine k1 (I9 ?_);exact C2 (J5 rfl rfl rfl) (by rw[j,A4 h,show ((s.length:Int)-1).toNat=s.length-1 by omega])
  ·simp only[and_pick]at g;have h:=A1 g;refine k5 (k1 (k2 ?_));refine A7 (A6 (A8 Z Z) Z (A6 (A9 Z Z) Z (B0 ?_)));refine k1 (I9 ?_);exact C2 (J5 rfl rfl rfl) (by rw[j,A5 h])
theorem DH(d:List Int)(b n c:Int)(f:0<=n):((dN d b n c).length:Int)<=4*n:=by
 have h:=T3 (Z8 d b) (n:=n+1) (by omega);have i:=iK d b c (R5 (Z8 d b) (n+1)).toNat
 unfold dN;simp only;split
 ·simp only[XG];omega
 ·omega
def Z2(b:List Int)(a:Int)(i:Nat)(s:Str):List Str->Str
 | []=>s
 | x::r=>if (Z8 b (a+(i:Int))).tmod 6=0 then Z2 b a (i+1) s r
  else if (Z8 b (a+(i:Int))).tmod 6=1 then Z2 b a (i+1) (s++d8 (Z8 b (a+40+(i:Int)))++[10]++x) r
  else Z2 b a (i+1) (s++x) r
def cD(b:Str)(c:List Int)(a:Int):Str:=Z2 c a 0 [] (D4 b)
theorem dO(b:List Int)(a:Int):∀(l:List Str) (i:Nat) (s:Str),(Z2 b a i s l).length<=s.length+l.flatten.length+4*l.length
 | [],i,s=>by simp[Z2]
 | x::r,i,s=>by
  have c:=dO b a r (i+1) s;have d:=dO b a r (i+1) (s++d8 (Z8 b (a+40+(i:Int)))++[10]++x);have f:=dO b a r (i+1) (s++x);have j:=dM (Z8 b (a+40+(i:Int)));simp only[WX,WW,XD,YI]at *;unfold Z2;split
  ·omega
  ·split<;>omega
theorem mX(s b:Str):(I0 b s).flatten=b++s:=by
 induction s generalizing b with
 | nil=>unfold I0;split<;>simp[*]
 | cons c r d=>unfold I0;split<;>simp[d]
theorem c5(s:Str):(D4 s).flatten=s:=mX s []
theorem OU(c:Str)(d:List Int)(b:Int)(hb:c.length<=16777216)(G:0<=b/\b<=1073741824) :
  FnOk Tryz.prog 67 [I3 c,O6 d,E8 b] (fun rs=>rs=[I3 (cD c d b)]):=by
 have z:=aM c;have y:=c5 c;have v:(D4 c).flatten.length=c.length:=by rw[y]
 refine FnOk.intro Tryz.func67 (by decide) Z Z Z Z ?_;refine k2 ?_;refine A7 (A6 (A9 Z Z) Z (B0 ?_));refine k1 (k2 ?_);refine A7 (A6 (A8 Z Z) Z (D1 (zV c (by omega)) Z Z Z ?_));rintro _ rfl;refine A6 (A9 Z Z) Z (B0 ?_);refine k1 (k2 ?_);obtain⟨l,B⟩:∃l,l=D4 c:=⟨_,rfl⟩
 have A:cD c d b=Z2 d b 0 [] l:=by rw[cD,B]
 rw[<-B]at z v ⊢;refine A7 (A6 (A9 Z Z) Z (B0 ?_));refine k1 (k2 (k2 ?_));refine A7 (A6 (A9 Z Z) Z (B0 ?_));refine k1 (k3 ?_);refine E4 (X:=Nat×Str) (fun x=>([(1,E3 Int 1 G1 d),(2,C7 b),(7,E3 Str 1 R8 l),(8,P2 x.2),(9,C7 x.1)],[])) (fun x=>x.1<=l.length/\x.2.length<=(l.take x.1).flatten.length+4*x.1/\Z2 d b x.1 x.2 (l.drop x.1)=Z2 d b 0 [] l) (fun x=>l.length-x.1) (0,[]) (by simp) (Sees.of ⟨B4 rfl,B4 rfl,B4 rfl,B4 rfl,B4 rfl,trivial⟩ trivial) ?_;rintro⟨i,s⟩ ⟨D,F,j⟩;dsimp only at D F j ⊢;have E:=eR l i;refine k2 (k2 ?_);refine A7 (A6 (A8 Z Z) Z (A6 (A8 Z Z) Z (A6 (F0 Z (.pure _ _ _ _)) Z (A6 (F3 Z Z) Z (B0 ?_)))));refine k1 ?_;refine B9 rfl (fun k=>?_) (fun k=>?_)
 ·have o:i<l.length:=by have:=A0 k;omega
  have C:l[i]?=some l[i]:=by simp[o]
  have q:=eR l (i+1);have m:=bJ l i o;rw[m,WX]at q;rw[XA o,Z2]at j;refine k5 (k1 (k2 (k3 (k2 (k2 ?_)))));refine A7 (A6 (A8 Z Z) Z (A6 (A8 Z Z) Z (A6 (A8 Z Z) Z (A6 (D5 Z Z (by omega)) Z (D1 (bG d _ (by omega) (by omega)) Z Z Z ?_)))));rintro _ rfl;refine A6 (iC Z Z (by omega)) Z (B0 ?_);refine k1 (k3 (k2 ?_));refine A7 (A6 (K4 Z Z) Z (A6 (A9 Z Z) Z (B0 ?_)));refine k1 ?_;refine B9 rfl (fun k=>?_) (fun k=>?_)
  ·rw[A4 (A0 k)]at j;refine k6 (k9 Z (k7 (k8 Z (k1 ?_))));refine A7 (A6 (A8 Z Z) Z (A6 (D5 Z Z (by omega)) Z (A6 (A9 Z Z) Z (B0 ?_))));refine k1 ?_;exact⟨(i+1,s),⟨by dsimp only;omega,by dsimp only;rw[m,WX];omega,j⟩,by dsimp only;omega,Sees.of ⟨B4 rfl,B4 rfl,B4 rfl,B4 rfl,B4 rfl,trivial⟩ trivial⟩
  ·rw[A5 (A1 k)]at j;refine k2 ?_;refine A7 (A6 (K4 Z Z) Z (A6 (A9 Z Z) Z (B0 ?_)));refine k1 ?_;refine B9 rfl (fun k=>?_) (fun k=>?_)
   ·rw[A4 (A0 k)]at j;have H:=dM (Z8 d (b+40+(i:Int)));skip;refine A7 (A6 (A8 Z Z) Z (A6 (A8 Z Z) Z (A6 (A8 Z Z) Z (A6 (D5 Z Z (by omega)) Z (A6 (A8 Z Z) Z (A6 (D5 Z Z (by omega)) Z (D1 (bG d _ (by omega) (by omega)) Z Z Z ?_)))))));rintro _ rfl;refine D1 (zX _) Z Z Z ?_;rintro _ rfl;refine A6 (K8 Z Z (by omega)) Z (A6 (K8 Z Z (by (simp only[WX,WW,XD];omega))) Z (A6 (A9 Z Z) Z (B0 ?_)));refine k4 (k1 ?_);refine A7 (A6 (A8 Z Z) Z (A6 (A8 Z Z) Z (A6 (A8 Z Z) Z (A6 (B8 Z (.pure _ _ _ _) Z (by omega) C) Z (A6 (C0 Z Z) Z (A6 (K8 Z Z (by (simp only[WX,WW,XD];omega))) Z (A6 (A9 Z Z) Z (B0 ?_))))))));refine k4 (k1 ?_);refine A7 (A6 (A8 Z Z) Z (A6 (D5 Z Z (by omega)) Z (A6 (A9 Z Z) Z (B0 ?_))));refine k1 ?_;exact⟨(i+1,s++d8 (Z8 d (b+40+(i:Int)))++[10]++l[i]),⟨by dsimp only;omega,by dsimp only;rw[m];simp only[WX,WW,XD];omega,j⟩,by dsimp only;omega,Sees.of ⟨B4 rfl,B4 rfl,B4 rfl,B4 rfl,B4 rfl,trivial⟩ trivial⟩
   ·rw[A5 (A1 k)]at j;refine k5 (k4 (k1 ?_));refine A7 (A6 (A8 Z Z) Z (A6 (A8 Z Z) Z (A6 (A8 Z Z) Z (A6 (B8 Z (.pure _ _ _ _) Z (by omega) C) Z (A6 (C0 Z Z) Z (A6 (K8 Z Z (by omega)) Z (A6 (A9 Z Z) Z (B0 ?_))))))));refine k4 (k1 ?_);refine A7 (A6 (A8 Z Z) Z (A6 (D5 Z Z (by omega)) Z (A6 (A9 Z Z) Z (B0 ?_))));refine k1 ?_;exact⟨(i+1,s++l[i]),⟨by dsimp only;omega,by dsimp only;rw[m,WX,WX];omega,j⟩,by dsimp only;omega,Sees.of ⟨B4 rfl,B4 rfl,B4 rfl,B4 rfl,B4 rfl,trivial⟩ trivial⟩
 ·have w:i=l.length:=by have:=A1 k;omega
  rw[w,XO (Nat.le_refl _)]at j;refine k6 (k2 ?_);refine A7 (A6 (A8 Z Z) Z (A6 (A9 Z Z) Z (B0 ?_)));refine k1 (I9 ?_);exact C2 (J5 rfl rfl rfl) (by rw[A,<-j];rfl)
theorem uU(s:Str):(ByteArray.mk s.toArray).size=s.length:=by simp[ByteArray.size]
theorem xJ(s p:Str)(b:s.length<=1099511627776):FnOk Tryz.prog 230 [I3 s,I3 p] (fun a=>a=[H6 (Lib.hasSuffix s p)]) :=
 WC (xs:=[.string ⟨s.toArray⟩,.string ⟨p.toArray⟩]) ⟨_,rfl,rfl,rfl⟩ rfl fun w=>by simpa using Tryz.strings_HasSuffix ⟨s.toArray⟩ ⟨p.toArray⟩ w (by rw[uU];omega)
theorem tR(s p:Str)(a:s.length<=1099511627776):FnOk Tryz.prog 99 [I3 s,I3 p] (fun rs=>rs=[I3 (Lib.trimSuffix s p)]) :=
 WC (xs:=[.string ⟨s.toArray⟩,.string ⟨p.toArray⟩]) ⟨_,rfl,rfl,rfl⟩ rfl fun w=>by simpa using Tryz.strings_TrimSuffix ⟨s.toArray⟩ ⟨p.toArray⟩ w (by rw[uU];omega)
theorem ID(s:Str)(a:s.length<=1099511627776):FnOk Tryz.prog 170 [I3 s] (fun b=>b=[H6 (ended s)]):=by
 refine FnOk.intro Tryz.func170 (by decide) Z Z Z Z ?_;refine k2 ?_;refine A7 (A6 (A9 Z Z) Z (B0 ?_));refine k1 (k2 ?_);refine A7 (A6 (A8 Z Z) Z (D1 (xJ s [10] a) Z Z Z ?_));rintro _ rfl;refine A6 (A9 Z Z) Z (B0 ?_);rw[yD];refine k1 (I9 ?_);exact C2 (J5 rfl rfl rfl) rfl
def QF(ob:Obs)(c:Str):Prop:=(∃a,(a=.p (.v (.pointer none))\/a=.ref 700 0)/\C5 ob 700=some (.tbx 109 [a,.buf 701 UInt8 1 CP c]))/\C5 ob 701=some (.spare c.length 1 5)
abbrev ME(ob:Obs)(ys c:Str):Obs:=(700,.tbx 109 [.ref 700 0,.buf 701 UInt8 1 CP c])::(701,.spare c.length 1 5)::Obs.forget 701 ((700,.tbx 109 [.ref 700 0,.buf 701 UInt8 1 CP ys])::ob)
def GI:Go.Shelf.Ren:=⟨fun | 240=>100 | 276=>156 | n=>n,fun | 72=>109 | 70=>106 | 164=>263 | 37=>107 | n=>n,fun n=>n⟩
theorem MF:Go.Proofs.Lays.n240 Tryz.prog GI:={
 mixed:=by kernel_rfl
 f240:=Tryz.func100.trans (congrArg some (by kernel_rfl))
 f276:=Tryz.func156.trans (congrArg some (by kernel_rfl))
 t0:=Tryz.underlying0
 a0:=Tryz.isAgg0
 z0:=Tryz.sizeOf0
 v0:=Tryz.zeroValue0
 t4:=Tryz.underlying4
 a4:=Tryz.isAgg4
 z4:=Tryz.sizeOf4
 v4:=Tryz.zeroValue4
 t9:=Tryz.underlying9
 a9:=Tryz.isAgg9
 z9:=Tryz.sizeOf9
 v9:=Tryz.zeroValue9
 t20:=Tryz.underlying20
 a20:=Tryz.isAgg20
 z20:=Tryz.sizeOf20
 v20:=Tryz.zeroValue20
 t70:=Tryz.underlying106
 a70:=Tryz.isAgg106
 z70:=Tryz.sizeOf106
 v70:=Tryz.zeroValue106
 t72:=Tryz.underlying109
 a72:=Tryz.isAgg109
 z72:=Tryz.sizeOf109
 v72:=Tryz.zeroValue109
 t164:=Tryz.underlying263
 a164:=Tryz.isAgg263
 z164:=Tryz.sizeOf263
 v164:=Tryz.zeroValue263 }
theorem VQ:Builder.X72 Tryz.prog GI:={
 sizeBuilder:=by kernel_rfl
 liesBuilder:=by kernel_rfl }
theorem iL{gf:Fr}{ob:Obs}{a t:TC}(j:C5 ob 700=some (.tbx 109 [a,t]))(ha:a=.p (.v (.pointer none))\/a=.ref 700 0) :
  AL.Met Tryz.prog 100 [.one (.ref 700 0)] gf ob [] (fun k ob'=>k=[]/\ob'=(700,.tbx 109 [.ref 700 0,t])::ob) :=
 AL.Met.copyCheck ⟨_,rfl,rfl,rfl⟩ (fun b w c d g=>Any.Builder_copyCheck_fresh (ρ:=GI) MF VQ b w c d g) (fun b w h=>Any.Builder_copyCheck_used (ρ:=GI) MF VQ b w h) j ha
theorem eO{gf:Fr}{ob:Obs}{xs s:Str}(hb:QF ob xs)(d:xs.length+s.length<=1073741824) :
  AL.Met Tryz.prog 53 [.one (.ref 700 0),.one (.p (.v (.string ⟨s.toArray⟩)))] gf ob [701] (fun rs ob'=>rs=[.one (.p (.v (.int .i64 s.length))),.one (.p (.v .nilIface))]/\ob'=ME ob xs (xs++s)):=by
 obtain⟨⟨a,ha,j⟩,b⟩:=hb;refine AL.Met.intro Tryz.func53 (by decide) Z Z Z ?_;refine k2 ?_;refine A7 (A6 (A9 Z Z) Z (A6 (A9 Z Z) Z (B0 ?_)));refine k1 (k2 ?_);refine A7 (A6 (A8 Z Z) Z (Z7 (iL j ha) Z Z Z ?_));rintro _ _ ⟨rfl,rfl⟩;refine B0 ?_;refine k1 (k2 ?_);refine A7 (A6 (A8 Z Z) Z (A6 (A8 Z Z) Z (A6 (B5 Z) Z (A6 (B1 Z) Z (A6 (fC Z Z Z) Z (A6 (A8 Z Z) Z (D6 (CQ TyStr.out Z b Z (by first | omega | (simp;omega)) Z) Z (A6 (B5 Z) Z (A6 (B1 Z) Z (F7 (kS TySz.out Z Z Z Z Z Z) (B0 ?_)))))))))));refine k1 (k2 ?_);refine A7 (A6 (A8 Z Z) Z (A6 (P6 Z) Z (A6 (A9 Z Z) Z (A6 (A9 Z Z) Z (B0 ?_)))));refine k1 (I9 ?_);exact I6 (zG rfl rfl rfl) (by repeat (first | exact C3 | refine C4 rfl ?_ | refine F8 _ ?_)) (fun _ _ h=>h) ⟨rfl,rfl⟩
theorem iM{gf:Fr}{ob:Obs}{xs:Str}{c:UInt8}(hb:QF ob xs)(d:xs.length+1<=1073741824) :
  AL.Met Tryz.prog 121 [.one (.ref 700 0),.one (.p (.v (.int .u8 c.toNat)))] gf ob [701] (fun j ob'=>j=[.one (.p (.v .nilIface))]/\ob'=ME ob xs (xs++[c])):=by
 obtain⟨⟨a,ha,g⟩,b⟩:=hb;refine AL.Met.intro Tryz.func121 (by decide) Z Z Z ?_;refine k2 ?_;refine A7 (A6 (A9 Z Z) Z (B0 ?_));refine k1 (k2 ?_);refine A7 (A6 (A8 Z Z) Z (Z7 (iL g ha) Z Z Z ?_));rintro _ _ ⟨rfl,rfl⟩;refine B0 ?_;refine k1 (k2 ?_);refine A7 (A6 (A8 Z Z) Z (A6 (A8 Z Z) Z (A6 (B5 Z) Z (A6 (B1 Z) Z (A6 (fC Z Z Z) Z (A6 (A8 Z Z) Z (A6 (D9 (c:=CP) (ys:=[c]) (D8 Z Z Z Z H5) Z Z Z) Z (D6 (N6 Z b Z (.pure _ _ _ _) (by (simp;omega)) Z) Z (A6 (B5 Z) Z (A6 (B1 Z) Z (F7 (kS TySz.out Z Z Z Z Z Z) (B0 ?_))))))))))));refine k1 (k2 ?_);refine A7 (A6 (A9 Z Z) Z (B0 ?_));refine k1 (I9 ?_);exact I6 (X2 rfl rfl) (by repeat (first | exact C3 | refine C4 rfl ?_ | refine F8 _ ?_)) (fun _ _ h=>h) ⟨rfl,rfl⟩
theorem uV(c:UInt8):FnOk Tryz.prog 89 [pByte c] (fun b=>b=[H6 (R9 c)]):=by
 refine FnOk.intro Tryz.func89 (by decide) Z Z Z Z ?_;refine k2 ?_;refine A7 (A6 (A9 Z Z) Z (B0 ?_));refine k1 (k2 ?_);refine A7 (A6 (A8 Z Z) Z (A6 (U7 Z Z) Z (A6 (A8 Z Z) Z (B6 Z Z Z Z (fun a=>by rw[a];exact A8 Z Z) ?_))));refine B6 Z Z Z Z (fun a=>by rw[a];exact kL Z Z) ?_;refine A6 (C6 Z (fun h=>by first | rfl | (rw[h];rfl)) (fun h=>by first | rfl | (rw[h];rfl))) Z ?_;refine A6 (A8 Z Z) Z (B6 Z Z Z Z (fun a=>by rw[a];exact A8 Z Z) ?_);refine B6 Z Z Z Z (fun a=>by rw[a];exact N5 Z Z) ?_;refine A6 (C6 Z (fun h=>by first | rfl | (rw[h];rfl)) (fun h=>by first | rfl | (rw[h];rfl))) Z ?_;refine A6 (A8 Z Z) Z (B6 Z Z Z Z (fun a=>by rw[a];exact A8 Z Z) ?_);refine B6 Z Z Z Z (fun a=>by rw[a];exact N5 Z Z) ?_;refine A6 (C6 Z (fun h=>by first | rfl | (rw[h];rfl)) (fun h=>by first | rfl | (rw[h];rfl))) Z ?_;refine A6 (A9 Z Z) Z (B0 ?_);refine k1 (I9 ?_);refine C2 (J5 Z Z Z) ?_;simp only[and_pick]
 congr 4
 unfold R9
 congr 1
 simp;omega
open Go.RowKit
theorem MH(q:Nat)(h:q<8):IntKind.u8.wrap (48+(q:Int))=((UInt8.ofNat (48+q)).toNat:Int):=by
 rw[IntWalk.u8_in _ (by omega)];have:(UInt8.ofNat (48+q)).toNat=48+q:=by rw[UInt8.toNat_ofNat'];omega
 rw[this];simp
theorem GJ(x:Nat)(h:x<256):IntKind.u8.wrap ((BitVec.ofInt IntKind.u8.bits (x:Int) &&& BitVec.ofInt IntKind.u8.bits 7).toNat:Int)=((x % 8:Nat):Int):=by
 have d:(BitVec.ofInt IntKind.u8.bits (x:Int) &&& BitVec.ofInt IntKind.u8.bits 7).toNat=x % 8:=by
  rw[BitVec.toNat_and,BitVec.toNat_ofInt,BitVec.toNat_ofInt];have b:((x:Int) % ((2 ^ IntKind.u8.bits:Nat):Int)).toNat=x:=by
   rw[show ((2 ^ IntKind.u8.bits:Nat):Int)=256 by rfl];omega
  have c:((7:Int) % ((2 ^ IntKind.u8.bits:Nat):Int)).toNat=2 ^ 3-1:=by rfl
  rw[b,c,Nat.and_two_pow_sub_one_eq_mod]
 rw[d,IntWalk.u8_in _ (by omega)]
theorem MI(x:Nat)(c:Nat)(h:c<=8):(x:Int).fdiv (2 ^ min (Int.toNat (c:Int)) IntKind.u8.bits)=((x / 2 ^ c:Nat):Int):=by
 rw[RE _ _ IntKind.u8.bits ⟨by omega,by show (c:Int)<=8;omega⟩];simp
theorem DI(c:UInt8):FnOk Tryz.prog 122 [pByte c] (fun t=>t=[I3 (cW c)]):=by
 have w:=c.toNat_lt;refine FnOk.intro Tryz.func122 (by decide) Z Z Z Z ?_;refine k2 ?_;refine A7 (A6 (A9 Z Z) Z (B0 ?_));refine k1 (k2 (k3 (k2 ?_)));refine A7 (A6 (A8 Z Z) Z (A6 (K4 Z Z) Z (A6 (A8 Z Z) Z (B6 Z Z Z Z (fun b=>by rw[b];exact A8 Z Z) ?_))));refine B6 Z Z Z Z (fun b=>by rw[b];exact K4 Z Z) ?_;refine A6 (C6 Z (fun h=>by first | rfl | (rw[h];rfl)) (fun h=>by first | rfl | (rw[h];rfl))) Z ?_;refine A6 (A9 Z Z) Z (B0 ?_);refine k1 ?_;refine B9 rfl (fun a=>?_) (fun a=>?_)
 ·have h:=A0 (or_pick.symm.trans a);refine k2 ?_;refine A7 (A6 (A8 Z Z) Z (A6 (iE Z (by omega)) Z (A6 (K8 Z Z (by simp)) Z (A6 (A9 Z Z) Z (B0 ?_)))));refine k1 (I9 (W5 (N4 ?_)));exact C2 (J5 rfl rfl rfl) (by rw[cW,A4 (by omega)];rfl)
 ·have h:=A1 (or_pick.symm.trans a);refine k2 ?_;refine A7 (A6 (A8 Z Z) Z (A6 (K4 Z Z) Z (A6 (A9 Z Z) Z (B0 ?_))));refine k1 ?_;refine B9 rfl (fun a=>?_) (fun a=>?_)
  ·have o:=A0 a;refine k2 ?_;refine A7 (A6 (A9 Z Z) Z (B0 ?_));refine k1 (I9 (W5 (N4 ?_)));exact C2 (J5 rfl rfl rfl) (by rw[cW,A5 (by omega),A4 (by omega)])
  ·have o:=A1 a;refine k2 ?_;refine A7 (A6 (A8 Z Z) Z (A6 (K4 Z Z) Z (A6 (A9 Z Z) Z (B0 ?_))));refine k1 ?_;refine B9 rfl (fun a=>?_) (fun a=>?_)
   ·have q:=A0 a;refine k2 ?_;refine A7 (A6 (A9 Z Z) Z (B0 ?_));refine k1 (I9 (W5 (N4 ?_)));exact C2 (J5 rfl rfl rfl) (by rw[cW,A5 (by omega),A5 (by omega),A4 (by omega)])
   ·have q:=A1 a;refine k2 ?_;refine A7 (A6 (A8 Z Z) Z (A6 (F3 Z Z) Z (A6 (A8 Z Z) Z (B6 Z Z Z Z (fun b=>by rw[b];exact A8 Z Z) ?_))));refine B6 Z Z Z Z (fun b=>by rw[b];exact P5 Z Z) ?_;refine A6 (C6 Z (fun h=>by first | rfl | (rw[h];rfl)) (fun h=>by first | rfl | (rw[h];rfl))) Z ?_;refine A6 (A9 Z Z) Z (B0 ?_);refine k1 ?_;refine B9 rfl (fun a=>?_) (fun a=>?_)
    ·have s:=A0 (or_pick.symm.trans a);refine k2 ?_;have n:(c.toNat:Int).fdiv (2 ^ min (Int.toNat 6) IntKind.u8.bits)=((c.toNat / 64:Nat):Int):=MI c.toNat 6 (by omega);have m:(c.toNat:Int).fdiv (2 ^ min (Int.toNat 3) IntKind.u8.bits)=((c.toNat / 8:Nat):Int):=MI c.toNat 3 (by omega);have j:=MH (c.toNat / 64) (by omega);have k:=MH (c.toNat / 8 % 8) (by omega);have l:=MH (c.toNat % 8) (by omega);have g:=AX c;refine A7 (A6 (A8 Z Z) Z (A6 (yZ Z Z (by omega)) Z (A6 (kK Z Z) Z (A6 (A8 Z Z) Z (A6 (yZ Z Z (by omega)) Z (A6 (pZ Z Z Z (fun _=>rfl)) Z (A6 (kK Z Z) Z (A6 (A8 Z Z) Z (A6 (pZ Z Z Z (fun _=>rfl)) Z (A6 (kK Z Z) Z ?_))))))))));           rw[n,m,GJ (c.toNat / 8) (by omega),GJ c.toNat (by omega),j,k,l];refine A6 (D9 (c:=CP) (ys:=[UInt8.ofNat (48+c.toNat / 64),UInt8.ofNat (48+c.toNat / 8 % 8),UInt8.ofNat (48+c.toNat % 8)]) (D8 Z Z Z Z (D8 Z Z Z Z (D8 Z Z Z Z H5))) Z Z Z) Z (A6 (qB TyStr.out Z (.pure _ _ _ _)) Z (A6 (K8 Z Z (by simp)) Z (A6 (A9 Z Z) Z (B0 ?_))));refine k1 (I9 (W5 (N4 ?_)));exact C2 (J5 rfl rfl rfl) (by rw[cW,A5 (by omega),A5 (by omega),A5 (by omega),A4 (by omega),g];rfl)
    ·have s:=A1 (or_pick.symm.trans a);refine k5 (k2 ?_);refine A7 (A6 (A8 Z Z) Z (A6 (iE Z (by omega)) Z (A6 (A9 Z Z) Z (B0 ?_))));refine k1 (I9 ?_);exact C2 (J5 rfl rfl rfl) (by rw[cW,A5 (by omega),A5 (by omega),A5 (by omega),A5 (by omega)])
theorem OV(n:Int)(h:0<=n/\n<=2147483647):FnOk Tryz.prog 51 [E8 n] (fun f=>f=[I3 (Lib.itoa n)]) :=
 WH (xs:=[.int .i64 n]) (r:=.string ⟨(Lib.itoa n).toArray⟩) ⟨_,rfl,rfl,rfl⟩ rfl fun w d =>
  (Tryz.strconv_Itoa n (by omega) (by omega) w (d.pow10 rfl)).mono fun e w' ⟨c,k,os,b⟩=>⟨c,by subst b;exact Lib.below_grow _ _ (Nat.le_refl _) _ _⟩
theorem p7(n:Int):FnOk Tryz.prog 19 [E8 n] (fun rs=>rs=[I3 (m8 n)]):=by
 refine FnOk.intro Tryz.func19 (by decide) Z Z Z Z ?_;refine k2 ?_;refine A7 (A6 (A9 Z Z) Z (B0 ?_));refine k1 (k2 (k2 ?_));refine A7 (A6 (A8 Z Z) Z (A6 (F3 Z Z) Z (A6 (A8 Z Z) Z (B6 Z Z Z Z (fun a=>by rw[a];exact A8 Z Z) ?_))));refine B6 Z Z Z Z (fun a=>by rw[a];exact P5 Z Z) ?_;refine A6 (C6 Z (fun h=>by first | rfl | (rw[h];rfl)) (fun h=>by first | rfl | (rw[h];rfl))) Z ?_;refine B0 ?_;refine k1 ?_;refine B9 rfl (fun b=>?_) (fun b=>?_)
 ·have h:=A0 (or_pick.symm.trans b);refine k2 ?_;refine A7 (A6 (A9 Z Z) Z (B0 ?_));refine k1 (I9 (N4 ?_));exact C2 (J5 rfl rfl rfl) (by rw[m8,A4 (by omega)])
 ·have h:=A1 (or_pick.symm.trans b);refine k5 (k1 (k2 ?_));refine A7 (A6 (A8 Z Z) Z (D1 (OV n (by omega)) Z Z Z ?_));rintro _ rfl;refine A6 (A9 Z Z) Z (B0 ?_);refine k1 (I9 ?_);exact C2 (J5 rfl rfl rfl) (by rw[m8,A5 (by omega)])
theorem iN(B b:Nat)(l:List UInt8)(w:World)(h:Lib.IsBuilder 109 5 B b (Lib.byteCells l) w)(a:B<=w.heap.size) :
  Calls Tryz.prog 56 #[.pointer (some ⟨b,0,none⟩)] w fun e w'=>e=.returned (.string ⟨l.toArray⟩)/\Below B w w':=Tryz.Builder_String_any B b l w h a
theorem uW(s:Str)(D:s.length<=16777216):FnOk Tryz.prog 76 [I3 s] (fun rs=>rs=[I3 (c8 s)]):=by
 refine FnOk.intro Tryz.func76 (by decide) Z Z Z Z ?_;refine k2 ?_;refine A7 (A6 (A9 Z Z) Z (B0 ?_));refine k1 (k2 ?_);refine A7 (A6 (A8 Z Z) Z (A6 (pN Z Z) Z (A6 (A9 Z Z) Z (B0 ?_))));refine k1 (k2 (k2 ?_));refine A7 (A6 (A8 Z Z) Z (A6 (P6 Z) Z (A6 (A8 Z Z) Z (B0 ?_))));refine k1 (k3 ?_);refine E4 (X:=Nat) (fun i=>([(0,P2 s),(3,J0 (.bool (plains s i))),(10,C7 s.length),(11,C7 i)],[])) (fun i=>i<=s.length) (fun i=>s.length-i) 0 (Nat.zero_le _) ?_ ?_
 ·rw[AY];exact Sees.of ⟨B4 rfl,B4 rfl,B4 rfl,B4 rfl,trivial⟩ trivial
 intro i y;dsimp only at y ⊢;refine k2 ?_;refine A7 (A6 (F3 Z Z) Z (B0 ?_));refine k1 (k2 ?_);refine B9 rfl (fun j=>?_) (fun j=>?_)
 ·have d:i<s.length:=by have:=A0 j;omega
  have w:s[i]?=some s[i]:=by simp[d]
  obtain⟨c,A⟩:∃c,c=s[i]:=⟨_,rfl⟩
  have z:=AZ s i d;rw[<-A]at w z;refine k5 (k1 (k2 (k3 (k2 ?_))));refine A7 (A6 (A8 Z Z) Z (A6 (A9 Z Z) Z (B0 ?_)));refine k1 ?_;refine A7 (A6 (A8 Z Z) Z (A6 (A8 Z Z) Z (B6 Z Z Z Z (fun m=>by rw[m];exact A8 Z Z) ?_)));refine B6 Z Z Z Z (fun m=>by rw[m];exact A8 Z Z) ?_;refine B6 Z Z Z Z (fun m=>by have v:=m;(try simp at v);rw[m];exact S2 Z Z (by omega) w) ?_;refine B6 Z Z Z Z (fun m=>by have v:=m;(try simp at v);rw[m];exact I4 (uV c) Z Z) ?_;refine A6 (C6 Z (fun h=>by first | rfl | (rw[h];rfl)) (fun h=>by first | rfl | (rw[h];rfl))) Z ?_;refine A6 (A9 Z Z) Z (B0 ?_);refine k4 (k1 ?_);refine A7 (A6 (D5 Z Z (by omega)) Z (A6 (A8 Z Z) Z (B0 ?_)));refine k1 ?_;refine⟨i+1,d,by omega,?_⟩;rw[show (if plains s i=true then R9 c else false)=plains s (i+1) from by rw[z];cases plains s i<;>rfl];exact Sees.of ⟨B4 rfl,B4 rfl,B4 rfl,B4 rfl,trivial⟩ trivial
 have q:i=s.length:=by have:=A1 j;omega
 subst q;refine k6 (k2 (k2 ?_));refine A7 (A6 (A8 Z Z) Z (B0 ?_));refine k1 ?_;refine B9 rfl (fun j=>?_) (fun j=>?_)
 ·have h:plains s s.length=true:=j;refine k2 ?_;refine A7 (A6 (A8 Z Z) Z (A6 (A9 Z Z) Z (B0 ?_)));refine k1 (I9 (N4 ?_));exact C2 (J5 rfl rfl rfl) (by rw[rW,A4 h])
 have h:plains s s.length=false:=j;have v:c8 s=(34::escs s s.length)++[34]:=by rw[rW,h];rfl
 refine k5 (k1 (k2 ?_));refine A7 (D6 (zF 700 Z) Z (B0 ?_));refine k1 (k2 ?_);refine G8 (WI 701 UInt8 1 CP 5 (kb:=700) (o:=1) Z Z Z) ?_;refine A7 (Z7 (iM (xs:=[]) (c:=34) ⟨⟨_,.inl rfl,rfl⟩,rfl⟩ (by simp)) Z Z Z ?_);rintro _ _ ⟨rfl,rfl⟩;refine B0 ?_;refine k1 (k2 (k2 ?_));refine A7 (A6 (A8 Z Z) Z (A6 (P6 Z) Z (A6 (A8 Z Z) Z (B0 ?_))));refine k1 (k3 ?_);refine E4 (X:=Nat) (fun i=>([(0,P2 s),(5,.s (.one (.ref 700 0))),(26,C7 s.length),(27,C7 i)],[(700,.tbx 109 [.ref 700 0,.buf 701 UInt8 1 CP (34::escs s i)]),(701,.spare (34::escs s i).length 1 5)])) (fun i=>i<=s.length) (fun i=>s.length-i) 0 (Nat.zero_le _) (Sees.of ⟨B4 rfl,B4 rfl,B4 rfl,B4 rfl,trivial⟩ ⟨rfl,rfl,trivial⟩) ?_;intro i y;dsimp only at y ⊢;have C:=MX s i y;refine k2 ?_;refine A7 (A6 (F3 Z Z) Z (B0 ?_));refine k1 (k2 ?_);refine B9 rfl (fun j=>?_) (fun j=>?_)
 ·have d:i<s.length:=by have:=A0 j;omega
  have w:s[i]?=some s[i]:=by simp[d]
  obtain⟨c,A⟩:∃c,c=s[i]:=⟨_,rfl⟩
  have B:=JL s i d;have z:=vQ c;rw[<-A]at w B;refine k5 (k1 (k2 (k3 (k2 ?_))));refine A7 (A6 (A8 Z Z) Z (A6 (A9 Z Z) Z (B0 ?_)));refine k1 ?_;refine A7 (A6 (A8 Z Z) Z (A6 (A8 Z Z) Z (A6 (S2 Z Z (by omega) w) Z (D1 (DI c) Z Z Z ?_))));rintro _ rfl;refine Z7 (eO (xs:=34::escs s i) (s:=cW c) ⟨⟨_,.inr rfl,rfl⟩,rfl⟩ (by simp only[WW];omega)) Z Z Z ?_;rintro _ _ ⟨rfl,rfl⟩;refine B0 ?_;refine k4 (k1 ?_);refine A7 (A6 (D5 Z Z (by omega)) Z (A6 (A8 Z Z) Z (B0 ?_)));refine k1 ?_;refine⟨i+1,d,by omega,?_⟩;rw[B];exact Sees.of ⟨B4 rfl,B4 rfl,B4 rfl,B4 rfl,trivial⟩ ⟨rfl,rfl,trivial⟩
 have q:i=s.length:=by have:=A1 j;omega
 subst q;refine k6 (k2 ?_);refine A7 (Z7 (iM (xs:=34::escs s s.length) (c:=34) ⟨⟨_,.inr rfl,rfl⟩,rfl⟩ (by simp only[WW];omega)) Z Z Z ?_);rintro _ _ ⟨rfl,rfl⟩;refine B0 ?_;refine k1 (k2 ?_);refine A7 (uJ (k:=700) (k':=701) ⟨_,rfl,rfl,rfl⟩ iN Z Z Z Z Z (.inr Z) Z (A6 (A9 Z Z) Z (B0 ?_)));refine k1 (I9 ?_);exact C2 (J5 rfl rfl rfl) (by rw[v])
set_option maxHeartbeats 1000000
theorem MJ(l:List File)(p:Str)(q:l.length<=1073741824):FnOk Tryz.prog 10 [x1 l,I3 p] (fun rs=>rs=[I3 ((F5 l p).getD []),H6 (F5 l p).isSome]):=by
 refine FnOk.intro Tryz.func10 (by decide) Z Z Z Z ?_;refine k2 ?_;refine A7 (A6 (A9 Z Z) Z (A6 (A9 Z Z) Z (B0 ?_)));refine k1 (k2 (k2 ?_));refine A7 (A6 (A9 Z Z) Z (B0 ?_));refine k1 (k3 ?_);refine E4 (X:=Nat) (fun i=>([(0,E3 File 2 Z9 l),(1,P2 p),(6,C7 i)],[])) (fun i=>i<=l.length/\F5 l p=F5 (l.drop i) p) (fun i=>l.length-i) 0 ⟨Nat.zero_le _,rfl⟩ (Sees.of ⟨B4 rfl,B4 rfl,B4 rfl,trivial⟩ trivial) ?_;rintro i ⟨n,a⟩;dsimp only at n a ⊢;refine k2 (k2 ?_);refine A7 (A6 (A8 Z Z) Z (A6 (A8 Z Z) Z (A6 (F0 Z (.pure _ _ _ _)) Z (A6 (F3 Z Z) Z (B0 ?_)))));refine k1 ?_;refine B9 rfl (fun d=>?_) (fun d=>?_);rotate_left
 ·have b:i=l.length:=by have b:=A1 d;(try dsimp only at b);omega
  rw[XO (by omega)]at a;rw[a];refine k6 (k2 ?_);refine A7 (A6 (A9 Z Z) Z (A6 (A9 Z Z) Z (B0 ?_)));refine k1 (I9 ?_);exact C2 (rs:=[I3 [],H6 false]) (U1 rfl rfl rfl rfl rfl) rfl
 have c:i<l.length:=by have b:=A0 d;(try dsimp only at b);omega
 obtain⟨f,h⟩:∃f,f=l[i]:=⟨_,rfl⟩
 have k:l[i]?=some f:=by rw[h];simp[c]
 rw[XA c,<-h]at a;have j:F5 (f::l.drop (i+1)) p=if f.Path=p then some f.Blob else F5 (l.drop (i+1)) p:=rfl
 rw[j]at a;refine k5 (k1 (k2 (k3 (k2 ?_))));refine A7 (A6 (A8 Z Z) Z (A6 (A8 Z Z) Z (A6 (B8 Z (.pure _ _ _ _) Z (by omega) k) Z (A6 (C9 Z) Z (A6 (C0 Z Z) Z (A6 (A8 Z Z) Z (A6 (aV Z Z) Z (B0 ?_))))))));refine k1 ?_;refine B9 rfl (fun d=>?_) (fun d=>?_)
 ·have b:f.Path=p:=A0 d;rw[A4 b]at a;rw[a];refine k2 ?_;refine A7 (A6 (A8 Z Z) Z (A6 (A8 Z Z) Z (A6 (B8 Z (.pure _ _ _ _) Z (by omega) k) Z (A6 (C9 Z) Z (A6 (C0 Z Z) Z (A6 (A9 Z Z) Z (A6 (A9 Z Z) Z (B0 ?_))))))));refine k1 (I9 (W5 (N4 (N4 (W5 (N4 ?_))))));exact C2 (rs:=[I3 f.Blob,H6 true]) (U1 rfl rfl rfl rfl rfl) rfl
 ·have b:¬f.Path=p:=A1 d;rw[A5 b]at a;refine k5 (k4 (k1 ?_));refine A7 (A6 (A8 Z Z) Z (A6 (D5 Z Z (by omega)) Z (A6 (A9 Z Z) Z (B0 ?_))));refine k1 ?_;exact⟨i+1,⟨c,a⟩,by omega,(Sees.of ⟨B4 rfl,B4 rfl,B4 rfl,trivial⟩ trivial)⟩
theorem xK(f:FuncId)(m:File->Bool)(l:List File)(w:l.length<=1073741824)(s:∀x∈l,FnOk Tryz.prog f [GR x] (fun rs=>rs=[H6 (m x)])) :
  FnOk Tryz.prog 164 [x1 l,.one (.v (.func (.func f) #[] #[]))] (fun rs=>∃i:Int,rs=[E8 i]/\decide (0<=i)=l.any m):=by
 refine FnOk.intro Tryz.func164 (by decide) Z Z Z Z ?_;refine k2 ?_;refine A7 (A6 (A9 Z Z) Z (B0 ?_));refine k1 (k2 (k2 ?_));refine A7 (A6 (A8 Z Z) Z (A6 (F0 Z (.pure _ _ _ _)) Z (A6 (A8 Z Z) Z (B0 ?_))));refine k1 (k3 ?_);refine E4 (X:=Nat) (fun i=>([(0,E3 File 2 Z9 l),(1,J0 (.func (.func f) #[] #[])),(7,C7 l.length),(8,C7 i)],[])) (fun i=>i<=l.length/\(l.take i).any m=false) (fun i=>l.length-i) 0 ⟨Nat.zero_le _,rfl⟩ (Sees.of ⟨B4 rfl,B4 rfl,B4 rfl,B4 rfl,trivial⟩ trivial) ?_;rintro i ⟨t,h⟩;dsimp only at t h ⊢;refine k2 ?_;refine A7 (A6 (F3 Z Z) Z (B0 ?_));refine k1 (k2 ?_);refine B9 rfl (fun d=>?_) (fun d=>?_);rotate_left
 ·have g:i=l.length:=by have g:=A1 d;(try dsimp only at g);omega
  rw[g,XF]at h;refine k6 (k2 ?_);refine A7 (A6 (A9 Z Z) Z (B0 ?_));refine k1 (I9 ?_);exact C2 (rs:=[E8 (-1)]) (J5 rfl rfl rfl) ⟨-1,rfl,by rw[h];rfl⟩
 have b:i<l.length:=by have g:=A0 d;(try dsimp only at g);omega
 obtain⟨x,k⟩:∃x,x=l[i]:=⟨_,rfl⟩
 have q:l[i]?=some x:=by rw[k];simp[b]
 have j:=s x (by rw[k];exact WY b);refine k5 (k1 (k2 (k3 (k2 ?_))));refine A7 (A6 (A8 Z Z) Z (A6 (A9 Z Z) Z (B0 ?_)));refine k1 (k2 ?_);refine A7 (A6 (A8 Z Z) Z (A6 (A8 Z Z) Z (A6 (A8 Z Z) Z (A6 (B8 Z (.pure _ _ _ _) Z (by omega) q) Z (A6 (G7 Z Z) Z (A6 (GH (j) Z Z Z) Z (B0 ?_)))))));refine k1 ?_;refine B9 rfl (fun d=>?_) (fun d=>?_)
 ·refine k2 ?_;refine A7 (A6 (A8 Z Z) Z (A6 (A9 Z Z) Z (B0 ?_)));refine k1 (I9 (W5 (N4 (N4 (W5 (N4 ?_))))));refine C2 (rs:=[E8 i]) (J5 rfl rfl rfl) ⟨i,rfl,?_⟩;rw[List.any_eq_true.2 ⟨x,by rw[k];exact WY b,d⟩];exact A2 (by omega)
 ·refine k5 (k4 (k1 ?_));refine A7 (A6 (D5 Z Z (by omega)) Z (A6 (A8 Z Z) Z (B0 ?_)));refine k1 ?_;refine⟨i+1,⟨b,?_⟩,by omega,(Sees.of ⟨B4 rfl,B4 rfl,B4 rfl,B4 rfl,trivial⟩ trivial)⟩;rw[List.take_add_one,q,Option.toList_some,List.any_append,h,Bool.false_or,List.any_cons,List.any_nil,Bool.or_false];exact d
theorem eP(f:FuncId)(a:File->Bool)(l:List File)(g:l.length<=1073741824)(b:∀x∈l,FnOk Tryz.prog f [GR x] (fun rs=>rs=[H6 (a x)])) :
  FnOk Tryz.prog 115 [x1 l,.one (.v (.func (.func f) #[] #[]))] (fun rs=>rs=[H6 (l.any a)]):=by
 refine FnOk.intro Tryz.func115 (by decide) Z Z Z Z ?_;refine k2 ?_;refine A7 (A6 (A9 Z Z) Z (B0 ?_));refine k1 (k2 ?_);refine A7 (A6 (A8 Z Z) Z (A6 (A8 Z Z) Z (D1 (xK f a l g b) Z Z Z ?_)));rintro _ ⟨i,rfl,d⟩;refine A6 (U7 Z Z) Z (A6 (A9 Z Z) Z (B0 ?_));refine k1 (I9 ?_);exact C2 (J5 rfl rfl rfl) (by rw[<-d])
theorem rD(f:FuncId)(m:Commit->Bool)(l:List Commit)(w:l.length<=1073741824)(s:∀x∈l,FnOk Tryz.prog f [lM x] (fun rs=>rs=[H6 (m x)])) :
  FnOk Tryz.prog 114 [H4 l,.one (.v (.func (.func f) #[] #[]))] (fun rs=>∃i:Int,rs=[E8 i]/\decide (0<=i)=l.any m):=by
 refine FnOk.intro Tryz.func114 (by decide) Z Z Z Z ?_;refine k2 ?_;refine A7 (A6 (A9 Z Z) Z (B0 ?_));refine k1 (k2 (k2 ?_));refine A7 (A6 (A8 Z Z) Z (A6 (F0 Z (.pure _ _ _ _)) Z (A6 (A8 Z Z) Z (B0 ?_))));refine k1 (k3 ?_);refine E4 (X:=Nat) (fun i=>([(0,E3 Commit 3 H3 l),(1,J0 (.func (.func f) #[] #[])),(7,C7 l.length),(8,C7 i)],[])) (fun i=>i<=l.length/\(l.take i).any m=false) (fun i=>l.length-i) 0 ⟨Nat.zero_le _,rfl⟩ (Sees.of ⟨B4 rfl,B4 rfl,B4 rfl,B4 rfl,trivial⟩ trivial) ?_;rintro i ⟨t,h⟩;dsimp only at t h ⊢;refine k2 ?_;refine A7 (A6 (F3 Z Z) Z (B0 ?_));refine k1 (k2 ?_);refine B9 rfl (fun d=>?_) (fun d=>?_);rotate_left
 ·have g:i=l.length:=by have g:=A1 d;(try dsimp only at g);omega
  rw[g,XF]at h;refine k6 (k2 ?_);refine A7 (A6 (A9 Z Z) Z (B0 ?_));refine k1 (I9 ?_);exact C2 (rs:=[E8 (-1)]) (J5 rfl rfl rfl) ⟨-1,rfl,by rw[h];rfl⟩
 have b:i<l.length:=by have g:=A0 d;(try dsimp only at g);omega
 obtain⟨x,k⟩:∃x,x=l[i]:=⟨_,rfl⟩
 have q:l[i]?=some x:=by rw[k];simp[b]
 have j:=s x (by rw[k];exact WY b);refine k5 (k1 (k2 (k3 (k2 ?_))));refine A7 (A6 (A8 Z Z) Z (A6 (A9 Z Z) Z (B0 ?_)));refine k1 (k2 ?_);refine A7 (A6 (A8 Z Z) Z (A6 (A8 Z Z) Z (A6 (A8 Z Z) Z (A6 (B8 Z (.pure _ _ _ _) Z (by omega) q) Z (A6 (G7 Z Z) Z (A6 (GH (j) Z Z Z) Z (B0 ?_)))))));refine k1 ?_;refine B9 rfl (fun d=>?_) (fun d=>?_)
 ·refine k2 ?_;refine A7 (A6 (A8 Z Z) Z (A6 (A9 Z Z) Z (B0 ?_)));refine k1 (I9 (W5 (N4 (N4 (W5 (N4 ?_))))));refine C2 (rs:=[E8 i]) (J5 rfl rfl rfl) ⟨i,rfl,?_⟩;rw[List.any_eq_true.2 ⟨x,by rw[k];exact WY b,d⟩];exact A2 (by omega)
 ·refine k5 (k4 (k1 ?_));refine A7 (A6 (D5 Z Z (by omega)) Z (A6 (A8 Z Z) Z (B0 ?_)));refine k1 ?_;refine⟨i+1,⟨b,?_⟩,by omega,(Sees.of ⟨B4 rfl,B4 rfl,B4 rfl,B4 rfl,trivial⟩ trivial)⟩;rw[List.take_add_one,q,Option.toList_some,List.any_append,h,Bool.false_or,List.any_cons,List.any_nil,Bool.or_false];exact d
theorem bH(f:FuncId)(a:Commit->Bool)(l:List Commit)(g:l.length<=1073741824)(b:∀x∈l,FnOk Tryz.prog f [lM x] (fun rs=>rs=[H6 (a x)])) :
  FnOk Tryz.prog 71 [H4 l,.one (.v (.func (.func f) #[] #[]))] (fun rs=>rs=[H6 (l.any a)]):=by
 refine FnOk.intro Tryz.func71 (by decide) Z Z Z Z ?_;refine k2 ?_;refine A7 (A6 (A9 Z Z) Z (B0 ?_));refine k1 (k2 ?_);refine A7 (A6 (A8 Z Z) Z (A6 (A8 Z Z) Z (D1 (rD f a l g b) Z Z Z ?_)));rintro _ ⟨i,rfl,d⟩;refine A6 (U7 Z Z) Z (A6 (A9 Z Z) Z (B0 ?_));refine k1 (I9 ?_);exact C2 (J5 rfl rfl rfl) (by rw[<-d])
structure FewG (g:Graph):Prop where
 len:g.length<=1000
 pars:∀c∈g,c.Parents.length<=1048576
theorem IE(l:List Int)(n:Int)(j:l.length<=1073741824):FnOk Tryz.prog 163 [O6 l,E8 n] (fun rs=>∃i:Int,rs=[E8 i]/\decide (0<=i)=decide (n∈l)):=by
 refine FnOk.intro Tryz.func163 (by decide) Z Z Z Z ?_;refine k2 ?_;refine A7 (A6 (A9 Z Z) Z (B0 ?_));refine k1 (k2 (k2 ?_));refine A7 (A6 (A8 Z Z) Z (A6 (F0 Z (.pure _ _ _ _)) Z (A6 (A8 Z Z) Z (B0 ?_))));refine k1 (k3 ?_);refine E4 (X:=Nat) (fun i=>([(0,E3 Int 1 G1 l),(1,C7 n),(7,C7 l.length),(8,C7 i)],[])) (fun i=>i<=l.length/\n∉l.take i) (fun i=>l.length-i) 0 ⟨Nat.zero_le _,by simp⟩ (Sees.of ⟨B4 rfl,B4 rfl,B4 rfl,B4 rfl,trivial⟩ trivial) ?_;rintro i ⟨f,d⟩;dsimp only at f d ⊢;refine k2 ?_;refine A7 (A6 (F3 Z Z) Z (B0 ?_));refine k1 (k2 ?_);refine B9 rfl (fun c=>?_) (fun c=>?_);rotate_left
 ·have a:i=l.length:=by have a:=A1 c;(try dsimp only at a);omega
  rw[a,XF]at d;refine k6 (k2 ?_);refine A7 (A6 (A9 Z Z) Z (B0 ?_));refine k1 (I9 ?_);exact C2 (rs:=[E8 (-1)]) (J5 rfl rfl rfl) ⟨-1,rfl,by rw[A3 d];rfl⟩
 have b:i<l.length:=by have a:=A0 c;(try dsimp only at a);omega
 have g:l[i]?=some l[i]:=by simp[b]
 refine k5 (k1 (k2 (k3 (k2 ?_))));refine A7 (A6 (A8 Z Z) Z (A6 (A9 Z Z) Z (B0 ?_)));refine k1 (k2 ?_);refine A7 (A6 (A8 Z Z) Z (A6 (A8 Z Z) Z (A6 (A8 Z Z) Z (A6 (B8 Z (.pure _ _ _ _) Z (by omega) g) Z (A6 (C0 Z Z) Z (A6 (K4 Z Z) Z (B0 ?_)))))));refine k1 ?_;refine B9 rfl (fun c=>?_) (fun c=>?_)
 ·have a:n=l[i]:=A0 c;refine k2 ?_;refine A7 (A6 (A8 Z Z) Z (A6 (A9 Z Z) Z (B0 ?_)));refine k1 (I9 (W5 (N4 (N4 (W5 (N4 ?_))))));refine C2 (rs:=[E8 i]) (J5 rfl rfl rfl) ⟨i,rfl,?_⟩;rw[A2 (show n∈l from a ▸ WY b)];exact A2 (by omega)
 ·have a:¬n=l[i]:=A1 c;refine k5 (k4 (k1 ?_));refine A7 (A6 (D5 Z Z (by omega)) Z (A6 (A8 Z Z) Z (B0 ?_)));refine k1 ?_;refine⟨i+1,⟨b,?_⟩,by omega,(Sees.of ⟨B4 rfl,B4 rfl,B4 rfl,B4 rfl,trivial⟩ trivial)⟩;rw[List.take_add_one,WT b,Option.toList_some,WZ,List.mem_singleton];rintro (h | h)
  ·exact d h
  ·exact a h
theorem xL(l:List Int)(n:Int)(b:l.length<=1073741824):FnOk Tryz.prog 113 [O6 l,E8 n] (fun rs=>rs=[H6 (decide (n∈l))]):=by
 refine FnOk.intro Tryz.func113 (by decide) Z Z Z Z ?_;refine k2 ?_;refine A7 (A6 (A9 Z Z) Z (B0 ?_));refine k1 (k2 ?_);refine A7 (A6 (A8 Z Z) Z (A6 (A8 Z Z) Z (D1 (IE l n b) Z Z Z ?_)));rintro _ ⟨i,rfl,a⟩;refine A6 (U7 Z Z) Z (A6 (A9 Z Z) Z (B0 ?_));refine k1 (I9 ?_);exact C2 (J5 rfl rfl rfl) (by rw[<-a])
theorem xM(c:Commit)(d:c.Parents.length<=1073741824):FnOk Tryz.prog 112 [lM c] (fun a=>a=[H6 (decide (c.Parents.length>32))]):=by
 refine FnOk.intro Tryz.func112 (by decide) Z Z Z Z ?_;refine k2 ?_;refine A7 (D6 (j1 1 Z Z Z) Z (A6 (A9 Z Z) Z (B0 ?_)));refine k1 (k2 ?_);refine A7 (A6 (B1 Z) Z (A6 (B2 Z Z Z) Z (A6 (F0 Z (.pure _ _ _ _)) Z (A6 (P5 Z Z) Z (A6 (A9 Z Z) Z (B0 ?_))))));refine k1 (I9 ?_);exact C2 (J5 rfl rfl rfl) (congrArg (fun b=>[H6 b]) (decide_eq_decide.2 ⟨fun h=>by omega,fun h=>by omega⟩))
theorem zY(g:Graph)(f:FewG g)(b:g.length<=1073741824):FnOk Tryz.prog 68 [H4 g] (fun rs=>rs=[H6 (o3 g)]):=by
 refine FnOk.intro Tryz.func68 (by decide) Z Z Z Z ?_;refine k2 ?_;refine A7 (A6 (A9 Z Z) Z (B0 ?_));refine k1 (k2 ?_);refine A7 (A6 (A8 Z Z) Z (A6 (F0 Z (.pure _ _ _ _)) Z (A6 (kL Z Z) Z (A6 (A8 Z Z) Z (B6 Z Z Z Z (fun a=>by rw[a];exact A8 Z Z) ?_)))));refine B6 Z Z Z Z (fun a=>by have i:=a;(try simp at i);rw[a];exact I4 (bH 112 (fun c=>decide (c.Parents.length>32)) g b (fun c d=>xM c (by have:=f.pars c d;omega))) Z Z) ?_;refine B6 Z Z Z Z (fun a=>by rw[a];exact N2 Z) ?_;refine A6 (C6 Z (fun h=>by first | rfl | (rw[h];rfl)) (fun h=>by first | rfl | (rw[h];rfl))) Z ?_;refine A6 (A9 Z Z) Z (B0 ?_);refine k1 (I9 ?_);refine C2 (J5 Z Z Z) ?_;unfold o3;rw[vR,show decide ((g.length:Int)<=300)=decide (g.length<=300) from decide_eq_decide.2 (by omega)]
theorem DJ(c:Commit):FnOk Tryz.prog 72 [lM c] (fun rs=>rs=[H6 (decide (c.Date<0\/c.Date>2147483647))]):=by
 refine FnOk.intro Tryz.func72 (by decide) Z Z Z Z ?_;refine k2 ?_;refine A7 (D6 (j1 1 Z Z Z) Z (A6 (A9 Z Z) Z (B0 ?_)));refine k1 (k2 ?_);refine A7 (A6 (B1 Z) Z (A6 (B2 Z Z Z) Z (A6 (F3 Z Z) Z (A6 (A8 Z Z) Z (B6 Z Z Z Z (fun a=>by rw[a];exact B1 Z) ?_)))));refine B6 Z Z Z Z (fun a=>by rw[a];exact B2 Z Z Z) ?_;refine B6 Z Z Z Z (fun a=>by rw[a];exact P5 Z Z) ?_;refine A6 (C6 Z (fun h=>by first | rfl | (rw[h];rfl)) (fun h=>by first | rfl | (rw[h];rfl))) Z ?_;refine A6 (A9 Z Z) Z (B0 ?_);refine k1 (I9 ?_);refine C2 (J5 Z Z Z) ?_;rw[or_pick]
theorem mY(g:Graph)(c:Int):FnOk Tryz.prog 32 [H4 g,E8 c] (fun rs=>rs=[H6 (decide (T6 g c))]):=by
 refine FnOk.intro Tryz.func32 (by decide) Z Z Z Z ?_;refine k2 ?_;refine A7 (A6 (A9 Z Z) Z (B0 ?_));refine k1 (k2 ?_);refine A7 (A6 (A8 Z Z) Z (A6 (U7 Z Z) Z (A6 (A8 Z Z) Z (B6 Z Z Z Z (fun a=>by rw[a];exact A8 Z Z) ?_))));refine B6 Z Z Z Z (fun a=>by rw[a];exact A8 Z Z) ?_;refine B6 Z Z Z Z (fun a=>by rw[a];exact F0 Z (.pure _ _ _ _)) ?_;refine B6 Z Z Z Z (fun a=>by rw[a];exact F3 Z Z) ?_;refine A6 (C6 Z (fun h=>by first | rfl | (rw[h];rfl)) (fun h=>by first | rfl | (rw[h];rfl))) Z ?_;refine A6 (A9 Z Z) Z (B0 ?_);refine k1 (I9 ?_);refine C2 (J5 Z Z Z) ?_;rw[and_pick];rfl
theorem zZ(g:Graph)(E:FewG g)(d:g.length<=1073741824):FnOk Tryz.prog 69 [H4 g] (fun rs=>rs=[H6 (related g)]):=by
 refine FnOk.intro Tryz.func69 (by decide) Z Z Z Z ?_;refine k2 ?_;refine A7 (A6 (A9 Z Z) Z (B0 ?_));refine k1 (k2 (k2 ?_));refine A7 (A6 (A8 Z Z) Z (A6 (F0 Z (.pure _ _ _ _)) Z (A6 (A8 Z Z) Z (B0 ?_))));refine k1 (k3 ?_);refine E4 (X:=Nat) (fun i=>([(0,E3 Commit 3 H3 g),(7,E3 Commit 3 H3 g),(8,C7 g.length),(9,C7 i)],[])) (fun i=>i<=g.length/\((g.take i).all fun c=>fW g.length [] c.Parents)=true) (fun i=>g.length-i) 0 ⟨Nat.zero_le _,rfl⟩ (Sees.of ⟨B4 rfl,B4 rfl,B4 rfl,B4 rfl,trivial⟩ trivial) ?_;rintro i ⟨F,ha⟩;dsimp only at F ha ⊢;refine k2 ?_;refine A7 (A6 (F3 Z Z) Z (B0 ?_));refine k1 (k2 ?_);refine B9 rfl (fun m=>?_) (fun m=>?_);rotate_left
 ·have j:i=g.length:=by have j:=A1 m;(try dsimp only at j);omega
  rw[j,XF]at ha;refine k6 (k2 ?_);refine A7 (A6 (A9 Z Z) Z (B0 ?_));refine k1 (I9 ?_);exact C2 (rs:=[H6 true]) (J5 rfl rfl rfl) (by unfold related;rw[ha])
 have w:i<g.length:=by have j:=A0 m;(try dsimp only at j);omega
 obtain⟨c,A⟩:∃c,c=g[i]:=⟨_,rfl⟩
 have D:g[i]?=some c:=by rw[A];simp[w]
 have I:=E.pars c (by rw[A];exact WY w);have z:fW g.length [] c.Parents=false->[H6 false]=[H6 (related g)]:=fun h=>by
  have:related g=false:=by
   unfold related;rw[List.all_eq_false];exact⟨c,by rw[A];exact WY w,by rw[h];decide⟩
  rw[this]
 refine k5 (k1 (k2 (k3 (k2 ?_))));refine A7 (A6 (B8 Z (.pure _ _ _ _) Z (by omega) D) Z (A6 (G7 Z Z) Z (D6 (I1 4 Z) Z (F7 (C1 TySz.out Z Z Z Z Z Z) (B0 ?_)))));refine k1 (k2 ?_);refine A7 (A6 (B1 Z) Z (A6 (B2 Z Z Z) Z (A6 (F0 Z (.pure _ _ _ _)) Z (A6 (A8 Z Z) Z (B0 ?_)))));refine k1 (k3 ?_);refine E4 (X:=Nat) (fun k=>([(0,E3 Commit 3 H3 g),(4,.s (.one (.ref 4 0))),(7,E3 Commit 3 H3 g),(8,C7 g.length),(9,C7 i),(14,E3 Int 1 G1 c.Parents),(15,C7 c.Parents.length),(16,C7 k)],[(4,.box (lM c).s1.cells)])) (fun k=>k<=c.Parents.length/\fW g.length [] c.Parents=fW g.length (c.Parents.take k) (c.Parents.drop k)) (fun k=>c.Parents.length-k) 0 ⟨Nat.zero_le _,rfl⟩ (Sees.of ⟨B4 rfl,B4 rfl,B4 rfl,B4 rfl,B4 rfl,B4 rfl,B4 rfl,B4 rfl,trivial⟩ ⟨rfl,trivial⟩) ?_;rintro k ⟨G,v⟩;dsimp only at G v ⊢;refine k2 ?_;refine A7 (A6 (F3 Z Z) Z (B0 ?_));refine k1 (k2 ?_);refine B9 rfl (fun m=>?_) (fun m=>?_);rotate_left
 ·have j:k=c.Parents.length:=by have j:=A1 m;(try dsimp only at j);omega
  rw[j,List.drop_length]at v;refine k6 (k7 (k7 (k8 Z (k4 (k1 ?_)))));refine A7 (A6 (D5 Z Z (by omega)) Z (A6 (A8 Z Z) Z (B0 ?_)));refine k1 ?_;refine⟨i+1,⟨w,?_⟩,by omega,(Sees.of ⟨B4 rfl,B4 rfl,B4 rfl,B4 rfl,trivial⟩ trivial)⟩;rw[List.take_add_one,D,Option.toList_some,YS,ha,Bool.true_and,List.all_cons,List.all_nil,Bool.and_true,v];rfl
 have q:k<c.Parents.length:=by have j:=A0 m;(try dsimp only at j);omega
 have y:c.Parents[k]?=some c.Parents[k]:=by simp[q]
 rw[XA q]at v;obtain⟨p,H⟩:∃p,p=c.Parents[k]:=⟨_,rfl⟩
 rw[<-H]at y v;have C:c.Parents.take (k+1)=c.Parents.take k++[p]:=by rw[List.take_add_one,y,Option.toList_some]
 rw[fW,<-C]at v;refine k5 (k1 (k2 (k3 (k2 ?_))));refine A7 (A6 (A8 Z Z) Z (A6 (B8 Z (.pure _ _ _ _) Z (by omega) y) Z (A6 (C0 Z Z) Z (A6 (A9 Z Z) Z (A6 (A9 Z Z) Z (B0 ?_))))));refine k1 (k2 ?_);refine A7 (A6 (A8 Z Z) Z (A6 (F3 Z Z) Z (A6 (A8 Z Z) Z (B6 Z Z Z Z (fun d=>by rw[d];exact A8 Z Z) ?_))));refine B6 Z Z Z Z (fun d=>by rw[d];exact A8 Z Z) ?_;refine B6 Z Z Z Z (fun d=>by rw[d];exact F0 Z (.pure _ _ _ _)) ?_;refine B6 Z Z Z Z (fun d=>by rw[d];exact U7 Z Z) ?_;refine A6 (C6 Z (fun h=>by first | rfl | (rw[h];rfl)) (fun h=>by first | rfl | (rw[h];rfl))) Z ?_;refine A6 (A8 Z Z) Z (B6 Z Z Z Z (fun d=>by rw[d];exact B1 Z) ?_);refine B6 Z Z Z Z (fun d=>by rw[d];exact B2 Z Z Z) ?_;refine B6 Z Z Z Z (fun d=>by rw[d];exact A8 Z Z) ?_;refine B6 Z Z Z Z (fun d=>by have B:=d;(try simp at B);rw[d];exact uD Z (.pure _ _ _ _) Z (by omega) (by omega)) ?_;refine B6 Z Z Z Z (fun d=>by rw[d];exact A8 Z Z) ?_;refine B6 Z Z Z Z (fun d=>by have B:=d;(try simp at B);rw[d];exact I4 (xL (c.Parents.take ((k:Nat):Int).toNat) p (by rw[XG];omega)) Z Z) ?_;refine A6 (C6 Z (fun h=>by first | rfl | (rw[h];rfl)) (fun h=>by first | rfl | (rw[h];rfl))) Z ?_;refine B0 ?_;refine k1 ?_;rw[WV,TW,TW];refine B9 rfl (fun m=>?_) (fun m=>?_)
 ·rw[XR,XR,decide_eq_true_eq,decide_eq_true_eq,decide_eq_true_eq]at m;have j:decide (0<=p/\p<(g.length:Int)/\p∉c.Parents.take k)=false:=by
   rw[decide_eq_false_iff_not];rintro⟨J,a2,a3⟩;rcases m with (h | h) | h
   ·omega
   ·omega
   ·exact a3 h
  rw[j,Bool.false_and]at v;refine k2 ?_;refine A7 (A6 (A9 Z Z) Z (B0 ?_));refine k1 (I9 (W5 (N4 (N4 (W5 (W5 (N4 (N4 (W5 (N4 ?_))))))))));exact C2 (rs:=[H6 false]) (J5 rfl rfl rfl) (z v)
 ·rw[YO,YO,decide_eq_false_iff_not,decide_eq_false_iff_not,decide_eq_false_iff_not]at m;have j:decide (0<=p/\p<(g.length:Int)/\p∉c.Parents.take k)=true:=A2 ⟨by omega,by omega,m.2⟩;rw[j,Bool.true_and]at v;refine k5 (k4 (k1 ?_));refine A7 (A6 (D5 Z Z (by omega)) Z (A6 (A8 Z Z) Z (B0 ?_)));refine k1 ?_;exact⟨k+1,⟨q,v⟩,by omega,(Sees.of ⟨B4 rfl,B4 rfl,B4 rfl,B4 rfl,B4 rfl,B4 rfl,B4 rfl,B4 rfl,trivial⟩ ⟨rfl,trivial⟩)⟩
theorem xN(ps l:List Int)(k:Nat)(h:k<ps.length):U3 (ps.take (k+1)) l=bump (U3 (ps.take k) l) ps[k]:=by
 unfold U3;rw[List.take_add_one,WT h,Option.toList_some,YP];rfl
theorem jM{l:List Int}{p:Int}(h:0<=p/\p<l.length):l[p.toNat]?=some (I8 l p.toNat):=by
 unfold I8;rw[WT (by omega)];rfl
theorem DK{ps:List Int}{l:List Int}{p:Nat}(b:∀p∈ps,0<=p/\p<l.length)(a:ps.Nodup):I8 l p<=I8 (U3 ps l) p/\I8 (U3 ps l) p<=I8 l p+1:=by
 rw[kC (n:=0) b a];split<;>omega
theorem AA{g:Graph}(d:related g=true){i p:Nat}(a:i<=g.length)(b:p<g.length):0<=I8 (O2 g i) p/\I8 (O2 g i) p<=i:=by
 rw[fY d p b i a];have:=List.countP_le_length (p:=fun c=>decide ((p:Int)∈E1 g c)) (l:=List.range i);rw[YG]at this;omega
theorem DL(g:Graph)(hf:FewG g)(W:related g=true):FnOk Tryz.prog 70 [H4 g] (fun rs=>∃ch w,rs=[O6 w]/\KInv g w.length 0 ch w):=by
 have hg:=hf.len;refine FnOk.intro Tryz.func70 (by decide) Z Z Z Z ?_;refine k2 ?_;refine A7 (A6 (A9 Z Z) Z (B0 ?_));refine k1 (k2 ?_);refine A7 (A6 (A8 Z Z) Z (A6 (F0 Z (.pure _ _ _ _)) Z (D6 (aZ 753 Int G1 0 Z Z (by omega) (by omega) (fun _=>by first | exact⟨⟨rfl,rfl⟩,trivial⟩ | exact⟨I5 _ _ _,trivial⟩ | exact⟨I5 _ _ _,⟨rfl,rfl⟩,I5 _ _ _,trivial⟩ | exact⟨⟨rfl,rfl⟩,⟨rfl,rfl⟩,trivial⟩) (by first | rfl | (simp[I2,M9,Ob.free,SV.free,S1.free,TC.free]<;>rfl))) Z ?_)));refine A6 (A9 Z Z) Z (B0 ?_);refine k1 (k2 (k2 ?_));refine A7 (A6 (A8 Z Z) Z (A6 (F0 Z (.pure _ _ _ _)) Z (A6 (A8 Z Z) Z (B0 ?_))));refine k1 (k3 ?_);rw[WV];refine E4 (X:=Nat) (fun i=>([(0,E3 Commit 3 H3 g),(3,.s (.one (.mut 753))),(17,E3 Commit 3 H3 g),(18,C7 g.length),(19,C7 i)],[(753,.arr Int 1 G1 (O2 g i))])) (fun i=>i<=g.length) (fun i=>g.length-i) 0 (Nat.zero_le _) (Sees.of ⟨B4 rfl,B4 rfl,B4 rfl,B4 rfl,B4 rfl,trivial⟩ ⟨rfl,trivial⟩) ?_;intro i V;dsimp only at V ⊢;refine k2 ?_;refine A7 (A6 (F3 Z Z) Z (B0 ?_));refine k1 (k2 ?_);refine B9 rfl (fun j=>?_) (fun j=>?_)
 ·have G:i<g.length:=by have d:=A0 j;(try dsimp only at d);omega
  obtain⟨c,P⟩:∃c,c=g[i]:=⟨_,rfl⟩
  have hv:g[i]?=some c:=by rw[P];simp[G]
  have H:E1 g i=c.Parents:=by rw[X8 G,P]
  have hpr:=K2 W i;have ai:=hf.pars c (by rw[P];exact WY G);have hs:=iW G;rw[H]at hpr hs;have C:=z7 g i;have U:=fun p (T:p<g.length)=>AA W (i:=i) (p:=p) (by omega) T;obtain⟨z,hz⟩:∃z,z=O2 g i:=⟨_,rfl⟩
  rw[<-hz]at hs C U ⊢;refine k5 (k1 (k2 (k3 (k2 ?_))));refine A7 (A6 (B8 Z (.pure _ _ _ _) Z (by omega) hv) Z (A6 (G7 Z Z) Z (D6 (I1 5 Z) Z (F7 (C1 TySz.out Z Z Z Z Z Z) (B0 ?_)))));refine k1 (k2 ?_);refine A7 (A6 (B1 Z) Z (A6 (B2 Z Z Z) Z (A6 (F0 Z (.pure _ _ _ _)) Z (A6 (A8 Z Z) Z (B0 ?_)))));refine k1 (k3 ?_);refine E4 (X:=Nat) (fun k=>([(0,E3 Commit 3 H3 g),(3,.s (.one (.mut 753))),(17,E3 Commit 3 H3 g),(18,C7 g.length),(19,C7 i),(24,E3 Int 1 G1 c.Parents),(25,C7 c.Parents.length),(26,C7 k)],[(753,.arr Int 1 G1 (U3 (c.Parents.take k) z))])) (fun k=>k<=c.Parents.length) (fun k=>c.Parents.length-k) 0 (Nat.zero_le _) (Sees.of ⟨B4 rfl,B4 rfl,B4 rfl,B4 rfl,B4 rfl,B4 rfl,B4 rfl,B4 rfl,trivial⟩ ⟨rfl,trivial⟩) ?_;intro k hk;dsimp only at hk ⊢;have L:=fX (c.Parents.take k) z;refine k2 ?_;refine A7 (A6 (F3 Z Z) Z (B0 ?_));refine k1 (k2 ?_);refine B9 rfl (fun j=>?_) (fun j=>?_);rotate_left
  ·have d:k=c.Parents.length:=by have d:=A1 j;(try dsimp only at d);omega
   rw[d,XF,<-hs];refine k6 (k7 (k7 (k8 Z (k4 (k1 ?_)))));refine A7 (A6 (D5 Z Z (by omega)) Z (A6 (A8 Z Z) Z (B0 ?_)));refine k1 ?_;exact⟨i+1,G,by omega,(Sees.of ⟨B4 rfl,B4 rfl,B4 rfl,B4 rfl,B4 rfl,trivial⟩ ⟨rfl,trivial⟩)⟩
  have y:k<c.Parents.length:=by have d:=A0 j;(try dsimp only at d);omega
  have J:c.Parents[k]?=some c.Parents[k]:=by simp[y]
  have R:=hpr.1 _ (WY y);have ab:=xN c.Parents z k y;obtain⟨p,T⟩:∃p,p=c.Parents[k]:=⟨_,rfl⟩
  rw[<-T]at J R ab;have hb:=DK (ps:=c.Parents.take k) (l:=z) (p:=p.toNat) (fun q hq=>by rw[C];exact hpr.1 q (List.mem_of_mem_take hq)) (hpr.2.sublist (List.take_sublist _ _));have hh:=U p.toNat (by omega)
  have I:=jM (l:=U3 (c.Parents.take k) z) (p:=p) (by rw[L,C];exact R);refine k5 (k1 (k2 (k3 (k2 ?_))));refine A7 (A6 (B8 Z (.pure _ _ _ _) Z (by omega) J) Z (A6 (C0 Z Z) Z (A6 (A9 Z Z) Z (B0 ?_))));refine k1 ?_;refine A7 (A6 (A8 Z Z) Z (A6 (A8 Z Z) Z (A6 (E2 Z Z Z (by omega) (by (rw[L];omega))) Z ?_)));refine A6 (L1 Z Z I Z) Z (A6 (D5 Z Z (by omega)) Z (A6 (E2 Z Z Z (by omega) (by (rw[L];omega))) Z ?_));refine F7 (J8 TySz.out Z Z (by (rw[L];omega)) Z Z) ?_;refine B0 ?_;refine k4 (k1 ?_);refine A7 (A6 (D5 Z Z (by omega)) Z (A6 (A8 Z Z) Z (B0 ?_)));refine k1 ?_;refine⟨k+1,by omega,by omega,?_⟩;rw[ab];exact (Sees.of ⟨B4 rfl,B4 rfl,B4 rfl,B4 rfl,B4 rfl,B4 rfl,B4 rfl,B4 rfl,trivial⟩ ⟨rfl,trivial⟩)
 have Q:i=g.length:=by have d:=A1 j;(try dsimp only at d);omega
 rw[Q];have ac:=KInv.start W;obtain⟨z,hz⟩:∃z,z=O2 g g.length:=⟨_,rfl⟩
 have af:z.length=g.length:=by rw[hz];exact z7 g _
 rw[<-hz]at ac ⊢;refine k6 (k2 ?_);refine A7 (D6 (y6 8 _ G1 Z) Z (B0 ?_));refine k1 (k2 (k2 ?_));refine A7 (A6 (A8 Z Z) Z (A6 (cP Z Z) Z (A6 (A8 Z Z) Z (B0 ?_))));refine k1 (k3 ?_);refine E4 (X:=Nat) (fun i=>([(0,E3 Commit 3 H3 g),(3,.s (.one (.mut 753))),(8,.s (.one (.buf 8 Int 1 G1 (S6 z i)))),(38,.s (.one (.mut 753))),(39,C7 g.length),(40,C7 i)],[(8,.spare (S6 z i).length 1 3),(753,.arr Int 1 G1 z)])) (fun i=>i<=g.length) (fun i=>g.length-i) 0 (Nat.zero_le _) (by rw[<-af];exact (Sees.of ⟨B4 rfl,B4 rfl,B4 rfl,B4 rfl,B4 rfl,B4 rfl,trivial⟩ ⟨rfl,rfl,trivial⟩)) ?_;intro i V;dsimp only at V ⊢;have an:=BS z i;have M:=yR z i;refine k2 ?_;refine A7 (A6 (F3 Z Z) Z (B0 ?_));refine k1 (k2 ?_);refine B9 rfl (fun j=>?_) (fun j=>?_)
 ·have G:i<g.length:=by have d:=A0 j;(try dsimp only at d);omega
  have I:=jM (l:=z) (p:=(i:Int)) (by omega);rw[WV]at I;refine k5 (k1 (k2 (k3 (k2 ?_))));refine A7 (A6 (A8 Z Z) Z (A6 (E2 Z Z Z (by omega) (by (rw[af];omega))) Z ?_));refine A6 (L1 Z Z I Z) Z (A6 (A9 Z Z) Z (A6 (A9 Z Z) Z (B0 ?_)));refine k1 (k2 ?_);refine A7 (A6 (A8 Z Z) Z (A6 (K4 Z Z) Z (B0 ?_)));refine k1 ?_;refine B9 rfl (fun j=>?_) (fun j=>?_)
  ·have d:I8 z i=0:=A0 j;rw[A4 d]at M;skip;refine A7 (A6 (A8 Z Z) Z (A6 (A8 Z Z) Z (A6 (D9 (c:=G1) (ys:=[(i:Int)]) (D8 Z Z Z Z H5) Z Z Z) Z (D6 (N6 Z Z Z (.pure _ _ _ _) (by (simp only[WW,XD];omega)) Z) Z (A6 (A9 Z Z) Z (B0 ?_))))));refine k4 (k1 ?_);refine A7 (A6 (D5 Z Z (by omega)) Z (A6 (A8 Z Z) Z (B0 ?_)));refine k1 ?_;refine⟨i+1,by omega,by omega,?_⟩;rw[M];exact (Sees.of ⟨B4 rfl,B4 rfl,B4 rfl,B4 rfl,B4 rfl,B4 rfl,trivial⟩ ⟨rfl,rfl,trivial⟩)
  ·have d:¬I8 z i=0:=A1 j;rw[A5 d]at M;refine k5 (k4 (k1 ?_));refine A7 (A6 (D5 Z Z (by omega)) Z (A6 (A8 Z Z) Z (B0 ?_)));refine k1 ?_;refine⟨i+1,by omega,by omega,?_⟩;rw[M];exact (Sees.of ⟨B4 rfl,B4 rfl,B4 rfl,B4 rfl,B4 rfl,B4 rfl,trivial⟩ ⟨rfl,rfl,trivial⟩)
 have Q:i=g.length:=by have d:=A1 j;(try dsimp only at d);omega
 rw[Q];refine k6 (k2 (k2 ?_));refine A7 (A6 (A9 Z Z) Z (B0 ?_));refine k1 (k3 ?_);refine E4 (X:=Nat×List Int×List Int) (fun x=>([(0,E3 Commit 3 H3 g),(3,.s (.one (.mut 753))),(8,.s (.one (.buf 8 Int 1 G1 x.2.2))),(11,C7 x.1)],[(8,.spare x.2.2.length 1 3),(753,.arr Int 1 G1 x.2.1)])) (fun x=>x.1<=x.2.2.length/\KInv g x.1 0 x.2.1 x.2.2) (fun x=>g.length-x.1) (0,z,S6 z g.length) ⟨Nat.zero_le _,ac⟩ (Sees.of ⟨B4 rfl,B4 rfl,B4 rfl,B4 rfl,trivial⟩ ⟨rfl,rfl,trivial⟩) ?_;rintro⟨k,ch,w⟩ ⟨hk,S⟩;dsimp only at hk S ⊢;have am:=S.le;refine k2 (k2 ?_);refine A7 (A6 (A8 Z Z) Z (A6 (A8 Z Z) Z (A6 (F0 Z (.buf _ _ _ _ _)) Z (A6 (F3 Z Z) Z (B0 ?_)))));refine k1 ?_;refine B9 rfl (fun j=>?_) (fun j=>?_);rotate_left
 ·have d:k=w.length:=by have d:=A1 j;(try dsimp only at d);omega
  rw[d]at S;refine k6 (k2 ?_);refine A7 (A6 (A8 Z Z) Z (A6 (A9 Z Z) Z (B0 ?_)));refine k1 (I9 ?_);exact C2 (rs:=[O6 w]) (J5 rfl rfl rfl) ⟨ch,w,rfl,S⟩
 have y:k<w.length:=by have d:=A0 j;(try dsimp only at d);omega
 have al:=S.rng _ (WY y);obtain⟨K,ag⟩:∃K:Nat,w[k]=(K:Int):=⟨w[k].toNat,by omega⟩
 have ae:w[k]?=some (K:Int):=by rw[WT y,ag]
 have C:K<g.length:=by omega
 obtain⟨c,P⟩:∃c,c=g[K]:=⟨_,rfl⟩
 have aj:g[((K:Nat):Int).toNat]?=some c:=by rw[P];simp[C]
 have H:E1 g K=c.Parents:=by rw[X8 C,P]
 have ai:=hf.pars c (by rw[P];exact WY C);refine k5 (k1 (k2 (k3 (k2 ?_))));refine A7 (A6 (A8 Z Z) Z (A6 (A8 Z Z) Z (A6 (A8 Z Z) Z (A6 (B8 Z (.buf _ _ _ _ _) Z (by omega) ae) Z (A6 (C0 Z Z) Z (A6 (B8 Z (.pure _ _ _ _) Z (by omega) aj) Z (A6 (C9 Z) Z (A6 (C0 Z Z) Z (A6 (F0 Z (.pure _ _ _ _)) Z (A6 (A8 Z Z) Z (B0 ?_)))))))))));refine k1 (k3 ?_);refine E4 (X:=Nat×List Int×List Int) (fun x=>([(0,E3 Commit 3 H3 g),(3,.s (.one (.mut 753))),(8,.s (.one (.buf 8 Int 1 G1 x.2.2))),(11,C7 k),(65,E3 Int 1 G1 c.Parents),(66,C7 c.Parents.length),(67,C7 x.1)],[(8,.spare x.2.2.length 1 3),(753,.arr Int 1 G1 x.2.1)])) (fun x=>x.1<=c.Parents.length/\k<x.2.2.length/\x.2.2[k]?=some (K:Int)/\KInv g k x.1 x.2.1 x.2.2) (fun x=>c.Parents.length-x.1) (0,ch,w) ⟨Nat.zero_le _,y,ae,S⟩ (Sees.of ⟨B4 rfl,B4 rfl,B4 rfl,B4 rfl,B4 rfl,B4 rfl,B4 rfl,trivial⟩ ⟨rfl,rfl,trivial⟩) ?_;rintro⟨i,v,E⟩ ⟨V,hkl,B,F⟩;dsimp only at V hkl B F ⊢;have ak:=F.le;have D:=F.len;have O:E[k]=(K:Int):=by rw[WT hkl]at B;exact Option.some.inj B
 refine k2 ?_;refine A7 (A6 (F3 Z Z) Z (B0 ?_));refine k1 (k2 ?_);refine B9 rfl (fun j=>?_) (fun j=>?_);rotate_left
 ·have d:i=c.Parents.length:=by have d:=A1 j;(try dsimp only at d);omega
  rw[d,<-H]at F;have hN:=F.next hkl O;refine k6 (k7 (k7 (k8 Z (k4 (k1 ?_)))));refine A7 (A6 (A8 Z Z) Z (A6 (D5 Z Z (by omega)) Z (A6 (A9 Z Z) Z (B0 ?_))));refine k1 ?_;exact⟨(k+1,v,E),⟨by dsimp only;omega,hN⟩,by dsimp only;omega,(Sees.of ⟨B4 rfl,B4 rfl,B4 rfl,B4 rfl,trivial⟩ ⟨rfl,rfl,trivial⟩)⟩
 have A:i<c.Parents.length:=by have d:=A0 j;(try dsimp only at d);omega
 have J:c.Parents[i]?=some c.Parents[i]:=by simp[A]
 have R:=(K2 W K).1 c.Parents[i] (by rw[H];exact WY A);obtain⟨p,T⟩:∃p:Nat,c.Parents[i]=(p:Int):=⟨c.Parents[i].toNat,by omega⟩
 rw[T]at J;obtain⟨s1,s2,s3,s4⟩:=F.step W hkl O (i:=i) (p:=p) (by rw[H];exact A) (by simp only[H];exact T);have I:=jM (l:=v) (p:=(p:Int)) (by omega);have ad:(T9 v p)[((p:Nat):Int).toNat]?=some (I8 v p-1):=by
  unfold T9;rw[WV,List.getElem?_set_self (by omega)]
 have ah:(T9 v p).length=g.length:=by unfold T9;rw[XX,D]
 have Y:v.set ((p:Nat):Int).toNat (I8 v ((p:Nat):Int).toNat-1)=T9 v p:=rfl;refine k5 (k1 (k2 (k3 (k2 ?_))));refine A7 (A6 (B8 Z (.pure _ _ _ _) Z (by omega) J) Z (A6 (C0 Z Z) Z (A6 (A9 Z Z) Z (B0 ?_))));refine k1 (k2 ?_);refine A7 (A6 (A8 Z Z) Z (A6 (A8 Z Z) Z (A6 (E2 Z Z Z (by omega) (by (rw[D];omega))) Z ?_)));refine A6 (L1 Z Z I Z) Z (A6 (O5 Z Z (by (rw[WV];omega))) Z ?_);refine A6 (E2 Z Z Z (by omega) (by (rw[D];omega))) Z ?_;refine F7 (J8 TySz.out Z Z (by (rw[D];omega)) Z Z) ?_;refine B0 ?_;rw[Y];refine k1 (k2 ?_);refine A7 (A6 (A8 Z Z) Z (A6 (A8 Z Z) Z (A6 (E2 Z Z Z (by omega) (by (rw[ah];omega))) Z ?_)));refine A6 (L1 Z Z ad Z) Z (A6 (K4 Z Z) Z (B0 ?_));refine k1 ?_;refine B9 rfl (fun j=>?_) (fun j=>?_)
 ·have d:I8 v p-1=0:=A0 j;rw[A4 d]at s4;skip;refine A7 (A6 (A8 Z Z) Z (A6 (A8 Z Z) Z (A6 (D9 (c:=G1) (ys:=[(p:Int)]) (D8 Z Z Z Z H5) Z Z Z) Z (D6 (N6 Z Z Z (.pure _ _ _ _) (by (simp only[WW,XD];omega)) Z) Z (A6 (A9 Z Z) Z (B0 ?_))))));refine k4 (k1 ?_);refine A7 (A6 (D5 Z Z (by omega)) Z (A6 (A8 Z Z) Z (B0 ?_)));refine k1 ?_;exact⟨(i+1,T9 v p,E++[(p:Int)]),⟨A,by dsimp only;rw[WX];omega,by dsimp only;rw[XM hkl];exact B,s4⟩,by dsimp only;omega,(Sees.of ⟨B4 rfl,B4 rfl,B4 rfl,B4 rfl,B4 rfl,B4 rfl,B4 rfl,trivial⟩ ⟨rfl,rfl,trivial⟩)⟩
 ·have d:¬I8 v p-1=0:=A1 j;rw[A5 d]at s4;refine k5 (k4 (k1 ?_));refine A7 (A6 (D5 Z Z (by omega)) Z (A6 (A8 Z Z) Z (B0 ?_)));refine k1 ?_;exact⟨(i+1,T9 v p,E),⟨A,hkl,B,s4⟩,by dsimp only;omega,(Sees.of ⟨B4 rfl,B4 rfl,B4 rfl,B4 rfl,B4 rfl,B4 rfl,B4 rfl,trivial⟩ ⟨rfl,rfl,trivial⟩)⟩
abbrev DM(s:Str):Cell:=.v (.string ⟨s.toArray⟩)
def s8(l:List File):List (Str×Cell):=l.foldl (fun m f=>V3 m f.Path (DM f.Blob)) []
theorem GK(a b:Str)(c:Cell):∀d:List (Str×Cell),L6 (V3 d a c) b=if a=b then some c else L6 d b
 | []=>by
  unfold V3 L6;split
  ·rfl
  ·rfl
 | (k,x)::r=>by
  unfold V3;split
  ·rename_i e;subst e;unfold L6;split
   ·rfl
   ·rfl
  ·rename_i e;rw[L6,GK a b c r];by_cases g:k=b
   ·subst g;rw[A4 rfl,A5 (fun h=>e h.symm)];simp[L6]
   ·rw[A5 g];by_cases f:a=b
    ·rw[A4 f,A4 f]
    ·rw[A5 f,A5 f,L6,A5 g]
theorem xO(l:List File)(i:Nat)(h:i<l.length):s8 (l.take (i+1))=V3 (s8 (l.take i)) l[i].Path (DM l[i].Blob):=by
 unfold s8;rw[List.take_add_one,WT h,Option.toList_some,YP];rfl
theorem AB(p:Str):∀(l:List File) (m:List (Str×Cell)),L6 (l.foldl (fun m f=>V3 m f.Path (DM f.Blob)) m) p=((F5 l.reverse p).map DM).or (L6 m p)
 | [],m=>by simp[F5]
 | f::r,m=>by
  rw[YA,AB p r,GK,List.reverse_cons];have b:∀(l:List File),F5 (l++[f]) p=(F5 l p).or (if f.Path=p then some f.Blob else none):=by
   intro l;induction l with
   | nil=>simp[F5]
   | cons g l c =>
    rw[XQ,F5,F5];split
    ·rfl
    ·exact c
  rw[b];cases F5 r.reverse p with
  | some x=>rfl
  | none=>by_cases h:f.Path=p<;>simp[h]
theorem xP(l:List File)(p:Str):(L6 (s8 l) p).isSome=decide (p∈l.map (·.Path)):=by
 unfold s8;rw[AB];have:L6 ([]:List (Str×Cell)) p=none:=rfl;rw[this,Option.or_none,Option.isSome_map];cases h:F5 l.reverse p with
 | none =>
  have:=ES.1 h;rw[List.map_reverse,List.mem_reverse]at this;simp only[Option.isSome_none,this,decide_false]
 | some x =>
  obtain⟨f,c,b,_⟩:=rY h;have:p∈l.map (·.Path):=by rw[<-b];exact List.mem_map_of_mem (List.mem_reverse.1 c)
  simp only[Option.isSome_some,this,decide_true]
theorem DN(l:List File)(w:l.length<=1073741824):AL.Met Tryz.prog 167 [.one (.p (.list File 2 Z9 l))] [] [] [] (fun rs ob'=>rs=[.one (.mut 800)]/\ob'=[(800,.map Str aJ (s8 l))]):=by
 refine AL.Met.intro Tryz.func167 (by decide) Z Z Z ?_;refine k2 ?_;refine A7 (A6 (A9 Z Z) Z (B0 ?_));refine k1 (k2 ?_);refine A7 (D6 (mV 800 Str aJ Z) Z (A6 (A9 Z Z) Z (B0 ?_)));refine k1 (k2 (k2 ?_));refine A7 (A6 (A8 Z Z) Z (A6 (F0 Z (.pure _ _ _ _)) Z (A6 (A8 Z Z) Z (B0 ?_))));refine k1 (k3 ?_);refine E4 (X:=Nat) (fun i=>([(3,.s (.one (.mut 800))),(7,E3 File 2 Z9 l),(8,C7 l.length),(9,C7 i)],[(800,.map Str aJ (s8 (l.take i)))])) (fun i=>i<=l.length) (fun i=>l.length-i) 0 (Nat.zero_le _) (Sees.of ⟨B4 rfl,B4 rfl,B4 rfl,B4 rfl,trivial⟩ ⟨rfl,trivial⟩) ?_;intro i q;dsimp only at q ⊢;refine k2 ?_;refine A7 (A6 (F3 Z Z) Z (B0 ?_));refine k1 (k2 ?_);refine B9 rfl (fun g=>?_) (fun g=>?_)
 ·have b:i<l.length:=by have c:=A0 g;(try dsimp only at c);omega
  have k:=xO l i b;obtain⟨f,j⟩:∃f,f=l[i]:=⟨_,rfl⟩
  have v:l[i]?=some f:=by rw[j];simp[b]
  rw[<-j]at k;refine k5 (k1 (k2 (k3 (k2 ?_))));refine A7 (A6 (B8 Z (.pure _ _ _ _) Z (by omega) v) Z (A6 (G7 Z Z) Z (D6 (I1 5 Z) Z (F7 (C1 TySz.out Z Z Z Z Z Z) (B0 ?_)))));refine k1 ?_;refine A7 (A6 (A8 Z Z) Z (A6 (B1 Z) Z (A6 (B2 Z Z Z) Z (A6 (B1 Z) Z (A6 (B2 Z Z Z) Z (F7 (MB (f.Path) Z Z Z Z Z fI fJ) (B0 ?_)))))));refine k4 (k1 ?_);refine A7 (A6 (D5 Z Z (by omega)) Z (A6 (A8 Z Z) Z (B0 ?_)));refine k1 ?_;refine⟨i+1,by omega,by omega,?_⟩;rw[k];exact (Sees.of ⟨B4 rfl,B4 rfl,B4 rfl,B4 rfl,trivial⟩ ⟨rfl,trivial⟩)
 ·have d:i=l.length:=by have c:=A1 g;(try dsimp only at c);omega
  rw[d,XF];refine k6 (k2 ?_);refine A7 (A6 (A8 Z Z) Z (A6 (A9 Z Z) Z (B0 ?_)));refine k1 (I9 ?_);exact I6 (X2 rfl rfl) (by repeat (first | exact C3 | refine C4 rfl ?_ | refine F8 _ ?_)) (fun _ _ h=>h) ⟨rfl,rfl⟩
theorem AC{gf:Fr}{ob:Obs}(p:Str)(k:List (Str×Cell))(P:p.length<=1073741824)(K:C5 ob 800=some (.map Str aJ k))(_hc:∀O∈k,∃v,O.2=.v v)(ps:List Str)(F:∀q,(L6 k q).isSome=decide (q∈ps)) :
  AL.Met Tryz.prog 168 [.one (.p (.v (.string ⟨p.toArray⟩))),.one (.mut 800)] gf ob [] (fun rs ob'=>rs=[.one (.p (.v (.bool (Q1 p ps))))]/\ob'=ob):=by
 have x:∀c:UInt8,((c.toNat:Int)=47)↔c=47:=fun c=>by
  constructor
  ·intro h;exact UInt8.toNat_inj.1 (by simpa using (show c.toNat=47 by omega))
  ·rintro rfl;rfl
 refine AL.Met.introH Tryz.func168 (by decide) rfl rfl rfl (fun H=>?_);refine k2 ?_;refine A7 (A6 (A9 Z Z) Z (B0 ?_));refine k1 (k2 (k2 ?_));refine A7 (A6 (A8 Z Z) Z (A6 (P6 Z) Z (A6 (A8 Z Z) Z (B0 ?_))));refine k1 (k3 ?_);refine E4 (X:=Nat) (fun i=>([(0,P2 p),(1,.s (.one (.mut 800))),(9,C7 p.length),(10,C7 i)]++gf,ob)) (fun i=>i<=p.length/\∀j,j<i->(decide (p.take j∈ps)&&decide (p[j]?=some 47))=false) (fun i=>p.length-i) 0 ⟨Nat.zero_le _,fun j h=>by omega⟩ (VW ⟨B4 rfl,B4 rfl,B4 rfl,B4 rfl,trivial⟩ H (by repeat (first | exact C3 | refine C4 rfl ?_)) (fun _ _ h=>h)) ?_;rintro i ⟨L,D⟩;dsimp only at L D ⊢;refine k2 ?_;refine A7 (A6 (F3 Z Z) Z (B0 ?_));refine k1 (k2 ?_);refine B9 rfl (fun d=>?_) (fun d=>?_);rotate_left
 ·have C:i=p.length:=by have B:=A1 d;(try dsimp only at B);omega
  have E:Q1 p ps=false:=by
   unfold Q1;rw[List.any_eq_false];intro j I;rw[D j (by rw[C];exact XE.1 I)];simp
  refine k6 (k2 ?_);refine A7 (A6 (A9 Z Z) Z (B0 ?_));refine k1 (I9 ?_);exact I6 (X2 rfl rfl) (by repeat (first | exact C3 | refine C4 rfl ?_ | refine F8 _ ?_)) (fun _ _ h=>h) ⟨by rw[E],rfl⟩
 have f:i<p.length:=by have B:=A0 d;(try dsimp only at B);omega
 have M:p[((i:Nat):Int).toNat]?=some p[i]:=by simp[f]
 have y:p[i]?=some p[i]:=by simp[f]
 have z:=F (p.take ((i:Nat):Int).toNat);obtain⟨r,J⟩:∃r,r=L6 k (p.take ((i:Nat):Int).toNat):=⟨_,rfl⟩
 rw[<-J,WV]at z;refine k5 (k1 (k2 (k3 (k2 ?_))));refine A7 (A6 (A8 Z Z) Z (A6 (A9 Z Z) Z (B0 ?_)));refine k1 (k2 ?_);refine A7 (A6 (A8 Z Z) Z (A6 (A8 Z Z) Z (A6 (A8 Z Z) Z (A6 (wY Z Z (by omega) (by omega)) Z (A6 (fH ((p.take ((i:Nat):Int).toNat)) (r:=r) Z K Z fI fJ (J.symm)) Z (A6 (A8 Z Z) Z (A6 (B7 Z Z) Z (A6 (B7 Z Z) Z (A6 (A9 Z Z) Z (A6 (A9 Z Z) Z (B0 ?_)))))))))));refine k1 (k2 ?_);refine A7 (A6 (A8 Z Z) Z (A6 (A8 Z Z) Z (B6 Z Z Z Z (fun w=>by rw[w];exact A8 Z Z) ?_)));refine B6 Z Z Z Z (fun w=>by rw[w];exact A8 Z Z) ?_;refine B6 Z Z Z Z (fun w=>by have z:=w;(try simp at z);rw[w];exact S2 Z Z (by omega) M) ?_;refine B6 Z Z Z Z (fun w=>by rw[w];exact K4 Z Z) ?_;refine A6 (C6 Z (fun h=>by first | rfl | (rw[h];rfl)) (fun h=>by first | rfl | (rw[h];rfl))) Z ?_;refine B0 ?_;refine k1 ?_;refine B9 rfl (fun d=>?_) (fun d=>?_)
 ·rw[vR,WU,decide_eq_true_eq]at d;have A:Q1 p ps=true:=by
   unfold Q1;rw[List.any_eq_true];exact⟨i,XE.2 f,by rw[<-z,d.1,y,(x _).1 d.2];rfl⟩
  refine k2 ?_;refine A7 (A6 (A9 Z Z) Z (B0 ?_));refine k1 (I9 (W5 (N4 (N4 (W5 (N4 ?_))))));exact I6 (X2 rfl rfl) (by repeat (first | exact C3 | refine C4 rfl ?_ | refine F8 _ ?_)) (fun _ _ h=>h) ⟨by rw[A],rfl⟩
 ·rw[vR]at d;refine k5 (k4 (k1 ?_));refine A7 (A6 (D5 Z Z (by omega)) Z (A6 (A8 Z Z) Z (B0 ?_)));refine k1 ?_;refine⟨i+1,⟨f,fun j I=>?_⟩,by omega,VW ⟨B4 rfl,B4 rfl,B4 rfl,B4 rfl,trivial⟩ H (by repeat (first | exact C3 | refine C4 rfl ?_)) (fun _ _ h=>h)⟩;by_cases e:j=i
  ·subst e;rw[<-z,y];cases G:r.isSome
   ·rfl
   ·rw[G,Bool.true_and,decide_eq_false_iff_not]at d;have:¬p[j]=47:=fun h=>d ((x _).2 h);simp[this]
  ·exact D j (by omega)
theorem IF(l:List File):∀b∈s8 l,∃v,b.2=.v v:=by
 have e:∀(l:List File) (m:List (Str×Cell)),(∀b∈m,∃v,b.2=.v v)->∀b∈l.foldl (fun m f=>V3 m f.Path (DM f.Blob)) m,∃v,b.2=.v v:=by
  intro l;induction l with
  | nil=>exact fun m h=>h
  | cons f r g =>
   intro m h;refine g _ ?_;clear g;induction m with
   | nil=>intro b a;change b∈V3 [] f.Path (DM f.Blob) at a;rw[V3,List.mem_singleton]at a;rw[a];exact⟨_,rfl⟩
   | cons x m d =>
    obtain⟨k,c⟩:=x;intro b a;change b∈V3 ((k,c)::m) f.Path (DM f.Blob) at a;rw[V3]at a;split at a
    ·rcases XB.1 a with rfl | a
     ·exact⟨_,rfl⟩
     ·exact h b (by simp[a])
    ·rcases XB.1 a with rfl | a
     ·exact h _ (by simp)
     ·exact d (fun b i=>h b (by simp[i])) b a
 exact e l [] fun _ h=>by cases h
theorem oE:∀(l:List File) (i:Nat),i+1<l.length->(ascend (l.take (i+2))=(ascend (l.take (i+1))&&pK (l.getD i ⟨[],[]⟩).Path (l.getD (i+1) ⟨[],[]⟩).Path))
 | [],i,h=>by simp at h
 | [_],i,h=>by simp at h
 | f::g::r,0,_=>by simp[ascend]
 | f::g::r,i+1,h=>by
  have b:ascend (g::r.take (i+1))=(ascend (g::r.take i)&&pK ((g::r).getD i ⟨[],[]⟩).Path ((g::r).getD (i+1) ⟨[],[]⟩).Path):=oE (g::r) i (by simpa using h);show ascend (f::g::r.take (i+1))=(ascend (f::g::r.take i)&&pK ((g::r).getD i ⟨[],[]⟩).Path ((g::r).getD (i+1) ⟨[],[]⟩).Path)
  rw[ascend,ascend,b,Bool.and_assoc]
theorem xQ(l:List File):ascend (l.take 1)=true:=by
 cases l with
 | nil=>rfl
 | cons f r=>rfl
theorem AD(l:List File)(S:l.length<=1073741824)(T:∀f∈l,f.Path.length<=1073741824):FnOk Tryz.prog 118 [x1 l] (fun rs=>rs=[H6 (Y8 l)]):=by
 rw[<-ER];have H:=IF l;have G:=xP l;refine FnOk.intro Tryz.func118 (by decide) Z Z Z Z ?_;refine k2 ?_;refine A7 (A6 (A9 Z Z) Z (B0 ?_));refine k1 (k2 ?_);refine A7 (A6 (A8 Z Z) Z (qY (DN l S) Z Z Z Z ?_));rintro _ _ ⟨rfl,rfl⟩;refine⟨rfl,?_⟩;refine A6 (A9 Z Z) Z (B0 ?_);refine k1 (k2 (k2 ?_));refine A7 (A6 (A8 Z Z) Z (A6 (F0 Z (.pure _ _ _ _)) Z (A6 (A8 Z Z) Z (B0 ?_))));refine k1 (k3 ?_);refine E4 (X:=Nat) (fun i=>([(0,E3 File 2 Z9 l),(3,.s (.one (.mut 800))),(8,E3 File 2 Z9 l),(9,C7 l.length),(10,C7 i)],[(800,.map Str aJ (s8 l))])) (fun i=>i<=l.length/\ascend (l.take i)=true/\((l.take i).all fun f=>!Q1 f.Path (l.map (·.Path)))=true) (fun i=>l.length-i) 0 ⟨Nat.zero_le _,rfl,rfl⟩ (Sees.of ⟨B4 rfl,B4 rfl,B4 rfl,B4 rfl,B4 rfl,trivial⟩ ⟨rfl,trivial⟩) ?_;rintro i ⟨R,ha,E⟩;dsimp only at R ha E ⊢;refine k2 ?_;refine A7 (A6 (F3 Z Z) Z (B0 ?_));refine k1 (k2 ?_);refine B9 rfl (fun q=>?_) (fun q=>?_);rotate_left
 ·have K:i=l.length:=by have v:=A1 q;(try dsimp only at v);omega
  rw[K,XF]at ha E;refine k6 (k2 ?_);refine A7 (A6 (A9 Z Z) Z (B0 ?_));refine k1 (I9 ?_);exact C2 (rs:=[H6 true]) (J5 rfl rfl rfl) (by unfold u6;rw[ha,E];rfl)
 have j:i<l.length:=by have v:=A0 q;(try dsimp only at v);omega
 obtain⟨f,I⟩:∃f,f=l[i]:=⟨_,rfl⟩
 have L:l[i]?=some f:=by rw[I];simp[j]
 have J:=T f (by rw[I];exact WY j);obtain⟨g,b⟩:∃g,g=l.getD (i-1) ⟨[],[]⟩:=⟨_,rfl⟩
 have D:0<i->l[((i:Int)-1).toNat]?=some g:=fun w=>by
  rw[b,show ((i:Int)-1).toNat=i-1 by omega,XC,WT (by omega)];rfl
 have c:ascend (l.take (i+1))=if 0<i then pK g.Path f.Path else true:=by
  cases i with
  | zero=>rw[A5 (by omega)];exact xQ l
  | succ i =>
   rw[A4 (by omega),oE l i j,ha,Bool.true_and,b];rw[show l.getD (i+1) ⟨[],[]⟩=f by rw[XC,L];rfl];rfl
 have z:((0 < i/\pK g.Path f.Path=false)\/Q1 f.Path (l.map (·.Path))=true)->[H6 false]=[H6 (u6 l)]:=by
  rintro (⟨w,h⟩ | h)
  ·have : ascend l=false:=by
    cases A:ascend l
    ·rfl
    ·exfalso;rw[A4 w,h]at c;have M:∀(l:List File) (k:Nat),ascend l=true->ascend (l.take k)=true:=by
      intro l;induction l with
      | nil=>intro k h;simpa using h
      | cons x r U =>
       intro k h;cases k with
       | zero=>rfl
       | succ k =>
        have F:=U k (oL h);rw[List.take_succ_cons];cases O:r.take k with
        | nil=>rfl
        | cons y t =>
         unfold ascend;rw[WU];refine⟨bK h y (List.mem_of_mem_take (by rw[O];simp)),by rw[<-O];exact F⟩
     rw[M l (i+1) A]at c;cases c
   unfold u6;rw[this];rfl
  ·have:(l.all fun f=>!Q1 f.Path (l.map (·.Path)))=false:=by
    rw[List.all_eq_false];exact⟨f,by rw[I];exact WY j,by rw[h];simp⟩
   unfold u6;rw[this,Bool.and_false]
 have B:(0<i->pK g.Path f.Path=true)->Q1 f.Path (l.map (·.Path))=false->ascend (l.take (i+1))=true/\((l.take (i+1)).all fun f=>!Q1 f.Path (l.map (·.Path)))=true:=by
  intro v A;refine⟨?_,?_⟩
  ·rw[c];split
   ·rename_i w;exact v w
   ·rfl
  ·rw[List.take_add_one,L,Option.toList_some,YS,E,Bool.true_and,List.all_cons,List.all_nil,A];rfl
 refine k5 (k1 (k2 (k3 (k2 ?_))));refine A7 (A6 (A8 Z Z) Z (A6 (B8 Z (.pure _ _ _ _) Z (by omega) L) Z (A6 (G7 Z Z) Z (D6 (I1 5 Z) Z (A6 (A9 Z Z) Z (F7 (C1 TySz.out Z Z Z Z Z Z) (B0 ?_)))))));refine k1 (k2 ?_);cases d:(if decide ((0:Int)<(i:Int))=true then !Op.bytesLess g.Path f.Path else false)
 ·have v:0<i->pK g.Path f.Path=true:=fun w=>by
   rw[A4 (A2 (by omega)),Bool.not_eq_false']at d;exact d
  refine rA 17 (by kernel_rfl) (by kernel_rfl) Z (B3 (A8 Z Z) Z Z (B3 (P5 Z Z) Z Z (B3 (A8 Z Z) Z Z (E7 Z Z (fun b=>by rw[b];exact A8 Z Z) Z Z ?_))));refine E7 Z Z (fun b=>by rw[b];exact A8 Z Z) Z Z ?_;refine E7 Z Z (fun b=>by have C:=b;(try simp at C);rw[b];exact O5 Z Z (by omega)) Z Z ?_;refine E7 Z Z (fun b=>by have C:=b;(try simp at C);rw[b];exact B8 Z (.pure _ _ _ _) Z (by omega) (D (by omega))) Z Z ?_;refine E7 Z Z (fun b=>by rw[b];exact C9 Z) Z Z ?_;refine E7 Z Z (fun b=>by rw[b];exact C0 Z Z) Z Z ?_;refine E7 Z Z (fun b=>by rw[b];exact B1 Z) Z Z ?_;refine E7 Z Z (fun b=>by rw[b];exact B2 Z Z Z) Z Z ?_;refine E7 Z Z (fun b=>by rw[b];exact GC Z Z) Z Z ?_;refine B3 (C6 Z (fun h=>by first | rfl | (rw[h];rfl)) (fun h=>by first | rfl | (rw[h];rfl))) Z Z ?_;refine B3 (A8 Z Z) Z Z (L7 Z Z d Z (B3 (B1 Z) Z Z (L7 Z Z d Z (B3 (B2 Z Z Z) Z Z (L7 Z Z d Z (B3 (A8 Z Z) Z Z (M5 ?_)))))));refine IA Z Z d (LK (AC f.Path (s8 l) J Z H (l.map (·.Path)) G) Z Z Z ?_);rintro _ _ ⟨rfl,rfl⟩;refine⟨_,rfl,?_⟩;refine B3 (C6 Z (fun h=>by first | rfl | (rw[h];rfl)) (fun h=>by first | rfl | (rw[h];rfl))) Z Z ?_;refine M5 ?_;refine k1 ?_;rw[d];refine B9 rfl (fun q=>?_) (fun q=>?_)
  ·have A:Q1 f.Path (l.map (·.Path))=true:=by simpa using q
   refine k2 ?_;refine A7 (A6 (A9 Z Z) Z (B0 ?_));refine k1 (I9 (W5 (N4 (N4 (W5 (N4 ?_))))));exact C2 (rs:=[H6 false]) (J5 rfl rfl rfl) (z (.inr A))
  ·have A:Q1 f.Path (l.map (·.Path))=false:=by simpa using q
   obtain⟨F,Q⟩:=B v A;refine k5 (k4 (k1 ?_));refine A7 (A6 (D5 Z Z (by omega)) Z (A6 (A8 Z Z) Z (B0 ?_)));refine k1 ?_;exact⟨i+1,⟨j,F,Q⟩,by omega,(Sees.of ⟨B4 rfl,B4 rfl,B4 rfl,B4 rfl,B4 rfl,trivial⟩ ⟨rfl,trivial⟩)⟩
 ·have w:0<i:=by
   apply Classical.byContradiction;intro w;rw[A5 (by rw[decide_eq_true_eq];omega)]at d;cases d
  have v:pK g.Path f.Path=false:=by
   rw[A4 (A2 (by omega)),Bool.not_eq_true']at d;exact d
  refine D7 (by kernel_rfl) (by kernel_rfl) (B3 (A8 Z Z) Z Z (B3 (P5 Z Z) Z Z (B3 (A8 Z Z) Z Z (E7 Z Z (fun b=>by rw[b];exact A8 Z Z) Z Z ?_))));refine E7 Z Z (fun b=>by rw[b];exact A8 Z Z) Z Z ?_;refine E7 Z Z (fun b=>by have C:=b;(try simp at C);rw[b];exact O5 Z Z (by omega)) Z Z ?_;refine E7 Z Z (fun b=>by have C:=b;(try simp at C);rw[b];exact B8 Z (.pure _ _ _ _) Z (by omega) (D (by omega))) Z Z ?_;refine E7 Z Z (fun b=>by rw[b];exact C9 Z) Z Z ?_;refine E7 Z Z (fun b=>by rw[b];exact C0 Z Z) Z Z ?_;refine E7 Z Z (fun b=>by rw[b];exact B1 Z) Z Z ?_;refine E7 Z Z (fun b=>by rw[b];exact B2 Z Z Z) Z Z ?_;refine E7 Z Z (fun b=>by rw[b];exact GC Z Z) Z Z ?_;refine B3 (C6 Z (fun h=>by first | rfl | (rw[h];rfl)) (fun h=>by first | rfl | (rw[h];rfl))) Z Z ?_;refine B3 (A8 Z Z) Z Z (M8 Z Z (by rw[d];decide) Z Z ?_);refine M8 Z Z (by rw[d];decide) Z Z ?_;refine M8 Z Z (by rw[d];decide) Z Z ?_;refine M8 Z Z (by rw[d];decide) Z Z ?_;refine B3 (m7 Z (d) Z) Z Z (M5 ?_);refine k1 ?_;refine B9 rfl (fun q=>?_) (fun q=>?_)
  ·refine k2 ?_;refine A7 (A6 (A9 Z Z) Z (B0 ?_));refine k1 (I9 (W5 (N4 (N4 (W5 (N4 ?_))))));exact C2 (rs:=[H6 false]) (J5 rfl rfl rfl) (z (.inl ⟨w,v⟩))
  ·cases q
theorem uX(s:Str)(c:UInt8):FnOk Tryz.prog 169 [I3 s,I3 [c]] (fun a=>a=[E8 (s.count c)]) :=
 WC (xs:=[.string ⟨s.toArray⟩,.string ⟨#[c]⟩]) ⟨_,rfl,rfl,rfl⟩ rfl fun w=>by simpa[Lib.countByte] using Tryz.strings_Count_one ⟨s.toArray⟩ c w
theorem IG(s:Str)(c:UInt8):FnOk Tryz.prog 226 [I3 s,I3 [c]] (fun a=>a=[E8 (Lib.indexByte s c)]) :=
 WC (xs:=[.string ⟨s.toArray⟩,.string ⟨#[c]⟩]) ⟨_,rfl,rfl,rfl⟩ rfl fun w=>by simpa using Tryz.strings_Index_one ⟨s.toArray⟩ c w
abbrev gM(l:List Str):Ob:=.grow 9 Str 1 R8 l
theorem xR(s:Str)(M:s.length<=536870912):AL.Met Tryz.prog 219 [(I3 s).s1,(I3 [10]).s1,(E8 1).s1,(E8 (-1)).s1] [] [] [] (fun J ob'=>J=[.one (.mut 9)]/\ob'=[(9,gM (Q5 s))]):=by
 have E:=X6 s [];have K:s.count 10<=s.length:=List.count_le_length;have v:([10]:Str).length=1:=rfl;obtain⟨P,k⟩:∃P,P=Q5 s:=⟨_,rfl⟩
 have F:P.length=s.count 10+1:=by rw[k];exact E
 refine AL.Met.intro Tryz.func219 (by decide) Z Z Z ?_;refine k2 ?_;refine A7 (A6 (A9 Z Z) Z (B0 ?_));refine k1 (k2 (k2 ?_));refine A7 (A6 (A8 Z Z) Z (A6 (K4 Z Z) Z (B0 ?_)));refine k1 ?_;refine B9 rfl (fun c=>?_) (fun c=>?_)
 ·exact absurd (A0 c) (by omega)
 refine k5 (k1 (k2 (k2 ?_)));refine A7 (A6 (A8 Z Z) Z (A6 (aV Z Z) Z (B0 ?_)));refine k1 ?_;refine B9 rfl (fun c=>?_) (fun c=>?_)
 ·exact absurd (A0 c) (by simp)
 refine k5 (k1 (k2 (k2 ?_)));refine A7 (A6 (A8 Z Z) Z (A6 (F3 Z Z) Z (B0 ?_)));refine k1 ?_;refine B9 rfl (fun c=>?_) (fun c=>?_);rotate_left
 ·exact absurd (A1 c) (by omega)
 skip;refine A7 (A6 (A8 Z Z) Z (A6 (A8 Z Z) Z (D1 (uX s 10) Z Z Z ?_)));rintro _ rfl;refine A6 (D5 Z Z (by omega)) Z (A6 (A9 Z Z) Z (B0 ?_));refine k1 (k2 ?_);refine A7 (A6 (A8 Z Z) Z (A6 (A8 Z Z) Z (A6 (P6 Z) Z (A6 (D5 Z Z (by omega)) Z (A6 (zE Z Z) Z (A6 (A9 Z Z) Z (B0 ?_)))))));refine k1 (k2 ?_);rw[show (if (s.length:Int)+1<(s.count 10:Int)+1 then (s.length:Int)+1 else (s.count 10:Int)+1)=(P.length:Int) from by split<;>omega];refine A7 (A6 (A8 Z Z) Z (D6 (OS 9 Str R8 [] Z Z (by omega) (by omega) (fun _=>by first | exact⟨⟨rfl,rfl⟩,trivial⟩ | exact⟨I5 _ _ _,trivial⟩ | exact⟨I5 _ _ _,⟨rfl,rfl⟩,I5 _ _ _,trivial⟩ | exact⟨⟨rfl,rfl⟩,⟨rfl,rfl⟩,trivial⟩) (by first | rfl | (simp[I2,M9,Ob.free,SV.free,S1.free,TC.free]<;>rfl))) Z ?_));refine A6 (A9 Z Z) Z (B0 ?_);refine k1 (k2 ?_);refine A7 (A6 (A8 Z Z) Z (A6 (O5 Z Z (by omega)) Z (A6 (A9 Z Z) Z (B0 ?_))));refine k1 (k2 ?_);refine A7 (A6 (A9 Z Z) Z (B0 ?_));refine k1 (k2 (k3 ?_));refine E4 (X:=Nat×Str) (fun x=>([(0,P2 x.2),(1,P2 [10]),(2,C7 1),(3,C7 ((P.length:Int)-1)),(9,.s (.one (.mut 9))),(10,C7 x.1)],[(9,gM (P.take x.1++List.replicate (P.length-x.1) []))])) (fun x=>x.1+1<=P.length/\P.drop x.1=Q5 x.2/\x.2.length<=s.length) (fun x=>P.length-x.1) (0,s) ⟨by dsimp only;omega,k,Nat.le_refl _⟩ (Sees.of ⟨B4 rfl,B4 rfl,B4 rfl,B4 rfl,B4 rfl,B4 rfl,trivial⟩ ⟨rfl,trivial⟩) ?_;rintro⟨i,r⟩ ⟨G,q,I⟩;dsimp only at G q I ⊢;refine k2 (k2 ?_);refine A7 (A6 (A8 Z Z) Z (A6 (A8 Z Z) Z (A6 (F3 Z Z) Z (B0 ?_))));refine k1 ?_;refine B9 rfl (fun c=>?_) (fun c=>?_)
 ·have H:i+1<P.length:=by have:=A0 c;omega
  have A:(10:UInt8)∈r:=by
   have d:=X6 r [];have f:(P.drop i).length=r.count 10+1:=by rw[q];exact d
   rw[XS]at f;exact List.count_pos_iff.1 (by omega)
  rcases c7 10 r with ⟨d,_⟩ | ⟨a,b,d,f,w⟩
  ·exact absurd A d
  obtain⟨y,D⟩:=ET q d f;have L:r.length=a.length+1+b.length:=by rw[d];simp;omega
  refine k5 (k1 (k3 (k2 ?_)));refine A7 (A6 (A8 Z Z) Z (A6 (A8 Z Z) Z (D1 (IG r 10) Z Z Z ?_)));rintro _ rfl;refine A6 (A9 Z Z) Z (B0 ?_);refine k1 (k2 (k2 ?_));refine A7 (A6 (A8 Z Z) Z (A6 (F3 Z Z) Z (B0 ?_)));refine k1 ?_;rw[w];refine B9 rfl (fun c=>?_) (fun c=>?_)
  ·exact absurd (A0 c) (by omega)
  refine k5 (k1 (k2 ?_));have p:(P.take i++List.replicate (P.length-i) ([]:Str))[((i:Nat):Int).toNat]?=some []:=by
   rw[WV,XJ (by rw[XG];omega),List.getElem?_replicate,A4 (by rw[XG];omega)]
  refine A7 (A6 (A8 Z Z) Z (A6 (A8 Z Z) Z (A6 (A8 Z Z) Z (A6 (A8 Z Z) Z (A6 (A8 Z Z) Z (A6 (D5 Z Z (by omega)) Z (A6 (wY Z Z (by omega) (by omega)) Z (A6 (K9 Z Z Z (by omega) (by (simp;omega))) Z (F7 (cT ((r.take ((a.length:Int)+1).toNat)) TySz.out Z Z p Z Z Z Z (fun _ _ _ h=>m6 h) (by intro j d f;rcases j with _ | _ | _ | _ | _ | _ | _ | j<;>first | rfl | omega)) ?_)))))))));refine B0 ?_;refine k1 (k2 ?_);refine A7 (A6 (A8 Z Z) Z (A6 (A8 Z Z) Z (A6 (A8 Z Z) Z (A6 (P6 Z) Z (A6 (D5 Z Z (by omega)) Z (A6 (OI Z Z (by omega) (by omega)) Z (A6 (A9 Z Z) Z (B0 ?_))))))));refine k1 ?_;refine A7 (A6 (A8 Z Z) Z (A6 (D5 Z Z (by omega)) Z (A6 (A9 Z Z) Z (B0 ?_))));refine k4 (k1 ?_);have B:r.take (((a.length:Int)+1).toNat)=a++[10]:=by rw[d,show ((a.length:Int)+1).toNat=a.length+1 by omega,show a++10::b=(a++[10])++b by simp,List.take_left' (by simp)]
  have C:r.drop (((a.length:Int)+(([10]:Str).length:Int)).toNat)=b:=by rw[d,v,show ((a.length:Int)+((1:Nat):Int)).toNat=a.length+1 by omega,show a++10::b=(a++[10])++b by simp,List.drop_left' (by simp)]
  refine⟨(i+1,b),⟨by dsimp only;omega,D,by dsimp only;omega⟩,by dsimp only;omega,?_⟩;rw[B,C];dsimp only;rw[<-vS P [] _ i y];exact Sees.of ⟨B4 rfl,B4 rfl,B4 rfl,B4 rfl,B4 rfl,B4 rfl,trivial⟩ ⟨rfl,trivial⟩
 ·have z:i+1=P.length:=by have:=A1 c;omega
  have d:=X6 r [];have f:(P.drop i).length=r.count 10+1:=by rw[q];exact d
  rw[XS]at f;have w:(10:UInt8)∉r:=List.count_eq_zero.1 (by omega);have y:P[i]?=some r:=by rw[<-List.head?_drop,q];unfold Q5;rw[uB _ _ w];rfl
  refine k6 (k2 ?_);have p:(P.take i++List.replicate (P.length-i) ([]:Str))[((i:Nat):Int).toNat]?=some []:=by
   rw[WV,XJ (by rw[XG];omega),List.getElem?_replicate,A4 (by rw[XG];omega)]
  refine A7 (A6 (A8 Z Z) Z (A6 (A8 Z Z) Z (A6 (A8 Z Z) Z (A6 (K9 Z Z Z (by omega) (by (simp;omega))) Z (F7 (cT (r) TySz.out Z Z p Z Z Z Z (fun _ _ _ h=>m6 h) (by intro j d f;rcases j with _ | _ | _ | _ | _ | _ | _ | j<;>first | rfl | omega)) ?_)))));refine B0 ?_;refine k1 (k2 ?_);have e:(P.take i++List.replicate (P.length-i) ([]:Str)).set (i:Int).toNat r=P:=by rw[WV,vS P [] r i y,z];simp
  rw[e];refine A7 (A6 (A8 Z Z) Z (A6 (A8 Z Z) Z (A6 (D5 Z Z (by omega)) Z (D6 (pQ Z Z Z (by omega) (by omega) Z) Z (A6 (A9 Z Z) Z (B0 ?_))))));refine k1 (I9 ?_);rw[show ((i:Int)+1).toNat=P.length by omega,XF,k];exact I6 (X2 rfl rfl) (by repeat (first | exact C3 | refine C4 rfl ?_ | refine F8 _ ?_)) (ObIn.spec (ob':=[(9,_)]) ⟨rfl,trivial⟩) ⟨rfl,rfl⟩
theorem rE(s:Str)(a:s.length<=536870912):AL.Met Tryz.prog 152 [(I3 s).s1,(I3 [10]).s1] [] [] [] (fun b ob'=>b=[.one (.mut 9)]/\ob'=[(9,gM (Q5 s))]):=by
 refine AL.Met.intro Tryz.func152 (by decide) Z Z Z ?_;refine k2 ?_;refine A7 (A6 (A9 Z Z) Z (B0 ?_));refine k1 (k2 ?_);refine A7 (A6 (A8 Z Z) Z (A6 (A8 Z Z) Z (A6 (A8 Z Z) Z (A6 (P6 Z) Z (qY (xR s a) Z Z Z Z ?_)))));rintro _ _ ⟨rfl,rfl⟩;refine⟨rfl,?_⟩;refine A6 (A9 Z Z) Z (B0 ?_);refine k1 (I9 ?_);exact I6 (X2 rfl rfl) (by repeat (first | exact C3 | refine C4 rfl ?_ | refine F8 _ ?_)) (ObIn.spec (ob':=[(9,_)]) ⟨rfl,trivial⟩) ⟨rfl,rfl⟩
theorem uY(s:Str)(m:s.length<=536870912):FnOk Tryz.prog 120 [I3 s] (fun j=>j=[E8 (Y7 s)]):=by
 have d:=cJ s;have k:s.count 10<=s.length:=List.count_le_length;refine FnOk.intro Tryz.func120 (by decide) Z Z Z Z ?_;refine k2 ?_;refine A7 (A6 (A9 Z Z) Z (B0 ?_));refine k1 (k2 ?_);refine A7 (A6 (A8 Z Z) Z (D1 (uX s 10) Z Z Z ?_));rintro _ rfl;refine A6 (A9 Z Z) Z (B0 ?_);refine Q8 ?_;refine qI [(0,P2 s),(3,C7 (D4 s).length)] [] ?_ ?_
 ·refine k2 ?_;refine A7 (A6 (A8 Z Z) Z (A6 (pN Z Z) Z (A6 (A8 Z Z) Z (B6 Z Z Z Z (fun a=>by rw[a];exact A8 Z Z) ?_))));refine B6 Z Z Z Z (fun a=>by have i:=a;(try simp at i);rw[a];exact I4 (ID s (by omega)) Z Z) ?_;refine B6 Z Z Z Z (fun a=>by rw[a];exact N2 Z) ?_;refine A6 (C6 Z (fun h=>by first | rfl | (rw[h];rfl)) (fun h=>by first | rfl | (rw[h];rfl))) Z ?_;refine B0 ?_;refine k1 ?_;refine B9 rfl (fun b=>?_) (fun b=>?_)
  ·have h:s≠[]/\ended s=false:=by
    by_cases c:s=[]
    ·simp[c]at b
    ·refine⟨c,?_⟩;simpa[c] using b
   rw[A4 h]at d;skip;refine A7 (A6 (A8 Z Z) Z (A6 (D5 Z Z (by omega)) Z (A6 (A9 Z Z) Z (B0 ?_))));refine k1 ?_;rw[d,Int.natCast_add];exact Sees.of ⟨B4 rfl,B4 rfl,trivial⟩ trivial
  ·have h:¬(s≠[]/\ended s=false):=by
    rintro⟨c,f⟩;simp[c,f]at b
   rw[A5 h]at d;refine k5 (k1 ?_);rw[d];exact Sees.of ⟨B4 rfl,B4 rfl,trivial⟩ trivial
 ·refine k2 (k2 ?_);refine A7 (A6 (A8 Z Z) Z (A6 (P6 Z) Z (A6 (P5 Z Z) Z (A6 (A8 Z Z) Z (B6 Z Z Z Z (fun a=>by rw[a];exact A8 Z Z) ?_)))));refine B6 Z Z Z Z (fun a=>by rw[a];exact P5 Z Z) ?_;refine A6 (C6 Z (fun h=>by first | rfl | (rw[h];rfl)) (fun h=>by first | rfl | (rw[h];rfl))) Z ?_;refine B0 ?_;refine k1 ?_;refine B9 rfl (fun b=>?_) (fun b=>?_)
  ·have h:=A0 (or_pick.symm.trans b);refine k2 ?_;refine A7 (A6 (A9 Z Z) Z (B0 ?_));refine k1 (I9 (N4 ?_));exact C2 (J5 rfl rfl rfl) (by rw[Y7,A4 (by omega)])
  ·have h:=A1 (or_pick.symm.trans b);refine k5 (k1 (k2 ?_));refine A7 (A6 (A9 Z Z) Z (B0 ?_));refine k1 (I9 ?_);exact C2 (J5 rfl rfl rfl) (by rw[Y7,A5 (by omega)])
theorem rF(s:Str)(q:s.length<=536870912):AL.Met Tryz.prog 96 [(I3 s).s1] [] [] [] (fun rs ob'=>rs=[.one (.mut 9),(E8 (Q6 s).2).s1]/\ob'=[(9,gM (Q6 s).1)]):=by
 have k:D4 s=if (Q5 s).getLastD []=[] then (Q5 s).dropLast else Q5 s:=BA s []
 have f:(Q5 s).length=s.count 10+1:=X6 s [];have v:s.count 10<=s.length:=List.count_le_length;refine AL.Met.intro Tryz.func96 (by decide) Z Z Z ?_;refine k2 ?_;refine A7 (A6 (A9 Z Z) Z (A6 (A9 Z Z) Z (B0 ?_)));refine k1 (k2 (k2 ?_));refine A7 (A6 (A8 Z Z) Z (D1 (uY s q) Z Z Z ?_));rintro _ rfl;refine A6 (A9 Z Z) Z (B0 ?_);refine k1 (k2 ?_);refine A7 (A6 (A8 Z Z) Z (A6 (N5 Z Z) Z (B0 ?_)));refine k1 ?_;refine B9 rfl (fun c=>?_) (fun c=>?_)
 ·have h:Y7 s≠0:=by simpa using c
  have b:s.length>1048576\/(D4 s).length>4096:=by
   by_cases b:s.length>1048576\/(D4 s).length>4096
   ·exact b
   ·exact absurd (by rw[Y7,A5 b]) h
  refine k2 ?_;refine A7 (A6 (A8 Z Z) Z (D6 (LJ 9 _ R8 Z) Z (A6 (A9 Z Z) Z (B0 ?_))));refine k1 (I9 (N4 ?_));refine I6 (zG rfl rfl rfl) (by repeat (first | exact C3 | refine C4 rfl ?_ | refine F8 _ ?_)) (ObIn.spec (ob':=[(9,_)]) ⟨rfl,trivial⟩) ?_;rw[Q6,A4 b,Y7,A4 b];exact⟨rfl,rfl⟩
 ·have h:Y7 s=0:=by simpa using c
  have b:¬(s.length>1048576\/(D4 s).length>4096):=fun b=>by rw[Y7,A4 b]at h;omega
  have w:(Q5 s)[(Q5 s).length-1]?=some ((Q5 s).getLastD []):=by
   rw[<-List.getLast?_eq_getElem?,List.getLast?_eq_some_getLast (fun e=>by rw[e]at f;simp at f)];rw[List.getLastD_eq_getLast?,List.getLast?_eq_some_getLast (fun e=>by rw[e]at f;simp at f)];rfl
  have j:(((Q5 s).length:Int)-1).toNat=(Q5 s).length-1:=by omega
  refine k5 (k1 (k2 ?_));refine A7 (A6 (A8 Z Z) Z (qY (rE s q) Z Z Z Z ?_));rintro _ _ ⟨rfl,rfl⟩;refine⟨rfl,?_⟩;refine A6 (A9 Z Z) Z (B0 ?_);refine Q8 ?_;refine qI [(5,.s (.one (.mut 9)))] [(9,gM (D4 s))] ?_ ?_
  ·refine k2 ?_;refine A7 (A6 (A8 Z Z) Z (A6 (A8 Z Z) Z (A6 (y7 Z Z) Z (A6 (O5 Z Z (by omega)) Z (A6 (K9 Z Z Z (by omega) (by omega)) Z (A6 (u0 Z Z (by rw[j];exact w) Z) Z ?_))))));refine A6 (aV Z Z) Z (B0 ?_);refine k1 ?_;refine B9 rfl (fun c=>?_) (fun c=>?_)
   ·have i:=A0 c;skip;refine A7 (A6 (A8 Z Z) Z (A6 (A8 Z Z) Z (A6 (y7 Z Z) Z (A6 (O5 Z Z (by omega)) Z (D6 (pQ Z Z Z (by omega) (by omega) Z) Z (A6 (A9 Z Z) Z (B0 ?_)))))));refine k1 ?_;rw[k,A4 i,List.dropLast_eq_take,<-j];exact Sees.of ⟨B4 rfl,trivial⟩ ⟨rfl,trivial⟩
   ·have i:=A1 c;refine k5 (k1 ?_);rw[k,A5 i];exact Sees.of ⟨B4 rfl,trivial⟩ ⟨rfl,trivial⟩
  ·refine k2 ?_;refine A7 (A6 (A8 Z Z) Z (A6 (A9 Z Z) Z (A6 (A9 Z Z) Z (B0 ?_))));refine k1 (I9 ?_);refine I6 (zG rfl rfl rfl) (by repeat (first | exact C3 | refine C4 rfl ?_ | refine F8 _ ?_)) (ObIn.spec (ob':=[(9,_)]) ⟨rfl,trivial⟩) ?_;rw[Q6,A5 b];exact⟨rfl,rfl⟩
theorem gN(s:Str)(b:s.length<=536870912):FnOk Tryz.prog 96 [I3 s] (fun rs=>rs=[aY (Q6 s).1,E8 (Q6 s).2]) :=
 WQ (rF s b) fun rs ob' a=>by
  obtain⟨rfl,rfl⟩:=a;exact⟨9,Str,1,R8,(Q6 s).1,_,[aY (Q6 s).1,E8 (Q6 s).2],rfl,rfl,rfl,rfl⟩
end Go.Proofs.YtbflhoahmmfkmaaGreatDoor
