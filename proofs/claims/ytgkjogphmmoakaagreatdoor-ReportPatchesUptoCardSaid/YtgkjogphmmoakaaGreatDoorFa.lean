/- Walks of the program's functions. -/
import Derived.Test.YtgkjogphmmoakaaGreatDoorTy
import Derived.Test.YtgkjogphmmoakaaGreatDoorFs
import Derived.Test.YtgkjogphmmoakaaGreatDoorSh
import Derived.Lib.AppendIntMem
import Derived.RangeFuncBound
import Derived.RangeFuncOwn
import Derived.OwnWalkIn
import Derived.TacticsInMore
import Derived.LoopNIn
import Derived.LoopIn
set_option linter.all false
namespace Go.Proofs.YtgkjogphmmoakaaGreatDoor
open Go Go.AL
set_option maxRecDepth 100000
theorem KX(p:Int):0<=IntKind.u64.wrap p:=by simp[IntKind.wrap,IntKind.signed,IntKind.bits];omega
theorem UE(b:Str)(hb:b.length<=536870912):FnOk Tryz.prog 105 [F9 b] (fun I=>I=[T0 (E9 b)]):=by
 refine FnOk.intro Tryz.func105 (by decide) Z Z Z Z ?_;refine k2 ?_;refine A7 (A6 (A9 Z Z) Z (B0 ?_));refine k1 (k2 ?_);refine A7 (D2 (r5 3 _ J9 Z) Z (B0 ?_));refine k1 (k2 ?_);refine A7 (A6 (A9 Z Z) Z (B0 ?_));refine k1 (k2 (k2 ?_));refine A7 (A6 (A9 Z Z) Z (B0 ?_));refine k1 (k3 ?_);refine E3 (X:=Nat×Nat×List Str) (fun x=>([(0,P3 b),(3,.s (.one (.buf 3 Str 1 J9 x.2.2))),(4,C7 x.2.1),(5,C7 x.1)],[(3,.spare x.2.2.length 1 9)]))
  (fun x=>x.1<=b.length/\x.2.1<=x.1/\x.2.2.length<=x.1/\(x.1=b.length->x.2.1=x.1)/\x.2.2++H3 ((b.drop x.2.1).take (x.1-x.2.1)) (b.drop x.1)=E9 b) (fun x=>b.length-x.1) (0,0,[]) (by simp[E9]) ?_ ?_
 ·exact Sees.of ⟨⟨_,rfl,.same _⟩,⟨_,rfl,.same _⟩,⟨_,rfl,.same _⟩,⟨_,rfl,.same _⟩,trivial⟩ ⟨rfl,trivial⟩
 ·rintro⟨i,d,B⟩ ⟨E,y,F,C,v⟩;dsimp only at E y F C v ⊢;refine k2 (k2 ?_);refine A7 (A6 (A8 Z Z) Z (A6 (A8 Z Z) Z (A6 (G4 Z) Z (A6 (F2 Z Z) Z (B0 ?_)))));refine k1 ?_;refine B8 rfl (fun A=>?_) (fun A=>?_)
  ·have g:i<b.length:=by simpa using A
   have H:b[i]?=some b[i]:=by simp[g]
   refine k5 (k1 (k2 (k3 (k2 ?_))));refine A7 (A6 (A8 Z Z) Z (A6 (A8 Z Z) Z (A6 (K0 Z Z (by omega) H) Z (A6 (I3 Z Z) Z (A6 (A8 Z Z) Z (B4 Z Z Z Z (fun q=>by rw[q];exact A8 Z Z) ?_))))));refine B4 Z Z Z Z (fun q=>by have G:=q;(try simp at G);rw[q];exact C9 Z Z (by omega)) ?_;refine B4 Z Z Z Z (fun q=>by rw[q];exact A8 Z Z) ?_;refine B4 Z Z Z Z (fun q=>by rw[q];exact G4 Z) ?_;refine B4 Z Z Z Z (fun q=>by rw[q];exact I3 Z Z) ?_;refine A6 (B9 Z (fun h=>by first | rfl | (rw[h];rfl)) (fun h=>by first | rfl | (rw[h];rfl))) Z ?_;refine B0 ?_;refine k1 ?_;refine B8 rfl (fun j=>?_) (fun j=>?_)
   ·refine k2 ?_;refine A7 (A6 (A8 Z Z) Z (A6 (A8 Z Z) Z (A6 (A8 Z Z) Z (A6 (A8 Z Z) Z (A6 (C9 Z Z (by omega)) Z (A6 (fQ Z Z Z (by omega) (by omega) (by omega)) Z (A6 (E0 (c:=J9) (ys:=[_]) (D9 Z Z Z Z H2) Z Z Z) Z (D2 (L1 Z Z Z (.pure _ _ _ _) (by simp;omega) Z) Z (A6 (A9 Z Z) Z (B0 ?_))))))))));refine k1 ?_;refine A7 (A6 (A8 Z Z) Z (A6 (C9 Z Z (by omega)) Z (A6 (A9 Z Z) Z (B0 ?_))));refine k4 (k1 ?_);refine A7 (A6 (A8 Z Z) Z (A6 (C9 Z Z (by omega)) Z (A6 (A9 Z Z) Z (B0 ?_))));refine k1 ?_;refine⟨(i+1,i+1,_),⟨?_,?_,?_,?_,?_⟩,?_,Sees.of ⟨⟨_,rfl,.same _⟩,⟨_,rfl,.same _⟩,⟨_,rfl,.same _⟩,⟨_,rfl,.same _⟩,trivial⟩ ⟨rfl,trivial⟩⟩
    all_goals dsimp only
    ·omega
    ·omega
    ·simp;omega
    ·omega
    ·have w:b[i]=10\/i+1=b.length:=by
      simp only[u8_lf]at j;by_cases h:b[i]=10
      ·exact .inl h
      ·simp[h]at j;exact .inr (by omega)
     rw[MW,A36,A80,List.take_zero,<-BL b d i y g,A45,<-v,A41 g,o9];rcases w with h | h
     ·rw[A4 h];rfl
     ·have D:b.drop (i+1)=[]:=A48 (by omega);rw[D];split
      ·rfl
      ·rw[show H3 ([]:Str) []=[] from rfl,ED _ (by simp)];simp
    ·omega
   ·refine k5 (k4 (k1 ?_));refine A7 (A6 (A8 Z Z) Z (A6 (C9 Z Z (by omega)) Z (A6 (A9 Z Z) Z (B0 ?_))));refine k1 ?_;refine⟨(i+1,d,B),⟨?_,?_,?_,?_,?_⟩,?_,Sees.of ⟨⟨_,rfl,.same _⟩,⟨_,rfl,.same _⟩,⟨_,rfl,.same _⟩,⟨_,rfl,.same _⟩,trivial⟩ ⟨rfl,trivial⟩⟩
    all_goals dsimp only
    ·omega
    ·omega
    ·omega
    ·intro h;simp[show (i:Int)+1=(b.length:Int) by omega]at j
    ·have w:b[i]≠10:=fun h=>by simp[h]at j
     rw[<-BL b d i y g,<-v,A41 g,o9,A5 w]
    ·omega
  ·refine k6 (k2 ?_);refine A7 (A6 (A8 Z Z) Z (A6 (A9 Z Z) Z (B0 ?_)));refine k1 (G5 ?_);refine C0 (H6 Z Z Z) ?_;have z:i=b.length:=by simp at A;omega
   subst z;have:=C rfl;subst this;rw[A80,List.take_zero,A48 (Nat.le_refl _)]at v;rw[<-v];simp[H3]
theorem ZG{n:Int}(h:0<=n/\n<18446744073709551616):IntKind.u64.wrap n=n:=by simp[IntKind.wrap,IntKind.signed,IntKind.bits];omega
def W8(a n:Int):Int:=IntKind.u64.wrap a % n
theorem Y8(a:Int){n:Int}(h:1<=n):0<=W8 a n/\W8 a n<n:=⟨Int.emod_nonneg _ (by omega),Int.emod_lt_of_pos _ (by omega)⟩
theorem gU(a n:Int)(f:1<=n)(g:n<=9223372036854775807):FnOk Tryz.prog 7 [E2 a,E2 n] (fun rs=>rs=[E2 (W8 a n)]):=by
 refine FnOk.intro Tryz.func7 (by decide) Z Z Z Z ?_;refine k2 ?_;refine A7 (A6 (A9 Z Z) Z (B0 ?_));refine k1 (k2 ?_);have b:IntKind.u64.wrap n=n:=ZG (by omega);refine A7 (A6 (A8 Z Z) Z (A6 (U3 Z) Z (A6 (A8 Z Z) Z (A6 (U3 Z) Z (A6 (lW Z Z (by (rw[b];omega))) Z ?_)))));refine A6 (U3 Z) Z (A6 (A9 Z Z) Z (B0 ?_));refine k1 (G5 ?_);refine C0 (H6 Z Z Z) ?_;have c:=KX a;have e:(IntKind.u64.wrap a).tmod n=IntKind.u64.wrap a % n:=Int.tmod_eq_emod_of_nonneg c;have h:=Y8 a f;unfold W8 at *;rw[b,e,FJ ⟨by omega,by omega⟩]
def UF(a b:Int):Int:=IntKind.u64.wrap ((BitVec.ofInt IntKind.u64.bits a ^^^ BitVec.ofInt IntKind.u64.bits b).toNat:Int)
def UG(a n:Int):Int:=a.fdiv (2 ^ (min n.toNat IntKind.u64.bits))
def at0(k:Int):Int:=IntKind.u64.wrap (IntKind.u64.wrap (k+1)*11400714819323198485)
def at1(b:List Int)(k:Int):Int:=if 0<b.length then UF (at0 k) (IntKind.u64.wrap (b.getD (k.tmod b.length).toNat 0)) else at0 k
def at2(x:Int):Int:=IntKind.u64.wrap (UF x (UG x 31)*13787848793156543929)
def o8(a:List Int)(k:Int):Int:=IntKind.i64.wrap (UG (UF (at2 (at1 a k)) (UG (at2 (at1 a k)) 29)) 1)
theorem eE(b:List Int)(k:Int)(g:0<=k)(m:k<=1099511627776):FnOk Tryz.prog 14 [O1 b,E2 k] (fun rs=>rs=[E2 (o8 b k)]):=by
 refine FnOk.intro Tryz.func14 (by decide) Z Z Z Z ?_;refine OA (t:=0) rfl (.pure _ _ _ _) fun f=>?_;refine k2 ?_;refine A7 (A6 (A9 Z Z) Z (B0 ?_));refine k1 (k2 ?_);refine A7 (A6 (A8 Z Z) Z (A6 (C9 Z Z (by omega)) Z (A6 (U3 Z) Z (A6 (CO Z Z) Z (A6 (A9 Z Z) Z (B0 ?_))))));refine K6 ?_;refine y4 [(0,D7 Int 1 H1 b),(1,C7 k),(5,K2 (.int .u64 (at1 b k)))] [] ?_ ?_
 ·refine k2 ?_;refine A7 (A6 (A8 Z Z) Z (A6 (F0 Z (.pure _ _ _ _)) Z (A6 (P8 Z Z) Z (B0 ?_))));refine k1 ?_;refine B8 rfl (fun d=>?_) (fun d=>?_)
  ·have c:0<b.length:=by have:=A0 d;omega
   have h:0<=k.tmod b.length:=Int.tmod_nonneg _ g;have j:k.tmod b.length<b.length:=Int.tmod_lt_of_pos _ (by omega);have l:b[(k.tmod b.length).toNat]?=some (b.getD (k.tmod b.length).toNat 0):=by
    rw[A43,A32 (by omega)];rfl
   skip;refine A7 (A6 (A8 Z Z) Z (A6 (A8 Z Z) Z (A6 (A8 Z Z) Z (A6 (A8 Z Z) Z (A6 (F0 Z (.pure _ _ _ _)) Z (A6 (lW Z Z (by omega)) Z (A6 (C1 Z (.pure _ _ _ _) Z (by omega) l) Z (A6 (D1 Z Z) Z (A6 (U3 Z) Z (A6 (uJ Z Z Z (fun _=>rfl)) Z (A6 (A9 Z Z) Z (B0 ?_))))))))))));refine k1 ?_;rw[at1,A4 c];exact Sees.of ⟨B5 rfl,B5 rfl,B5 rfl,trivial⟩ trivial
  ·have c:¬0<b.length:=by have:=A1 d;omega
   refine k5 (k1 ?_);rw[at1,A5 c];exact Sees.of ⟨B5 rfl,B5 rfl,B5 rfl,trivial⟩ trivial
 ·refine k2 ?_;refine A7 (A6 (A8 Z Z) Z (A6 (A8 Z Z) Z (A6 (FF Z Z (by omega)) Z (A6 (uJ Z Z Z (fun _=>rfl)) Z (A6 (CO Z Z) Z (A6 (A9 Z Z) Z (B0 ?_)))))));refine k1 (k2 ?_);refine A7 (A6 (A8 Z Z) Z (A6 (A8 Z Z) Z (A6 (FF Z Z (by omega)) Z (A6 (uJ Z Z Z (fun _=>rfl)) Z (A6 (FF Z Z (by omega)) Z (A6 (U3 Z) Z (A6 (A9 Z Z) Z (B0 ?_))))))));refine k1 (G5 ?_);exact C0 (H6 rfl rfl rfl) rfl
def lineTab:List Str:=[[97],[98],[99],[97,98],[98,97],[],[97,97],[98,32,97],[120,43,121],[92]]
def t6(k:Int):Str:=lineTab.getD (W8 k 10).toNat []
theorem GL:∀s∈lineTab,s.length<=3:=by decide
theorem gV(k:Int):(t6 k).length<=3:=by
 unfold t6;rw[A43];cases h:lineTab[(W8 k 10).toNat]? with
 | none=>simp
 | some s=>exact GL s (A53 h)
theorem GM(k:Int):FnOk Tryz.prog 104 [E2 k] (fun d=>d=[F9 (t6 k)]):=by
 refine FnOk.intro Tryz.func104 (by decide) Z Z Z Z ?_;refine k2 ?_;refine A7 (A6 (A9 Z Z) Z (B0 ?_));refine k1 (k2 ?_);have f:=Y8 k (n:=10) (by decide);have b:lineTab[(W8 k 10).toNat]?=some (t6 k):=by
  unfold t6;rw[A43,A32 (show (W8 k 10).toNat<lineTab.length by simp[lineTab];omega)];rfl
 refine A7 (A6 (E0 (c:=J9) (ys:=lineTab) (D9 Z Z Z Z (D9 Z Z Z Z (D9 Z Z Z Z (D9 Z Z Z Z (D9 Z Z Z Z (D9 Z Z Z Z (D9 Z Z Z Z (D9 Z Z Z Z (D9 Z Z Z Z (D9 Z Z Z Z H2)))))))))) Z Z Z) Z (A6 (A8 Z Z) Z (C4 (gU k 10 (by decide) (by decide)) Z Z Z ?_)));rintro _ rfl;refine A6 (C1 Z (.pure _ _ _ _) Z (by omega) b) Z (A6 (D1 Z Z) Z (A6 (A9 Z Z) Z (B0 ?_)));refine k1 (G5 ?_);exact C0 (H6 rfl rfl rfl) rfl
def Z2(d:List Int)(b:Int)(c:Int)(m:Nat):Str:=((List.range m).map fun (i:Nat)=>t6 (W8 (o8 d (b+1+(i:Int))) c)++[10]).flatten
def gW(e:List Int)(b n c:Int):Str :=
 let s:=Z2 e b c (W8 (o8 e b) (n+1)).toNat
 if ((o8 e (b+90)).tmod 4=0/\(1:Int)<s.length)/\((s.getD (s.length-2) 0).toNat:Int)≠10 then s.take (s.length-1) else s
theorem dE(c:List Int)(a b:Int)(m:Nat):Z2 c a b (m+1)=Z2 c a b m++t6 (W8 (o8 c (a+1+(m:Int))) b)++[10]:=by
 unfold Z2;rw[A84,A63,A58];simp
theorem mE(c:List Int)(a b:Int)(m:Nat):(Z2 c a b m).length<=4*m:=by
 induction m with
 | zero=>simp[Z2]
 | succ m d=>have:=gV (W8 (o8 c (a+1+(m:Int))) b);rw[dE];simp only[A35,A34,A38];omega
theorem XJ(e:List Int)(b n c:Int)(z:0<=b/\b<=1073741824)(A:0<=n/\n<=1048576)(B:1<=c/\c<=1048576) :
  FnOk Tryz.prog 46 [O1 e,E2 b,E2 n,E2 c] (fun rs=>rs=[F9 (gW e b n c)]):=by
 obtain⟨m,q⟩:∃m:Nat,W8 (o8 e b) (n+1)=m:=⟨(W8 (o8 e b) (n+1)).toNat,by have:=Y8 (o8 e b) (n:=n+1) (by omega);omega⟩
 have w:=Y8 (o8 e b) (n:=n+1) (by omega);have x:m<=1048576:=by omega
 refine FnOk.intro Tryz.func46 (by decide) Z Z Z Z ?_;refine k2 ?_;refine A7 (A6 (A9 Z Z) Z (B0 ?_));refine k1 (k2 ?_);refine A7 (A6 (A8 Z Z) Z (A6 (A8 Z Z) Z (C4 (eE e b (by omega) (by omega)) Z Z Z ?_)));rintro _ rfl;refine A6 (A8 Z Z) Z (A6 (C9 Z Z (by omega)) Z (C4 (gU _ (n+1) (by omega) (by omega)) Z Z Z ?_));rintro _ rfl;refine A6 (A9 Z Z) Z (B0 ?_);refine k1 (k2 ?_);rw[q];refine A7 (A6 (A9 Z Z) Z (B0 ?_));refine k1 (k2 (k2 ?_));refine A7 (A6 (A9 Z Z) Z (B0 ?_));refine k1 (k3 ?_);refine E3 (X:=Nat) (fun i=>([(0,D7 Int 1 H1 e),(1,C7 b),(2,C7 m),(3,C7 c),(9,P3 (Z2 e b c i)),(10,C7 i)],[])) (fun i=>i<=m) (fun i=>m-i) 0 (Nat.zero_le _) (Sees.of ⟨B5 rfl,B5 rfl,B5 rfl,B5 rfl,B5 rfl,B5 rfl,trivial⟩ trivial) ?_;intro i r;dsimp only at r ⊢;have k:=mE e b c i;refine k2 (k2 ?_);refine A7 (A6 (A8 Z Z) Z (A6 (A8 Z Z) Z (A6 (F2 Z Z) Z (B0 ?_))));refine k1 ?_;refine B8 rfl (fun g=>?_) (fun g=>?_)
 ·have v:i<m:=by have:=A0 g;omega
  have u:=gV (W8 (o8 e (b+1+(i:Int))) c);refine k5 (k1 (k2 (k3 ?_)));refine A7 (A6 (A8 Z Z) Z (A6 (A8 Z Z) Z (A6 (A8 Z Z) Z (A6 (C9 Z Z (by omega)) Z (A6 (A8 Z Z) Z (A6 (C9 Z Z (by omega)) Z (C4 (eE e _ (by omega) (by omega)) Z Z Z ?_)))))));rintro _ rfl;refine A6 (A8 Z Z) Z (C4 (gU _ c (by omega) (by omega)) Z Z Z ?_);rintro _ rfl;refine C4 (GM _) Z Z Z ?_;rintro _ rfl;refine A6 (K8 Z Z (by omega)) Z (A6 (K8 Z Z (by (simp only[A35,A34,A38];omega))) Z (A6 (A9 Z Z) Z (B0 ?_)));refine k4 (k1 ?_);refine A7 (A6 (A8 Z Z) Z (A6 (C9 Z Z (by omega)) Z (A6 (A9 Z Z) Z (B0 ?_))));refine k1 ?_;refine⟨i+1,by omega,by omega,?_⟩;rw[dE];exact Sees.of ⟨B5 rfl,B5 rfl,B5 rfl,B5 rfl,B5 rfl,B5 rfl,trivial⟩ trivial
 ·have l:i=m:=by have:=A1 g;omega
  subst l;obtain⟨s,hs⟩:∃s,s=Z2 e b c i:=⟨_,rfl⟩
  have y:(1:Int)<s.length->s[((s.length:Int)-2).toNat]?=some (s.getD (s.length-2) 0):=fun h=>by
   rw[show ((s.length:Int)-2).toNat=s.length-2 by omega,A43,A32 (by omega)];rfl
  have j:gW e b n c=if ((o8 e (b+90)).tmod 4=0/\(1:Int)<s.length)/\((s.getD (s.length-2) 0).toNat:Int)≠10 then s.take (s.length-1) else s:=by
   simp only[gW,q,A36,<-hs]
  rw[<-hs]at k;refine k6 (k2 (k2 ?_));rw[<-hs];refine A7 (A6 (A8 Z Z) Z (A6 (A8 Z Z) Z (A6 (C9 Z Z (by omega)) Z (C4 (eE e _ (by omega) (by omega)) Z Z Z ?_))));rintro _ rfl;refine A6 (lW Z Z (by omega)) Z (A6 (I3 Z Z) Z (A6 (A8 Z Z) Z (B4 Z Z Z Z (fun f=>by rw[f];exact A8 Z Z) ?_)));refine B4 Z Z Z Z (fun f=>by rw[f];exact G4 Z) ?_;refine B4 Z Z Z Z (fun f=>by rw[f];exact P8 Z Z) ?_;refine A6 (B9 Z (fun h=>by first | rfl | (rw[h];rfl)) (fun h=>by first | rfl | (rw[h];rfl))) Z ?_;refine A6 (A8 Z Z) Z (B4 Z Z Z Z (fun f=>by rw[f];exact A8 Z Z) ?_);refine B4 Z Z Z Z (fun f=>by rw[f];exact A8 Z Z) ?_;refine B4 Z Z Z Z (fun f=>by rw[f];exact G4 Z) ?_;refine B4 Z Z Z Z (fun f=>by have p:=f;(try simp at p);rw[f];exact K3 Z Z (by omega)) ?_;refine B4 Z Z Z Z (fun f=>by have p:=f;(try simp at p);rw[f];exact K0 Z Z (by omega) (y (by omega))) ?_;refine B4 Z Z Z Z (fun f=>by rw[f];exact K4 Z Z) ?_;refine A6 (B9 Z (fun h=>by first | rfl | (rw[h];rfl)) (fun h=>by first | rfl | (rw[h];rfl))) Z ?_;refine B0 ?_;refine k1 ?_;refine B8 rfl (fun g=>?_) (fun g=>?_)
  ·simp only[and_pick]at g;have h:=A0 g;skip;refine A7 (A6 (A8 Z Z) Z (A6 (A8 Z Z) Z (A6 (G4 Z) Z (A6 (K3 Z Z (by omega)) Z (A6 (kR Z Z (by omega) (by omega)) Z (A6 (A9 Z Z) Z (B0 ?_)))))));refine k1 (k2 ?_);refine A7 (A6 (A8 Z Z) Z (A6 (A9 Z Z) Z (B0 ?_)));refine k1 (G5 ?_);exact C0 (H6 rfl rfl rfl) (by rw[j,A4 h,show ((s.length:Int)-1).toNat=s.length-1 by omega])
  ·simp only[and_pick]at g;have h:=A1 g;refine k5 (k1 (k2 ?_));refine A7 (A6 (A8 Z Z) Z (A6 (A9 Z Z) Z (B0 ?_)));refine k1 (G5 ?_);exact C0 (H6 rfl rfl rfl) (by rw[j,A5 h])
theorem KY(d:List Int)(b n c:Int)(f:0<=n):((gW d b n c).length:Int)<=4*n:=by
 have h:=Y8 (o8 d b) (n:=n+1) (by omega);have i:=mE d b c (W8 (o8 d b) (n+1)).toNat
 unfold gW;simp only;split
 ·simp only[A42];omega
 ·omega
def m9(b:List Int)(a:Int)(i:Nat)(s:Str):List Str->Str
 | []=>s
 | x::r=>if (o8 b (a+(i:Int))).tmod 6=0 then m9 b a (i+1) s r
  else if (o8 b (a+(i:Int))).tmod 6=1 then m9 b a (i+1) (s++t6 (o8 b (a+40+(i:Int)))++[10]++x) r
  else m9 b a (i+1) (s++x) r
def fA(b:Str)(c:List Int)(a:Int):Str:=m9 c a 0 [] (E9 b)
theorem gX(b:List Int)(a:Int):∀(l:List Str) (i:Nat) (s:Str),(m9 b a i s l).length<=s.length+l.flatten.length+4*l.length
 | [],i,s=>by simp[m9]
 | x::r,i,s=>by
  have c:=gX b a r (i+1) s;have d:=gX b a r (i+1) (s++t6 (o8 b (a+40+(i:Int)))++[10]++x);have f:=gX b a r (i+1) (s++x);have j:=gV (o8 b (a+40+(i:Int)));simp only[A35,A34,A38,A62]at *;unfold m9;split
  ·omega
  ·split<;>omega
theorem qU(s b:Str):(H3 b s).flatten=b++s:=by
 induction s generalizing b with
 | nil=>unfold H3;split<;>simp[*]
 | cons c r d=>unfold H3;split<;>simp[d]
theorem Y9(s:Str):(E9 s).flatten=s:=qU s []
theorem XK(c:Str)(d:List Int)(b:Int)(hb:c.length<=16777216)(F:0<=b/\b<=1073741824) :
  FnOk Tryz.prog 47 [F9 c,O1 d,E2 b] (fun rs=>rs=[F9 (fA c d b)]):=by
 have z:=aF c;have y:=Y9 c;have v:(E9 c).flatten.length=c.length:=by rw[y]
 refine FnOk.intro Tryz.func47 (by decide) Z Z Z Z ?_;refine k2 ?_;refine A7 (A6 (A9 Z Z) Z (B0 ?_));refine k1 (k2 ?_);refine A7 (A6 (A8 Z Z) Z (C4 (UE c (by omega)) Z Z Z ?_));rintro _ rfl;refine A6 (A9 Z Z) Z (B0 ?_);refine k1 (k2 ?_);obtain⟨l,B⟩:∃l,l=E9 c:=⟨_,rfl⟩
 have A:fA c d b=m9 d b 0 [] l:=by rw[fA,B]
 rw[<-B]at z v ⊢;refine A7 (A6 (A9 Z Z) Z (B0 ?_));refine k1 (k2 (k2 ?_));refine A7 (A6 (A9 Z Z) Z (B0 ?_));refine k1 (k3 ?_);refine E3 (X:=Nat×Str) (fun x=>([(1,D7 Int 1 H1 d),(2,C7 b),(7,D7 Str 1 J9 l),(8,P3 x.2),(9,C7 x.1)],[])) (fun x=>x.1<=l.length/\x.2.length<=(l.take x.1).flatten.length+4*x.1/\m9 d b x.1 x.2 (l.drop x.1)=m9 d b 0 [] l) (fun x=>l.length-x.1) (0,[]) (by simp) (Sees.of ⟨B5 rfl,B5 rfl,B5 rfl,B5 rfl,B5 rfl,trivial⟩ trivial) ?_;rintro⟨i,s⟩ ⟨D,hs,j⟩;dsimp only at D hs j ⊢;have E:=r8 l i;refine k2 (k2 ?_);refine A7 (A6 (A8 Z Z) Z (A6 (A8 Z Z) Z (A6 (F0 Z (.pure _ _ _ _)) Z (A6 (F2 Z Z) Z (B0 ?_)))));refine k1 ?_;refine B8 rfl (fun k=>?_) (fun k=>?_)
 ·have o:i<l.length:=by have:=A0 k;omega
  have C:l[i]?=some l[i]:=by simp[o]
  have q:=r8 l (i+1);have m:=aG l i o;rw[m,A35]at q;rw[A41 o,m9]at j;refine k5 (k1 (k2 (k3 (k2 (k2 ?_)))));refine A7 (A6 (A8 Z Z) Z (A6 (A8 Z Z) Z (A6 (A8 Z Z) Z (A6 (C9 Z Z (by omega)) Z (C4 (eE d _ (by omega) (by omega)) Z Z Z ?_)))));rintro _ rfl;refine A6 (lW Z Z (by omega)) Z (B0 ?_);refine k1 (k3 (k2 ?_));refine A7 (A6 (I3 Z Z) Z (A6 (A9 Z Z) Z (B0 ?_)));refine k1 ?_;refine B8 rfl (fun k=>?_) (fun k=>?_)
  ·rw[A4 (A0 k)]at j;refine k6 (k9 Z (k7 (k8 Z (k1 ?_))));refine A7 (A6 (A8 Z Z) Z (A6 (C9 Z Z (by omega)) Z (A6 (A9 Z Z) Z (B0 ?_))));refine k1 ?_;exact⟨(i+1,s),⟨by dsimp only;omega,by dsimp only;rw[m,A35];omega,j⟩,by dsimp only;omega,Sees.of ⟨B5 rfl,B5 rfl,B5 rfl,B5 rfl,B5 rfl,trivial⟩ trivial⟩
  ·rw[A5 (A1 k)]at j;refine k2 ?_;refine A7 (A6 (I3 Z Z) Z (A6 (A9 Z Z) Z (B0 ?_)));refine k1 ?_;refine B8 rfl (fun k=>?_) (fun k=>?_)
   ·rw[A4 (A0 k)]at j;have G:=gV (o8 d (b+40+(i:Int)));skip;refine A7 (A6 (A8 Z Z) Z (A6 (A8 Z Z) Z (A6 (A8 Z Z) Z (A6 (C9 Z Z (by omega)) Z (A6 (A8 Z Z) Z (A6 (C9 Z Z (by omega)) Z (C4 (eE d _ (by omega) (by omega)) Z Z Z ?_)))))));rintro _ rfl;refine C4 (GM _) Z Z Z ?_;rintro _ rfl;refine A6 (K8 Z Z (by omega)) Z (A6 (K8 Z Z (by (simp only[A35,A34,A38];omega))) Z (A6 (A9 Z Z) Z (B0 ?_)));refine k4 (k1 ?_);refine A7 (A6 (A8 Z Z) Z (A6 (A8 Z Z) Z (A6 (A8 Z Z) Z (A6 (C1 Z (.pure _ _ _ _) Z (by omega) C) Z (A6 (D1 Z Z) Z (A6 (K8 Z Z (by (simp only[A35,A34,A38];omega))) Z (A6 (A9 Z Z) Z (B0 ?_))))))));refine k4 (k1 ?_);refine A7 (A6 (A8 Z Z) Z (A6 (C9 Z Z (by omega)) Z (A6 (A9 Z Z) Z (B0 ?_))));refine k1 ?_;exact⟨(i+1,s++t6 (o8 d (b+40+(i:Int)))++[10]++l[i]),⟨by dsimp only;omega,by dsimp only;rw[m];simp only[A35,A34,A38];omega,j⟩,by dsimp only;omega,Sees.of ⟨B5 rfl,B5 rfl,B5 rfl,B5 rfl,B5 rfl,trivial⟩ trivial⟩
   ·rw[A5 (A1 k)]at j;refine k5 (k4 (k1 ?_));refine A7 (A6 (A8 Z Z) Z (A6 (A8 Z Z) Z (A6 (A8 Z Z) Z (A6 (C1 Z (.pure _ _ _ _) Z (by omega) C) Z (A6 (D1 Z Z) Z (A6 (K8 Z Z (by omega)) Z (A6 (A9 Z Z) Z (B0 ?_))))))));refine k4 (k1 ?_);refine A7 (A6 (A8 Z Z) Z (A6 (C9 Z Z (by omega)) Z (A6 (A9 Z Z) Z (B0 ?_))));refine k1 ?_;exact⟨(i+1,s++l[i]),⟨by dsimp only;omega,by dsimp only;rw[m,A35,A35];omega,j⟩,by dsimp only;omega,Sees.of ⟨B5 rfl,B5 rfl,B5 rfl,B5 rfl,B5 rfl,trivial⟩ trivial⟩
 ·have w:i=l.length:=by have:=A1 k;omega
  rw[w,A48 (Nat.le_refl _)]at j;refine k6 (k2 ?_);refine A7 (A6 (A8 Z Z) Z (A6 (A9 Z Z) Z (B0 ?_)));refine k1 (G5 ?_);exact C0 (H6 rfl rfl rfl) (by rw[A,<-j];rfl)
theorem AU(s:Str):(ByteArray.mk s.toArray).size=s.length:=by simp[ByteArray.size]
theorem DA(s p:Str)(hs:s.length<=1099511627776):FnOk Tryz.prog 170 [F9 s,F9 p] (fun a=>a=[F3 (Lib.hasSuffix s p)]) :=
 A05 (xs:=[.string ⟨s.toArray⟩,.string ⟨p.toArray⟩]) ⟨_,rfl,rfl,rfl⟩ rfl fun w=>by simpa using Tryz.strings_HasSuffix ⟨s.toArray⟩ ⟨p.toArray⟩ w (by rw[AU];omega)
theorem fB(s p:Str)(hs:s.length<=1099511627776):FnOk Tryz.prog 106 [F9 s,F9 p] (fun rs=>rs=[F9 (Lib.trimSuffix s p)]) :=
 A05 (xs:=[.string ⟨s.toArray⟩,.string ⟨p.toArray⟩]) ⟨_,rfl,rfl,rfl⟩ rfl fun w=>by simpa using Tryz.strings_TrimSuffix ⟨s.toArray⟩ ⟨p.toArray⟩ w (by rw[AU];omega)
theorem DB(s:Str)(c:UInt8):FnOk Tryz.prog 102 [F9 s,.one (.v (.int .u8 c.toNat))] (fun a=>a=[E2 (Lib.indexByte s c)]) :=
 A05 (xs:=[.string ⟨s.toArray⟩,.int .u8 c.toNat]) ⟨_,rfl,rfl,rfl⟩ rfl fun w=>by simpa using Tryz.strings_IndexByte ⟨s.toArray⟩ c.toNat w
theorem DC(s:Str)(c:UInt8):FnOk Tryz.prog 183 [F9 s,F9 [c]] (fun a=>a=[F3 (decide (0<=Lib.indexByte s c))]) :=
 A05 (xs:=[.string ⟨s.toArray⟩,.string ⟨#[c]⟩]) ⟨_,rfl,rfl,rfl⟩ rfl fun w=>by simpa using Tryz.strings_Contains_one ⟨s.toArray⟩ c w
theorem UH(l:List Str)(v:l.length<=536870912)(u:l.flatten.length<=536870912):FnOk Tryz.prog 103 [T0 l,F9 []] (fun r=>r=[F9 l.flatten]):=by
 have f:(l.map fun s=>(⟨s.toArray⟩:ByteArray)).map (·.data.toList)=l:=by rw[A76];simp[Function.comp_def]
 refine A21 ⟨_,rfl,rfl,rfl⟩ (fun h a c w=>?_) (fun b o c w q k hb j=>?_)
 ·subst h;exact Tryz.strings_Join_none a c _ w
 ·have:=Tryz.strings_Join b o c (l.map fun s=>(⟨s.toArray⟩:ByteArray)) ⟨#[]⟩ w k hb (by rw[A67];omega) (by rw[A67];exact j) (by rw[f];show (Lib.join l []).length<=_;rw[ID];omega);rw[A67,f]at this;have e:Lib.join l (⟨#[]⟩:ByteArray).data.toList=l.flatten:=ID l;rw[e]at this;exact this
theorem kV(s:Str)(hs:s.length<=1099511627776):FnOk Tryz.prog 95 [F9 s] (fun a=>a=[F3 (ended s)]):=by
 refine FnOk.intro Tryz.func95 (by decide) Z Z Z Z ?_;refine k2 ?_;refine A7 (A6 (A9 Z Z) Z (B0 ?_));refine k1 (k2 ?_);refine A7 (A6 (A8 Z Z) Z (C4 (DA s [10] hs) Z Z Z ?_));rintro _ rfl;refine A6 (A9 Z Z) Z (B0 ?_);rw[pA];refine k1 (G5 ?_);exact C0 (H6 rfl rfl rfl) rfl
theorem UI(s:Str)(hs:s.length<=1099511627776):FnOk Tryz.prog 147 [F9 s] (fun a=>a=[F9 (iD s)]):=by
 refine FnOk.intro Tryz.func147 (by decide) Z Z Z Z ?_;refine k2 ?_;refine A7 (A6 (A9 Z Z) Z (B0 ?_));refine k1 (k2 ?_);refine A7 (A6 (A8 Z Z) Z (C4 (fB s [10] hs) Z Z Z ?_));rintro _ rfl;refine A6 (A9 Z Z) Z (B0 ?_);rw[mN];refine k1 (G5 ?_);exact C0 (H6 rfl rfl rfl) rfl
theorem UJ(l:List Str)(N:l.flatten.length<=536870911)(K:l.length<=536870911):FnOk Tryz.prog 45 [T0 l] (fun M=>M=[F9 (u0 l).1,E2 (u0 l).2]):=by
 refine FnOk.intro Tryz.func45 (by decide) Z Z Z Z ?_;refine k2 ?_;refine A7 (A6 (A9 Z Z) Z (A6 (A9 Z Z) Z (B0 ?_)));refine k1 (k2 ?_);refine A7 (A6 (A9 Z Z) Z (B0 ?_));refine k1 (k2 (k2 ?_));refine A7 (A6 (A8 Z Z) Z (A6 (F0 Z (.pure _ _ _ _)) Z (A6 (A8 Z Z) Z (B0 ?_))));refine k1 (k3 ?_);refine E3 (X:=Nat) (fun i=>([(0,D7 Str 1 J9 l),(4,C7 (l.take i).flatten.length),(8,D7 Str 1 J9 l),(9,C7 l.length),(10,C7 i)],[])) (fun i=>i<=l.length/\aZ l=aZ (l.drop i)) (fun i=>l.length-i) 0 ⟨Nat.zero_le _,by simp⟩ (Sees.of ⟨B5 rfl,B5 rfl,B5 rfl,B5 rfl,B5 rfl,trivial⟩ trivial) ?_;rintro i ⟨J,w⟩;dsimp only at J w ⊢;have C:=r8 l i;refine k2 ?_;refine A7 (A6 (F2 Z Z) Z (B0 ?_));refine k1 (k2 ?_);refine B8 rfl (fun o=>?_) (fun o=>?_)
 ·have x:i<l.length:=by have:=A0 o;omega
  have L:l[i]?=some l[i]:=by simp[x]
  have H:=r8 l (i+1);have F:(l.take (i+1)).flatten.length=(l.take i).flatten.length+l[i].length:=by rw[aG l i x,A35]
  have k:=IB l[i] (l.drop (i+1));rw[A41 x,IC]at w;have q:(l.drop (i+1)).isEmpty=decide (l.length<=i+1):=by rw[Bool.eq_iff_iff];simp
  rw[q]at k;unfold EH at k;refine k5 (k1 (k2 (k3 (k2 ?_))));refine A7 (A6 (A8 Z Z) Z (A6 (C1 Z (.pure _ _ _ _) Z (by omega) L) Z (A6 (D1 Z Z) Z (A6 (A9 Z Z) Z (A6 (A9 Z Z) Z (B0 ?_))))));refine k1 (k2 ?_);refine A7 (A6 (A8 Z Z) Z (C4 (DB l[i] 10) Z Z Z ?_));rintro _ rfl;refine A6 (A9 Z Z) Z (B0 ?_);refine k1 (k2 (k2 ?_));refine A7 (A6 (A8 Z Z) Z (A6 (c7 Z Z) Z (A6 (A8 Z Z) Z (B4 Z Z Z Z (fun b=>by rw[b];exact A8 Z Z) ?_))));refine B4 Z Z Z Z (fun b=>by rw[b];exact x9 Z Z) ?_;refine B4 Z Z Z Z (fun b=>by rw[b];exact A8 Z Z) ?_;refine M5 Z Z Z (.gd (.val _)) Z (fun b=>by obtain⟨c,j⟩:=T9 b;(try rw[c]);(try rw[j]);exact A8 Z Z) ?_;refine M5 Z Z Z (.gd (.val _)) Z (fun b=>by obtain⟨c,j⟩:=T9 b;(try rw[c]);(try rw[j]);exact A8 Z Z) ?_;refine M5 Z Z Z (.gd (.val _)) Z (fun b=>by obtain⟨c,j⟩:=T9 b;(try rw[c]);(try rw[j]);exact G4 Z) ?_;refine M5 Z Z Z (.gd (.val _)) Z (fun b=>by have D:=b;(try simp at D);obtain⟨c,j⟩:=T9 b;(try rw[c]);(try rw[j]);exact K3 Z Z (by omega)) ?_;refine M5 Z Z Z (.gd (.val _)) Z (fun b=>by obtain⟨c,j⟩:=T9 b;(try rw[c]);(try rw[j]);exact F2 Z Z) ?_;refine B4 Z Z Z Z (fun b=>by rw[b];exact B9 Z (fun h=>by first | rfl | (rw[h];rfl)) (fun h=>by first | rfl | (rw[h];rfl))) ?_;refine A6 (B9 Z (fun h=>by first | rfl | (rw[h];rfl)) (fun h=>by first | rfl | (rw[h];rfl))) Z ?_;refine A6 (A8 Z Z) Z (B4 Z Z Z Z (fun b=>by rw[b];exact A8 Z Z) ?_);refine B4 Z Z Z Z (fun b=>by rw[b];exact F2 Z Z) ?_;refine B4 Z Z Z Z (fun b=>by rw[b];exact A8 Z Z) ?_;refine M5 Z Z Z (.gd (.val _)) Z (fun b=>by obtain⟨c,j⟩:=T9 b;(try rw[c]);(try rw[j]);exact A8 Z Z) ?_;refine M5 Z Z Z (.gd (.val _)) Z (fun b=>by obtain⟨c,j⟩:=T9 b;(try rw[c]);(try rw[j]);exact A8 Z Z) ?_;refine M5 Z Z Z (.gd (.val _)) Z (fun b=>by obtain⟨c,j⟩:=T9 b;(try rw[c]);(try rw[j]);exact F0 Z (.pure _ _ _ _)) ?_;refine M5 Z Z Z (.gd (.val _)) Z (fun b=>by have D:=b;(try simp at D);obtain⟨c,j⟩:=T9 b;(try rw[c]);(try rw[j]);exact K3 Z Z (by omega)) ?_;refine M5 Z Z Z (.gd (.val _)) Z (fun b=>by obtain⟨c,j⟩:=T9 b;(try rw[c]);(try rw[j]);exact F2 Z Z) ?_;refine B4 Z Z Z Z (fun b=>by rw[b];exact B9 Z (fun h=>by first | rfl | (rw[h];rfl)) (fun h=>by first | rfl | (rw[h];rfl))) ?_;refine A6 (B9 Z (fun h=>by first | rfl | (rw[h];rfl)) (fun h=>by first | rfl | (rw[h];rfl))) Z ?_;refine B0 ?_;refine k1 ?_;refine B8 rfl (fun o=>?_) (fun o=>?_)
  ·simp only[and_pick,or_pick]at o;have z:=A0 o
   have B:=k.1 (by
    rcases z with (h | h) | h
    ·exact .inl h
    ·exact .inr (.inl h)
    ·exact .inr (.inr ⟨h.1,by simp only[decide_eq_false_iff_not];omega⟩))
   rw[q,B,Bool.false_and]at w;refine k2 ?_;refine A7 (A6 (A9 Z Z) Z (A6 (A9 Z Z) Z (B0 ?_)));refine k1 (G5 (I2 (R5 (I2 (I2 (R5 (I2 ?_)))))));exact C0 (R0 rfl rfl rfl rfl rfl) (by rw[u0,A4 w])
  ·simp only[and_pick,or_pick]at o;have z:=A1 o;have B:(N0 l[i]&&(decide (l.length<=i+1)||ended l[i]))=true:=by
    cases I:(N0 l[i]&&(decide (l.length<=i+1)||ended l[i]))
    ·have G:=k.2 I;simp only[decide_eq_false_iff_not]at G;refine absurd ?_ z;rcases G with h | h | h
     ·exact .inl (.inl h)
     ·exact .inl (.inr h)
     ·exact .inr ⟨h.1,by omega⟩
    ·rfl
   rw[q,B,Bool.true_and]at w;refine k5 (k1 ?_);refine A7 (A6 (A8 Z Z) Z (A6 (A8 Z Z) Z (A6 (G4 Z) Z (A6 (C9 Z Z (by omega)) Z (A6 (A9 Z Z) Z (B0 ?_))))));refine k4 (k1 ?_);refine A7 (A6 (C9 Z Z (by omega)) Z (A6 (A8 Z Z) Z (B0 ?_)));refine k1 ?_;refine⟨i+1,⟨by omega,w⟩,by omega,?_⟩;rw[F];exact Sees.of ⟨B5 rfl,B5 rfl,B5 rfl,B5 rfl,B5 rfl,trivial⟩ trivial
 ·have A:i=l.length:=by have:=A1 o;omega
  rw[A,A44]at C ⊢;rw[A,A48 (Nat.le_refl _)]at w;refine k6 (k2 (k2 ?_));refine A7 (A6 (A8 Z Z) Z (A6 (P8 Z Z) Z (A6 (A8 Z Z) Z (B4 Z Z Z Z (fun b=>by rw[b];exact A8 Z Z) ?_))));refine B4 Z Z Z Z (fun b=>by rw[b];exact F0 Z (.pure _ _ _ _)) ?_;refine B4 Z Z Z Z (fun b=>by rw[b];exact P8 Z Z) ?_;refine A6 (B9 Z (fun h=>by first | rfl | (rw[h];rfl)) (fun h=>by first | rfl | (rw[h];rfl))) Z ?_;refine B0 ?_;refine k1 ?_;refine B8 rfl (fun o=>?_) (fun o=>?_)
  ·have z:=A0 (or_pick.symm.trans o);refine k2 ?_;refine A7 (A6 (A9 Z Z) Z (A6 (A9 Z Z) Z (B0 ?_)));refine k1 (G5 (I2 ?_));exact C0 (R0 rfl rfl rfl rfl rfl) (by rw[u0,A5 (by rw[w];simp[aZ]),A4 (by omega)])
  ·have z:=A1 (or_pick.symm.trans o);refine k5 (k1 (k2 ?_));refine A7 (A6 (A8 Z Z) Z (C4 (UH l (by omega) (by omega)) Z Z Z ?_));rintro _ rfl;refine A6 (A9 Z Z) Z (A6 (A9 Z Z) Z (B0 ?_));refine k1 (G5 ?_);exact C0 (R0 rfl rfl rfl rfl rfl) (by rw[u0,A5 (by rw[w];simp[aZ]),A5 (by omega)])
def YR(ob:Obs)(c:Str):Prop:=(∃a,(a=.p (.v (.pointer none))\/a=.ref 700 0)/\D4 ob 700=some (.tbx 80 [a,.buf 701 UInt8 1 uL c]))/\D4 ob 701=some (.spare c.length 1 5)
abbrev UK(ob:Obs)(ys c:Str):Obs:=(700,.tbx 80 [.ref 700 0,.buf 701 UInt8 1 uL c])::(701,.spare c.length 1 5)::Obs.forget 701 ((700,.tbx 80 [.ref 700 0,.buf 701 UInt8 1 uL ys])::ob)
def OK:Go.Shelf.Ren:=⟨fun | 240=>91 | 276=>166 | n=>n,fun | 72=>80 | 70=>77 | 164=>287 | 37=>78 | n=>n,fun n=>n⟩
theorem UL:Go.Proofs.Lays.n240 Tryz.prog OK:={
 mixed:=by kernel_rfl
 f240:=Tryz.func91.trans (congrArg some (by kernel_rfl))
 f276:=Tryz.func166.trans (congrArg some (by kernel_rfl))
 t0:=Tryz.underlying0
 a0:=Tryz.isAgg0
 z0:=Tryz.sizeOf0
 v0:=Tryz.zeroValue0
 t4:=Tryz.underlying4
 a4:=Tryz.isAgg4
 z4:=Tryz.sizeOf4
 v4:=Tryz.zeroValue4
 t9:=Tryz.underlying9
 a9:=Tryz.isAgg9
 z9:=Tryz.sizeOf9
 v9:=Tryz.zeroValue9
 t20:=Tryz.underlying20
 a20:=Tryz.isAgg20
 z20:=Tryz.sizeOf20
 v20:=Tryz.zeroValue20
 t70:=Tryz.underlying77
 a70:=Tryz.isAgg77
 z70:=Tryz.sizeOf77
 v70:=Tryz.zeroValue77
 t72:=Tryz.underlying80
 a72:=Tryz.isAgg80
 z72:=Tryz.sizeOf80
 v72:=Tryz.zeroValue80
 t164:=Tryz.underlying287
 a164:=Tryz.isAgg287
 z164:=Tryz.sizeOf287
 v164:=Tryz.zeroValue287 }
theorem ccX:Builder.X72 Tryz.prog OK:={
 sizeBuilder:=by kernel_rfl
 liesBuilder:=by kernel_rfl }
theorem mF{gf:Fr}{ob:Obs}{a t:TC}(j:D4 ob 700=some (.tbx 80 [a,t]))(ha:a=.p (.v (.pointer none))\/a=.ref 700 0) :
  AL.Met Tryz.prog 91 [.one (.ref 700 0)] gf ob [] (fun k ob'=>k=[]/\ob'=(700,.tbx 80 [.ref 700 0,t])::ob) :=
 AL.Met.copyCheck ⟨_,rfl,rfl,rfl⟩ (fun b w c d g=>Any.Builder_copyCheck_fresh (ρ:=OK) UL ccX b w c d g) (fun b w h=>Any.Builder_copyCheck_used (ρ:=OK) UL ccX b w h) j ha
theorem U5{gf:Fr}{ob:Obs}{xs s:Str}(hb:YR ob xs)(d:xs.length+s.length<=1073741824) :
  AL.Met Tryz.prog 35 [.one (.ref 700 0),.one (.p (.v (.string ⟨s.toArray⟩)))] gf ob [701] (fun rs ob'=>rs=[.one (.p (.v (.int .i64 s.length))),.one (.p (.v .nilIface))]/\ob'=UK ob xs (xs++s)):=by
 obtain⟨⟨a,ha,j⟩,b⟩:=hb;refine AL.Met.intro Tryz.func35 (by decide) Z Z Z ?_;refine k2 ?_;refine A7 (A6 (A9 Z Z) Z (A6 (A9 Z Z) Z (B0 ?_)));refine k1 (k2 ?_);refine A7 (A6 (A8 Z Z) Z (R4 (mF j ha) Z Z Z ?_));rintro _ _ ⟨rfl,rfl⟩;refine B0 ?_;refine k1 (k2 ?_);refine A7 (A6 (A8 Z Z) Z (A6 (A8 Z Z) Z (A6 (B7 Z) Z (A6 (B1 Z) Z (A6 (jO Z Z Z) Z (A6 (A8 Z Z) Z (D2 (KB TyStr.out Z b Z (by first | omega | (simp;omega)) Z) Z (A6 (B7 Z) Z (A6 (B1 Z) Z (F4 (oG TySz.out Z Z Z Z Z Z) (B0 ?_)))))))))));refine k1 (k2 ?_);refine A7 (A6 (A8 Z Z) Z (A6 (G4 Z) Z (A6 (A9 Z Z) Z (A6 (A9 Z Z) Z (B0 ?_)))));refine k1 (G5 ?_);exact G1 (bO rfl rfl rfl) (by repeat (first | exact C5 | refine C3 rfl ?_ | refine D3 _ ?_)) (fun _ _ h=>h) ⟨rfl,rfl⟩
theorem fC{gf:Fr}{ob:Obs}{xs:Str}{c:UInt8}(hb:YR ob xs)(d:xs.length+1<=1073741824) :
  AL.Met Tryz.prog 119 [.one (.ref 700 0),.one (.p (.v (.int .u8 c.toNat)))] gf ob [701] (fun j ob'=>j=[.one (.p (.v .nilIface))]/\ob'=UK ob xs (xs++[c])):=by
 obtain⟨⟨a,ha,g⟩,b⟩:=hb;refine AL.Met.intro Tryz.func119 (by decide) Z Z Z ?_;refine k2 ?_;refine A7 (A6 (A9 Z Z) Z (B0 ?_));refine k1 (k2 ?_);refine A7 (A6 (A8 Z Z) Z (R4 (mF g ha) Z Z Z ?_));rintro _ _ ⟨rfl,rfl⟩;refine B0 ?_;refine k1 (k2 ?_);refine A7 (A6 (A8 Z Z) Z (A6 (A8 Z Z) Z (A6 (B7 Z) Z (A6 (B1 Z) Z (A6 (jO Z Z Z) Z (A6 (A8 Z Z) Z (A6 (E0 (c:=uL) (ys:=[c]) (D9 Z Z Z Z H2) Z Z Z) Z (D2 (L1 Z b Z (.pure _ _ _ _) (by (simp;omega)) Z) Z (A6 (B7 Z) Z (A6 (B1 Z) Z (F4 (oG TySz.out Z Z Z Z Z Z) (B0 ?_))))))))))));refine k1 (k2 ?_);refine A7 (A6 (A9 Z Z) Z (B0 ?_));refine k1 (G5 ?_);exact G1 (O9 rfl rfl) (by repeat (first | exact C5 | refine C3 rfl ?_ | refine D3 _ ?_)) (fun _ _ h=>h) ⟨rfl,rfl⟩
theorem qV(c:UInt8):FnOk Tryz.prog 118 [pByte c] (fun b=>b=[F3 (L8 c)]):=by
 refine FnOk.intro Tryz.func118 (by decide) Z Z Z Z ?_;refine k2 ?_;refine A7 (A6 (A9 Z Z) Z (B0 ?_));refine k1 (k2 ?_);refine A7 (A6 (A8 Z Z) Z (A6 (x9 Z Z) Z (A6 (A8 Z Z) Z (B4 Z Z Z Z (fun a=>by rw[a];exact A8 Z Z) ?_))));refine B4 Z Z Z Z (fun a=>by rw[a];exact fP Z Z) ?_;refine A6 (B9 Z (fun h=>by first | rfl | (rw[h];rfl)) (fun h=>by first | rfl | (rw[h];rfl))) Z ?_;refine A6 (A8 Z Z) Z (B4 Z Z Z Z (fun a=>by rw[a];exact A8 Z Z) ?_);refine B4 Z Z Z Z (fun a=>by rw[a];exact K4 Z Z) ?_;refine A6 (B9 Z (fun h=>by first | rfl | (rw[h];rfl)) (fun h=>by first | rfl | (rw[h];rfl))) Z ?_;refine A6 (A8 Z Z) Z (B4 Z Z Z Z (fun a=>by rw[a];exact A8 Z Z) ?_);refine B4 Z Z Z Z (fun a=>by rw[a];exact K4 Z Z) ?_;refine A6 (B9 Z (fun h=>by first | rfl | (rw[h];rfl)) (fun h=>by first | rfl | (rw[h];rfl))) Z ?_;refine A6 (A9 Z Z) Z (B0 ?_);refine k1 (G5 ?_);refine C0 (H6 Z Z Z) ?_;simp only[and_pick]
 congr 4
 unfold L8
 congr 1
 simp;omega
open Go.RowKit
theorem UM(q:Nat)(h:q<8):IntKind.u8.wrap (48+(q:Int))=((UInt8.ofNat (48+q)).toNat:Int):=by
 rw[IntWalk.u8_in _ (by omega)];have:(UInt8.ofNat (48+q)).toNat=48+q:=by rw[UInt8.toNat_ofNat'];omega
 rw[this];simp
theorem OL(x:Nat)(h:x<256):IntKind.u8.wrap ((BitVec.ofInt IntKind.u8.bits (x:Int) &&& BitVec.ofInt IntKind.u8.bits 7).toNat:Int)=((x % 8:Nat):Int):=by
 have d:(BitVec.ofInt IntKind.u8.bits (x:Int) &&& BitVec.ofInt IntKind.u8.bits 7).toNat=x % 8:=by
  rw[BitVec.toNat_and,BitVec.toNat_ofInt,BitVec.toNat_ofInt];have b:((x:Int) % ((2 ^ IntKind.u8.bits:Nat):Int)).toNat=x:=by
   rw[show ((2 ^ IntKind.u8.bits:Nat):Int)=256 by rfl];omega
  have c:((7:Int) % ((2 ^ IntKind.u8.bits:Nat):Int)).toNat=2 ^ 3-1:=by rfl
  rw[b,c,Nat.and_two_pow_sub_one_eq_mod]
 rw[d,IntWalk.u8_in _ (by omega)]
theorem UN(x:Nat)(c:Nat)(h:c<=8):(x:Int).fdiv (2 ^ min (Int.toNat (c:Int)) IntKind.u8.bits)=((x / 2 ^ c:Nat):Int):=by
 rw[ZO _ _ IntKind.u8.bits ⟨by omega,by show (c:Int)<=8;omega⟩];simp
theorem KZ(c:UInt8):FnOk Tryz.prog 120 [pByte c] (fun t=>t=[F9 (X1 c)]):=by
 have w:=c.toNat_lt;refine FnOk.intro Tryz.func120 (by decide) Z Z Z Z ?_;refine k2 ?_;refine A7 (A6 (A9 Z Z) Z (B0 ?_));refine k1 (k2 (k3 (k2 ?_)));refine A7 (A6 (A8 Z Z) Z (A6 (I3 Z Z) Z (A6 (A8 Z Z) Z (B4 Z Z Z Z (fun b=>by rw[b];exact A8 Z Z) ?_))));refine B4 Z Z Z Z (fun b=>by rw[b];exact I3 Z Z) ?_;refine A6 (B9 Z (fun h=>by first | rfl | (rw[h];rfl)) (fun h=>by first | rfl | (rw[h];rfl))) Z ?_;refine A6 (A9 Z Z) Z (B0 ?_);refine k1 ?_;refine B8 rfl (fun a=>?_) (fun a=>?_)
 ·have h:=A0 (or_pick.symm.trans a);refine k2 ?_;refine A7 (A6 (A8 Z Z) Z (A6 (mA Z (by omega)) Z (A6 (K8 Z Z (by simp)) Z (A6 (A9 Z Z) Z (B0 ?_)))));refine k1 (G5 (R5 (I2 ?_)));exact C0 (H6 rfl rfl rfl) (by rw[X1,A4 (by omega)];rfl)
 ·have h:=A1 (or_pick.symm.trans a);refine k2 ?_;refine A7 (A6 (A8 Z Z) Z (A6 (I3 Z Z) Z (A6 (A9 Z Z) Z (B0 ?_))));refine k1 ?_;refine B8 rfl (fun a=>?_) (fun a=>?_)
  ·have o:=A0 a;refine k2 ?_;refine A7 (A6 (A9 Z Z) Z (B0 ?_));refine k1 (G5 (R5 (I2 ?_)));exact C0 (H6 rfl rfl rfl) (by rw[X1,A5 (by omega),A4 (by omega)])
  ·have o:=A1 a;refine k2 ?_;refine A7 (A6 (A8 Z Z) Z (A6 (I3 Z Z) Z (A6 (A9 Z Z) Z (B0 ?_))));refine k1 ?_;refine B8 rfl (fun a=>?_) (fun a=>?_)
   ·have q:=A0 a;refine k2 ?_;refine A7 (A6 (A9 Z Z) Z (B0 ?_));refine k1 (G5 (R5 (I2 ?_)));exact C0 (H6 rfl rfl rfl) (by rw[X1,A5 (by omega),A5 (by omega),A4 (by omega)])
   ·have q:=A1 a;refine k2 ?_;refine A7 (A6 (A8 Z Z) Z (A6 (F2 Z Z) Z (A6 (A8 Z Z) Z (B4 Z Z Z Z (fun b=>by rw[b];exact A8 Z Z) ?_))));refine B4 Z Z Z Z (fun b=>by rw[b];exact P8 Z Z) ?_;refine A6 (B9 Z (fun h=>by first | rfl | (rw[h];rfl)) (fun h=>by first | rfl | (rw[h];rfl))) Z ?_;refine A6 (A9 Z Z) Z (B0 ?_);refine k1 ?_;refine B8 rfl (fun a=>?_) (fun a=>?_)
    ·have s:=A0 (or_pick.symm.trans a);refine k2 ?_;have n:(c.toNat:Int).fdiv (2 ^ min (Int.toNat 6) IntKind.u8.bits)=((c.toNat / 64:Nat):Int):=UN c.toNat 6 (by omega);have m:(c.toNat:Int).fdiv (2 ^ min (Int.toNat 3) IntKind.u8.bits)=((c.toNat / 8:Nat):Int):=UN c.toNat 3 (by omega);have j:=UM (c.toNat / 64) (by omega);have k:=UM (c.toNat / 8 % 8) (by omega);have l:=UM (c.toNat % 8) (by omega);have g:=eK c;refine A7 (A6 (A8 Z Z) Z (A6 (FF Z Z (by omega)) Z (A6 (nZ Z Z) Z (A6 (A8 Z Z) Z (A6 (FF Z Z (by omega)) Z (A6 (uJ Z Z Z (fun _=>rfl)) Z (A6 (nZ Z Z) Z (A6 (A8 Z Z) Z (A6 (uJ Z Z Z (fun _=>rfl)) Z (A6 (nZ Z Z) Z ?_))))))))));           rw[n,m,OL (c.toNat / 8) (by omega),OL c.toNat (by omega),j,k,l];refine A6 (E0 (c:=uL) (ys:=[UInt8.ofNat (48+c.toNat / 64),UInt8.ofNat (48+c.toNat / 8 % 8),UInt8.ofNat (48+c.toNat % 8)]) (D9 Z Z Z Z (D9 Z Z Z Z (D9 Z Z Z Z H2))) Z Z Z) Z (A6 (jK TyStr.out Z (.pure _ _ _ _)) Z (A6 (K8 Z Z (by simp)) Z (A6 (A9 Z Z) Z (B0 ?_))));refine k1 (G5 (R5 (I2 ?_)));exact C0 (H6 rfl rfl rfl) (by rw[X1,A5 (by omega),A5 (by omega),A5 (by omega),A4 (by omega),g];rfl)
    ·have s:=A1 (or_pick.symm.trans a);refine k5 (k2 ?_);refine A7 (A6 (A8 Z Z) Z (A6 (mA Z (by omega)) Z (A6 (A9 Z Z) Z (B0 ?_))));refine k1 (G5 ?_);exact C0 (H6 rfl rfl rfl) (by rw[X1,A5 (by omega),A5 (by omega),A5 (by omega),A5 (by omega)])
theorem XL(n:Int)(h:0<=n/\n<=2147483647):FnOk Tryz.prog 117 [E2 n] (fun f=>f=[F9 (Lib.itoa n)]) :=
 A12 (xs:=[.int .i64 n]) (r:=.string ⟨(Lib.itoa n).toArray⟩) ⟨_,rfl,rfl,rfl⟩ rfl fun w d =>
  (Tryz.strconv_Itoa n (by omega) (by omega) w (d.pow10 rfl)).mono fun e w' ⟨c,k,os,b⟩=>⟨c,by subst b;exact Lib.below_grow _ _ (Nat.le_refl _) _ _⟩
theorem t7(n:Int):FnOk Tryz.prog 59 [E2 n] (fun rs=>rs=[F9 (M6 n)]):=by
 refine FnOk.intro Tryz.func59 (by decide) Z Z Z Z ?_;refine k2 ?_;refine A7 (A6 (A9 Z Z) Z (B0 ?_));refine k1 (k2 (k2 ?_));refine A7 (A6 (A8 Z Z) Z (A6 (F2 Z Z) Z (A6 (A8 Z Z) Z (B4 Z Z Z Z (fun a=>by rw[a];exact A8 Z Z) ?_))));refine B4 Z Z Z Z (fun a=>by rw[a];exact P8 Z Z) ?_;refine A6 (B9 Z (fun h=>by first | rfl | (rw[h];rfl)) (fun h=>by first | rfl | (rw[h];rfl))) Z ?_;refine B0 ?_;refine k1 ?_;refine B8 rfl (fun b=>?_) (fun b=>?_)
 ·have h:=A0 (or_pick.symm.trans b);refine k2 ?_;refine A7 (A6 (A9 Z Z) Z (B0 ?_));refine k1 (G5 (I2 ?_));exact C0 (H6 rfl rfl rfl) (by rw[M6,A4 (by omega)])
 ·have h:=A1 (or_pick.symm.trans b);refine k5 (k1 (k2 ?_));refine A7 (A6 (A8 Z Z) Z (C4 (XL n (by omega)) Z Z Z ?_));rintro _ rfl;refine A6 (A9 Z Z) Z (B0 ?_);refine k1 (G5 ?_);exact C0 (H6 rfl rfl rfl) (by rw[M6,A5 (by omega)])
theorem qW(a n:Int)(ha:-4611686018427387904<=a/\a<=4611686018427387904)(f:-4611686018427387904<=n/\n<=4611686018427387904):FnOk Tryz.prog 94 [E2 a,E2 n] (fun rs=>rs=[F9 (J7 a n)]):=by
 refine FnOk.intro Tryz.func94 (by decide) Z Z Z Z ?_;refine k2 ?_;refine A7 (A6 (A9 Z Z) Z (B0 ?_));refine k1 (k2 (k2 ?_));refine A7 (A6 (A8 Z Z) Z (A6 (F2 Z Z) Z (A6 (A8 Z Z) Z (B4 Z Z Z Z (fun b=>by rw[b];exact A8 Z Z) ?_))));refine B4 Z Z Z Z (fun b=>by rw[b];exact F2 Z Z) ?_;refine A6 (B9 Z (fun h=>by first | rfl | (rw[h];rfl)) (fun h=>by first | rfl | (rw[h];rfl))) Z ?_;refine A6 (A8 Z Z) Z (B4 Z Z Z Z (fun b=>by rw[b];exact A8 Z Z) ?_);refine B4 Z Z Z Z (fun b=>by rw[b];exact P8 Z Z) ?_;refine A6 (B9 Z (fun h=>by first | rfl | (rw[h];rfl)) (fun h=>by first | rfl | (rw[h];rfl))) Z ?_;refine A6 (A8 Z Z) Z (B4 Z Z Z Z (fun b=>by rw[b];exact A8 Z Z) ?_);refine B4 Z Z Z Z (fun b=>by rw[b];exact A8 Z Z) ?_;refine B4 Z Z Z Z (fun b=>by rw[b];exact K3 Z Z (by (first | omega | (simp at hq;omega)))) ?_;refine B4 Z Z Z Z (fun b=>by rw[b];exact P8 Z Z) ?_;refine A6 (B9 Z (fun h=>by first | rfl | (rw[h];rfl)) (fun h=>by first | rfl | (rw[h];rfl))) Z ?_;refine B0 ?_;refine k1 ?_;have g:=Z4 a;have i:=Z4 (a+1);have j:=Z4 n;refine B8 rfl (fun c=>?_) (fun c=>?_)
 ·have h:=A0 ((by simp only[or_pick]at c;exact c):decide _=true);refine k2 ?_;refine A7 (A6 (A9 Z Z) Z (B0 ?_));refine k1 (G5 (I2 ?_));exact C0 (H6 rfl rfl rfl) (by rw[J7,A4 (by omega)])
 ·have h:=A1 ((by simp only[or_pick]at c;exact c):decide _=false);refine k5 (k1 (k2 (k2 ?_)));refine A7 (A6 (A8 Z Z) Z (B0 ?_));refine k1 (k3 (k2 ?_));refine A7 (A6 (I3 Z Z) Z (A6 (A9 Z Z) Z (B0 ?_)));refine k1 ?_;refine B8 rfl (fun c=>?_) (fun c=>?_)
  ·have d:=A0 c;refine k2 ?_;refine A7 (A6 (A8 Z Z) Z (C4 (t7 a) Z Z Z ?_));rintro _ rfl;refine A6 (K8 Z Z (by simp;omega)) Z (A6 (A9 Z Z) Z (B0 ?_));refine k1 (G5 (R5 (I2 ?_)));exact C0 (H6 rfl rfl rfl) (by rw[J7,A5 (by omega),A4 d])
  ·have d:=A1 c;refine k2 ?_;refine A7 (A6 (I3 Z Z) Z (A6 (A9 Z Z) Z (B0 ?_)));refine k1 ?_;refine B8 rfl (fun c=>?_) (fun c=>?_)
   ·have e:=A0 c;refine k2 ?_;refine A7 (A6 (A8 Z Z) Z (A6 (C9 Z Z (by omega)) Z (C4 (t7 (a+1)) Z Z Z ?_)));rintro _ rfl;refine A6 (A9 Z Z) Z (B0 ?_);refine k1 (G5 (R5 (I2 ?_)));exact C0 (H6 rfl rfl rfl) (by rw[J7,A5 (by omega),A5 d,A4 e])
   ·have e:=A1 c;refine k5 (k2 ?_);refine A7 (A6 (A8 Z Z) Z (A6 (C9 Z Z (by omega)) Z (C4 (t7 (a+1)) Z Z Z ?_)));rintro _ rfl;refine A6 (K8 Z Z (by simp;omega)) Z (A6 (A8 Z Z) Z (C4 (t7 n) Z Z Z ?_));rintro _ rfl;refine A6 (K8 Z Z (by simp;omega)) Z (A6 (A9 Z Z) Z (B0 ?_));refine k1 (G5 ?_);exact C0 (H6 rfl rfl rfl) (by rw[J7,A5 (by omega),A5 d,A5 e])
theorem fD(B b:Nat)(l:List UInt8)(w:World)(h:Lib.IsBuilder 80 5 B b (Lib.byteCells l) w)(a:B<=w.heap.size) :
  Calls Tryz.prog 39 #[.pointer (some ⟨b,0,none⟩)] w fun e w'=>e=.returned (.string ⟨l.toArray⟩)/\Below B w w':=Tryz.Builder_String_any B b l w h a
theorem fZ(s:Str)(hs:s.length<=16777216):FnOk Tryz.prog 60 [F9 s] (fun rs=>rs=[F9 (L9 s)]):=by
 refine FnOk.intro Tryz.func60 (by decide) Z Z Z Z ?_;refine k2 ?_;refine A7 (A6 (A9 Z Z) Z (B0 ?_));refine k1 (k2 ?_);refine A7 (A6 (A8 Z Z) Z (A6 (bF Z Z) Z (A6 (A9 Z Z) Z (B0 ?_))));refine k1 (k2 (k2 ?_));refine A7 (A6 (A8 Z Z) Z (A6 (G4 Z) Z (A6 (A8 Z Z) Z (B0 ?_))));refine k1 (k3 ?_);refine E3 (X:=Nat) (fun i=>([(0,P3 s),(3,K2 (.bool (plains s i))),(10,C7 s.length),(11,C7 i)],[])) (fun i=>i<=s.length) (fun i=>s.length-i) 0 (Nat.zero_le _) ?_ ?_
 ·rw[IE];exact Sees.of ⟨B5 rfl,B5 rfl,B5 rfl,B5 rfl,trivial⟩ trivial
 intro i y;dsimp only at y ⊢;refine k2 ?_;refine A7 (A6 (F2 Z Z) Z (B0 ?_));refine k1 (k2 ?_);refine B8 rfl (fun j=>?_) (fun j=>?_)
 ·have d:i<s.length:=by have:=A0 j;omega
  have w:s[i]?=some s[i]:=by simp[d]
  obtain⟨c,A⟩:∃c,c=s[i]:=⟨_,rfl⟩
  have z:=IF s i d;rw[<-A]at w z;refine k5 (k1 (k2 (k3 (k2 ?_))));refine A7 (A6 (A8 Z Z) Z (A6 (A9 Z Z) Z (B0 ?_)));refine k1 ?_;refine A7 (A6 (A8 Z Z) Z (A6 (A8 Z Z) Z (B4 Z Z Z Z (fun m=>by rw[m];exact A8 Z Z) ?_)));refine B4 Z Z Z Z (fun m=>by rw[m];exact A8 Z Z) ?_;refine B4 Z Z Z Z (fun m=>by have v:=m;(try simp at v);rw[m];exact K0 Z Z (by omega) w) ?_;refine B4 Z Z Z Z (fun m=>by have v:=m;(try simp at v);rw[m];exact H4 (qV c) Z Z) ?_;refine A6 (B9 Z (fun h=>by first | rfl | (rw[h];rfl)) (fun h=>by first | rfl | (rw[h];rfl))) Z ?_;refine A6 (A9 Z Z) Z (B0 ?_);refine k4 (k1 ?_);refine A7 (A6 (C9 Z Z (by omega)) Z (A6 (A8 Z Z) Z (B0 ?_)));refine k1 ?_;refine⟨i+1,d,by omega,?_⟩;rw[show (if plains s i=true then L8 c else false)=plains s (i+1) from by rw[z];cases plains s i<;>rfl];exact Sees.of ⟨B5 rfl,B5 rfl,B5 rfl,B5 rfl,trivial⟩ trivial
 have q:i=s.length:=by have:=A1 j;omega
 subst q;refine k6 (k2 (k2 ?_));refine A7 (A6 (A8 Z Z) Z (B0 ?_));refine k1 ?_;refine B8 rfl (fun j=>?_) (fun j=>?_)
 ·have h:plains s s.length=true:=j;refine k2 ?_;refine A7 (A6 (A8 Z Z) Z (A6 (A9 Z Z) Z (B0 ?_)));refine k1 (G5 (I2 ?_));exact C0 (H6 rfl rfl rfl) (by rw[wQ,A4 h])
 have h:plains s s.length=false:=j;have v:L9 s=(34::escs s s.length)++[34]:=by rw[wQ,h];rfl
 refine k5 (k1 (k2 ?_));refine A7 (D2 (uU 700 Z) Z (B0 ?_));refine k1 (k2 ?_);refine G8 (A11 701 UInt8 1 uL 5 (kb:=700) (o:=1) Z Z Z) ?_;refine A7 (R4 (fC (xs:=[]) (c:=34) ⟨⟨_,.inl rfl,rfl⟩,rfl⟩ (by simp)) Z Z Z ?_);rintro _ _ ⟨rfl,rfl⟩;refine B0 ?_;refine k1 (k2 (k2 ?_));refine A7 (A6 (A8 Z Z) Z (A6 (G4 Z) Z (A6 (A8 Z Z) Z (B0 ?_))));refine k1 (k3 ?_);refine E3 (X:=Nat) (fun i=>([(0,P3 s),(5,.s (.one (.ref 700 0))),(26,C7 s.length),(27,C7 i)],[(700,.tbx 80 [.ref 700 0,.buf 701 UInt8 1 uL (34::escs s i)]),(701,.spare (34::escs s i).length 1 5)])) (fun i=>i<=s.length) (fun i=>s.length-i) 0 (Nat.zero_le _) (Sees.of ⟨B5 rfl,B5 rfl,B5 rfl,B5 rfl,trivial⟩ ⟨rfl,rfl,trivial⟩) ?_;intro i y;dsimp only at y ⊢;have C:=VQ s i y;refine k2 ?_;refine A7 (A6 (F2 Z Z) Z (B0 ?_));refine k1 (k2 ?_);refine B8 rfl (fun j=>?_) (fun j=>?_)
 ·have d:i<s.length:=by have:=A0 j;omega
  have w:s[i]?=some s[i]:=by simp[d]
  obtain⟨c,A⟩:∃c,c=s[i]:=⟨_,rfl⟩
  have B:=RW s i d;have z:=BO c;rw[<-A]at w B;refine k5 (k1 (k2 (k3 (k2 ?_))));refine A7 (A6 (A8 Z Z) Z (A6 (A9 Z Z) Z (B0 ?_)));refine k1 ?_;refine A7 (A6 (A8 Z Z) Z (A6 (A8 Z Z) Z (A6 (K0 Z Z (by omega) w) Z (C4 (KZ c) Z Z Z ?_))));rintro _ rfl;refine R4 (U5 (xs:=34::escs s i) (s:=X1 c) ⟨⟨_,.inr rfl,rfl⟩,rfl⟩ (by simp only[A34];omega)) Z Z Z ?_;rintro _ _ ⟨rfl,rfl⟩;refine B0 ?_;refine k4 (k1 ?_);refine A7 (A6 (C9 Z Z (by omega)) Z (A6 (A8 Z Z) Z (B0 ?_)));refine k1 ?_;refine⟨i+1,d,by omega,?_⟩;rw[B];exact Sees.of ⟨B5 rfl,B5 rfl,B5 rfl,B5 rfl,trivial⟩ ⟨rfl,rfl,trivial⟩
 have q:i=s.length:=by have:=A1 j;omega
 subst q;refine k6 (k2 ?_);refine A7 (R4 (fC (xs:=34::escs s s.length) (c:=34) ⟨⟨_,.inr rfl,rfl⟩,rfl⟩ (by simp only[A34];omega)) Z Z Z ?_);rintro _ _ ⟨rfl,rfl⟩;refine B0 ?_;refine k1 (k2 ?_);refine A7 (qO (k:=700) (k':=701) ⟨_,rfl,rfl,rfl⟩ fD Z Z Z Z Z (.inr Z) Z (A6 (A9 Z Z) Z (B0 ?_)));refine k1 (G5 ?_);exact C0 (H6 rfl rfl rfl) (by rw[v])
set_option maxHeartbeats 1000000
theorem GO(l:List File)(p:Str)(q:l.length<=1073741824):FnOk Tryz.prog 12 [cE l,F9 p] (fun rs=>rs=[F9 ((O7 l p).getD []),F3 (O7 l p).isSome]):=by
 refine FnOk.intro Tryz.func12 (by decide) Z Z Z Z ?_;refine k2 ?_;refine A7 (A6 (A9 Z Z) Z (A6 (A9 Z Z) Z (B0 ?_)));refine k1 (k2 (k2 ?_));refine A7 (A6 (A9 Z Z) Z (B0 ?_));refine k1 (k3 ?_);refine E3 (X:=Nat) (fun i=>([(0,D7 File 2 l9 l),(1,P3 p),(6,C7 i)],[])) (fun i=>i<=l.length/\O7 l p=O7 (l.drop i) p) (fun i=>l.length-i) 0 ⟨Nat.zero_le _,rfl⟩ (Sees.of ⟨B5 rfl,B5 rfl,B5 rfl,trivial⟩ trivial) ?_;rintro i ⟨n,a⟩;dsimp only at n a ⊢;refine k2 (k2 ?_);refine A7 (A6 (A8 Z Z) Z (A6 (A8 Z Z) Z (A6 (F0 Z (.pure _ _ _ _)) Z (A6 (F2 Z Z) Z (B0 ?_)))));refine k1 ?_;refine B8 rfl (fun d=>?_) (fun d=>?_);rotate_left
 ·have b:i=l.length:=by have b:=A1 d;(try dsimp only at b);omega
  rw[A48 (by omega)]at a;rw[a];refine k6 (k2 ?_);refine A7 (A6 (A9 Z Z) Z (A6 (A9 Z Z) Z (B0 ?_)));refine k1 (G5 ?_);exact C0 (rs:=[F9 [],F3 false]) (R0 rfl rfl rfl rfl rfl) rfl
 have c:i<l.length:=by have b:=A0 d;(try dsimp only at b);omega
 obtain⟨f,h⟩:∃f,f=l[i]:=⟨_,rfl⟩
 have k:l[i]?=some f:=by rw[h];simp[c]
 rw[A41 c,<-h]at a;have j:O7 (f::l.drop (i+1)) p=if f.Path=p then some f.Blob else O7 (l.drop (i+1)) p:=rfl
 rw[j]at a;refine k5 (k1 (k2 (k3 (k2 ?_))));refine A7 (A6 (A8 Z Z) Z (A6 (A8 Z Z) Z (A6 (C1 Z (.pure _ _ _ _) Z (by omega) k) Z (A6 (L7 Z) Z (A6 (D1 Z Z) Z (A6 (A8 Z Z) Z (A6 (c7 Z Z) Z (B0 ?_))))))));refine k1 ?_;refine B8 rfl (fun d=>?_) (fun d=>?_)
 ·have b:f.Path=p:=A0 d;rw[A4 b]at a;rw[a];refine k2 ?_;refine A7 (A6 (A8 Z Z) Z (A6 (A8 Z Z) Z (A6 (C1 Z (.pure _ _ _ _) Z (by omega) k) Z (A6 (L7 Z) Z (A6 (D1 Z Z) Z (A6 (A9 Z Z) Z (A6 (A9 Z Z) Z (B0 ?_))))))));refine k1 (G5 (R5 (I2 (I2 (R5 (I2 ?_))))));exact C0 (rs:=[F9 f.Blob,F3 true]) (R0 rfl rfl rfl rfl rfl) rfl
 ·have b:¬f.Path=p:=A1 d;rw[A5 b]at a;refine k5 (k4 (k1 ?_));refine A7 (A6 (A8 Z Z) Z (A6 (C9 Z Z (by omega)) Z (A6 (A9 Z Z) Z (B0 ?_))));refine k1 ?_;exact⟨i+1,⟨c,a⟩,by omega,(Sees.of ⟨B5 rfl,B5 rfl,B5 rfl,trivial⟩ trivial)⟩
theorem DD(f:FuncId)(m:File->Bool)(l:List File)(w:l.length<=1073741824)(s:∀x∈l,FnOk Tryz.prog f [OQ x] (fun rs=>rs=[F3 (m x)])) :
  FnOk Tryz.prog 182 [cE l,.one (.v (.func (.func f) #[] #[]))] (fun rs=>∃i:Int,rs=[E2 i]/\decide (0<=i)=l.any m):=by
 refine FnOk.intro Tryz.func182 (by decide) Z Z Z Z ?_;refine k2 ?_;refine A7 (A6 (A9 Z Z) Z (B0 ?_));refine k1 (k2 (k2 ?_));refine A7 (A6 (A8 Z Z) Z (A6 (F0 Z (.pure _ _ _ _)) Z (A6 (A8 Z Z) Z (B0 ?_))));refine k1 (k3 ?_);refine E3 (X:=Nat) (fun i=>([(0,D7 File 2 l9 l),(1,K2 (.func (.func f) #[] #[])),(7,C7 l.length),(8,C7 i)],[])) (fun i=>i<=l.length/\(l.take i).any m=false) (fun i=>l.length-i) 0 ⟨Nat.zero_le _,rfl⟩ (Sees.of ⟨B5 rfl,B5 rfl,B5 rfl,B5 rfl,trivial⟩ trivial) ?_;rintro i ⟨t,h⟩;dsimp only at t h ⊢;refine k2 ?_;refine A7 (A6 (F2 Z Z) Z (B0 ?_));refine k1 (k2 ?_);refine B8 rfl (fun d=>?_) (fun d=>?_);rotate_left
 ·have g:i=l.length:=by have g:=A1 d;(try dsimp only at g);omega
  rw[g,A44]at h;refine k6 (k2 ?_);refine A7 (A6 (A9 Z Z) Z (B0 ?_));refine k1 (G5 ?_);exact C0 (rs:=[E2 (-1)]) (H6 rfl rfl rfl) ⟨-1,rfl,by rw[h];rfl⟩
 have b:i<l.length:=by have g:=A0 d;(try dsimp only at g);omega
 obtain⟨x,k⟩:∃x,x=l[i]:=⟨_,rfl⟩
 have q:l[i]?=some x:=by rw[k];simp[b]
 have j:=s x (by rw[k];exact A37 b);refine k5 (k1 (k2 (k3 (k2 ?_))));refine A7 (A6 (A8 Z Z) Z (A6 (A9 Z Z) Z (B0 ?_)));refine k1 (k2 ?_);refine A7 (A6 (A8 Z Z) Z (A6 (A8 Z Z) Z (A6 (A8 Z Z) Z (A6 (C1 Z (.pure _ _ _ _) Z (by omega) q) Z (A6 (E5 Z Z) Z (A6 (OJ (j) Z Z Z) Z (B0 ?_)))))));refine k1 ?_;refine B8 rfl (fun d=>?_) (fun d=>?_)
 ·refine k2 ?_;refine A7 (A6 (A8 Z Z) Z (A6 (A9 Z Z) Z (B0 ?_)));refine k1 (G5 (R5 (I2 (I2 (R5 (I2 ?_))))));refine C0 (rs:=[E2 i]) (H6 rfl rfl rfl) ⟨i,rfl,?_⟩;rw[List.any_eq_true.2 ⟨x,by rw[k];exact A37 b,d⟩];exact A2 (by omega)
 ·refine k5 (k4 (k1 ?_));refine A7 (A6 (C9 Z Z (by omega)) Z (A6 (A8 Z Z) Z (B0 ?_)));refine k1 ?_;refine⟨i+1,⟨b,?_⟩,by omega,(Sees.of ⟨B5 rfl,B5 rfl,B5 rfl,B5 rfl,trivial⟩ trivial)⟩;rw[List.take_add_one,q,Option.toList_some,List.any_append,h,Bool.false_or,List.any_cons,List.any_nil,Bool.or_false];exact d
theorem jC(f:FuncId)(a:File->Bool)(l:List File)(g:l.length<=1073741824)(b:∀x∈l,FnOk Tryz.prog f [OQ x] (fun rs=>rs=[F3 (a x)])) :
  FnOk Tryz.prog 111 [cE l,.one (.v (.func (.func f) #[] #[]))] (fun rs=>rs=[F3 (l.any a)]):=by
 refine FnOk.intro Tryz.func111 (by decide) Z Z Z Z ?_;refine k2 ?_;refine A7 (A6 (A9 Z Z) Z (B0 ?_));refine k1 (k2 ?_);refine A7 (A6 (A8 Z Z) Z (A6 (A8 Z Z) Z (C4 (DD f a l g b) Z Z Z ?_)));rintro _ ⟨i,rfl,d⟩;refine A6 (x9 Z Z) Z (A6 (A9 Z Z) Z (B0 ?_));refine k1 (G5 ?_);exact C0 (H6 rfl rfl rfl) (by rw[<-d])
theorem vV(f:FuncId)(m:Commit->Bool)(l:List Commit)(w:l.length<=1073741824)(s:∀x∈l,FnOk Tryz.prog f [pC x] (fun rs=>rs=[F3 (m x)])) :
  FnOk Tryz.prog 110 [I1 l,.one (.v (.func (.func f) #[] #[]))] (fun rs=>∃i:Int,rs=[E2 i]/\decide (0<=i)=l.any m):=by
 refine FnOk.intro Tryz.func110 (by decide) Z Z Z Z ?_;refine k2 ?_;refine A7 (A6 (A9 Z Z) Z (B0 ?_));refine k1 (k2 (k2 ?_));refine A7 (A6 (A8 Z Z) Z (A6 (F0 Z (.pure _ _ _ _)) Z (A6 (A8 Z Z) Z (B0 ?_))));refine k1 (k3 ?_);refine E3 (X:=Nat) (fun i=>([(0,D7 Commit 3 J3 l),(1,K2 (.func (.func f) #[] #[])),(7,C7 l.length),(8,C7 i)],[])) (fun i=>i<=l.length/\(l.take i).any m=false) (fun i=>l.length-i) 0 ⟨Nat.zero_le _,rfl⟩ (Sees.of ⟨B5 rfl,B5 rfl,B5 rfl,B5 rfl,trivial⟩ trivial) ?_;rintro i ⟨t,h⟩;dsimp only at t h ⊢;refine k2 ?_;refine A7 (A6 (F2 Z Z) Z (B0 ?_));refine k1 (k2 ?_);refine B8 rfl (fun d=>?_) (fun d=>?_);rotate_left
 ·have g:i=l.length:=by have g:=A1 d;(try dsimp only at g);omega
  rw[g,A44]at h;refine k6 (k2 ?_);refine A7 (A6 (A9 Z Z) Z (B0 ?_));refine k1 (G5 ?_);exact C0 (rs:=[E2 (-1)]) (H6 rfl rfl rfl) ⟨-1,rfl,by rw[h];rfl⟩
 have b:i<l.length:=by have g:=A0 d;(try dsimp only at g);omega
 obtain⟨x,k⟩:∃x,x=l[i]:=⟨_,rfl⟩
 have q:l[i]?=some x:=by rw[k];simp[b]
 have j:=s x (by rw[k];exact A37 b);refine k5 (k1 (k2 (k3 (k2 ?_))));refine A7 (A6 (A8 Z Z) Z (A6 (A9 Z Z) Z (B0 ?_)));refine k1 (k2 ?_);refine A7 (A6 (A8 Z Z) Z (A6 (A8 Z Z) Z (A6 (A8 Z Z) Z (A6 (C1 Z (.pure _ _ _ _) Z (by omega) q) Z (A6 (E5 Z Z) Z (A6 (OJ (j) Z Z Z) Z (B0 ?_)))))));refine k1 ?_;refine B8 rfl (fun d=>?_) (fun d=>?_)
 ·refine k2 ?_;refine A7 (A6 (A8 Z Z) Z (A6 (A9 Z Z) Z (B0 ?_)));refine k1 (G5 (R5 (I2 (I2 (R5 (I2 ?_))))));refine C0 (rs:=[E2 i]) (H6 rfl rfl rfl) ⟨i,rfl,?_⟩;rw[List.any_eq_true.2 ⟨x,by rw[k];exact A37 b,d⟩];exact A2 (by omega)
 ·refine k5 (k4 (k1 ?_));refine A7 (A6 (C9 Z Z (by omega)) Z (A6 (A8 Z Z) Z (B0 ?_)));refine k1 ?_;refine⟨i+1,⟨b,?_⟩,by omega,(Sees.of ⟨B5 rfl,B5 rfl,B5 rfl,B5 rfl,trivial⟩ trivial)⟩;rw[List.take_add_one,q,Option.toList_some,List.any_append,h,Bool.false_or,List.any_cons,List.any_nil,Bool.or_false];exact d
theorem eF(f:FuncId)(a:Commit->Bool)(l:List Commit)(g:l.length<=1073741824)(b:∀x∈l,FnOk Tryz.prog f [pC x] (fun rs=>rs=[F3 (a x)])) :
  FnOk Tryz.prog 54 [I1 l,.one (.v (.func (.func f) #[] #[]))] (fun rs=>rs=[F3 (l.any a)]):=by
 refine FnOk.intro Tryz.func54 (by decide) Z Z Z Z ?_;refine k2 ?_;refine A7 (A6 (A9 Z Z) Z (B0 ?_));refine k1 (k2 ?_);refine A7 (A6 (A8 Z Z) Z (A6 (A8 Z Z) Z (C4 (vV f a l g b) Z Z Z ?_)));rintro _ ⟨i,rfl,d⟩;refine A6 (x9 Z Z) Z (A6 (A9 Z Z) Z (B0 ?_));refine k1 (G5 ?_);exact C0 (H6 rfl rfl rfl) (by rw[<-d])
structure FewG (g:Graph):Prop where
 len:g.length<=1000
 pars:∀c∈g,c.Parents.length<=1048576
theorem gA{l:List Bool}{c:Nat}(h:c<l.length):l[c]?=some (H0 l c):=by
 unfold H0;rw[A32 h];rfl
theorem PZ(l:List Int)(n:Int)(j:l.length<=1073741824):FnOk Tryz.prog 181 [O1 l,E2 n] (fun rs=>∃i:Int,rs=[E2 i]/\decide (0<=i)=decide (n∈l)):=by
 refine FnOk.intro Tryz.func181 (by decide) Z Z Z Z ?_;refine k2 ?_;refine A7 (A6 (A9 Z Z) Z (B0 ?_));refine k1 (k2 (k2 ?_));refine A7 (A6 (A8 Z Z) Z (A6 (F0 Z (.pure _ _ _ _)) Z (A6 (A8 Z Z) Z (B0 ?_))));refine k1 (k3 ?_);refine E3 (X:=Nat) (fun i=>([(0,D7 Int 1 H1 l),(1,C7 n),(7,C7 l.length),(8,C7 i)],[])) (fun i=>i<=l.length/\n∉l.take i) (fun i=>l.length-i) 0 ⟨Nat.zero_le _,by simp⟩ (Sees.of ⟨B5 rfl,B5 rfl,B5 rfl,B5 rfl,trivial⟩ trivial) ?_;rintro i ⟨f,d⟩;dsimp only at f d ⊢;refine k2 ?_;refine A7 (A6 (F2 Z Z) Z (B0 ?_));refine k1 (k2 ?_);refine B8 rfl (fun c=>?_) (fun c=>?_);rotate_left
 ·have a:i=l.length:=by have a:=A1 c;(try dsimp only at a);omega
  rw[a,A44]at d;refine k6 (k2 ?_);refine A7 (A6 (A9 Z Z) Z (B0 ?_));refine k1 (G5 ?_);exact C0 (rs:=[E2 (-1)]) (H6 rfl rfl rfl) ⟨-1,rfl,by rw[A3 d];rfl⟩
 have b:i<l.length:=by have a:=A0 c;(try dsimp only at a);omega
 have g:l[i]?=some l[i]:=by simp[b]
 refine k5 (k1 (k2 (k3 (k2 ?_))));refine A7 (A6 (A8 Z Z) Z (A6 (A9 Z Z) Z (B0 ?_)));refine k1 (k2 ?_);refine A7 (A6 (A8 Z Z) Z (A6 (A8 Z Z) Z (A6 (A8 Z Z) Z (A6 (C1 Z (.pure _ _ _ _) Z (by omega) g) Z (A6 (D1 Z Z) Z (A6 (I3 Z Z) Z (B0 ?_)))))));refine k1 ?_;refine B8 rfl (fun c=>?_) (fun c=>?_)
 ·have a:n=l[i]:=A0 c;refine k2 ?_;refine A7 (A6 (A8 Z Z) Z (A6 (A9 Z Z) Z (B0 ?_)));refine k1 (G5 (R5 (I2 (I2 (R5 (I2 ?_))))));refine C0 (rs:=[E2 i]) (H6 rfl rfl rfl) ⟨i,rfl,?_⟩;rw[A2 (show n∈l from a ▸ A37 b)];exact A2 (by omega)
 ·have a:¬n=l[i]:=A1 c;refine k5 (k4 (k1 ?_));refine A7 (A6 (C9 Z Z (by omega)) Z (A6 (A8 Z Z) Z (B0 ?_)));refine k1 ?_;refine⟨i+1,⟨b,?_⟩,by omega,(Sees.of ⟨B5 rfl,B5 rfl,B5 rfl,B5 rfl,trivial⟩ trivial)⟩;rw[List.take_add_one,A32 b,Option.toList_some,A40,List.mem_singleton];rintro (h | h)
  ·exact d h
  ·exact a h
theorem DE(l:List Int)(n:Int)(b:l.length<=1073741824):FnOk Tryz.prog 109 [O1 l,E2 n] (fun rs=>rs=[F3 (decide (n∈l))]):=by
 refine FnOk.intro Tryz.func109 (by decide) Z Z Z Z ?_;refine k2 ?_;refine A7 (A6 (A9 Z Z) Z (B0 ?_));refine k1 (k2 ?_);refine A7 (A6 (A8 Z Z) Z (A6 (A8 Z Z) Z (C4 (PZ l n b) Z Z Z ?_)));rintro _ ⟨i,rfl,a⟩;refine A6 (x9 Z Z) Z (A6 (A9 Z Z) Z (B0 ?_));refine k1 (G5 ?_);exact C0 (H6 rfl rfl rfl) (by rw[<-a])
theorem DF(c:Commit)(d:c.Parents.length<=1073741824):FnOk Tryz.prog 108 [pC c] (fun a=>a=[F3 (decide (c.Parents.length>32))]):=by
 refine FnOk.intro Tryz.func108 (by decide) Z Z Z Z ?_;refine k2 ?_;refine A7 (D2 (Y7 1 Z Z Z) Z (A6 (A9 Z Z) Z (B0 ?_)));refine k1 (k2 ?_);refine A7 (A6 (B1 Z) Z (A6 (B2 Z Z Z) Z (A6 (F0 Z (.pure _ _ _ _)) Z (A6 (P8 Z Z) Z (A6 (A9 Z Z) Z (B0 ?_))))));refine k1 (G5 ?_);exact C0 (H6 rfl rfl rfl) (congrArg (fun b=>[F3 b]) (decide_eq_decide.2 ⟨fun h=>by omega,fun h=>by omega⟩))
theorem GP(g:Graph)(f:FewG g)(b:g.length<=1073741824):FnOk Tryz.prog 51 [I1 g] (fun rs=>rs=[F3 (aO g)]):=by
 refine FnOk.intro Tryz.func51 (by decide) Z Z Z Z ?_;refine k2 ?_;refine A7 (A6 (A9 Z Z) Z (B0 ?_));refine k1 (k2 ?_);refine A7 (A6 (A8 Z Z) Z (A6 (F0 Z (.pure _ _ _ _)) Z (A6 (fP Z Z) Z (A6 (A8 Z Z) Z (B4 Z Z Z Z (fun a=>by rw[a];exact A8 Z Z) ?_)))));refine B4 Z Z Z Z (fun a=>by have i:=a;(try simp at i);rw[a];exact H4 (eF 108 (fun c=>decide (c.Parents.length>32)) g b (fun c d=>DF c (by have:=f.pars c d;omega))) Z Z) ?_;refine B4 Z Z Z Z (fun a=>by rw[a];exact G7 Z) ?_;refine A6 (B9 Z (fun h=>by first | rfl | (rw[h];rfl)) (fun h=>by first | rfl | (rw[h];rfl))) Z ?_;refine A6 (A9 Z Z) Z (B0 ?_);refine k1 (G5 ?_);refine C0 (H6 Z Z Z) ?_;unfold aO;rw[sS,show decide ((g.length:Int)<=300)=decide (g.length<=300) from decide_eq_decide.2 (by omega)]
theorem LA(c:Commit):FnOk Tryz.prog 55 [pC c] (fun rs=>rs=[F3 (decide (c.Date<0\/c.Date>2147483647))]):=by
 refine FnOk.intro Tryz.func55 (by decide) Z Z Z Z ?_;refine k2 ?_;refine A7 (D2 (Y7 1 Z Z Z) Z (A6 (A9 Z Z) Z (B0 ?_)));refine k1 (k2 ?_);refine A7 (A6 (B1 Z) Z (A6 (B2 Z Z Z) Z (A6 (F2 Z Z) Z (A6 (A8 Z Z) Z (B4 Z Z Z Z (fun a=>by rw[a];exact B1 Z) ?_)))));refine B4 Z Z Z Z (fun a=>by rw[a];exact B2 Z Z Z) ?_;refine B4 Z Z Z Z (fun a=>by rw[a];exact P8 Z Z) ?_;refine A6 (B9 Z (fun h=>by first | rfl | (rw[h];rfl)) (fun h=>by first | rfl | (rw[h];rfl))) Z ?_;refine A6 (A9 Z Z) Z (B0 ?_);refine k1 (G5 ?_);refine C0 (H6 Z Z Z) ?_;rw[or_pick]
theorem LB(g:Graph)(c:Int):FnOk Tryz.prog 21 [I1 g,E2 c] (fun rs=>rs=[F3 (decide (dT g c))]):=by
 refine FnOk.intro Tryz.func21 (by decide) Z Z Z Z ?_;refine k2 ?_;refine A7 (A6 (A9 Z Z) Z (B0 ?_));refine k1 (k2 ?_);refine A7 (A6 (A8 Z Z) Z (A6 (x9 Z Z) Z (A6 (A8 Z Z) Z (B4 Z Z Z Z (fun a=>by rw[a];exact A8 Z Z) ?_))));refine B4 Z Z Z Z (fun a=>by rw[a];exact A8 Z Z) ?_;refine B4 Z Z Z Z (fun a=>by rw[a];exact F0 Z (.pure _ _ _ _)) ?_;refine B4 Z Z Z Z (fun a=>by rw[a];exact F2 Z Z) ?_;refine A6 (B9 Z (fun h=>by first | rfl | (rw[h];rfl)) (fun h=>by first | rfl | (rw[h];rfl))) Z ?_;refine A6 (A9 Z Z) Z (B0 ?_);refine k1 (G5 ?_);refine C0 (H6 Z Z Z) ?_;rw[and_pick];rfl
theorem GQ(g:Graph)(E:FewG g)(d:g.length<=1073741824):FnOk Tryz.prog 52 [I1 g] (fun rs=>rs=[F3 (related g)]):=by
 refine FnOk.intro Tryz.func52 (by decide) Z Z Z Z ?_;refine k2 ?_;refine A7 (A6 (A9 Z Z) Z (B0 ?_));refine k1 (k2 (k2 ?_));refine A7 (A6 (A8 Z Z) Z (A6 (F0 Z (.pure _ _ _ _)) Z (A6 (A8 Z Z) Z (B0 ?_))));refine k1 (k3 ?_);refine E3 (X:=Nat) (fun i=>([(0,D7 Commit 3 J3 g),(7,D7 Commit 3 J3 g),(8,C7 g.length),(9,C7 i)],[])) (fun i=>i<=g.length/\((g.take i).all fun c=>kM g.length [] c.Parents)=true) (fun i=>g.length-i) 0 ⟨Nat.zero_le _,rfl⟩ (Sees.of ⟨B5 rfl,B5 rfl,B5 rfl,B5 rfl,trivial⟩ trivial) ?_;rintro i ⟨F,ha⟩;dsimp only at F ha ⊢;refine k2 ?_;refine A7 (A6 (F2 Z Z) Z (B0 ?_));refine k1 (k2 ?_);refine B8 rfl (fun m=>?_) (fun m=>?_);rotate_left
 ·have j:i=g.length:=by have j:=A1 m;(try dsimp only at j);omega
  rw[j,A44]at ha;refine k6 (k2 ?_);refine A7 (A6 (A9 Z Z) Z (B0 ?_));refine k1 (G5 ?_);exact C0 (rs:=[F3 true]) (H6 rfl rfl rfl) (by unfold related;rw[ha])
 have w:i<g.length:=by have j:=A0 m;(try dsimp only at j);omega
 obtain⟨c,A⟩:∃c,c=g[i]:=⟨_,rfl⟩
 have D:g[i]?=some c:=by rw[A];simp[w]
 have I:=E.pars c (by rw[A];exact A37 w);have z:kM g.length [] c.Parents=false->[F3 false]=[F3 (related g)]:=fun h=>by
  have:related g=false:=by
   unfold related;rw[List.all_eq_false];exact⟨c,by rw[A];exact A37 w,by rw[h];decide⟩
  rw[this]
 refine k5 (k1 (k2 (k3 (k2 ?_))));refine A7 (A6 (C1 Z (.pure _ _ _ _) Z (by omega) D) Z (A6 (E5 Z Z) Z (D2 (G3 4 Z) Z (F4 (C2 TySz.out Z Z Z Z Z Z) (B0 ?_)))));refine k1 (k2 ?_);refine A7 (A6 (B1 Z) Z (A6 (B2 Z Z Z) Z (A6 (F0 Z (.pure _ _ _ _)) Z (A6 (A8 Z Z) Z (B0 ?_)))));refine k1 (k3 ?_);refine E3 (X:=Nat) (fun k=>([(0,D7 Commit 3 J3 g),(4,.s (.one (.ref 4 0))),(7,D7 Commit 3 J3 g),(8,C7 g.length),(9,C7 i),(14,D7 Int 1 H1 c.Parents),(15,C7 c.Parents.length),(16,C7 k)],[(4,.box (pC c).s1.cells)])) (fun k=>k<=c.Parents.length/\kM g.length [] c.Parents=kM g.length (c.Parents.take k) (c.Parents.drop k)) (fun k=>c.Parents.length-k) 0 ⟨Nat.zero_le _,rfl⟩ (Sees.of ⟨B5 rfl,B5 rfl,B5 rfl,B5 rfl,B5 rfl,B5 rfl,B5 rfl,B5 rfl,trivial⟩ ⟨rfl,trivial⟩) ?_;rintro k ⟨G,v⟩;dsimp only at G v ⊢;refine k2 ?_;refine A7 (A6 (F2 Z Z) Z (B0 ?_));refine k1 (k2 ?_);refine B8 rfl (fun m=>?_) (fun m=>?_);rotate_left
 ·have j:k=c.Parents.length:=by have j:=A1 m;(try dsimp only at j);omega
  rw[j,List.drop_length]at v;refine k6 (k7 (k7 (k8 Z (k4 (k1 ?_)))));refine A7 (A6 (C9 Z Z (by omega)) Z (A6 (A8 Z Z) Z (B0 ?_)));refine k1 ?_;refine⟨i+1,⟨w,?_⟩,by omega,(Sees.of ⟨B5 rfl,B5 rfl,B5 rfl,B5 rfl,trivial⟩ trivial)⟩;rw[List.take_add_one,D,Option.toList_some,A85,ha,Bool.true_and,List.all_cons,List.all_nil,Bool.and_true,v];rfl
 have q:k<c.Parents.length:=by have j:=A0 m;(try dsimp only at j);omega
 have y:c.Parents[k]?=some c.Parents[k]:=by simp[q]
 rw[A41 q]at v;obtain⟨p,H⟩:∃p,p=c.Parents[k]:=⟨_,rfl⟩
 rw[<-H]at y v;have C:c.Parents.take (k+1)=c.Parents.take k++[p]:=by rw[List.take_add_one,y,Option.toList_some]
 rw[kM,<-C]at v;refine k5 (k1 (k2 (k3 (k2 ?_))));refine A7 (A6 (A8 Z Z) Z (A6 (C1 Z (.pure _ _ _ _) Z (by omega) y) Z (A6 (D1 Z Z) Z (A6 (A9 Z Z) Z (A6 (A9 Z Z) Z (B0 ?_))))));refine k1 (k2 ?_);refine A7 (A6 (A8 Z Z) Z (A6 (F2 Z Z) Z (A6 (A8 Z Z) Z (B4 Z Z Z Z (fun d=>by rw[d];exact A8 Z Z) ?_))));refine B4 Z Z Z Z (fun d=>by rw[d];exact A8 Z Z) ?_;refine B4 Z Z Z Z (fun d=>by rw[d];exact F0 Z (.pure _ _ _ _)) ?_;refine B4 Z Z Z Z (fun d=>by rw[d];exact x9 Z Z) ?_;refine A6 (B9 Z (fun h=>by first | rfl | (rw[h];rfl)) (fun h=>by first | rfl | (rw[h];rfl))) Z ?_;refine A6 (A8 Z Z) Z (B4 Z Z Z Z (fun d=>by rw[d];exact B1 Z) ?_);refine B4 Z Z Z Z (fun d=>by rw[d];exact B2 Z Z Z) ?_;refine B4 Z Z Z Z (fun d=>by rw[d];exact A8 Z Z) ?_;refine B4 Z Z Z Z (fun d=>by have B:=d;(try simp at B);rw[d];exact qI Z (.pure _ _ _ _) Z (by omega) (by omega)) ?_;refine B4 Z Z Z Z (fun d=>by rw[d];exact A8 Z Z) ?_;refine B4 Z Z Z Z (fun d=>by have B:=d;(try simp at B);rw[d];exact H4 (DE (c.Parents.take ((k:Nat):Int).toNat) p (by rw[A42];omega)) Z Z) ?_;refine A6 (B9 Z (fun h=>by first | rfl | (rw[h];rfl)) (fun h=>by first | rfl | (rw[h];rfl))) Z ?_;refine B0 ?_;refine k1 ?_;rw[A36,ifOr,ifOr];refine B8 rfl (fun m=>?_) (fun m=>?_)
 ·rw[A59,A59,decide_eq_true_eq,decide_eq_true_eq,decide_eq_true_eq]at m;have j:decide (0<=p/\p<(g.length:Int)/\p∉c.Parents.take k)=false:=by
   rw[decide_eq_false_iff_not];rintro⟨J,a2,a3⟩;rcases m with (h | h) | h
   ·omega
   ·omega
   ·exact a3 h
  rw[j,Bool.false_and]at v;refine k2 ?_;refine A7 (A6 (A9 Z Z) Z (B0 ?_));refine k1 (G5 (R5 (I2 (I2 (R5 (R5 (I2 (I2 (R5 (I2 ?_))))))))));exact C0 (rs:=[F3 false]) (H6 rfl rfl rfl) (z v)
 ·rw[A81,A81,decide_eq_false_iff_not,decide_eq_false_iff_not,decide_eq_false_iff_not]at m;have j:decide (0<=p/\p<(g.length:Int)/\p∉c.Parents.take k)=true:=A2 ⟨by omega,by omega,m.2⟩;rw[j,Bool.true_and]at v;refine k5 (k4 (k1 ?_));refine A7 (A6 (C9 Z Z (by omega)) Z (A6 (A8 Z Z) Z (B0 ?_)));refine k1 ?_;exact⟨k+1,⟨q,v⟩,by omega,(Sees.of ⟨B5 rfl,B5 rfl,B5 rfl,B5 rfl,B5 rfl,B5 rfl,B5 rfl,B5 rfl,trivial⟩ ⟨rfl,trivial⟩)⟩
theorem DG(ps l:List Int)(k:Nat)(h:k<ps.length):Y5 (ps.take (k+1)) l=bump (Y5 (ps.take k) l) ps[k]:=by
 unfold Y5;rw[List.take_add_one,A32 h,Option.toList_some,A82];rfl
theorem LC{l:List Int}{p:Int}(h:0<=p/\p<l.length):l[p.toNat]?=some (O5 l p.toNat):=by
 unfold O5;rw[A32 (by omega)];rfl
theorem LD{ps:List Int}{l:List Int}{p:Nat}(b:∀p∈ps,0<=p/\p<l.length)(a:ps.Nodup):O5 l p<=O5 (Y5 ps l) p/\O5 (Y5 ps l) p<=O5 l p+1:=by
 rw[nU (n:=0) b a];split<;>omega
theorem GR{g:Graph}(d:related g=true){i p:Nat}(a:i<=g.length)(b:p<g.length):0<=O5 (Q6 g i) p/\O5 (Q6 g i) p<=i:=by
 rw[kO d p b i a];have:=List.countP_le_length (p:=fun c=>decide ((p:Int)∈F1 g c)) (l:=List.range i);rw[A72]at this;omega
theorem LF(g:Graph)(hf:FewG g)(W:related g=true):FnOk Tryz.prog 53 [I1 g] (fun rs=>∃ch w,rs=[O1 w]/\KInv g w.length 0 ch w):=by
 have hg:=hf.len;refine FnOk.intro Tryz.func53 (by decide) Z Z Z Z ?_;refine k2 ?_;refine A7 (A6 (A9 Z Z) Z (B0 ?_));refine k1 (k2 ?_);refine A7 (A6 (A8 Z Z) Z (A6 (F0 Z (.pure _ _ _ _)) Z (D2 (gO 753 Int H1 0 Z Z (by omega) (by omega) (fun _=>by first | exact⟨⟨rfl,rfl⟩,trivial⟩ | exact⟨J5 _ _ _,trivial⟩ | exact⟨J5 _ _ _,⟨rfl,rfl⟩,J5 _ _ _,trivial⟩ | exact⟨⟨rfl,rfl⟩,⟨rfl,rfl⟩,trivial⟩) (by first | rfl | (simp[H9,N6,Ob.free,SV.free,S1.free,TC.free]<;>rfl))) Z ?_)));refine A6 (A9 Z Z) Z (B0 ?_);refine k1 (k2 (k2 ?_));refine A7 (A6 (A8 Z Z) Z (A6 (F0 Z (.pure _ _ _ _)) Z (A6 (A8 Z Z) Z (B0 ?_))));refine k1 (k3 ?_);rw[A36];refine E3 (X:=Nat) (fun i=>([(0,D7 Commit 3 J3 g),(3,.s (.one (.mut 753))),(17,D7 Commit 3 J3 g),(18,C7 g.length),(19,C7 i)],[(753,.arr Int 1 H1 (Q6 g i))])) (fun i=>i<=g.length) (fun i=>g.length-i) 0 (Nat.zero_le _) (Sees.of ⟨B5 rfl,B5 rfl,B5 rfl,B5 rfl,B5 rfl,trivial⟩ ⟨rfl,trivial⟩) ?_;intro i V;dsimp only at V ⊢;refine k2 ?_;refine A7 (A6 (F2 Z Z) Z (B0 ?_));refine k1 (k2 ?_);refine B8 rfl (fun j=>?_) (fun j=>?_)
 ·have G:i<g.length:=by have d:=A0 j;(try dsimp only at d);omega
  obtain⟨c,P⟩:∃c,c=g[i]:=⟨_,rfl⟩
  have hv:g[i]?=some c:=by rw[P];simp[G]
  have H:F1 g i=c.Parents:=by rw[gK G,P]
  have hpr:=O4 W i;have ai:=hf.pars c (by rw[P];exact A37 G);have hs:=mT G;rw[H]at hpr hs;have C:=cS g i;have U:=fun p (T:p<g.length)=>GR W (i:=i) (p:=p) (by omega) T;obtain⟨z,hz⟩:∃z,z=Q6 g i:=⟨_,rfl⟩
  rw[<-hz]at hs C U ⊢;refine k5 (k1 (k2 (k3 (k2 ?_))));refine A7 (A6 (C1 Z (.pure _ _ _ _) Z (by omega) hv) Z (A6 (E5 Z Z) Z (D2 (G3 5 Z) Z (F4 (C2 TySz.out Z Z Z Z Z Z) (B0 ?_)))));refine k1 (k2 ?_);refine A7 (A6 (B1 Z) Z (A6 (B2 Z Z Z) Z (A6 (F0 Z (.pure _ _ _ _)) Z (A6 (A8 Z Z) Z (B0 ?_)))));refine k1 (k3 ?_);refine E3 (X:=Nat) (fun k=>([(0,D7 Commit 3 J3 g),(3,.s (.one (.mut 753))),(17,D7 Commit 3 J3 g),(18,C7 g.length),(19,C7 i),(24,D7 Int 1 H1 c.Parents),(25,C7 c.Parents.length),(26,C7 k)],[(753,.arr Int 1 H1 (Y5 (c.Parents.take k) z))])) (fun k=>k<=c.Parents.length) (fun k=>c.Parents.length-k) 0 (Nat.zero_le _) (Sees.of ⟨B5 rfl,B5 rfl,B5 rfl,B5 rfl,B5 rfl,B5 rfl,B5 rfl,B5 rfl,trivial⟩ ⟨rfl,trivial⟩) ?_;intro k hk;dsimp only at hk ⊢;have L:=kN (c.Parents.take k) z;refine k2 ?_;refine A7 (A6 (F2 Z Z) Z (B0 ?_));refine k1 (k2 ?_);refine B8 rfl (fun j=>?_) (fun j=>?_);rotate_left
  ·have d:k=c.Parents.length:=by have d:=A1 j;(try dsimp only at d);omega
   rw[d,A44,<-hs];refine k6 (k7 (k7 (k8 Z (k4 (k1 ?_)))));refine A7 (A6 (C9 Z Z (by omega)) Z (A6 (A8 Z Z) Z (B0 ?_)));refine k1 ?_;exact⟨i+1,G,by omega,(Sees.of ⟨B5 rfl,B5 rfl,B5 rfl,B5 rfl,B5 rfl,trivial⟩ ⟨rfl,trivial⟩)⟩
  have y:k<c.Parents.length:=by have d:=A0 j;(try dsimp only at d);omega
  have J:c.Parents[k]?=some c.Parents[k]:=by simp[y]
  have R:=hpr.1 _ (A37 y);have ab:=DG c.Parents z k y;obtain⟨p,T⟩:∃p,p=c.Parents[k]:=⟨_,rfl⟩
  rw[<-T]at J R ab;have hb:=LD (ps:=c.Parents.take k) (l:=z) (p:=p.toNat) (fun q hq=>by rw[C];exact hpr.1 q (List.mem_of_mem_take hq)) (hpr.2.sublist (List.take_sublist _ _));have hh:=U p.toNat (by omega)
  have I:=LC (l:=Y5 (c.Parents.take k) z) (p:=p) (by rw[L,C];exact R);refine k5 (k1 (k2 (k3 (k2 ?_))));refine A7 (A6 (C1 Z (.pure _ _ _ _) Z (by omega) J) Z (A6 (D1 Z Z) Z (A6 (A9 Z Z) Z (B0 ?_))));refine k1 ?_;refine A7 (A6 (A8 Z Z) Z (A6 (A8 Z Z) Z (A6 (I5 Z Z Z (by omega) (by (rw[L];omega))) Z ?_)));refine A6 (U8 Z Z I Z) Z (A6 (C9 Z Z (by omega)) Z (A6 (I5 Z Z Z (by omega) (by (rw[L];omega))) Z ?_));refine F4 (O2 TySz.out Z Z (by (rw[L];omega)) Z Z) ?_;refine B0 ?_;refine k4 (k1 ?_);refine A7 (A6 (C9 Z Z (by omega)) Z (A6 (A8 Z Z) Z (B0 ?_)));refine k1 ?_;refine⟨k+1,by omega,by omega,?_⟩;rw[ab];exact (Sees.of ⟨B5 rfl,B5 rfl,B5 rfl,B5 rfl,B5 rfl,B5 rfl,B5 rfl,B5 rfl,trivial⟩ ⟨rfl,trivial⟩)
 have Q:i=g.length:=by have d:=A1 j;(try dsimp only at d);omega
 rw[Q];have ac:=KInv.start W;obtain⟨z,hz⟩:∃z,z=Q6 g g.length:=⟨_,rfl⟩
 have af:z.length=g.length:=by rw[hz];exact cS g _
 rw[<-hz]at ac ⊢;refine k6 (k2 ?_);refine A7 (D2 (r5 8 _ H1 Z) Z (B0 ?_));refine k1 (k2 (k2 ?_));refine A7 (A6 (A8 Z Z) Z (A6 (PK Z Z) Z (A6 (A8 Z Z) Z (B0 ?_))));refine k1 (k3 ?_);refine E3 (X:=Nat) (fun i=>([(0,D7 Commit 3 J3 g),(3,.s (.one (.mut 753))),(8,.s (.one (.buf 8 Int 1 H1 (V7 z i)))),(38,.s (.one (.mut 753))),(39,C7 g.length),(40,C7 i)],[(8,.spare (V7 z i).length 1 3),(753,.arr Int 1 H1 z)])) (fun i=>i<=g.length) (fun i=>g.length-i) 0 (Nat.zero_le _) (by rw[<-af];exact (Sees.of ⟨B5 rfl,B5 rfl,B5 rfl,B5 rfl,B5 rfl,B5 rfl,trivial⟩ ⟨rfl,rfl,trivial⟩)) ?_;intro i V;dsimp only at V ⊢;have an:=JL z i;have M:=EY z i;refine k2 ?_;refine A7 (A6 (F2 Z Z) Z (B0 ?_));refine k1 (k2 ?_);refine B8 rfl (fun j=>?_) (fun j=>?_)
 ·have G:i<g.length:=by have d:=A0 j;(try dsimp only at d);omega
  have I:=LC (l:=z) (p:=(i:Int)) (by omega);rw[A36]at I;refine k5 (k1 (k2 (k3 (k2 ?_))));refine A7 (A6 (A8 Z Z) Z (A6 (I5 Z Z Z (by omega) (by (rw[af];omega))) Z ?_));refine A6 (U8 Z Z I Z) Z (A6 (A9 Z Z) Z (A6 (A9 Z Z) Z (B0 ?_)));refine k1 (k2 ?_);refine A7 (A6 (A8 Z Z) Z (A6 (I3 Z Z) Z (B0 ?_)));refine k1 ?_;refine B8 rfl (fun j=>?_) (fun j=>?_)
  ·have d:O5 z i=0:=A0 j;rw[A4 d]at M;skip;refine A7 (A6 (A8 Z Z) Z (A6 (A8 Z Z) Z (A6 (E0 (c:=H1) (ys:=[(i:Int)]) (D9 Z Z Z Z H2) Z Z Z) Z (D2 (L1 Z Z Z (.pure _ _ _ _) (by (simp only[A34,A38];omega)) Z) Z (A6 (A9 Z Z) Z (B0 ?_))))));refine k4 (k1 ?_);refine A7 (A6 (C9 Z Z (by omega)) Z (A6 (A8 Z Z) Z (B0 ?_)));refine k1 ?_;refine⟨i+1,by omega,by omega,?_⟩;rw[M];exact (Sees.of ⟨B5 rfl,B5 rfl,B5 rfl,B5 rfl,B5 rfl,B5 rfl,trivial⟩ ⟨rfl,rfl,trivial⟩)
  ·have d:¬O5 z i=0:=A1 j;rw[A5 d]at M;refine k5 (k4 (k1 ?_));refine A7 (A6 (C9 Z Z (by omega)) Z (A6 (A8 Z Z) Z (B0 ?_)));refine k1 ?_;refine⟨i+1,by omega,by omega,?_⟩;rw[M];exact (Sees.of ⟨B5 rfl,B5 rfl,B5 rfl,B5 rfl,B5 rfl,B5 rfl,trivial⟩ ⟨rfl,rfl,trivial⟩)
 have Q:i=g.length:=by have d:=A1 j;(try dsimp only at d);omega
 rw[Q];refine k6 (k2 (k2 ?_));refine A7 (A6 (A9 Z Z) Z (B0 ?_));refine k1 (k3 ?_);refine E3 (X:=Nat×List Int×List Int) (fun x=>([(0,D7 Commit 3 J3 g),(3,.s (.one (.mut 753))),(8,.s (.one (.buf 8 Int 1 H1 x.2.2))),(11,C7 x.1)],[(8,.spare x.2.2.length 1 3),(753,.arr Int 1 H1 x.2.1)])) (fun x=>x.1<=x.2.2.length/\KInv g x.1 0 x.2.1 x.2.2) (fun x=>g.length-x.1) (0,z,V7 z g.length) ⟨Nat.zero_le _,ac⟩ (Sees.of ⟨B5 rfl,B5 rfl,B5 rfl,B5 rfl,trivial⟩ ⟨rfl,rfl,trivial⟩) ?_;rintro⟨k,ch,w⟩ ⟨hk,S⟩;dsimp only at hk S ⊢;have am:=S.le;refine k2 (k2 ?_);refine A7 (A6 (A8 Z Z) Z (A6 (A8 Z Z) Z (A6 (F0 Z (.buf _ _ _ _ _)) Z (A6 (F2 Z Z) Z (B0 ?_)))));refine k1 ?_;refine B8 rfl (fun j=>?_) (fun j=>?_);rotate_left
 ·have d:k=w.length:=by have d:=A1 j;(try dsimp only at d);omega
  rw[d]at S;refine k6 (k2 ?_);refine A7 (A6 (A8 Z Z) Z (A6 (A9 Z Z) Z (B0 ?_)));refine k1 (G5 ?_);exact C0 (rs:=[O1 w]) (H6 rfl rfl rfl) ⟨ch,w,rfl,S⟩
 have y:k<w.length:=by have d:=A0 j;(try dsimp only at d);omega
 have al:=S.rng _ (A37 y);obtain⟨K,ag⟩:∃K:Nat,w[k]=(K:Int):=⟨w[k].toNat,by omega⟩
 have ae:w[k]?=some (K:Int):=by rw[A32 y,ag]
 have C:K<g.length:=by omega
 obtain⟨c,P⟩:∃c,c=g[K]:=⟨_,rfl⟩
 have aj:g[((K:Nat):Int).toNat]?=some c:=by rw[P];simp[C]
 have H:F1 g K=c.Parents:=by rw[gK C,P]
 have ai:=hf.pars c (by rw[P];exact A37 C);refine k5 (k1 (k2 (k3 (k2 ?_))));refine A7 (A6 (A8 Z Z) Z (A6 (A8 Z Z) Z (A6 (A8 Z Z) Z (A6 (C1 Z (.buf _ _ _ _ _) Z (by omega) ae) Z (A6 (D1 Z Z) Z (A6 (C1 Z (.pure _ _ _ _) Z (by omega) aj) Z (A6 (L7 Z) Z (A6 (D1 Z Z) Z (A6 (F0 Z (.pure _ _ _ _)) Z (A6 (A8 Z Z) Z (B0 ?_)))))))))));refine k1 (k3 ?_);refine E3 (X:=Nat×List Int×List Int) (fun x=>([(0,D7 Commit 3 J3 g),(3,.s (.one (.mut 753))),(8,.s (.one (.buf 8 Int 1 H1 x.2.2))),(11,C7 k),(65,D7 Int 1 H1 c.Parents),(66,C7 c.Parents.length),(67,C7 x.1)],[(8,.spare x.2.2.length 1 3),(753,.arr Int 1 H1 x.2.1)])) (fun x=>x.1<=c.Parents.length/\k<x.2.2.length/\x.2.2[k]?=some (K:Int)/\KInv g k x.1 x.2.1 x.2.2) (fun x=>c.Parents.length-x.1) (0,ch,w) ⟨Nat.zero_le _,y,ae,S⟩ (Sees.of ⟨B5 rfl,B5 rfl,B5 rfl,B5 rfl,B5 rfl,B5 rfl,B5 rfl,trivial⟩ ⟨rfl,rfl,trivial⟩) ?_;rintro⟨i,v,E⟩ ⟨V,hkl,B,F⟩;dsimp only at V hkl B F ⊢;have ak:=F.le;have D:=F.len;have O:E[k]=(K:Int):=by rw[A32 hkl]at B;exact Option.some.inj B
 refine k2 ?_;refine A7 (A6 (F2 Z Z) Z (B0 ?_));refine k1 (k2 ?_);refine B8 rfl (fun j=>?_) (fun j=>?_);rotate_left
 ·have d:i=c.Parents.length:=by have d:=A1 j;(try dsimp only at d);omega
  rw[d,<-H]at F;have hN:=F.next hkl O;refine k6 (k7 (k7 (k8 Z (k4 (k1 ?_)))));refine A7 (A6 (A8 Z Z) Z (A6 (C9 Z Z (by omega)) Z (A6 (A9 Z Z) Z (B0 ?_))));refine k1 ?_;exact⟨(k+1,v,E),⟨by dsimp only;omega,hN⟩,by dsimp only;omega,(Sees.of ⟨B5 rfl,B5 rfl,B5 rfl,B5 rfl,trivial⟩ ⟨rfl,rfl,trivial⟩)⟩
 have A:i<c.Parents.length:=by have d:=A0 j;(try dsimp only at d);omega
 have J:c.Parents[i]?=some c.Parents[i]:=by simp[A]
 have R:=(O4 W K).1 c.Parents[i] (by rw[H];exact A37 A);obtain⟨p,T⟩:∃p:Nat,c.Parents[i]=(p:Int):=⟨c.Parents[i].toNat,by omega⟩
 rw[T]at J;obtain⟨s1,s2,s3,s4⟩:=F.step W hkl O (i:=i) (p:=p) (by rw[H];exact A) (by simp only[H];exact T);have I:=LC (l:=v) (p:=(p:Int)) (by omega);have ad:(aN v p)[((p:Nat):Int).toNat]?=some (O5 v p-1):=by
  unfold aN;rw[A36,A83 (by omega)]
 have ah:(aN v p).length=g.length:=by unfold aN;rw[A74,D]
 have Y:v.set ((p:Nat):Int).toNat (O5 v ((p:Nat):Int).toNat-1)=aN v p:=rfl;refine k5 (k1 (k2 (k3 (k2 ?_))));refine A7 (A6 (C1 Z (.pure _ _ _ _) Z (by omega) J) Z (A6 (D1 Z Z) Z (A6 (A9 Z Z) Z (B0 ?_))));refine k1 (k2 ?_);refine A7 (A6 (A8 Z Z) Z (A6 (A8 Z Z) Z (A6 (I5 Z Z Z (by omega) (by (rw[D];omega))) Z ?_)));refine A6 (U8 Z Z I Z) Z (A6 (K3 Z Z (by (rw[A36];omega))) Z ?_);refine A6 (I5 Z Z Z (by omega) (by (rw[D];omega))) Z ?_;refine F4 (O2 TySz.out Z Z (by (rw[D];omega)) Z Z) ?_;refine B0 ?_;rw[Y];refine k1 (k2 ?_);refine A7 (A6 (A8 Z Z) Z (A6 (A8 Z Z) Z (A6 (I5 Z Z Z (by omega) (by (rw[ah];omega))) Z ?_)));refine A6 (U8 Z Z ad Z) Z (A6 (I3 Z Z) Z (B0 ?_));refine k1 ?_;refine B8 rfl (fun j=>?_) (fun j=>?_)
 ·have d:O5 v p-1=0:=A0 j;rw[A4 d]at s4;skip;refine A7 (A6 (A8 Z Z) Z (A6 (A8 Z Z) Z (A6 (E0 (c:=H1) (ys:=[(p:Int)]) (D9 Z Z Z Z H2) Z Z Z) Z (D2 (L1 Z Z Z (.pure _ _ _ _) (by (simp only[A34,A38];omega)) Z) Z (A6 (A9 Z Z) Z (B0 ?_))))));refine k4 (k1 ?_);refine A7 (A6 (C9 Z Z (by omega)) Z (A6 (A8 Z Z) Z (B0 ?_)));refine k1 ?_;exact⟨(i+1,aN v p,E++[(p:Int)]),⟨A,by dsimp only;rw[A35];omega,by dsimp only;rw[A50 hkl];exact B,s4⟩,by dsimp only;omega,(Sees.of ⟨B5 rfl,B5 rfl,B5 rfl,B5 rfl,B5 rfl,B5 rfl,B5 rfl,trivial⟩ ⟨rfl,rfl,trivial⟩)⟩
 ·have d:¬O5 v p-1=0:=A1 j;rw[A5 d]at s4;refine k5 (k4 (k1 ?_));refine A7 (A6 (C9 Z Z (by omega)) Z (A6 (A8 Z Z) Z (B0 ?_)));refine k1 ?_;exact⟨(i+1,aN v p,E),⟨A,hkl,B,s4⟩,by dsimp only;omega,(Sees.of ⟨B5 rfl,B5 rfl,B5 rfl,B5 rfl,B5 rfl,B5 rfl,B5 rfl,trivial⟩ ⟨rfl,rfl,trivial⟩)⟩
abbrev LG(s:Str):Cell:=.v (.string ⟨s.toArray⟩)
def bI(l:List File):List (Str×Cell):=l.foldl (fun m f=>Z6 m f.Path (LG f.Blob)) []
theorem OM(a b:Str)(c:Cell):∀d:List (Str×Cell),O6 (Z6 d a c) b=if a=b then some c else O6 d b
 | []=>by
  unfold Z6 O6;split
  ·rfl
  ·rfl
 | (k,x)::r=>by
  unfold Z6;split
  ·rename_i e;subst e;unfold O6;split
   ·rfl
   ·rfl
  ·rename_i e;rw[O6,OM a b c r];by_cases g:k=b
   ·subst g;rw[A4 rfl,A5 (fun h=>e h.symm)];simp[O6]
   ·rw[A5 g];by_cases f:a=b
    ·rw[A4 f,A4 f]
    ·rw[A5 f,A5 f,O6,A5 g]
theorem DH(l:List File)(i:Nat)(h:i<l.length):bI (l.take (i+1))=Z6 (bI (l.take i)) l[i].Path (LG l[i].Blob):=by
 unfold bI;rw[List.take_add_one,A32 h,Option.toList_some,A82];rfl
theorem GS(p:Str):∀(l:List File) (m:List (Str×Cell)),O6 (l.foldl (fun m f=>Z6 m f.Path (LG f.Blob)) m) p=((O7 l.reverse p).map LG).or (O6 m p)
 | [],m=>by simp[O7]
 | f::r,m=>by
  rw[A70,GS p r,OM,List.reverse_cons];have b:∀(l:List File),O7 (l++[f]) p=(O7 l p).or (if f.Path=p then some f.Blob else none):=by
   intro l;induction l with
   | nil=>simp[O7]
   | cons g l c =>
    rw[A57,O7,O7];split
    ·rfl
    ·exact c
  rw[b];cases O7 r.reverse p with
  | some x=>rfl
  | none=>by_cases h:f.Path=p<;>simp[h]
theorem DI(l:List File)(p:Str):(O6 (bI l) p).isSome=decide (p∈l.map (·.Path)):=by
 unfold bI;rw[GS];have:O6 ([]:List (Str×Cell)) p=none:=rfl;rw[this,Option.or_none,Option.isSome_map];cases h:O7 l.reverse p with
 | none =>
  have:=MY.1 h;rw[List.map_reverse,List.mem_reverse]at this;simp only[Option.isSome_none,this,decide_false]
 | some x =>
  obtain⟨f,c,b,_⟩:=wS h;have:p∈l.map (·.Path):=by rw[<-b];exact List.mem_map_of_mem (List.mem_reverse.1 c)
  simp only[Option.isSome_some,this,decide_true]
theorem LH(l:List File)(v:l.length<=1073741824):AL.Met Tryz.prog 185 [.one (.p (.list File 2 l9 l))] [] [] [] (fun rs ob'=>rs=[.one (.mut 800)]/\ob'=[(800,.map Str dC (bI l))]):=by
 refine AL.Met.intro Tryz.func185 (by decide) Z Z Z ?_;refine k2 ?_;refine A7 (A6 (A9 Z Z) Z (B0 ?_));refine k1 (k2 ?_);refine A7 (D2 (AH 800 Str dC Z) Z (A6 (A9 Z Z) Z (B0 ?_)));refine k1 (k2 (k2 ?_));refine A7 (A6 (A8 Z Z) Z (A6 (F0 Z (.pure _ _ _ _)) Z (A6 (A8 Z Z) Z (B0 ?_))));refine k1 (k3 ?_);refine E3 (X:=Nat) (fun i=>([(3,.s (.one (.mut 800))),(7,D7 File 2 l9 l),(8,C7 l.length),(9,C7 i)],[(800,.map Str dC (bI (l.take i)))])) (fun i=>i<=l.length) (fun i=>l.length-i) 0 (Nat.zero_le _) (Sees.of ⟨B5 rfl,B5 rfl,B5 rfl,B5 rfl,trivial⟩ ⟨rfl,trivial⟩) ?_;intro i k;dsimp only at k ⊢;refine k2 ?_;refine A7 (A6 (F2 Z Z) Z (B0 ?_));refine k1 (k2 ?_);refine B8 rfl (fun g=>?_) (fun g=>?_)
 ·have b:i<l.length:=by have c:=A0 g;(try dsimp only at c);omega
  have hs:=DH l i b;obtain⟨f,j⟩:∃f,f=l[i]:=⟨_,rfl⟩
  have q:l[i]?=some f:=by rw[j];simp[b]
  rw[<-j]at hs;refine k5 (k1 (k2 (k3 (k2 ?_))));refine A7 (A6 (C1 Z (.pure _ _ _ _) Z (by omega) q) Z (A6 (E5 Z Z) Z (D2 (G3 5 Z) Z (F4 (C2 TySz.out Z Z Z Z Z Z) (B0 ?_)))));refine k1 ?_;refine A7 (A6 (A8 Z Z) Z (A6 (B1 Z) Z (A6 (B2 Z Z Z) Z (A6 (B1 Z) Z (A6 (B2 Z Z Z) Z (F4 (UD (f.Path) Z Z Z Z Z jT jU) (B0 ?_)))))));refine k4 (k1 ?_);refine A7 (A6 (C9 Z Z (by omega)) Z (A6 (A8 Z Z) Z (B0 ?_)));refine k1 ?_;refine⟨i+1,by omega,by omega,?_⟩;rw[hs];exact (Sees.of ⟨B5 rfl,B5 rfl,B5 rfl,B5 rfl,trivial⟩ ⟨rfl,trivial⟩)
 ·have d:i=l.length:=by have c:=A1 g;(try dsimp only at c);omega
  rw[d,A44];refine k6 (k2 ?_);refine A7 (A6 (A8 Z Z) Z (A6 (A9 Z Z) Z (B0 ?_)));refine k1 (G5 ?_);exact G1 (O9 rfl rfl) (by repeat (first | exact C5 | refine C3 rfl ?_ | refine D3 _ ?_)) (fun _ _ h=>h) ⟨rfl,rfl⟩
theorem GW{gf:Fr}{ob:Obs}(p:Str)(k:List (Str×Cell))(P:p.length<=1073741824)(K:D4 ob 800=some (.map Str dC k))(_hc:∀O∈k,∃v,O.2=.v v)(ps:List Str)(F:∀q,(O6 k q).isSome=decide (q∈ps)) :
  AL.Met Tryz.prog 186 [.one (.p (.v (.string ⟨p.toArray⟩))),.one (.mut 800)] gf ob [] (fun rs ob'=>rs=[.one (.p (.v (.bool (S3 p ps))))]/\ob'=ob):=by
 have x:∀c:UInt8,((c.toNat:Int)=47)↔c=47:=fun c=>by
  constructor
  ·intro h;exact UInt8.toNat_inj.1 (by simpa using (show c.toNat=47 by omega))
  ·rintro rfl;rfl
 refine AL.Met.introH Tryz.func186 (by decide) rfl rfl rfl (fun H=>?_);refine k2 ?_;refine A7 (A6 (A9 Z Z) Z (B0 ?_));refine k1 (k2 (k2 ?_));refine A7 (A6 (A8 Z Z) Z (A6 (G4 Z) Z (A6 (A8 Z Z) Z (B0 ?_))));refine k1 (k3 ?_);refine E3 (X:=Nat) (fun i=>([(0,P3 p),(1,.s (.one (.mut 800))),(9,C7 p.length),(10,C7 i)]++gf,ob)) (fun i=>i<=p.length/\∀j,j<i->(decide (p.take j∈ps)&&decide (p[j]?=some 47))=false) (fun i=>p.length-i) 0 ⟨Nat.zero_le _,fun j h=>by omega⟩ (A00 ⟨B5 rfl,B5 rfl,B5 rfl,B5 rfl,trivial⟩ H (by repeat (first | exact C5 | refine C3 rfl ?_)) (fun _ _ h=>h)) ?_;rintro i ⟨L,D⟩;dsimp only at L D ⊢;refine k2 ?_;refine A7 (A6 (F2 Z Z) Z (B0 ?_));refine k1 (k2 ?_);refine B8 rfl (fun d=>?_) (fun d=>?_);rotate_left
 ·have C:i=p.length:=by have B:=A1 d;(try dsimp only at B);omega
  have E:S3 p ps=false:=by
   unfold S3;rw[List.any_eq_false];intro j I;rw[D j (by rw[C];exact A46.1 I)];simp
  refine k6 (k2 ?_);refine A7 (A6 (A9 Z Z) Z (B0 ?_));refine k1 (G5 ?_);exact G1 (O9 rfl rfl) (by repeat (first | exact C5 | refine C3 rfl ?_ | refine D3 _ ?_)) (fun _ _ h=>h) ⟨by rw[E],rfl⟩
 have f:i<p.length:=by have B:=A0 d;(try dsimp only at B);omega
 have M:p[((i:Nat):Int).toNat]?=some p[i]:=by simp[f]
 have y:p[i]?=some p[i]:=by simp[f]
 have z:=F (p.take ((i:Nat):Int).toNat);obtain⟨r,J⟩:∃r,r=O6 k (p.take ((i:Nat):Int).toNat):=⟨_,rfl⟩
 rw[<-J,A36]at z;refine k5 (k1 (k2 (k3 (k2 ?_))));refine A7 (A6 (A8 Z Z) Z (A6 (A9 Z Z) Z (B0 ?_)));refine k1 (k2 ?_);refine A7 (A6 (A8 Z Z) Z (A6 (A8 Z Z) Z (A6 (A8 Z Z) Z (A6 (kR Z Z (by omega) (by omega)) Z (A6 (vF ((p.take ((i:Nat):Int).toNat)) (r:=r) Z K Z jT jU (J.symm)) Z (A6 (A8 Z Z) Z (A6 (B6 Z Z) Z (A6 (B6 Z Z) Z (A6 (A9 Z Z) Z (A6 (A9 Z Z) Z (B0 ?_)))))))))));refine k1 (k2 ?_);refine A7 (A6 (A8 Z Z) Z (A6 (A8 Z Z) Z (B4 Z Z Z Z (fun w=>by rw[w];exact A8 Z Z) ?_)));refine B4 Z Z Z Z (fun w=>by rw[w];exact A8 Z Z) ?_;refine B4 Z Z Z Z (fun w=>by have z:=w;(try simp at z);rw[w];exact K0 Z Z (by omega) M) ?_;refine B4 Z Z Z Z (fun w=>by rw[w];exact I3 Z Z) ?_;refine A6 (B9 Z (fun h=>by first | rfl | (rw[h];rfl)) (fun h=>by first | rfl | (rw[h];rfl))) Z ?_;refine B0 ?_;refine k1 ?_;refine B8 rfl (fun d=>?_) (fun d=>?_)
 ·rw[sS,A33,decide_eq_true_eq]at d;have A:S3 p ps=true:=by
   unfold S3;rw[List.any_eq_true];exact⟨i,A46.2 f,by rw[<-z,d.1,y,(x _).1 d.2];rfl⟩
  refine k2 ?_;refine A7 (A6 (A9 Z Z) Z (B0 ?_));refine k1 (G5 (R5 (I2 (I2 (R5 (I2 ?_))))));exact G1 (O9 rfl rfl) (by repeat (first | exact C5 | refine C3 rfl ?_ | refine D3 _ ?_)) (fun _ _ h=>h) ⟨by rw[A],rfl⟩
 ·rw[sS]at d;refine k5 (k4 (k1 ?_));refine A7 (A6 (C9 Z Z (by omega)) Z (A6 (A8 Z Z) Z (B0 ?_)));refine k1 ?_;refine⟨i+1,⟨f,fun j I=>?_⟩,by omega,A00 ⟨B5 rfl,B5 rfl,B5 rfl,B5 rfl,trivial⟩ H (by repeat (first | exact C5 | refine C3 rfl ?_)) (fun _ _ h=>h)⟩;by_cases e:j=i
  ·subst e;rw[<-z,y];cases G:r.isSome
   ·rfl
   ·rw[G,Bool.true_and,decide_eq_false_iff_not]at d;have:¬p[j]=47:=fun h=>d ((x _).2 h);simp[this]
  ·exact D j (by omega)
theorem QA(l:List File):∀b∈bI l,∃v,b.2=.v v:=by
 have e:∀(l:List File) (m:List (Str×Cell)),(∀b∈m,∃v,b.2=.v v)->∀b∈l.foldl (fun m f=>Z6 m f.Path (LG f.Blob)) m,∃v,b.2=.v v:=by
  intro l;induction l with
  | nil=>exact fun m h=>h
  | cons f r g =>
   intro m h;refine g _ ?_;clear g;induction m with
   | nil=>intro b a;change b∈Z6 [] f.Path (LG f.Blob) at a;rw[Z6,List.mem_singleton]at a;rw[a];exact⟨_,rfl⟩
   | cons x m d =>
    obtain⟨k,c⟩:=x;intro b a;change b∈Z6 ((k,c)::m) f.Path (LG f.Blob) at a;rw[Z6]at a;split at a
    ·rcases A39.1 a with rfl | a
     ·exact⟨_,rfl⟩
     ·exact h b (by simp[a])
    ·rcases A39.1 a with rfl | a
     ·exact h _ (by simp)
     ·exact d (fun b i=>h b (by simp[i])) b a
 exact e l [] fun _ h=>by cases h
theorem sH:∀(l:List File) (i:Nat),i+1<l.length->(ascend (l.take (i+2))=(ascend (l.take (i+1))&&tS (l.getD i ⟨[],[]⟩).Path (l.getD (i+1) ⟨[],[]⟩).Path))
 | [],i,h=>by simp at h
 | [_],i,h=>by simp at h
 | f::g::r,0,_=>by simp[ascend]
 | f::g::r,i+1,h=>by
  have b:ascend (g::r.take (i+1))=(ascend (g::r.take i)&&tS ((g::r).getD i ⟨[],[]⟩).Path ((g::r).getD (i+1) ⟨[],[]⟩).Path):=sH (g::r) i (by simpa using h);show ascend (f::g::r.take (i+1))=(ascend (f::g::r.take i)&&tS ((g::r).getD i ⟨[],[]⟩).Path ((g::r).getD (i+1) ⟨[],[]⟩).Path)
  rw[ascend,ascend,b,Bool.and_assoc]
theorem DJ(l:List File):ascend (l.take 1)=true:=by
 cases l with
 | nil=>rfl
 | cons f r=>rfl
theorem GX(l:List File)(S:l.length<=1073741824)(T:∀f∈l,f.Path.length<=1073741824):FnOk Tryz.prog 114 [cE l] (fun rs=>rs=[F3 (l6 l)]):=by
 rw[<-MX];have H:=QA l;have G:=DI l;refine FnOk.intro Tryz.func114 (by decide) Z Z Z Z ?_;refine k2 ?_;refine A7 (A6 (A9 Z Z) Z (B0 ?_));refine k1 (k2 ?_);refine A7 (A6 (A8 Z Z) Z (AQ (LH l S) Z Z Z Z ?_));rintro _ _ ⟨rfl,rfl⟩;refine⟨rfl,?_⟩;refine A6 (A9 Z Z) Z (B0 ?_);refine k1 (k2 (k2 ?_));refine A7 (A6 (A8 Z Z) Z (A6 (F0 Z (.pure _ _ _ _)) Z (A6 (A8 Z Z) Z (B0 ?_))));refine k1 (k3 ?_);refine E3 (X:=Nat) (fun i=>([(0,D7 File 2 l9 l),(3,.s (.one (.mut 800))),(8,D7 File 2 l9 l),(9,C7 l.length),(10,C7 i)],[(800,.map Str dC (bI l))])) (fun i=>i<=l.length/\ascend (l.take i)=true/\((l.take i).all fun f=>!S3 f.Path (l.map (·.Path)))=true) (fun i=>l.length-i) 0 ⟨Nat.zero_le _,rfl,rfl⟩ (Sees.of ⟨B5 rfl,B5 rfl,B5 rfl,B5 rfl,B5 rfl,trivial⟩ ⟨rfl,trivial⟩) ?_;rintro i ⟨R,ha,E⟩;dsimp only at R ha E ⊢;refine k2 ?_;refine A7 (A6 (F2 Z Z) Z (B0 ?_));refine k1 (k2 ?_);refine B8 rfl (fun q=>?_) (fun q=>?_);rotate_left
 ·have K:i=l.length:=by have v:=A1 q;(try dsimp only at v);omega
  rw[K,A44]at ha E;refine k6 (k2 ?_);refine A7 (A6 (A9 Z Z) Z (B0 ?_));refine k1 (G5 ?_);exact C0 (rs:=[F3 true]) (H6 rfl rfl rfl) (by unfold bW;rw[ha,E];rfl)
 have j:i<l.length:=by have v:=A0 q;(try dsimp only at v);omega
 obtain⟨f,I⟩:∃f,f=l[i]:=⟨_,rfl⟩
 have L:l[i]?=some f:=by rw[I];simp[j]
 have J:=T f (by rw[I];exact A37 j);obtain⟨g,b⟩:∃g,g=l.getD (i-1) ⟨[],[]⟩:=⟨_,rfl⟩
 have D:0<i->l[((i:Int)-1).toNat]?=some g:=fun w=>by
  rw[b,show ((i:Int)-1).toNat=i-1 by omega,A43,A32 (by omega)];rfl
 have c:ascend (l.take (i+1))=if 0<i then tS g.Path f.Path else true:=by
  cases i with
  | zero=>rw[A5 (by omega)];exact DJ l
  | succ i =>
   rw[A4 (by omega),sH l i j,ha,Bool.true_and,b];rw[show l.getD (i+1) ⟨[],[]⟩=f by rw[A43,L];rfl];rfl
 have z:((0 < i/\tS g.Path f.Path=false)\/S3 f.Path (l.map (·.Path))=true)->[F3 false]=[F3 (bW l)]:=by
  rintro (⟨w,h⟩ | h)
  ·have : ascend l=false:=by
    cases A:ascend l
    ·rfl
    ·exfalso;rw[A4 w,h]at c;have M:∀(l:List File) (k:Nat),ascend l=true->ascend (l.take k)=true:=by
      intro l;induction l with
      | nil=>intro k h;simpa using h
      | cons x r U =>
       intro k h;cases k with
       | zero=>rfl
       | succ k =>
        have F:=U k (sT h);rw[List.take_succ_cons];cases O:r.take k with
        | nil=>rfl
        | cons y t =>
         unfold ascend;rw[A33];refine⟨eL h y (List.mem_of_mem_take (by rw[O];simp)),by rw[<-O];exact F⟩
     rw[M l (i+1) A]at c;cases c
   unfold bW;rw[this];rfl
  ·have:(l.all fun f=>!S3 f.Path (l.map (·.Path)))=false:=by
    rw[List.all_eq_false];exact⟨f,by rw[I];exact A37 j,by rw[h];simp⟩
   unfold bW;rw[this,Bool.and_false]
 have B:(0<i->tS g.Path f.Path=true)->S3 f.Path (l.map (·.Path))=false->ascend (l.take (i+1))=true/\((l.take (i+1)).all fun f=>!S3 f.Path (l.map (·.Path)))=true:=by
  intro v A;refine⟨?_,?_⟩
  ·rw[c];split
   ·rename_i w;exact v w
   ·rfl
  ·rw[List.take_add_one,L,Option.toList_some,A85,E,Bool.true_and,List.all_cons,List.all_nil,A];rfl
 refine k5 (k1 (k2 (k3 (k2 ?_))));refine A7 (A6 (A8 Z Z) Z (A6 (C1 Z (.pure _ _ _ _) Z (by omega) L) Z (A6 (E5 Z Z) Z (D2 (G3 5 Z) Z (A6 (A9 Z Z) Z (F4 (C2 TySz.out Z Z Z Z Z Z) (B0 ?_)))))));refine k1 (k2 ?_);cases d:(if decide ((0:Int)<(i:Int))=true then !Op.bytesLess g.Path f.Path else false)
 ·have v:0<i->tS g.Path f.Path=true:=fun w=>by
   rw[A4 (A2 (by omega)),Bool.not_eq_false']at d;exact d
  refine vR 17 (by kernel_rfl) (by kernel_rfl) Z (B3 (A8 Z Z) Z Z (B3 (P8 Z Z) Z Z (B3 (A8 Z Z) Z Z (C6 Z Z (fun b=>by rw[b];exact A8 Z Z) Z Z ?_))));refine C6 Z Z (fun b=>by rw[b];exact A8 Z Z) Z Z ?_;refine C6 Z Z (fun b=>by have C:=b;(try simp at C);rw[b];exact K3 Z Z (by omega)) Z Z ?_;refine C6 Z Z (fun b=>by have C:=b;(try simp at C);rw[b];exact C1 Z (.pure _ _ _ _) Z (by omega) (D (by omega))) Z Z ?_;refine C6 Z Z (fun b=>by rw[b];exact L7 Z) Z Z ?_;refine C6 Z Z (fun b=>by rw[b];exact D1 Z Z) Z Z ?_;refine C6 Z Z (fun b=>by rw[b];exact B1 Z) Z Z ?_;refine C6 Z Z (fun b=>by rw[b];exact B2 Z Z Z) Z Z ?_;refine C6 Z Z (fun b=>by rw[b];exact OI Z Z) Z Z ?_;refine B3 (B9 Z (fun h=>by first | rfl | (rw[h];rfl)) (fun h=>by first | rfl | (rw[h];rfl))) Z Z ?_;refine B3 (A8 Z Z) Z Z (ZE Z Z d Z (B3 (B1 Z) Z Z (ZE Z Z d Z (B3 (B2 Z Z Z) Z Z (ZE Z Z d Z (B3 (A8 Z Z) Z Z (J8 ?_)))))));refine PU Z Z d (fV (GW f.Path (bI l) J Z H (l.map (·.Path)) G) Z Z Z ?_);rintro _ _ ⟨rfl,rfl⟩;refine⟨_,rfl,?_⟩;refine B3 (B9 Z (fun h=>by first | rfl | (rw[h];rfl)) (fun h=>by first | rfl | (rw[h];rfl))) Z Z ?_;refine J8 ?_;refine k1 ?_;rw[d];refine B8 rfl (fun q=>?_) (fun q=>?_)
  ·have A:S3 f.Path (l.map (·.Path))=true:=by simpa using q
   refine k2 ?_;refine A7 (A6 (A9 Z Z) Z (B0 ?_));refine k1 (G5 (R5 (I2 (I2 (R5 (I2 ?_))))));exact C0 (rs:=[F3 false]) (H6 rfl rfl rfl) (z (.inr A))
  ·have A:S3 f.Path (l.map (·.Path))=false:=by simpa using q
   obtain⟨F,Q⟩:=B v A;refine k5 (k4 (k1 ?_));refine A7 (A6 (C9 Z Z (by omega)) Z (A6 (A8 Z Z) Z (B0 ?_)));refine k1 ?_;exact⟨i+1,⟨j,F,Q⟩,by omega,(Sees.of ⟨B5 rfl,B5 rfl,B5 rfl,B5 rfl,B5 rfl,trivial⟩ ⟨rfl,trivial⟩)⟩
 ·have w:0<i:=by
   apply Classical.byContradiction;intro w;rw[A5 (by rw[decide_eq_true_eq];omega)]at d;cases d
  have v:tS g.Path f.Path=false:=by
   rw[A4 (A2 (by omega)),Bool.not_eq_true']at d;exact d
  refine D8 (by kernel_rfl) (by kernel_rfl) (B3 (A8 Z Z) Z Z (B3 (P8 Z Z) Z Z (B3 (A8 Z Z) Z Z (C6 Z Z (fun b=>by rw[b];exact A8 Z Z) Z Z ?_))));refine C6 Z Z (fun b=>by rw[b];exact A8 Z Z) Z Z ?_;refine C6 Z Z (fun b=>by have C:=b;(try simp at C);rw[b];exact K3 Z Z (by omega)) Z Z ?_;refine C6 Z Z (fun b=>by have C:=b;(try simp at C);rw[b];exact C1 Z (.pure _ _ _ _) Z (by omega) (D (by omega))) Z Z ?_;refine C6 Z Z (fun b=>by rw[b];exact L7 Z) Z Z ?_;refine C6 Z Z (fun b=>by rw[b];exact D1 Z Z) Z Z ?_;refine C6 Z Z (fun b=>by rw[b];exact B1 Z) Z Z ?_;refine C6 Z Z (fun b=>by rw[b];exact B2 Z Z Z) Z Z ?_;refine C6 Z Z (fun b=>by rw[b];exact OI Z Z) Z Z ?_;refine B3 (B9 Z (fun h=>by first | rfl | (rw[h];rfl)) (fun h=>by first | rfl | (rw[h];rfl))) Z Z ?_;refine B3 (A8 Z Z) Z Z (uQ Z Z (by rw[d];decide) Z Z ?_);refine uQ Z Z (by rw[d];decide) Z Z ?_;refine uQ Z Z (by rw[d];decide) Z Z ?_;refine uQ Z Z (by rw[d];decide) Z Z ?_;refine B3 (bQ Z (d) Z) Z Z (J8 ?_);refine k1 ?_;refine B8 rfl (fun q=>?_) (fun q=>?_)
  ·refine k2 ?_;refine A7 (A6 (A9 Z Z) Z (B0 ?_));refine k1 (G5 (R5 (I2 (I2 (R5 (I2 ?_))))));exact C0 (rs:=[F3 false]) (H6 rfl rfl rfl) (z (.inl ⟨w,v⟩))
  ·cases q
theorem qX(s:Str)(c:UInt8):FnOk Tryz.prog 187 [F9 s,F9 [c]] (fun a=>a=[E2 (s.count c)]) :=
 A05 (xs:=[.string ⟨s.toArray⟩,.string ⟨#[c]⟩]) ⟨_,rfl,rfl,rfl⟩ rfl fun w=>by simpa[Lib.countByte] using Tryz.strings_Count_one ⟨s.toArray⟩ c w
theorem AV(s:Str)(c:UInt8):FnOk Tryz.prog 233 [F9 s,F9 [c]] (fun a=>a=[E2 (Lib.indexByte s c)]) :=
 A05 (xs:=[.string ⟨s.toArray⟩,.string ⟨#[c]⟩]) ⟨_,rfl,rfl,rfl⟩ rfl fun w=>by simpa using Tryz.strings_Index_one ⟨s.toArray⟩ c w
abbrev kW(l:List Str):Ob:=.grow 9 Str 1 J9 l
theorem DK(s:Str)(hs:s.length<=536870912):AL.Met Tryz.prog 154 [(F9 s).s1,(F9 [10]).s1,(E2 1).s1,(E2 (-1)).s1] [] [] [] (fun J ob'=>J=[.one (.mut 9)]/\ob'=[(9,kW (S6 s))]):=by
 have E:=j2 s [];have K:s.count 10<=s.length:=List.count_le_length;have v:([10]:Str).length=1:=rfl;obtain⟨P,k⟩:∃P,P=S6 s:=⟨_,rfl⟩
 have F:P.length=s.count 10+1:=by rw[k];exact E
 refine AL.Met.intro Tryz.func154 (by decide) Z Z Z ?_;refine k2 ?_;refine A7 (A6 (A9 Z Z) Z (B0 ?_));refine k1 (k2 (k2 ?_));refine A7 (A6 (A8 Z Z) Z (A6 (I3 Z Z) Z (B0 ?_)));refine k1 ?_;refine B8 rfl (fun c=>?_) (fun c=>?_)
 ·exact absurd (A0 c) (by omega)
 refine k5 (k1 (k2 (k2 ?_)));refine A7 (A6 (A8 Z Z) Z (A6 (c7 Z Z) Z (B0 ?_)));refine k1 ?_;refine B8 rfl (fun c=>?_) (fun c=>?_)
 ·exact absurd (A0 c) (by simp)
 refine k5 (k1 (k2 (k2 ?_)));refine A7 (A6 (A8 Z Z) Z (A6 (F2 Z Z) Z (B0 ?_)));refine k1 ?_;refine B8 rfl (fun c=>?_) (fun c=>?_);rotate_left
 ·exact absurd (A1 c) (by omega)
 skip;refine A7 (A6 (A8 Z Z) Z (A6 (A8 Z Z) Z (C4 (qX s 10) Z Z Z ?_)));rintro _ rfl;refine A6 (C9 Z Z (by omega)) Z (A6 (A9 Z Z) Z (B0 ?_));refine k1 (k2 ?_);refine A7 (A6 (A8 Z Z) Z (A6 (A8 Z Z) Z (A6 (G4 Z) Z (A6 (C9 Z Z (by omega)) Z (A6 (uS Z Z) Z (A6 (A9 Z Z) Z (B0 ?_)))))));refine k1 (k2 ?_);rw[show (if (s.length:Int)+1<(s.count 10:Int)+1 then (s.length:Int)+1 else (s.count 10:Int)+1)=(P.length:Int) from by split<;>omega];refine A7 (A6 (A8 Z Z) Z (D2 (XI 9 Str J9 [] Z Z (by omega) (by omega) (fun _=>by first | exact⟨⟨rfl,rfl⟩,trivial⟩ | exact⟨J5 _ _ _,trivial⟩ | exact⟨J5 _ _ _,⟨rfl,rfl⟩,J5 _ _ _,trivial⟩ | exact⟨⟨rfl,rfl⟩,⟨rfl,rfl⟩,trivial⟩) (by first | rfl | (simp[H9,N6,Ob.free,SV.free,S1.free,TC.free]<;>rfl))) Z ?_));refine A6 (A9 Z Z) Z (B0 ?_);refine k1 (k2 ?_);refine A7 (A6 (A8 Z Z) Z (A6 (K3 Z Z (by omega)) Z (A6 (A9 Z Z) Z (B0 ?_))));refine k1 (k2 ?_);refine A7 (A6 (A9 Z Z) Z (B0 ?_));refine k1 (k2 (k3 ?_));refine E3 (X:=Nat×Str) (fun x=>([(0,P3 x.2),(1,P3 [10]),(2,C7 1),(3,C7 ((P.length:Int)-1)),(9,.s (.one (.mut 9))),(10,C7 x.1)],[(9,kW (P.take x.1++List.replicate (P.length-x.1) []))])) (fun x=>x.1+1<=P.length/\P.drop x.1=S6 x.2/\x.2.length<=s.length) (fun x=>P.length-x.1) (0,s) ⟨by dsimp only;omega,k,Nat.le_refl _⟩ (Sees.of ⟨B5 rfl,B5 rfl,B5 rfl,B5 rfl,B5 rfl,B5 rfl,trivial⟩ ⟨rfl,trivial⟩) ?_;rintro⟨i,r⟩ ⟨G,q,I⟩;dsimp only at G q I ⊢;refine k2 (k2 ?_);refine A7 (A6 (A8 Z Z) Z (A6 (A8 Z Z) Z (A6 (F2 Z Z) Z (B0 ?_))));refine k1 ?_;refine B8 rfl (fun c=>?_) (fun c=>?_)
 ·have H:i+1<P.length:=by have:=A0 c;omega
  have A:(10:UInt8)∈r:=by
   have d:=j2 r [];have f:(P.drop i).length=r.count 10+1:=by rw[q];exact d
   rw[A47]at f;exact List.count_pos_iff.1 (by omega)
  rcases U6 10 r with ⟨d,_⟩ | ⟨a,b,d,f,w⟩
  ·exact absurd A d
  obtain⟨y,D⟩:=MZ q d f;have L:r.length=a.length+1+b.length:=by rw[d];simp;omega
  refine k5 (k1 (k3 (k2 ?_)));refine A7 (A6 (A8 Z Z) Z (A6 (A8 Z Z) Z (C4 (AV r 10) Z Z Z ?_)));rintro _ rfl;refine A6 (A9 Z Z) Z (B0 ?_);refine k1 (k2 (k2 ?_));refine A7 (A6 (A8 Z Z) Z (A6 (F2 Z Z) Z (B0 ?_)));refine k1 ?_;rw[w];refine B8 rfl (fun c=>?_) (fun c=>?_)
  ·exact absurd (A0 c) (by omega)
  refine k5 (k1 (k2 ?_));have p:(P.take i++List.replicate (P.length-i) ([]:Str))[((i:Nat):Int).toNat]?=some []:=by
   rw[A36,A51 (by rw[A42];omega),List.getElem?_replicate,A4 (by rw[A42];omega)]
  refine A7 (A6 (A8 Z Z) Z (A6 (A8 Z Z) Z (A6 (A8 Z Z) Z (A6 (A8 Z Z) Z (A6 (A8 Z Z) Z (A6 (C9 Z Z (by omega)) Z (A6 (kR Z Z (by omega) (by omega)) Z (A6 (J4 Z Z Z (by omega) (by (simp;omega))) Z (F4 (cU ((r.take ((a.length:Int)+1).toNat)) TySz.out Z Z p Z Z Z Z (fun _ _ _ h=>bP h) (by intro j d f;rcases j with _ | _ | _ | _ | _ | _ | _ | j<;>first | rfl | omega)) ?_)))))))));refine B0 ?_;refine k1 (k2 ?_);refine A7 (A6 (A8 Z Z) Z (A6 (A8 Z Z) Z (A6 (A8 Z Z) Z (A6 (G4 Z) Z (A6 (C9 Z Z (by omega)) Z (A6 (cI Z Z (by omega) (by omega)) Z (A6 (A9 Z Z) Z (B0 ?_))))))));refine k1 ?_;refine A7 (A6 (A8 Z Z) Z (A6 (C9 Z Z (by omega)) Z (A6 (A9 Z Z) Z (B0 ?_))));refine k4 (k1 ?_);have B:r.take (((a.length:Int)+1).toNat)=a++[10]:=by rw[d,show ((a.length:Int)+1).toNat=a.length+1 by omega,show a++10::b=(a++[10])++b by simp,List.take_left' (by simp)]
  have C:r.drop (((a.length:Int)+(([10]:Str).length:Int)).toNat)=b:=by rw[d,v,show ((a.length:Int)+((1:Nat):Int)).toNat=a.length+1 by omega,show a++10::b=(a++[10])++b by simp,List.drop_left' (by simp)]
  refine⟨(i+1,b),⟨by dsimp only;omega,D,by dsimp only;omega⟩,by dsimp only;omega,?_⟩;rw[B,C];dsimp only;rw[<-lA P [] _ i y];exact Sees.of ⟨B5 rfl,B5 rfl,B5 rfl,B5 rfl,B5 rfl,B5 rfl,trivial⟩ ⟨rfl,trivial⟩
 ·have z:i+1=P.length:=by have:=A1 c;omega
  have d:=j2 r [];have f:(P.drop i).length=r.count 10+1:=by rw[q];exact d
  rw[A47]at f;have w:(10:UInt8)∉r:=List.count_eq_zero.1 (by omega);have y:P[i]?=some r:=by rw[<-List.head?_drop,q];unfold S6;rw[zS _ _ w];rfl
  refine k6 (k2 ?_);have p:(P.take i++List.replicate (P.length-i) ([]:Str))[((i:Nat):Int).toNat]?=some []:=by
   rw[A36,A51 (by rw[A42];omega),List.getElem?_replicate,A4 (by rw[A42];omega)]
  refine A7 (A6 (A8 Z Z) Z (A6 (A8 Z Z) Z (A6 (A8 Z Z) Z (A6 (J4 Z Z Z (by omega) (by (simp;omega))) Z (F4 (cU (r) TySz.out Z Z p Z Z Z Z (fun _ _ _ h=>bP h) (by intro j d f;rcases j with _ | _ | _ | _ | _ | _ | _ | j<;>first | rfl | omega)) ?_)))));refine B0 ?_;refine k1 (k2 ?_);have e:(P.take i++List.replicate (P.length-i) ([]:Str)).set (i:Int).toNat r=P:=by rw[A36,lA P [] r i y,z];simp
  rw[e];refine A7 (A6 (A8 Z Z) Z (A6 (A8 Z Z) Z (A6 (C9 Z Z (by omega)) Z (D2 (CZ Z Z Z (by omega) (by omega) Z) Z (A6 (A9 Z Z) Z (B0 ?_))))));refine k1 (G5 ?_);rw[show ((i:Int)+1).toNat=P.length by omega,A44,k];exact G1 (O9 rfl rfl) (by repeat (first | exact C5 | refine C3 rfl ?_ | refine D3 _ ?_)) (ObIn.spec (ob':=[(9,_)]) ⟨rfl,trivial⟩) ⟨rfl,rfl⟩
theorem vW(s:Str)(hs:s.length<=536870912):AL.Met Tryz.prog 176 [(F9 s).s1,(F9 [10]).s1] [] [] [] (fun a ob'=>a=[.one (.mut 9)]/\ob'=[(9,kW (S6 s))]):=by
 refine AL.Met.intro Tryz.func176 (by decide) Z Z Z ?_;refine k2 ?_;refine A7 (A6 (A9 Z Z) Z (B0 ?_));refine k1 (k2 ?_);refine A7 (A6 (A8 Z Z) Z (A6 (A8 Z Z) Z (A6 (A8 Z Z) Z (A6 (G4 Z) Z (AQ (DK s hs) Z Z Z Z ?_)))));rintro _ _ ⟨rfl,rfl⟩;refine⟨rfl,?_⟩;refine A6 (A9 Z Z) Z (B0 ?_);refine k1 (G5 ?_);exact G1 (O9 rfl rfl) (by repeat (first | exact C5 | refine C3 rfl ?_ | refine D3 _ ?_)) (ObIn.spec (ob':=[(9,_)]) ⟨rfl,trivial⟩) ⟨rfl,rfl⟩
theorem AW(s:Str)(hs:s.length<=536870912):FnOk Tryz.prog 116 [F9 s] (fun j=>j=[E2 (l5 s)]):=by
 have d:=bJ s;have k:s.count 10<=s.length:=List.count_le_length;refine FnOk.intro Tryz.func116 (by decide) Z Z Z Z ?_;refine k2 ?_;refine A7 (A6 (A9 Z Z) Z (B0 ?_));refine k1 (k2 ?_);refine A7 (A6 (A8 Z Z) Z (C4 (qX s 10) Z Z Z ?_));rintro _ rfl;refine A6 (A9 Z Z) Z (B0 ?_);refine K6 ?_;refine y4 [(0,P3 s),(3,C7 (E9 s).length)] [] ?_ ?_
 ·refine k2 ?_;refine A7 (A6 (A8 Z Z) Z (A6 (bF Z Z) Z (A6 (A8 Z Z) Z (B4 Z Z Z Z (fun a=>by rw[a];exact A8 Z Z) ?_))));refine B4 Z Z Z Z (fun a=>by have i:=a;(try simp at i);rw[a];exact H4 (kV s (by omega)) Z Z) ?_;refine B4 Z Z Z Z (fun a=>by rw[a];exact G7 Z) ?_;refine A6 (B9 Z (fun h=>by first | rfl | (rw[h];rfl)) (fun h=>by first | rfl | (rw[h];rfl))) Z ?_;refine B0 ?_;refine k1 ?_;refine B8 rfl (fun b=>?_) (fun b=>?_)
  ·have h:s≠[]/\ended s=false:=by
    by_cases c:s=[]
    ·simp[c]at b
    ·refine⟨c,?_⟩;simpa[c] using b
   rw[A4 h]at d;skip;refine A7 (A6 (A8 Z Z) Z (A6 (C9 Z Z (by omega)) Z (A6 (A9 Z Z) Z (B0 ?_))));refine k1 ?_;rw[d,Int.natCast_add];exact Sees.of ⟨B5 rfl,B5 rfl,trivial⟩ trivial
  ·have h:¬(s≠[]/\ended s=false):=by
    rintro⟨c,f⟩;simp[c,f]at b
   rw[A5 h]at d;refine k5 (k1 ?_);rw[d];exact Sees.of ⟨B5 rfl,B5 rfl,trivial⟩ trivial
 ·refine k2 (k2 ?_);refine A7 (A6 (A8 Z Z) Z (A6 (G4 Z) Z (A6 (P8 Z Z) Z (A6 (A8 Z Z) Z (B4 Z Z Z Z (fun a=>by rw[a];exact A8 Z Z) ?_)))));refine B4 Z Z Z Z (fun a=>by rw[a];exact P8 Z Z) ?_;refine A6 (B9 Z (fun h=>by first | rfl | (rw[h];rfl)) (fun h=>by first | rfl | (rw[h];rfl))) Z ?_;refine B0 ?_;refine k1 ?_;refine B8 rfl (fun b=>?_) (fun b=>?_)
  ·have h:=A0 (or_pick.symm.trans b);refine k2 ?_;refine A7 (A6 (A9 Z Z) Z (B0 ?_));refine k1 (G5 (I2 ?_));exact C0 (H6 rfl rfl rfl) (by rw[l5,A4 (by omega)])
  ·have h:=A1 (or_pick.symm.trans b);refine k5 (k1 (k2 ?_));refine A7 (A6 (A9 Z Z) Z (B0 ?_));refine k1 (G5 ?_);exact C0 (H6 rfl rfl rfl) (by rw[l5,A5 (by omega)])
theorem vX(s:Str)(hs:s.length<=536870912):AL.Met Tryz.prog 100 [(F9 s).s1] [] [] [] (fun rs ob'=>rs=[.one (.mut 9),(E2 (Q1 s).2).s1]/\ob'=[(9,kW (Q1 s).1)]):=by
 have k:E9 s=if (S6 s).getLastD []=[] then (S6 s).dropLast else S6 s:=IG s []
 have f:(S6 s).length=s.count 10+1:=j2 s [];have q:s.count 10<=s.length:=List.count_le_length;refine AL.Met.intro Tryz.func100 (by decide) Z Z Z ?_;refine k2 ?_;refine A7 (A6 (A9 Z Z) Z (A6 (A9 Z Z) Z (B0 ?_)));refine k1 (k2 (k2 ?_));refine A7 (A6 (A8 Z Z) Z (C4 (AW s hs) Z Z Z ?_));rintro _ rfl;refine A6 (A9 Z Z) Z (B0 ?_);refine k1 (k2 ?_);refine A7 (A6 (A8 Z Z) Z (A6 (K4 Z Z) Z (B0 ?_)));refine k1 ?_;refine B8 rfl (fun c=>?_) (fun c=>?_)
 ·have h:l5 s≠0:=by simpa using c
  have b:s.length>1048576\/(E9 s).length>4096:=by
   by_cases b:s.length>1048576\/(E9 s).length>4096
   ·exact b
   ·exact absurd (by rw[l5,A5 b]) h
  refine k2 ?_;refine A7 (A6 (A8 Z Z) Z (D2 (TN 9 _ J9 Z) Z (A6 (A9 Z Z) Z (B0 ?_))));refine k1 (G5 (I2 ?_));refine G1 (bO rfl rfl rfl) (by repeat (first | exact C5 | refine C3 rfl ?_ | refine D3 _ ?_)) (ObIn.spec (ob':=[(9,_)]) ⟨rfl,trivial⟩) ?_;rw[Q1,A4 b,l5,A4 b];exact⟨rfl,rfl⟩
 ·have h:l5 s=0:=by simpa using c
  have b:¬(s.length>1048576\/(E9 s).length>4096):=fun b=>by rw[l5,A4 b]at h;omega
  have v:(S6 s)[(S6 s).length-1]?=some ((S6 s).getLastD []):=by
   rw[<-List.getLast?_eq_getElem?,List.getLast?_eq_some_getLast (fun e=>by rw[e]at f;simp at f)];rw[List.getLastD_eq_getLast?,List.getLast?_eq_some_getLast (fun e=>by rw[e]at f;simp at f)];rfl
  have j:(((S6 s).length:Int)-1).toNat=(S6 s).length-1:=by omega
  refine k5 (k1 (k2 ?_));refine A7 (A6 (A8 Z Z) Z (AQ (vW s hs) Z Z Z Z ?_));rintro _ _ ⟨rfl,rfl⟩;refine⟨rfl,?_⟩;refine A6 (A9 Z Z) Z (B0 ?_);refine K6 ?_;refine y4 [(5,.s (.one (.mut 9)))] [(9,kW (E9 s))] ?_ ?_
  ·refine k2 ?_;refine A7 (A6 (A8 Z Z) Z (A6 (A8 Z Z) Z (A6 (r7 Z Z) Z (A6 (K3 Z Z (by omega)) Z (A6 (J4 Z Z Z (by omega) (by omega)) Z (A6 (o7 Z Z (by rw[j];exact v) Z) Z ?_))))));refine A6 (c7 Z Z) Z (B0 ?_);refine k1 ?_;refine B8 rfl (fun c=>?_) (fun c=>?_)
   ·have i:=A0 c;skip;refine A7 (A6 (A8 Z Z) Z (A6 (A8 Z Z) Z (A6 (r7 Z Z) Z (A6 (K3 Z Z (by omega)) Z (D2 (CZ Z Z Z (by omega) (by omega) Z) Z (A6 (A9 Z Z) Z (B0 ?_)))))));refine k1 ?_;rw[k,A4 i,List.dropLast_eq_take,<-j];exact Sees.of ⟨B5 rfl,trivial⟩ ⟨rfl,trivial⟩
   ·have i:=A1 c;refine k5 (k1 ?_);rw[k,A5 i];exact Sees.of ⟨B5 rfl,trivial⟩ ⟨rfl,trivial⟩
  ·refine k2 ?_;refine A7 (A6 (A8 Z Z) Z (A6 (A9 Z Z) Z (A6 (A9 Z Z) Z (B0 ?_))));refine k1 (G5 ?_);refine G1 (bO rfl rfl rfl) (by repeat (first | exact C5 | refine C3 rfl ?_ | refine D3 _ ?_)) (ObIn.spec (ob':=[(9,_)]) ⟨rfl,trivial⟩) ?_;rw[Q1,A5 b];exact⟨rfl,rfl⟩
theorem qY(s:Str)(hs:s.length<=536870912):FnOk Tryz.prog 100 [F9 s] (fun rs=>rs=[T0 (Q1 s).1,E2 (Q1 s).2]) :=
 A29 (vX s hs) fun rs ob' a=>by
  obtain⟨rfl,rfl⟩:=a;exact⟨9,Str,1,J9,(Q1 s).1,_,[T0 (Q1 s).1,E2 (Q1 s).2],rfl,rfl,rfl,rfl⟩
attribute [local go_sem] Oper.semAt_some
set_option maxHeartbeats 2000000
theorem mG:∀(a r b:Str),47∉a->L2 b (a++47::r)=(b++a)::L2 [] r
 | [],r,b,_=>by simp[L2]
 | x::a,r,b,h=>by
  have c:x≠47:=fun e=>h (by simp[e]);rw[A57,L2,A5 c,mG a r _ (fun e=>h (by simp[e])),A45];rfl
theorem mH:∀(a b:Str),47∉a->L2 b a=[b++a]
 | [],b,_=>by simp[L2]
 | x::a,b,h=>by
  have c:x≠47:=fun e=>h (by simp[e]);rw[L2,A5 c,mH a _ (fun e=>h (by simp[e])),A45];rfl
theorem d9{W:World}{B:Nat}{v:Value}{t:TypeId}(h:W.heap[B]?=some (.cells #[v] t (0,0))):W.cell? ⟨B,0,none⟩=some v/\W.frozen? ⟨B,0,none⟩=false:=by
 constructor<;>simp[World.cell?,World.frozen?,h]
structure RInv (rec:LoopState->Option Code->Loop) (n0:Nat) (w0:World) (l D b2 bs bp bv:Nat) (rest:Str) (W:World):Prop where
 s:W.heap[bs]?=some (.cells #[.string ⟨rest.toArray⟩] 9 (0,0))
 p:W.heap[bp]?=some (.cells #[.string ⟨#[47]⟩] 9 (0,0))
 v:W.heap[bv]?=some (.cells #[.int .i64 0] 3 (0,0))
 r:W.heap[b2]?=some (.cells #[.int .i64 0] 27 (0,0))
 l:W.heap[l]?=some (.loop (rec .ready none))
 d:W.heap[D]?=some (.deferred (some []))
 b:Below n0 w0 W
structure RFin (rec:LoopState->Option Code->Loop) (n0:Nat) (w0:World) (l D b2:Nat) (W:World):Prop where
 r:W.heap[b2]?=some (.cells #[.int .i64 210] 27 (0,0))
 l:W.heap[l]?=some (.loop (rec .done (some .ret)))
 d:W.heap[D]?=some (.deferred (some []))
 b:Below n0 w0 W
def UO(a:Nat)(W:World):Nat:=match W.cell? ⟨a,0,none⟩ with | some (.string s)=>s.size | _=>0
theorem aY{W:World}{B:Nat}{v f:Value}{t:TypeId}(h:W.heap[B]?=some (.cells #[v] t (0,0))):(W.setCell ⟨B,0,none⟩ f).heap[B]?=some (.cells #[f] t (0,0)):=by
 obtain⟨d,b⟩:=Array.getElem?_eq_some_iff.1 h;show (W.heap.modify B _)[B]?=_;rw[Array.getElem?_eq_getElem (by rw[Array.size_modify];exact d),Array.getElem_modify_self,b];rfl
theorem RInv.step{rec:LoopState->Option Code->Loop}{m:Nat}{o:World}{l D e c f j:Nat}{rest:Str}{W:World}(h:RInv rec m o l D e c f j rest W)(k:c≠f/\c≠j/\c≠e/\c≠l/\c≠D/\m<=c)(r:Str) :
  RInv rec m o l D e c f j r (W.setCell ⟨c,0,none⟩ (.string ⟨r.toArray⟩)):=by
 obtain⟨q,u,w,x,y,z⟩:=k;exact⟨aY h.s,(Below.heap_setCell W _ _ _ (Ne.symm q)).trans h.p,(Below.heap_setCell W _ _ _ (Ne.symm u)).trans h.v,(Below.heap_setCell W _ _ _ (Ne.symm w)).trans h.r,(Below.heap_setCell W _ _ _ (Ne.symm x)).trans h.l,(Below.heap_setCell W _ _ _ (Ne.symm y)).trans h.d,h.b.setCell (p:=⟨c,0,none⟩) z _⟩
theorem GY{rec:LoopState->Option Code->Loop}{n0:Nat}{w0:World}{l D b2 bs bp bv:Nat}(hne:bs≠bp/\bs≠bv/\bs≠b2/\bs≠l/\bs≠D/\n0<=bs)
  (hIdx:∀(s:Str) (w:World),Calls Tryz.prog 233 #[.string ⟨s.toArray⟩,.string ⟨#[47]⟩] w (fun e w'=>e=.returned (.int .i64 (Lib.indexByte s 47))/\w'=w))
  (hY:∀rest x W,RInv rec n0 w0 l D b2 bs bp bv rest W->YieldAt Fence.wide 3 Tryz.prog l #[.string ⟨x.toArray⟩] W (fun e W'=>(U0 x=true/\e=.returned (.bool true)/\RInv rec n0 w0 l D b2 bs bp bv rest W')\/(U0 x=false/\e=.returned (.bool false)/\RFin rec n0 w0 l D b2 W')))
  (p:Str) (hp:p.length<=1073741824) (W:World) (hI:RInv rec n0 w0 l D b2 bs bp bv p W) :
  CallsIn Fence.wide 4 Tryz.prog 292 #[.func (.yield l) #[] #[],.pointer (some ⟨bp,0,none⟩),.pointer (some ⟨bs,0,none⟩),.pointer (some ⟨bv,0,none⟩)] W (fun e W'=>(∃v,e=.returned v) /\
   (((L2 [] p).all U0=true/\∃rest,RInv rec n0 w0 l D b2 bs bp bv rest W')\/((L2 [] p).all U0=false/\RFin rec n0 w0 l D b2 W'))):=by
 refine callsIn_of_wp Tryz.func292 rfl trivial ?_ rfl;simp only[Tryz.ntmps292,List.size_toArray,A34,A38,Nat.reduceAdd,Nat.reduceSub,Array.replicate_succ,Array.replicate_zero,List.push_toArray,List.append_toArray,A61,A57];have hcp:=d9 hI.p
 gi_wp2
 gi_loopw [7] (fun v wr=>∃rest:Str,rest.length<=p.length/\(L2 [] p).all U0=(L2 [] rest).all U0/\RInv rec n0 w0 l D b2 bs bp bv rest wr) (fun v wr=>UO bs wr)
 case atStart=>exact⟨p,Nat.le_refl _,rfl,hI⟩
 case round =>
  obtain⟨rest,hl,hall,hR⟩:=hrel;obtain⟨hs1,hs2⟩:=d9 hR.s;obtain⟨hp1,hp2⟩:=d9 hR.p;obtain⟨hv1,hv2⟩:=d9 hR.v;rcases U6 47 rest with ⟨h1,h2⟩ | ⟨x,r,h1,h2,h3⟩
  ·rw[mH _ _ h1]at hall;obtain⟨fn,tmps,assign,body,hy,hRd⟩:=hY rest rest wr hR
   gi_wp2_with (refine⟨trivial,?_⟩;gi_at_call 233;refine (callsIn_wide.2 (hIdx rest _)).mono ?_;rintro e w' ⟨rfl,rfl⟩;rw[h2])
   refine hRd.mono ?_;rintro e W' (⟨h5,rfl,h6⟩ | ⟨h5,rfl,h6⟩)
   ·gi_wp2
    go_end0
    exact⟨⟨_,rfl⟩,.inl ⟨by simp[hall,h5],rest,h6⟩⟩
   ·gi_wp2
    go_end0
    exact⟨⟨_,rfl⟩,.inr ⟨by simp[hall,h5],h6⟩⟩
  ·subst h1;rw[mG _ _ _ h2,List.all_cons]at hall;have hxl:x.length<(x++47::r).length:=by simp
   have hex:(⟨(x++47::r).toArray⟩:ByteArray).extract 0 x.length=⟨x.toArray⟩:=by
    apply ByteArray.ext;rw[ByteArray.data_extract];simp
   have hex2:(⟨(x++47::r).toArray⟩:ByteArray).extract (x.length+1) (x.length+(r.length+1))=⟨r.toArray⟩:=by
    apply ByteArray.ext;rw[ByteArray.data_extract];simp;exact A64 (by omega)
   obtain⟨fn,tmps,assign,body,hy,hRd⟩:=hY _ x wr hR
   gi_wp2_with (refine⟨trivial,?_⟩;gi_at_call 233;refine (callsIn_wide.2 (hIdx _ _)).mono ?_;rintro e w' ⟨rfl,rfl⟩;rw[h3])
   refine hRd.mono ?_;rintro e W' (⟨h5,rfl,h6⟩ | ⟨h5,rfl,h6⟩)
   ·obtain⟨hs3,hs4⟩:=d9 h6.s;obtain⟨hp3,hp4⟩:=d9 h6.p
    gi_wp2
    try rw[hex2]
    have h7:=h6.step hne r;refine⟨⟨r,by simp at hl;omega,by simp[hall,h5],h7⟩,?_⟩;unfold UO;rw[(d9 h7.s).1,hs1];show r.toArray.size<(x++47::r).toArray.size;simp;omega
   ·gi_wp2
    refine bodyPost_ret (results_none Z _ _ _) Z ?_;exact⟨⟨_,rfl⟩,.inr ⟨by simp[hall,h5],h6⟩⟩
def XM(b:Nat)(x:Str)(W:World):Exit->Act->World->Prop
 | .normal,_,W'=>U0 x=true/\W'=W
 | .ret,_,W'=>U0 x=false/\W'=W.setCell ⟨b,0,none⟩ (.int .i64 210)
 | _,_,_=>False
theorem GZ{ps:Array Tmp}{assign body:Code}{Q:Exit->Act->World->Prop}{a:Act}{w:World}{g:Operand}{b2 bs bp bv:Nat}{n0:Nat}{w0:World}{p:Str}(hp:p.length<=1073741824)
  (hne:bs≠bp/\bs≠bv/\bs≠b2/\n0<=bs/\n0<=b2) (hlt:bs<w.heap.size/\b2<w.heap.size/\n0<=w.heap.size) (hps:ps.size=1)
  (hIdx:∀(s:Str) (w:World),Calls Tryz.prog 233 #[.string ⟨s.toArray⟩,.string ⟨#[47]⟩] w (fun e w'=>e=.returned (.int .i64 (Lib.indexByte s 47))/\w'=w))
  (hg:a.eval g=.func (.func 292) #[] #[.pointer (some ⟨bp,0,none⟩),.pointer (some ⟨bs,0,none⟩),.pointer (some ⟨bv,0,none⟩)])
  (hs:w.heap[bs]?=some (.cells #[.string ⟨p.toArray⟩] 9 (0,0))) (hsp:w.heap[bp]?=some (.cells #[.string ⟨#[47]⟩] 9 (0,0))) (hsv:w.heap[bv]?=some (.cells #[.int .i64 0] 3 (0,0))) (hr:w.heap[b2]?=some (.cells #[.int .i64 0] 27 (0,0))) (hb:Below n0 w0 w)
  (a₁:Str->Act)
  (hassign:∀(l:Nat) (x:Str) (W:World) (K:Act->World->Prop),K (a₁ x) W ->
   assign.wpIn (Fence.wide.inRound l) 3 Tryz.prog (Exit.then K (fun _ _ _=>False)) { tmps:=(ps.zip #[Value.string ⟨x.toArray⟩]).foldl (fun t (p,v)=>t.setIfInBounds p v) a.tmps,defers:=[] } W)
  (hbody:∀(l:Nat) (x:Str) (W:World),W.heap[b2]?=some (.cells #[.int .i64 0] 27 (0,0))->body.wpIn (Fence.wide.inRound l) 3 Tryz.prog (XM b2 x W) (a₁ x) W)
  (hdone:∀(D:Nat) (W:World),w.heap.size<=D->(L2 [] p).all U0=true->W.heap[b2]?=some (.cells #[.int .i64 0] 27 (0,0))->W.heap[D]?=some (.deferred (some []))->Below n0 w0 W->Q .normal { a with defers:={ target:=.collected D,args:=#[] }::a.defers } W)
  (hstop:∀(D:Nat) (W:World),w.heap.size<=D->(L2 [] p).all U0=false->W.heap[b2]?=some (.cells #[.int .i64 210] 27 (0,0))->W.heap[D]?=some (.deferred (some []))->Below n0 w0 W->Code.ret.wpIn Fence.wide 5 Tryz.prog Q { a with defers:={ target:=.collected D,args:=#[] }::a.defers } W) :
  (Code.rangeFunc g ps assign body).wpIn Fence.wide 5 Tryz.prog Q a w:=by
 refine wpIn_rangeFunc ?_;intro fn hfn;obtain⟨rec,hrec⟩:∃rec:LoopState->Option Code->Loop,rec=fun st pe=>{ state:=st,pending:=pe,fn,tmps:=a.tmps,params:=ps,assign,body,defers:=w.heap.size }:=⟨_,rfl⟩
 obtain⟨W1,hW1⟩:∃W1,(w.alloc (.deferred (some []))).alloc (.loop (rec .ready none))=W1:=⟨_,rfl⟩
 have old:∀k o,w.heap[k]?=some o->W1.heap[k]?=some o:=fun k o h=>by
  have hlt:=(Array.getElem?_eq_some_iff.1 h).1;rw[<-hW1];exact (Below.heap_alloc _ _ _ (by rw[World.size_alloc];omega)).trans ((Below.heap_alloc _ _ _ hlt).trans h)
 have hL1:W1.heap[w.heap.size+1]?=some (.loop (rec .ready none)):=by
  rw[<-hW1];have:=World.alloc_heap_new (w.alloc (.deferred (some []))) (.loop (rec .ready none));rwa[World.size_alloc]at this
 have hK1:W1.heap[w.heap.size]?=some (.deferred (some [])):=by
  rw[<-hW1];exact (Below.heap_alloc _ _ _ (by simp)).trans (World.alloc_heap_new w _)
 have hb1:Below n0 w0 W1:=by
  rw[<-hW1];exact hb.trans (((Below.refl n0 w).alloc hlt.2.2 _).alloc (by simp;omega) _)
 refine⟨w.heap.size+1,[{ target:=.collected w.heap.size,args:=#[] }],W1,{ target:=.fn (.func 292) #[.pointer (some ⟨bp,0,none⟩),.pointer (some ⟨bs,0,none⟩),.pointer (some ⟨bv,0,none⟩)],args:=#[.func (.yield (w.heap.size+1)) #[] #[]] },W1,292,
  #[.func (.yield (w.heap.size+1)) #[] #[],.pointer (some ⟨bp,0,none⟩),.pointer (some ⟨bs,0,none⟩),.pointer (some ⟨bv,0,none⟩)],W1,?_,?_,?_,?_,fun _=>by omega,?_⟩
 ·rw[<-hW1,hrec];exact run_enterLoop_outer _ _ _ _ _
 ·simp only[resolve,hg];simp[go_sem]
 ·intro f' hf';trivial
 ·simp[invoke,go_sem]
 ·have hY:∀rest x W,RInv rec n0 w0 (w.heap.size+1) w.heap.size b2 bs bp bv rest W->YieldAt Fence.wide 3 Tryz.prog (w.heap.size+1) #[.string ⟨x.toArray⟩] W (fun e W'=>(U0 x=true/\e=.returned (.bool true)/\RInv rec n0 w0 (w.heap.size+1) w.heap.size b2 bs bp bv rest W')\/(U0 x=false/\e=.returned (.bool false)/\RFin rec n0 w0 (w.heap.size+1) w.heap.size b2 W')):=by
   intro rest x W hI;have hy:=run_yield (P:=Tryz.prog) (args:=#[Value.string ⟨x.toArray⟩]) hI.l (by rw[hrec];exact hps.symm);rw[hrec]at hy;refine⟨fn,_,assign,body,hy,roundIn_of_wpIn hfn (hassign _ x W _ ⟨_,run_beginRound hI.l (by rw[hrec]),?_⟩)⟩;have hltl:w.heap.size+1<W.heap.size:=(Array.getElem?_eq_some_iff.1 hI.l).1;obtain⟨W2,hW2⟩:∃W2,W.putObj (w.heap.size+1) (.loop { rec .ready none with state:=.busy })=W2:=⟨_,rfl⟩
   rw[hW2];have oth:∀k,k≠w.heap.size+1->W2.heap[k]?=W.heap[k]?:=fun k hk=>by rw[<-hW2];exact World.putObj_heap_other hk
   have hl2:W2.heap[w.heap.size+1]?=some (.loop { rec .ready none with state:=.busy }):=by rw[<-hW2];exact World.putObj_heap_same hltl
   have hbB:∀(o:Obj) (X:World),Below n0 w0 X->w.heap.size+1<X.heap.size->Below n0 w0 (X.putObj (w.heap.size+1) o):=fun o X hX hXs=>hX.grown (grownBy_putObj' X _ o) (by have:=hX.size;omega) (fun k e=>by cases e;omega);have hb2:Below n0 w0 W2:=by rw[<-hW2];exact hbB _ _ hI.b hltl
   refine wpIn_mono (hbody _ x W2 ((oth _ (by omega)).trans hI.r)) ?_;rintro e a3 W3 hp;cases e with
   | normal =>
    obtain⟨hok,rfl⟩:=hp;refine⟨_,_,run_endRound none hl2,.inl ⟨hok,rfl,?_⟩⟩;have fin:∀k,k≠w.heap.size+1->(W3.putObj (w.heap.size+1) (.loop { rec .ready none with state:=.ready,pending:=none })).heap[k]?=W.heap[k]?:=fun k hk=>(World.putObj_heap_other hk).trans (oth k hk);have hsz:w.heap.size+1<W3.heap.size:=(Array.getElem?_eq_some_iff.1 hl2).1;have hbs:=(Array.getElem?_eq_some_iff.1 hs).1;have hbp:=(Array.getElem?_eq_some_iff.1 hsp).1;have hbv:=(Array.getElem?_eq_some_iff.1 hsv).1;refine⟨(fin _ (by omega)).trans hI.s,(fin _ (by omega)).trans hI.p,(fin _ (by omega)).trans hI.v,(fin _ (by omega)).trans hI.r,?_,(fin _ (by omega)).trans hI.d,hbB _ _ hb2 hsz⟩;refine (World.putObj_heap_same hsz).trans ?_;rw[hrec];rfl
   | ret =>
    obtain⟨hok,rfl⟩:=hp;have hl3:(W2.setCell ⟨b2,0,none⟩ (.int .i64 210)).heap[w.heap.size+1]?=some (.loop { rec .ready none with state:=.busy }):=(Below.heap_setCell W2 _ _ _ (by show w.heap.size+1≠b2;omega)).trans hl2;have hsz:w.heap.size+1<(W2.setCell ⟨b2,0,none⟩ (.int .i64 210)).heap.size:=(Array.getElem?_eq_some_iff.1 hl3).1;refine⟨_,_,run_endRound (some .ret) hl3,.inr ⟨hok,rfl,?_⟩⟩;refine⟨(World.putObj_heap_other (by omega)).trans (aY ((oth _ (by omega)).trans hI.r)),?_,?_,hbB _ _ (hb2.setCell (p:=⟨b2,0,none⟩) hne.2.2.2.2 _) hsz⟩
    ·refine (World.putObj_heap_same hsz).trans ?_;rw[hrec];rfl
    ·exact (World.putObj_heap_other (by omega)).trans ((Below.heap_setCell W2 _ _ _ (by show w.heap.size≠b2;omega)).trans ((oth _ (by omega)).trans hI.d))
   | _=>exact hp.elim
  refine (GY ⟨hne.1,hne.2.1,hne.2.2.1,by omega,by omega,hne.2.2.2.1⟩ hIdx hY p hp W1 ⟨old _ _ hs,old _ _ hsp,old _ _ hsv,old _ _ hr,hL1,hK1,hb1⟩).mono ?_;have hbE:∀(o:Obj) (X:World),Below n0 w0 X->w.heap.size+1<X.heap.size->Below n0 w0 (X.putObj (w.heap.size+1) o):=fun o X hX hXs=>hX.grown (grownBy_putObj' X _ o) (by have:=hX.size;omega) (fun k e=>by cases e;omega);rintro e W2 ⟨⟨v,rfl⟩,(⟨hall,rest,hI⟩ | ⟨hall,hI⟩)⟩
  ·have hsz:w.heap.size+1<W2.heap.size:=(Array.getElem?_eq_some_iff.1 hI.l).1;refine⟨none,_,by have:=run_endLoop (P:=Tryz.prog) hI.l (by rw[hrec];simp);rw[hrec]at this;exact this,?_⟩;exact hdone _ _ (Nat.le_refl _) hall ((World.putObj_heap_other (by omega)).trans hI.r) ((World.putObj_heap_other (by omega)).trans hI.d) (hbE _ _ hI.b hsz)
  ·have hsz:w.heap.size+1<W2.heap.size:=(Array.getElem?_eq_some_iff.1 hI.l).1;refine⟨some .ret,_,by have:=run_endLoop (P:=Tryz.prog) hI.l (by rw[hrec];simp);rw[hrec]at this;exact this,?_⟩;exact hstop _ _ (Nat.le_refl _) hall ((World.putObj_heap_other (by omega)).trans hI.r) ((World.putObj_heap_other (by omega)).trans hI.d) (hbE _ _ hI.b hsz)
theorem HA(w:World)(s p:ByteArray):CallsIn Fence.wide 3 Tryz.prog 248 #[.string s,.string p,.int .i64 0] w fun e w' =>
  e=.returned (.func (.func 292) #[] #[.pointer (some ⟨w.heap.size+1,0,none⟩),.pointer (some ⟨w.heap.size,0,none⟩),.pointer (some ⟨w.heap.size+1+1,0,none⟩)]) /\
  w'=((w.alloc (.cells #[.string s] 9)).alloc (.cells #[.string p] 9)).alloc (.cells #[.int .i64 0] 3):=by
 have hmf:∀(fn:Fn) (first cap:Array Value) (w:World),(Instr.makeFunc fn first cap).run Tryz.prog w=.ok (.func fn first cap) w:=fun _ _ _ _=>rfl;refine callsIn_of_wp Tryz.func248 rfl trivial ?_ rfl;simp only[Tryz.ntmps248,List.size_toArray,A34,A38,Nat.reduceAdd,Nat.reduceSub,Array.replicate_succ,Array.replicate_zero,List.push_toArray,List.append_toArray,A61,A57]
 gi_wp2
 go_ret
 exact⟨rfl,rfl⟩
theorem HB(w:World)(s p:ByteArray):CallsIn Fence.wide 4 Tryz.prog 184 #[.string s,.string p] w fun e w' =>
  e=.returned (.func (.func 292) #[] #[.pointer (some ⟨w.heap.size+1,0,none⟩),.pointer (some ⟨w.heap.size,0,none⟩),.pointer (some ⟨w.heap.size+1+1,0,none⟩)]) /\
  w'=((w.alloc (.cells #[.string s] 9)).alloc (.cells #[.string p] 9)).alloc (.cells #[.int .i64 0] 3):=by
 refine callsIn_of_wp Tryz.func184 rfl trivial ?_ rfl;simp only[Tryz.ntmps184,List.size_toArray,A34,A38,Nat.reduceAdd,Nat.reduceSub,Array.replicate_succ,Array.replicate_zero,List.push_toArray,List.append_toArray,A61,A57]
 gi_wp2_with (refine⟨trivial,?_⟩;gi_at_call 248;refine (HA _ _ _).mono ?_;rintro e w' ⟨rfl,rfl⟩)
 go_ret
 exact⟨rfl,rfl⟩
theorem oQ{tmps:Array Value}{b:Nat}{v:Value}{W:World}(ht:tmps[2]?.getD undef=.pointer (some ⟨b,0,none⟩))(hc:W.heap[b]?=some (.cells #[v] 27 (0,0))):(results Tryz.f113 tmps).run Tryz.prog W=.ok v W:=by
 have h1:=(d9 hc).1;simp[results,Tryz.results113,go_sem,h1,ht]
theorem DL(p:Str)(hp:p.length<=1073741824)
  (hIdx:∀(s:Str) (w:World),Calls Tryz.prog 233 #[.string ⟨s.toArray⟩,.string ⟨#[47]⟩] w (fun e w'=>e=.returned (.int .i64 (Lib.indexByte s 47))/\w'=w))
  (hCon:∀(s:Str) (w:World),Calls Tryz.prog 183 #[.string ⟨s.toArray⟩,.string ⟨#[0]⟩] w (fun e w'=>e=.returned (.bool (decide (0<=Lib.indexByte s 0)))/\w'=w)) (w:World) :
  CallsIn Fence.wide 5 Tryz.prog 113 #[.string ⟨p.toArray⟩] w (fun e w'=>e=.returned (.int .i64 (if p.length>200\/0<=Lib.indexByte p 0 then 210 else if (L2 [] p).all U0=true then 0 else 210))/\Below w.heap.size w w'):=by
 refine callsIn_of_wp_marks Tryz.func113 rfl trivial ?_ rfl;simp only[Tryz.ntmps113,List.size_toArray,A34,A38,Nat.reduceAdd,Nat.reduceSub,Array.replicate_succ,Array.replicate_zero,List.push_toArray,List.append_toArray,A61,A57];have hnew:=d9 (World.alloc_heap_new w (.cells #[.int .i64 0] 27));have hB:Below w.heap.size w (w.alloc (.cells #[.int .i64 0] 27)):=(Below.refl _ w).alloc (Nat.le_refl _) _;by_cases h1:200<p.length
 ·rw[A4 (.inl h1)]
  gi_wp2_with (refine⟨trivial,?_⟩)
  exact⟨_,oQ rfl (World.alloc_heap_new w _),rfl,(Below.refl _ w).alloc (Nat.le_refl _) _⟩
 by_cases h2:0<=Lib.indexByte p 0
 ·rw[A4 (.inr h2)]
  gi_wp2_with (refine⟨trivial,?_⟩;gi_at_call 183;refine (callsIn_wide.2 (hCon p _)).mono ?_;rintro e w' ⟨rfl,rfl⟩)
  exact⟨_,oQ rfl (World.alloc_heap_new w _),rfl,(Below.refl _ w).alloc (Nat.le_refl _) _⟩
 ·rw[A5 (by omega)];obtain⟨r,hr0⟩:∃r:Int,(if (L2 [] p).all U0=true then 0 else 210:Int)=r:=⟨_,rfl⟩
  rw[hr0]
  gi_wp2_with (first | (refine⟨trivial,?_⟩;gi_at_call 183;refine (callsIn_wide.2 (hCon p _)).mono ?_;rintro e w' ⟨rfl,rfl⟩) | (refine⟨trivial,?_⟩;gi_at_call 184;refine (HB _ _ _).mono ?_;rintro e w' ⟨rfl,rfl⟩))
  obtain⟨W0,hW0⟩:∃W0,(((w.alloc (.cells #[.int .i64 0] 27)).alloc (.cells #[.string ⟨p.toArray⟩] 9)).alloc (.cells #[.string ⟨#[47]⟩] 9)).alloc (.cells #[.int .i64 0] 3)=W0:=⟨_,rfl⟩
  have hsz:W0.heap.size=w.heap.size+4:=by rw[<-hW0];simp
  have g0:W0.heap[w.heap.size]?=some (.cells #[.int .i64 0] 27 (0,0)):=by
   rw[<-hW0];refine (Below.heap_alloc _ _ _ (by simp;omega)).trans ((Below.heap_alloc _ _ _ (by simp;omega)).trans ((Below.heap_alloc _ _ _ (by simp)).trans (World.alloc_heap_new w _)))
  have g1:W0.heap[w.heap.size+1]?=some (.cells #[.string ⟨p.toArray⟩] 9 (0,0)):=by
   rw[<-hW0];refine (Below.heap_alloc _ _ _ (by simp)).trans ((Below.heap_alloc _ _ _ (by simp)).trans ?_);have:=World.alloc_heap_new (w.alloc (.cells #[.int .i64 0] 27)) (.cells #[.string ⟨p.toArray⟩] 9)
   rwa[World.size_alloc]at this
  have g2:W0.heap[w.heap.size+1+1]?=some (.cells #[.string ⟨#[47]⟩] 9 (0,0)):=by
   rw[<-hW0];refine (Below.heap_alloc _ _ _ (by simp)).trans ?_;have:=World.alloc_heap_new ((w.alloc (.cells #[.int .i64 0] 27)).alloc (.cells #[.string ⟨p.toArray⟩] 9)) (.cells #[.string ⟨#[47]⟩] 9);simp only[World.size_alloc]at this;exact this
  have g3:W0.heap[w.heap.size+1+1+1]?=some (.cells #[.int .i64 0] 3 (0,0)):=by
   rw[<-hW0];have:=World.alloc_heap_new (((w.alloc (.cells #[.int .i64 0] 27)).alloc (.cells #[.string ⟨p.toArray⟩] 9)).alloc (.cells #[.string ⟨#[47]⟩] 9)) (.cells #[.int .i64 0] 3);simp only[World.size_alloc]at this;exact this
  have hb0:Below w.heap.size w W0:=by
   rw[<-hW0];exact (((hB.alloc (by simp) _).alloc (by simp;omega) _).alloc (by simp;omega) _)
  rw[hW0];refine GZ (b2:=w.heap.size) (bs:=w.heap.size+1) (bp:=w.heap.size+1+1) (bv:=w.heap.size+1+1+1) (n0:=w.heap.size) (w0:=w) (p:=p) hp (by omega) (by omega) rfl hIdx rfl g1 g2 g3 g0 hb0 (fun x=>{ tmps:=#[.string ⟨p.toArray⟩,undef,.pointer (some ⟨w.heap.size,0,none⟩),.string ⟨x.toArray⟩,.string ⟨p.toArray⟩,.int .i64 p.length,.bool (decide (200<(p.length:Int))),.bool (decide (200<(p.length:Int))),.string ⟨p.toArray⟩,.bool (decide (0<=Lib.indexByte p 0)),.bool (decide (200<(p.length:Int))||decide (0<=Lib.indexByte p 0)),.string ⟨p.toArray⟩,.func (.func 292) #[] #[.pointer (some ⟨w.heap.size+1+1,0,none⟩),.pointer (some ⟨w.heap.size+1,0,none⟩),.pointer (some ⟨w.heap.size+1+1+1,0,none⟩)],.string ⟨x.toArray⟩,undef,undef,undef,undef,undef,undef,undef,undef,undef,undef],defers:=[] }) ?assign ?body ?done ?stop
  case assign =>
   intro l x W K hK
   gi_wp2
   exact hK
  case body =>
   intro l x W hr;obtain⟨hc1,hc2⟩:=d9 hr;by_cases e1:x=[]
   ·subst e1
    gi_wp2
    exact⟨rfl,rfl⟩
   by_cases e2:x=[46]
   ·subst e2
    gi_wp2
    exact⟨rfl,rfl⟩
   by_cases e3:x=[46,46]
   ·subst e3
    gi_wp2
    exact⟨rfl,rfl⟩
   have f1:x.isEmpty=false:=by cases x with | nil=>exact absurd rfl e1 | cons _ _=>rfl
   have f2:(x == [46])=false:=by simpa using e2
   have f3:(x == [46,46])=false:=by simpa using e3
   have hok:U0 x=true:=A2 ⟨e1,e2,e3⟩;clear e1 e2 e3
   gi_wp2
   all_goals exact⟨hok,rfl⟩
  case done =>
   intro D W hD hall hr hK hb;obtain⟨hc1,hc2⟩:=d9 hr;rw[A4 hall]at hr0;subst hr0;clear hall
   gi_wp2
   have hK2:(W.setCell ⟨w.heap.size,0,none⟩ (.int .i64 0)).heap[D]?=some (.deferred (some [])):=(Below.heap_setCell W _ _ _ (by show D≠w.heap.size;omega)).trans hK;refine⟨by simp,.inl ⟨_,_,rfl,run_takeDeferred hK2,?_⟩⟩;refine⟨_,oQ rfl ((World.putObj_heap_other (by omega)).trans (aY hr)),rfl,?_⟩;have hb3:=hb.setCell (p:=⟨w.heap.size,0,none⟩) (Nat.le_refl _) (.int .i64 0);exact hb3.grown (grownBy_putObj' _ _ _) (by have:=hb3.size;omega) (fun k e=>by cases e;omega)
  case stop =>
   intro D W hD hall hr hK hb;rw[hall,A5 (by decide)]at hr0;subst hr0;clear hall
   gi_wp2
   refine⟨by simp,.inl ⟨_,_,rfl,run_takeDeferred hK,?_⟩⟩;refine⟨_,oQ rfl ((World.putObj_heap_other (by omega)).trans hr),rfl,?_⟩;exact hb.grown (grownBy_putObj' W _ _) (by have:=hb.size;omega) (fun k e=>by cases e;omega)
theorem zE(p:Str)(b:p.length<=1073741824):FnOk Tryz.prog 113 [F9 p] (fun c=>c=[E2 (w8 p)]) :=
 A12 (xs:=[.string ⟨p.toArray⟩]) ⟨_,rfl,rfl,rfl⟩ rfl fun w d=>by
  have h:=callsIn_wide.1 (DL p b (fun s w=>by simpa using Tryz.strings_Index_one ⟨s.toArray⟩ 47 w) (fun s w=>by simpa using Tryz.strings_Contains_one ⟨s.toArray⟩ 0 w) w);refine h.mono ?_;rintro e w' ⟨rfl,hb⟩;refine⟨?_,hb⟩;rw[EI];have a:p.contains 0=true↔0<=Lib.indexByte p 0:=by rw[fH,List.contains_iff_mem]
  simp only[a]
set_option maxHeartbeats 1000000
structure FewF (l:List File):Prop where
 len:l.length<=1073741824
 path:∀f∈l,f.Path.length<=1073741824
 blob:∀f∈l,f.Blob.length<=16777216
theorem LI(f:File)(a:f.Path.length<=1073741824):FnOk Tryz.prog 112 [OQ f] (fun rs=>rs=[F3 (decide (w8 f.Path≠0))]):=by
 refine FnOk.intro Tryz.func112 (by decide) Z Z Z Z ?_;refine k2 ?_;refine A7 (D2 (Y7 1 Z Z Z) Z (A6 (A9 Z Z) Z (B0 ?_)));refine k1 (k2 ?_);refine A7 (A6 (B1 Z) Z (A6 (B2 Z Z Z) Z (C4 (zE f.Path a) Z Z Z ?_)));rintro _ rfl;refine A6 (K4 Z Z) Z (A6 (A9 Z Z) Z (B0 ?_));refine k1 (G5 ?_);exact C0 (H6 rfl rfl rfl) rfl
theorem LJ(f:File)(a:f.Blob.length<=16777216):FnOk Tryz.prog 115 [OQ f] (fun rs=>rs=[F3 (decide (l5 f.Blob≠0))]):=by
 refine FnOk.intro Tryz.func115 (by decide) Z Z Z Z ?_;refine k2 ?_;refine A7 (D2 (Y7 1 Z Z Z) Z (A6 (A9 Z Z) Z (B0 ?_)));refine k1 (k2 ?_);refine A7 (A6 (B1 Z) Z (A6 (B2 Z Z Z) Z (C4 (AW f.Blob (by omega)) Z Z Z ?_)));rintro _ rfl;refine A6 (K4 Z Z) Z (A6 (A9 Z Z) Z (B0 ?_));refine k1 (G5 ?_);exact C0 (H6 rfl rfl rfl) rfl
theorem LK(l:List File)(h:FewF l):FnOk Tryz.prog 56 [cE l] (fun rs=>rs=[E2 (L5 l)]):=by
 have d:=h.len;refine FnOk.intro Tryz.func56 (by decide) Z Z Z Z ?_;refine k2 ?_;refine A7 (A6 (A9 Z Z) Z (B0 ?_));refine k1 (k2 (k3 (k2 ?_)));refine A7 (A6 (A8 Z Z) Z (A6 (F0 Z (.pure _ _ _ _)) Z (A6 (P8 Z Z) Z (A6 (A9 Z Z) Z (B0 ?_)))));refine k1 ?_;refine B8 rfl (fun a=>?_) (fun a=>?_)
 ·have i:(200:Int)<l.length:=A0 a;refine k2 ?_;refine A7 (A6 (A9 Z Z) Z (B0 ?_));refine k1 (G5 (R5 (I2 ?_)));exact C0 (rs:=[E2 1]) (H6 rfl rfl rfl) (by unfold L5;rw[A4 (by omega)])
 have i:¬(200:Int)<l.length:=A1 a;refine k2 ?_;refine A7 (A6 (A8 Z Z) Z (C4 (jC 112 (fun f=>decide (w8 f.Path≠0)) l d (fun f c=>LI f (h.path f c))) Z Z Z ?_));rintro _ rfl;refine A6 (A9 Z Z) Z (B0 ?_);refine k1 ?_;refine B8 rfl (fun a=>?_) (fun a=>?_)
 ·refine k2 ?_;refine A7 (A6 (A9 Z Z) Z (B0 ?_));refine k1 (G5 (R5 (I2 ?_)));exact C0 (rs:=[E2 210]) (H6 rfl rfl rfl) (by unfold L5;rw[A5 (by omega),A4 a])
 have b:=a;refine k2 ?_;refine A7 (A6 (A8 Z Z) Z (C4 (GX l d h.path) Z Z Z ?_));rintro _ rfl;refine A6 (G7 Z) Z (A6 (A9 Z Z) Z (B0 ?_));refine k1 ?_;refine B8 rfl (fun a=>?_) (fun a=>?_)
 ·refine k2 ?_;refine A7 (A6 (A9 Z Z) Z (B0 ?_));refine k1 (G5 (R5 (I2 ?_)));exact C0 (rs:=[E2 211]) (H6 rfl rfl rfl) (by unfold L5;rw[A5 (by omega),A5 (by rw[b];decide),A4 (by simpa using a)])
 have g:l6 l=true:=by simpa using a
 refine k2 ?_;refine A7 (A6 (A8 Z Z) Z (C4 (jC 115 (fun f=>decide (l5 f.Blob≠0)) l d (fun f c=>LJ f (h.blob f c))) Z Z Z ?_));rintro _ rfl;refine A6 (A9 Z Z) Z (B0 ?_);refine k1 ?_;refine B8 rfl (fun a=>?_) (fun a=>?_)
 ·refine k2 ?_;refine A7 (A6 (A9 Z Z) Z (B0 ?_));refine k1 (G5 (R5 (I2 ?_)));exact C0 (rs:=[E2 1]) (H6 rfl rfl rfl) (by unfold L5;rw[A5 (by omega),A5 (by rw[b];decide),A5 (by rw[g];decide),A4 a])
 ·refine k5 (k2 ?_);refine A7 (A6 (A9 Z Z) Z (B0 ?_));refine k1 (G5 ?_);exact C0 (rs:=[E2 0]) (H6 rfl rfl rfl) (by unfold L5;rw[A5 (by omega),A5 (by rw[b];decide),A5 (by rw[g];decide),A5 (by rw[a];decide)])
theorem UP(l:List File)(p:Str)(q:l.length<=1073741824):FnOk Tryz.prog 135 [cE l,F9 p] (fun rs=>rs=[F9 ((O7 l p).getD []),F3 (O7 l p).isSome]):=by
 refine FnOk.intro Tryz.func135 (by decide) Z Z Z Z ?_;refine k2 ?_;refine A7 (A6 (A9 Z Z) Z (A6 (A9 Z Z) Z (B0 ?_)));refine k1 (k2 (k2 ?_));refine A7 (A6 (A8 Z Z) Z (A6 (F0 Z (.pure _ _ _ _)) Z (A6 (A8 Z Z) Z (B0 ?_))));refine k1 (k3 ?_);refine E3 (X:=Nat) (fun i=>([(1,P3 p),(8,D7 File 2 l9 l),(9,C7 l.length),(10,C7 i)],[])) (fun i=>i<=l.length/\O7 l p=O7 (l.drop i) p) (fun i=>l.length-i) 0 ⟨Nat.zero_le _,rfl⟩ (Sees.of ⟨B5 rfl,B5 rfl,B5 rfl,B5 rfl,trivial⟩ trivial) ?_;rintro i ⟨k,a⟩;dsimp only at k a ⊢;refine k2 ?_;refine A7 (A6 (F2 Z Z) Z (B0 ?_));refine k1 (k2 ?_);refine B8 rfl (fun d=>?_) (fun d=>?_);rotate_left
 ·have b:i=l.length:=by have b:=A1 d;(try dsimp only at b);omega
  rw[A48 (by omega)]at a;rw[a];refine k6 (k2 ?_);refine A7 (A6 (A9 Z Z) Z (A6 (A9 Z Z) Z (B0 ?_)));refine k1 (G5 ?_);exact C0 (rs:=[F9 [],F3 false]) (R0 rfl rfl rfl rfl rfl) rfl
 have c:i<l.length:=by have b:=A0 d;(try dsimp only at b);omega
 obtain⟨f,h⟩:∃f,f=l[i]:=⟨_,rfl⟩
 have n:l[i]?=some f:=by rw[h];simp[c]
 rw[A41 c,<-h]at a;have j:O7 (f::l.drop (i+1)) p=if f.Path=p then some f.Blob else O7 (l.drop (i+1)) p:=rfl
 rw[j]at a;refine k5 (k1 (k2 (k3 (k2 ?_))));refine A7 (A6 (C1 Z (.pure _ _ _ _) Z (by omega) n) Z (A6 (E5 Z Z) Z (D2 (G3 7 Z) Z (F4 (C2 TySz.out Z Z Z Z Z Z) (B0 ?_)))));refine k1 (k2 ?_);refine A7 (A6 (B1 Z) Z (A6 (B2 Z Z Z) Z (A6 (A8 Z Z) Z (A6 (c7 Z Z) Z (B0 ?_)))));refine k1 ?_;refine B8 rfl (fun d=>?_) (fun d=>?_)
 ·have b:f.Path=p:=A0 d;rw[A4 b]at a;rw[a];refine k2 ?_;refine A7 (A6 (B1 Z) Z (A6 (B2 Z Z Z) Z (A6 (A9 Z Z) Z (A6 (A9 Z Z) Z (B0 ?_)))));refine k1 (G5 (R5 (I2 (I2 (R5 (I2 ?_))))));exact C0 (rs:=[F9 f.Blob,F3 true]) (R0 rfl rfl rfl rfl rfl) rfl
 ·have b:¬f.Path=p:=A1 d;rw[A5 b]at a;refine k5 (k4 (k1 ?_));refine A7 (A6 (C9 Z Z (by omega)) Z (A6 (A8 Z Z) Z (B0 ?_)));refine k1 ?_;exact⟨i+1,⟨c,a⟩,by omega,(Sees.of ⟨B5 rfl,B5 rfl,B5 rfl,B5 rfl,trivial⟩ trivial)⟩
end Go.Proofs.YtgkjogphmmoakaaGreatDoor
