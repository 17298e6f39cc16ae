/- Walks of the program's functions. -/
import Derived.Test.YtbflhoahmmfkmaaGreatDoorTy
import Derived.Test.YtbflhoahmmfkmaaGreatDoorFs
import Derived.Test.YtbflhoahmmfkmaaGreatDoorSh
import Derived.Lib.AppendIntMem
set_option linter.all false
namespace Go.Proofs.YtbflhoahmmfkmaaGreatDoor
open Go Go.AL
set_option maxRecDepth 100000
theorem BK(p:Int):0<=IntKind.u64.wrap p:=by simp[IntKind.wrap,IntKind.signed,IntKind.bits];omega
theorem JJ(b:Str)(hb:b.length<=536870912):FnOk Tryz.prog 12 [H1 b] (fun I=>I=[jO (G4 b)]):=by
 refine FnOk.intro Tryz.func12 (by decide) Z Z Z Z ?_;refine k2 ?_;refine A7 (A6 (A9 Z Z) Z (B0 ?_));refine k1 (k2 ?_);refine A7 (D3 (V3 3 _ y1 Z) Z (B0 ?_));refine k1 (k2 ?_);refine A7 (A6 (A9 Z Z) Z (B0 ?_));refine k1 (k2 (k2 ?_));refine A7 (A6 (A9 Z Z) Z (B0 ?_));refine k1 (k3 ?_);refine D9 (X:=Nat×Nat×List Str) (fun x=>([(0,P4 b),(3,.s (.one (.buf 3 Str 1 y1 x.2.2))),(4,D1 x.2.1),(5,D1 x.1)],[(3,.spare x.2.2.length 1 9)]))
  (fun x=>x.1<=b.length/\x.2.1<=x.1/\x.2.2.length<=x.1/\(x.1=b.length->x.2.1=x.1)/\x.2.2++H9 ((b.drop x.2.1).take (x.1-x.2.1)) (b.drop x.1)=G4 b) (fun x=>b.length-x.1) (0,0,[]) (by simp[G4]) ?_ ?_
 ·exact Sees.of ⟨⟨_,rfl,.same _⟩,⟨_,rfl,.same _⟩,⟨_,rfl,.same _⟩,⟨_,rfl,.same _⟩,trivial⟩ ⟨rfl,trivial⟩
 ·rintro⟨i,d,B⟩ ⟨E,y,F,C,v⟩;dsimp only at E y F C v ⊢;refine k2 (k2 ?_);refine A7 (A6 (A8 Z Z) Z (A6 (A8 Z Z) Z (A6 (L1 Z) Z (A6 (F1 Z Z) Z (B0 ?_)))));refine k1 ?_;refine B5 rfl (fun A=>?_) (fun A=>?_)
  ·have g:i<b.length:=by simpa using A
   have H:b[i]?=some b[i]:=by simp[g]
   refine k5 (k1 (k2 (k3 (k2 ?_))));refine A7 (A6 (A8 Z Z) Z (A6 (A8 Z Z) Z (A6 (P2 Z Z (by omega) H) Z (A6 (J1 Z Z) Z (A6 (A8 Z Z) Z (B3 Z Z Z Z (fun q=>by rw[q];exact A8 Z Z) ?_))))));refine B3 Z Z Z Z (fun q=>by have G:=q;(try simp at G);rw[q];exact D8 Z Z (by omega)) ?_;refine B3 Z Z Z Z (fun q=>by rw[q];exact A8 Z Z) ?_;refine B3 Z Z Z Z (fun q=>by rw[q];exact L1 Z) ?_;refine B3 Z Z Z Z (fun q=>by rw[q];exact J1 Z Z) ?_;refine A6 (C3 Z (fun h=>by first | rfl | (rw[h];rfl)) (fun h=>by first | rfl | (rw[h];rfl))) Z ?_;refine B0 ?_;refine k1 ?_;refine B5 rfl (fun j=>?_) (fun j=>?_)
   ·refine k2 ?_;refine A7 (A6 (A8 Z Z) Z (A6 (A8 Z Z) Z (A6 (A8 Z Z) Z (A6 (A8 Z Z) Z (A6 (D8 Z Z (by omega)) Z (A6 (oI Z Z Z (by omega) (by omega) (by omega)) Z (A6 (D2 (c:=y1) (ys:=[_]) (D6 Z Z Z Z G1) Z Z Z) Z (D3 (L2 Z Z Z (.pure _ _ _ _) (by simp;omega) Z) Z (A6 (A9 Z Z) Z (B0 ?_))))))))));refine k1 ?_;refine A7 (A6 (A8 Z Z) Z (A6 (D8 Z Z (by omega)) Z (A6 (A9 Z Z) Z (B0 ?_))));refine k4 (k1 ?_);refine A7 (A6 (A8 Z Z) Z (A6 (D8 Z Z (by omega)) Z (A6 (A9 Z Z) Z (B0 ?_))));refine k1 ?_;refine⟨(i+1,i+1,_),⟨?_,?_,?_,?_,?_⟩,?_,Sees.of ⟨⟨_,rfl,.same _⟩,⟨_,rfl,.same _⟩,⟨_,rfl,.same _⟩,⟨_,rfl,.same _⟩,trivial⟩ ⟨rfl,trivial⟩⟩
    all_goals dsimp only
    ·omega
    ·omega
    ·simp;omega
    ·omega
    ·have w:b[i]=10\/i+1=b.length:=by
      simp only[RV]at j;by_cases h:b[i]=10
      ·exact .inl h
      ·simp[h]at j;exact .inr (by omega)
     rw[CW,VC,WN,List.take_zero,<-tP b d i y g,VV,<-v,VN g,aS];rcases w with h | h
     ·rw[A4 h];rfl
     ·have D:b.drop (i+1)=[]:=WU (by omega);rw[D];split
      ·rfl
      ·rw[show H9 ([]:Str) []=[] from rfl,vU _ (by simp)];simp
    ·omega
   ·refine k5 (k4 (k1 ?_));refine A7 (A6 (A8 Z Z) Z (A6 (D8 Z Z (by omega)) Z (A6 (A9 Z Z) Z (B0 ?_))));refine k1 ?_;refine⟨(i+1,d,B),⟨?_,?_,?_,?_,?_⟩,?_,Sees.of ⟨⟨_,rfl,.same _⟩,⟨_,rfl,.same _⟩,⟨_,rfl,.same _⟩,⟨_,rfl,.same _⟩,trivial⟩ ⟨rfl,trivial⟩⟩
    all_goals dsimp only
    ·omega
    ·omega
    ·omega
    ·intro h;simp[show (i:Int)+1=(b.length:Int) by omega]at j
    ·have w:b[i]≠10:=fun h=>by simp[h]at j
     rw[<-tP b d i y g,<-v,VN g,aS,A5 w]
    ·omega
  ·refine k6 (k2 ?_);refine A7 (A6 (A8 Z Z) Z (A6 (A9 Z Z) Z (B0 ?_)));refine k1 (I8 ?_);refine B9 (I5 Z Z Z) ?_;have z:i=b.length:=by simp at A;omega
   subst z;have:=C rfl;subst this;rw[WN,List.take_zero,WU (Nat.le_refl _)]at v;rw[<-v];simp[H9]
theorem PE{n:Int}(h:0<=n/\n<18446744073709551616):IntKind.u64.wrap n=n:=by simp[IntKind.wrap,IntKind.signed,IntKind.bits];omega
def R0(a n:Int):Int:=IntKind.u64.wrap a % n
theorem U0(a:Int){n:Int}(h:1<=n):0<=R0 a n/\R0 a n<n:=⟨Int.emod_nonneg _ (by omega),Int.emod_lt_of_pos _ (by omega)⟩
theorem eH(a n:Int)(f:1<=n)(g:n<=9223372036854775807):FnOk Tryz.prog 9 [E6 a,E6 n] (fun rs=>rs=[E6 (R0 a n)]):=by
 refine FnOk.intro Tryz.func9 (by decide) Z Z Z Z ?_;refine k2 ?_;refine A7 (A6 (A9 Z Z) Z (B0 ?_));refine k1 (k2 ?_);have b:IntKind.u64.wrap n=n:=PE (by omega);refine A7 (A6 (A8 Z Z) Z (A6 (Z0 Z) Z (A6 (A8 Z Z) Z (A6 (Z0 Z) Z (A6 (gC Z Z (by (rw[b];omega))) Z ?_)))));refine A6 (Z0 Z) Z (A6 (A9 Z Z) Z (B0 ?_));refine k1 (I8 ?_);refine B9 (I5 Z Z Z) ?_;have c:=BK a;have e:(IntKind.u64.wrap a).tmod n=IntKind.u64.wrap a % n:=Int.tmod_eq_emod_of_nonneg c;have h:=U0 a f;unfold R0 at *;rw[b,e,xC ⟨by omega,by omega⟩]
def JK(a b:Int):Int:=IntKind.u64.wrap ((BitVec.ofInt IntKind.u64.bits a ^^^ BitVec.ofInt IntKind.u64.bits b).toNat:Int)
def JL(a n:Int):Int:=a.fdiv (2 ^ (min n.toNat IntKind.u64.bits))
def TH(k:Int):Int:=IntKind.u64.wrap (IntKind.u64.wrap (k+1)*11400714819323198485)
def RQ(b:List Int)(k:Int):Int:=if 0<b.length then JK (TH k) (IntKind.u64.wrap (b.getD (k.tmod b.length).toNat 0)) else TH k
def TW(x:Int):Int:=IntKind.u64.wrap (JK x (JL x 31)*13787848793156543929)
def W9(a:List Int)(k:Int):Int:=IntKind.i64.wrap (JL (JK (TW (RQ a k)) (JL (TW (RQ a k)) 29)) 1)
theorem y7(b:List Int)(k:Int)(g:0<=k)(m:k<=1099511627776):FnOk Tryz.prog 26 [K0 b,E6 k] (fun rs=>rs=[E6 (W9 b k)]):=by
 refine FnOk.intro Tryz.func26 (by decide) Z Z Z Z ?_;refine MI (t:=0) rfl (.pure _ _ _ _) fun f=>?_;refine k2 ?_;refine A7 (A6 (A9 Z Z) Z (B0 ?_));refine k1 (k2 ?_);refine A7 (A6 (A8 Z Z) Z (A6 (D8 Z Z (by omega)) Z (A6 (Z0 Z) Z (A6 (uO Z Z) Z (A6 (A9 Z Z) Z (B0 ?_))))));refine dT ?_;refine AZ [(0,E2 Int 1 G2 b),(1,D1 k),(5,H6 (.int .u64 (RQ b k)))] [] ?_ ?_
 ·refine k2 ?_;refine A7 (A6 (A8 Z Z) Z (A6 (F7 Z (.pure _ _ _ _)) Z (A6 (N5 Z Z) Z (B0 ?_))));refine k1 ?_;refine B5 rfl (fun d=>?_) (fun d=>?_)
  ·have c:0<b.length:=by have:=A0 d;omega
   have h:0<=k.tmod b.length:=Int.tmod_nonneg _ g;have j:k.tmod b.length<b.length:=Int.tmod_lt_of_pos _ (by omega);have l:b[(k.tmod b.length).toNat]?=some (b.getD (k.tmod b.length).toNat 0):=by
    rw[VK,VA (by omega)];rfl
   skip;refine A7 (A6 (A8 Z Z) Z (A6 (A8 Z Z) Z (A6 (A8 Z Z) Z (A6 (A8 Z Z) Z (A6 (F7 Z (.pure _ _ _ _)) Z (A6 (gC Z Z (by omega)) Z (A6 (B6 Z (.pure _ _ _ _) Z (by omega) l) Z (A6 (C0 Z Z) Z (A6 (Z0 Z) Z (A6 (oF Z Z Z (fun _=>rfl)) Z (A6 (A9 Z Z) Z (B0 ?_))))))))))));refine k1 ?_;rw[RQ,A4 c];exact Sees.of ⟨B1 rfl,B1 rfl,B1 rfl,trivial⟩ trivial
  ·have c:¬0<b.length:=by have:=A1 d;omega
   refine k5 (k1 ?_);rw[RQ,A5 c];exact Sees.of ⟨B1 rfl,B1 rfl,B1 rfl,trivial⟩ trivial
 ·refine k2 ?_;refine A7 (A6 (A8 Z Z) Z (A6 (A8 Z Z) Z (A6 (wY Z Z (by omega)) Z (A6 (oF Z Z Z (fun _=>rfl)) Z (A6 (uO Z Z) Z (A6 (A9 Z Z) Z (B0 ?_)))))));refine k1 (k2 ?_);refine A7 (A6 (A8 Z Z) Z (A6 (A8 Z Z) Z (A6 (wY Z Z (by omega)) Z (A6 (oF Z Z Z (fun _=>rfl)) Z (A6 (wY Z Z (by omega)) Z (A6 (Z0 Z) Z (A6 (A9 Z Z) Z (B0 ?_))))))));refine k1 (I8 ?_);exact B9 (I5 rfl rfl rfl) rfl
def lineTab:List Str:=[[97],[98],[99],[97,98],[98,97],[],[97,97],[98,32,97],[120,43,121],[92]]
def Y4(k:Int):Str:=lineTab.getD (R0 k 10).toNat []
theorem yB:∀s∈lineTab,s.length<=3:=by decide
theorem cC(k:Int):(Y4 k).length<=3:=by
 unfold Y4;rw[VK];cases h:lineTab[(R0 k 10).toNat]? with
 | none=>simp
 | some s=>exact yB s (VZ h)
theorem yC(k:Int):FnOk Tryz.prog 111 [E6 k] (fun d=>d=[H1 (Y4 k)]):=by
 refine FnOk.intro Tryz.func111 (by decide) Z Z Z Z ?_;refine k2 ?_;refine A7 (A6 (A9 Z Z) Z (B0 ?_));refine k1 (k2 ?_);have f:=U0 k (n:=10) (by decide);have b:lineTab[(R0 k 10).toNat]?=some (Y4 k):=by
  unfold Y4;rw[VK,VA (show (R0 k 10).toNat<lineTab.length by simp[lineTab];omega)];rfl
 refine A7 (A6 (D2 (c:=y1) (ys:=lineTab) (D6 Z Z Z Z (D6 Z Z Z Z (D6 Z Z Z Z (D6 Z Z Z Z (D6 Z Z Z Z (D6 Z Z Z Z (D6 Z Z Z Z (D6 Z Z Z Z (D6 Z Z Z Z (D6 Z Z Z Z G1)))))))))) Z Z Z) Z (A6 (A8 Z Z) Z (C8 (eH k 10 (by decide) (by decide)) Z Z Z ?_)));rintro _ rfl;refine A6 (B6 Z (.pure _ _ _ _) Z (by omega) b) Z (A6 (C0 Z Z) Z (A6 (A9 Z Z) Z (B0 ?_)));refine k1 (I8 ?_);exact B9 (I5 rfl rfl rfl) rfl
def S6(d:List Int)(b:Int)(c:Int)(m:Nat):Str:=((List.range m).map fun (i:Nat)=>Y4 (R0 (W9 d (b+1+(i:Int))) c)++[10]).flatten
def cD(e:List Int)(b n c:Int):Str :=
 let s:=S6 e b c (R0 (W9 e b) (n+1)).toNat
 if ((W9 e (b+90)).tmod 4=0/\(1:Int)<s.length)/\((s.getD (s.length-2) 0).toNat:Int)≠10 then s.take (s.length-1) else s
theorem v8(c:List Int)(a b:Int)(m:Nat):S6 c a b (m+1)=S6 c a b m++Y4 (R0 (W9 c (a+1+(m:Int))) b)++[10]:=by
 unfold S6;rw[XB,WC,WP];simp
theorem gM(c:List Int)(a b:Int)(m:Nat):(S6 c a b m).length<=4*m:=by
 induction m with
 | zero=>simp[S6]
 | succ m d=>have:=cC (R0 (W9 c (a+1+(m:Int))) b);rw[v8];simp only[VF,VD,VI];omega
theorem MS(e:List Int)(b n c:Int)(A:0<=b/\b<=1073741824)(B:0<=n/\n<=1048576)(C:1<=c/\c<=1048576) :
  FnOk Tryz.prog 66 [K0 e,E6 b,E6 n,E6 c] (fun rs=>rs=[H1 (cD e b n c)]):=by
 obtain⟨m,r⟩:∃m:Nat,R0 (W9 e b) (n+1)=m:=⟨(R0 (W9 e b) (n+1)).toNat,by have:=U0 (W9 e b) (n:=n+1) (by omega);omega⟩
 have x:=U0 (W9 e b) (n:=n+1) (by omega);have y:m<=1048576:=by omega
 refine FnOk.intro Tryz.func66 (by decide) Z Z Z Z ?_;refine k2 ?_;refine A7 (A6 (A9 Z Z) Z (B0 ?_));refine k1 (k2 ?_);refine A7 (A6 (A8 Z Z) Z (A6 (A8 Z Z) Z (C8 (y7 e b (by omega) (by omega)) Z Z Z ?_)));rintro _ rfl;refine A6 (A8 Z Z) Z (A6 (D8 Z Z (by omega)) Z (C8 (eH _ (n+1) (by omega) (by omega)) Z Z Z ?_));rintro _ rfl;refine A6 (A9 Z Z) Z (B0 ?_);refine k1 (k2 ?_);rw[r];refine A7 (A6 (A9 Z Z) Z (B0 ?_));refine k1 (k2 (k2 ?_));refine A7 (A6 (A9 Z Z) Z (B0 ?_));refine k1 (k3 ?_);refine D9 (X:=Nat) (fun i=>([(0,E2 Int 1 G2 e),(1,D1 b),(2,D1 m),(3,D1 c),(9,P4 (S6 e b c i)),(10,D1 i)],[])) (fun i=>i<=m) (fun i=>m-i) 0 (Nat.zero_le _) (Sees.of ⟨B1 rfl,B1 rfl,B1 rfl,B1 rfl,B1 rfl,B1 rfl,trivial⟩ trivial) ?_;intro i u;dsimp only at u ⊢;have k:=gM e b c i;refine k2 (k2 ?_);refine A7 (A6 (A8 Z Z) Z (A6 (A8 Z Z) Z (A6 (F1 Z Z) Z (B0 ?_))));refine k1 ?_;refine B5 rfl (fun g=>?_) (fun g=>?_)
 ·have w:i<m:=by have:=A0 g;omega
  have v:=cC (R0 (W9 e (b+1+(i:Int))) c);refine k5 (k1 (k2 (k3 ?_)));refine A7 (A6 (A8 Z Z) Z (A6 (A8 Z Z) Z (A6 (A8 Z Z) Z (A6 (D8 Z Z (by omega)) Z (A6 (A8 Z Z) Z (A6 (D8 Z Z (by omega)) Z (C8 (y7 e _ (by omega) (by omega)) Z Z Z ?_)))))));rintro _ rfl;refine A6 (A8 Z Z) Z (C8 (eH _ c (by omega) (by omega)) Z Z Z ?_);rintro _ rfl;refine C8 (yC _) Z Z Z ?_;rintro _ rfl;refine A6 (K6 Z Z (by omega)) Z (A6 (K6 Z Z (by (simp only[VF,VD,VI];omega))) Z (A6 (A9 Z Z) Z (B0 ?_)));refine k4 (k1 ?_);refine A7 (A6 (A8 Z Z) Z (A6 (D8 Z Z (by omega)) Z (A6 (A9 Z Z) Z (B0 ?_))));refine k1 ?_;refine⟨i+1,by omega,by omega,?_⟩;rw[v8];exact Sees.of ⟨B1 rfl,B1 rfl,B1 rfl,B1 rfl,B1 rfl,B1 rfl,trivial⟩ trivial
 ·have l:i=m:=by have:=A1 g;omega
  subst l;obtain⟨s,q⟩:∃s,s=S6 e b c i:=⟨_,rfl⟩
  have z:(1:Int)<s.length->s[((s.length:Int)-2).toNat]?=some (s.getD (s.length-2) 0):=fun h=>by
   rw[show ((s.length:Int)-2).toNat=s.length-2 by omega,VK,VA (by omega)];rfl
  have j:cD e b n c=if ((W9 e (b+90)).tmod 4=0/\(1:Int)<s.length)/\((s.getD (s.length-2) 0).toNat:Int)≠10 then s.take (s.length-1) else s:=by
   simp only[cD,r,VC,<-q]
  rw[<-q]at k;refine k6 (k2 (k2 ?_));rw[<-q];refine A7 (A6 (A8 Z Z) Z (A6 (A8 Z Z) Z (A6 (D8 Z Z (by omega)) Z (C8 (y7 e _ (by omega) (by omega)) Z Z Z ?_))));rintro _ rfl;refine A6 (gC Z Z (by omega)) Z (A6 (J1 Z Z) Z (A6 (A8 Z Z) Z (B3 Z Z Z Z (fun f=>by rw[f];exact A8 Z Z) ?_)));refine B3 Z Z Z Z (fun f=>by rw[f];exact L1 Z) ?_;refine B3 Z Z Z Z (fun f=>by rw[f];exact N5 Z Z) ?_;refine A6 (C3 Z (fun h=>by first | rfl | (rw[h];rfl)) (fun h=>by first | rfl | (rw[h];rfl))) Z ?_;refine A6 (A8 Z Z) Z (B3 Z Z Z Z (fun f=>by rw[f];exact A8 Z Z) ?_);refine B3 Z Z Z Z (fun f=>by rw[f];exact A8 Z Z) ?_;refine B3 Z Z Z Z (fun f=>by rw[f];exact L1 Z) ?_;refine B3 Z Z Z Z (fun f=>by have p:=f;(try simp at p);rw[f];exact O3 Z Z (by omega)) ?_;refine B3 Z Z Z Z (fun f=>by have p:=f;(try simp at p);rw[f];exact P2 Z Z (by omega) (z (by omega))) ?_;refine B3 Z Z Z Z (fun f=>by rw[f];exact P5 Z Z) ?_;refine A6 (C3 Z (fun h=>by first | rfl | (rw[h];rfl)) (fun h=>by first | rfl | (rw[h];rfl))) Z ?_;refine B0 ?_;refine k1 ?_;refine B5 rfl (fun g=>?_) (fun g=>?_)
  ·simp only[and_pick]at g;have h:=A0 g;skip;refine A7 (A6 (A8 Z Z) Z (A6 (A8 Z Z) Z (A6 (L1 Z) Z (A6 (O3 Z Z (by omega)) Z (A6 (uQ Z Z (by omega) (by omega)) Z (A6 (A9 Z Z) Z (B0 ?_)))))));refine k1 (k2 ?_);refine A7 (A6 (A8 Z Z) Z (A6 (A9 Z Z) Z (B0 ?_)));refine k1 (I8 ?_);exact B9 (I5 rfl rfl rfl) (by rw[j,A4 h,show ((s.length:Int)-1).toNat=s.length-1 by omega])
  ·simp only[and_pick]at g;have h:=A1 g;refine k5 (k1 (k2 ?_));refine A7 (A6 (A8 Z Z) Z (A6 (A9 Z Z) Z (B0 ?_)));refine k1 (I8 ?_);exact B9 (I5 rfl rfl rfl) (by rw[j,A5 h])
theorem BL(d:List Int)(b n c:Int)(f:0<=n):((cD d b n c).length:Int)<=4*n:=by
 have h:=U0 (W9 d b) (n:=n+1) (by omega);have i:=gM d b c (R0 (W9 d b) (n+1)).toNat
 unfold cD;simp only;split
 ·simp only[VM];omega
 ·omega
def W4(b:List Int)(a:Int)(i:Nat)(s:Str):List Str->Str
 | []=>s
 | x::r=>if (W9 b (a+(i:Int))).tmod 6=0 then W4 b a (i+1) s r
  else if (W9 b (a+(i:Int))).tmod 6=1 then W4 b a (i+1) (s++Y4 (W9 b (a+40+(i:Int)))++[10]++x) r
  else W4 b a (i+1) (s++x) r
def aM(b:Str)(c:List Int)(a:Int):Str:=W4 c a 0 [] (G4 b)
theorem cF(b:List Int)(a:Int):∀(l:List Str) (i:Nat) (s:Str),(W4 b a i s l).length<=s.length+l.flatten.length+4*l.length
 | [],i,s=>by simp[W4]
 | x::r,i,s=>by
  have c:=cF b a r (i+1) s;have d:=cF b a r (i+1) (s++Y4 (W9 b (a+40+(i:Int)))++[10]++x);have f:=cF b a r (i+1) (s++x);have j:=cC (W9 b (a+40+(i:Int)));simp only[VF,VD,VI,WO]at *;unfold W4;split
  ·omega
  ·split<;>omega
theorem lO(s b:Str):(H9 b s).flatten=b++s:=by
 induction s generalizing b with
 | nil=>unfold H9;split<;>simp[*]
 | cons c r d=>unfold H9;split<;>simp[d]
theorem X5(s:Str):(G4 s).flatten=s:=lO s []
theorem MT(c:Str)(d:List Int)(b:Int)(hb:c.length<=16777216)(G:0<=b/\b<=1073741824) :
  FnOk Tryz.prog 67 [H1 c,K0 d,E6 b] (fun rs=>rs=[H1 (aM c d b)]):=by
 have z:=w8 c;have y:=X5 c;have v:(G4 c).flatten.length=c.length:=by rw[y]
 refine FnOk.intro Tryz.func67 (by decide) Z Z Z Z ?_;refine k2 ?_;refine A7 (A6 (A9 Z Z) Z (B0 ?_));refine k1 (k2 ?_);refine A7 (A6 (A8 Z Z) Z (C8 (JJ c (by omega)) Z Z Z ?_));rintro _ rfl;refine A6 (A9 Z Z) Z (B0 ?_);refine k1 (k2 ?_);obtain⟨l,B⟩:∃l,l=G4 c:=⟨_,rfl⟩
 have A:aM c d b=W4 d b 0 [] l:=by rw[aM,B]
 rw[<-B]at z v ⊢;refine A7 (A6 (A9 Z Z) Z (B0 ?_));refine k1 (k2 (k2 ?_));refine A7 (A6 (A9 Z Z) Z (B0 ?_));refine k1 (k3 ?_);refine D9 (X:=Nat×Str) (fun x=>([(1,E2 Int 1 G2 d),(2,D1 b),(7,E2 Str 1 y1 l),(8,P4 x.2),(9,D1 x.1)],[])) (fun x=>x.1<=l.length/\x.2.length<=(l.take x.1).flatten.length+4*x.1/\W4 d b x.1 x.2 (l.drop x.1)=W4 d b 0 [] l) (fun x=>l.length-x.1) (0,[]) (by simp) (Sees.of ⟨B1 rfl,B1 rfl,B1 rfl,B1 rfl,B1 rfl,trivial⟩ trivial) ?_;rintro⟨i,s⟩ ⟨D,F,j⟩;dsimp only at D F j ⊢;have E:=dJ l i;refine k2 (k2 ?_);refine A7 (A6 (A8 Z Z) Z (A6 (A8 Z Z) Z (A6 (F7 Z (.pure _ _ _ _)) Z (A6 (F1 Z Z) Z (B0 ?_)))));refine k1 ?_;refine B5 rfl (fun k=>?_) (fun k=>?_)
 ·have o:i<l.length:=by have:=A0 k;omega
  have C:l[i]?=some l[i]:=by simp[o]
  have q:=dJ l (i+1);have m:=kI l i o;rw[m,VF]at q;rw[VN o,W4]at j;refine k5 (k1 (k2 (k3 (k2 (k2 ?_)))));refine A7 (A6 (A8 Z Z) Z (A6 (A8 Z Z) Z (A6 (A8 Z Z) Z (A6 (D8 Z Z (by omega)) Z (C8 (y7 d _ (by omega) (by omega)) Z Z Z ?_)))));rintro _ rfl;refine A6 (gC Z Z (by omega)) Z (B0 ?_);refine k1 (k3 (k2 ?_));refine A7 (A6 (J1 Z Z) Z (A6 (A9 Z Z) Z (B0 ?_)));refine k1 ?_;refine B5 rfl (fun k=>?_) (fun k=>?_)
  ·rw[A4 (A0 k)]at j;refine k6 (k9 Z (k7 (k8 Z (k1 ?_))));refine A7 (A6 (A8 Z Z) Z (A6 (D8 Z Z (by omega)) Z (A6 (A9 Z Z) Z (B0 ?_))));refine k1 ?_;exact⟨(i+1,s),⟨by dsimp only;omega,by dsimp only;rw[m,VF];omega,j⟩,by dsimp only;omega,Sees.of ⟨B1 rfl,B1 rfl,B1 rfl,B1 rfl,B1 rfl,trivial⟩ trivial⟩
  ·rw[A5 (A1 k)]at j;refine k2 ?_;refine A7 (A6 (J1 Z Z) Z (A6 (A9 Z Z) Z (B0 ?_)));refine k1 ?_;refine B5 rfl (fun k=>?_) (fun k=>?_)
   ·rw[A4 (A0 k)]at j;have H:=cC (W9 d (b+40+(i:Int)));skip;refine A7 (A6 (A8 Z Z) Z (A6 (A8 Z Z) Z (A6 (A8 Z Z) Z (A6 (D8 Z Z (by omega)) Z (A6 (A8 Z Z) Z (A6 (D8 Z Z (by omega)) Z (C8 (y7 d _ (by omega) (by omega)) Z Z Z ?_)))))));rintro _ rfl;refine C8 (yC _) Z Z Z ?_;rintro _ rfl;refine A6 (K6 Z Z (by omega)) Z (A6 (K6 Z Z (by (simp only[VF,VD,VI];omega))) Z (A6 (A9 Z Z) Z (B0 ?_)));refine k4 (k1 ?_);refine A7 (A6 (A8 Z Z) Z (A6 (A8 Z Z) Z (A6 (A8 Z Z) Z (A6 (B6 Z (.pure _ _ _ _) Z (by omega) C) Z (A6 (C0 Z Z) Z (A6 (K6 Z Z (by (simp only[VF,VD,VI];omega))) Z (A6 (A9 Z Z) Z (B0 ?_))))))));refine k4 (k1 ?_);refine A7 (A6 (A8 Z Z) Z (A6 (D8 Z Z (by omega)) Z (A6 (A9 Z Z) Z (B0 ?_))));refine k1 ?_;exact⟨(i+1,s++Y4 (W9 d (b+40+(i:Int)))++[10]++l[i]),⟨by dsimp only;omega,by dsimp only;rw[m];simp only[VF,VD,VI];omega,j⟩,by dsimp only;omega,Sees.of ⟨B1 rfl,B1 rfl,B1 rfl,B1 rfl,B1 rfl,trivial⟩ trivial⟩
   ·rw[A5 (A1 k)]at j;refine k5 (k4 (k1 ?_));refine A7 (A6 (A8 Z Z) Z (A6 (A8 Z Z) Z (A6 (A8 Z Z) Z (A6 (B6 Z (.pure _ _ _ _) Z (by omega) C) Z (A6 (C0 Z Z) Z (A6 (K6 Z Z (by omega)) Z (A6 (A9 Z Z) Z (B0 ?_))))))));refine k4 (k1 ?_);refine A7 (A6 (A8 Z Z) Z (A6 (D8 Z Z (by omega)) Z (A6 (A9 Z Z) Z (B0 ?_))));refine k1 ?_;exact⟨(i+1,s++l[i]),⟨by dsimp only;omega,by dsimp only;rw[m,VF,VF];omega,j⟩,by dsimp only;omega,Sees.of ⟨B1 rfl,B1 rfl,B1 rfl,B1 rfl,B1 rfl,trivial⟩ trivial⟩
 ·have w:i=l.length:=by have:=A1 k;omega
  rw[w,WU (Nat.le_refl _)]at j;refine k6 (k2 ?_);refine A7 (A6 (A8 Z Z) Z (A6 (A9 Z Z) Z (B0 ?_)));refine k1 (I8 ?_);exact B9 (I5 rfl rfl rfl) (by rw[A,<-j];rfl)
theorem sZ(s:Str):(ByteArray.mk s.toArray).size=s.length:=by simp[ByteArray.size]
theorem uZ(s p:Str)(b:s.length<=1099511627776):FnOk Tryz.prog 230 [H1 s,H1 p] (fun a=>a=[H5 (Lib.hasSuffix s p)]) :=
 UI (xs:=[.string ⟨s.toArray⟩,.string ⟨p.toArray⟩]) ⟨_,rfl,rfl,rfl⟩ rfl fun w=>by simpa using Tryz.strings_HasSuffix ⟨s.toArray⟩ ⟨p.toArray⟩ w (by rw[sZ];omega)
theorem rR(s p:Str)(a:s.length<=1099511627776):FnOk Tryz.prog 99 [H1 s,H1 p] (fun rs=>rs=[H1 (Lib.trimSuffix s p)]) :=
 UI (xs:=[.string ⟨s.toArray⟩,.string ⟨p.toArray⟩]) ⟨_,rfl,rfl,rfl⟩ rfl fun w=>by simpa using Tryz.strings_TrimSuffix ⟨s.toArray⟩ ⟨p.toArray⟩ w (by rw[sZ];omega)
theorem FT(s:Str)(a:s.length<=1099511627776):FnOk Tryz.prog 170 [H1 s] (fun b=>b=[H5 (ended s)]):=by
 refine FnOk.intro Tryz.func170 (by decide) Z Z Z Z ?_;refine k2 ?_;refine A7 (A6 (A9 Z Z) Z (B0 ?_));refine k1 (k2 ?_);refine A7 (A6 (A8 Z Z) Z (C8 (uZ s [10] a) Z Z Z ?_));rintro _ rfl;refine A6 (A9 Z Z) Z (B0 ?_);rw[vV];refine k1 (I8 ?_);exact B9 (I5 rfl rfl rfl) rfl
def OG(ob:Obs)(c:Str):Prop:=(∃a,(a=.p (.v (.pointer none))\/a=.ref 700 0)/\C5 ob 700=some (.tbx 109 [a,.buf 701 UInt8 1 AU c]))/\C5 ob 701=some (.spare c.length 1 5)
abbrev JM(ob:Obs)(ys c:Str):Obs:=(700,.tbx 109 [.ref 700 0,.buf 701 UInt8 1 AU c])::(701,.spare c.length 1 5)::Obs.forget 701 ((700,.tbx 109 [.ref 700 0,.buf 701 UInt8 1 AU ys])::ob)
def EJ:Go.Shelf.Ren:=⟨fun | 240=>100 | 276=>156 | n=>n,fun | 72=>109 | 70=>106 | 164=>263 | 37=>107 | n=>n,fun n=>n⟩
theorem JN:Go.Proofs.Lays.n240 Tryz.prog EJ:={
 mixed:=by kernel_rfl
 f240:=Tryz.func100.trans (congrArg some (by kernel_rfl))
 f276:=Tryz.func156.trans (congrArg some (by kernel_rfl))
 t0:=Tryz.underlying0
 a0:=Tryz.isAgg0
 z0:=Tryz.sizeOf0
 v0:=Tryz.zeroValue0
 t4:=Tryz.underlying4
 a4:=Tryz.isAgg4
 z4:=Tryz.sizeOf4
 v4:=Tryz.zeroValue4
 t9:=Tryz.underlying9
 a9:=Tryz.isAgg9
 z9:=Tryz.sizeOf9
 v9:=Tryz.zeroValue9
 t20:=Tryz.underlying20
 a20:=Tryz.isAgg20
 z20:=Tryz.sizeOf20
 v20:=Tryz.zeroValue20
 t70:=Tryz.underlying106
 a70:=Tryz.isAgg106
 z70:=Tryz.sizeOf106
 v70:=Tryz.zeroValue106
 t72:=Tryz.underlying109
 a72:=Tryz.isAgg109
 z72:=Tryz.sizeOf109
 v72:=Tryz.zeroValue109
 t164:=Tryz.underlying263
 a164:=Tryz.isAgg263
 z164:=Tryz.sizeOf263
 v164:=Tryz.zeroValue263 }
theorem TX:Builder.X72 Tryz.prog EJ:={
 sizeBuilder:=by kernel_rfl
 liesBuilder:=by kernel_rfl }
theorem gN{gf:Fr}{ob:Obs}{a t:TC}(j:C5 ob 700=some (.tbx 109 [a,t]))(ha:a=.p (.v (.pointer none))\/a=.ref 700 0) :
  AL.Met Tryz.prog 100 [.one (.ref 700 0)] gf ob [] (fun k ob'=>k=[]/\ob'=(700,.tbx 109 [.ref 700 0,t])::ob) :=
 AL.Met.copyCheck ⟨_,rfl,rfl,rfl⟩ (fun b w c d g=>Any.Builder_copyCheck_fresh (ρ:=EJ) JN TX b w c d g) (fun b w h=>Any.Builder_copyCheck_used (ρ:=EJ) JN TX b w h) j ha
theorem dG{gf:Fr}{ob:Obs}{xs s:Str}(hb:OG ob xs)(d:xs.length+s.length<=1073741824) :
  AL.Met Tryz.prog 53 [.one (.ref 700 0),.one (.p (.v (.string ⟨s.toArray⟩)))] gf ob [701] (fun rs ob'=>rs=[.one (.p (.v (.int .i64 s.length))),.one (.p (.v .nilIface))]/\ob'=JM ob xs (xs++s)):=by
 obtain⟨⟨a,ha,j⟩,b⟩:=hb;refine AL.Met.intro Tryz.func53 (by decide) Z Z Z ?_;refine k2 ?_;refine A7 (A6 (A9 Z Z) Z (A6 (A9 Z Z) Z (B0 ?_)));refine k1 (k2 ?_);refine A7 (A6 (A8 Z Z) Z (W7 (gN j ha) Z Z Z ?_));rintro _ _ ⟨rfl,rfl⟩;refine B0 ?_;refine k1 (k2 ?_);refine A7 (A6 (A8 Z Z) Z (A6 (A8 Z Z) Z (A6 (C4 Z) Z (A6 (B2 Z) Z (A6 (dV Z Z Z) Z (A6 (A8 Z Z) Z (D3 (AV TyStr.out Z b Z (by first | omega | (simp;omega)) Z) Z (A6 (C4 Z) Z (A6 (B2 Z) Z (H3 (jR TySz.out Z Z Z Z Z Z) (B0 ?_)))))))))));refine k1 (k2 ?_);refine A7 (A6 (A8 Z Z) Z (A6 (L1 Z) Z (A6 (A9 Z Z) Z (A6 (A9 Z Z) Z (B0 ?_)))));refine k1 (I8 ?_);exact G9 (EC rfl rfl rfl) (by repeat (first | exact B7 | refine B8 rfl ?_ | refine E1 _ ?_)) (fun _ _ h=>h) ⟨rfl,rfl⟩
theorem gO{gf:Fr}{ob:Obs}{xs:Str}{c:UInt8}(hb:OG ob xs)(d:xs.length+1<=1073741824) :
  AL.Met Tryz.prog 121 [.one (.ref 700 0),.one (.p (.v (.int .u8 c.toNat)))] gf ob [701] (fun j ob'=>j=[.one (.p (.v .nilIface))]/\ob'=JM ob xs (xs++[c])):=by
 obtain⟨⟨a,ha,g⟩,b⟩:=hb;refine AL.Met.intro Tryz.func121 (by decide) Z Z Z ?_;refine k2 ?_;refine A7 (A6 (A9 Z Z) Z (B0 ?_));refine k1 (k2 ?_);refine A7 (A6 (A8 Z Z) Z (W7 (gN g ha) Z Z Z ?_));rintro _ _ ⟨rfl,rfl⟩;refine B0 ?_;refine k1 (k2 ?_);refine A7 (A6 (A8 Z Z) Z (A6 (A8 Z Z) Z (A6 (C4 Z) Z (A6 (B2 Z) Z (A6 (dV Z Z Z) Z (A6 (A8 Z Z) Z (A6 (D2 (c:=AU) (ys:=[c]) (D6 Z Z Z Z G1) Z Z Z) Z (D3 (L2 Z b Z (.pure _ _ _ _) (by (simp;omega)) Z) Z (A6 (C4 Z) Z (A6 (B2 Z) Z (H3 (jR TySz.out Z Z Z Z Z Z) (B0 ?_))))))))))));refine k1 (k2 ?_);refine A7 (A6 (A9 Z Z) Z (B0 ?_));refine k1 (I8 ?_);exact G9 (O9 rfl rfl) (by repeat (first | exact B7 | refine B8 rfl ?_ | refine E1 _ ?_)) (fun _ _ h=>h) ⟨rfl,rfl⟩
theorem tA(c:UInt8):FnOk Tryz.prog 89 [pByte c] (fun b=>b=[H5 (O7 c)]):=by
 refine FnOk.intro Tryz.func89 (by decide) Z Z Z Z ?_;refine k2 ?_;refine A7 (A6 (A9 Z Z) Z (B0 ?_));refine k1 (k2 ?_);refine A7 (A6 (A8 Z Z) Z (A6 (jL Z Z) Z (A6 (A8 Z Z) Z (B3 Z Z Z Z (fun a=>by rw[a];exact A8 Z Z) ?_))));refine B3 Z Z Z Z (fun a=>by rw[a];exact DZ Z Z) ?_;refine A6 (C3 Z (fun h=>by first | rfl | (rw[h];rfl)) (fun h=>by first | rfl | (rw[h];rfl))) Z ?_;refine A6 (A8 Z Z) Z (B3 Z Z Z Z (fun a=>by rw[a];exact A8 Z Z) ?_);refine B3 Z Z Z Z (fun a=>by rw[a];exact P5 Z Z) ?_;refine A6 (C3 Z (fun h=>by first | rfl | (rw[h];rfl)) (fun h=>by first | rfl | (rw[h];rfl))) Z ?_;refine A6 (A8 Z Z) Z (B3 Z Z Z Z (fun a=>by rw[a];exact A8 Z Z) ?_);refine B3 Z Z Z Z (fun a=>by rw[a];exact P5 Z Z) ?_;refine A6 (C3 Z (fun h=>by first | rfl | (rw[h];rfl)) (fun h=>by first | rfl | (rw[h];rfl))) Z ?_;refine A6 (A9 Z Z) Z (B0 ?_);refine k1 (I8 ?_);refine B9 (I5 Z Z Z) ?_;simp only[and_pick]
 congr 4
 unfold O7
 congr 1
 simp;omega
open Go.RowKit
theorem JO(q:Nat)(h:q<8):IntKind.u8.wrap (48+(q:Int))=((UInt8.ofNat (48+q)).toNat:Int):=by
 rw[IntWalk.u8_in _ (by omega)];have:(UInt8.ofNat (48+q)).toNat=48+q:=by rw[UInt8.toNat_ofNat'];omega
 rw[this];simp
theorem EK(x:Nat)(h:x<256):IntKind.u8.wrap ((BitVec.ofInt IntKind.u8.bits (x:Int) &&& BitVec.ofInt IntKind.u8.bits 7).toNat:Int)=((x % 8:Nat):Int):=by
 have d:(BitVec.ofInt IntKind.u8.bits (x:Int) &&& BitVec.ofInt IntKind.u8.bits 7).toNat=x % 8:=by
  rw[BitVec.toNat_and,BitVec.toNat_ofInt,BitVec.toNat_ofInt];have b:((x:Int) % ((2 ^ IntKind.u8.bits:Nat):Int)).toNat=x:=by
   rw[show ((2 ^ IntKind.u8.bits:Nat):Int)=256 by rfl];omega
  have c:((7:Int) % ((2 ^ IntKind.u8.bits:Nat):Int)).toNat=2 ^ 3-1:=by rfl
  rw[b,c,Nat.and_two_pow_sub_one_eq_mod]
 rw[d,IntWalk.u8_in _ (by omega)]
theorem JP(x:Nat)(c:Nat)(h:c<=8):(x:Int).fdiv (2 ^ min (Int.toNat (c:Int)) IntKind.u8.bits)=((x / 2 ^ c:Nat):Int):=by
 rw[PN _ _ IntKind.u8.bits ⟨by omega,by show (c:Int)<=8;omega⟩];simp
theorem BM(c:UInt8):FnOk Tryz.prog 122 [pByte c] (fun t=>t=[H1 (bJ c)]):=by
 have w:=c.toNat_lt;refine FnOk.intro Tryz.func122 (by decide) Z Z Z Z ?_;refine k2 ?_;refine A7 (A6 (A9 Z Z) Z (B0 ?_));refine k1 (k2 (k3 (k2 ?_)));refine A7 (A6 (A8 Z Z) Z (A6 (J1 Z Z) Z (A6 (A8 Z Z) Z (B3 Z Z Z Z (fun b=>by rw[b];exact A8 Z Z) ?_))));refine B3 Z Z Z Z (fun b=>by rw[b];exact J1 Z Z) ?_;refine A6 (C3 Z (fun h=>by first | rfl | (rw[h];rfl)) (fun h=>by first | rfl | (rw[h];rfl))) Z ?_;refine A6 (A9 Z Z) Z (B0 ?_);refine k1 ?_;refine B5 rfl (fun a=>?_) (fun a=>?_)
 ·have h:=A0 (or_pick.symm.trans a);refine k2 ?_;refine A7 (A6 (A8 Z Z) Z (A6 (gH Z (by omega)) Z (A6 (K6 Z Z (by simp)) Z (A6 (A9 Z Z) Z (B0 ?_)))));refine k1 (I8 (X4 (M6 ?_)));exact B9 (I5 rfl rfl rfl) (by rw[bJ,A4 (by omega)];rfl)
 ·have h:=A1 (or_pick.symm.trans a);refine k2 ?_;refine A7 (A6 (A8 Z Z) Z (A6 (J1 Z Z) Z (A6 (A9 Z Z) Z (B0 ?_))));refine k1 ?_;refine B5 rfl (fun a=>?_) (fun a=>?_)
  ·have o:=A0 a;refine k2 ?_;refine A7 (A6 (A9 Z Z) Z (B0 ?_));refine k1 (I8 (X4 (M6 ?_)));exact B9 (I5 rfl rfl rfl) (by rw[bJ,A5 (by omega),A4 (by omega)])
  ·have o:=A1 a;refine k2 ?_;refine A7 (A6 (A8 Z Z) Z (A6 (J1 Z Z) Z (A6 (A9 Z Z) Z (B0 ?_))));refine k1 ?_;refine B5 rfl (fun a=>?_) (fun a=>?_)
   ·have q:=A0 a;refine k2 ?_;refine A7 (A6 (A9 Z Z) Z (B0 ?_));refine k1 (I8 (X4 (M6 ?_)));exact B9 (I5 rfl rfl rfl) (by rw[bJ,A5 (by omega),A5 (by omega),A4 (by omega)])
   ·have q:=A1 a;refine k2 ?_;refine A7 (A6 (A8 Z Z) Z (A6 (F1 Z Z) Z (A6 (A8 Z Z) Z (B3 Z Z Z Z (fun b=>by rw[b];exact A8 Z Z) ?_))));refine B3 Z Z Z Z (fun b=>by rw[b];exact N5 Z Z) ?_;refine A6 (C3 Z (fun h=>by first | rfl | (rw[h];rfl)) (fun h=>by first | rfl | (rw[h];rfl))) Z ?_;refine A6 (A9 Z Z) Z (B0 ?_);refine k1 ?_;refine B5 rfl (fun a=>?_) (fun a=>?_)
    ·have s:=A0 (or_pick.symm.trans a);refine k2 ?_;have n:(c.toNat:Int).fdiv (2 ^ min (Int.toNat 6) IntKind.u8.bits)=((c.toNat / 64:Nat):Int):=JP c.toNat 6 (by omega);have m:(c.toNat:Int).fdiv (2 ^ min (Int.toNat 3) IntKind.u8.bits)=((c.toNat / 8:Nat):Int):=JP c.toNat 3 (by omega);have j:=JO (c.toNat / 64) (by omega);have k:=JO (c.toNat / 8 % 8) (by omega);have l:=JO (c.toNat % 8) (by omega);have g:=zJ c;refine A7 (A6 (A8 Z Z) Z (A6 (wY Z Z (by omega)) Z (A6 (nU Z Z) Z (A6 (A8 Z Z) Z (A6 (wY Z Z (by omega)) Z (A6 (oF Z Z Z (fun _=>rfl)) Z (A6 (nU Z Z) Z (A6 (A8 Z Z) Z (A6 (oF Z Z Z (fun _=>rfl)) Z (A6 (nU Z Z) Z ?_))))))))));           rw[n,m,EK (c.toNat / 8) (by omega),EK c.toNat (by omega),j,k,l];refine A6 (D2 (c:=AU) (ys:=[UInt8.ofNat (48+c.toNat / 64),UInt8.ofNat (48+c.toNat / 8 % 8),UInt8.ofNat (48+c.toNat % 8)]) (D6 Z Z Z Z (D6 Z Z Z Z (D6 Z Z Z Z G1))) Z Z Z) Z (A6 (oH TyStr.out Z (.pure _ _ _ _)) Z (A6 (K6 Z Z (by simp)) Z (A6 (A9 Z Z) Z (B0 ?_))));refine k1 (I8 (X4 (M6 ?_)));exact B9 (I5 rfl rfl rfl) (by rw[bJ,A5 (by omega),A5 (by omega),A5 (by omega),A4 (by omega),g];rfl)
    ·have s:=A1 (or_pick.symm.trans a);refine k5 (k2 ?_);refine A7 (A6 (A8 Z Z) Z (A6 (gH Z (by omega)) Z (A6 (A9 Z Z) Z (B0 ?_))));refine k1 (I8 ?_);exact B9 (I5 rfl rfl rfl) (by rw[bJ,A5 (by omega),A5 (by omega),A5 (by omega),A5 (by omega)])
theorem MU(n:Int)(h:0<=n/\n<=2147483647):FnOk Tryz.prog 51 [E6 n] (fun f=>f=[H1 (Lib.itoa n)]) :=
 UN (xs:=[.int .i64 n]) (r:=.string ⟨(Lib.itoa n).toArray⟩) ⟨_,rfl,rfl,rfl⟩ rfl fun w d =>
  (Tryz.strconv_Itoa n (by omega) (by omega) w (d.pow10 rfl)).mono fun e w' ⟨c,k,os,b⟩=>⟨c,by subst b;exact Lib.below_grow _ _ (Nat.le_refl _) _ _⟩
theorem cG(n:Int):FnOk Tryz.prog 19 [E6 n] (fun rs=>rs=[H1 (c9 n)]):=by
 refine FnOk.intro Tryz.func19 (by decide) Z Z Z Z ?_;refine k2 ?_;refine A7 (A6 (A9 Z Z) Z (B0 ?_));refine k1 (k2 (k2 ?_));refine A7 (A6 (A8 Z Z) Z (A6 (F1 Z Z) Z (A6 (A8 Z Z) Z (B3 Z Z Z Z (fun a=>by rw[a];exact A8 Z Z) ?_))));refine B3 Z Z Z Z (fun a=>by rw[a];exact N5 Z Z) ?_;refine A6 (C3 Z (fun h=>by first | rfl | (rw[h];rfl)) (fun h=>by first | rfl | (rw[h];rfl))) Z ?_;refine B0 ?_;refine k1 ?_;refine B5 rfl (fun b=>?_) (fun b=>?_)
 ·have h:=A0 (or_pick.symm.trans b);refine k2 ?_;refine A7 (A6 (A9 Z Z) Z (B0 ?_));refine k1 (I8 (M6 ?_));exact B9 (I5 rfl rfl rfl) (by rw[c9,A4 (by omega)])
 ·have h:=A1 (or_pick.symm.trans b);refine k5 (k1 (k2 ?_));refine A7 (A6 (A8 Z Z) Z (C8 (MU n (by omega)) Z Z Z ?_));rintro _ rfl;refine A6 (A9 Z Z) Z (B0 ?_);refine k1 (I8 ?_);exact B9 (I5 rfl rfl rfl) (by rw[c9,A5 (by omega)])
theorem gP(B b:Nat)(l:List UInt8)(w:World)(h:Lib.IsBuilder 109 5 B b (Lib.byteCells l) w)(a:B<=w.heap.size) :
  Calls Tryz.prog 56 #[.pointer (some ⟨b,0,none⟩)] w fun e w'=>e=.returned (.string ⟨l.toArray⟩)/\Below B w w':=Tryz.Builder_String_any B b l w h a
theorem tB(s:Str)(D:s.length<=16777216):FnOk Tryz.prog 76 [H1 s] (fun rs=>rs=[H1 (X8 s)]):=by
 refine FnOk.intro Tryz.func76 (by decide) Z Z Z Z ?_;refine k2 ?_;refine A7 (A6 (A9 Z Z) Z (B0 ?_));refine k1 (k2 ?_);refine A7 (A6 (A8 Z Z) Z (A6 (nV Z Z) Z (A6 (A9 Z Z) Z (B0 ?_))));refine k1 (k2 (k2 ?_));refine A7 (A6 (A8 Z Z) Z (A6 (L1 Z) Z (A6 (A8 Z Z) Z (B0 ?_))));refine k1 (k3 ?_);refine D9 (X:=Nat) (fun i=>([(0,P4 s),(3,H6 (.bool (plains s i))),(10,D1 s.length),(11,D1 i)],[])) (fun i=>i<=s.length) (fun i=>s.length-i) 0 (Nat.zero_le _) ?_ ?_
 ·rw[zK];exact Sees.of ⟨B1 rfl,B1 rfl,B1 rfl,B1 rfl,trivial⟩ trivial
 intro i y;dsimp only at y ⊢;refine k2 ?_;refine A7 (A6 (F1 Z Z) Z (B0 ?_));refine k1 (k2 ?_);refine B5 rfl (fun j=>?_) (fun j=>?_)
 ·have d:i<s.length:=by have:=A0 j;omega
  have w:s[i]?=some s[i]:=by simp[d]
  obtain⟨c,A⟩:∃c,c=s[i]:=⟨_,rfl⟩
  have z:=zL s i d;rw[<-A]at w z;refine k5 (k1 (k2 (k3 (k2 ?_))));refine A7 (A6 (A8 Z Z) Z (A6 (A9 Z Z) Z (B0 ?_)));refine k1 ?_;refine A7 (A6 (A8 Z Z) Z (A6 (A8 Z Z) Z (B3 Z Z Z Z (fun m=>by rw[m];exact A8 Z Z) ?_)));refine B3 Z Z Z Z (fun m=>by rw[m];exact A8 Z Z) ?_;refine B3 Z Z Z Z (fun m=>by have v:=m;(try simp at v);rw[m];exact P2 Z Z (by omega) w) ?_;refine B3 Z Z Z Z (fun m=>by have v:=m;(try simp at v);rw[m];exact L3 (tA c) Z Z) ?_;refine A6 (C3 Z (fun h=>by first | rfl | (rw[h];rfl)) (fun h=>by first | rfl | (rw[h];rfl))) Z ?_;refine A6 (A9 Z Z) Z (B0 ?_);refine k4 (k1 ?_);refine A7 (A6 (D8 Z Z (by omega)) Z (A6 (A8 Z Z) Z (B0 ?_)));refine k1 ?_;refine⟨i+1,d,by omega,?_⟩;rw[show (if plains s i=true then O7 c else false)=plains s (i+1) from by rw[z];cases plains s i<;>rfl];exact Sees.of ⟨B1 rfl,B1 rfl,B1 rfl,B1 rfl,trivial⟩ trivial
 have q:i=s.length:=by have:=A1 j;omega
 subst q;refine k6 (k2 (k2 ?_));refine A7 (A6 (A8 Z Z) Z (B0 ?_));refine k1 ?_;refine B5 rfl (fun j=>?_) (fun j=>?_)
 ·have h:plains s s.length=true:=j;refine k2 ?_;refine A7 (A6 (A8 Z Z) Z (A6 (A9 Z Z) Z (B0 ?_)));refine k1 (I8 (M6 ?_));exact B9 (I5 rfl rfl rfl) (by rw[qF,A4 h])
 have h:plains s s.length=false:=j;have v:X8 s=(34::escs s s.length)++[34]:=by rw[qF,h];rfl
 refine k5 (k1 (k2 ?_));refine A7 (D3 (xE 700 Z) Z (B0 ?_));refine k1 (k2 ?_);refine I7 (UR 701 UInt8 1 AU 5 (kb:=700) (o:=1) Z Z Z) ?_;refine A7 (W7 (gO (xs:=[]) (c:=34) ⟨⟨_,.inl rfl,rfl⟩,rfl⟩ (by simp)) Z Z Z ?_);rintro _ _ ⟨rfl,rfl⟩;refine B0 ?_;refine k1 (k2 (k2 ?_));refine A7 (A6 (A8 Z Z) Z (A6 (L1 Z) Z (A6 (A8 Z Z) Z (B0 ?_))));refine k1 (k3 ?_);refine D9 (X:=Nat) (fun i=>([(0,P4 s),(5,.s (.one (.ref 700 0))),(26,D1 s.length),(27,D1 i)],[(700,.tbx 109 [.ref 700 0,.buf 701 UInt8 1 AU (34::escs s i)]),(701,.spare (34::escs s i).length 1 5)])) (fun i=>i<=s.length) (fun i=>s.length-i) 0 (Nat.zero_le _) (Sees.of ⟨B1 rfl,B1 rfl,B1 rfl,B1 rfl,trivial⟩ ⟨rfl,rfl,trivial⟩) ?_;intro i y;dsimp only at y ⊢;have C:=KK s i y;refine k2 ?_;refine A7 (A6 (F1 Z Z) Z (B0 ?_));refine k1 (k2 ?_);refine B5 rfl (fun j=>?_) (fun j=>?_)
 ·have d:i<s.length:=by have:=A0 j;omega
  have w:s[i]?=some s[i]:=by simp[d]
  obtain⟨c,A⟩:∃c,c=s[i]:=⟨_,rfl⟩
  have B:=HG s i d;have z:=tR c;rw[<-A]at w B;refine k5 (k1 (k2 (k3 (k2 ?_))));refine A7 (A6 (A8 Z Z) Z (A6 (A9 Z Z) Z (B0 ?_)));refine k1 ?_;refine A7 (A6 (A8 Z Z) Z (A6 (A8 Z Z) Z (A6 (P2 Z Z (by omega) w) Z (C8 (BM c) Z Z Z ?_))));rintro _ rfl;refine W7 (dG (xs:=34::escs s i) (s:=bJ c) ⟨⟨_,.inr rfl,rfl⟩,rfl⟩ (by simp only[VD];omega)) Z Z Z ?_;rintro _ _ ⟨rfl,rfl⟩;refine B0 ?_;refine k4 (k1 ?_);refine A7 (A6 (D8 Z Z (by omega)) Z (A6 (A8 Z Z) Z (B0 ?_)));refine k1 ?_;refine⟨i+1,d,by omega,?_⟩;rw[B];exact Sees.of ⟨B1 rfl,B1 rfl,B1 rfl,B1 rfl,trivial⟩ ⟨rfl,rfl,trivial⟩
 have q:i=s.length:=by have:=A1 j;omega
 subst q;refine k6 (k2 ?_);refine A7 (W7 (gO (xs:=34::escs s s.length) (c:=34) ⟨⟨_,.inr rfl,rfl⟩,rfl⟩ (by simp only[VD];omega)) Z Z Z ?_);rintro _ _ ⟨rfl,rfl⟩;refine B0 ?_;refine k1 (k2 ?_);refine A7 (sN (k:=700) (k':=701) ⟨_,rfl,rfl,rfl⟩ gP Z Z Z Z Z (.inr Z) Z (A6 (A9 Z Z) Z (B0 ?_)));refine k1 (I8 ?_);exact B9 (I5 rfl rfl rfl) (by rw[v])
set_option maxHeartbeats 1000000
theorem vA(f:FuncId)(m:File->Bool)(l:List File)(w:l.length<=1073741824)(s:∀x∈l,FnOk Tryz.prog f [EQ x] (fun rs=>rs=[H5 (m x)])) :
  FnOk Tryz.prog 164 [R7 l,.one (.v (.func (.func f) #[] #[]))] (fun rs=>∃i:Int,rs=[E6 i]/\decide (0<=i)=l.any m):=by
 refine FnOk.intro Tryz.func164 (by decide) Z Z Z Z ?_;refine k2 ?_;refine A7 (A6 (A9 Z Z) Z (B0 ?_));refine k1 (k2 (k2 ?_));refine A7 (A6 (A8 Z Z) Z (A6 (F7 Z (.pure _ _ _ _)) Z (A6 (A8 Z Z) Z (B0 ?_))));refine k1 (k3 ?_);refine D9 (X:=Nat) (fun i=>([(0,E2 File 2 Q4 l),(1,H6 (.func (.func f) #[] #[])),(7,D1 l.length),(8,D1 i)],[])) (fun i=>i<=l.length/\(l.take i).any m=false) (fun i=>l.length-i) 0 ⟨Nat.zero_le _,rfl⟩ (Sees.of ⟨B1 rfl,B1 rfl,B1 rfl,B1 rfl,trivial⟩ trivial) ?_;rintro i ⟨t,h⟩;dsimp only at t h ⊢;refine k2 ?_;refine A7 (A6 (F1 Z Z) Z (B0 ?_));refine k1 (k2 ?_);refine B5 rfl (fun d=>?_) (fun d=>?_);rotate_left
 ·have g:i=l.length:=by have g:=A1 d;(try dsimp only at g);omega
  rw[g,VJ]at h;refine k6 (k2 ?_);refine A7 (A6 (A9 Z Z) Z (B0 ?_));refine k1 (I8 ?_);exact B9 (rs:=[E6 (-1)]) (I5 rfl rfl rfl) ⟨-1,rfl,by rw[h];rfl⟩
 have b:i<l.length:=by have g:=A0 d;(try dsimp only at g);omega
 obtain⟨x,k⟩:∃x,x=l[i]:=⟨_,rfl⟩
 have q:l[i]?=some x:=by rw[k];simp[b]
 have j:=s x (by rw[k];exact VE b);refine k5 (k1 (k2 (k3 (k2 ?_))));refine A7 (A6 (A8 Z Z) Z (A6 (A9 Z Z) Z (B0 ?_)));refine k1 (k2 ?_);refine A7 (A6 (A8 Z Z) Z (A6 (A8 Z Z) Z (A6 (A8 Z Z) Z (A6 (B6 Z (.pure _ _ _ _) Z (by omega) q) Z (A6 (H7 Z Z) Z (A6 (uY (j) Z Z Z) Z (B0 ?_)))))));refine k1 ?_;refine B5 rfl (fun d=>?_) (fun d=>?_)
 ·refine k2 ?_;refine A7 (A6 (A8 Z Z) Z (A6 (A9 Z Z) Z (B0 ?_)));refine k1 (I8 (X4 (M6 (M6 (X4 (M6 ?_))))));refine B9 (rs:=[E6 i]) (I5 rfl rfl rfl) ⟨i,rfl,?_⟩;rw[List.any_eq_true.2 ⟨x,by rw[k];exact VE b,d⟩];exact A2 (by omega)
 ·refine k5 (k4 (k1 ?_));refine A7 (A6 (D8 Z Z (by omega)) Z (A6 (A8 Z Z) Z (B0 ?_)));refine k1 ?_;refine⟨i+1,⟨b,?_⟩,by omega,(Sees.of ⟨B1 rfl,B1 rfl,B1 rfl,B1 rfl,trivial⟩ trivial)⟩;rw[List.take_add_one,q,Option.toList_some,List.any_append,h,Bool.false_or,List.any_cons,List.any_nil,Bool.or_false];exact d
theorem dH(f:FuncId)(a:File->Bool)(l:List File)(g:l.length<=1073741824)(b:∀x∈l,FnOk Tryz.prog f [EQ x] (fun rs=>rs=[H5 (a x)])) :
  FnOk Tryz.prog 115 [R7 l,.one (.v (.func (.func f) #[] #[]))] (fun rs=>rs=[H5 (l.any a)]):=by
 refine FnOk.intro Tryz.func115 (by decide) Z Z Z Z ?_;refine k2 ?_;refine A7 (A6 (A9 Z Z) Z (B0 ?_));refine k1 (k2 ?_);refine A7 (A6 (A8 Z Z) Z (A6 (A8 Z Z) Z (C8 (vA f a l g b) Z Z Z ?_)));rintro _ ⟨i,rfl,d⟩;refine A6 (jL Z Z) Z (A6 (A9 Z Z) Z (B0 ?_));refine k1 (I8 ?_);exact B9 (I5 rfl rfl rfl) (by rw[<-d])
theorem pM(f:FuncId)(m:Commit->Bool)(l:List Commit)(w:l.length<=1073741824)(s:∀x∈l,FnOk Tryz.prog f [kK x] (fun rs=>rs=[H5 (m x)])) :
  FnOk Tryz.prog 114 [F4 l,.one (.v (.func (.func f) #[] #[]))] (fun rs=>∃i:Int,rs=[E6 i]/\decide (0<=i)=l.any m):=by
 refine FnOk.intro Tryz.func114 (by decide) Z Z Z Z ?_;refine k2 ?_;refine A7 (A6 (A9 Z Z) Z (B0 ?_));refine k1 (k2 (k2 ?_));refine A7 (A6 (A8 Z Z) Z (A6 (F7 Z (.pure _ _ _ _)) Z (A6 (A8 Z Z) Z (B0 ?_))));refine k1 (k3 ?_);refine D9 (X:=Nat) (fun i=>([(0,E2 Commit 3 E7 l),(1,H6 (.func (.func f) #[] #[])),(7,D1 l.length),(8,D1 i)],[])) (fun i=>i<=l.length/\(l.take i).any m=false) (fun i=>l.length-i) 0 ⟨Nat.zero_le _,rfl⟩ (Sees.of ⟨B1 rfl,B1 rfl,B1 rfl,B1 rfl,trivial⟩ trivial) ?_;rintro i ⟨t,h⟩;dsimp only at t h ⊢;refine k2 ?_;refine A7 (A6 (F1 Z Z) Z (B0 ?_));refine k1 (k2 ?_);refine B5 rfl (fun d=>?_) (fun d=>?_);rotate_left
 ·have g:i=l.length:=by have g:=A1 d;(try dsimp only at g);omega
  rw[g,VJ]at h;refine k6 (k2 ?_);refine A7 (A6 (A9 Z Z) Z (B0 ?_));refine k1 (I8 ?_);exact B9 (rs:=[E6 (-1)]) (I5 rfl rfl rfl) ⟨-1,rfl,by rw[h];rfl⟩
 have b:i<l.length:=by have g:=A0 d;(try dsimp only at g);omega
 obtain⟨x,k⟩:∃x,x=l[i]:=⟨_,rfl⟩
 have q:l[i]?=some x:=by rw[k];simp[b]
 have j:=s x (by rw[k];exact VE b);refine k5 (k1 (k2 (k3 (k2 ?_))));refine A7 (A6 (A8 Z Z) Z (A6 (A9 Z Z) Z (B0 ?_)));refine k1 (k2 ?_);refine A7 (A6 (A8 Z Z) Z (A6 (A8 Z Z) Z (A6 (A8 Z Z) Z (A6 (B6 Z (.pure _ _ _ _) Z (by omega) q) Z (A6 (H7 Z Z) Z (A6 (uY (j) Z Z Z) Z (B0 ?_)))))));refine k1 ?_;refine B5 rfl (fun d=>?_) (fun d=>?_)
 ·refine k2 ?_;refine A7 (A6 (A8 Z Z) Z (A6 (A9 Z Z) Z (B0 ?_)));refine k1 (I8 (X4 (M6 (M6 (X4 (M6 ?_))))));refine B9 (rs:=[E6 i]) (I5 rfl rfl rfl) ⟨i,rfl,?_⟩;rw[List.any_eq_true.2 ⟨x,by rw[k];exact VE b,d⟩];exact A2 (by omega)
 ·refine k5 (k4 (k1 ?_));refine A7 (A6 (D8 Z Z (by omega)) Z (A6 (A8 Z Z) Z (B0 ?_)));refine k1 ?_;refine⟨i+1,⟨b,?_⟩,by omega,(Sees.of ⟨B1 rfl,B1 rfl,B1 rfl,B1 rfl,trivial⟩ trivial)⟩;rw[List.take_add_one,q,Option.toList_some,List.any_append,h,Bool.false_or,List.any_cons,List.any_nil,Bool.or_false];exact d
theorem y8(f:FuncId)(a:Commit->Bool)(l:List Commit)(g:l.length<=1073741824)(b:∀x∈l,FnOk Tryz.prog f [kK x] (fun rs=>rs=[H5 (a x)])) :
  FnOk Tryz.prog 71 [F4 l,.one (.v (.func (.func f) #[] #[]))] (fun rs=>rs=[H5 (l.any a)]):=by
 refine FnOk.intro Tryz.func71 (by decide) Z Z Z Z ?_;refine k2 ?_;refine A7 (A6 (A9 Z Z) Z (B0 ?_));refine k1 (k2 ?_);refine A7 (A6 (A8 Z Z) Z (A6 (A8 Z Z) Z (C8 (pM f a l g b) Z Z Z ?_)));rintro _ ⟨i,rfl,d⟩;refine A6 (jL Z Z) Z (A6 (A9 Z Z) Z (B0 ?_));refine k1 (I8 ?_);exact B9 (I5 rfl rfl rfl) (by rw[<-d])
structure FewG (g:Graph):Prop where
 len:g.length<=1000
 pars:∀c∈g,c.Parents.length<=1048576
theorem U1{l:List Bool}{c:Nat}(h:c<l.length):l[c]?=some (E9 l c):=by
 unfold E9;rw[VA h];rfl
theorem FU(l:List Int)(n:Int)(j:l.length<=1073741824):FnOk Tryz.prog 163 [K0 l,E6 n] (fun rs=>∃i:Int,rs=[E6 i]/\decide (0<=i)=decide (n∈l)):=by
 refine FnOk.intro Tryz.func163 (by decide) Z Z Z Z ?_;refine k2 ?_;refine A7 (A6 (A9 Z Z) Z (B0 ?_));refine k1 (k2 (k2 ?_));refine A7 (A6 (A8 Z Z) Z (A6 (F7 Z (.pure _ _ _ _)) Z (A6 (A8 Z Z) Z (B0 ?_))));refine k1 (k3 ?_);refine D9 (X:=Nat) (fun i=>([(0,E2 Int 1 G2 l),(1,D1 n),(7,D1 l.length),(8,D1 i)],[])) (fun i=>i<=l.length/\n∉l.take i) (fun i=>l.length-i) 0 ⟨Nat.zero_le _,by simp⟩ (Sees.of ⟨B1 rfl,B1 rfl,B1 rfl,B1 rfl,trivial⟩ trivial) ?_;rintro i ⟨f,d⟩;dsimp only at f d ⊢;refine k2 ?_;refine A7 (A6 (F1 Z Z) Z (B0 ?_));refine k1 (k2 ?_);refine B5 rfl (fun c=>?_) (fun c=>?_);rotate_left
 ·have a:i=l.length:=by have a:=A1 c;(try dsimp only at a);omega
  rw[a,VJ]at d;refine k6 (k2 ?_);refine A7 (A6 (A9 Z Z) Z (B0 ?_));refine k1 (I8 ?_);exact B9 (rs:=[E6 (-1)]) (I5 rfl rfl rfl) ⟨-1,rfl,by rw[A3 d];rfl⟩
 have b:i<l.length:=by have a:=A0 c;(try dsimp only at a);omega
 have g:l[i]?=some l[i]:=by simp[b]
 refine k5 (k1 (k2 (k3 (k2 ?_))));refine A7 (A6 (A8 Z Z) Z (A6 (A9 Z Z) Z (B0 ?_)));refine k1 (k2 ?_);refine A7 (A6 (A8 Z Z) Z (A6 (A8 Z Z) Z (A6 (A8 Z Z) Z (A6 (B6 Z (.pure _ _ _ _) Z (by omega) g) Z (A6 (C0 Z Z) Z (A6 (J1 Z Z) Z (B0 ?_)))))));refine k1 ?_;refine B5 rfl (fun c=>?_) (fun c=>?_)
 ·have a:n=l[i]:=A0 c;refine k2 ?_;refine A7 (A6 (A8 Z Z) Z (A6 (A9 Z Z) Z (B0 ?_)));refine k1 (I8 (X4 (M6 (M6 (X4 (M6 ?_))))));refine B9 (rs:=[E6 i]) (I5 rfl rfl rfl) ⟨i,rfl,?_⟩;rw[A2 (show n∈l from a ▸ VE b)];exact A2 (by omega)
 ·have a:¬n=l[i]:=A1 c;refine k5 (k4 (k1 ?_));refine A7 (A6 (D8 Z Z (by omega)) Z (A6 (A8 Z Z) Z (B0 ?_)));refine k1 ?_;refine⟨i+1,⟨b,?_⟩,by omega,(Sees.of ⟨B1 rfl,B1 rfl,B1 rfl,B1 rfl,trivial⟩ trivial)⟩;rw[List.take_add_one,VA b,Option.toList_some,VG,List.mem_singleton];rintro (h | h)
  ·exact d h
  ·exact a h
theorem vB(l:List Int)(n:Int)(b:l.length<=1073741824):FnOk Tryz.prog 113 [K0 l,E6 n] (fun rs=>rs=[H5 (decide (n∈l))]):=by
 refine FnOk.intro Tryz.func113 (by decide) Z Z Z Z ?_;refine k2 ?_;refine A7 (A6 (A9 Z Z) Z (B0 ?_));refine k1 (k2 ?_);refine A7 (A6 (A8 Z Z) Z (A6 (A8 Z Z) Z (C8 (FU l n b) Z Z Z ?_)));rintro _ ⟨i,rfl,a⟩;refine A6 (jL Z Z) Z (A6 (A9 Z Z) Z (B0 ?_));refine k1 (I8 ?_);exact B9 (I5 rfl rfl rfl) (by rw[<-a])
theorem vC(c:Commit)(d:c.Parents.length<=1073741824):FnOk Tryz.prog 112 [kK c] (fun a=>a=[H5 (decide (c.Parents.length>32))]):=by
 refine FnOk.intro Tryz.func112 (by decide) Z Z Z Z ?_;refine k2 ?_;refine A7 (D3 (dE 1 Z Z Z) Z (A6 (A9 Z Z) Z (B0 ?_)));refine k1 (k2 ?_);refine A7 (A6 (B2 Z) Z (A6 (B4 Z Z Z) Z (A6 (F7 Z (.pure _ _ _ _)) Z (A6 (N5 Z Z) Z (A6 (A9 Z Z) Z (B0 ?_))))));refine k1 (I8 ?_);exact B9 (I5 rfl rfl rfl) (congrArg (fun b=>[H5 b]) (decide_eq_decide.2 ⟨fun h=>by omega,fun h=>by omega⟩))
theorem yD(g:Graph)(f:FewG g)(b:g.length<=1073741824):FnOk Tryz.prog 68 [F4 g] (fun rs=>rs=[H5 (d8 g)]):=by
 refine FnOk.intro Tryz.func68 (by decide) Z Z Z Z ?_;refine k2 ?_;refine A7 (A6 (A9 Z Z) Z (B0 ?_));refine k1 (k2 ?_);refine A7 (A6 (A8 Z Z) Z (A6 (F7 Z (.pure _ _ _ _)) Z (A6 (DZ Z Z) Z (A6 (A8 Z Z) Z (B3 Z Z Z Z (fun a=>by rw[a];exact A8 Z Z) ?_)))));refine B3 Z Z Z Z (fun a=>by have i:=a;(try simp at i);rw[a];exact L3 (y8 112 (fun c=>decide (c.Parents.length>32)) g b (fun c d=>vC c (by have:=f.pars c d;omega))) Z Z) ?_;refine B3 Z Z Z Z (fun a=>by rw[a];exact Y7 Z) ?_;refine A6 (C3 Z (fun h=>by first | rfl | (rw[h];rfl)) (fun h=>by first | rfl | (rw[h];rfl))) Z ?_;refine A6 (A9 Z Z) Z (B0 ?_);refine k1 (I8 ?_);refine B9 (I5 Z Z Z) ?_;unfold d8;rw[dK,show decide ((g.length:Int)<=300)=decide (g.length<=300) from decide_eq_decide.2 (by omega)]
theorem BN(c:Commit):FnOk Tryz.prog 72 [kK c] (fun rs=>rs=[H5 (decide (c.Date<0\/c.Date>2147483647))]):=by
 refine FnOk.intro Tryz.func72 (by decide) Z Z Z Z ?_;refine k2 ?_;refine A7 (D3 (dE 1 Z Z Z) Z (A6 (A9 Z Z) Z (B0 ?_)));refine k1 (k2 ?_);refine A7 (A6 (B2 Z) Z (A6 (B4 Z Z Z) Z (A6 (F1 Z Z) Z (A6 (A8 Z Z) Z (B3 Z Z Z Z (fun a=>by rw[a];exact B2 Z) ?_)))));refine B3 Z Z Z Z (fun a=>by rw[a];exact B4 Z Z Z) ?_;refine B3 Z Z Z Z (fun a=>by rw[a];exact N5 Z Z) ?_;refine A6 (C3 Z (fun h=>by first | rfl | (rw[h];rfl)) (fun h=>by first | rfl | (rw[h];rfl))) Z ?_;refine A6 (A9 Z Z) Z (B0 ?_);refine k1 (I8 ?_);refine B9 (I5 Z Z Z) ?_;rw[or_pick]
theorem vD(g:Graph)(c:Int):FnOk Tryz.prog 32 [F4 g,E6 c] (fun rs=>rs=[H5 (decide (S5 g c))]):=by
 refine FnOk.intro Tryz.func32 (by decide) Z Z Z Z ?_;refine k2 ?_;refine A7 (A6 (A9 Z Z) Z (B0 ?_));refine k1 (k2 ?_);refine A7 (A6 (A8 Z Z) Z (A6 (jL Z Z) Z (A6 (A8 Z Z) Z (B3 Z Z Z Z (fun a=>by rw[a];exact A8 Z Z) ?_))));refine B3 Z Z Z Z (fun a=>by rw[a];exact A8 Z Z) ?_;refine B3 Z Z Z Z (fun a=>by rw[a];exact F7 Z (.pure _ _ _ _)) ?_;refine B3 Z Z Z Z (fun a=>by rw[a];exact F1 Z Z) ?_;refine A6 (C3 Z (fun h=>by first | rfl | (rw[h];rfl)) (fun h=>by first | rfl | (rw[h];rfl))) Z ?_;refine A6 (A9 Z Z) Z (B0 ?_);refine k1 (I8 ?_);refine B9 (I5 Z Z Z) ?_;rw[and_pick];rfl
theorem yE(g:Graph)(E:FewG g)(d:g.length<=1073741824):FnOk Tryz.prog 69 [F4 g] (fun rs=>rs=[H5 (related g)]):=by
 refine FnOk.intro Tryz.func69 (by decide) Z Z Z Z ?_;refine k2 ?_;refine A7 (A6 (A9 Z Z) Z (B0 ?_));refine k1 (k2 (k2 ?_));refine A7 (A6 (A8 Z Z) Z (A6 (F7 Z (.pure _ _ _ _)) Z (A6 (A8 Z Z) Z (B0 ?_))));refine k1 (k3 ?_);refine D9 (X:=Nat) (fun i=>([(0,E2 Commit 3 E7 g),(7,E2 Commit 3 E7 g),(8,D1 g.length),(9,D1 i)],[])) (fun i=>i<=g.length/\((g.take i).all fun c=>eW g.length [] c.Parents)=true) (fun i=>g.length-i) 0 ⟨Nat.zero_le _,rfl⟩ (Sees.of ⟨B1 rfl,B1 rfl,B1 rfl,B1 rfl,trivial⟩ trivial) ?_;rintro i ⟨F,ha⟩;dsimp only at F ha ⊢;refine k2 ?_;refine A7 (A6 (F1 Z Z) Z (B0 ?_));refine k1 (k2 ?_);refine B5 rfl (fun m=>?_) (fun m=>?_);rotate_left
 ·have j:i=g.length:=by have j:=A1 m;(try dsimp only at j);omega
  rw[j,VJ]at ha;refine k6 (k2 ?_);refine A7 (A6 (A9 Z Z) Z (B0 ?_));refine k1 (I8 ?_);exact B9 (rs:=[H5 true]) (I5 rfl rfl rfl) (by unfold related;rw[ha])
 have w:i<g.length:=by have j:=A0 m;(try dsimp only at j);omega
 obtain⟨c,A⟩:∃c,c=g[i]:=⟨_,rfl⟩
 have D:g[i]?=some c:=by rw[A];simp[w]
 have I:=E.pars c (by rw[A];exact VE w);have z:eW g.length [] c.Parents=false->[H5 false]=[H5 (related g)]:=fun h=>by
  have:related g=false:=by
   unfold related;rw[List.all_eq_false];exact⟨c,by rw[A];exact VE w,by rw[h];decide⟩
  rw[this]
 refine k5 (k1 (k2 (k3 (k2 ?_))));refine A7 (A6 (B6 Z (.pure _ _ _ _) Z (by omega) D) Z (A6 (H7 Z Z) Z (D3 (L4 4 Z) Z (H3 (D5 TySz.out Z Z Z Z Z Z) (B0 ?_)))));refine k1 (k2 ?_);refine A7 (A6 (B2 Z) Z (A6 (B4 Z Z Z) Z (A6 (F7 Z (.pure _ _ _ _)) Z (A6 (A8 Z Z) Z (B0 ?_)))));refine k1 (k3 ?_);refine D9 (X:=Nat) (fun k=>([(0,E2 Commit 3 E7 g),(4,.s (.one (.ref 4 0))),(7,E2 Commit 3 E7 g),(8,D1 g.length),(9,D1 i),(14,E2 Int 1 G2 c.Parents),(15,D1 c.Parents.length),(16,D1 k)],[(4,.box (kK c).s1.cells)])) (fun k=>k<=c.Parents.length/\eW g.length [] c.Parents=eW g.length (c.Parents.take k) (c.Parents.drop k)) (fun k=>c.Parents.length-k) 0 ⟨Nat.zero_le _,rfl⟩ (Sees.of ⟨B1 rfl,B1 rfl,B1 rfl,B1 rfl,B1 rfl,B1 rfl,B1 rfl,B1 rfl,trivial⟩ ⟨rfl,trivial⟩) ?_;rintro k ⟨G,v⟩;dsimp only at G v ⊢;refine k2 ?_;refine A7 (A6 (F1 Z Z) Z (B0 ?_));refine k1 (k2 ?_);refine B5 rfl (fun m=>?_) (fun m=>?_);rotate_left
 ·have j:k=c.Parents.length:=by have j:=A1 m;(try dsimp only at j);omega
  rw[j,List.drop_length]at v;refine k6 (k7 (k7 (k8 Z (k4 (k1 ?_)))));refine A7 (A6 (D8 Z Z (by omega)) Z (A6 (A8 Z Z) Z (B0 ?_)));refine k1 ?_;refine⟨i+1,⟨w,?_⟩,by omega,(Sees.of ⟨B1 rfl,B1 rfl,B1 rfl,B1 rfl,trivial⟩ trivial)⟩;rw[List.take_add_one,D,Option.toList_some,WY,ha,Bool.true_and,List.all_cons,List.all_nil,Bool.and_true,v];rfl
 have q:k<c.Parents.length:=by have j:=A0 m;(try dsimp only at j);omega
 have y:c.Parents[k]?=some c.Parents[k]:=by simp[q]
 rw[VN q]at v;obtain⟨p,H⟩:∃p,p=c.Parents[k]:=⟨_,rfl⟩
 rw[<-H]at y v;have C:c.Parents.take (k+1)=c.Parents.take k++[p]:=by rw[List.take_add_one,y,Option.toList_some]
 rw[eW,<-C]at v;refine k5 (k1 (k2 (k3 (k2 ?_))));refine A7 (A6 (A8 Z Z) Z (A6 (B6 Z (.pure _ _ _ _) Z (by omega) y) Z (A6 (C0 Z Z) Z (A6 (A9 Z Z) Z (A6 (A9 Z Z) Z (B0 ?_))))));refine k1 (k2 ?_);refine A7 (A6 (A8 Z Z) Z (A6 (F1 Z Z) Z (A6 (A8 Z Z) Z (B3 Z Z Z Z (fun d=>by rw[d];exact A8 Z Z) ?_))));refine B3 Z Z Z Z (fun d=>by rw[d];exact A8 Z Z) ?_;refine B3 Z Z Z Z (fun d=>by rw[d];exact F7 Z (.pure _ _ _ _)) ?_;refine B3 Z Z Z Z (fun d=>by rw[d];exact jL Z Z) ?_;refine A6 (C3 Z (fun h=>by first | rfl | (rw[h];rfl)) (fun h=>by first | rfl | (rw[h];rfl))) Z ?_;refine A6 (A8 Z Z) Z (B3 Z Z Z Z (fun d=>by rw[d];exact B2 Z) ?_);refine B3 Z Z Z Z (fun d=>by rw[d];exact B4 Z Z Z) ?_;refine B3 Z Z Z Z (fun d=>by rw[d];exact A8 Z Z) ?_;refine B3 Z Z Z Z (fun d=>by have B:=d;(try simp at B);rw[d];exact sF Z (.pure _ _ _ _) Z (by omega) (by omega)) ?_;refine B3 Z Z Z Z (fun d=>by rw[d];exact A8 Z Z) ?_;refine B3 Z Z Z Z (fun d=>by have B:=d;(try simp at B);rw[d];exact L3 (vB (c.Parents.take ((k:Nat):Int).toNat) p (by rw[VM];omega)) Z Z) ?_;refine A6 (C3 Z (fun h=>by first | rfl | (rw[h];rfl)) (fun h=>by first | rfl | (rw[h];rfl))) Z ?_;refine B0 ?_;refine k1 ?_;rw[VC,SB,SB];refine B5 rfl (fun m=>?_) (fun m=>?_)
 ·rw[VU,VU,decide_eq_true_eq,decide_eq_true_eq,decide_eq_true_eq]at m;have j:decide (0<=p/\p<(g.length:Int)/\p∉c.Parents.take k)=false:=by
   rw[decide_eq_false_iff_not];rintro⟨J,a2,a3⟩;rcases m with (h | h) | h
   ·omega
   ·omega
   ·exact a3 h
  rw[j,Bool.false_and]at v;refine k2 ?_;refine A7 (A6 (A9 Z Z) Z (B0 ?_));refine k1 (I8 (X4 (M6 (M6 (X4 (X4 (M6 (M6 (X4 (M6 ?_))))))))));exact B9 (rs:=[H5 false]) (I5 rfl rfl rfl) (z v)
 ·rw[WT,WT,decide_eq_false_iff_not,decide_eq_false_iff_not,decide_eq_false_iff_not]at m;have j:decide (0<=p/\p<(g.length:Int)/\p∉c.Parents.take k)=true:=A2 ⟨by omega,by omega,m.2⟩;rw[j,Bool.true_and]at v;refine k5 (k4 (k1 ?_));refine A7 (A6 (D8 Z Z (by omega)) Z (A6 (A8 Z Z) Z (B0 ?_)));refine k1 ?_;exact⟨k+1,⟨q,v⟩,by omega,(Sees.of ⟨B1 rfl,B1 rfl,B1 rfl,B1 rfl,B1 rfl,B1 rfl,B1 rfl,B1 rfl,trivial⟩ ⟨rfl,trivial⟩)⟩
theorem vE(ps l:List Int)(k:Nat)(h:k<ps.length):R8 (ps.take (k+1)) l=bump (R8 (ps.take k) l) ps[k]:=by
 unfold R8;rw[List.take_add_one,VA h,Option.toList_some,List.foldl_append];rfl
theorem iT{l:List Int}{p:Int}(h:0<=p/\p<l.length):l[p.toNat]?=some (I0 l p.toNat):=by
 unfold I0;rw[VA (by omega)];rfl
theorem BO{ps:List Int}{l:List Int}{p:Nat}(b:∀p∈ps,0<=p/\p<l.length)(a:ps.Nodup):I0 l p<=I0 (R8 ps l) p/\I0 (R8 ps l) p<=I0 l p+1:=by
 rw[jF (n:=0) b a];split<;>omega
theorem yF{g:Graph}(d:related g=true){i p:Nat}(a:i<=g.length)(b:p<g.length):0<=I0 (L7 g i) p/\I0 (L7 g i) p<=i:=by
 rw[eZ d p b i a];have:=List.countP_le_length (p:=fun c=>decide ((p:Int)∈D4 g c)) (l:=List.range i);rw[WI]at this;omega
theorem BP(g:Graph)(hf:FewG g)(W:related g=true):FnOk Tryz.prog 70 [F4 g] (fun rs=>∃ch w,rs=[K0 w]/\KInv g w.length 0 ch w):=by
 have hg:=hf.len;refine FnOk.intro Tryz.func70 (by decide) Z Z Z Z ?_;refine k2 ?_;refine A7 (A6 (A9 Z Z) Z (B0 ?_));refine k1 (k2 ?_);refine A7 (A6 (A8 Z Z) Z (A6 (F7 Z (.pure _ _ _ _)) Z (D3 (fG 753 Int G2 0 Z Z (by omega) (by omega) (fun _=>by first | exact⟨⟨rfl,rfl⟩,trivial⟩ | exact⟨J2 _ _ _,trivial⟩ | exact⟨J2 _ _ _,⟨rfl,rfl⟩,J2 _ _ _,trivial⟩ | exact⟨⟨rfl,rfl⟩,⟨rfl,rfl⟩,trivial⟩) (by first | rfl | (simp[H4,M1,Ob.free,SV.free,S1.free,TC.free]<;>rfl))) Z ?_)));refine A6 (A9 Z Z) Z (B0 ?_);refine k1 (k2 (k2 ?_));refine A7 (A6 (A8 Z Z) Z (A6 (F7 Z (.pure _ _ _ _)) Z (A6 (A8 Z Z) Z (B0 ?_))));refine k1 (k3 ?_);rw[VC];refine D9 (X:=Nat) (fun i=>([(0,E2 Commit 3 E7 g),(3,.s (.one (.mut 753))),(17,E2 Commit 3 E7 g),(18,D1 g.length),(19,D1 i)],[(753,.arr Int 1 G2 (L7 g i))])) (fun i=>i<=g.length) (fun i=>g.length-i) 0 (Nat.zero_le _) (Sees.of ⟨B1 rfl,B1 rfl,B1 rfl,B1 rfl,B1 rfl,trivial⟩ ⟨rfl,trivial⟩) ?_;intro i V;dsimp only at V ⊢;refine k2 ?_;refine A7 (A6 (F1 Z Z) Z (B0 ?_));refine k1 (k2 ?_);refine B5 rfl (fun j=>?_) (fun j=>?_)
 ·have G:i<g.length:=by have d:=A0 j;(try dsimp only at d);omega
  obtain⟨c,P⟩:∃c,c=g[i]:=⟨_,rfl⟩
  have hv:g[i]?=some c:=by rw[P];simp[G]
  have H:D4 g i=c.Parents:=by rw[U6 G,P]
  have hpr:=I3 W i;have ai:=hf.pars c (by rw[P];exact VE G);have hs:=iC G;rw[H]at hpr hs;have C:=s9 g i;have U:=fun p (T:p<g.length)=>yF W (i:=i) (p:=p) (by omega) T;obtain⟨z,hz⟩:∃z,z=L7 g i:=⟨_,rfl⟩
  rw[<-hz]at hs C U ⊢;refine k5 (k1 (k2 (k3 (k2 ?_))));refine A7 (A6 (B6 Z (.pure _ _ _ _) Z (by omega) hv) Z (A6 (H7 Z Z) Z (D3 (L4 5 Z) Z (H3 (D5 TySz.out Z Z Z Z Z Z) (B0 ?_)))));refine k1 (k2 ?_);refine A7 (A6 (B2 Z) Z (A6 (B4 Z Z Z) Z (A6 (F7 Z (.pure _ _ _ _)) Z (A6 (A8 Z Z) Z (B0 ?_)))));refine k1 (k3 ?_);refine D9 (X:=Nat) (fun k=>([(0,E2 Commit 3 E7 g),(3,.s (.one (.mut 753))),(17,E2 Commit 3 E7 g),(18,D1 g.length),(19,D1 i),(24,E2 Int 1 G2 c.Parents),(25,D1 c.Parents.length),(26,D1 k)],[(753,.arr Int 1 G2 (R8 (c.Parents.take k) z))])) (fun k=>k<=c.Parents.length) (fun k=>c.Parents.length-k) 0 (Nat.zero_le _) (Sees.of ⟨B1 rfl,B1 rfl,B1 rfl,B1 rfl,B1 rfl,B1 rfl,B1 rfl,B1 rfl,trivial⟩ ⟨rfl,trivial⟩) ?_;intro k hk;dsimp only at hk ⊢;have L:=eY (c.Parents.take k) z;refine k2 ?_;refine A7 (A6 (F1 Z Z) Z (B0 ?_));refine k1 (k2 ?_);refine B5 rfl (fun j=>?_) (fun j=>?_);rotate_left
  ·have d:k=c.Parents.length:=by have d:=A1 j;(try dsimp only at d);omega
   rw[d,VJ,<-hs];refine k6 (k7 (k7 (k8 Z (k4 (k1 ?_)))));refine A7 (A6 (D8 Z Z (by omega)) Z (A6 (A8 Z Z) Z (B0 ?_)));refine k1 ?_;exact⟨i+1,G,by omega,(Sees.of ⟨B1 rfl,B1 rfl,B1 rfl,B1 rfl,B1 rfl,trivial⟩ ⟨rfl,trivial⟩)⟩
  have y:k<c.Parents.length:=by have d:=A0 j;(try dsimp only at d);omega
  have J:c.Parents[k]?=some c.Parents[k]:=by simp[y]
  have R:=hpr.1 _ (VE y);have ab:=vE c.Parents z k y;obtain⟨p,T⟩:∃p,p=c.Parents[k]:=⟨_,rfl⟩
  rw[<-T]at J R ab;have hb:=BO (ps:=c.Parents.take k) (l:=z) (p:=p.toNat) (fun q hq=>by rw[C];exact hpr.1 q (List.mem_of_mem_take hq)) (hpr.2.sublist (List.take_sublist _ _));have hh:=U p.toNat (by omega)
  have I:=iT (l:=R8 (c.Parents.take k) z) (p:=p) (by rw[L,C];exact R);refine k5 (k1 (k2 (k3 (k2 ?_))));refine A7 (A6 (B6 Z (.pure _ _ _ _) Z (by omega) J) Z (A6 (C0 Z Z) Z (A6 (A9 Z Z) Z (B0 ?_))));refine k1 ?_;refine A7 (A6 (A8 Z Z) Z (A6 (A8 Z Z) Z (A6 (E5 Z Z Z (by omega) (by (rw[L];omega))) Z ?_)));refine A6 (L9 Z Z I Z) Z (A6 (D8 Z Z (by omega)) Z (A6 (E5 Z Z Z (by omega) (by (rw[L];omega))) Z ?_));refine H3 (K9 TySz.out Z Z (by (rw[L];omega)) Z Z) ?_;refine B0 ?_;refine k4 (k1 ?_);refine A7 (A6 (D8 Z Z (by omega)) Z (A6 (A8 Z Z) Z (B0 ?_)));refine k1 ?_;refine⟨k+1,by omega,by omega,?_⟩;rw[ab];exact (Sees.of ⟨B1 rfl,B1 rfl,B1 rfl,B1 rfl,B1 rfl,B1 rfl,B1 rfl,B1 rfl,trivial⟩ ⟨rfl,trivial⟩)
 have Q:i=g.length:=by have d:=A1 j;(try dsimp only at d);omega
 rw[Q];have ac:=KInv.start W;obtain⟨z,hz⟩:∃z,z=L7 g g.length:=⟨_,rfl⟩
 have af:z.length=g.length:=by rw[hz];exact s9 g _
 rw[<-hz]at ac ⊢;refine k6 (k2 ?_);refine A7 (D3 (V3 8 _ G2 Z) Z (B0 ?_));refine k1 (k2 (k2 ?_));refine A7 (A6 (A8 Z Z) Z (A6 (lI Z Z) Z (A6 (A8 Z Z) Z (B0 ?_))));refine k1 (k3 ?_);refine D9 (X:=Nat) (fun i=>([(0,E2 Commit 3 E7 g),(3,.s (.one (.mut 753))),(8,.s (.one (.buf 8 Int 1 G2 (P8 z i)))),(38,.s (.one (.mut 753))),(39,D1 g.length),(40,D1 i)],[(8,.spare (P8 z i).length 1 3),(753,.arr Int 1 G2 z)])) (fun i=>i<=g.length) (fun i=>g.length-i) 0 (Nat.zero_le _) (by rw[<-af];exact (Sees.of ⟨B1 rfl,B1 rfl,B1 rfl,B1 rfl,B1 rfl,B1 rfl,trivial⟩ ⟨rfl,rfl,trivial⟩)) ?_;intro i V;dsimp only at V ⊢;have an:=AA z i;have M:=wK z i;refine k2 ?_;refine A7 (A6 (F1 Z Z) Z (B0 ?_));refine k1 (k2 ?_);refine B5 rfl (fun j=>?_) (fun j=>?_)
 ·have G:i<g.length:=by have d:=A0 j;(try dsimp only at d);omega
  have I:=iT (l:=z) (p:=(i:Int)) (by omega);rw[VC]at I;refine k5 (k1 (k2 (k3 (k2 ?_))));refine A7 (A6 (A8 Z Z) Z (A6 (E5 Z Z Z (by omega) (by (rw[af];omega))) Z ?_));refine A6 (L9 Z Z I Z) Z (A6 (A9 Z Z) Z (A6 (A9 Z Z) Z (B0 ?_)));refine k1 (k2 ?_);refine A7 (A6 (A8 Z Z) Z (A6 (J1 Z Z) Z (B0 ?_)));refine k1 ?_;refine B5 rfl (fun j=>?_) (fun j=>?_)
  ·have d:I0 z i=0:=A0 j;rw[A4 d]at M;skip;refine A7 (A6 (A8 Z Z) Z (A6 (A8 Z Z) Z (A6 (D2 (c:=G2) (ys:=[(i:Int)]) (D6 Z Z Z Z G1) Z Z Z) Z (D3 (L2 Z Z Z (.pure _ _ _ _) (by (simp only[VD,VI];omega)) Z) Z (A6 (A9 Z Z) Z (B0 ?_))))));refine k4 (k1 ?_);refine A7 (A6 (D8 Z Z (by omega)) Z (A6 (A8 Z Z) Z (B0 ?_)));refine k1 ?_;refine⟨i+1,by omega,by omega,?_⟩;rw[M];exact (Sees.of ⟨B1 rfl,B1 rfl,B1 rfl,B1 rfl,B1 rfl,B1 rfl,trivial⟩ ⟨rfl,rfl,trivial⟩)
  ·have d:¬I0 z i=0:=A1 j;rw[A5 d]at M;refine k5 (k4 (k1 ?_));refine A7 (A6 (D8 Z Z (by omega)) Z (A6 (A8 Z Z) Z (B0 ?_)));refine k1 ?_;refine⟨i+1,by omega,by omega,?_⟩;rw[M];exact (Sees.of ⟨B1 rfl,B1 rfl,B1 rfl,B1 rfl,B1 rfl,B1 rfl,trivial⟩ ⟨rfl,rfl,trivial⟩)
 have Q:i=g.length:=by have d:=A1 j;(try dsimp only at d);omega
 rw[Q];refine k6 (k2 (k2 ?_));refine A7 (A6 (A9 Z Z) Z (B0 ?_));refine k1 (k3 ?_);refine D9 (X:=Nat×List Int×List Int) (fun x=>([(0,E2 Commit 3 E7 g),(3,.s (.one (.mut 753))),(8,.s (.one (.buf 8 Int 1 G2 x.2.2))),(11,D1 x.1)],[(8,.spare x.2.2.length 1 3),(753,.arr Int 1 G2 x.2.1)])) (fun x=>x.1<=x.2.2.length/\KInv g x.1 0 x.2.1 x.2.2) (fun x=>g.length-x.1) (0,z,P8 z g.length) ⟨Nat.zero_le _,ac⟩ (Sees.of ⟨B1 rfl,B1 rfl,B1 rfl,B1 rfl,trivial⟩ ⟨rfl,rfl,trivial⟩) ?_;rintro⟨k,ch,w⟩ ⟨hk,S⟩;dsimp only at hk S ⊢;have am:=S.le;refine k2 (k2 ?_);refine A7 (A6 (A8 Z Z) Z (A6 (A8 Z Z) Z (A6 (F7 Z (.buf _ _ _ _ _)) Z (A6 (F1 Z Z) Z (B0 ?_)))));refine k1 ?_;refine B5 rfl (fun j=>?_) (fun j=>?_);rotate_left
 ·have d:k=w.length:=by have d:=A1 j;(try dsimp only at d);omega
  rw[d]at S;refine k6 (k2 ?_);refine A7 (A6 (A8 Z Z) Z (A6 (A9 Z Z) Z (B0 ?_)));refine k1 (I8 ?_);exact B9 (rs:=[K0 w]) (I5 rfl rfl rfl) ⟨ch,w,rfl,S⟩
 have y:k<w.length:=by have d:=A0 j;(try dsimp only at d);omega
 have al:=S.rng _ (VE y);obtain⟨K,ag⟩:∃K:Nat,w[k]=(K:Int):=⟨w[k].toNat,by omega⟩
 have ae:w[k]?=some (K:Int):=by rw[VA y,ag]
 have C:K<g.length:=by omega
 obtain⟨c,P⟩:∃c,c=g[K]:=⟨_,rfl⟩
 have aj:g[((K:Nat):Int).toNat]?=some c:=by rw[P];simp[C]
 have H:D4 g K=c.Parents:=by rw[U6 C,P]
 have ai:=hf.pars c (by rw[P];exact VE C);refine k5 (k1 (k2 (k3 (k2 ?_))));refine A7 (A6 (A8 Z Z) Z (A6 (A8 Z Z) Z (A6 (A8 Z Z) Z (A6 (B6 Z (.buf _ _ _ _ _) Z (by omega) ae) Z (A6 (C0 Z Z) Z (A6 (B6 Z (.pure _ _ _ _) Z (by omega) aj) Z (A6 (G5 Z) Z (A6 (C0 Z Z) Z (A6 (F7 Z (.pure _ _ _ _)) Z (A6 (A8 Z Z) Z (B0 ?_)))))))))));refine k1 (k3 ?_);refine D9 (X:=Nat×List Int×List Int) (fun x=>([(0,E2 Commit 3 E7 g),(3,.s (.one (.mut 753))),(8,.s (.one (.buf 8 Int 1 G2 x.2.2))),(11,D1 k),(65,E2 Int 1 G2 c.Parents),(66,D1 c.Parents.length),(67,D1 x.1)],[(8,.spare x.2.2.length 1 3),(753,.arr Int 1 G2 x.2.1)])) (fun x=>x.1<=c.Parents.length/\k<x.2.2.length/\x.2.2[k]?=some (K:Int)/\KInv g k x.1 x.2.1 x.2.2) (fun x=>c.Parents.length-x.1) (0,ch,w) ⟨Nat.zero_le _,y,ae,S⟩ (Sees.of ⟨B1 rfl,B1 rfl,B1 rfl,B1 rfl,B1 rfl,B1 rfl,B1 rfl,trivial⟩ ⟨rfl,rfl,trivial⟩) ?_;rintro⟨i,v,E⟩ ⟨V,hkl,B,F⟩;dsimp only at V hkl B F ⊢;have ak:=F.le;have D:=F.len;have O:E[k]=(K:Int):=by rw[VA hkl]at B;exact Option.some.inj B
 refine k2 ?_;refine A7 (A6 (F1 Z Z) Z (B0 ?_));refine k1 (k2 ?_);refine B5 rfl (fun j=>?_) (fun j=>?_);rotate_left
 ·have d:i=c.Parents.length:=by have d:=A1 j;(try dsimp only at d);omega
  rw[d,<-H]at F;have hN:=F.next hkl O;refine k6 (k7 (k7 (k8 Z (k4 (k1 ?_)))));refine A7 (A6 (A8 Z Z) Z (A6 (D8 Z Z (by omega)) Z (A6 (A9 Z Z) Z (B0 ?_))));refine k1 ?_;exact⟨(k+1,v,E),⟨by dsimp only;omega,hN⟩,by dsimp only;omega,(Sees.of ⟨B1 rfl,B1 rfl,B1 rfl,B1 rfl,trivial⟩ ⟨rfl,rfl,trivial⟩)⟩
 have A:i<c.Parents.length:=by have d:=A0 j;(try dsimp only at d);omega
 have J:c.Parents[i]?=some c.Parents[i]:=by simp[A]
 have R:=(I3 W K).1 c.Parents[i] (by rw[H];exact VE A);obtain⟨p,T⟩:∃p:Nat,c.Parents[i]=(p:Int):=⟨c.Parents[i].toNat,by omega⟩
 rw[T]at J;obtain⟨s1,s2,s3,s4⟩:=F.step W hkl O (i:=i) (p:=p) (by rw[H];exact A) (by simp only[H];exact T);have I:=iT (l:=v) (p:=(p:Int)) (by omega);have ad:(R2 v p)[((p:Nat):Int).toNat]?=some (I0 v p-1):=by
  unfold R2;rw[VC,WX (by omega)]
 have ah:(R2 v p).length=g.length:=by unfold R2;rw[VY,D]
 have Y:v.set ((p:Nat):Int).toNat (I0 v ((p:Nat):Int).toNat-1)=R2 v p:=rfl;refine k5 (k1 (k2 (k3 (k2 ?_))));refine A7 (A6 (B6 Z (.pure _ _ _ _) Z (by omega) J) Z (A6 (C0 Z Z) Z (A6 (A9 Z Z) Z (B0 ?_))));refine k1 (k2 ?_);refine A7 (A6 (A8 Z Z) Z (A6 (A8 Z Z) Z (A6 (E5 Z Z Z (by omega) (by (rw[D];omega))) Z ?_)));refine A6 (L9 Z Z I Z) Z (A6 (O3 Z Z (by (rw[VC];omega))) Z ?_);refine A6 (E5 Z Z Z (by omega) (by (rw[D];omega))) Z ?_;refine H3 (K9 TySz.out Z Z (by (rw[D];omega)) Z Z) ?_;refine B0 ?_;rw[Y];refine k1 (k2 ?_);refine A7 (A6 (A8 Z Z) Z (A6 (A8 Z Z) Z (A6 (E5 Z Z Z (by omega) (by (rw[ah];omega))) Z ?_)));refine A6 (L9 Z Z ad Z) Z (A6 (J1 Z Z) Z (B0 ?_));refine k1 ?_;refine B5 rfl (fun j=>?_) (fun j=>?_)
 ·have d:I0 v p-1=0:=A0 j;rw[A4 d]at s4;skip;refine A7 (A6 (A8 Z Z) Z (A6 (A8 Z Z) Z (A6 (D2 (c:=G2) (ys:=[(p:Int)]) (D6 Z Z Z Z G1) Z Z Z) Z (D3 (L2 Z Z Z (.pure _ _ _ _) (by (simp only[VD,VI];omega)) Z) Z (A6 (A9 Z Z) Z (B0 ?_))))));refine k4 (k1 ?_);refine A7 (A6 (D8 Z Z (by omega)) Z (A6 (A8 Z Z) Z (B0 ?_)));refine k1 ?_;exact⟨(i+1,R2 v p,E++[(p:Int)]),⟨A,by dsimp only;rw[VF];omega,by dsimp only;rw[VP hkl];exact B,s4⟩,by dsimp only;omega,(Sees.of ⟨B1 rfl,B1 rfl,B1 rfl,B1 rfl,B1 rfl,B1 rfl,B1 rfl,trivial⟩ ⟨rfl,rfl,trivial⟩)⟩
 ·have d:¬I0 v p-1=0:=A1 j;rw[A5 d]at s4;refine k5 (k4 (k1 ?_));refine A7 (A6 (D8 Z Z (by omega)) Z (A6 (A8 Z Z) Z (B0 ?_)));refine k1 ?_;exact⟨(i+1,R2 v p,E),⟨A,hkl,B,s4⟩,by dsimp only;omega,(Sees.of ⟨B1 rfl,B1 rfl,B1 rfl,B1 rfl,B1 rfl,B1 rfl,B1 rfl,trivial⟩ ⟨rfl,rfl,trivial⟩)⟩
abbrev rS(s:Str):Cell:=.v (.string ⟨s.toArray⟩)
def P6(l:List File):List (Str×Cell):=l.foldl (fun m f=>S8 m f.Path (rS f.Blob)) []
theorem EL(a b:Str)(c:Cell):∀d:List (Str×Cell),L5 (S8 d a c) b=if a=b then some c else L5 d b
 | []=>by
  unfold S8 L5;split
  ·rfl
  ·rfl
 | (k,x)::r=>by
  unfold S8;split
  ·rename_i e;subst e;unfold L5;split
   ·rfl
   ·rfl
  ·rename_i e;rw[L5,EL a b c r];by_cases g:k=b
   ·subst g;rw[A4 rfl,A5 (fun h=>e h.symm)];simp[L5]
   ·rw[A5 g];by_cases f:a=b
    ·rw[A4 f,A4 f]
    ·rw[A5 f,A5 f,L5,A5 g]
theorem kA(l:List File)(i:Nat)(h:i<l.length):P6 (l.take (i+1))=S8 (P6 (l.take i)) l[i].Path (rS l[i].Blob):=by
 unfold P6;rw[List.take_add_one,VA h,Option.toList_some,List.foldl_append];rfl
theorem pN(p:Str):∀(l:List File) (m:List (Str×Cell)),L5 (l.foldl (fun m f=>S8 m f.Path (rS f.Blob)) m) p=((I2 l.reverse p).map rS).or (L5 m p)
 | [],m=>by simp[I2]
 | f::r,m=>by
  rw[WJ,pN p r,EL,List.reverse_cons];have b:∀(l:List File),I2 (l++[f]) p=(I2 l p).or (if f.Path=p then some f.Blob else none):=by
   intro l;induction l with
   | nil=>simp[I2]
   | cons g l c =>
    rw[WE,I2,I2];split
    ·rfl
    ·exact c
  rw[b];cases I2 r.reverse p with
  | some x=>rfl
  | none=>by_cases h:f.Path=p<;>simp[h]
theorem vF(l:List File)(p:Str):(L5 (P6 l) p).isSome=decide (p∈l.map (·.Path)):=by
 unfold P6;rw[pN];have:L5 ([]:List (Str×Cell)) p=none:=rfl;rw[this,Option.or_none,Option.isSome_map];cases h:I2 l.reverse p with
 | none =>
  have:=qK.1 h;rw[List.map_reverse,List.mem_reverse]at this;simp only[Option.isSome_none,this,decide_false]
 | some x =>
  obtain⟨f,c,b,_⟩:=x3 h;have:p∈l.map (·.Path):=by rw[<-b];exact List.mem_map_of_mem (List.mem_reverse.1 c)
  simp only[Option.isSome_some,this,decide_true]
theorem FV{l m:List File}{p:Str}(i:ascend l=true)(b:∀f,f∈m↔f∈l)(_hu:∀f∈l,∀g∈l,f.Path=g.Path->f=g):I2 m p=I2 l p:=by
 cases h:I2 m p with
 | none =>
  symm
  rw[qK]at h ⊢;intro j;obtain⟨f,a,e⟩:=VT.1 j;exact h (VT.2 ⟨f,(b f).2 a,e⟩)
 | some x =>
  obtain⟨f,a,c,d⟩:=x3 h;rw[<-c,n9 i f ((b f).1 a),d]
theorem kB{l:List File}(b:ascend l=true)(p:Str):L5 (P6 l) p=(I2 l p).map rS:=by
 unfold P6;rw[pN];have:L5 ([]:List (Str×Cell)) p=none:=rfl;rw[this,Option.or_none]
 congr 1
 refine FV b (fun f=>List.mem_reverse) fun f h g i e=>?_;have c:=n9 b f h;have d:=n9 b g i;rw[e,d]at c;cases f;cases g;simp only[File.mk.injEq];exact⟨e,(Option.some.inj c).symm⟩
theorem pO(l:List File)(w:l.length<=1073741824):AL.Met Tryz.prog 167 [.one (.p (.list File 2 Q4 l))] [] [] [] (fun rs ob'=>rs=[.one (.mut 800)]/\ob'=[(800,.map Str iP (P6 l))]):=by
 refine AL.Met.intro Tryz.func167 (by decide) Z Z Z ?_;refine k2 ?_;refine A7 (A6 (A9 Z Z) Z (B0 ?_));refine k1 (k2 ?_);refine A7 (D3 (sQ 800 Str iP Z) Z (A6 (A9 Z Z) Z (B0 ?_)));refine k1 (k2 (k2 ?_));refine A7 (A6 (A8 Z Z) Z (A6 (F7 Z (.pure _ _ _ _)) Z (A6 (A8 Z Z) Z (B0 ?_))));refine k1 (k3 ?_);refine D9 (X:=Nat) (fun i=>([(3,.s (.one (.mut 800))),(7,E2 File 2 Q4 l),(8,D1 l.length),(9,D1 i)],[(800,.map Str iP (P6 (l.take i)))])) (fun i=>i<=l.length) (fun i=>l.length-i) 0 (Nat.zero_le _) (Sees.of ⟨B1 rfl,B1 rfl,B1 rfl,B1 rfl,trivial⟩ ⟨rfl,trivial⟩) ?_;intro i q;dsimp only at q ⊢;refine k2 ?_;refine A7 (A6 (F1 Z Z) Z (B0 ?_));refine k1 (k2 ?_);refine B5 rfl (fun g=>?_) (fun g=>?_)
 ·have b:i<l.length:=by have c:=A0 g;(try dsimp only at c);omega
  have k:=kA l i b;obtain⟨f,j⟩:∃f,f=l[i]:=⟨_,rfl⟩
  have v:l[i]?=some f:=by rw[j];simp[b]
  rw[<-j]at k;refine k5 (k1 (k2 (k3 (k2 ?_))));refine A7 (A6 (B6 Z (.pure _ _ _ _) Z (by omega) v) Z (A6 (H7 Z Z) Z (D3 (L4 5 Z) Z (H3 (D5 TySz.out Z Z Z Z Z Z) (B0 ?_)))));refine k1 ?_;refine A7 (A6 (A8 Z Z) Z (A6 (B2 Z) Z (A6 (B4 Z Z Z) Z (A6 (B2 Z) Z (A6 (B4 Z Z Z) Z (H3 (xZ (f.Path) Z Z Z Z Z dZ eC) (B0 ?_)))))));refine k4 (k1 ?_);refine A7 (A6 (D8 Z Z (by omega)) Z (A6 (A8 Z Z) Z (B0 ?_)));refine k1 ?_;refine⟨i+1,by omega,by omega,?_⟩;rw[k];exact (Sees.of ⟨B1 rfl,B1 rfl,B1 rfl,B1 rfl,trivial⟩ ⟨rfl,trivial⟩)
 ·have d:i=l.length:=by have c:=A1 g;(try dsimp only at c);omega
  rw[d,VJ];refine k6 (k2 ?_);refine A7 (A6 (A8 Z Z) Z (A6 (A9 Z Z) Z (B0 ?_)));refine k1 (I8 ?_);exact G9 (O9 rfl rfl) (by repeat (first | exact B7 | refine B8 rfl ?_ | refine E1 _ ?_)) (fun _ _ h=>h) ⟨rfl,rfl⟩
theorem yG(l:List File)(w:l.length<=1073741824):AL.Met Tryz.prog 167 [.one (.p (.list File 2 Q4 l))] [] [] [] (fun rs ob'=>rs=[.one (.mut 801)]/\ob'=[(801,.map Str iP (P6 l))]):=by
 refine AL.Met.intro Tryz.func167 (by decide) Z Z Z ?_;refine k2 ?_;refine A7 (A6 (A9 Z Z) Z (B0 ?_));refine k1 (k2 ?_);refine A7 (D3 (sQ 801 Str iP Z) Z (A6 (A9 Z Z) Z (B0 ?_)));refine k1 (k2 (k2 ?_));refine A7 (A6 (A8 Z Z) Z (A6 (F7 Z (.pure _ _ _ _)) Z (A6 (A8 Z Z) Z (B0 ?_))));refine k1 (k3 ?_);refine D9 (X:=Nat) (fun i=>([(3,.s (.one (.mut 801))),(7,E2 File 2 Q4 l),(8,D1 l.length),(9,D1 i)],[(801,.map Str iP (P6 (l.take i)))])) (fun i=>i<=l.length) (fun i=>l.length-i) 0 (Nat.zero_le _) (Sees.of ⟨B1 rfl,B1 rfl,B1 rfl,B1 rfl,trivial⟩ ⟨rfl,trivial⟩) ?_;intro i q;dsimp only at q ⊢;refine k2 ?_;refine A7 (A6 (F1 Z Z) Z (B0 ?_));refine k1 (k2 ?_);refine B5 rfl (fun g=>?_) (fun g=>?_)
 ·have b:i<l.length:=by have c:=A0 g;(try dsimp only at c);omega
  have k:=kA l i b;obtain⟨f,j⟩:∃f,f=l[i]:=⟨_,rfl⟩
  have v:l[i]?=some f:=by rw[j];simp[b]
  rw[<-j]at k;refine k5 (k1 (k2 (k3 (k2 ?_))));refine A7 (A6 (B6 Z (.pure _ _ _ _) Z (by omega) v) Z (A6 (H7 Z Z) Z (D3 (L4 5 Z) Z (H3 (D5 TySz.out Z Z Z Z Z Z) (B0 ?_)))));refine k1 ?_;refine A7 (A6 (A8 Z Z) Z (A6 (B2 Z) Z (A6 (B4 Z Z Z) Z (A6 (B2 Z) Z (A6 (B4 Z Z Z) Z (H3 (xZ (f.Path) Z Z Z Z Z dZ eC) (B0 ?_)))))));refine k4 (k1 ?_);refine A7 (A6 (D8 Z Z (by omega)) Z (A6 (A8 Z Z) Z (B0 ?_)));refine k1 ?_;refine⟨i+1,by omega,by omega,?_⟩;rw[k];exact (Sees.of ⟨B1 rfl,B1 rfl,B1 rfl,B1 rfl,trivial⟩ ⟨rfl,trivial⟩)
 ·have d:i=l.length:=by have c:=A1 g;(try dsimp only at c);omega
  rw[d,VJ];refine k6 (k2 ?_);refine A7 (A6 (A8 Z Z) Z (A6 (A9 Z Z) Z (B0 ?_)));refine k1 (I8 ?_);exact G9 (O9 rfl rfl) (by repeat (first | exact B7 | refine B8 rfl ?_ | refine E1 _ ?_)) (fun _ _ h=>h) ⟨rfl,rfl⟩
theorem yH{gf:Fr}{ob:Obs}(p:Str)(k:List (Str×Cell))(P:p.length<=1073741824)(K:C5 ob 800=some (.map Str iP k))(_hc:∀O∈k,∃v,O.2=.v v)(ps:List Str)(F:∀q,(L5 k q).isSome=decide (q∈ps)) :
  AL.Met Tryz.prog 168 [.one (.p (.v (.string ⟨p.toArray⟩))),.one (.mut 800)] gf ob [] (fun rs ob'=>rs=[.one (.p (.v (.bool (N7 p ps))))]/\ob'=ob):=by
 have x:∀c:UInt8,((c.toNat:Int)=47)↔c=47:=fun c=>by
  constructor
  ·intro h;exact UInt8.toNat_inj.1 (by simpa using (show c.toNat=47 by omega))
  ·rintro rfl;rfl
 refine AL.Met.introH Tryz.func168 (by decide) rfl rfl rfl (fun H=>?_);refine k2 ?_;refine A7 (A6 (A9 Z Z) Z (B0 ?_));refine k1 (k2 (k2 ?_));refine A7 (A6 (A8 Z Z) Z (A6 (L1 Z) Z (A6 (A8 Z Z) Z (B0 ?_))));refine k1 (k3 ?_);refine D9 (X:=Nat) (fun i=>([(0,P4 p),(1,.s (.one (.mut 800))),(9,D1 p.length),(10,D1 i)]++gf,ob)) (fun i=>i<=p.length/\∀j,j<i->(decide (p.take j∈ps)&&decide (p[j]?=some 47))=false) (fun i=>p.length-i) 0 ⟨Nat.zero_le _,fun j h=>by omega⟩ (UF ⟨B1 rfl,B1 rfl,B1 rfl,B1 rfl,trivial⟩ H (by repeat (first | exact B7 | refine B8 rfl ?_)) (fun _ _ h=>h)) ?_;rintro i ⟨L,D⟩;dsimp only at L D ⊢;refine k2 ?_;refine A7 (A6 (F1 Z Z) Z (B0 ?_));refine k1 (k2 ?_);refine B5 rfl (fun d=>?_) (fun d=>?_);rotate_left
 ·have C:i=p.length:=by have B:=A1 d;(try dsimp only at B);omega
  have E:N7 p ps=false:=by
   unfold N7;rw[List.any_eq_false];intro j I;rw[D j (by rw[C];exact VL.1 I)];simp
  refine k6 (k2 ?_);refine A7 (A6 (A9 Z Z) Z (B0 ?_));refine k1 (I8 ?_);exact G9 (O9 rfl rfl) (by repeat (first | exact B7 | refine B8 rfl ?_ | refine E1 _ ?_)) (fun _ _ h=>h) ⟨by rw[E],rfl⟩
 have f:i<p.length:=by have B:=A0 d;(try dsimp only at B);omega
 have M:p[((i:Nat):Int).toNat]?=some p[i]:=by simp[f]
 have y:p[i]?=some p[i]:=by simp[f]
 have z:=F (p.take ((i:Nat):Int).toNat);obtain⟨r,J⟩:∃r,r=L5 k (p.take ((i:Nat):Int).toNat):=⟨_,rfl⟩
 rw[<-J,VC]at z;refine k5 (k1 (k2 (k3 (k2 ?_))));refine A7 (A6 (A8 Z Z) Z (A6 (A9 Z Z) Z (B0 ?_)));refine k1 (k2 ?_);refine A7 (A6 (A8 Z Z) Z (A6 (A8 Z Z) Z (A6 (A8 Z Z) Z (A6 (uQ Z Z (by omega) (by omega)) Z (A6 (oZ ((p.take ((i:Nat):Int).toNat)) (r:=r) Z K Z dZ eC (J.symm)) Z (A6 (A8 Z Z) Z (A6 (C1 Z Z) Z (A6 (C1 Z Z) Z (A6 (A9 Z Z) Z (A6 (A9 Z Z) Z (B0 ?_)))))))))));refine k1 (k2 ?_);refine A7 (A6 (A8 Z Z) Z (A6 (A8 Z Z) Z (B3 Z Z Z Z (fun w=>by rw[w];exact A8 Z Z) ?_)));refine B3 Z Z Z Z (fun w=>by rw[w];exact A8 Z Z) ?_;refine B3 Z Z Z Z (fun w=>by have z:=w;(try simp at z);rw[w];exact P2 Z Z (by omega) M) ?_;refine B3 Z Z Z Z (fun w=>by rw[w];exact J1 Z Z) ?_;refine A6 (C3 Z (fun h=>by first | rfl | (rw[h];rfl)) (fun h=>by first | rfl | (rw[h];rfl))) Z ?_;refine B0 ?_;refine k1 ?_;refine B5 rfl (fun d=>?_) (fun d=>?_)
 ·rw[dK,VB,decide_eq_true_eq]at d;have A:N7 p ps=true:=by
   unfold N7;rw[List.any_eq_true];exact⟨i,VL.2 f,by rw[<-z,d.1,y,(x _).1 d.2];rfl⟩
  refine k2 ?_;refine A7 (A6 (A9 Z Z) Z (B0 ?_));refine k1 (I8 (X4 (M6 (M6 (X4 (M6 ?_))))));exact G9 (O9 rfl rfl) (by repeat (first | exact B7 | refine B8 rfl ?_ | refine E1 _ ?_)) (fun _ _ h=>h) ⟨by rw[A],rfl⟩
 ·rw[dK]at d;refine k5 (k4 (k1 ?_));refine A7 (A6 (D8 Z Z (by omega)) Z (A6 (A8 Z Z) Z (B0 ?_)));refine k1 ?_;refine⟨i+1,⟨f,fun j I=>?_⟩,by omega,UF ⟨B1 rfl,B1 rfl,B1 rfl,B1 rfl,trivial⟩ H (by repeat (first | exact B7 | refine B8 rfl ?_)) (fun _ _ h=>h)⟩;by_cases e:j=i
  ·subst e;rw[<-z,y];cases G:r.isSome
   ·rfl
   ·rw[G,Bool.true_and,decide_eq_false_iff_not]at d;have:¬p[j]=47:=fun h=>d ((x _).2 h);simp[this]
  ·exact D j (by omega)
theorem FW(l:List File):∀b∈P6 l,∃v,b.2=.v v:=by
 have e:∀(l:List File) (m:List (Str×Cell)),(∀b∈m,∃v,b.2=.v v)->∀b∈l.foldl (fun m f=>S8 m f.Path (rS f.Blob)) m,∃v,b.2=.v v:=by
  intro l;induction l with
  | nil=>exact fun m h=>h
  | cons f r g =>
   intro m h;refine g _ ?_;clear g;induction m with
   | nil=>intro b a;change b∈S8 [] f.Path (rS f.Blob) at a;rw[S8,List.mem_singleton]at a;rw[a];exact⟨_,rfl⟩
   | cons x m d =>
    obtain⟨k,c⟩:=x;intro b a;change b∈S8 ((k,c)::m) f.Path (rS f.Blob) at a;rw[S8]at a;split at a
    ·rcases VH.1 a with rfl | a
     ·exact⟨_,rfl⟩
     ·exact h b (by simp[a])
    ·rcases VH.1 a with rfl | a
     ·exact h _ (by simp)
     ·exact d (fun b i=>h b (by simp[i])) b a
 exact e l [] fun _ h=>by cases h
theorem mP:∀(l:List File) (i:Nat),i+1<l.length->(ascend (l.take (i+2))=(ascend (l.take (i+1))&&aY (l.getD i ⟨[],[]⟩).Path (l.getD (i+1) ⟨[],[]⟩).Path))
 | [],i,h=>by simp at h
 | [_],i,h=>by simp at h
 | f::g::r,0,_=>by simp[ascend]
 | f::g::r,i+1,h=>by
  have b:ascend (g::r.take (i+1))=(ascend (g::r.take i)&&aY ((g::r).getD i ⟨[],[]⟩).Path ((g::r).getD (i+1) ⟨[],[]⟩).Path):=mP (g::r) i (by simpa using h);show ascend (f::g::r.take (i+1))=(ascend (f::g::r.take i)&&aY ((g::r).getD i ⟨[],[]⟩).Path ((g::r).getD (i+1) ⟨[],[]⟩).Path)
  rw[ascend,ascend,b,Bool.and_assoc]
theorem vG(l:List File):ascend (l.take 1)=true:=by
 cases l with
 | nil=>rfl
 | cons f r=>rfl
theorem yI(l:List File)(S:l.length<=1073741824)(T:∀f∈l,f.Path.length<=1073741824):FnOk Tryz.prog 118 [R7 l] (fun rs=>rs=[H5 (V6 l)]):=by
 rw[<-DB];have H:=FW l;have G:=vF l;refine FnOk.intro Tryz.func118 (by decide) Z Z Z Z ?_;refine k2 ?_;refine A7 (A6 (A9 Z Z) Z (B0 ?_));refine k1 (k2 ?_);refine A7 (A6 (A8 Z Z) Z (bF (pO l S) Z Z Z Z ?_));rintro _ _ ⟨rfl,rfl⟩;refine⟨rfl,?_⟩;refine A6 (A9 Z Z) Z (B0 ?_);refine k1 (k2 (k2 ?_));refine A7 (A6 (A8 Z Z) Z (A6 (F7 Z (.pure _ _ _ _)) Z (A6 (A8 Z Z) Z (B0 ?_))));refine k1 (k3 ?_);refine D9 (X:=Nat) (fun i=>([(0,E2 File 2 Q4 l),(3,.s (.one (.mut 800))),(8,E2 File 2 Q4 l),(9,D1 l.length),(10,D1 i)],[(800,.map Str iP (P6 l))])) (fun i=>i<=l.length/\ascend (l.take i)=true/\((l.take i).all fun f=>!N7 f.Path (l.map (·.Path)))=true) (fun i=>l.length-i) 0 ⟨Nat.zero_le _,rfl,rfl⟩ (Sees.of ⟨B1 rfl,B1 rfl,B1 rfl,B1 rfl,B1 rfl,trivial⟩ ⟨rfl,trivial⟩) ?_;rintro i ⟨R,ha,E⟩;dsimp only at R ha E ⊢;refine k2 ?_;refine A7 (A6 (F1 Z Z) Z (B0 ?_));refine k1 (k2 ?_);refine B5 rfl (fun q=>?_) (fun q=>?_);rotate_left
 ·have K:i=l.length:=by have v:=A1 q;(try dsimp only at v);omega
  rw[K,VJ]at ha E;refine k6 (k2 ?_);refine A7 (A6 (A9 Z Z) Z (B0 ?_));refine k1 (I8 ?_);exact B9 (rs:=[H5 true]) (I5 rfl rfl rfl) (by unfold n8;rw[ha,E];rfl)
 have j:i<l.length:=by have v:=A0 q;(try dsimp only at v);omega
 obtain⟨f,I⟩:∃f,f=l[i]:=⟨_,rfl⟩
 have L:l[i]?=some f:=by rw[I];simp[j]
 have J:=T f (by rw[I];exact VE j);obtain⟨g,b⟩:∃g,g=l.getD (i-1) ⟨[],[]⟩:=⟨_,rfl⟩
 have D:0<i->l[((i:Int)-1).toNat]?=some g:=fun w=>by
  rw[b,show ((i:Int)-1).toNat=i-1 by omega,VK,VA (by omega)];rfl
 have c:ascend (l.take (i+1))=if 0<i then aY g.Path f.Path else true:=by
  cases i with
  | zero=>rw[A5 (by omega)];exact vG l
  | succ i =>
   rw[A4 (by omega),mP l i j,ha,Bool.true_and,b];rw[show l.getD (i+1) ⟨[],[]⟩=f by rw[VK,L];rfl];rfl
 have z:((0 < i/\aY g.Path f.Path=false)\/N7 f.Path (l.map (·.Path))=true)->[H5 false]=[H5 (n8 l)]:=by
  rintro (⟨w,h⟩ | h)
  ·have : ascend l=false:=by
    cases A:ascend l
    ·rfl
    ·exfalso;rw[A4 w,h]at c;have M:∀(l:List File) (k:Nat),ascend l=true->ascend (l.take k)=true:=by
      intro l;induction l with
      | nil=>intro k h;simpa using h
      | cons x r U =>
       intro k h;cases k with
       | zero=>rfl
       | succ k =>
        have F:=U k (z1 h);rw[List.take_succ_cons];cases O:r.take k with
        | nil=>rfl
        | cons y t =>
         unfold ascend;rw[VB];refine⟨Z5 h y (List.mem_of_mem_take (by rw[O];simp)),by rw[<-O];exact F⟩
     rw[M l (i+1) A]at c;cases c
   unfold n8;rw[this];rfl
  ·have:(l.all fun f=>!N7 f.Path (l.map (·.Path)))=false:=by
    rw[List.all_eq_false];exact⟨f,by rw[I];exact VE j,by rw[h];simp⟩
   unfold n8;rw[this,Bool.and_false]
 have B:(0<i->aY g.Path f.Path=true)->N7 f.Path (l.map (·.Path))=false->ascend (l.take (i+1))=true/\((l.take (i+1)).all fun f=>!N7 f.Path (l.map (·.Path)))=true:=by
  intro v A;refine⟨?_,?_⟩
  ·rw[c];split
   ·rename_i w;exact v w
   ·rfl
  ·rw[List.take_add_one,L,Option.toList_some,WY,E,Bool.true_and,List.all_cons,List.all_nil,A];rfl
 refine k5 (k1 (k2 (k3 (k2 ?_))));refine A7 (A6 (A8 Z Z) Z (A6 (B6 Z (.pure _ _ _ _) Z (by omega) L) Z (A6 (H7 Z Z) Z (D3 (L4 5 Z) Z (A6 (A9 Z Z) Z (H3 (D5 TySz.out Z Z Z Z Z Z) (B0 ?_)))))));refine k1 (k2 ?_);cases d:(if decide ((0:Int)<(i:Int))=true then !Op.bytesLess g.Path f.Path else false)
 ·have v:0<i->aY g.Path f.Path=true:=fun w=>by
   rw[A4 (A2 (by omega)),Bool.not_eq_false']at d;exact d
  refine pH 17 (by kernel_rfl) (by kernel_rfl) Z (C2 (A8 Z Z) Z Z (C2 (N5 Z Z) Z Z (C2 (A8 Z Z) Z Z (F8 Z Z (fun b=>by rw[b];exact A8 Z Z) Z Z ?_))));refine F8 Z Z (fun b=>by rw[b];exact A8 Z Z) Z Z ?_;refine F8 Z Z (fun b=>by have C:=b;(try simp at C);rw[b];exact O3 Z Z (by omega)) Z Z ?_;refine F8 Z Z (fun b=>by have C:=b;(try simp at C);rw[b];exact B6 Z (.pure _ _ _ _) Z (by omega) (D (by omega))) Z Z ?_;refine F8 Z Z (fun b=>by rw[b];exact G5 Z) Z Z ?_;refine F8 Z Z (fun b=>by rw[b];exact C0 Z Z) Z Z ?_;refine F8 Z Z (fun b=>by rw[b];exact B2 Z) Z Z ?_;refine F8 Z Z (fun b=>by rw[b];exact B4 Z Z Z) Z Z ?_;refine F8 Z Z (fun b=>by rw[b];exact EH Z Z) Z Z ?_;refine C2 (C3 Z (fun h=>by first | rfl | (rw[h];rfl)) (fun h=>by first | rfl | (rw[h];rfl))) Z Z ?_;refine C2 (A8 Z Z) Z Z (PA Z Z d Z (C2 (B2 Z) Z Z (PA Z Z d Z (C2 (B4 Z Z Z) Z Z (PA Z Z d Z (C2 (A8 Z Z) Z Z (i7 ?_)))))));refine FP Z Z d (IT (yH f.Path (P6 l) J Z H (l.map (·.Path)) G) Z Z Z ?_);rintro _ _ ⟨rfl,rfl⟩;refine⟨_,rfl,?_⟩;refine C2 (C3 Z (fun h=>by first | rfl | (rw[h];rfl)) (fun h=>by first | rfl | (rw[h];rfl))) Z Z ?_;refine i7 ?_;refine k1 ?_;rw[d];refine B5 rfl (fun q=>?_) (fun q=>?_)
  ·have A:N7 f.Path (l.map (·.Path))=true:=by simpa using q
   refine k2 ?_;refine A7 (A6 (A9 Z Z) Z (B0 ?_));refine k1 (I8 (X4 (M6 (M6 (X4 (M6 ?_))))));exact B9 (rs:=[H5 false]) (I5 rfl rfl rfl) (z (.inr A))
  ·have A:N7 f.Path (l.map (·.Path))=false:=by simpa using q
   obtain⟨F,Q⟩:=B v A;refine k5 (k4 (k1 ?_));refine A7 (A6 (D8 Z Z (by omega)) Z (A6 (A8 Z Z) Z (B0 ?_)));refine k1 ?_;exact⟨i+1,⟨j,F,Q⟩,by omega,(Sees.of ⟨B1 rfl,B1 rfl,B1 rfl,B1 rfl,B1 rfl,trivial⟩ ⟨rfl,trivial⟩)⟩
 ·have w:0<i:=by
   apply Classical.byContradiction;intro w;rw[A5 (by rw[decide_eq_true_eq];omega)]at d;cases d
  have v:aY g.Path f.Path=false:=by
   rw[A4 (A2 (by omega)),Bool.not_eq_true']at d;exact d
  refine H2 (by kernel_rfl) (by kernel_rfl) (C2 (A8 Z Z) Z Z (C2 (N5 Z Z) Z Z (C2 (A8 Z Z) Z Z (F8 Z Z (fun b=>by rw[b];exact A8 Z Z) Z Z ?_))));refine F8 Z Z (fun b=>by rw[b];exact A8 Z Z) Z Z ?_;refine F8 Z Z (fun b=>by have C:=b;(try simp at C);rw[b];exact O3 Z Z (by omega)) Z Z ?_;refine F8 Z Z (fun b=>by have C:=b;(try simp at C);rw[b];exact B6 Z (.pure _ _ _ _) Z (by omega) (D (by omega))) Z Z ?_;refine F8 Z Z (fun b=>by rw[b];exact G5 Z) Z Z ?_;refine F8 Z Z (fun b=>by rw[b];exact C0 Z Z) Z Z ?_;refine F8 Z Z (fun b=>by rw[b];exact B2 Z) Z Z ?_;refine F8 Z Z (fun b=>by rw[b];exact B4 Z Z Z) Z Z ?_;refine F8 Z Z (fun b=>by rw[b];exact EH Z Z) Z Z ?_;refine C2 (C3 Z (fun h=>by first | rfl | (rw[h];rfl)) (fun h=>by first | rfl | (rw[h];rfl))) Z Z ?_;refine C2 (A8 Z Z) Z Z (oP Z Z (by rw[d];decide) Z Z ?_);refine oP Z Z (by rw[d];decide) Z Z ?_;refine oP Z Z (by rw[d];decide) Z Z ?_;refine oP Z Z (by rw[d];decide) Z Z ?_;refine C2 (oT Z (d) Z) Z Z (i7 ?_);refine k1 ?_;refine B5 rfl (fun q=>?_) (fun q=>?_)
  ·refine k2 ?_;refine A7 (A6 (A9 Z Z) Z (B0 ?_));refine k1 (I8 (X4 (M6 (M6 (X4 (M6 ?_))))));exact B9 (rs:=[H5 false]) (I5 rfl rfl rfl) (z (.inl ⟨w,v⟩))
  ·cases q
theorem tC(s:Str)(c:UInt8):FnOk Tryz.prog 169 [H1 s,H1 [c]] (fun a=>a=[E6 (s.count c)]) :=
 UI (xs:=[.string ⟨s.toArray⟩,.string ⟨#[c]⟩]) ⟨_,rfl,rfl,rfl⟩ rfl fun w=>by simpa[Lib.countByte] using Tryz.strings_Count_one ⟨s.toArray⟩ c w
theorem FX(s:Str)(c:UInt8):FnOk Tryz.prog 226 [H1 s,H1 [c]] (fun a=>a=[E6 (Lib.indexByte s c)]) :=
 UI (xs:=[.string ⟨s.toArray⟩,.string ⟨#[c]⟩]) ⟨_,rfl,rfl,rfl⟩ rfl fun w=>by simpa using Tryz.strings_Index_one ⟨s.toArray⟩ c w
abbrev fK(l:List Str):Ob:=.grow 9 Str 1 y1 l
theorem vH(s:Str)(M:s.length<=536870912):AL.Met Tryz.prog 219 [(H1 s).s1,(H1 [10]).s1,(E6 1).s1,(E6 (-1)).s1] [] [] [] (fun J ob'=>J=[.one (.mut 9)]/\ob'=[(9,fK (O1 s))]):=by
 have E:=U4 s [];have K:s.count 10<=s.length:=List.count_le_length;have v:([10]:Str).length=1:=rfl;obtain⟨P,k⟩:∃P,P=O1 s:=⟨_,rfl⟩
 have F:P.length=s.count 10+1:=by rw[k];exact E
 refine AL.Met.intro Tryz.func219 (by decide) Z Z Z ?_;refine k2 ?_;refine A7 (A6 (A9 Z Z) Z (B0 ?_));refine k1 (k2 (k2 ?_));refine A7 (A6 (A8 Z Z) Z (A6 (J1 Z Z) Z (B0 ?_)));refine k1 ?_;refine B5 rfl (fun c=>?_) (fun c=>?_)
 ·exact absurd (A0 c) (by omega)
 refine k5 (k1 (k2 (k2 ?_)));refine A7 (A6 (A8 Z Z) Z (A6 (a8 Z Z) Z (B0 ?_)));refine k1 ?_;refine B5 rfl (fun c=>?_) (fun c=>?_)
 ·exact absurd (A0 c) (by simp)
 refine k5 (k1 (k2 (k2 ?_)));refine A7 (A6 (A8 Z Z) Z (A6 (F1 Z Z) Z (B0 ?_)));refine k1 ?_;refine B5 rfl (fun c=>?_) (fun c=>?_);rotate_left
 ·exact absurd (A1 c) (by omega)
 skip;refine A7 (A6 (A8 Z Z) Z (A6 (A8 Z Z) Z (C8 (tC s 10) Z Z Z ?_)));rintro _ rfl;refine A6 (D8 Z Z (by omega)) Z (A6 (A9 Z Z) Z (B0 ?_));refine k1 (k2 ?_);refine A7 (A6 (A8 Z Z) Z (A6 (A8 Z Z) Z (A6 (L1 Z) Z (A6 (D8 Z Z (by omega)) Z (A6 (OA Z Z) Z (A6 (A9 Z Z) Z (B0 ?_)))))));refine k1 (k2 ?_);rw[show (if (s.length:Int)+1<(s.count 10:Int)+1 then (s.length:Int)+1 else (s.count 10:Int)+1)=(P.length:Int) from by split<;>omega];refine A7 (A6 (A8 Z Z) Z (D3 (MR 9 Str y1 [] Z Z (by omega) (by omega) (fun _=>by first | exact⟨⟨rfl,rfl⟩,trivial⟩ | exact⟨J2 _ _ _,trivial⟩ | exact⟨J2 _ _ _,⟨rfl,rfl⟩,J2 _ _ _,trivial⟩ | exact⟨⟨rfl,rfl⟩,⟨rfl,rfl⟩,trivial⟩) (by first | rfl | (simp[H4,M1,Ob.free,SV.free,S1.free,TC.free]<;>rfl))) Z ?_));refine A6 (A9 Z Z) Z (B0 ?_);refine k1 (k2 ?_);refine A7 (A6 (A8 Z Z) Z (A6 (O3 Z Z (by omega)) Z (A6 (A9 Z Z) Z (B0 ?_))));refine k1 (k2 ?_);refine A7 (A6 (A9 Z Z) Z (B0 ?_));refine k1 (k2 (k3 ?_));refine D9 (X:=Nat×Str) (fun x=>([(0,P4 x.2),(1,P4 [10]),(2,D1 1),(3,D1 ((P.length:Int)-1)),(9,.s (.one (.mut 9))),(10,D1 x.1)],[(9,fK (P.take x.1++List.replicate (P.length-x.1) []))])) (fun x=>x.1+1<=P.length/\P.drop x.1=O1 x.2/\x.2.length<=s.length) (fun x=>P.length-x.1) (0,s) ⟨by dsimp only;omega,k,Nat.le_refl _⟩ (Sees.of ⟨B1 rfl,B1 rfl,B1 rfl,B1 rfl,B1 rfl,B1 rfl,trivial⟩ ⟨rfl,trivial⟩) ?_;rintro⟨i,r⟩ ⟨G,q,I⟩;dsimp only at G q I ⊢;refine k2 (k2 ?_);refine A7 (A6 (A8 Z Z) Z (A6 (A8 Z Z) Z (A6 (F1 Z Z) Z (B0 ?_))));refine k1 ?_;refine B5 rfl (fun c=>?_) (fun c=>?_)
 ·have H:i+1<P.length:=by have:=A0 c;omega
  have A:(10:UInt8)∈r:=by
   have d:=U4 r [];have f:(P.drop i).length=r.count 10+1:=by rw[q];exact d
   rw[WA]at f;exact List.count_pos_iff.1 (by omega)
  rcases X7 10 r with ⟨d,_⟩ | ⟨a,b,d,f,w⟩
  ·exact absurd A d
  obtain⟨y,D⟩:=DD q d f;have L:r.length=a.length+1+b.length:=by rw[d];simp;omega
  refine k5 (k1 (k3 (k2 ?_)));refine A7 (A6 (A8 Z Z) Z (A6 (A8 Z Z) Z (C8 (FX r 10) Z Z Z ?_)));rintro _ rfl;refine A6 (A9 Z Z) Z (B0 ?_);refine k1 (k2 (k2 ?_));refine A7 (A6 (A8 Z Z) Z (A6 (F1 Z Z) Z (B0 ?_)));refine k1 ?_;rw[w];refine B5 rfl (fun c=>?_) (fun c=>?_)
  ·exact absurd (A0 c) (by omega)
  refine k5 (k1 (k2 ?_));have p:(P.take i++List.replicate (P.length-i) ([]:Str))[((i:Nat):Int).toNat]?=some []:=by
   rw[VC,VO (by rw[VM];omega),List.getElem?_replicate,A4 (by rw[VM];omega)]
  refine A7 (A6 (A8 Z Z) Z (A6 (A8 Z Z) Z (A6 (A8 Z Z) Z (A6 (A8 Z Z) Z (A6 (A8 Z Z) Z (A6 (D8 Z Z (by omega)) Z (A6 (uQ Z Z (by omega) (by omega)) Z (A6 (F0 Z Z Z (by omega) (by (simp;omega))) Z (H3 (Z1 ((r.take ((a.length:Int)+1).toNat)) TySz.out Z Z p Z Z Z Z (fun _ _ _ h=>W8 h) (by intro j d f;rcases j with _ | _ | _ | _ | _ | _ | _ | j<;>first | rfl | omega)) ?_)))))))));refine B0 ?_;refine k1 (k2 ?_);refine A7 (A6 (A8 Z Z) Z (A6 (A8 Z Z) Z (A6 (A8 Z Z) Z (A6 (L1 Z) Z (A6 (D8 Z Z (by omega)) Z (A6 (EB Z Z (by omega) (by omega)) Z (A6 (A9 Z Z) Z (B0 ?_))))))));refine k1 ?_;refine A7 (A6 (A8 Z Z) Z (A6 (D8 Z Z (by omega)) Z (A6 (A9 Z Z) Z (B0 ?_))));refine k4 (k1 ?_);have B:r.take (((a.length:Int)+1).toNat)=a++[10]:=by rw[d,show ((a.length:Int)+1).toNat=a.length+1 by omega,show a++10::b=(a++[10])++b by simp,List.take_left' (by simp)]
  have C:r.drop (((a.length:Int)+(([10]:Str).length:Int)).toNat)=b:=by rw[d,v,show ((a.length:Int)+((1:Nat):Int)).toNat=a.length+1 by omega,show a++10::b=(a++[10])++b by simp,List.drop_left' (by simp)]
  refine⟨(i+1,b),⟨by dsimp only;omega,D,by dsimp only;omega⟩,by dsimp only;omega,?_⟩;rw[B,C];dsimp only;rw[<-tW P [] _ i y];exact Sees.of ⟨B1 rfl,B1 rfl,B1 rfl,B1 rfl,B1 rfl,B1 rfl,trivial⟩ ⟨rfl,trivial⟩
 ·have z:i+1=P.length:=by have:=A1 c;omega
  have d:=U4 r [];have f:(P.drop i).length=r.count 10+1:=by rw[q];exact d
  rw[WA]at f;have w:(10:UInt8)∉r:=List.count_eq_zero.1 (by omega);have y:P[i]?=some r:=by rw[<-List.head?_drop,q];unfold O1;rw[sB _ _ w];rfl
  refine k6 (k2 ?_);have p:(P.take i++List.replicate (P.length-i) ([]:Str))[((i:Nat):Int).toNat]?=some []:=by
   rw[VC,VO (by rw[VM];omega),List.getElem?_replicate,A4 (by rw[VM];omega)]
  refine A7 (A6 (A8 Z Z) Z (A6 (A8 Z Z) Z (A6 (A8 Z Z) Z (A6 (F0 Z Z Z (by omega) (by (simp;omega))) Z (H3 (Z1 (r) TySz.out Z Z p Z Z Z Z (fun _ _ _ h=>W8 h) (by intro j d f;rcases j with _ | _ | _ | _ | _ | _ | _ | j<;>first | rfl | omega)) ?_)))));refine B0 ?_;refine k1 (k2 ?_);have e:(P.take i++List.replicate (P.length-i) ([]:Str)).set (i:Int).toNat r=P:=by rw[VC,tW P [] r i y,z];simp
  rw[e];refine A7 (A6 (A8 Z Z) Z (A6 (A8 Z Z) Z (A6 (D8 Z Z (by omega)) Z (D3 (bZ Z Z Z (by omega) (by omega) Z) Z (A6 (A9 Z Z) Z (B0 ?_))))));refine k1 (I8 ?_);rw[show ((i:Int)+1).toNat=P.length by omega,VJ,k];exact G9 (O9 rfl rfl) (by repeat (first | exact B7 | refine B8 rfl ?_ | refine E1 _ ?_)) (ObIn.spec (ob':=[(9,_)]) ⟨rfl,trivial⟩) ⟨rfl,rfl⟩
theorem pP(s:Str)(a:s.length<=536870912):AL.Met Tryz.prog 152 [(H1 s).s1,(H1 [10]).s1] [] [] [] (fun b ob'=>b=[.one (.mut 9)]/\ob'=[(9,fK (O1 s))]):=by
 refine AL.Met.intro Tryz.func152 (by decide) Z Z Z ?_;refine k2 ?_;refine A7 (A6 (A9 Z Z) Z (B0 ?_));refine k1 (k2 ?_);refine A7 (A6 (A8 Z Z) Z (A6 (A8 Z Z) Z (A6 (A8 Z Z) Z (A6 (L1 Z) Z (bF (vH s a) Z Z Z Z ?_)))));rintro _ _ ⟨rfl,rfl⟩;refine⟨rfl,?_⟩;refine A6 (A9 Z Z) Z (B0 ?_);refine k1 (I8 ?_);exact G9 (O9 rfl rfl) (by repeat (first | exact B7 | refine B8 rfl ?_ | refine E1 _ ?_)) (ObIn.spec (ob':=[(9,_)]) ⟨rfl,trivial⟩) ⟨rfl,rfl⟩
theorem tD(s:Str)(m:s.length<=536870912):FnOk Tryz.prog 120 [H1 s] (fun j=>j=[E6 (V5 s)]):=by
 have d:=aV s;have k:s.count 10<=s.length:=List.count_le_length;refine FnOk.intro Tryz.func120 (by decide) Z Z Z Z ?_;refine k2 ?_;refine A7 (A6 (A9 Z Z) Z (B0 ?_));refine k1 (k2 ?_);refine A7 (A6 (A8 Z Z) Z (C8 (tC s 10) Z Z Z ?_));rintro _ rfl;refine A6 (A9 Z Z) Z (B0 ?_);refine dT ?_;refine AZ [(0,P4 s),(3,D1 (G4 s).length)] [] ?_ ?_
 ·refine k2 ?_;refine A7 (A6 (A8 Z Z) Z (A6 (nV Z Z) Z (A6 (A8 Z Z) Z (B3 Z Z Z Z (fun a=>by rw[a];exact A8 Z Z) ?_))));refine B3 Z Z Z Z (fun a=>by have i:=a;(try simp at i);rw[a];exact L3 (FT s (by omega)) Z Z) ?_;refine B3 Z Z Z Z (fun a=>by rw[a];exact Y7 Z) ?_;refine A6 (C3 Z (fun h=>by first | rfl | (rw[h];rfl)) (fun h=>by first | rfl | (rw[h];rfl))) Z ?_;refine B0 ?_;refine k1 ?_;refine B5 rfl (fun b=>?_) (fun b=>?_)
  ·have h:s≠[]/\ended s=false:=by
    by_cases c:s=[]
    ·simp[c]at b
    ·refine⟨c,?_⟩;simpa[c] using b
   rw[A4 h]at d;skip;refine A7 (A6 (A8 Z Z) Z (A6 (D8 Z Z (by omega)) Z (A6 (A9 Z Z) Z (B0 ?_))));refine k1 ?_;rw[d,Int.natCast_add];exact Sees.of ⟨B1 rfl,B1 rfl,trivial⟩ trivial
  ·have h:¬(s≠[]/\ended s=false):=by
    rintro⟨c,f⟩;simp[c,f]at b
   rw[A5 h]at d;refine k5 (k1 ?_);rw[d];exact Sees.of ⟨B1 rfl,B1 rfl,trivial⟩ trivial
 ·refine k2 (k2 ?_);refine A7 (A6 (A8 Z Z) Z (A6 (L1 Z) Z (A6 (N5 Z Z) Z (A6 (A8 Z Z) Z (B3 Z Z Z Z (fun a=>by rw[a];exact A8 Z Z) ?_)))));refine B3 Z Z Z Z (fun a=>by rw[a];exact N5 Z Z) ?_;refine A6 (C3 Z (fun h=>by first | rfl | (rw[h];rfl)) (fun h=>by first | rfl | (rw[h];rfl))) Z ?_;refine B0 ?_;refine k1 ?_;refine B5 rfl (fun b=>?_) (fun b=>?_)
  ·have h:=A0 (or_pick.symm.trans b);refine k2 ?_;refine A7 (A6 (A9 Z Z) Z (B0 ?_));refine k1 (I8 (M6 ?_));exact B9 (I5 rfl rfl rfl) (by rw[V5,A4 (by omega)])
  ·have h:=A1 (or_pick.symm.trans b);refine k5 (k1 (k2 ?_));refine A7 (A6 (A9 Z Z) Z (B0 ?_));refine k1 (I8 ?_);exact B9 (I5 rfl rfl rfl) (by rw[V5,A5 (by omega)])
theorem BQ(s:Str)(q:s.length<=536870912):AL.Met Tryz.prog 96 [(H1 s).s1] [] [] [] (fun rs ob'=>rs=[.one (.mut 9),(E6 (X9 s).2).s1]/\ob'=[(9,fK (X9 s).1)]):=by
 have k:G4 s=if (O1 s).getLastD []=[] then (O1 s).dropLast else O1 s:=zN s []
 have f:(O1 s).length=s.count 10+1:=U4 s [];have v:s.count 10<=s.length:=List.count_le_length;refine AL.Met.intro Tryz.func96 (by decide) Z Z Z ?_;refine k2 ?_;refine A7 (A6 (A9 Z Z) Z (A6 (A9 Z Z) Z (B0 ?_)));refine k1 (k2 (k2 ?_));refine A7 (A6 (A8 Z Z) Z (C8 (tD s q) Z Z Z ?_));rintro _ rfl;refine A6 (A9 Z Z) Z (B0 ?_);refine k1 (k2 ?_);refine A7 (A6 (A8 Z Z) Z (A6 (P5 Z Z) Z (B0 ?_)));refine k1 ?_;refine B5 rfl (fun c=>?_) (fun c=>?_)
 ·have h:V5 s≠0:=by simpa using c
  have b:s.length>1048576\/(G4 s).length>4096:=by
   by_cases b:s.length>1048576\/(G4 s).length>4096
   ·exact b
   ·exact absurd (by rw[V5,A5 b]) h
  refine k2 ?_;refine A7 (A6 (A8 Z Z) Z (D3 (oQ 9 _ y1 Z) Z (A6 (A9 Z Z) Z (B0 ?_))));refine k1 (I8 (M6 ?_));refine G9 (EC rfl rfl rfl) (by repeat (first | exact B7 | refine B8 rfl ?_ | refine E1 _ ?_)) (ObIn.spec (ob':=[(9,_)]) ⟨rfl,trivial⟩) ?_;rw[X9,A4 b,V5,A4 b];exact⟨rfl,rfl⟩
 ·have h:V5 s=0:=by simpa using c
  have b:¬(s.length>1048576\/(G4 s).length>4096):=fun b=>by rw[V5,A4 b]at h;omega
  have w:(O1 s)[(O1 s).length-1]?=some ((O1 s).getLastD []):=by
   rw[<-List.getLast?_eq_getElem?,List.getLast?_eq_some_getLast (fun e=>by rw[e]at f;simp at f)];rw[List.getLastD_eq_getLast?,List.getLast?_eq_some_getLast (fun e=>by rw[e]at f;simp at f)];rfl
  have j:(((O1 s).length:Int)-1).toNat=(O1 s).length-1:=by omega
  refine k5 (k1 (k2 ?_));refine A7 (A6 (A8 Z Z) Z (bF (pP s q) Z Z Z Z ?_));rintro _ _ ⟨rfl,rfl⟩;refine⟨rfl,?_⟩;refine A6 (A9 Z Z) Z (B0 ?_);refine dT ?_;refine AZ [(5,.s (.one (.mut 9)))] [(9,fK (G4 s))] ?_ ?_
  ·refine k2 ?_;refine A7 (A6 (A8 Z Z) Z (A6 (A8 Z Z) Z (A6 (P9 Z Z) Z (A6 (O3 Z Z (by omega)) Z (A6 (F0 Z Z Z (by omega) (by omega)) Z (A6 (S3 Z Z (by rw[j];exact w) Z) Z ?_))))));refine A6 (a8 Z Z) Z (B0 ?_);refine k1 ?_;refine B5 rfl (fun c=>?_) (fun c=>?_)
   ·have i:=A0 c;skip;refine A7 (A6 (A8 Z Z) Z (A6 (A8 Z Z) Z (A6 (P9 Z Z) Z (A6 (O3 Z Z (by omega)) Z (D3 (bZ Z Z Z (by omega) (by omega) Z) Z (A6 (A9 Z Z) Z (B0 ?_)))))));refine k1 ?_;rw[k,A4 i,List.dropLast_eq_take,<-j];exact Sees.of ⟨B1 rfl,trivial⟩ ⟨rfl,trivial⟩
   ·have i:=A1 c;refine k5 (k1 ?_);rw[k,A5 i];exact Sees.of ⟨B1 rfl,trivial⟩ ⟨rfl,trivial⟩
  ·refine k2 ?_;refine A7 (A6 (A8 Z Z) Z (A6 (A9 Z Z) Z (A6 (A9 Z Z) Z (B0 ?_))));refine k1 (I8 ?_);refine G9 (EC rfl rfl rfl) (by repeat (first | exact B7 | refine B8 rfl ?_ | refine E1 _ ?_)) (ObIn.spec (ob':=[(9,_)]) ⟨rfl,trivial⟩) ?_;rw[X9,A5 b];exact⟨rfl,rfl⟩
end Go.Proofs.YtbflhoahmmfkmaaGreatDoor
