
/- Walks of the program's functions. -/
import Derived.Test.YtgkjogphmmoakaaGreatDoorTy
import Derived.Test.YtgkjogphmmoakaaGreatDoorFsB
import Derived.Test.YtgkjogphmmoakaaGreatDoorSh
import Derived.Lib.AppendIntMem
import Derived.RangeFuncBound
import Derived.RangeFuncOwn
import Derived.OwnWalkIn
import Derived.TacticsInMore
import Derived.LoopNIn
import Derived.LoopIn
set_option linter.all false
namespace Go.Proofs.YtgkjogphmmoakaaGreatDoor
open Go Go.AL
set_option maxRecDepth 100000
set_option maxHeartbeats 4000000
theorem UG(p:Int):0<=IntKind.u64.wrap p:=by simp[IntKind.wrap,IntKind.signed,IntKind.bits];omega
theorem YN{p:Prop}(h:p:=by simp;omega):p:=h
theorem G6{p:Prop}(h:p:=by decide):p:=h
theorem B1{p:Prop}(h:p:=by omega):p:=h
theorem s6{p:Prop}(h:p:=by simp):p:=h
theorem B21(b:Str)(hb:b.length<=536870912):FnOk Tryz.prog 105 [E5 b] (fun I=>I=[Z7 (B6 b)]):=by
 refine FnOk.intro Tryz.func105 G6 Z Z Z Z (zz 6 ?_);refine B8 (w9 3 _ L2 Z) Z (zz 11 ?_);refine C5 (X:=Nat×Nat×List Str) (fun x=>([(0,H6 b),(3,.s (.one (.buf 3 Str 1 L2 x.2.2))),(4,B2 x.2.1),(5,B2 x.1)],[(3,.spare x.2.2.length 1 9)]))
  (fun x=>x.1<=b.length/\x.2.1<=x.1/\x.2.2.length<=x.1/\(x.1=b.length->x.2.1=x.1)/\x.2.2++G3 ((b.drop x.2.1).take (x.1-x.2.1)) (b.drop x.1)=B6 b) (fun x=>b.length-x.1) (0,0,[]) (by simp[B6]) ?_ ?_
 ·exact Sees.of ⟨⟨_,rfl,.same _⟩,⟨_,rfl,.same _⟩,⟨_,rfl,.same _⟩,⟨_,rfl,.same _⟩,trivial⟩ ⟨rfl,trivial⟩
 ·rintro⟨i,d,A⟩ ⟨E,w,F,B,q⟩;dsimp only at E w F B q ⊢;refine zc 8 (fun z=>?_) fun z=>?_
  ·have g:i<b.length:=by simpa using z
   have H:b[i]?=some b[i]:=by simp[g]
   refine zz 7 ?_;refine A7 (J9 Z Z B1 H) Z (zz 3 ?_);refine C3 Z Z Z Z (fun C=>by have G:=C;(try simp at G);rw[C];exact y8 Z Z B1) ?_;refine zc 5 (fun j=>?_) fun j=>?_
   ·refine zz 7 ?_;refine A7 (NT Z Z Z B1 B1 B1) Z (A7 (C6 (c:=L2) (ys:=[_]) (D1 Z Z Z Z F2) Z Z Z) Z (B8 (R1 Z Z Z (.pure _ _ _ _) YN Z) Z (zz 12 ?_)));refine⟨(i+1,i+1,_),⟨?_,?_,?_,?_,?_⟩,?_,Sees.of ⟨⟨_,rfl,.same _⟩,⟨_,rfl,.same _⟩,⟨_,rfl,.same _⟩,⟨_,rfl,.same _⟩,trivial⟩ ⟨rfl,trivial⟩⟩
    all_goals dsimp only
    ·omega
    ·omega
    ·simp;omega
    ·omega
    ·have v:b[i]=10\/i+1=b.length:=by
      simp only[u8_lf]at j;by_cases h:b[i]=10
      ·exact .inl h
      ·simp[h]at j;exact .inr B1
     rw[WI,C31,C86,List.take_zero,<-IC b d i w g,C42,<-q,C38 g,u9];rcases v with h | h
     ·rw[A5 h];rfl
     ·have D:b.drop (i+1)=[]:=C51 B1;rw[D];split
      ·rfl
      ·rw[show G3 ([]:Str) []=[] from rfl,MC _ s6];simp
    ·omega
   ·refine zz 6 ?_;refine⟨(i+1,d,A),⟨?_,?_,?_,?_,?_⟩,?_,Sees.of ⟨⟨_,rfl,.same _⟩,⟨_,rfl,.same _⟩,⟨_,rfl,.same _⟩,⟨_,rfl,.same _⟩,trivial⟩ ⟨rfl,trivial⟩⟩
    all_goals dsimp only
    ·omega
    ·omega
    ·omega
    ·intro h;simp[show (i:Int)+1=(b.length:Int) by omega]at j
    ·have v:b[i]≠10:=fun h=>by simp[h]at j
     rw[<-IC b d i w g,<-q,C38 g,u9,A6 v]
    ·omega
  ·refine zz 7 ?_;refine A8 (F7 Z Z Z) ?_;have y:i=b.length:=by simp at z;omega
   subst y;have:=B rfl;subst this;rw[C86,List.take_zero,C51 (Nat.le_refl _)]at q;rw[<-q];simp[G3]
theorem u64_in{n:Int}(h:0<=n/\n<18446744073709551616):IntKind.u64.wrap n=n:=by simp[IntKind.wrap,IntKind.signed,IntKind.bits];omega
def X2(a n:Int):Int:=IntKind.u64.wrap a % n
theorem a7(a:Int){n:Int}(h:1<=n):0<=X2 a n/\X2 a n<n:=⟨Int.emod_nonneg _ B1,Int.emod_lt_of_pos _ B1⟩
theorem mE(a n:Int)(f:1<=n)(g:n<=9223372036854775807):FnOk Tryz.prog 7 [D2 a,D2 n] (fun rs=>rs=[D2 (X2 a n)]):=by
 refine FnOk.intro Tryz.func7 G6 Z Z Z Z (zz 5 ?_);have b:IntKind.u64.wrap n=n:=u64_in B1;refine zz 5 ?_;refine A7 (YC Z Z (by (rw[b];omega))) Z ?_;refine zz 4 ?_;refine A8 (F7 Z Z Z) ?_;have c:=UG a;have e:(IntKind.u64.wrap a).tmod n=IntKind.u64.wrap a % n:=Int.tmod_eq_emod_of_nonneg c;have h:=a7 a f;unfold X2 at *;rw[b,e,NV ⟨by omega,by omega⟩]
def xor64(a b:Int):Int:=IntKind.u64.wrap ((BitVec.ofInt IntKind.u64.bits a ^^^ BitVec.ofInt IntKind.u64.bits b).toNat:Int)
def shr64(a n:Int):Int:=a.fdiv (2 ^ (min n.toNat IntKind.u64.bits))
def at0(k:Int):Int:=IntKind.u64.wrap (IntKind.u64.wrap (k+1)*11400714819323198485)
def at1(b:List Int)(k:Int):Int:=if 0<b.length then xor64 (at0 k) (IntKind.u64.wrap (b.getD (k.tmod b.length).toNat 0)) else at0 k
def at2(x:Int):Int:=IntKind.u64.wrap (xor64 x (shr64 x 31)*13787848793156543929)
def l9(a:List Int)(k:Int):Int:=IntKind.i64.wrap (shr64 (xor64 (at2 (at1 a k)) (shr64 (at2 (at1 a k)) 29)) 1)
theorem fT(b:List Int)(k:Int)(g:0<=k)(m:k<=1099511627776):FnOk Tryz.prog 14 [L0 b,D2 k] (fun rs=>rs=[D2 (l9 b k)]):=by
 refine FnOk.intro Tryz.func14 G6 Z Z Z Z ?_;refine YG (t:=0) rfl (.pure _ _ _ _) fun f=>?_;refine zz 9 ?_;refine A7 (JZ Z Z) Z (zz 2 ?_);refine bV [(0,C0 Int 1 E3 b),(1,B2 k),(5,I6 (.int .u64 (at1 b k)))] [] ?_ ?_
 ·refine zc 6 (fun d=>?_) fun d=>?_
  ·have c:0<b.length:=by have:=A0 d;omega
   have h:0<=k.tmod b.length:=Int.tmod_nonneg _ g;have j:k.tmod b.length<b.length:=Int.tmod_lt_of_pos _ B1;have l:b[(k.tmod b.length).toNat]?=some (b.getD (k.tmod b.length).toNat 0):=by
    rw[C33,C29 B1];rfl
   skip;refine zz 7 ?_;refine A7 (A9 Z (.pure _ _ _ _) Z B1 l) Z (zz 5 ?_);rw[at1,A5 c];exact Sees.of lf lo
  ·have c:¬0<b.length:=by have:=A1 d;omega
   refine zz 1 ?_;rw[at1,A6 c];exact Sees.of lf lo
 ·refine zz 6 ?_;refine A7 (JZ Z Z) Z (zz 13 ?_);exact A8 (F7 rfl rfl rfl) rfl
def lineTab:List Str:=[[97],[98],[99],[97,98],[98,97],[],[97,97],[98,32,97],[120,43,121],[92]]
def d6(k:Int):Str:=lineTab.getD (X2 k 10).toNat []
theorem OU:∀s∈lineTab,s.length<=3:=by decide
theorem jM(k:Int):(d6 k).length<=3:=by
 unfold d6;rw[C33];cases h:lineTab[(X2 k 10).toNat]? with
 | none=>simp
 | some s=>exact OU s (C53 h)
theorem OV(k:Int):FnOk Tryz.prog 104 [D2 k] (fun d=>d=[E5 (d6 k)]):=by
 refine FnOk.intro Tryz.func104 G6 Z Z Z Z (zz 5 ?_);have f:=a7 k (n:=10) G6;have b:lineTab[(X2 k 10).toNat]?=some (d6 k):=by
  unfold d6;rw[C33,C29 (show (X2 k 10).toNat<lineTab.length by simp[lineTab];omega)];rfl
 refine zz 1 ?_;refine A7 (C6 (c:=L2) (ys:=lineTab) (D1 Z Z Z Z (D1 Z Z Z Z (D1 Z Z Z Z (D1 Z Z Z Z (D1 Z Z Z Z (D1 Z Z Z Z (D1 Z Z Z Z (D1 Z Z Z Z (D1 Z Z Z Z (D1 Z Z Z Z F2)))))))))) Z Z Z) Z (zz 1 ?_);refine D3 (mE k 10 G6 G6) (A7 (A9 Z (.pure _ _ _ _) Z B1 b) Z (zz 4 ?_));exact A8 (F7 rfl rfl rfl) rfl
def S4(d:List Int)(b:Int)(c:Int)(m:Nat):Str:=((List.range m).map fun (i:Nat)=>d6 (X2 (l9 d (b+1+(i:Int))) c)++[10]).flatten
def fA(e:List Int)(b n c:Int):Str :=
 let s:=S4 e b c (X2 (l9 e b) (n+1)).toNat
 if ((l9 e (b+90)).tmod 4=0/\(1:Int)<s.length)/\((s.getD (s.length-2) 0).toNat:Int)≠10 then s.take (s.length-1) else s
theorem m3(c:List Int)(a b:Int)(m:Nat):S4 c a b (m+1)=S4 c a b m++d6 (X2 (l9 c (a+1+(m:Int))) b)++[10]:=by
 unfold S4;rw[C75,C50,C69];simp
theorem pH(c:List Int)(a b:Int)(m:Nat):(S4 c a b m).length<=4*m:=by
 induction m with
 | zero=>simp[S4]
 | succ m d=>have:=jM (X2 (l9 c (a+1+(m:Int))) b);rw[m3];simp only[C32,C34,C43];omega
theorem b1w{p:Prop}(h:p:=by (simp only[C32,C34,C43];omega)):p:=h
theorem blob_ok(e:List Int)(b n c:Int)(z:0<=b/\b<=1073741824)(A:0<=n/\n<=1048576)(B:1<=c/\c<=1048576) :
  FnOk Tryz.prog 46 [L0 e,D2 b,D2 n,D2 c] (fun rs=>rs=[E5 (fA e b n c)]):=by
 obtain⟨m,q⟩:∃m:Nat,X2 (l9 e b) (n+1)=m:=⟨(X2 (l9 e b) (n+1)).toNat,by have:=a7 (l9 e b) (n:=n+1) B1;omega⟩
 have w:=a7 (l9 e b) (n:=n+1) B1;have x:m<=1048576:=by omega
 refine FnOk.intro Tryz.func46 G6 Z Z Z Z (zz 8 ?_);refine D3 (fT e b B1 B1) (zz 2 ?_);refine FH (mE _ (n+1) B1 B1) Z Z Z (zz 3 ?_);rw[q];refine zz 9 ?_;refine C5 (X:=Nat) (fun i=>([(0,C0 Int 1 E3 e),(1,B2 b),(2,B2 m),(3,B2 c),(9,H6 (S4 e b c i)),(10,B2 i)],[])) (fun i=>i<=m) (fun i=>m-i) 0 (Nat.zero_le _) (Sees.of lf lo) ?_;intro i r;dsimp only at r ⊢;have k:=pH e b c i;refine zc 7 (fun f=>?_) fun f=>?_
 ·have v:i<m:=by have:=A0 f;omega
  have u:=jM (X2 (l9 e (b+1+(i:Int))) c);refine zz 10 ?_;refine FH (fT e _ B1 B1) Z Z Z (zz 1 ?_);refine FH (mE _ c B1 B1) Z Z Z (FH (OV _) Z Z Z (A7 (V1 Z Z B1) Z (A7 (V1 Z Z b1w) Z (zz 7 ?_))));refine⟨i+1,by omega,by omega,?_⟩;rw[m3];exact Sees.of lf lo
 ·have l:i=m:=by have:=A1 f;omega
  subst l;obtain⟨s,hs⟩:∃s,s=S4 e b c i:=⟨_,rfl⟩
  have y:(1:Int)<s.length->s[((s.length:Int)-2).toNat]?=some (s.getD (s.length-2) 0):=fun h=>by
   rw[show ((s.length:Int)-2).toNat=s.length-2 by omega,C33,C29 B1];rfl
  have g:fA e b n c=if ((l9 e (b+90)).tmod 4=0/\(1:Int)<s.length)/\((s.getD (s.length-2) 0).toNat:Int)≠10 then s.take (s.length-1) else s:=by
   simp only[fA,q,C31,<-hs]
  rw[<-hs]at k;refine zz 3 ?_;rw[<-hs];refine zz 4 ?_;refine FH (fT e _ B1 B1) Z Z Z (zz 11 ?_);refine C3 Z Z Z Z (fun j=>by have p:=j;(try simp at p);rw[j];exact lI Z Z B1) ?_;refine C3 Z Z Z Z (fun j=>by have p:=j;(try simp at p);rw[j];exact J9 Z Z B1 (y B1)) ?_;refine zc 3 (fun f=>?_) fun f=>?_
  ·simp only[and_pick]at f;have h:=A0 f;skip;refine zz 14 ?_;exact A8 (F7 rfl rfl rfl) (by rw[g,A5 h,show ((s.length:Int)-1).toNat=s.length-1 by omega])
  ·simp only[and_pick]at f;have h:=A1 f;refine zz 7 ?_;exact A8 (F7 rfl rfl rfl) (by rw[g,A6 h])
theorem UH(d:List Int)(b n c:Int)(f:0<=n):((fA d b n c).length:Int)<=4*n:=by
 have h:=a7 (l9 d b) (n:=n+1) B1;have i:=pH d b c (X2 (l9 d b) (n+1)).toNat
 unfold fA;simp only;split
 ·simp only[C41];omega
 ·omega
def Z0(b:List Int)(a:Int)(i:Nat)(s:Str):List Str->Str
 | []=>s
 | x::r=>if (l9 b (a+(i:Int))).tmod 6=0 then Z0 b a (i+1) s r
  else if (l9 b (a+(i:Int))).tmod 6=1 then Z0 b a (i+1) (s++d6 (l9 b (a+40+(i:Int)))++[10]++x) r
  else Z0 b a (i+1) (s++x) r
def m6(b:Str)(c:List Int)(a:Int):Str:=Z0 c a 0 [] (B6 b)
theorem jN(b:List Int)(a:Int):∀(l:List Str) (i:Nat) (s:Str),(Z0 b a i s l).length<=s.length+l.flatten.length+4*l.length
 | [],i,s=>by simp[Z0]
 | x::r,i,s=>by
  have c:=jN b a r (i+1) s;have d:=jN b a r (i+1) (s++d6 (l9 b (a+40+(i:Int)))++[10]++x);have f:=jN b a r (i+1) (s++x);have j:=jM (l9 b (a+40+(i:Int)));simp only[C32,C34,C43,C56]at *;unfold Z0;split
  ·omega
  ·split<;>omega
theorem vD(s b:Str):(G3 b s).flatten=b++s:=by
 induction s generalizing b with
 | nil=>unfold G3;split<;>simp[*]
 | cons c r d=>unfold G3;split<;>simp[d]
theorem V5(s:Str):(B6 s).flatten=s:=vD s []
theorem near_ok(c:Str)(d:List Int)(b:Int)(hb:c.length<=16777216)(F:0<=b/\b<=1073741824) :
  FnOk Tryz.prog 47 [E5 c,L0 d,D2 b] (fun rs=>rs=[E5 (m6 c d b)]):=by
 have z:=aW c;have y:=V5 c;have v:(B6 c).flatten.length=c.length:=by rw[y]
 refine FnOk.intro Tryz.func47 G6 Z Z Z Z (zz 7 ?_);refine D3 (B21 c B1) (zz 3 ?_);obtain⟨l,B⟩:∃l,l=B6 c:=⟨_,rfl⟩
 have A:m6 c d b=Z0 d b 0 [] l:=by rw[m6,B]
 rw[<-B]at z v ⊢;refine zz 9 ?_;refine C5 (X:=Nat×Str) (fun x=>([(1,C0 Int 1 E3 d),(2,B2 b),(7,C0 Str 1 L2 l),(8,H6 x.2),(9,B2 x.1)],[])) (fun x=>x.1<=l.length/\x.2.length<=(l.take x.1).flatten.length+4*x.1/\Z0 d b x.1 x.2 (l.drop x.1)=Z0 d b 0 [] l) (fun x=>l.length-x.1) (0,[]) s6 (Sees.of lf lo) ?_;rintro⟨i,s⟩ ⟨D,hs,j⟩;dsimp only at D hs j ⊢;have E:=lD l i;refine zc 8 (fun k=>?_) fun k=>?_
 ·have o:i<l.length:=by have:=A0 k;omega
  have C:l[i]?=some l[i]:=by simp[o]
  have q:=lD l (i+1);have m:=fX l i o;rw[m,C32]at q;rw[C38 o,Z0]at j;refine zz 10 ?_;refine FH (fT d _ B1 B1) Z Z Z ?_;refine zc 8 (fun k=>?_) fun k=>?_
  ·rw[A5 (A0 k)]at j;refine zz 6 ?_;exact⟨(i+1,s),⟨by dsimp only;omega,by dsimp only;rw[m,C32];omega,j⟩,by dsimp only;omega,Sees.of lf lo⟩
  ·rw[A6 (A1 k)]at j;refine zc 5 (fun k=>?_) fun k=>?_
   ·rw[A5 (A0 k)]at j;have G:=jM (l9 d (b+40+(i:Int)));skip;refine zz 7 ?_;refine FH (fT d _ B1 B1) Z Z Z (FH (OV _) Z Z Z (A7 (V1 Z Z B1) Z (A7 (V1 Z Z b1w) Z (zz 6 ?_))));refine A7 (A9 Z (.pure _ _ _ _) Z B1 C) Z (zz 1 ?_);refine A7 (V1 Z Z b1w) Z (zz 7 ?_);exact⟨(i+1,s++d6 (l9 d (b+40+(i:Int)))++[10]++l[i]),⟨by dsimp only;omega,by dsimp only;rw[m];simp only[C32,C34,C43];omega,j⟩,by dsimp only;omega,Sees.of lf lo⟩
   ·rw[A6 (A1 k)]at j;refine zz 5 ?_;refine A7 (A9 Z (.pure _ _ _ _) Z B1 C) Z (zz 1 ?_);refine A7 (V1 Z Z B1) Z (zz 7 ?_);exact⟨(i+1,s++l[i]),⟨by dsimp only;omega,by dsimp only;rw[m,C32,C32];omega,j⟩,by dsimp only;omega,Sees.of lf lo⟩
 ·have w:i=l.length:=by have:=A1 k;omega
  rw[w,C51 (Nat.le_refl _)]at j;refine zz 7 ?_;exact A8 (F7 rfl rfl rfl) (by rw[A,<-j];rfl)
theorem HD(s:Str):(ByteArray.mk s.toArray).size=s.length:=by simp[ByteArray.size]
theorem KT(s p:Str)(hs:s.length<=1099511627776):FnOk Tryz.prog 170 [E5 s,E5 p] (fun a=>a=[D5 (Lib.hasSuffix s p)]) :=
 B98 (xs:=[.string ⟨s.toArray⟩,.string ⟨p.toArray⟩]) ⟨_,rfl,rfl,rfl⟩ rfl fun w=>by simpa using Tryz.strings_HasSuffix ⟨s.toArray⟩ ⟨p.toArray⟩ w (by rw[HD];omega)
theorem gS(s p:Str)(hs:s.length<=1099511627776):FnOk Tryz.prog 106 [E5 s,E5 p] (fun rs=>rs=[E5 (Lib.trimSuffix s p)]) :=
 B98 (xs:=[.string ⟨s.toArray⟩,.string ⟨p.toArray⟩]) ⟨_,rfl,rfl,rfl⟩ rfl fun w=>by simpa using Tryz.strings_TrimSuffix ⟨s.toArray⟩ ⟨p.toArray⟩ w (by rw[HD];omega)
theorem KU(s:Str)(c:UInt8):FnOk Tryz.prog 183 [E5 s,E5 [c]] (fun a=>a=[D5 (decide (0<=Lib.indexByte s c))]) :=
 B98 (xs:=[.string ⟨s.toArray⟩,.string ⟨#[c]⟩]) ⟨_,rfl,rfl,rfl⟩ rfl fun w=>by simpa using Tryz.strings_Contains_one ⟨s.toArray⟩ c w
theorem nT(s:Str)(hs:s.length<=1099511627776):FnOk Tryz.prog 95 [E5 s] (fun a=>a=[D5 (ended s)]):=by
 refine FnOk.intro Tryz.func95 G6 Z Z Z Z (zz 7 ?_);refine D3 (KT s [10] hs) (zz 2 ?_);rw[tK];refine zz 1 ?_;exact A8 (F7 rfl rfl rfl) rfl
theorem B22(s:Str)(hs:s.length<=1099511627776):FnOk Tryz.prog 147 [E5 s] (fun a=>a=[E5 (jW s)]):=by
 refine FnOk.intro Tryz.func147 G6 Z Z Z Z (zz 7 ?_);refine D3 (gS s [10] hs) (zz 2 ?_);rw[pR];refine zz 1 ?_;exact A8 (F7 rfl rfl rfl) rfl
theorem OW(r:Row)(c:Int)(b:0<=r.Marks/\r.Marks<4294967296):FnOk Tryz.prog 167 [pRow r,D2 c] (fun e=>e=[D5 (y3 r c)]):=by
 refine FnOk.intro Tryz.func167 G6 Z Z Z Z (zz 2 ?_);refine B8 (P3 2 Z Z Z) Z ?_;refine zc 12 (fun a=>?_) fun a=>?_
 ·have h:=A0 (or_pick.symm.trans a);refine zz 5 ?_;exact A8 (F7 rfl rfl rfl) (by rw[y3,A6 B1,A5 B1])
 ·have h:=A1 (or_pick.symm.trans a);refine zc 7 (fun a=>?_) fun a=>?_
  ·have d:=A0 a;refine zz 8 ?_;exact A8 (F7 rfl rfl rfl) (by rw[y3,A5 B1])
  ·have d:=A1 a;refine zz 8 ?_;refine D7 (n_shr Z Z B1) Z Z (D7 (KA Z Z Z (fun _=>rfl)) Z Z (D7 (rW Z Z) Z Z (D7 (n_eql_b Z Z TyBool.out) Z Z (zz 3 ?_))));refine A8 (F7 Z Z Z) ?_;have f:0<=r.Marks / 2 ^ c.toNat:=Int.ediv_nonneg b.1 (Int.pow_nonneg G6);have g:r.Marks / 2 ^ c.toNat<=r.Marks:=Int.ediv_le_self _ b.1;rw[y3,A6 B1,A6 B1,ZE r.Marks c B1,QN _ B1,Bool.beq_comm];rfl
theorem BF(r:Row)(n:Int)(w:1<=n/\n<=32)(m:0<=r.Marks/\r.Marks<4294967296):FnOk Tryz.prog 161 [pRow r,D2 n] (fun s=>s=[D5 (U6 n.toNat r)]):=by
 refine FnOk.intro Tryz.func161 G6 Z Z Z Z (zz 2 ?_);refine B8 (P3 2 Z Z Z) Z (zz 16 ?_);refine P7 Z Z Z (.gd (.val _)) Z (fun e=>by obtain⟨b,c⟩:=W8 e;(try rw[b]);(try rw[c]);exact B5 Z) ?_;refine P7 Z Z Z (.gd (.val _)) Z (fun e=>by obtain⟨b,c⟩:=W8 e;(try rw[b]);(try rw[c]);exact C2 Z Z Z) ?_;refine P7 Z Z Z (.gd (.val _)) Z (fun e=>by obtain⟨b,c⟩:=W8 e;(try rw[b]);(try rw[c]);exact iE Z Z) ?_;refine zz 5 ?_;refine A8 (F7 Z Z Z) ?_;have u:0<=r.Marks / 2 ^ n.toNat:=Int.ediv_nonneg m.1 (Int.pow_nonneg G6);have h:r.Marks.fdiv (2 ^ (min (1:Int).toNat IntKind.u32.bits))=r.Marks / 2:=by
  rw[ZE r.Marks 1 B1];rfl
 have j:(r.Marks / 2).fdiv (2 ^ (min (n-1).toNat IntKind.u32.bits))=r.Marks / 2 ^ n.toNat:=by
  rw[ZE (r.Marks / 2) (n-1) B1,Int.ediv_ediv_of_nonneg G6];have:n.toNat=(n-1).toNat+1:=by omega
  rw[this,Int.pow_succ,Int.mul_comm]
 have k:(if decide ((r.Marks.fdiv (2 ^ (min (1:Int).toNat IntKind.u32.bits))).fdiv (2 ^ (min (n-1).toNat IntKind.u32.bits))=0)=true then (if (!r.Lost)=true then true else decide (r.Marks≠0)) else false)=U6 n.toNat r:=by
  rw[h,j,U6];cases r.Lost<;>by_cases q:r.Marks / 2 ^ n.toNat=0<;>by_cases p:r.Marks=0<;>simp[q,p]
 rw[<-k]
theorem jO(r:Row)(hs:r.Text.length<=1099511627776):FnOk Tryz.prog 163 [pRow r] (fun c=>c=[D5 (K0 r.Text)]):=by
 refine FnOk.intro Tryz.func163 G6 Z Z Z Z (zz 2 ?_);refine B8 (P3 1 Z Z Z) Z (zz 6 ?_);refine A7 (jB Z Z) Z (zz 3 ?_);refine C3 Z Z Z Z (fun a=>by have b:=a;(try simp at b);rw[a];exact I4 (B22 r.Text hs) Z Z) ?_;refine C3 Z Z Z Z (fun a=>by have b:=a;(try simp at b);rw[a];exact I4 (KU (jW r.Text) 10) Z Z) ?_;refine zz 5 ?_;refine A8 (F7 Z Z Z) ?_;rw[<-A60]
theorem YO(r:Row)(j:Bool)(k:Int)(hs:r.Text.length<=1099511627776) :
  FnIo Tryz.prog 164 [pRow r] [.v (.bool j),.v (.int .u32 k)] (fun D A=>D=[D5 (addOk j k r)]/\A=[.v (.bool (mP j r)),.v (.int .u32 (mQ k r))]):=by
 refine FnIo.intro Tryz.func164 G6 Z Z Z Z (zz 2 ?_);refine B8 (P3 3 Z Z Z) Z (zz 8 ?_);refine bV [(3,.s (.one (.ref 3 0))),(0,.s (.one (.ref self 0))),(5,I6 (.int .u32 (FX r)))] [(3,.box (pRow r).s1.cells),(self,.box [.p (.v (.bool j)),.p (.v (.int .u32 k))])] ?_ ?_
 ·refine zc 6 (fun y=>?_) fun y=>?_
  ·have h:r.Lost=false:=by simpa using y
   skip;refine zz 2 ?_;refine A7 (n_compl Z Z (fun _=>rfl)) Z (zz 2 ?_);rw[FX,A6 (by rw[h];simp)];exact Sees.of lf lo
  ·have h:r.Lost=true:=by simpa using y
   refine zz 1 ?_;rw[FX,A5 h];exact Sees.of lf lo
 refine zz 14 ?_;refine P7 Z Z Z (.gd (.val _)) Z (fun w=>by obtain⟨m,q⟩:=W8 w;(try rw[m]);(try rw[q]);exact E8 Z) ?_;refine P7 Z Z Z (.gd (.val _)) Z (fun w=>by obtain⟨m,q⟩:=W8 w;(try rw[m]);(try rw[q]);exact B5 Z) ?_;refine P7 Z Z Z (.gd (.val _)) Z (fun w=>by obtain⟨m,q⟩:=W8 w;(try rw[m]);(try rw[q]);exact C2 Z Z Z) ?_;refine P7 Z Z Z (.gd (.val _)) Z (fun w=>by obtain⟨m,q⟩:=W8 w;(try rw[m]);(try rw[q]);exact S7 Z) ?_;refine zz 9 ?_;refine D3 (nT r.Text hs) (zz 2 ?_);have z:(if decide (QP k (FX r)=0)=true then (if r.Lost=true then true else !j) else false)=addOk j k r:=by
  rw[addOk];cases r.Lost<;>cases j<;>by_cases h:QP k (FX r)=0<;>simp[h]
 refine zc 0 (fun y=>?_) fun y=>?_
 ·have h:ended r.Text=false:=by simpa using y
  refine zz 33 ?_;refine io_ret (F7 rfl rfl rfl) rfl rfl ⟨by rw[<-z];rfl,?_⟩;have B:mP j r=(j||!r.Lost):=by rw[mP,h];rfl
  have C:mQ k r=L1 k (FX r):=by rw[mQ,h];rfl
  rw[B,C];cases j<;>rfl
 ·have h:ended r.Text=true:=by simpa using y
  refine zz 7 ?_;exact io_ret (F7 rfl rfl rfl) rfl rfl ⟨by rw[<-z];rfl,by rw[mP,mQ,A5 h,A5 h]⟩
theorem HF(t:Table)(E:K1 t.Rows)(G:t.Rows.length<=536870911)(H:U7 t.Rows<=536870912):FnOk Tryz.prog 206 [pTable t] (fun rs=>rs=[D2 (J2 t)]):=by
 refine FnOk.intro Tryz.func206 G6 Z Z Z Z (k2 (B7 (B8 (P3 1 Z Z Z) Z (A7 (C1 Z Z) Z (E4 ?_)))));refine k1 (k2 (k2 (B7 (A7 (B5 Z) Z (A7 (C2 Z Z Z) Z (A7 (iD Z Z) Z (A7 (B3 Z Z) Z (C3 Z Z Z Z (fun j=>by rw[j];exact B5 Z) ?_))))))));refine C3 Z Z Z Z (fun j=>by rw[j];exact C2 Z Z Z) ?_;refine C3 Z Z Z Z (fun j=>by rw[j];exact wS Z Z) ?_;refine A7 (H9 Z (fun h=>by first | rfl | (rw[h];rfl)) (fun h=>by first | rfl | (rw[h];rfl))) Z ?_;refine E4 ?_;refine k1 ?_;refine zc 0 (fun a=>?_) fun a=>?_
 ·have h:=A0 (or_pick.symm.trans a);refine k2 (B7 (A7 (C1 Z Z) Z (E4 ?_)));refine k1 (yR (cO ?_));exact A8 (F7 rfl rfl rfl) (by rw[J2,A5 h])
 ·have h:=A1 (or_pick.symm.trans a);refine K4 [(1,.s (.one (.ref 1 0)))] [(1,.box [.p (.v (.int .i64 t.Parents)),.p (.list Row 3 rowC t.Rows)])] (Sees.of lf lo) (k5 (k1 (k2 (k2 (B7 (A7 (B5 Z) Z (A7 (C2 Z Z Z) Z (A7 (y9 Z (.pure _ _ _ _)) Z (A7 (B3 Z Z) Z (E4 ?_))))))))));refine k1 (k3 (C5 (X:=Nat) (fun i=>([(1,.s (.one (.ref 1 0))),(17,C0 Row 3 rowC t.Rows),(18,B2 t.Rows.length),(19,B2 i)],[(1,.box [.p (.v (.int .i64 t.Parents)),.p (.list Row 3 rowC t.Rows)])])) (fun i=>i<=t.Rows.length/\R0 t.Rows t.Parents.toNat=R0 (t.Rows.drop i) t.Parents.toNat) (fun i=>t.Rows.length-i) 0 ⟨Nat.zero_le _,rfl⟩ (Sees.of lf lo) ?_));rintro i ⟨A,c⟩;dsimp only at A c ⊢;refine k2 (B7 (A7 (iD Z Z) Z (E4 ?_)));refine k1 (k2 ?_);refine zc 0 (fun a=>?_) fun a=>?_
  ·have d:i<t.Rows.length:=by have:=A0 a;omega
   have D:t.Rows[i]?=some t.Rows[i]:=by simp[d]
   rw[C38 d,jU]at c;refine k5 (k1 (k2 (k3 (k2 (B7 (A7 (A9 Z (.pure _ _ _ _) Z B1 D) Z (A7 (aH Z Z) Z (B8 (E6 4 Z) Z (O2 (H0 TySz.out Z Z Z Z Z Z) (E4 ?_))))))))));refine k1 (k2 (B7 (A7 (I0 Z Z Z) Z (A7 (B5 Z) Z (A7 (C2 Z Z Z) Z (FH (BF t.Rows[i] t.Parents B1 (E _ (C35 d))) Z Z Z (A7 (S7 Z) Z (E4 ?_))))))));refine k1 ?_;refine zc 0 (fun a=>?_) fun a=>?_
   ·have m:U6 t.Parents.toNat t.Rows[i]=false:=by simpa using a
    rw[m,Bool.false_and]at c;refine k2 (B7 (A7 (C1 Z Z) Z (E4 ?_)));refine k1 (yR (sK (cO (cO (sK (cO ?_))))));exact A8 (F7 rfl rfl rfl) (by rw[J2,A6 h,A5 c])
   ·have m:U6 t.Parents.toNat t.Rows[i]=true:=by simpa using a
    rw[m,Bool.true_and]at c;refine k5 (k4 (k1 (B7 (A7 (y8 Z Z B1) Z (A7 (B3 Z Z) Z (E4 ?_))))));refine k1 ?_;exact⟨i+1,⟨by omega,c⟩,by omega,Sees.of lf lo⟩
  ·have k:i=t.Rows.length:=by have:=A1 a;omega
   rw[k,C51 (Nat.le_refl _)]at c;have B:R0 t.Rows t.Parents.toNat=true:=c;refine K4 [(1,.s (.one (.ref 1 0)))] [(1,.box [.p (.v (.int .i64 t.Parents)),.p (.list Row 3 rowC t.Rows)])] (Sees.of lf lo) ?_;clear k a c A;have w:=CJ t.Rows t.Parents.toNat B1 B E;refine k6 (k2 (B7 (B8 (E6 5 Z) Z (E4 ?_))));refine k1 (k2 (k2 (B7 (A7 (B5 Z) Z (A7 (C2 Z Z Z) Z (A7 (y9 Z (.pure _ _ _ _)) Z (A7 (B3 Z Z) Z (E4 ?_))))))));refine k1 (k3 (C5 (X:=Nat×Bool×Int) (fun x=>([(1,.s (.one (.ref 1 0))),(5,.s (.one (.ref 5 0))),(30,C0 Row 3 rowC t.Rows),(31,B2 t.Rows.length),(32,B2 x.1)],[(1,.box [.p (.v (.int .i64 t.Parents)),.p (.list Row 3 rowC t.Rows)]),(5,.box [.p (.v (.bool x.2.1)),.p (.v (.int .u32 x.2.2))])])) (fun x=>x.1<=t.Rows.length/\T7 false 0 t.Rows=T7 x.2.1 x.2.2 (t.Rows.drop x.1)) (fun x=>t.Rows.length-x.1) (0,false,0) ⟨Nat.zero_le _,rfl⟩ (Sees.of lf lo) ?_));rintro⟨i,z,y⟩ ⟨A,c⟩;dsimp only at A c ⊢;refine k2 (B7 (A7 (iD Z Z) Z (E4 ?_)));refine k1 (k2 ?_);refine zc 0 (fun a=>?_) fun a=>?_
   ·have d:i<t.Rows.length:=by have:=A0 a;omega
    have D:t.Rows[i]?=some t.Rows[i]:=by simp[d]
    have F:=QM t.Rows _ (C35 d);rw[C38 d,T7]at c;refine k5 (k1 (k2 (k3 (k2 (B7 (A7 (A9 Z (.pure _ _ _ _) Z B1 D) Z (A7 (aH Z Z) Z (B8 (E6 7 Z) Z (O2 (H0 TySz.out Z Z Z Z Z Z) (E4 ?_))))))))));refine k1 (k2 ?_);by_cases hs:K0 t.Rows[i].Text=true
    ·refine B7 (A7 (I0 Z Z Z) Z (D3 (jO t.Rows[i] B1) (A7 (S7 Z) Z (A7 (B3 Z Z) Z (j4 Z Z Z (by rw[hs];rfl) ?_)))));refine A7 (I0 Z Z Z) Z (j4 Z Z Z (by rw[hs];rfl) ?_);refine NY (YO t.Rows[i] z y B1) Z Z Z Z Z Z ?_;rintro _ _ ⟨rfl,rfl⟩;refine C3 Z Z Z Z (fun j=>by rw[j];exact S7 Z) ?_;refine A7 (H9 Z (fun h=>by first | rfl | (rw[h];rfl)) (fun h=>by first | rfl | (rw[h];rfl))) Z ?_;refine E4 ?_;refine k1 ?_;refine zc 0 (fun a=>?_) fun a=>?_
     ·have m:addOk z y t.Rows[i]=false:=by rw[hs]at a;simpa using a
      rw[hs,m,Bool.true_and,Bool.false_and]at c;refine k2 (B7 (A7 (C1 Z Z) Z (E4 ?_)));refine k1 (yR (sK (cO (cO (sK (cO ?_))))));exact A8 (F7 rfl rfl rfl) (by rw[J2,A6 h,A6 (by simp[B]),A5 (by rw[<-w];exact c)])
     ·have m:addOk z y t.Rows[i]=true:=by rw[hs]at a;simpa using a
      rw[hs,m,Bool.true_and,Bool.true_and]at c;refine k5 (k4 (k1 (B7 (A7 (y8 Z Z B1) Z (A7 (B3 Z Z) Z (E4 ?_))))));refine k1 ?_;exact⟨(i+1,_,_),⟨by dsimp only;omega,c⟩,by dsimp only;omega,Sees.of lf lo⟩
    ·have g:K0 t.Rows[i].Text=false:=by simpa using hs
     refine B7 (A7 (I0 Z Z Z) Z (D3 (jO t.Rows[i] B1) (A7 (S7 Z) Z (A7 (B3 Z Z) Z (C3 Z Z Z Z (fun j=>by rw[j];exact I0 Z Z Z) ?_)))));refine c9 Z Z Z (by rw[g];decide) Z ?_;refine c9 Z Z Z (by rw[g];decide) Z ?_;refine A7 (H9 (q:=true) Z (fun h=>rfl) (fun h=>by rw[g]at h;cases h)) Z ?_;refine E4 ?_;rw[g,Bool.false_and,Bool.false_and]at c;refine k1 ?_;refine zc 0 (fun a=>?_) fun a=>?_
     ·refine k2 (B7 (A7 (C1 Z Z) Z (E4 ?_)));refine k1 (yR (sK (cO (cO (sK (cO ?_))))));exact A8 (F7 rfl rfl rfl) (by rw[J2,A6 h,A6 (by simp[B]),A5 (by rw[<-w];exact c)])
     ·rw[g]at a;cases a
   ·have k:i=t.Rows.length:=by have:=A1 a;omega
    rw[k,C51 (Nat.le_refl _)]at c;have C:T7 false 0 t.Rows=true:=c;refine k6 (k2 (B7 (A7 (C1 Z Z) Z (E4 ?_))));refine k1 (yR ?_);exact A8 (F7 rfl rfl rfl) (by rw[J2,A6 h,A6 (by simp[B]),A6 (by rw[<-w,C];simp)])
def isBld(ob:Obs)(c:Str):Prop:=(∃a,(a=.p (.v (.pointer none))\/a=.ref 700 0)/\B4 ob 700=some (.tbx 80 [a,.buf 701 UInt8 1 rX c]))/\B4 ob 701=some (.spare c.length 1 5)
abbrev bldObs(ob:Obs)(ys c:Str):Obs:=(700,.tbx 80 [.ref 700 0,.buf 701 UInt8 1 rX c])::(701,.spare c.length 1 5)::Obs.forget 701 ((700,.tbx 80 [.ref 700 0,.buf 701 UInt8 1 rX ys])::ob)
def YP:Go.Shelf.Ren:=⟨fun | 240=>91 | 276=>166 | n=>n,fun | 72=>80 | 70=>77 | 164=>287 | 37=>78 | n=>n,fun n=>n⟩
theorem F6{p:Prop}(h:p:=by kernel_rfl):p:=h
theorem ccLays:Go.Proofs.Lays.n240 Tryz.prog YP:={
 mixed:=by kernel_rfl
 f240:=Tryz.func91.trans (congrArg some F6)
 f276:=Tryz.func166.trans (congrArg some F6)
 t0:=Tryz.underlying0
 a0:=Tryz.isAgg0
 z0:=Tryz.sizeOf0
 v0:=Tryz.zeroValue0
 t4:=Tryz.underlying4
 a4:=Tryz.isAgg4
 z4:=Tryz.sizeOf4
 v4:=Tryz.zeroValue4
 t9:=Tryz.underlying9
 a9:=Tryz.isAgg9
 z9:=Tryz.sizeOf9
 v9:=Tryz.zeroValue9
 t20:=Tryz.underlying20
 a20:=Tryz.isAgg20
 z20:=Tryz.sizeOf20
 v20:=Tryz.zeroValue20
 t70:=Tryz.underlying77
 a70:=Tryz.isAgg77
 z70:=Tryz.sizeOf77
 v70:=Tryz.zeroValue77
 t72:=Tryz.underlying80
 a72:=Tryz.isAgg80
 z72:=Tryz.sizeOf80
 v72:=Tryz.zeroValue80
 t164:=Tryz.underlying287
 a164:=Tryz.isAgg287
 z164:=Tryz.sizeOf287
 v164:=Tryz.zeroValue287 }
theorem ccX:Builder.X72 Tryz.prog YP:={
 sizeBuilder:=by kernel_rfl
 liesBuilder:=by kernel_rfl }
theorem pI{gf:Fr}{ob:Obs}{a t:TC}(j:B4 ob 700=some (.tbx 80 [a,t]))(ha:a=.p (.v (.pointer none))\/a=.ref 700 0) :
  AL.Met Tryz.prog 91 [.one (.ref 700 0)] gf ob [] (fun k ob'=>k=[]/\ob'=(700,.tbx 80 [.ref 700 0,t])::ob) :=
 AL.Met.copyCheck ⟨_,rfl,rfl,rfl⟩ (fun b w c d g=>Any.Builder_copyCheck_fresh (ρ:=YP) ccLays ccX b w c d g) (fun b w h=>Any.Builder_copyCheck_used (ρ:=YP) ccLays ccX b w h) j ha
theorem cQ{p:Prop}(h:p:=by repeat (first | exact bX | refine tail_cons rfl ?_ | refine fP _ ?_)):p:=h
theorem P4{gf:Fr}{ob:Obs}{xs s:Str}(hb:isBld ob xs)(d:xs.length+s.length<=1073741824) :
  AL.Met Tryz.prog 35 [.one (.ref 700 0),.one (.p (.v (.string ⟨s.toArray⟩)))] gf ob [701] (fun rs ob'=>rs=[.one (.p (.v (.int .i64 s.length))),.one (.p (.v .nilIface))]/\ob'=bldObs ob xs (xs++s)):=by
 obtain⟨⟨a,ha,j⟩,b⟩:=hb;refine AL.Met.intro Tryz.func35 G6 Z Z Z (zz 8 ?_);refine S9 (pI j ha) Z Z Z ?_;rintro _ _ ⟨rfl,rfl⟩;refine zz 7 ?_;refine A7 (lP Z Z Z) Z (zz 1 ?_);refine B8 (qF TyStr.out Z b Z (by first | omega | (simp;omega)) Z) Z (zz 2 ?_);refine O2 (sH TySz.out Z Z Z Z Z Z) (zz 9 ?_);exact F1 (dW rfl rfl rfl) cQ (fun _ _ h=>h) ⟨rfl,rfl⟩
theorem TQ{p:Prop}(h:p:=by (simp;omega)):p:=h
theorem pJ{gf:Fr}{ob:Obs}{xs:Str}{c:UInt8}(hb:isBld ob xs)(d:xs.length+1<=1073741824) :
  AL.Met Tryz.prog 119 [.one (.ref 700 0),.one (.p (.v (.int .u8 c.toNat)))] gf ob [701] (fun j ob'=>j=[.one (.p (.v .nilIface))]/\ob'=bldObs ob xs (xs++[c])):=by
 obtain⟨⟨a,ha,g⟩,b⟩:=hb;refine AL.Met.intro Tryz.func119 G6 Z Z Z (zz 7 ?_);refine S9 (pI g ha) Z Z Z ?_;rintro _ _ ⟨rfl,rfl⟩;refine zz 7 ?_;refine A7 (lP Z Z Z) Z (zz 1 ?_);refine A7 (C6 (c:=rX) (ys:=[c]) (D1 Z Z Z Z F2) Z Z Z) Z (B8 (R1 Z b Z (.pure _ _ _ _) TQ Z) Z (zz 2 ?_));refine O2 (sH TySz.out Z Z Z Z Z Z) (zz 6 ?_);exact F1 (O3 rfl rfl) cQ (fun _ _ h=>h) ⟨rfl,rfl⟩
theorem vE(c:UInt8):FnOk Tryz.prog 118 [pByte c] (fun a=>a=[D5 (K8 c)]):=by
 refine FnOk.intro Tryz.func118 G6 Z Z Z Z (zz 23 ?_);refine A8 (F7 Z Z Z) ?_;simp only[and_pick]
 congr 4
 unfold K8
 congr 1
 simp;omega
open Go.RowKit
theorem u8dig(q:Nat)(h:q<8):IntKind.u8.wrap (48+(q:Int))=((UInt8.ofNat (48+q)).toNat:Int):=by
 rw[IntWalk.u8_in _ B1];have:(UInt8.ofNat (48+q)).toNat=48+q:=by rw[UInt8.toNat_ofNat'];omega
 rw[this];simp
theorem YQ(x:Nat)(h:x<256):IntKind.u8.wrap ((BitVec.ofInt IntKind.u8.bits (x:Int) &&& BitVec.ofInt IntKind.u8.bits 7).toNat:Int)=((x % 8:Nat):Int):=by
 have d:(BitVec.ofInt IntKind.u8.bits (x:Int) &&& BitVec.ofInt IntKind.u8.bits 7).toNat=x % 8:=by
  rw[BitVec.toNat_and,BitVec.toNat_ofInt,BitVec.toNat_ofInt];have b:((x:Int) % ((2 ^ IntKind.u8.bits:Nat):Int)).toNat=x:=by
   rw[show ((2 ^ IntKind.u8.bits:Nat):Int)=256 by rfl];omega
  have c:((7:Int) % ((2 ^ IntKind.u8.bits:Nat):Int)).toNat=2 ^ 3-1:=by rfl
  rw[b,c,Nat.and_two_pow_sub_one_eq_mod]
 rw[d,IntWalk.u8_in _ B1]
theorem shr_u8(x:Nat)(c:Nat)(h:c<=8):(x:Int).fdiv (2 ^ min (Int.toNat (c:Int)) IntKind.u8.bits)=((x / 2 ^ c:Nat):Int):=by
 rw[shr_eq _ _ IntKind.u8.bits ⟨by omega,by show (c:Int)<=8;omega⟩];simp
theorem UI(c:UInt8):FnOk Tryz.prog 120 [pByte c] (fun s=>s=[E5 (X6 c)]):=by
 have t:=c.toNat_lt;refine FnOk.intro Tryz.func120 G6 Z Z Z Z ?_;refine zc 16 (fun a=>?_) fun a=>?_
 ·have h:=A0 (or_pick.symm.trans a);refine zz 3 ?_;refine A7 (oX Z B1) Z (A7 (V1 Z Z s6) Z (zz 3 ?_));exact A8 (F7 rfl rfl rfl) (by rw[X6,A5 B1];rfl)
 ·have h:=A1 (or_pick.symm.trans a);refine zc 6 (fun a=>?_) fun a=>?_
  ·have n:=A0 a;refine zz 5 ?_;exact A8 (F7 rfl rfl rfl) (by rw[X6,A6 B1,A5 B1])
  ·have n:=A1 a;refine zc 6 (fun a=>?_) fun a=>?_
   ·have o:=A0 a;refine zz 5 ?_;exact A8 (F7 rfl rfl rfl) (by rw[X6,A6 B1,A6 B1,A5 B1])
   ·have o:=A1 a;refine zc 10 (fun a=>?_) fun a=>?_
    ·have q:=A0 (or_pick.symm.trans a);refine k2 ?_;have m:(c.toNat:Int).fdiv (2 ^ min (Int.toNat 6) IntKind.u8.bits)=((c.toNat / 64:Nat):Int):=shr_u8 c.toNat 6 B1;have l:(c.toNat:Int).fdiv (2 ^ min (Int.toNat 3) IntKind.u8.bits)=((c.toNat / 8:Nat):Int):=shr_u8 c.toNat 3 B1;have g:=u8dig (c.toNat / 64) B1;have j:=u8dig (c.toNat / 8 % 8) B1;have k:=u8dig (c.toNat % 8) B1;have b:=gA c;refine zz 3 ?_;refine A7 (rU Z Z) Z (zz 3 ?_);refine A7 (rU Z Z) Z (zz 2 ?_);refine A7 (rU Z Z) Z ?_;           rw[m,l,YQ (c.toNat / 8) B1,YQ c.toNat B1,g,j,k];refine A7 (C6 (c:=rX) (ys:=[UInt8.ofNat (48+c.toNat / 64),UInt8.ofNat (48+c.toNat / 8 % 8),UInt8.ofNat (48+c.toNat % 8)]) (D1 Z Z Z Z (D1 Z Z Z Z (D1 Z Z Z Z F2))) Z Z Z) Z (A7 (aJ TyStr.out Z (.pure _ _ _ _)) Z (A7 (V1 Z Z s6) Z (zz 2 ?_)));refine zz 1 ?_;exact A8 (F7 rfl rfl rfl) (by rw[X6,A6 B1,A6 B1,A6 B1,A5 B1,b];rfl)
    ·have q:=A1 (or_pick.symm.trans a);refine zz 4 ?_;refine A7 (oX Z B1) Z (zz 3 ?_);exact A8 (F7 rfl rfl rfl) (by rw[X6,A6 B1,A6 B1,A6 B1,A6 B1])
theorem itoa_ok(n:Int)(h:0<=n/\n<=2147483647):FnOk Tryz.prog 117 [D2 n] (fun f=>f=[E5 (Lib.itoa n)]) :=
 C03 (xs:=[.int .i64 n]) (r:=.string ⟨(Lib.itoa n).toArray⟩) ⟨_,rfl,rfl,rfl⟩ rfl fun w d =>
  (Tryz.strconv_Itoa n B1 B1 w (d.pow10 rfl)).mono fun e w' ⟨c,k,os,b⟩=>⟨c,by subst b;exact Lib.below_grow _ _ (Nat.le_refl _) _ _⟩
theorem Z1(n:Int):FnOk Tryz.prog 59 [D2 n] (fun rs=>rs=[E5 (J4 n)]):=by
 refine FnOk.intro Tryz.func59 G6 Z Z Z Z ?_;refine zc 14 (fun a=>?_) fun a=>?_
 ·have h:=A0 (or_pick.symm.trans a);refine zz 5 ?_;exact A8 (F7 rfl rfl rfl) (by rw[J4,A5 B1])
 ·have h:=A1 (or_pick.symm.trans a);refine zz 4 ?_;refine D3 (itoa_ok n B1) (zz 3 ?_);exact A8 (F7 rfl rfl rfl) (by rw[J4,A6 B1])
theorem vF(a n:Int)(ha:-4611686018427387904<=a/\a<=4611686018427387904)(f:-4611686018427387904<=n/\n<=4611686018427387904):FnOk Tryz.prog 94 [D2 a,D2 n] (fun rs=>rs=[E5 (J3 a n)]):=by
 refine FnOk.intro Tryz.func94 G6 Z Z Z Z (zz 20 ?_);refine C3 Z Z Z Z (fun e=>by rw[e];exact lI Z Z (by (first | omega | (simp at hq;omega)))) ?_;refine zz 3 ?_;have g:=X7 a;have i:=X7 (a+1);have j:=X7 n;refine zc 0 (fun b=>?_) fun b=>?_
 ·have h:=A0 ((by simp only[or_pick]at b;exact b):decide _=true);refine zz 5 ?_;exact A8 (F7 rfl rfl rfl) (by rw[J3,A5 B1])
 ·have h:=A1 ((by simp only[or_pick]at b;exact b):decide _=false);refine zc 12 (fun b=>?_) fun b=>?_
  ·have c:=A0 b;refine zz 3 ?_;refine D3 (Z1 a) (A7 (V1 Z Z YN) Z (zz 3 ?_));exact A8 (F7 rfl rfl rfl) (by rw[J3,A6 B1,A5 c])
  ·have c:=A1 b;refine zc 5 (fun b=>?_) fun b=>?_
   ·have d:=A0 b;refine zz 4 ?_;refine D3 (Z1 (a+1)) (zz 3 ?_);exact A8 (F7 rfl rfl rfl) (by rw[J3,A6 B1,A6 c,A5 d])
   ·have d:=A1 b;refine zz 5 ?_;refine D3 (Z1 (a+1)) (A7 (V1 Z Z YN) Z (zz 1 ?_));refine D3 (Z1 n) (A7 (V1 Z Z YN) Z (zz 3 ?_));exact A8 (F7 rfl rfl rfl) (by rw[J3,A6 B1,A6 c,A6 d])
theorem cR(B b:Nat)(l:List UInt8)(w:World)(h:Lib.IsBuilder 80 5 B b (Lib.byteCells l) w)(a:B<=w.heap.size) :
  Calls Tryz.prog 39 #[.pointer (some ⟨b,0,none⟩)] w fun e w'=>e=.returned (.string ⟨l.toArray⟩)/\Below B w w':=Tryz.Builder_String_any B b l w h a
theorem b6x{p:Prop}(h:p:=by simp only[C34];omega):p:=h
theorem iM(s:Str)(hs:s.length<=16777216):FnOk Tryz.prog 60 [E5 s] (fun rs=>rs=[E5 (I5 s)]):=by
 refine FnOk.intro Tryz.func60 G6 Z Z Z Z (zz 7 ?_);refine A7 (jB Z Z) Z (zz 10 ?_);refine C5 (X:=Nat) (fun i=>([(0,H6 s),(3,I6 (.bool (plains s i))),(10,B2 s.length),(11,B2 i)],[])) (fun i=>i<=s.length) (fun i=>s.length-i) 0 (Nat.zero_le _) ?_ ?_
 ·rw[QS];exact Sees.of lf lo
 intro i y;dsimp only at y ⊢;refine zc 5 (fun j=>?_) fun j=>?_
 ·have d:i<s.length:=by have:=A0 j;omega
  have w:s[i]?=some s[i]:=by simp[d]
  obtain⟨c,A⟩:∃c,c=s[i]:=⟨_,rfl⟩
  have z:=QT s i d;rw[<-A]at w z;refine zz 13 ?_;refine C3 Z Z Z Z (fun q=>by have v:=q;(try simp at v);rw[q];exact J9 Z Z B1 w) ?_;refine C3 Z Z Z Z (fun q=>by have v:=q;(try simp at v);rw[q];exact I4 (vE c) Z Z) ?_;refine zz 7 ?_;refine⟨i+1,d,by omega,?_⟩;rw[show (if plains s i=true then K8 c else false)=plains s (i+1) from by rw[z];cases plains s i<;>rfl];exact Sees.of lf lo
 have m:i=s.length:=by have:=A1 j;omega
 subst m;refine zc 6 (fun j=>?_) fun j=>?_
 ·have h:plains s s.length=true:=j;refine zz 6 ?_;exact A8 (F7 rfl rfl rfl) (by rw[CL,A5 h])
 have h:plains s s.length=false:=j;have v:I5 s=(34::escs s s.length)++[34]:=by rw[CL,h];rfl
 refine zz 3 ?_;refine B8 (sI 700 Z) Z (zz 2 ?_);refine E2 (C02 701 UInt8 1 rX 5 (kb:=700) (o:=1) Z Z Z) (zz 1 ?_);refine S9 (pJ (xs:=[]) (c:=34) ⟨⟨_,.inl rfl,rfl⟩,rfl⟩ s6) Z Z Z ?_;rintro _ _ ⟨rfl,rfl⟩;refine zz 9 ?_;refine C5 (X:=Nat) (fun i=>([(0,H6 s),(5,.s (.one (.ref 700 0))),(26,B2 s.length),(27,B2 i)],[(700,.tbx 80 [.ref 700 0,.buf 701 UInt8 1 rX (34::escs s i)]),(701,.spare (34::escs s i).length 1 5)])) (fun i=>i<=s.length) (fun i=>s.length-i) 0 (Nat.zero_le _) (Sees.of lf lo) ?_;intro i y;dsimp only at y ⊢;have C:=B49 s i y;refine zc 5 (fun j=>?_) fun j=>?_
 ·have d:i<s.length:=by have:=A0 j;omega
  have w:s[i]?=some s[i]:=by simp[d]
  obtain⟨c,A⟩:∃c,c=s[i]:=⟨_,rfl⟩
  have B:=A67 s i d;have z:=IE c;rw[<-A]at w B;refine zz 11 ?_;refine A7 (J9 Z Z B1 w) Z (D3 (UI c) (S9 (P4 (xs:=34::escs s i) (s:=X6 c) ⟨⟨_,.inr rfl,rfl⟩,rfl⟩ b6x) Z Z Z ?_));rintro _ _ ⟨rfl,rfl⟩;refine zz 5 ?_;refine⟨i+1,d,by omega,?_⟩;rw[B];exact Sees.of lf lo
 have m:i=s.length:=by have:=A1 j;omega
 subst m;refine zz 3 ?_;refine S9 (pJ (xs:=34::escs s s.length) (c:=34) ⟨⟨_,.inr rfl,rfl⟩,rfl⟩ b6x) Z Z Z ?_;rintro _ _ ⟨rfl,rfl⟩;refine zz 3 ?_;refine nR (k:=700) (k':=701) ⟨_,rfl,rfl,rfl⟩ cR Z Z Z Z Z (.inr Z) Z (zz 3 ?_);exact A8 (F7 rfl rfl rfl) (by rw[v])
theorem KV(f:FuncId)(m:File->Bool)(l:List File)(w:l.length<=1073741824)(s:∀x∈l,FnOk Tryz.prog f [ZF x] (fun rs=>rs=[D5 (m x)])) :
  FnOk Tryz.prog 182 [fF l,.one (.v (.func (.func f) #[] #[]))] (fun rs=>∃i:Int,rs=[D2 i]/\decide (0<=i)=l.any m):=by
 refine FnOk.intro Tryz.func182 G6 Z Z Z Z (zz 12 ?_);refine C5 (X:=Nat) (fun i=>([(0,C0 File 2 v6 l),(1,I6 (.func (.func f) #[] #[])),(7,B2 l.length),(8,B2 i)],[])) (fun i=>i<=l.length/\(l.take i).any m=false) (fun i=>l.length-i) 0 ⟨Nat.zero_le _,rfl⟩ (Sees.of lf lo) ?_;rintro i ⟨t,h⟩;dsimp only at t h ⊢;refine zc 5 (fun d=>?_) fun d=>?_;rotate_left
 ·have g:i=l.length:=by have g:=A1 d;(try dsimp only at g);omega
  rw[g,C44]at h;refine zz 6 ?_;exact A8 (rs:=[D2 (-1)]) (F7 rfl rfl rfl) ⟨-1,rfl,by rw[h];rfl⟩
 have b:i<l.length:=by have g:=A0 d;(try dsimp only at g);omega
 obtain⟨x,k⟩:∃x,x=l[i]:=⟨_,rfl⟩
 have q:l[i]?=some x:=by rw[k];simp[b]
 have j:=s x (by rw[k];exact C35 b);refine zz 13 ?_;refine A7 (A9 Z (.pure _ _ _ _) Z B1 q) Z (zz 1 ?_);refine A7 (YM (j) Z Z Z) Z ?_;refine zc 1 (fun d=>?_) fun d=>?_
 ·refine zz 6 ?_;refine A8 (rs:=[D2 i]) (F7 rfl rfl rfl) ⟨i,rfl,?_⟩;rw[List.any_eq_true.2 ⟨x,by rw[k];exact C35 b,d⟩];exact A3 B1
 ·refine zz 5 ?_;refine⟨i+1,⟨b,?_⟩,by omega,(Sees.of lf lo)⟩;rw[List.take_add_one,q,Option.toList_some,C93,h,Bool.false_or,List.any_cons,List.any_nil,Bool.or_false];exact d
theorem kZ(f:FuncId)(a:File->Bool)(l:List File)(g:l.length<=1073741824)(b:∀x∈l,FnOk Tryz.prog f [ZF x] (fun rs=>rs=[D5 (a x)])) :
  FnOk Tryz.prog 111 [fF l,.one (.v (.func (.func f) #[] #[]))] (fun rs=>rs=[D5 (l.any a)]):=by
 refine FnOk.intro Tryz.func111 G6 Z Z Z Z (zz 8 ?_);refine x7 (KV f a l g b) Z Z Z ?_;rintro _ ⟨i,rfl,d⟩;refine zz 3 ?_;refine zz 1 ?_;exact A8 (F7 rfl rfl rfl) (by rw[<-d])
theorem BG(f:FuncId)(m:Commit->Bool)(l:List Commit)(w:l.length<=1073741824)(s:∀x∈l,FnOk Tryz.prog f [tM x] (fun rs=>rs=[D5 (m x)])) :
  FnOk Tryz.prog 110 [G9 l,.one (.v (.func (.func f) #[] #[]))] (fun rs=>∃i:Int,rs=[D2 i]/\decide (0<=i)=l.any m):=by
 refine FnOk.intro Tryz.func110 G6 Z Z Z Z (zz 12 ?_);refine C5 (X:=Nat) (fun i=>([(0,C0 Commit 3 H8 l),(1,I6 (.func (.func f) #[] #[])),(7,B2 l.length),(8,B2 i)],[])) (fun i=>i<=l.length/\(l.take i).any m=false) (fun i=>l.length-i) 0 ⟨Nat.zero_le _,rfl⟩ (Sees.of lf lo) ?_;rintro i ⟨t,h⟩;dsimp only at t h ⊢;refine zc 5 (fun d=>?_) fun d=>?_;rotate_left
 ·have g:i=l.length:=by have g:=A1 d;(try dsimp only at g);omega
  rw[g,C44]at h;refine zz 6 ?_;exact A8 (rs:=[D2 (-1)]) (F7 rfl rfl rfl) ⟨-1,rfl,by rw[h];rfl⟩
 have b:i<l.length:=by have g:=A0 d;(try dsimp only at g);omega
 obtain⟨x,k⟩:∃x,x=l[i]:=⟨_,rfl⟩
 have q:l[i]?=some x:=by rw[k];simp[b]
 have j:=s x (by rw[k];exact C35 b);refine zz 13 ?_;refine A7 (A9 Z (.pure _ _ _ _) Z B1 q) Z (zz 1 ?_);refine A7 (YM (j) Z Z Z) Z ?_;refine zc 1 (fun d=>?_) fun d=>?_
 ·refine zz 6 ?_;refine A8 (rs:=[D2 i]) (F7 rfl rfl rfl) ⟨i,rfl,?_⟩;rw[List.any_eq_true.2 ⟨x,by rw[k];exact C35 b,d⟩];exact A3 B1
 ·refine zz 5 ?_;refine⟨i+1,⟨b,?_⟩,by omega,(Sees.of lf lo)⟩;rw[List.take_add_one,q,Option.toList_some,C93,h,Bool.false_or,List.any_cons,List.any_nil,Bool.or_false];exact d
theorem fU(f:FuncId)(a:Commit->Bool)(l:List Commit)(g:l.length<=1073741824)(b:∀x∈l,FnOk Tryz.prog f [tM x] (fun rs=>rs=[D5 (a x)])) :
  FnOk Tryz.prog 54 [G9 l,.one (.v (.func (.func f) #[] #[]))] (fun rs=>rs=[D5 (l.any a)]):=by
 refine FnOk.intro Tryz.func54 G6 Z Z Z Z (zz 8 ?_);refine x7 (BG f a l g b) Z Z Z ?_;rintro _ ⟨i,rfl,d⟩;refine zz 3 ?_;refine zz 1 ?_;exact A8 (F7 rfl rfl rfl) (by rw[<-d])
structure FewG (g:Graph):Prop where
 len:g.length<=1000
 pars:∀c∈g,c.Parents.length<=1048576
theorem iN{l:List Bool}{c:Nat}(h:c<l.length):l[c]?=some (F9 l c):=by
 unfold F9;rw[C29 h];rfl
theorem A15(l:List Int)(n:Int)(j:l.length<=1073741824):FnOk Tryz.prog 181 [L0 l,D2 n] (fun rs=>∃i:Int,rs=[D2 i]/\decide (0<=i)=decide (n∈l)):=by
 refine FnOk.intro Tryz.func181 G6 Z Z Z Z (zz 12 ?_);refine C5 (X:=Nat) (fun i=>([(0,C0 Int 1 E3 l),(1,B2 n),(7,B2 l.length),(8,B2 i)],[])) (fun i=>i<=l.length/\n∉l.take i) (fun i=>l.length-i) 0 ⟨Nat.zero_le _,by simp⟩ (Sees.of lf lo) ?_;rintro i ⟨f,d⟩;dsimp only at f d ⊢;refine zc 5 (fun c=>?_) fun c=>?_;rotate_left
 ·have a:i=l.length:=by have a:=A1 c;(try dsimp only at a);omega
  rw[a,C44]at d;refine zz 6 ?_;exact A8 (rs:=[D2 (-1)]) (F7 rfl rfl rfl) ⟨-1,rfl,by rw[A4 d];rfl⟩
 have b:i<l.length:=by have a:=A0 c;(try dsimp only at a);omega
 have g:l[i]?=some l[i]:=by simp[b]
 refine zz 13 ?_;refine A7 (A9 Z (.pure _ _ _ _) Z B1 g) Z ?_;refine zc 3 (fun c=>?_) fun c=>?_
 ·have a:n=l[i]:=A0 c;refine zz 6 ?_;refine A8 (rs:=[D2 i]) (F7 rfl rfl rfl) ⟨i,rfl,?_⟩;rw[A3 (show n∈l from a ▸ C35 b)];exact A3 B1
 ·have a:¬n=l[i]:=A1 c;refine zz 5 ?_;refine⟨i+1,⟨b,?_⟩,by omega,(Sees.of lf lo)⟩;rw[List.take_add_one,C29 b,Option.toList_some,C37,List.mem_singleton];rintro (h | h)
  ·exact d h
  ·exact a h
theorem KW(l:List Int)(n:Int)(b:l.length<=1073741824):FnOk Tryz.prog 109 [L0 l,D2 n] (fun rs=>rs=[D5 (decide (n∈l))]):=by
 refine FnOk.intro Tryz.func109 G6 Z Z Z Z (zz 8 ?_);refine x7 (A15 l n b) Z Z Z ?_;rintro _ ⟨i,rfl,a⟩;refine zz 3 ?_;refine zz 1 ?_;exact A8 (F7 rfl rfl rfl) (by rw[<-a])
theorem KX(c:Commit)(d:c.Parents.length<=1073741824):FnOk Tryz.prog 108 [tM c] (fun a=>a=[D5 (decide (c.Parents.length>32))]):=by
 refine FnOk.intro Tryz.func108 G6 Z Z Z Z (zz 2 ?_);refine B8 (P3 1 Z Z Z) Z (zz 11 ?_);exact A8 (F7 rfl rfl rfl) (congrArg (fun b=>[D5 b]) (decide_eq_decide.2 ⟨fun h=>by omega,fun h=>by omega⟩))
theorem OX(g:Graph)(e:FewG g)(a:g.length<=1073741824):FnOk Tryz.prog 51 [G9 g] (fun rs=>rs=[D5 (bC g)]):=by
 refine FnOk.intro Tryz.func51 G6 Z Z Z Z (zz 11 ?_);refine C3 Z Z Z Z (fun b=>by have f:=b;(try simp at f);rw[b];exact I4 (fU 108 (fun c=>decide (c.Parents.length>32)) g a (fun c d=>KX c (by have:=e.pars c d;omega))) Z Z) ?_;refine zz 5 ?_;refine A8 (F7 Z Z Z) ?_;unfold bC;rw[xS,show decide ((g.length:Int)<=300)=decide (g.length<=300) from decide_eq_decide.2 B1]
theorem UJ(c:Commit):FnOk Tryz.prog 55 [tM c] (fun rs=>rs=[D5 (decide (c.Date<0\/c.Date>2147483647))]):=by
 refine FnOk.intro Tryz.func55 G6 Z Z Z Z (zz 2 ?_);refine B8 (P3 1 Z Z Z) Z (zz 15 ?_);refine A8 (F7 Z Z Z) ?_;rw[or_pick]
theorem UK(g:Graph)(c:Int):FnOk Tryz.prog 21 [G9 g,D2 c] (fun rs=>rs=[D5 (decide (iY g c))]):=by
 refine FnOk.intro Tryz.func21 G6 Z Z Z Z (zz 17 ?_);refine A8 (F7 Z Z Z) ?_;rw[and_pick];rfl
theorem b1x{p:Prop}(h:p:=by rw[C41];omega):p:=h
theorem OY(g:Graph)(E:FewG g)(y:g.length<=1073741824):FnOk Tryz.prog 52 [G9 g] (fun rs=>rs=[D5 (related g)]):=by
 refine FnOk.intro Tryz.func52 G6 Z Z Z Z (zz 12 ?_);refine C5 (X:=Nat) (fun i=>([(0,C0 Commit 3 H8 g),(7,C0 Commit 3 H8 g),(8,B2 g.length),(9,B2 i)],[])) (fun i=>i<=g.length/\((g.take i).all fun c=>mZ g.length [] c.Parents)=true) (fun i=>g.length-i) 0 ⟨Nat.zero_le _,rfl⟩ (Sees.of lf lo) ?_;rintro i ⟨F,ha⟩;dsimp only at F ha ⊢;refine zc 5 (fun j=>?_) fun j=>?_;rotate_left
 ·have d:i=g.length:=by have d:=A1 j;(try dsimp only at d);omega
  rw[d,C44]at ha;refine zz 6 ?_;exact A8 (rs:=[D5 true]) (F7 rfl rfl rfl) (by unfold related;rw[ha])
 have v:i<g.length:=by have d:=A0 j;(try dsimp only at d);omega
 obtain⟨c,A⟩:∃c,c=g[i]:=⟨_,rfl⟩
 have D:g[i]?=some c:=by rw[A];simp[v]
 have I:=E.pars c (by rw[A];exact C35 v);have z:mZ g.length [] c.Parents=false->[D5 false]=[D5 (related g)]:=fun h=>by
  have:related g=false:=by
   unfold related;rw[List.all_eq_false];exact⟨c,by rw[A];exact C35 v,by rw[h];decide⟩
  rw[this]
 refine zz 5 ?_;refine A7 (A9 Z (.pure _ _ _ _) Z B1 D) Z (zz 1 ?_);refine B8 (E6 4 Z) Z (zz 10 ?_);refine C5 (X:=Nat) (fun k=>([(0,C0 Commit 3 H8 g),(4,.s (.one (.ref 4 0))),(7,C0 Commit 3 H8 g),(8,B2 g.length),(9,B2 i),(14,C0 Int 1 E3 c.Parents),(15,B2 c.Parents.length),(16,B2 k)],[(4,.box (tM c).s1.cells)])) (fun k=>k<=c.Parents.length/\mZ g.length [] c.Parents=mZ g.length (c.Parents.take k) (c.Parents.drop k)) (fun k=>c.Parents.length-k) 0 ⟨Nat.zero_le _,rfl⟩ (Sees.of lf lo) ?_;rintro k ⟨G,q⟩;dsimp only at G q ⊢;refine zc 5 (fun j=>?_) fun j=>?_;rotate_left
 ·have d:k=c.Parents.length:=by have d:=A1 j;(try dsimp only at d);omega
  rw[d,List.drop_length]at q;refine zz 5 ?_;refine⟨i+1,⟨v,?_⟩,by omega,(Sees.of lf lo)⟩;rw[List.take_add_one,D,Option.toList_some,C85,ha,Bool.true_and,List.all_cons,List.all_nil,Bool.and_true,q];rfl
 have m:k<c.Parents.length:=by have d:=A0 j;(try dsimp only at d);omega
 have w:c.Parents[k]?=some c.Parents[k]:=by simp[m]
 rw[C38 m]at q;obtain⟨p,H⟩:∃p,p=c.Parents[k]:=⟨_,rfl⟩
 rw[<-H]at w q;have C:c.Parents.take (k+1)=c.Parents.take k++[p]:=by rw[List.take_add_one,w,Option.toList_some]
 rw[mZ,<-C]at q;refine zz 6 ?_;refine A7 (A9 Z (.pure _ _ _ _) Z B1 w) Z (zz 18 ?_);refine C3 Z Z Z Z (fun y=>by have B:=y;(try simp at B);rw[y];exact nN Z (.pure _ _ _ _) Z B1 B1) ?_;refine zz 1 ?_;refine C3 Z Z Z Z (fun y=>by have B:=y;(try simp at B);rw[y];exact I4 (KW (c.Parents.take ((k:Nat):Int).toNat) p b1x) Z Z) ?_;refine zz 2 ?_;rw[C31,ifOr,ifOr];refine zc 0 (fun j=>?_) fun j=>?_
 ·rw[C64,C64,decide_eq_true_eq,decide_eq_true_eq,decide_eq_true_eq]at j;have d:decide (0<=p/\p<(g.length:Int)/\p∉c.Parents.take k)=false:=by
   rw[decide_eq_false_iff_not];rintro⟨J,a2,a3⟩;rcases j with (h | h) | h
   ·omega
   ·omega
   ·exact a3 h
  rw[d,Bool.false_and]at q;refine zz 5 ?_;exact A8 (rs:=[D5 false]) (F7 rfl rfl rfl) (z q)
 ·rw[C87,C87,decide_eq_false_iff_not,decide_eq_false_iff_not,decide_eq_false_iff_not]at j;have d:decide (0<=p/\p<(g.length:Int)/\p∉c.Parents.take k)=true:=A3 ⟨by omega,by omega,j.2⟩;rw[d,Bool.true_and]at q;refine zz 5 ?_;exact⟨k+1,⟨m,q⟩,by omega,(Sees.of lf lo)⟩
theorem KY(ps l:List Int)(k:Nat)(h:k<ps.length):Z3 (ps.take (k+1)) l=bump (Z3 (ps.take k) l) ps[k]:=by
 unfold Z3;rw[List.take_add_one,C29 h,Option.toList_some,C78];rfl
theorem UL{l:List Int}{p:Int}(h:0<=p/\p<l.length):l[p.toNat]?=some (N4 l p.toNat):=by
 unfold N4;rw[C29 B1];rfl
theorem UM{ps:List Int}{l:List Int}{p:Nat}(b:∀p∈ps,0<=p/\p<l.length)(a:ps.Nodup):N4 l p<=N4 (Z3 ps l) p/\N4 (Z3 ps l) p<=N4 l p+1:=by
 rw[rI (n:=0) b a];split<;>omega
theorem OZ{g:Graph}(d:related g=true){i p:Nat}(a:i<=g.length)(b:p<g.length):0<=N4 (O6 g i) p/\N4 (O6 g i) p<=i:=by
 rw[nB d p b i a];have:=List.countP_le_length (p:=fun c=>decide ((p:Int)∈D8 g c)) (l:=List.range i);rw[C72]at this;omega
theorem YR{p:Prop}(h:p:=by first | rfl | (simp[G5,K5,Ob.free,SV.free,S1.free,TC.free]<;>rfl)):p:=h
theorem UN(g:Graph)(hf:FewG g)(W:related g=true):FnOk Tryz.prog 53 [G9 g] (fun rs=>∃ch w,rs=[L0 w]/\KInv g w.length 0 ch w):=by
 have hg:=hf.len;refine FnOk.intro Tryz.func53 G6 Z Z Z Z (zz 8 ?_);refine B8 (j5 753 Int E3 0 Z Z B1 B1 (fun _=>by first | exact⟨⟨rfl,rfl⟩,trivial⟩ | exact⟨F0 _ _ _,trivial⟩ | exact⟨F0 _ _ _,⟨rfl,rfl⟩,F0 _ _ _,trivial⟩ | exact⟨⟨rfl,rfl⟩,⟨rfl,rfl⟩,trivial⟩) YR) Z ?_;refine zz 10 ?_;rw[C31];refine C5 (X:=Nat) (fun i=>([(0,C0 Commit 3 H8 g),(3,.s (.one (.mut 753))),(17,C0 Commit 3 H8 g),(18,B2 g.length),(19,B2 i)],[(753,.arr Int 1 E3 (O6 g i))])) (fun i=>i<=g.length) (fun i=>g.length-i) 0 (Nat.zero_le _) (Sees.of lf lo) ?_;intro i V;dsimp only at V ⊢;refine zc 5 (fun j=>?_) fun j=>?_
 ·have G:i<g.length:=by have d:=A0 j;(try dsimp only at d);omega
  obtain⟨c,P⟩:∃c,c=g[i]:=⟨_,rfl⟩
  have hv:g[i]?=some c:=by rw[P];simp[G]
  have H:D8 g i=c.Parents:=by rw[dH G,P]
  have hpr:=N3 W i;have ai:=hf.pars c (by rw[P];exact C35 G);have hs:=pX G;rw[H]at hpr hs;have C:=eJ g i;have U:=fun p (T:p<g.length)=>OZ W (i:=i) (p:=p) B1 T;obtain⟨z,hz⟩:∃z,z=O6 g i:=⟨_,rfl⟩
  rw[<-hz]at hs C U ⊢;refine zz 5 ?_;refine A7 (A9 Z (.pure _ _ _ _) Z B1 hv) Z (zz 1 ?_);refine B8 (E6 5 Z) Z (zz 10 ?_);refine C5 (X:=Nat) (fun k=>([(0,C0 Commit 3 H8 g),(3,.s (.one (.mut 753))),(17,C0 Commit 3 H8 g),(18,B2 g.length),(19,B2 i),(24,C0 Int 1 E3 c.Parents),(25,B2 c.Parents.length),(26,B2 k)],[(753,.arr Int 1 E3 (Z3 (c.Parents.take k) z))])) (fun k=>k<=c.Parents.length) (fun k=>c.Parents.length-k) 0 (Nat.zero_le _) (Sees.of lf lo) ?_;intro k hk;dsimp only at hk ⊢;have L:=nA (c.Parents.take k) z;refine zc 5 (fun j=>?_) fun j=>?_;rotate_left
  ·have d:k=c.Parents.length:=by have d:=A1 j;(try dsimp only at d);omega
   rw[d,C44,<-hs];refine zz 5 ?_;exact⟨i+1,G,by omega,(Sees.of lf lo)⟩
  have y:k<c.Parents.length:=by have d:=A0 j;(try dsimp only at d);omega
  have J:c.Parents[k]?=some c.Parents[k]:=by simp[y]
  have R:=hpr.1 _ (C35 y);have ab:=KY c.Parents z k y;obtain⟨p,T⟩:∃p,p=c.Parents[k]:=⟨_,rfl⟩
  rw[<-T]at J R ab;have hb:=UM (ps:=c.Parents.take k) (l:=z) (p:=p.toNat) (fun q hq=>by rw[C];exact hpr.1 q (List.mem_of_mem_take hq)) (hpr.2.sublist (List.take_sublist _ _));have hh:=U p.toNat B1;have I:=UL (l:=Z3 (c.Parents.take k) z) (p:=p) (by rw[L,C];exact R);refine zz 5 ?_;refine A7 (A9 Z (.pure _ _ _ _) Z B1 J) Z (zz 6 ?_);refine A7 (E0 Z Z Z B1 (by (rw[L];omega))) Z ?_;refine A7 (M9 Z Z I Z) Z (zz 1 ?_);refine A7 (E0 Z Z Z B1 (by (rw[L];omega))) Z ?_;refine O2 (I1 TySz.out Z Z (by (rw[L];omega)) Z Z) ?_;refine zz 5 ?_;refine⟨k+1,by omega,by omega,?_⟩;rw[ab];exact (Sees.of lf lo)
 have Q:i=g.length:=by have d:=A1 j;(try dsimp only at d);omega
 rw[Q];have ac:=KInv.start W;obtain⟨z,hz⟩:∃z,z=O6 g g.length:=⟨_,rfl⟩
 have af:z.length=g.length:=by rw[hz];exact eJ g _
 rw[<-hz]at ac ⊢;refine zz 3 ?_;refine B8 (w9 8 _ E3 Z) Z (zz 5 ?_);refine A7 (GJ Z Z) Z (zz 3 ?_);refine C5 (X:=Nat) (fun i=>([(0,C0 Commit 3 H8 g),(3,.s (.one (.mut 753))),(8,.s (.one (.buf 8 Int 1 E3 (W4 z i)))),(38,.s (.one (.mut 753))),(39,B2 g.length),(40,B2 i)],[(8,.spare (W4 z i).length 1 3),(753,.arr Int 1 E3 z)])) (fun i=>i<=g.length) (fun i=>g.length-i) 0 (Nat.zero_le _) (by rw[<-af];exact (Sees.of lf lo)) ?_;intro i V;dsimp only at V ⊢;have an:=RO z i;have M:=NB z i;refine zc 5 (fun j=>?_) fun j=>?_
 ·have G:i<g.length:=by have d:=A0 j;(try dsimp only at d);omega
  have I:=UL (l:=z) (p:=(i:Int)) B1;rw[C31]at I;refine zz 6 ?_;refine A7 (E0 Z Z Z B1 (by (rw[af];omega))) Z ?_;refine A7 (M9 Z Z I Z) Z ?_;refine zc 8 (fun j=>?_) fun j=>?_
  ·have d:N4 z i=0:=A0 j;rw[A5 d]at M;skip;refine zz 3 ?_;refine A7 (C6 (c:=E3) (ys:=[(i:Int)]) (D1 Z Z Z Z F2) Z Z Z) Z (zz 7 ?_);refine⟨i+1,by omega,by omega,?_⟩;rw[M];exact (Sees.of lf lo)
  ·have d:¬N4 z i=0:=A1 j;rw[A6 d]at M;refine zz 5 ?_;refine⟨i+1,by omega,by omega,?_⟩;rw[M];exact (Sees.of lf lo)
 have Q:i=g.length:=by have d:=A1 j;(try dsimp only at d);omega
 rw[Q];refine zz 7 ?_;refine C5 (X:=Nat×List Int×List Int) (fun x=>([(0,C0 Commit 3 H8 g),(3,.s (.one (.mut 753))),(8,.s (.one (.buf 8 Int 1 E3 x.2.2))),(11,B2 x.1)],[(8,.spare x.2.2.length 1 3),(753,.arr Int 1 E3 x.2.1)])) (fun x=>x.1<=x.2.2.length/\KInv g x.1 0 x.2.1 x.2.2) (fun x=>g.length-x.1) (0,z,W4 z g.length) ⟨Nat.zero_le _,ac⟩ (Sees.of lf lo) ?_;rintro⟨k,ch,w⟩ ⟨hk,S⟩;dsimp only at hk S ⊢;have am:=S.le;refine zc 8 (fun j=>?_) fun j=>?_;rotate_left
 ·have d:k=w.length:=by have d:=A1 j;(try dsimp only at d);omega
  rw[d]at S;refine zz 7 ?_;exact A8 (rs:=[L0 w]) (F7 rfl rfl rfl) ⟨ch,w,rfl,S⟩
 have y:k<w.length:=by have d:=A0 j;(try dsimp only at d);omega
 have al:=S.rng _ (C35 y);obtain⟨K,ag⟩:∃K:Nat,w[k]=(K:Int):=⟨w[k].toNat,by omega⟩
 have ae:w[k]?=some (K:Int):=by rw[C29 y,ag]
 have C:K<g.length:=by omega
 obtain⟨c,P⟩:∃c,c=g[K]:=⟨_,rfl⟩
 have aj:g[((K:Nat):Int).toNat]?=some c:=by rw[P];simp[C]
 have H:D8 g K=c.Parents:=by rw[dH C,P]
 have ai:=hf.pars c (by rw[P];exact C35 C);refine zz 8 ?_;refine A7 (A9 Z (.buf _ _ _ _ _) Z B1 ae) Z (zz 1 ?_);refine A7 (A9 Z (.pure _ _ _ _) Z B1 aj) Z (zz 6 ?_);refine C5 (X:=Nat×List Int×List Int) (fun x=>([(0,C0 Commit 3 H8 g),(3,.s (.one (.mut 753))),(8,.s (.one (.buf 8 Int 1 E3 x.2.2))),(11,B2 k),(65,C0 Int 1 E3 c.Parents),(66,B2 c.Parents.length),(67,B2 x.1)],[(8,.spare x.2.2.length 1 3),(753,.arr Int 1 E3 x.2.1)])) (fun x=>x.1<=c.Parents.length/\k<x.2.2.length/\x.2.2[k]?=some (K:Int)/\KInv g k x.1 x.2.1 x.2.2) (fun x=>c.Parents.length-x.1) (0,ch,w) ⟨Nat.zero_le _,y,ae,S⟩ (Sees.of lf lo) ?_;rintro⟨i,v,E⟩ ⟨V,hkl,B,F⟩;dsimp only at V hkl B F ⊢;have ak:=F.le;have D:=F.len;have O:E[k]=(K:Int):=by rw[C29 hkl]at B;exact Option.some.inj B
 refine zc 5 (fun j=>?_) fun j=>?_;rotate_left
 ·have d:i=c.Parents.length:=by have d:=A1 j;(try dsimp only at d);omega
  rw[d,<-H]at F;have hN:=F.next hkl O;refine zz 6 ?_;exact⟨(k+1,v,E),⟨by dsimp only;omega,hN⟩,by dsimp only;omega,(Sees.of lf lo)⟩
 have A:i<c.Parents.length:=by have d:=A0 j;(try dsimp only at d);omega
 have J:c.Parents[i]?=some c.Parents[i]:=by simp[A]
 have R:=(N3 W K).1 c.Parents[i] (by rw[H];exact C35 A);obtain⟨p,T⟩:∃p:Nat,c.Parents[i]=(p:Int):=⟨c.Parents[i].toNat,by omega⟩
 rw[T]at J;obtain⟨s1,s2,s3,s4⟩:=F.step W hkl O (i:=i) (p:=p) (by rw[H];exact A) (by simp only[H];exact T);have I:=UL (l:=v) (p:=(p:Int)) B1;have ad:(bB v p)[((p:Nat):Int).toNat]?=some (N4 v p-1):=by
  unfold bB;rw[C31,C90 B1]
 have ah:(bB v p).length=g.length:=by unfold bB;rw[C73,D]
 have Y:v.set ((p:Nat):Int).toNat (N4 v ((p:Nat):Int).toNat-1)=bB v p:=rfl;refine zz 5 ?_;refine A7 (A9 Z (.pure _ _ _ _) Z B1 J) Z (zz 7 ?_);refine A7 (E0 Z Z Z B1 (by (rw[D];omega))) Z ?_;refine A7 (M9 Z Z I Z) Z (A7 (lI Z Z (by (rw[C31];omega))) Z ?_);refine A7 (E0 Z Z Z B1 (by (rw[D];omega))) Z ?_;refine O2 (I1 TySz.out Z Z (by (rw[D];omega)) Z Z) ?_;refine zz 1 ?_;rw[Y];refine zz 4 ?_;refine A7 (E0 Z Z Z B1 (by (rw[ah];omega))) Z ?_;refine A7 (M9 Z Z ad Z) Z ?_;refine zc 2 (fun j=>?_) fun j=>?_
 ·have d:N4 v p-1=0:=A0 j;rw[A5 d]at s4;skip;refine zz 3 ?_;refine A7 (C6 (c:=E3) (ys:=[(p:Int)]) (D1 Z Z Z Z F2) Z Z Z) Z (zz 7 ?_);exact⟨(i+1,bB v p,E++[(p:Int)]),⟨A,by dsimp only;rw[C32];omega,by dsimp only;rw[C46 hkl];exact B,s4⟩,by dsimp only;omega,(Sees.of lf lo)⟩
 ·have d:¬N4 v p-1=0:=A1 j;rw[A6 d]at s4;refine zz 5 ?_;exact⟨(i+1,bB v p,E),⟨A,hkl,B,s4⟩,by dsimp only;omega,(Sees.of lf lo)⟩
abbrev UO(s:Str):Cell:=.v (.string ⟨s.toArray⟩)
def cS(l:List File):List (Str×Cell):=l.foldl (fun m f=>d5 m f.Path (UO f.Blob)) []
theorem YS(a b:Str)(c:Cell):∀d:List (Str×Cell),N6 (d5 d a c) b=if a=b then some c else N6 d b
 | []=>by
  unfold d5 N6;split
  ·rfl
  ·rfl
 | (k,x)::r=>by
  unfold d5;split
  ·rename_i e;subst e;unfold N6;split
   ·rfl
   ·rfl
  ·rename_i e;rw[N6,YS a b c r];by_cases g:k=b
   ·subst g;rw[A5 rfl,A6 (fun h=>e h.symm)];simp[N6]
   ·rw[A6 g];by_cases f:a=b
    ·rw[A5 f,A5 f]
    ·rw[A6 f,A6 f,N6,A6 g]
theorem KZ(l:List File)(i:Nat)(h:i<l.length):cS (l.take (i+1))=d5 (cS (l.take i)) l[i].Path (UO l[i].Blob):=by
 unfold cS;rw[List.take_add_one,C29 h,Option.toList_some,C78];rfl
theorem PA(p:Str):∀(l:List File) (m:List (Str×Cell)),N6 (l.foldl (fun m f=>d5 m f.Path (UO f.Blob)) m) p=((U8 l.reverse p).map UO).or (N6 m p)
 | [],m=>by simp[U8]
 | f::r,m=>by
  rw[C68,PA p r,YS,List.reverse_cons];have b:∀(l:List File),U8 (l++[f]) p=(U8 l p).or (if f.Path=p then some f.Blob else none):=by
   intro l;induction l with
   | nil=>simp[U8]
   | cons g l c =>
    rw[C57,U8,U8];split
    ·rfl
    ·exact c
  rw[b];cases U8 r.reverse p with
  | some x=>rfl
  | none=>by_cases h:f.Path=p<;>simp[h]
theorem LA(l:List File)(p:Str):(N6 (cS l) p).isSome=decide (p∈l.map (·.Path)):=by
 unfold cS;rw[PA];have:N6 ([]:List (Str×Cell)) p=none:=rfl;rw[this,Option.or_none,Option.isSome_map];cases h:U8 l.reverse p with
 | none =>
  have:=WL.1 h;rw[List.map_reverse,List.mem_reverse]at this;simp only[Option.isSome_none,this,decide_false]
 | some x =>
  obtain⟨f,c,b,_⟩:=CN h;have:p∈l.map (·.Path):=by rw[<-b];exact List.mem_map_of_mem (List.mem_reverse.1 c)
  simp only[Option.isSome_some,this,decide_true]
theorem UP(l:List File)(v:l.length<=1073741824):AL.Met Tryz.prog 185 [.one (.p (.list File 2 v6 l))] [] [] [] (fun rs ob'=>rs=[.one (.mut 800)]/\ob'=[(800,.map Str eX (cS l))]):=by
 refine AL.Met.intro Tryz.func185 G6 Z Z Z (zz 6 ?_);refine B8 (GS 800 Str eX Z) Z (zz 10 ?_);refine C5 (X:=Nat) (fun i=>([(3,.s (.one (.mut 800))),(7,C0 File 2 v6 l),(8,B2 l.length),(9,B2 i)],[(800,.map Str eX (cS (l.take i)))])) (fun i=>i<=l.length) (fun i=>l.length-i) 0 (Nat.zero_le _) (Sees.of lf lo) ?_;intro i k;dsimp only at k ⊢;refine zc 5 (fun g=>?_) fun g=>?_
 ·have b:i<l.length:=by have c:=A0 g;(try dsimp only at c);omega
  have hs:=KZ l i b;obtain⟨f,j⟩:∃f,f=l[i]:=⟨_,rfl⟩
  have q:l[i]?=some f:=by rw[j];simp[b]
  rw[<-j]at hs;refine zz 5 ?_;refine A7 (A9 Z (.pure _ _ _ _) Z B1 q) Z (zz 1 ?_);refine B8 (E6 5 Z) Z (zz 8 ?_);refine O2 (B20 (f.Path) Z Z Z Z Z lX lY) (zz 5 ?_);refine⟨i+1,by omega,by omega,?_⟩;rw[hs];exact (Sees.of lf lo)
 ·have d:i=l.length:=by have c:=A1 g;(try dsimp only at c);omega
  rw[d,C44];refine zz 7 ?_;exact F1 (O3 rfl rfl) cQ (fun _ _ h=>h) ⟨rfl,rfl⟩
theorem rT{p:Prop}(h:p:=by repeat (first | exact bX | refine tail_cons rfl ?_)):p:=h
theorem PB{gf:Fr}{ob:Obs}(p:Str)(k:List (Str×Cell))(P:p.length<=1073741824)(K:B4 ob 800=some (.map Str eX k))(_hc:∀O∈k,∃v,O.2=.v v)(ps:List Str)(E:∀q,(N6 k q).isSome=decide (q∈ps)) :
  AL.Met Tryz.prog 186 [.one (.p (.v (.string ⟨p.toArray⟩))),.one (.mut 800)] gf ob [] (fun rs ob'=>rs=[.one (.p (.v (.bool (T3 p ps))))]/\ob'=ob):=by
 have w:∀c:UInt8,((c.toNat:Int)=47)↔c=47:=fun c=>by
  constructor
  ·intro h;exact UInt8.toNat_inj.1 (by simpa using (show c.toNat=47 by omega))
  ·rintro rfl;rfl
 refine AL.Met.introH Tryz.func186 G6 rfl rfl rfl (fun G=>?_);refine zz 12 ?_;refine C5 (X:=Nat) (fun i=>([(0,H6 p),(1,.s (.one (.mut 800))),(9,B2 p.length),(10,B2 i)]++gf,ob)) (fun i=>i<=p.length/\∀j,j<i->(decide (p.take j∈ps)&&decide (p[j]?=some 47))=false) (fun i=>p.length-i) 0 ⟨Nat.zero_le _,fun j h=>by omega⟩ (B91 lf G rT (fun _ _ h=>h)) ?_;rintro i ⟨L,C⟩;dsimp only at L C ⊢;refine zc 5 (fun d=>?_) fun d=>?_;rotate_left
 ·have B:i=p.length:=by have A:=A1 d;(try dsimp only at A);omega
  have D:T3 p ps=false:=by
   unfold T3;rw[List.any_eq_false];intro j I;rw[C j (by rw[B];exact C40.1 I)];simp
  refine zz 6 ?_;exact F1 (O3 rfl rfl) cQ (fun _ _ h=>h) ⟨by rw[D],rfl⟩
 have f:i<p.length:=by have A:=A0 d;(try dsimp only at A);omega
 have M:p[((i:Nat):Int).toNat]?=some p[i]:=by simp[f]
 have x:p[i]?=some p[i]:=by simp[f]
 have y:=E (p.take ((i:Nat):Int).toNat);obtain⟨r,J⟩:∃r,r=N6 k (p.take ((i:Nat):Int).toNat):=⟨_,rfl⟩
 rw[<-J,C31]at y;refine zz 14 ?_;refine A7 (AP ((p.take ((i:Nat):Int).toNat)) (r:=r) Z K Z lX lY (J.symm)) Z (zz 12 ?_);refine C3 Z Z Z Z (fun H=>by have y:=H;(try simp at y);rw[H];exact J9 Z Z B1 M) ?_;refine zc 3 (fun d=>?_) fun d=>?_
 ·rw[xS,C30,decide_eq_true_eq]at d;have z:T3 p ps=true:=by
   unfold T3;rw[List.any_eq_true];exact⟨i,C40.2 f,by rw[<-y,d.1,x,(w _).1 d.2];rfl⟩
  refine zz 5 ?_;exact F1 (O3 rfl rfl) cQ (fun _ _ h=>h) ⟨by rw[z],rfl⟩
 ·rw[xS]at d;refine zz 5 ?_;refine⟨i+1,⟨f,fun j I=>?_⟩,by omega,B91 lf G rT (fun _ _ h=>h)⟩;by_cases e:j=i
  ·subst e;rw[<-y,x];cases F:r.isSome
   ·rfl
   ·rw[F,Bool.true_and,decide_eq_false_iff_not]at d;have:¬p[j]=47:=fun h=>d ((w _).2 h);simp[this]
  ·exact C j B1
theorem A16(l:List File):∀b∈cS l,∃v,b.2=.v v:=by
 have e:∀(l:List File) (m:List (Str×Cell)),(∀b∈m,∃v,b.2=.v v)->∀b∈l.foldl (fun m f=>d5 m f.Path (UO f.Blob)) m,∃v,b.2=.v v:=by
  intro l;induction l with
  | nil=>exact fun m h=>h
  | cons f r g =>
   intro m h;refine g _ ?_;clear g;induction m with
   | nil=>intro b a;change b∈d5 [] f.Path (UO f.Blob) at a;rw[d5,List.mem_singleton]at a;rw[a];exact⟨_,rfl⟩
   | cons x m d =>
    obtain⟨k,c⟩:=x;intro b a;change b∈d5 ((k,c)::m) f.Path (UO f.Blob) at a;rw[d5]at a;split at a
    ·rcases C36.1 a with rfl | a
     ·exact⟨_,rfl⟩
     ·exact h b (by simp[a])
    ·rcases C36.1 a with rfl | a
     ·exact h _ s6
     ·exact d (fun b i=>h b (by simp[i])) b a
 exact e l [] fun _ h=>by cases h
theorem wY:∀(l:List File) (i:Nat),i+1<l.length->(ascend (l.take (i+2))=(ascend (l.take (i+1))&&zA (l.getD i ⟨[],[]⟩).Path (l.getD (i+1) ⟨[],[]⟩).Path))
 | [],i,h=>by simp at h
 | [_],i,h=>by simp at h
 | f::g::r,0,_=>by simp[ascend]
 | f::g::r,i+1,h=>by
  have b:ascend (g::r.take (i+1))=(ascend (g::r.take i)&&zA ((g::r).getD i ⟨[],[]⟩).Path ((g::r).getD (i+1) ⟨[],[]⟩).Path):=wY (g::r) i (by simpa using h);show ascend (f::g::r.take (i+1))=(ascend (f::g::r.take i)&&zA ((g::r).getD i ⟨[],[]⟩).Path ((g::r).getD (i+1) ⟨[],[]⟩).Path)
  rw[ascend,ascend,b,Bool.and_assoc]
theorem LB(l:List File):ascend (l.take 1)=true:=by
 cases l with
 | nil=>rfl
 | cons f r=>rfl
theorem PC(l:List File)(S:l.length<=1073741824)(T:∀f∈l,f.Path.length<=1073741824):FnOk Tryz.prog 114 [fF l] (fun rs=>rs=[D5 (t6 l)]):=by
 rw[<-WK];have H:=A16 l;have G:=LA l;refine FnOk.intro Tryz.func114 G6 Z Z Z Z (zz 7 ?_);refine wW (UP l S) Z Z Z Z ?_;rintro _ _ ⟨rfl,rfl⟩;refine⟨rfl,?_⟩;refine zz 2 ?_;refine zz 8 ?_;refine C5 (X:=Nat) (fun i=>([(0,C0 File 2 v6 l),(3,.s (.one (.mut 800))),(8,C0 File 2 v6 l),(9,B2 l.length),(10,B2 i)],[(800,.map Str eX (cS l))])) (fun i=>i<=l.length/\ascend (l.take i)=true/\((l.take i).all fun f=>!T3 f.Path (l.map (·.Path)))=true) (fun i=>l.length-i) 0 ⟨Nat.zero_le _,rfl,rfl⟩ (Sees.of lf lo) ?_;rintro i ⟨R,ha,E⟩;dsimp only at R ha E ⊢;refine zc 5 (fun q=>?_) fun q=>?_;rotate_left
 ·have K:i=l.length:=by have v:=A1 q;(try dsimp only at v);omega
  rw[K,C44]at ha E;refine zz 6 ?_;exact A8 (rs:=[D5 true]) (F7 rfl rfl rfl) (by unfold dD;rw[ha,E];rfl)
 have j:i<l.length:=by have v:=A0 q;(try dsimp only at v);omega
 obtain⟨f,I⟩:∃f,f=l[i]:=⟨_,rfl⟩
 have L:l[i]?=some f:=by rw[I];simp[j]
 have J:=T f (by rw[I];exact C35 j);obtain⟨g,b⟩:∃g,g=l.getD (i-1) ⟨[],[]⟩:=⟨_,rfl⟩
 have D:0<i->l[((i:Int)-1).toNat]?=some g:=fun w=>by
  rw[b,show ((i:Int)-1).toNat=i-1 by omega,C33,C29 B1];rfl
 have c:ascend (l.take (i+1))=if 0<i then zA g.Path f.Path else true:=by
  cases i with
  | zero=>rw[A6 B1];exact LB l
  | succ i =>
   rw[A5 B1,wY l i j,ha,Bool.true_and,b];rw[show l.getD (i+1) ⟨[],[]⟩=f by rw[C33,L];rfl];rfl
 have z:((0 < i/\zA g.Path f.Path=false)\/T3 f.Path (l.map (·.Path))=true)->[D5 false]=[D5 (dD l)]:=by
  rintro (⟨w,h⟩ | h)
  ·have : ascend l=false:=by
    cases A:ascend l
    ·rfl
    ·exfalso;rw[A5 w,h]at c;have M:∀(l:List File) (k:Nat),ascend l=true->ascend (l.take k)=true:=by
      intro l;induction l with
      | nil=>intro k h;simpa using h
      | cons x r U =>
       intro k h;cases k with
       | zero=>rfl
       | succ k =>
        have F:=U k (xT h);rw[List.take_succ_cons];cases O:r.take k with
        | nil=>rfl
        | cons y t =>
         unfold ascend;rw[C30];refine⟨gB h y (List.mem_of_mem_take (by rw[O];simp)),by rw[<-O];exact F⟩
     rw[M l (i+1) A]at c;cases c
   unfold dD;rw[this];rfl
  ·have:(l.all fun f=>!T3 f.Path (l.map (·.Path)))=false:=by
    rw[List.all_eq_false];exact⟨f,by rw[I];exact C35 j,by rw[h];simp⟩
   unfold dD;rw[this,Bool.and_false]
 have B:(0<i->zA g.Path f.Path=true)->T3 f.Path (l.map (·.Path))=false->ascend (l.take (i+1))=true/\((l.take (i+1)).all fun f=>!T3 f.Path (l.map (·.Path)))=true:=by
  intro v A;refine⟨?_,?_⟩
  ·rw[c];split
   ·rename_i w;exact v w
   ·rfl
  ·rw[List.take_add_one,L,Option.toList_some,C85,E,Bool.true_and,List.all_cons,List.all_nil,A];rfl
 refine zz 6 ?_;refine A7 (A9 Z (.pure _ _ _ _) Z B1 L) Z (zz 1 ?_);refine B8 (E6 5 Z) Z (zz 4 ?_);cases d:(if decide ((0:Int)<(i:Int))=true then !Op.bytesLess g.Path f.Path else false)
 ·have v:0<i->zA g.Path f.Path=true:=fun w=>by
   rw[A5 (A3 B1),Bool.not_eq_false']at d;exact d
  refine eY 17 F6 F6 Z (zz 1 ?_);refine D7 (wS Z Z) Z Z (zz 3 ?_);refine J5 Z Z (fun b=>by have C:=b;(try simp at C);rw[b];exact lI Z Z B1) Z Z ?_;refine J5 Z Z (fun b=>by have C:=b;(try simp at C);rw[b];exact A9 Z (.pure _ _ _ _) Z B1 (D B1)) Z Z ?_;refine J5 Z Z (fun b=>by rw[b];exact dZ Z) Z Z ?_;refine zz 3 ?_;refine J5 Z Z (fun b=>by rw[b];exact YL Z Z) Z Z ?_;refine zz 2 ?_;refine V9 Z Z d Z (zz 1 ?_);refine V9 Z Z d Z (zz 1 ?_);refine V9 Z Z d Z (zz 2 ?_);refine vB Z Z d (lR (PB f.Path (cS l) J Z H (l.map (·.Path)) G) Z Z Z ?_);rintro _ _ ⟨rfl,rfl⟩;refine⟨_,rfl,?_⟩;refine zz 2 ?_;refine zz 0 ?_;rw[d];refine zc 0 (fun q=>?_) fun q=>?_
  ·have A:T3 f.Path (l.map (·.Path))=true:=by simpa using q
   refine zz 5 ?_;exact A8 (rs:=[D5 false]) (F7 rfl rfl rfl) (z (.inr A))
  ·have A:T3 f.Path (l.map (·.Path))=false:=by simpa using q
   obtain⟨F,Q⟩:=B v A;refine zz 5 ?_;exact⟨i+1,⟨j,F,Q⟩,by omega,(Sees.of lf lo)⟩
 ·have w:0<i:=by
   apply Classical.byContradiction;intro w;rw[A6 (by rw[decide_eq_true_eq];omega)]at d;cases d
  have v:zA g.Path f.Path=false:=by
   rw[A5 (A3 B1),Bool.not_eq_true']at d;exact d
  refine zz 2 ?_;refine D7 (wS Z Z) Z Z (zz 3 ?_);refine J5 Z Z (fun b=>by have C:=b;(try simp at C);rw[b];exact lI Z Z B1) Z Z ?_;refine J5 Z Z (fun b=>by have C:=b;(try simp at C);rw[b];exact A9 Z (.pure _ _ _ _) Z B1 (D B1)) Z Z ?_;refine J5 Z Z (fun b=>by rw[b];exact dZ Z) Z Z ?_;refine zz 3 ?_;refine J5 Z Z (fun b=>by rw[b];exact YL Z Z) Z Z ?_;refine zz 2 ?_;refine aM Z Z (by rw[d];decide) Z Z ?_;refine aM Z Z (by rw[d];decide) Z Z ?_;refine aM Z Z (by rw[d];decide) Z Z ?_;refine aM Z Z (by rw[d];decide) Z Z ?_;refine D7 (OD Z (d) Z) Z Z ?_;refine zc 1 (fun q=>?_) fun q=>?_
  ·refine zz 5 ?_;exact A8 (rs:=[D5 false]) (F7 rfl rfl rfl) (z (.inl ⟨w,v⟩))
  ·cases q
theorem nU(s:Str)(c:UInt8):FnOk Tryz.prog 187 [E5 s,E5 [c]] (fun a=>a=[D2 (s.count c)]) :=
 B98 (xs:=[.string ⟨s.toArray⟩,.string ⟨#[c]⟩]) ⟨_,rfl,rfl,rfl⟩ rfl fun w=>by simpa[Lib.countByte] using Tryz.strings_Count_one ⟨s.toArray⟩ c w
theorem vG(s:Str)(c:UInt8):FnOk Tryz.prog 233 [E5 s,E5 [c]] (fun a=>a=[D2 (Lib.indexByte s c)]) :=
 B98 (xs:=[.string ⟨s.toArray⟩,.string ⟨#[c]⟩]) ⟨_,rfl,rfl,rfl⟩ rfl fun w=>by simpa using Tryz.strings_Index_one ⟨s.toArray⟩ c w
abbrev nV(l:List Str):Ob:=.grow 9 Str 1 L2 l
theorem LC(s:Str)(hs:s.length<=536870912):AL.Met Tryz.prog 154 [(E5 s).s1,(E5 [10]).s1,(D2 1).s1,(D2 (-1)).s1] [] [] [] (fun J ob'=>J=[.one (.mut 9)]/\ob'=[(9,nV (T8 s))]):=by
 have E:=n9 s [];have K:s.count 10<=s.length:=List.count_le_length;have v:([10]:Str).length=1:=rfl;obtain⟨P,k⟩:∃P,P=T8 s:=⟨_,rfl⟩
 have F:P.length=s.count 10+1:=by rw[k];exact E
 refine AL.Met.intro Tryz.func154 G6 Z Z Z ?_;refine zc 10 (fun c=>?_) fun c=>?_
 ·exact absurd (A0 c) B1
 refine zc 7 (fun c=>?_) fun c=>?_
 ·exact absurd (A0 c) s6
 refine zc 7 (fun c=>?_) fun c=>?_;rotate_left
 ·exact absurd (A1 c) B1
 skip;refine zz 3 ?_;refine D3 (nU s 10) (zz 13 ?_);rw[show (if (s.length:Int)+1<(s.count 10:Int)+1 then (s.length:Int)+1 else (s.count 10:Int)+1)=(P.length:Int) from by split<;>omega];refine zz 2 ?_;refine B8 (f_makeG 9 Str L2 [] Z Z B1 B1 (fun _=>by first | exact⟨⟨rfl,rfl⟩,trivial⟩ | exact⟨F0 _ _ _,trivial⟩ | exact⟨F0 _ _ _,⟨rfl,rfl⟩,F0 _ _ _,trivial⟩ | exact⟨⟨rfl,rfl⟩,⟨rfl,rfl⟩,trivial⟩) YR) Z ?_;refine zz 14 ?_;refine C5 (X:=Nat×Str) (fun x=>([(0,H6 x.2),(1,H6 [10]),(2,B2 1),(3,B2 ((P.length:Int)-1)),(9,.s (.one (.mut 9))),(10,B2 x.1)],[(9,nV (P.take x.1++List.replicate (P.length-x.1) []))])) (fun x=>x.1+1<=P.length/\P.drop x.1=T8 x.2/\x.2.length<=s.length) (fun x=>P.length-x.1) (0,s) ⟨by dsimp only;omega,k,Nat.le_refl _⟩ (Sees.of lf lo) ?_;rintro⟨i,r⟩ ⟨G,q,I⟩;dsimp only at G q I ⊢;refine zc 7 (fun c=>?_) fun c=>?_
 ·have H:i+1<P.length:=by have:=A0 c;omega
  have A:(10:UInt8)∈r:=by
   have d:=n9 r [];have f:(P.drop i).length=r.count 10+1:=by rw[q];exact d
   rw[C45]at f;exact List.count_pos_iff.1 B1
  rcases V7 10 r with ⟨d,_⟩ | ⟨a,b,d,f,w⟩
  ·exact absurd A d
  obtain⟨y,D⟩:=WM q d f;have L:r.length=a.length+1+b.length:=by rw[d];simp;omega
  refine zz 6 ?_;refine D3 (vG r 10) (zz 8 ?_);rw[w];refine zc 0 (fun c=>?_) fun c=>?_
  ·exact absurd (A0 c) B1
  refine zz 2 ?_;have p:(P.take i++List.replicate (P.length-i) ([]:Str))[((i:Nat):Int).toNat]?=some []:=by
   rw[C31,C52 b1x,List.getElem?_replicate,A5 b1x]
  refine zz 8 ?_;refine A7 (U2 Z Z Z B1 TQ) Z (O2 (iJ ((r.take ((a.length:Int)+1).toNat)) TySz.out Z Z p Z Z Z Z (fun _ _ _ h=>eS h) (by intro j d f;rcases j with _ | _ | _ | _ | _ | _ | _ | j<;>first | rfl | omega)) ?_);refine zz 16 ?_;have B:r.take (((a.length:Int)+1).toNat)=a++[10]:=by rw[d,show ((a.length:Int)+1).toNat=a.length+1 by omega,show a++10::b=(a++[10])++b by simp,List.take_left' s6]
  have C:r.drop (((a.length:Int)+(([10]:Str).length:Int)).toNat)=b:=by rw[d,v,show ((a.length:Int)+((1:Nat):Int)).toNat=a.length+1 by omega,show a++10::b=(a++[10])++b by simp,List.drop_left' s6]
  refine⟨(i+1,b),⟨by dsimp only;omega,D,by dsimp only;omega⟩,by dsimp only;omega,?_⟩;rw[B,C];dsimp only;rw[<-eN P [] _ i y];exact Sees.of lf lo
 ·have z:i+1=P.length:=by have:=A1 c;omega
  have d:=n9 r [];have f:(P.drop i).length=r.count 10+1:=by rw[q];exact d
  rw[C45]at f;have w:(10:UInt8)∉r:=List.count_eq_zero.1 B1;have y:P[i]?=some r:=by rw[<-List.head?_drop,q];unfold T8;rw[FZ _ _ w];rfl
  refine zz 2 ?_;have p:(P.take i++List.replicate (P.length-i) ([]:Str))[((i:Nat):Int).toNat]?=some []:=by
   rw[C31,C52 b1x,List.getElem?_replicate,A5 b1x]
  refine zz 4 ?_;refine A7 (U2 Z Z Z B1 TQ) Z (O2 (iJ (r) TySz.out Z Z p Z Z Z Z (fun _ _ _ h=>eS h) (by intro j d f;rcases j with _ | _ | _ | _ | _ | _ | _ | j<;>first | rfl | omega)) ?_);refine zz 2 ?_;have e:(P.take i++List.replicate (P.length-i) ([]:Str)).set (i:Int).toNat r=P:=by rw[C31,eN P [] r i y,z];simp
  rw[e];refine zz 4 ?_;refine B8 (KS Z Z Z B1 B1 Z) Z (zz 3 ?_);rw[show ((i:Int)+1).toNat=P.length by omega,C44,k];exact F1 (O3 rfl rfl) cQ (ObIn.spec (ob':=[(9,_)]) ⟨rfl,trivial⟩) ⟨rfl,rfl⟩
theorem BH(s:Str)(hs:s.length<=536870912):AL.Met Tryz.prog 176 [(E5 s).s1,(E5 [10]).s1] [] [] [] (fun a ob'=>a=[.one (.mut 9)]/\ob'=[(9,nV (T8 s))]):=by
 refine AL.Met.intro Tryz.func176 G6 Z Z Z (zz 10 ?_);refine wW (LC s hs) Z Z Z Z ?_;rintro _ _ ⟨rfl,rfl⟩;refine⟨rfl,?_⟩;refine zz 2 ?_;refine zz 1 ?_;exact F1 (O3 rfl rfl) cQ (ObIn.spec (ob':=[(9,_)]) ⟨rfl,trivial⟩) ⟨rfl,rfl⟩
theorem HG(s:Str)(hs:s.length<=536870912):FnOk Tryz.prog 116 [E5 s] (fun j=>j=[D2 (s9 s)]):=by
 have c:=X0 s;have k:s.count 10<=s.length:=List.count_le_length;refine FnOk.intro Tryz.func116 G6 Z Z Z Z (zz 7 ?_);refine D3 (nU s 10) (zz 2 ?_);refine bV [(0,H6 s),(3,B2 (B6 s).length)] [] ?_ ?_
 ·refine zz 3 ?_;refine A7 (jB Z Z) Z (zz 2 ?_);refine C3 Z Z Z Z (fun d=>by have i:=d;(try simp at i);rw[d];exact I4 (nT s B1) Z Z) ?_;refine zc 3 (fun a=>?_) fun a=>?_
  ·have h:s≠[]/\ended s=false:=by
    by_cases b:s=[]
    ·simp[b]at a
    ·refine⟨b,?_⟩;simpa[b] using a
   rw[A5 h]at c;skip;refine zz 5 ?_;rw[c,Int.natCast_add];exact Sees.of lf lo
  ·have h:¬(s≠[]/\ended s=false):=by
    rintro⟨b,f⟩;simp[b,f]at a
   rw[A6 h]at c;refine zz 1 ?_;rw[c];exact Sees.of lf lo
 ·refine zc 11 (fun a=>?_) fun a=>?_
  ·have h:=A0 (or_pick.symm.trans a);refine zz 5 ?_;exact A8 (F7 rfl rfl rfl) (by rw[s9,A5 B1])
  ·have h:=A1 (or_pick.symm.trans a);refine zz 6 ?_;exact A8 (F7 rfl rfl rfl) (by rw[s9,A6 B1])
theorem BI(s:Str)(hs:s.length<=536870912):AL.Met Tryz.prog 100 [(E5 s).s1] [] [] [] (fun rs ob'=>rs=[.one (.mut 9),(D2 (X4 s).2).s1]/\ob'=[(9,nV (X4 s).1)]):=by
 have k:B6 s=if (T8 s).getLastD []=[] then (T8 s).dropLast else T8 s:=QU s []
 have f:(T8 s).length=s.count 10+1:=n9 s [];have q:s.count 10<=s.length:=List.count_le_length;refine AL.Met.intro Tryz.func100 G6 Z Z Z (zz 9 ?_);refine D3 (HG s hs) ?_;refine zc 7 (fun c=>?_) fun c=>?_
 ·have h:s9 s≠0:=by simpa using c
  have b:s.length>1048576\/(B6 s).length>4096:=by
   by_cases b:s.length>1048576\/(B6 s).length>4096
   ·exact b
   ·exact absurd (by rw[s9,A6 b]) h
  refine zz 3 ?_;refine B8 (B17 9 _ L2 Z) Z (zz 3 ?_);refine F1 (dW Z Z Z) cQ (ObIn.spec (ob':=[(9,_)]) ⟨rfl,trivial⟩) ?_;rw[X4,A5 b,s9,A5 b];exact⟨rfl,rfl⟩
 ·have h:s9 s=0:=by simpa using c
  have b:¬(s.length>1048576\/(B6 s).length>4096):=fun b=>by rw[s9,A5 b]at h;omega
  have v:(T8 s)[(T8 s).length-1]?=some ((T8 s).getLastD []):=by
   rw[<-List.getLast?_eq_getElem?,List.getLast?_eq_some_getLast (fun e=>by rw[e]at f;simp at f)];rw[List.getLastD_eq_getLast?,List.getLast?_eq_some_getLast (fun e=>by rw[e]at f;simp at f)];rfl
  have j:(((T8 s).length:Int)-1).toNat=(T8 s).length-1:=by omega
  refine zz 4 ?_;refine wW (BH s hs) Z Z Z Z ?_;rintro _ _ ⟨rfl,rfl⟩;refine⟨rfl,?_⟩;refine zz 2 ?_;refine zz 0 ?_;refine bV [(5,.s (.one (.mut 9)))] [(9,nV (B6 s))] ?_ ?_
  ·refine zz 6 ?_;refine A7 (U2 Z Z Z B1 B1) Z (A7 (sU Z Z (by rw[j];exact v) Z) Z ?_);refine zc 2 (fun c=>?_) fun c=>?_
   ·have i:=A0 c;skip;refine zz 5 ?_;refine B8 (KS Z Z Z B1 B1 Z) Z (zz 2 ?_);rw[k,A5 i,List.dropLast_eq_take,<-j];exact Sees.of lf lo
   ·have i:=A1 c;refine zz 1 ?_;rw[k,A6 i];exact Sees.of lf lo
  ·refine zz 7 ?_;refine F1 (dW Z Z Z) cQ (ObIn.spec (ob':=[(9,_)]) ⟨rfl,trivial⟩) ?_;rw[X4,A6 b];exact⟨rfl,rfl⟩
theorem A17(s:Str)(hs:s.length<=536870912):FnOk Tryz.prog 100 [E5 s] (fun rs=>rs=[Z7 (X4 s).1,D2 (X4 s).2]) :=
 C24 (BI s hs) fun rs ob' a=>by
  obtain⟨rfl,rfl⟩:=a;exact⟨9,Str,1,L2,(X4 s).1,_,[Z7 (X4 s).1,D2 (X4 s).2],rfl,rfl,rfl,rfl⟩
attribute [local go_sem] Oper.semAt_some
theorem pK:∀(a r b:Str),47∉a->K2 b (a++47::r)=(b++a)::K2 [] r
 | [],r,b,_=>by simp[K2]
 | x::a,r,b,h=>by
  have c:x≠47:=fun e=>h (by simp[e]);rw[C57,K2,A6 c,pK a r _ (fun e=>h (by simp[e])),C42];rfl
theorem pL:∀(a b:Str),47∉a->K2 b a=[b++a]
 | [],b,_=>by simp[K2]
 | x::a,b,h=>by
  have c:x≠47:=fun e=>h (by simp[e]);rw[K2,A6 c,pL a _ (fun e=>h (by simp[e])),C42];rfl
theorem m7{W:World}{B:Nat}{v:Value}{t:TypeId}(h:W.heap[B]?=some (.cells #[v] t (0,0))):W.cell? ⟨B,0,none⟩=some v/\W.frozen? ⟨B,0,none⟩=false:=by
 constructor<;>simp[World.cell?,World.frozen?,h]
structure RInv (rec:LoopState->Option Code->Loop) (n0:Nat) (w0:World) (l D b2 bs bp bv:Nat) (rest:Str) (W:World):Prop where
 s:W.heap[bs]?=some (.cells #[.string ⟨rest.toArray⟩] 9 (0,0))
 p:W.heap[bp]?=some (.cells #[.string ⟨#[47]⟩] 9 (0,0))
 v:W.heap[bv]?=some (.cells #[.int .i64 0] 3 (0,0))
 r:W.heap[b2]?=some (.cells #[.int .i64 0] 27 (0,0))
 l:W.heap[l]?=some (.loop (rec .ready none))
 d:W.heap[D]?=some (.deferred (some []))
 b:Below n0 w0 W
structure RFin (rec:LoopState->Option Code->Loop) (n0:Nat) (w0:World) (l D b2:Nat) (W:World):Prop where
 r:W.heap[b2]?=some (.cells #[.int .i64 210] 27 (0,0))
 l:W.heap[l]?=some (.loop (rec .done (some .ret)))
 d:W.heap[D]?=some (.deferred (some []))
 b:Below n0 w0 W
def leftIn(a:Nat)(W:World):Nat:=match W.cell? ⟨a,0,none⟩ with | some (.string s)=>s.size | _=>0
theorem bZ{W:World}{B:Nat}{v f:Value}{t:TypeId}(h:W.heap[B]?=some (.cells #[v] t (0,0))):(W.setCell ⟨B,0,none⟩ f).heap[B]?=some (.cells #[f] t (0,0)):=by
 obtain⟨d,b⟩:=Array.getElem?_eq_some_iff.1 h;show (W.heap.modify B _)[B]?=_;rw[Array.getElem?_eq_getElem (by rw[Array.size_modify];exact d),Array.getElem_modify_self,b];rfl
theorem RInv.step{rec:LoopState->Option Code->Loop}{m:Nat}{o:World}{l D e c f j:Nat}{rest:Str}{W:World}(h:RInv rec m o l D e c f j rest W)(k:c≠f/\c≠j/\c≠e/\c≠l/\c≠D/\m<=c)(r:Str) :
  RInv rec m o l D e c f j r (W.setCell ⟨c,0,none⟩ (.string ⟨r.toArray⟩)):=by
 obtain⟨q,u,w,x,y,z⟩:=k;exact⟨bZ h.s,(Below.heap_setCell W _ _ _ (Ne.symm q)).trans h.p,(Below.heap_setCell W _ _ _ (Ne.symm u)).trans h.v,(Below.heap_setCell W _ _ _ (Ne.symm w)).trans h.r,(Below.heap_setCell W _ _ _ (Ne.symm x)).trans h.l,(Below.heap_setCell W _ _ _ (Ne.symm y)).trans h.d,h.b.setCell (p:=⟨c,0,none⟩) z _⟩
theorem PD{rec:LoopState->Option Code->Loop}{n0:Nat}{w0:World}{l D b2 bs bp bv:Nat}(hne:bs≠bp/\bs≠bv/\bs≠b2/\bs≠l/\bs≠D/\n0<=bs)
  (hIdx:∀(s:Str) (w:World),Calls Tryz.prog 233 #[.string ⟨s.toArray⟩,.string ⟨#[47]⟩] w (fun e w'=>e=.returned (.int .i64 (Lib.indexByte s 47))/\w'=w))
  (hY:∀rest x W,RInv rec n0 w0 l D b2 bs bp bv rest W->YieldAt Fence.wide 3 Tryz.prog l #[.string ⟨x.toArray⟩] W (fun e W'=>(V3 x=true/\e=.returned (.bool true)/\RInv rec n0 w0 l D b2 bs bp bv rest W')\/(V3 x=false/\e=.returned (.bool false)/\RFin rec n0 w0 l D b2 W')))
  (p:Str) (hp:p.length<=1073741824) (W:World) (hI:RInv rec n0 w0 l D b2 bs bp bv p W) :
  CallsIn Fence.wide 4 Tryz.prog 292 #[.func (.yield l) #[] #[],.pointer (some ⟨bp,0,none⟩),.pointer (some ⟨bs,0,none⟩),.pointer (some ⟨bv,0,none⟩)] W (fun e W'=>(∃v,e=.returned v) /\
   (((K2 [] p).all V3=true/\∃rest,RInv rec n0 w0 l D b2 bs bp bv rest W')\/((K2 [] p).all V3=false/\RFin rec n0 w0 l D b2 W'))):=by
 refine callsIn_of_wp Tryz.func292 rfl trivial ?_ rfl;simp only[Tryz.ntmps292,List.size_toArray,C34,C43,Nat.reduceAdd,Nat.reduceSub,Array.replicate_succ,Array.replicate_zero,List.push_toArray,List.append_toArray,C58,C57];have hcp:=m7 hI.p
 gi_wp2
 gi_loopw [7] (fun v wr=>∃rest:Str,rest.length<=p.length/\(K2 [] p).all V3=(K2 [] rest).all V3/\RInv rec n0 w0 l D b2 bs bp bv rest wr) (fun v wr=>leftIn bs wr)
 case atStart=>exact⟨p,Nat.le_refl _,rfl,hI⟩
 case round =>
  obtain⟨rest,hl,hall,hR⟩:=hrel;obtain⟨hs1,hs2⟩:=m7 hR.s;obtain⟨hp1,hp2⟩:=m7 hR.p;obtain⟨hv1,hv2⟩:=m7 hR.v;rcases V7 47 rest with ⟨h1,h2⟩ | ⟨x,r,h1,h2,h3⟩
  ·rw[pL _ _ h1]at hall;obtain⟨fn,tmps,assign,body,hy,hRd⟩:=hY rest rest wr hR
   gi_wp2_with (refine⟨trivial,?_⟩;gi_at_call 233;refine (callsIn_wide.2 (hIdx rest _)).mono ?_;rintro e w' ⟨rfl,rfl⟩;rw[h2])
   refine hRd.mono ?_;rintro e W' (⟨h5,rfl,h6⟩ | ⟨h5,rfl,h6⟩)
   ·gi_wp2
    go_end0
    exact⟨⟨_,rfl⟩,.inl ⟨by simp[hall,h5],rest,h6⟩⟩
   ·gi_wp2
    go_end0
    exact⟨⟨_,rfl⟩,.inr ⟨by simp[hall,h5],h6⟩⟩
  ·subst h1;rw[pK _ _ _ h2,List.all_cons]at hall;have hxl:x.length<(x++47::r).length:=by simp
   have hex:(⟨(x++47::r).toArray⟩:ByteArray).extract 0 x.length=⟨x.toArray⟩:=by
    apply ByteArray.ext;rw[ByteArray.data_extract];simp
   have hex2:(⟨(x++47::r).toArray⟩:ByteArray).extract (x.length+1) (x.length+(r.length+1))=⟨r.toArray⟩:=by
    apply ByteArray.ext;rw[ByteArray.data_extract];simp;exact C65 B1
   obtain⟨fn,tmps,assign,body,hy,hRd⟩:=hY _ x wr hR
   gi_wp2_with (refine⟨trivial,?_⟩;gi_at_call 233;refine (callsIn_wide.2 (hIdx _ _)).mono ?_;rintro e w' ⟨rfl,rfl⟩;rw[h3])
   refine hRd.mono ?_;rintro e W' (⟨h5,rfl,h6⟩ | ⟨h5,rfl,h6⟩)
   ·obtain⟨hs3,hs4⟩:=m7 h6.s;obtain⟨hp3,hp4⟩:=m7 h6.p
    gi_wp2
    try rw[hex2]
    have h7:=h6.step hne r;refine⟨⟨r,by simp at hl;omega,by simp[hall,h5],h7⟩,?_⟩;unfold leftIn;rw[(m7 h7.s).1,hs1];show r.toArray.size<(x++47::r).toArray.size;simp;omega
   ·gi_wp2
    refine bodyPost_ret (results_none Z _ _ _) Z ?_;exact⟨⟨_,rfl⟩,.inr ⟨by simp[hall,h5],h6⟩⟩
def chkPost(b:Nat)(x:Str)(W:World):Exit->Act->World->Prop
 | .normal,_,W'=>V3 x=true/\W'=W
 | .ret,_,W'=>V3 x=false/\W'=W.setCell ⟨b,0,none⟩ (.int .i64 210)
 | _,_,_=>False
theorem PE{ps:Array Tmp}{assign body:Code}{Q:Exit->Act->World->Prop}{a:Act}{w:World}{g:Operand}{b2 bs bp bv:Nat}{n0:Nat}{w0:World}{p:Str}(hp:p.length<=1073741824)
  (hne:bs≠bp/\bs≠bv/\bs≠b2/\n0<=bs/\n0<=b2) (hlt:bs<w.heap.size/\b2<w.heap.size/\n0<=w.heap.size) (hps:ps.size=1)
  (hIdx:∀(s:Str) (w:World),Calls Tryz.prog 233 #[.string ⟨s.toArray⟩,.string ⟨#[47]⟩] w (fun e w'=>e=.returned (.int .i64 (Lib.indexByte s 47))/\w'=w))
  (hg:a.eval g=.func (.func 292) #[] #[.pointer (some ⟨bp,0,none⟩),.pointer (some ⟨bs,0,none⟩),.pointer (some ⟨bv,0,none⟩)])
  (hs:w.heap[bs]?=some (.cells #[.string ⟨p.toArray⟩] 9 (0,0))) (hsp:w.heap[bp]?=some (.cells #[.string ⟨#[47]⟩] 9 (0,0))) (hsv:w.heap[bv]?=some (.cells #[.int .i64 0] 3 (0,0))) (hr:w.heap[b2]?=some (.cells #[.int .i64 0] 27 (0,0))) (hb:Below n0 w0 w)
  (a₁:Str->Act)
  (hassign:∀(l:Nat) (x:Str) (W:World) (K:Act->World->Prop),K (a₁ x) W ->
   assign.wpIn (Fence.wide.inRound l) 3 Tryz.prog (Exit.then K (fun _ _ _=>False)) { tmps:=(ps.zip #[Value.string ⟨x.toArray⟩]).foldl (fun t (p,v)=>t.setIfInBounds p v) a.tmps,defers:=[] } W)
  (hbody:∀(l:Nat) (x:Str) (W:World),W.heap[b2]?=some (.cells #[.int .i64 0] 27 (0,0))->body.wpIn (Fence.wide.inRound l) 3 Tryz.prog (chkPost b2 x W) (a₁ x) W)
  (hdone:∀(D:Nat) (W:World),w.heap.size<=D->(K2 [] p).all V3=true->W.heap[b2]?=some (.cells #[.int .i64 0] 27 (0,0))->W.heap[D]?=some (.deferred (some []))->Below n0 w0 W->Q .normal { a with defers:={ target:=.collected D,args:=#[] }::a.defers } W)
  (hstop:∀(D:Nat) (W:World),w.heap.size<=D->(K2 [] p).all V3=false->W.heap[b2]?=some (.cells #[.int .i64 210] 27 (0,0))->W.heap[D]?=some (.deferred (some []))->Below n0 w0 W->Code.ret.wpIn Fence.wide 5 Tryz.prog Q { a with defers:={ target:=.collected D,args:=#[] }::a.defers } W) :
  (Code.rangeFunc g ps assign body).wpIn Fence.wide 5 Tryz.prog Q a w:=by
 refine wpIn_rangeFunc ?_;intro fn hfn;obtain⟨rec,hrec⟩:∃rec:LoopState->Option Code->Loop,rec=fun st pe=>{ state:=st,pending:=pe,fn,tmps:=a.tmps,params:=ps,assign,body,defers:=w.heap.size }:=⟨_,rfl⟩
 obtain⟨W1,hW1⟩:∃W1,(w.alloc (.deferred (some []))).alloc (.loop (rec .ready none))=W1:=⟨_,rfl⟩
 have old:∀k o,w.heap[k]?=some o->W1.heap[k]?=some o:=fun k o h=>by
  have hlt:=(Array.getElem?_eq_some_iff.1 h).1;rw[<-hW1];exact (Below.heap_alloc _ _ _ (by rw[World.size_alloc];omega)).trans ((Below.heap_alloc _ _ _ hlt).trans h)
 have hL1:W1.heap[w.heap.size+1]?=some (.loop (rec .ready none)):=by
  rw[<-hW1];have:=World.alloc_heap_new (w.alloc (.deferred (some []))) (.loop (rec .ready none));rwa[World.size_alloc]at this
 have hK1:W1.heap[w.heap.size]?=some (.deferred (some [])):=by
  rw[<-hW1];exact (Below.heap_alloc _ _ _ s6).trans (World.alloc_heap_new w _)
 have hb1:Below n0 w0 W1:=by
  rw[<-hW1];exact hb.trans (((Below.refl n0 w).alloc hlt.2.2 _).alloc YN _)
 refine⟨w.heap.size+1,[{ target:=.collected w.heap.size,args:=#[] }],W1,{ target:=.fn (.func 292) #[.pointer (some ⟨bp,0,none⟩),.pointer (some ⟨bs,0,none⟩),.pointer (some ⟨bv,0,none⟩)],args:=#[.func (.yield (w.heap.size+1)) #[] #[]] },W1,292,
  #[.func (.yield (w.heap.size+1)) #[] #[],.pointer (some ⟨bp,0,none⟩),.pointer (some ⟨bs,0,none⟩),.pointer (some ⟨bv,0,none⟩)],W1,?_,?_,?_,?_,fun _=>by omega,?_⟩
 ·rw[<-hW1,hrec];exact run_enterLoop_outer _ _ _ _ _
 ·simp only[resolve,hg];simp[go_sem]
 ·intro f' hf';trivial
 ·simp[invoke,go_sem]
 ·have hY:∀rest x W,RInv rec n0 w0 (w.heap.size+1) w.heap.size b2 bs bp bv rest W->YieldAt Fence.wide 3 Tryz.prog (w.heap.size+1) #[.string ⟨x.toArray⟩] W (fun e W'=>(V3 x=true/\e=.returned (.bool true)/\RInv rec n0 w0 (w.heap.size+1) w.heap.size b2 bs bp bv rest W')\/(V3 x=false/\e=.returned (.bool false)/\RFin rec n0 w0 (w.heap.size+1) w.heap.size b2 W')):=by
   intro rest x W hI;have hy:=run_yield (P:=Tryz.prog) (args:=#[Value.string ⟨x.toArray⟩]) hI.l (by rw[hrec];exact hps.symm);rw[hrec]at hy;refine⟨fn,_,assign,body,hy,roundIn_of_wpIn hfn (hassign _ x W _ ⟨_,run_beginRound hI.l (by rw[hrec]),?_⟩)⟩;have hltl:w.heap.size+1<W.heap.size:=(Array.getElem?_eq_some_iff.1 hI.l).1;obtain⟨W2,hW2⟩:∃W2,W.putObj (w.heap.size+1) (.loop { rec .ready none with state:=.busy })=W2:=⟨_,rfl⟩
   rw[hW2];have oth:∀k,k≠w.heap.size+1->W2.heap[k]?=W.heap[k]?:=fun k hk=>by rw[<-hW2];exact World.putObj_heap_other hk
   have hl2:W2.heap[w.heap.size+1]?=some (.loop { rec .ready none with state:=.busy }):=by rw[<-hW2];exact World.putObj_heap_same hltl
   have hbB:∀(o:Obj) (X:World),Below n0 w0 X->w.heap.size+1<X.heap.size->Below n0 w0 (X.putObj (w.heap.size+1) o):=fun o X hX hXs=>hX.grown (grownBy_putObj' X _ o) (by have:=hX.size;omega) (fun k e=>by cases e;omega);have hb2:Below n0 w0 W2:=by rw[<-hW2];exact hbB _ _ hI.b hltl
   refine wpIn_mono (hbody _ x W2 ((oth _ B1).trans hI.r)) ?_;rintro e a3 W3 hp;cases e with
   | normal =>
    obtain⟨hok,rfl⟩:=hp;refine⟨_,_,run_endRound none hl2,.inl ⟨hok,rfl,?_⟩⟩;have fin:∀k,k≠w.heap.size+1->(W3.putObj (w.heap.size+1) (.loop { rec .ready none with state:=.ready,pending:=none })).heap[k]?=W.heap[k]?:=fun k hk=>(World.putObj_heap_other hk).trans (oth k hk);have hsz:w.heap.size+1<W3.heap.size:=(Array.getElem?_eq_some_iff.1 hl2).1;have hbs:=(Array.getElem?_eq_some_iff.1 hs).1;have hbp:=(Array.getElem?_eq_some_iff.1 hsp).1;have hbv:=(Array.getElem?_eq_some_iff.1 hsv).1;refine⟨(fin _ B1).trans hI.s,(fin _ B1).trans hI.p,(fin _ B1).trans hI.v,(fin _ B1).trans hI.r,?_,(fin _ B1).trans hI.d,hbB _ _ hb2 hsz⟩;refine (World.putObj_heap_same hsz).trans ?_;rw[hrec];rfl
   | ret =>
    obtain⟨hok,rfl⟩:=hp;have hl3:(W2.setCell ⟨b2,0,none⟩ (.int .i64 210)).heap[w.heap.size+1]?=some (.loop { rec .ready none with state:=.busy }):=(Below.heap_setCell W2 _ _ _ (by show w.heap.size+1≠b2;omega)).trans hl2;have hsz:w.heap.size+1<(W2.setCell ⟨b2,0,none⟩ (.int .i64 210)).heap.size:=(Array.getElem?_eq_some_iff.1 hl3).1;refine⟨_,_,run_endRound (some .ret) hl3,.inr ⟨hok,rfl,?_⟩⟩;refine⟨(World.putObj_heap_other B1).trans (bZ ((oth _ B1).trans hI.r)),?_,?_,hbB _ _ (hb2.setCell (p:=⟨b2,0,none⟩) hne.2.2.2.2 _) hsz⟩
    ·refine (World.putObj_heap_same hsz).trans ?_;rw[hrec];rfl
    ·exact (World.putObj_heap_other B1).trans ((Below.heap_setCell W2 _ _ _ (by show w.heap.size≠b2;omega)).trans ((oth _ B1).trans hI.d))
   | _=>exact hp.elim
  refine (PD ⟨hne.1,hne.2.1,hne.2.2.1,by omega,by omega,hne.2.2.2.1⟩ hIdx hY p hp W1 ⟨old _ _ hs,old _ _ hsp,old _ _ hsv,old _ _ hr,hL1,hK1,hb1⟩).mono ?_;have hbE:∀(o:Obj) (X:World),Below n0 w0 X->w.heap.size+1<X.heap.size->Below n0 w0 (X.putObj (w.heap.size+1) o):=fun o X hX hXs=>hX.grown (grownBy_putObj' X _ o) (by have:=hX.size;omega) (fun k e=>by cases e;omega);rintro e W2 ⟨⟨v,rfl⟩,(⟨hall,rest,hI⟩ | ⟨hall,hI⟩)⟩
  ·have hsz:w.heap.size+1<W2.heap.size:=(Array.getElem?_eq_some_iff.1 hI.l).1;refine⟨none,_,by have:=run_endLoop (P:=Tryz.prog) hI.l (by rw[hrec];simp);rw[hrec]at this;exact this,?_⟩;exact hdone _ _ (Nat.le_refl _) hall ((World.putObj_heap_other B1).trans hI.r) ((World.putObj_heap_other B1).trans hI.d) (hbE _ _ hI.b hsz)
  ·have hsz:w.heap.size+1<W2.heap.size:=(Array.getElem?_eq_some_iff.1 hI.l).1;refine⟨some .ret,_,by have:=run_endLoop (P:=Tryz.prog) hI.l (by rw[hrec];simp);rw[hrec]at this;exact this,?_⟩;exact hstop _ _ (Nat.le_refl _) hall ((World.putObj_heap_other B1).trans hI.r) ((World.putObj_heap_other B1).trans hI.d) (hbE _ _ hI.b hsz)
theorem PF(w:World)(s p:ByteArray):CallsIn Fence.wide 3 Tryz.prog 248 #[.string s,.string p,.int .i64 0] w fun e w' =>
  e=.returned (.func (.func 292) #[] #[.pointer (some ⟨w.heap.size+1,0,none⟩),.pointer (some ⟨w.heap.size,0,none⟩),.pointer (some ⟨w.heap.size+1+1,0,none⟩)]) /\
  w'=((w.alloc (.cells #[.string s] 9)).alloc (.cells #[.string p] 9)).alloc (.cells #[.int .i64 0] 3):=by
 have hmf:∀(fn:Fn) (first cap:Array Value) (w:World),(Instr.makeFunc fn first cap).run Tryz.prog w=.ok (.func fn first cap) w:=fun _ _ _ _=>rfl;refine callsIn_of_wp Tryz.func248 rfl trivial ?_ rfl;simp only[Tryz.ntmps248,List.size_toArray,C34,C43,Nat.reduceAdd,Nat.reduceSub,Array.replicate_succ,Array.replicate_zero,List.push_toArray,List.append_toArray,C58,C57]
 gi_wp2
 go_ret
 exact⟨rfl,rfl⟩
theorem PG(w:World)(s p:ByteArray):CallsIn Fence.wide 4 Tryz.prog 184 #[.string s,.string p] w fun e w' =>
  e=.returned (.func (.func 292) #[] #[.pointer (some ⟨w.heap.size+1,0,none⟩),.pointer (some ⟨w.heap.size,0,none⟩),.pointer (some ⟨w.heap.size+1+1,0,none⟩)]) /\
  w'=((w.alloc (.cells #[.string s] 9)).alloc (.cells #[.string p] 9)).alloc (.cells #[.int .i64 0] 3):=by
 refine callsIn_of_wp Tryz.func184 rfl trivial ?_ rfl;simp only[Tryz.ntmps184,List.size_toArray,C34,C43,Nat.reduceAdd,Nat.reduceSub,Array.replicate_succ,Array.replicate_zero,List.push_toArray,List.append_toArray,C58,C57]
 gi_wp2_with (refine⟨trivial,?_⟩;gi_at_call 248;refine (PF _ _ _).mono ?_;rintro e w' ⟨rfl,rfl⟩)
 go_ret
 exact⟨rfl,rfl⟩
theorem sY{tmps:Array Value}{b:Nat}{v:Value}{W:World}(ht:tmps[2]?.getD undef=.pointer (some ⟨b,0,none⟩))(hc:W.heap[b]?=some (.cells #[v] 27 (0,0))):(results Tryz.f113 tmps).run Tryz.prog W=.ok v W:=by
 have h1:=(m7 hc).1;simp[results,Tryz.results113,go_sem,h1,ht]
theorem LD(p:Str)(hp:p.length<=1073741824)
  (hIdx:∀(s:Str) (w:World),Calls Tryz.prog 233 #[.string ⟨s.toArray⟩,.string ⟨#[47]⟩] w (fun e w'=>e=.returned (.int .i64 (Lib.indexByte s 47))/\w'=w))
  (hCon:∀(s:Str) (w:World),Calls Tryz.prog 183 #[.string ⟨s.toArray⟩,.string ⟨#[0]⟩] w (fun e w'=>e=.returned (.bool (decide (0<=Lib.indexByte s 0)))/\w'=w)) (w:World) :
  CallsIn Fence.wide 5 Tryz.prog 113 #[.string ⟨p.toArray⟩] w (fun e w'=>e=.returned (.int .i64 (if p.length>200\/0<=Lib.indexByte p 0 then 210 else if (K2 [] p).all V3=true then 0 else 210))/\Below w.heap.size w w'):=by
 refine callsIn_of_wp_marks Tryz.func113 rfl trivial ?_ rfl;simp only[Tryz.ntmps113,List.size_toArray,C34,C43,Nat.reduceAdd,Nat.reduceSub,Array.replicate_succ,Array.replicate_zero,List.push_toArray,List.append_toArray,C58,C57];have hnew:=m7 (World.alloc_heap_new w (.cells #[.int .i64 0] 27));have hB:Below w.heap.size w (w.alloc (.cells #[.int .i64 0] 27)):=(Below.refl _ w).alloc (Nat.le_refl _) _;by_cases h1:200<p.length
 ·rw[A5 (.inl h1)]
  gi_wp2_with (refine⟨trivial,?_⟩)
  exact⟨_,sY rfl (World.alloc_heap_new w _),rfl,(Below.refl _ w).alloc (Nat.le_refl _) _⟩
 by_cases h2:0<=Lib.indexByte p 0
 ·rw[A5 (.inr h2)]
  gi_wp2_with (refine⟨trivial,?_⟩;gi_at_call 183;refine (callsIn_wide.2 (hCon p _)).mono ?_;rintro e w' ⟨rfl,rfl⟩)
  exact⟨_,sY rfl (World.alloc_heap_new w _),rfl,(Below.refl _ w).alloc (Nat.le_refl _) _⟩
 ·rw[A6 B1];obtain⟨r,hr0⟩:∃r:Int,(if (K2 [] p).all V3=true then 0 else 210:Int)=r:=⟨_,rfl⟩
  rw[hr0]
  gi_wp2_with (first | (refine⟨trivial,?_⟩;gi_at_call 183;refine (callsIn_wide.2 (hCon p _)).mono ?_;rintro e w' ⟨rfl,rfl⟩) | (refine⟨trivial,?_⟩;gi_at_call 184;refine (PG _ _ _).mono ?_;rintro e w' ⟨rfl,rfl⟩))
  obtain⟨W0,hW0⟩:∃W0,(((w.alloc (.cells #[.int .i64 0] 27)).alloc (.cells #[.string ⟨p.toArray⟩] 9)).alloc (.cells #[.string ⟨#[47]⟩] 9)).alloc (.cells #[.int .i64 0] 3)=W0:=⟨_,rfl⟩
  have hsz:W0.heap.size=w.heap.size+4:=by rw[<-hW0];simp
  have g0:W0.heap[w.heap.size]?=some (.cells #[.int .i64 0] 27 (0,0)):=by
   rw[<-hW0];refine (Below.heap_alloc _ _ _ YN).trans ((Below.heap_alloc _ _ _ YN).trans ((Below.heap_alloc _ _ _ s6).trans (World.alloc_heap_new w _)))
  have g1:W0.heap[w.heap.size+1]?=some (.cells #[.string ⟨p.toArray⟩] 9 (0,0)):=by
   rw[<-hW0];refine (Below.heap_alloc _ _ _ s6).trans ((Below.heap_alloc _ _ _ s6).trans ?_);have:=World.alloc_heap_new (w.alloc (.cells #[.int .i64 0] 27)) (.cells #[.string ⟨p.toArray⟩] 9)
   rwa[World.size_alloc]at this
  have g2:W0.heap[w.heap.size+1+1]?=some (.cells #[.string ⟨#[47]⟩] 9 (0,0)):=by
   rw[<-hW0];refine (Below.heap_alloc _ _ _ s6).trans ?_;have:=World.alloc_heap_new ((w.alloc (.cells #[.int .i64 0] 27)).alloc (.cells #[.string ⟨p.toArray⟩] 9)) (.cells #[.string ⟨#[47]⟩] 9);simp only[World.size_alloc]at this;exact this
  have g3:W0.heap[w.heap.size+1+1+1]?=some (.cells #[.int .i64 0] 3 (0,0)):=by
   rw[<-hW0];have:=World.alloc_heap_new (((w.alloc (.cells #[.int .i64 0] 27)).alloc (.cells #[.string ⟨p.toArray⟩] 9)).alloc (.cells #[.string ⟨#[47]⟩] 9)) (.cells #[.int .i64 0] 3);simp only[World.size_alloc]at this;exact this
  have hb0:Below w.heap.size w W0:=by
   rw[<-hW0];exact (((hB.alloc s6 _).alloc YN _).alloc YN _)
  rw[hW0];refine PE (b2:=w.heap.size) (bs:=w.heap.size+1) (bp:=w.heap.size+1+1) (bv:=w.heap.size+1+1+1) (n0:=w.heap.size) (w0:=w) (p:=p) hp B1 B1 rfl hIdx rfl g1 g2 g3 g0 hb0 (fun x=>{ tmps:=#[.string ⟨p.toArray⟩,undef,.pointer (some ⟨w.heap.size,0,none⟩),.string ⟨x.toArray⟩,.string ⟨p.toArray⟩,.int .i64 p.length,.bool (decide (200<(p.length:Int))),.bool (decide (200<(p.length:Int))),.string ⟨p.toArray⟩,.bool (decide (0<=Lib.indexByte p 0)),.bool (decide (200<(p.length:Int))||decide (0<=Lib.indexByte p 0)),.string ⟨p.toArray⟩,.func (.func 292) #[] #[.pointer (some ⟨w.heap.size+1+1,0,none⟩),.pointer (some ⟨w.heap.size+1,0,none⟩),.pointer (some ⟨w.heap.size+1+1+1,0,none⟩)],.string ⟨x.toArray⟩,undef,undef,undef,undef,undef,undef,undef,undef,undef,undef],defers:=[] }) ?assign ?body ?done ?stop
  case assign =>
   intro l x W K hK
   gi_wp2
   exact hK
  case body =>
   intro l x W hr;obtain⟨hc1,hc2⟩:=m7 hr;by_cases e1:x=[]
   ·subst e1
    gi_wp2
    exact⟨rfl,rfl⟩
   by_cases e2:x=[46]
   ·subst e2
    gi_wp2
    exact⟨rfl,rfl⟩
   by_cases e3:x=[46,46]
   ·subst e3
    gi_wp2
    exact⟨rfl,rfl⟩
   have f1:x.isEmpty=false:=by cases x with | nil=>exact absurd rfl e1 | cons _ _=>rfl
   have f2:(x == [46])=false:=by simpa using e2
   have f3:(x == [46,46])=false:=by simpa using e3
   have hok:V3 x=true:=A3 ⟨e1,e2,e3⟩;clear e1 e2 e3
   gi_wp2
   all_goals exact⟨hok,rfl⟩
  case done =>
   intro D W hD hall hr hK hb;obtain⟨hc1,hc2⟩:=m7 hr;rw[A5 hall]at hr0;subst hr0;clear hall
   gi_wp2
   have hK2:(W.setCell ⟨w.heap.size,0,none⟩ (.int .i64 0)).heap[D]?=some (.deferred (some [])):=(Below.heap_setCell W _ _ _ (by show D≠w.heap.size;omega)).trans hK;refine⟨by simp,.inl ⟨_,_,rfl,run_takeDeferred hK2,?_⟩⟩;refine⟨_,sY rfl ((World.putObj_heap_other B1).trans (bZ hr)),rfl,?_⟩;have hb3:=hb.setCell (p:=⟨w.heap.size,0,none⟩) (Nat.le_refl _) (.int .i64 0);exact hb3.grown (grownBy_putObj' _ _ _) (by have:=hb3.size;omega) (fun k e=>by cases e;omega)
  case stop =>
   intro D W hD hall hr hK hb;rw[hall,A6 G6]at hr0;subst hr0;clear hall
   gi_wp2
   refine⟨by simp,.inl ⟨_,_,rfl,run_takeDeferred hK,?_⟩⟩;refine⟨_,sY rfl ((World.putObj_heap_other B1).trans hr),rfl,?_⟩;exact hb.grown (grownBy_putObj' W _ _) (by have:=hb.size;omega) (fun k e=>by cases e;omega)
theorem FI(p:Str)(b:p.length<=1073741824):FnOk Tryz.prog 113 [E5 p] (fun c=>c=[D2 (aB p)]) :=
 C03 (xs:=[.string ⟨p.toArray⟩]) ⟨_,rfl,rfl,rfl⟩ rfl fun w d=>by
  have h:=callsIn_wide.1 (LD p b (fun s w=>by simpa using Tryz.strings_Index_one ⟨s.toArray⟩ 47 w) (fun s w=>by simpa using Tryz.strings_Contains_one ⟨s.toArray⟩ 0 w) w);refine h.mono ?_;rintro e w' ⟨rfl,hb⟩;refine⟨?_,hb⟩;rw[MM];have a:p.contains 0=true↔0<=Lib.indexByte p 0:=by rw[pS,List.contains_iff_mem]
  simp only[a]
structure FewF (l:List File):Prop where
 len:l.length<=1073741824
 path:∀f∈l,f.Path.length<=1073741824
 blob:∀f∈l,f.Blob.length<=16777216
theorem UQ(f:File)(a:f.Path.length<=1073741824):FnOk Tryz.prog 112 [ZF f] (fun rs=>rs=[D5 (decide (aB f.Path≠0))]):=by
 refine FnOk.intro Tryz.func112 G6 Z Z Z Z (zz 2 ?_);refine B8 (P3 1 Z Z Z) Z (zz 6 ?_);refine D3 (FI f.Path a) (zz 4 ?_);exact A8 (F7 rfl rfl rfl) rfl
theorem UR(f:File)(a:f.Blob.length<=16777216):FnOk Tryz.prog 115 [ZF f] (fun rs=>rs=[D5 (decide (s9 f.Blob≠0))]):=by
 refine FnOk.intro Tryz.func115 G6 Z Z Z Z (zz 2 ?_);refine B8 (P3 1 Z Z Z) Z (zz 6 ?_);refine D3 (HG f.Blob B1) (zz 4 ?_);exact A8 (F7 rfl rfl rfl) rfl
theorem US(l:List File)(h:FewF l):FnOk Tryz.prog 56 [fF l] (fun rs=>rs=[D2 (K6 l)]):=by
 have d:=h.len;refine FnOk.intro Tryz.func56 G6 Z Z Z Z ?_;refine zc 13 (fun a=>?_) fun a=>?_
 ·have g:(200:Int)<l.length:=A0 a;refine zz 5 ?_;exact A8 (rs:=[D2 1]) (F7 rfl rfl rfl) (by unfold K6;rw[A5 B1])
 have g:¬(200:Int)<l.length:=A1 a;refine zz 3 ?_;refine D3 (kZ 112 (fun f=>decide (aB f.Path≠0)) l d (fun f c=>UQ f (h.path f c))) ?_;refine zc 2 (fun a=>?_) fun a=>?_
 ·refine zz 5 ?_;exact A8 (rs:=[D2 210]) (F7 rfl rfl rfl) (by unfold K6;rw[A6 B1,A5 a])
 have b:=a;refine zz 3 ?_;refine D3 (PC l d h.path) ?_;refine zc 3 (fun a=>?_) fun a=>?_
 ·refine zz 5 ?_;exact A8 (rs:=[D2 211]) (F7 rfl rfl rfl) (by unfold K6;rw[A6 B1,A6 (by rw[b];decide),A5 (by simpa using a)])
 have e:t6 l=true:=by simpa using a
 refine zz 3 ?_;refine D3 (kZ 115 (fun f=>decide (s9 f.Blob≠0)) l d (fun f c=>UR f (h.blob f c))) ?_;refine zc 2 (fun a=>?_) fun a=>?_
 ·refine zz 5 ?_;exact A8 (rs:=[D2 1]) (F7 rfl rfl rfl) (by unfold K6;rw[A6 B1,A6 (by rw[b];decide),A6 (by rw[e];decide),A5 a])
 ·refine zz 6 ?_;exact A8 (rs:=[D2 0]) (F7 rfl rfl rfl) (by unfold K6;rw[A6 B1,A6 (by rw[b];decide),A6 (by rw[e];decide),A6 (by rw[a];decide)])
theorem B23(l:List File)(p:Str)(q:l.length<=1073741824):FnOk Tryz.prog 135 [fF l,E5 p] (fun rs=>rs=[E5 ((U8 l p).getD []),D5 (U8 l p).isSome]):=by
 refine FnOk.intro Tryz.func135 G6 Z Z Z Z (zz 13 ?_);refine C5 (X:=Nat) (fun i=>([(1,H6 p),(8,C0 File 2 v6 l),(9,B2 l.length),(10,B2 i)],[])) (fun i=>i<=l.length/\U8 l p=U8 (l.drop i) p) (fun i=>l.length-i) 0 ⟨Nat.zero_le _,rfl⟩ (Sees.of lf lo) ?_;rintro i ⟨k,a⟩;dsimp only at k a ⊢;refine zc 5 (fun d=>?_) fun d=>?_;rotate_left
 ·have b:i=l.length:=by have b:=A1 d;(try dsimp only at b);omega
  rw[C51 B1]at a;rw[a];refine zz 7 ?_;exact A8 (rs:=[E5 [],D5 false]) (S8 rfl rfl rfl rfl rfl) rfl
 have c:i<l.length:=by have b:=A0 d;(try dsimp only at b);omega
 obtain⟨f,h⟩:∃f,f=l[i]:=⟨_,rfl⟩
 have n:l[i]?=some f:=by rw[h];simp[c]
 rw[C38 c,<-h]at a;have j:U8 (f::l.drop (i+1)) p=if f.Path=p then some f.Blob else U8 (l.drop (i+1)) p:=rfl
 rw[j]at a;refine zz 5 ?_;refine A7 (A9 Z (.pure _ _ _ _) Z B1 n) Z (zz 1 ?_);refine B8 (E6 7 Z) Z ?_;refine zc 9 (fun d=>?_) fun d=>?_
 ·have b:f.Path=p:=A0 d;rw[A5 b]at a;rw[a];refine zz 8 ?_;exact A8 (rs:=[E5 f.Blob,D5 true]) (S8 rfl rfl rfl rfl rfl) rfl
 ·have b:¬f.Path=p:=A1 d;rw[A6 b]at a;refine zz 5 ?_;exact⟨i+1,⟨c,a⟩,by omega,(Sees.of lf lo)⟩
end Go.Proofs.YtgkjogphmmoakaaGreatDoor
