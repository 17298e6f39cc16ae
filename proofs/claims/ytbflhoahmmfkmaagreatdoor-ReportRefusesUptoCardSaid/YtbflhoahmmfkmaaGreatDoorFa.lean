/- Walks of the program's functions. -/
import Derived.Test.YtbflhoahmmfkmaaGreatDoorTy
import Derived.Test.YtbflhoahmmfkmaaGreatDoorFs
import Derived.Test.YtbflhoahmmfkmaaGreatDoorSh
import Derived.Lib.AppendIntMem
set_option linter.all false
namespace Go.Proofs.YtbflhoahmmfkmaaGreatDoor
open Go Go.AL
set_option maxRecDepth 100000
theorem sD(p:Int):0<=IntKind.u64.wrap p:=by simp[IntKind.wrap,IntKind.signed,IntKind.bits];omega
theorem xY(b:Str)(hb:b.length<=536870912):FnOk Tryz.prog 12 [F9 b] (fun I=>I=[cY (H0 b)]):=by
 refine FnOk.intro Tryz.func12 (by decide) Z Z Z Z ?_;refine k2 ?_;refine A7 (A6 (A9 Z Z) Z (B0 ?_));refine k1 (k2 ?_);refine A7 (E1 (gN 3 _ n9 Z) Z (B0 ?_));refine k1 (k2 ?_);refine A7 (A6 (A9 Z Z) Z (B0 ?_));refine k1 (k2 (k2 ?_));refine A7 (A6 (A9 Z Z) Z (B0 ?_));refine k1 (k3 ?_);refine D3 (X:=Nat×Nat×List Str) (fun x=>([(0,L6 b),(3,.s (.one (.buf 3 Str 1 n9 x.2.2))),(4,D5 x.2.1),(5,D5 x.1)],[(3,.spare x.2.2.length 1 9)]))
  (fun x=>x.1<=b.length/\x.2.1<=x.1/\x.2.2.length<=x.1/\(x.1=b.length->x.2.1=x.1)/\x.2.2++G9 ((b.drop x.2.1).take (x.1-x.2.1)) (b.drop x.1)=H0 b) (fun x=>b.length-x.1) (0,0,[]) (by simp[H0]) ?_ ?_
 ·exact Sees.of ⟨⟨_,rfl,.same _⟩,⟨_,rfl,.same _⟩,⟨_,rfl,.same _⟩,⟨_,rfl,.same _⟩,trivial⟩ ⟨rfl,trivial⟩
 ·rintro⟨i,d,B⟩ ⟨E,y,F,C,v⟩;dsimp only at E y F C v ⊢;refine k2 (k2 ?_);refine A7 (A6 (A8 Z Z) Z (A6 (A8 Z Z) Z (A6 (H1 Z) Z (A6 (E9 Z Z) Z (B0 ?_)))));refine k1 ?_;refine B2 rfl (fun A=>?_) (fun A=>?_)
  ·have g:i<b.length:=by simpa using A
   have H:b[i]?=some b[i]:=by simp[g]
   refine k5 (k1 (k2 (k3 (k2 ?_))));refine A7 (A6 (A8 Z Z) Z (A6 (A8 Z Z) Z (A6 (K3 Z Z (by omega) H) Z (A6 (J9 Z Z) Z (A6 (A8 Z Z) Z (B1 Z Z Z Z (fun q=>by rw[q];exact A8 Z Z) ?_))))));refine B1 Z Z Z Z (fun q=>by have G:=q;(try simp at G);rw[q];exact E2 Z Z (by omega)) ?_;refine B1 Z Z Z Z (fun q=>by rw[q];exact A8 Z Z) ?_;refine B1 Z Z Z Z (fun q=>by rw[q];exact H1 Z) ?_;refine B1 Z Z Z Z (fun q=>by rw[q];exact J9 Z Z) ?_;refine A6 (B6 Z (fun h=>by first | rfl | (rw[h];rfl)) (fun h=>by first | rfl | (rw[h];rfl))) Z ?_;refine B0 ?_;refine k1 ?_;refine B2 rfl (fun j=>?_) (fun j=>?_)
   ·refine k2 ?_;refine A7 (A6 (A8 Z Z) Z (A6 (A8 Z Z) Z (A6 (A8 Z Z) Z (A6 (A8 Z Z) Z (A6 (E2 Z Z (by omega)) Z (A6 (cV Z Z Z (by omega) (by omega) (by omega)) Z (A6 (G2 (c:=n9) (ys:=[_]) (F6 Z Z Z Z M3) Z Z Z) Z (E1 (k9 Z Z Z (.pure _ _ _ _) (by simp;omega) Z) Z (A6 (A9 Z Z) Z (B0 ?_))))))))));refine k1 ?_;refine A7 (A6 (A8 Z Z) Z (A6 (E2 Z Z (by omega)) Z (A6 (A9 Z Z) Z (B0 ?_))));refine k4 (k1 ?_);refine A7 (A6 (A8 Z Z) Z (A6 (E2 Z Z (by omega)) Z (A6 (A9 Z Z) Z (B0 ?_))));refine k1 ?_;refine⟨(i+1,i+1,_),⟨?_,?_,?_,?_,?_⟩,?_,Sees.of ⟨⟨_,rfl,.same _⟩,⟨_,rfl,.same _⟩,⟨_,rfl,.same _⟩,⟨_,rfl,.same _⟩,trivial⟩ ⟨rfl,trivial⟩⟩
    all_goals dsimp only
    ·omega
    ·omega
    ·simp;omega
    ·omega
    ·have w:b[i]=10\/i+1=b.length:=by
      simp only[FB]at j;by_cases h:b[i]=10
      ·exact .inl h
      ·simp[h]at j;exact .inr (by omega)
     rw[sX,HS,JN,List.take_zero,<-lY b d i y g,IL,<-v,IB g,j4];rcases w with h | h
     ·rw[A4 h];rfl
     ·have D:b.drop (i+1)=[]:=JK (by omega);rw[D];split
      ·rfl
      ·rw[show G9 ([]:Str) []=[] from rfl,nP _ (by simp)];simp
    ·omega
   ·refine k5 (k4 (k1 ?_));refine A7 (A6 (A8 Z Z) Z (A6 (E2 Z Z (by omega)) Z (A6 (A9 Z Z) Z (B0 ?_))));refine k1 ?_;refine⟨(i+1,d,B),⟨?_,?_,?_,?_,?_⟩,?_,Sees.of ⟨⟨_,rfl,.same _⟩,⟨_,rfl,.same _⟩,⟨_,rfl,.same _⟩,⟨_,rfl,.same _⟩,trivial⟩ ⟨rfl,trivial⟩⟩
    all_goals dsimp only
    ·omega
    ·omega
    ·omega
    ·intro h;simp[show (i:Int)+1=(b.length:Int) by omega]at j
    ·have w:b[i]≠10:=fun h=>by simp[h]at j
     rw[<-lY b d i y g,<-v,IB g,j4,A5 w]
    ·omega
  ·refine k6 (k2 ?_);refine A7 (A6 (A8 Z Z) Z (A6 (A9 Z Z) Z (B0 ?_)));refine k1 (I2 ?_);refine B4 (G8 Z Z Z) ?_;have z:i=b.length:=by simp at A;omega
   subst z;have:=C rfl;subst this;rw[JN,List.take_zero,JK (Nat.le_refl _)]at v;rw[<-v];simp[G9]
theorem xZ(b:Str)(hb:b.length<=1099511627776):FnOk Tryz.prog 104 [F9 b] (fun rs=>rs=[D0 (L1 b)]):=by
 refine FnOk.intro Tryz.func104 (by decide) Z Z Z Z ?_;refine k2 ?_;refine A7 (A6 (A9 Z Z) Z (B0 ?_));refine k1 (k2 (k2 ?_));refine A7 (A6 (A8 Z Z) Z (A6 (H1 Z) Z (A6 (N1 Z Z) Z (A6 (A8 Z Z) Z (B1 Z Z Z Z (fun a=>by rw[a];exact A8 Z Z) ?_)))));refine B1 Z Z Z Z (fun a=>by have d:=a;(try simp at d);rw[a];exact M2 (xY b (by omega)) Z Z) ?_;refine B1 Z Z Z Z (fun a=>by rw[a];exact F3 Z (.pure _ _ _ _)) ?_;refine B1 Z Z Z Z (fun a=>by rw[a];exact N1 Z Z) ?_;refine A6 (B6 Z (fun h=>by first | rfl | (rw[h];rfl)) (fun h=>by first | rfl | (rw[h];rfl))) Z ?_;refine B0 ?_;refine k1 ?_;refine B2 rfl (fun c=>?_) (fun c=>?_)
 ·have h:=A0 (or_pick.symm.trans c);refine k2 ?_;refine A7 (A6 (A9 Z Z) Z (B0 ?_));refine k1 (I2 (H9 ?_));exact B4 (G8 rfl rfl rfl) (by rw[L1,A4 (by omega)])
 ·have h:=A1 (or_pick.symm.trans c);refine k5 (k1 (k2 ?_));refine A7 (A6 (A9 Z Z) Z (B0 ?_));refine k1 (I2 ?_);exact B4 (G8 rfl rfl rfl) (by rw[L1,A5 (by omega)])
theorem CN{n:Int}(h:0<=n/\n<18446744073709551616):IntKind.u64.wrap n=n:=by simp[IntKind.wrap,IntKind.signed,IntKind.bits];omega
def lN(a n:Int):Int:=IntKind.u64.wrap a % n
theorem pM(a:Int){n:Int}(h:1<=n):0<=lN a n/\lN a n<n:=⟨Int.emod_nonneg _ (by omega),Int.emod_lt_of_pos _ (by omega)⟩
theorem CO(a n:Int)(f:1<=n)(g:n<=9223372036854775807):FnOk Tryz.prog 9 [D0 a,D0 n] (fun rs=>rs=[D0 (lN a n)]):=by
 refine FnOk.intro Tryz.func9 (by decide) Z Z Z Z ?_;refine k2 ?_;refine A7 (A6 (A9 Z Z) Z (B0 ?_));refine k1 (k2 ?_);have b:IntKind.u64.wrap n=n:=CN (by omega);refine A7 (A6 (A8 Z Z) Z (A6 (aJ Z) Z (A6 (A8 Z Z) Z (A6 (aJ Z) Z (A6 (EP Z Z (by (rw[b];omega))) Z ?_)))));refine A6 (aJ Z) Z (A6 (A9 Z Z) Z (B0 ?_));refine k1 (I2 ?_);refine B4 (G8 Z Z Z) ?_;have c:=sD a;have e:(IntKind.u64.wrap a).tmod n=IntKind.u64.wrap a % n:=Int.tmod_eq_emod_of_nonneg c;have h:=pM a f;unfold lN at *;rw[b,e,oR ⟨by omega,by omega⟩]
def GW(k:Int):Int:=IntKind.u64.wrap (IntKind.u64.wrap (k+1)*11400714819323198485)
theorem lO(s:Str):(ByteArray.mk s.toArray).size=s.length:=by simp[ByteArray.size]
theorem mZ(s p:Str)(b:s.length<=1099511627776):FnOk Tryz.prog 230 [F9 s,F9 p] (fun a=>a=[G1 (Lib.hasSuffix s p)]) :=
 HB (xs:=[.string ⟨s.toArray⟩,.string ⟨p.toArray⟩]) ⟨_,rfl,rfl,rfl⟩ rfl fun w=>by simpa using Tryz.strings_HasSuffix ⟨s.toArray⟩ ⟨p.toArray⟩ w (by rw[lO];omega)
theorem kL(s p:Str)(a:s.length<=1099511627776):FnOk Tryz.prog 99 [F9 s,F9 p] (fun rs=>rs=[F9 (Lib.trimSuffix s p)]) :=
 HB (xs:=[.string ⟨s.toArray⟩,.string ⟨p.toArray⟩]) ⟨_,rfl,rfl,rfl⟩ rfl fun w=>by simpa using Tryz.strings_TrimSuffix ⟨s.toArray⟩ ⟨p.toArray⟩ w (by rw[lO];omega)
theorem vI(s:Str)(a:s.length<=1099511627776):FnOk Tryz.prog 170 [F9 s] (fun b=>b=[G1 (ended s)]):=by
 refine FnOk.intro Tryz.func170 (by decide) Z Z Z Z ?_;refine k2 ?_;refine A7 (A6 (A9 Z Z) Z (B0 ?_));refine k1 (k2 ?_);refine A7 (A6 (A8 Z Z) Z (C9 (mZ s [10] a) Z Z Z ?_));rintro _ rfl;refine A6 (A9 Z Z) Z (B0 ?_);rw[nR];refine k1 (I2 ?_);exact B4 (G8 rfl rfl rfl) rfl
def BP(ob:Obs)(c:Str):Prop:=(∃a,(a=.p (.v (.pointer none))\/a=.ref 700 0)/\C2 ob 700=some (.tbx 109 [a,.buf 701 UInt8 1 rP c]))/\C2 ob 701=some (.spare c.length 1 5)
abbrev yA(ob:Obs)(ys c:Str):Obs:=(700,.tbx 109 [.ref 700 0,.buf 701 UInt8 1 rP c])::(701,.spare c.length 1 5)::Obs.forget 701 ((700,.tbx 109 [.ref 700 0,.buf 701 UInt8 1 rP ys])::ob)
def uG:Go.Shelf.Ren:=⟨fun | 240=>100 | 276=>156 | n=>n,fun | 72=>109 | 70=>106 | 164=>263 | 37=>107 | n=>n,fun n=>n⟩
theorem yB:Go.Proofs.Lays.n240 Tryz.prog uG:={
 mixed:=by kernel_rfl
 f240:=Tryz.func100.trans (congrArg some (by kernel_rfl))
 f276:=Tryz.func156.trans (congrArg some (by kernel_rfl))
 t0:=Tryz.underlying0
 a0:=Tryz.isAgg0
 z0:=Tryz.sizeOf0
 v0:=Tryz.zeroValue0
 t4:=Tryz.underlying4
 a4:=Tryz.isAgg4
 z4:=Tryz.sizeOf4
 v4:=Tryz.zeroValue4
 t9:=Tryz.underlying9
 a9:=Tryz.isAgg9
 z9:=Tryz.sizeOf9
 v9:=Tryz.zeroValue9
 t20:=Tryz.underlying20
 a20:=Tryz.isAgg20
 z20:=Tryz.sizeOf20
 v20:=Tryz.zeroValue20
 t70:=Tryz.underlying106
 a70:=Tryz.isAgg106
 z70:=Tryz.sizeOf106
 v70:=Tryz.zeroValue106
 t72:=Tryz.underlying109
 a72:=Tryz.isAgg109
 z72:=Tryz.sizeOf109
 v72:=Tryz.zeroValue109
 t164:=Tryz.underlying263
 a164:=Tryz.isAgg263
 z164:=Tryz.sizeOf263
 v164:=Tryz.zeroValue263 }
theorem GR:Builder.X72 Tryz.prog uG:={
 sizeBuilder:=by kernel_rfl
 liesBuilder:=by kernel_rfl }
theorem bH{gf:Fr}{ob:Obs}{a t:TC}(j:C2 ob 700=some (.tbx 109 [a,t]))(ha:a=.p (.v (.pointer none))\/a=.ref 700 0) :
  AL.Met Tryz.prog 100 [.one (.ref 700 0)] gf ob [] (fun k ob'=>k=[]/\ob'=(700,.tbx 109 [.ref 700 0,t])::ob) :=
 AL.Met.copyCheck ⟨_,rfl,rfl,rfl⟩ (fun b w c d g=>Any.Builder_copyCheck_fresh (ρ:=uG) yB GR b w c d g) (fun b w h=>Any.Builder_copyCheck_used (ρ:=uG) yB GR b w h) j ha
theorem s9{gf:Fr}{ob:Obs}{xs s:Str}(hb:BP ob xs)(d:xs.length+s.length<=1073741824) :
  AL.Met Tryz.prog 53 [.one (.ref 700 0),.one (.p (.v (.string ⟨s.toArray⟩)))] gf ob [701] (fun rs ob'=>rs=[.one (.p (.v (.int .i64 s.length))),.one (.p (.v .nilIface))]/\ob'=yA ob xs (xs++s)):=by
 obtain⟨⟨a,ha,j⟩,b⟩:=hb;refine AL.Met.intro Tryz.func53 (by decide) Z Z Z ?_;refine k2 ?_;refine A7 (A6 (A9 Z Z) Z (A6 (A9 Z Z) Z (B0 ?_)));refine k1 (k2 ?_);refine A7 (A6 (A8 Z Z) Z (dF (bH j ha) Z Z Z ?_));rintro _ _ ⟨rfl,rfl⟩;refine B0 ?_;refine k1 (k2 ?_);refine A7 (A6 (A8 Z Z) Z (A6 (A8 Z Z) Z (A6 (C3 Z) Z (A6 (B3 Z) Z (A6 (w9 Z Z Z) Z (A6 (A8 Z Z) Z (E1 (rQ TyStr.out Z b Z (by first | omega | (simp;omega)) Z) Z (A6 (C3 Z) Z (A6 (B3 Z) Z (J8 (dC TySz.out Z Z Z Z Z Z) (B0 ?_)))))))))));refine k1 (k2 ?_);refine A7 (A6 (A8 Z Z) Z (A6 (H1 Z) Z (A6 (A9 Z Z) Z (A6 (A9 Z Z) Z (B0 ?_)))));refine k1 (I2 ?_);exact N4 (tY rfl rfl rfl) (by repeat (first | exact F4 | refine F5 rfl ?_ | refine H4 _ ?_)) (fun _ _ h=>h) ⟨rfl,rfl⟩
theorem bI{gf:Fr}{ob:Obs}{xs:Str}{c:UInt8}(hb:BP ob xs)(d:xs.length+1<=1073741824) :
  AL.Met Tryz.prog 121 [.one (.ref 700 0),.one (.p (.v (.int .u8 c.toNat)))] gf ob [701] (fun j ob'=>j=[.one (.p (.v .nilIface))]/\ob'=yA ob xs (xs++[c])):=by
 obtain⟨⟨a,ha,g⟩,b⟩:=hb;refine AL.Met.intro Tryz.func121 (by decide) Z Z Z ?_;refine k2 ?_;refine A7 (A6 (A9 Z Z) Z (B0 ?_));refine k1 (k2 ?_);refine A7 (A6 (A8 Z Z) Z (dF (bH g ha) Z Z Z ?_));rintro _ _ ⟨rfl,rfl⟩;refine B0 ?_;refine k1 (k2 ?_);refine A7 (A6 (A8 Z Z) Z (A6 (A8 Z Z) Z (A6 (C3 Z) Z (A6 (B3 Z) Z (A6 (w9 Z Z Z) Z (A6 (A8 Z Z) Z (A6 (G2 (c:=rP) (ys:=[c]) (F6 Z Z Z Z M3) Z Z Z) Z (E1 (k9 Z b Z (.pure _ _ _ _) (by (simp;omega)) Z) Z (A6 (C3 Z) Z (A6 (B3 Z) Z (J8 (dC TySz.out Z Z Z Z Z Z) (B0 ?_))))))))))));refine k1 (k2 ?_);refine A7 (A6 (A9 Z Z) Z (B0 ?_));refine k1 (I2 ?_);exact N4 (x1 rfl rfl) (by repeat (first | exact F4 | refine F5 rfl ?_ | refine H4 _ ?_)) (fun _ _ h=>h) ⟨rfl,rfl⟩
theorem lP(c:UInt8):FnOk Tryz.prog 89 [pByte c] (fun b=>b=[G1 (L0 c)]):=by
 refine FnOk.intro Tryz.func89 (by decide) Z Z Z Z ?_;refine k2 ?_;refine A7 (A6 (A9 Z Z) Z (B0 ?_));refine k1 (k2 ?_);refine A7 (A6 (A8 Z Z) Z (A6 (fN Z Z) Z (A6 (A8 Z Z) Z (B1 Z Z Z Z (fun a=>by rw[a];exact A8 Z Z) ?_))));refine B1 Z Z Z Z (fun a=>by rw[a];exact tX Z Z) ?_;refine A6 (B6 Z (fun h=>by first | rfl | (rw[h];rfl)) (fun h=>by first | rfl | (rw[h];rfl))) Z ?_;refine A6 (A8 Z Z) Z (B1 Z Z Z Z (fun a=>by rw[a];exact A8 Z Z) ?_);refine B1 Z Z Z Z (fun a=>by rw[a];exact L8 Z Z) ?_;refine A6 (B6 Z (fun h=>by first | rfl | (rw[h];rfl)) (fun h=>by first | rfl | (rw[h];rfl))) Z ?_;refine A6 (A8 Z Z) Z (B1 Z Z Z Z (fun a=>by rw[a];exact A8 Z Z) ?_);refine B1 Z Z Z Z (fun a=>by rw[a];exact L8 Z Z) ?_;refine A6 (B6 Z (fun h=>by first | rfl | (rw[h];rfl)) (fun h=>by first | rfl | (rw[h];rfl))) Z ?_;refine A6 (A9 Z Z) Z (B0 ?_);refine k1 (I2 ?_);refine B4 (G8 Z Z Z) ?_;simp only[and_pick]
 congr 4
 unfold L0
 congr 1
 simp;omega
open Go.RowKit
theorem yC(q:Nat)(h:q<8):IntKind.u8.wrap (48+(q:Int))=((UInt8.ofNat (48+q)).toNat:Int):=by
 rw[IntWalk.u8_in _ (by omega)];have:(UInt8.ofNat (48+q)).toNat=48+q:=by rw[UInt8.toNat_ofNat'];omega
 rw[this];simp
theorem uH(x:Nat)(h:x<256):IntKind.u8.wrap ((BitVec.ofInt IntKind.u8.bits (x:Int) &&& BitVec.ofInt IntKind.u8.bits 7).toNat:Int)=((x % 8:Nat):Int):=by
 have d:(BitVec.ofInt IntKind.u8.bits (x:Int) &&& BitVec.ofInt IntKind.u8.bits 7).toNat=x % 8:=by
  rw[BitVec.toNat_and,BitVec.toNat_ofInt,BitVec.toNat_ofInt];have b:((x:Int) % ((2 ^ IntKind.u8.bits:Nat):Int)).toNat=x:=by
   rw[show ((2 ^ IntKind.u8.bits:Nat):Int)=256 by rfl];omega
  have c:((7:Int) % ((2 ^ IntKind.u8.bits:Nat):Int)).toNat=2 ^ 3-1:=by rfl
  rw[b,c,Nat.and_two_pow_sub_one_eq_mod]
 rw[d,IntWalk.u8_in _ (by omega)]
theorem yD(x:Nat)(c:Nat)(h:c<=8):(x:Int).fdiv (2 ^ min (Int.toNat (c:Int)) IntKind.u8.bits)=((x / 2 ^ c:Nat):Int):=by
 rw[CU _ _ IntKind.u8.bits ⟨by omega,by show (c:Int)<=8;omega⟩];simp
theorem sE(c:UInt8):FnOk Tryz.prog 122 [pByte c] (fun t=>t=[F9 (l9 c)]):=by
 have w:=c.toNat_lt;refine FnOk.intro Tryz.func122 (by decide) Z Z Z Z ?_;refine k2 ?_;refine A7 (A6 (A9 Z Z) Z (B0 ?_));refine k1 (k2 (k3 (k2 ?_)));refine A7 (A6 (A8 Z Z) Z (A6 (J9 Z Z) Z (A6 (A8 Z Z) Z (B1 Z Z Z Z (fun b=>by rw[b];exact A8 Z Z) ?_))));refine B1 Z Z Z Z (fun b=>by rw[b];exact J9 Z Z) ?_;refine A6 (B6 Z (fun h=>by first | rfl | (rw[h];rfl)) (fun h=>by first | rfl | (rw[h];rfl))) Z ?_;refine A6 (A9 Z Z) Z (B0 ?_);refine k1 ?_;refine B2 rfl (fun a=>?_) (fun a=>?_)
 ·have h:=A0 (or_pick.symm.trans a);refine k2 ?_;refine A7 (A6 (A8 Z Z) Z (A6 (bD Z (by omega)) Z (A6 (L9 Z Z (by simp)) Z (A6 (A9 Z Z) Z (B0 ?_)))));refine k1 (I2 (N8 (H9 ?_)));exact B4 (G8 rfl rfl rfl) (by rw[l9,A4 (by omega)];rfl)
 ·have h:=A1 (or_pick.symm.trans a);refine k2 ?_;refine A7 (A6 (A8 Z Z) Z (A6 (J9 Z Z) Z (A6 (A9 Z Z) Z (B0 ?_))));refine k1 ?_;refine B2 rfl (fun a=>?_) (fun a=>?_)
  ·have o:=A0 a;refine k2 ?_;refine A7 (A6 (A9 Z Z) Z (B0 ?_));refine k1 (I2 (N8 (H9 ?_)));exact B4 (G8 rfl rfl rfl) (by rw[l9,A5 (by omega),A4 (by omega)])
  ·have o:=A1 a;refine k2 ?_;refine A7 (A6 (A8 Z Z) Z (A6 (J9 Z Z) Z (A6 (A9 Z Z) Z (B0 ?_))));refine k1 ?_;refine B2 rfl (fun a=>?_) (fun a=>?_)
   ·have q:=A0 a;refine k2 ?_;refine A7 (A6 (A9 Z Z) Z (B0 ?_));refine k1 (I2 (N8 (H9 ?_)));exact B4 (G8 rfl rfl rfl) (by rw[l9,A5 (by omega),A5 (by omega),A4 (by omega)])
   ·have q:=A1 a;refine k2 ?_;refine A7 (A6 (A8 Z Z) Z (A6 (E9 Z Z) Z (A6 (A8 Z Z) Z (B1 Z Z Z Z (fun b=>by rw[b];exact A8 Z Z) ?_))));refine B1 Z Z Z Z (fun b=>by rw[b];exact N1 Z Z) ?_;refine A6 (B6 Z (fun h=>by first | rfl | (rw[h];rfl)) (fun h=>by first | rfl | (rw[h];rfl))) Z ?_;refine A6 (A9 Z Z) Z (B0 ?_);refine k1 ?_;refine B2 rfl (fun a=>?_) (fun a=>?_)
    ·have s:=A0 (or_pick.symm.trans a);refine k2 ?_;have n:(c.toNat:Int).fdiv (2 ^ min (Int.toNat 6) IntKind.u8.bits)=((c.toNat / 64:Nat):Int):=yD c.toNat 6 (by omega);have m:(c.toNat:Int).fdiv (2 ^ min (Int.toNat 3) IntKind.u8.bits)=((c.toNat / 8:Nat):Int):=yD c.toNat 3 (by omega);have j:=yC (c.toNat / 64) (by omega);have k:=yC (c.toNat / 8 % 8) (by omega);have l:=yC (c.toNat % 8) (by omega);have g:=qH c;refine A7 (A6 (A8 Z Z) Z (A6 (BH Z Z (by omega)) Z (A6 (gM Z Z) Z (A6 (A8 Z Z) Z (A6 (BH Z Z (by omega)) Z (A6 (xF Z Z Z (fun _=>rfl)) Z (A6 (gM Z Z) Z (A6 (A8 Z Z) Z (A6 (xF Z Z Z (fun _=>rfl)) Z (A6 (gM Z Z) Z ?_))))))))));           rw[n,m,uH (c.toNat / 8) (by omega),uH c.toNat (by omega),j,k,l];refine A6 (G2 (c:=rP) (ys:=[UInt8.ofNat (48+c.toNat / 64),UInt8.ofNat (48+c.toNat / 8 % 8),UInt8.ofNat (48+c.toNat % 8)]) (F6 Z Z Z Z (F6 Z Z Z Z (F6 Z Z Z Z M3))) Z Z Z) Z (A6 (gX TyStr.out Z (.pure _ _ _ _)) Z (A6 (L9 Z Z (by simp)) Z (A6 (A9 Z Z) Z (B0 ?_))));refine k1 (I2 (N8 (H9 ?_)));exact B4 (G8 rfl rfl rfl) (by rw[l9,A5 (by omega),A5 (by omega),A5 (by omega),A4 (by omega),g];rfl)
    ·have s:=A1 (or_pick.symm.trans a);refine k5 (k2 ?_);refine A7 (A6 (A8 Z Z) Z (A6 (bD Z (by omega)) Z (A6 (A9 Z Z) Z (B0 ?_))));refine k1 (I2 ?_);exact B4 (G8 rfl rfl rfl) (by rw[l9,A5 (by omega),A5 (by omega),A5 (by omega),A5 (by omega)])
theorem AH(n:Int)(h:0<=n/\n<=2147483647):FnOk Tryz.prog 51 [D0 n] (fun f=>f=[F9 (Lib.itoa n)]) :=
 HF (xs:=[.int .i64 n]) (r:=.string ⟨(Lib.itoa n).toArray⟩) ⟨_,rfl,rfl,rfl⟩ rfl fun w d =>
  (Tryz.strconv_Itoa n (by omega) (by omega) w (d.pow10 rfl)).mono fun e w' ⟨c,k,os,b⟩=>⟨c,by subst b;exact Lib.below_grow _ _ (Nat.le_refl _) _ _⟩
theorem cG(n:Int):FnOk Tryz.prog 19 [D0 n] (fun rs=>rs=[F9 (U1 n)]):=by
 refine FnOk.intro Tryz.func19 (by decide) Z Z Z Z ?_;refine k2 ?_;refine A7 (A6 (A9 Z Z) Z (B0 ?_));refine k1 (k2 (k2 ?_));refine A7 (A6 (A8 Z Z) Z (A6 (E9 Z Z) Z (A6 (A8 Z Z) Z (B1 Z Z Z Z (fun a=>by rw[a];exact A8 Z Z) ?_))));refine B1 Z Z Z Z (fun a=>by rw[a];exact N1 Z Z) ?_;refine A6 (B6 Z (fun h=>by first | rfl | (rw[h];rfl)) (fun h=>by first | rfl | (rw[h];rfl))) Z ?_;refine B0 ?_;refine k1 ?_;refine B2 rfl (fun b=>?_) (fun b=>?_)
 ·have h:=A0 (or_pick.symm.trans b);refine k2 ?_;refine A7 (A6 (A9 Z Z) Z (B0 ?_));refine k1 (I2 (H9 ?_));exact B4 (G8 rfl rfl rfl) (by rw[U1,A4 (by omega)])
 ·have h:=A1 (or_pick.symm.trans b);refine k5 (k1 (k2 ?_));refine A7 (A6 (A8 Z Z) Z (C9 (AH n (by omega)) Z Z Z ?_));rintro _ rfl;refine A6 (A9 Z Z) Z (B0 ?_);refine k1 (I2 ?_);exact B4 (G8 rfl rfl rfl) (by rw[U1,A5 (by omega)])
theorem bJ(B b:Nat)(l:List UInt8)(w:World)(h:Lib.IsBuilder 109 5 B b (Lib.byteCells l) w)(a:B<=w.heap.size) :
  Calls Tryz.prog 56 #[.pointer (some ⟨b,0,none⟩)] w fun e w'=>e=.returned (.string ⟨l.toArray⟩)/\Below B w w':=Tryz.Builder_String_any B b l w h a
theorem lQ(s:Str)(D:s.length<=16777216):FnOk Tryz.prog 76 [F9 s] (fun rs=>rs=[F9 (Q1 s)]):=by
 refine FnOk.intro Tryz.func76 (by decide) Z Z Z Z ?_;refine k2 ?_;refine A7 (A6 (A9 Z Z) Z (B0 ?_));refine k1 (k2 ?_);refine A7 (A6 (A8 Z Z) Z (A6 (mM Z Z) Z (A6 (A9 Z Z) Z (B0 ?_))));refine k1 (k2 (k2 ?_));refine A7 (A6 (A8 Z Z) Z (A6 (H1 Z) Z (A6 (A8 Z Z) Z (B0 ?_))));refine k1 (k3 ?_);refine D3 (X:=Nat) (fun i=>([(0,L6 s),(3,H5 (.bool (plains s i))),(10,D5 s.length),(11,D5 i)],[])) (fun i=>i<=s.length) (fun i=>s.length-i) 0 (Nat.zero_le _) ?_ ?_
 ·rw[qI];exact Sees.of ⟨B5 rfl,B5 rfl,B5 rfl,B5 rfl,trivial⟩ trivial
 intro i y;dsimp only at y ⊢;refine k2 ?_;refine A7 (A6 (E9 Z Z) Z (B0 ?_));refine k1 (k2 ?_);refine B2 rfl (fun j=>?_) (fun j=>?_)
 ·have d:i<s.length:=by have:=A0 j;omega
  have w:s[i]?=some s[i]:=by simp[d]
  obtain⟨c,A⟩:∃c,c=s[i]:=⟨_,rfl⟩
  have z:=qJ s i d;rw[<-A]at w z;refine k5 (k1 (k2 (k3 (k2 ?_))));refine A7 (A6 (A8 Z Z) Z (A6 (A9 Z Z) Z (B0 ?_)));refine k1 ?_;refine A7 (A6 (A8 Z Z) Z (A6 (A8 Z Z) Z (B1 Z Z Z Z (fun m=>by rw[m];exact A8 Z Z) ?_)));refine B1 Z Z Z Z (fun m=>by rw[m];exact A8 Z Z) ?_;refine B1 Z Z Z Z (fun m=>by have v:=m;(try simp at v);rw[m];exact K3 Z Z (by omega) w) ?_;refine B1 Z Z Z Z (fun m=>by have v:=m;(try simp at v);rw[m];exact M2 (lP c) Z Z) ?_;refine A6 (B6 Z (fun h=>by first | rfl | (rw[h];rfl)) (fun h=>by first | rfl | (rw[h];rfl))) Z ?_;refine A6 (A9 Z Z) Z (B0 ?_);refine k4 (k1 ?_);refine A7 (A6 (E2 Z Z (by omega)) Z (A6 (A8 Z Z) Z (B0 ?_)));refine k1 ?_;refine⟨i+1,d,by omega,?_⟩;rw[show (if plains s i=true then L0 c else false)=plains s (i+1) from by rw[z];cases plains s i<;>rfl];exact Sees.of ⟨B5 rfl,B5 rfl,B5 rfl,B5 rfl,trivial⟩ trivial
 have q:i=s.length:=by have:=A1 j;omega
 subst q;refine k6 (k2 (k2 ?_));refine A7 (A6 (A8 Z Z) Z (B0 ?_));refine k1 ?_;refine B2 rfl (fun j=>?_) (fun j=>?_)
 ·have h:plains s s.length=true:=j;refine k2 ?_;refine A7 (A6 (A8 Z Z) Z (A6 (A9 Z Z) Z (B0 ?_)));refine k1 (I2 (H9 ?_));exact B4 (G8 rfl rfl rfl) (by rw[jC,A4 h])
 have h:plains s s.length=false:=j;have v:Q1 s=(34::escs s s.length)++[34]:=by rw[jC,h];rfl
 refine k5 (k1 (k2 ?_));refine A7 (E1 (oU 700 Z) Z (B0 ?_));refine k1 (k2 ?_);refine Q7 (HJ 701 UInt8 1 rP 5 (kb:=700) (o:=1) Z Z Z) ?_;refine A7 (dF (bI (xs:=[]) (c:=34) ⟨⟨_,.inl rfl,rfl⟩,rfl⟩ (by simp)) Z Z Z ?_);rintro _ _ ⟨rfl,rfl⟩;refine B0 ?_;refine k1 (k2 (k2 ?_));refine A7 (A6 (A8 Z Z) Z (A6 (H1 Z) Z (A6 (A8 Z Z) Z (B0 ?_))));refine k1 (k3 ?_);refine D3 (X:=Nat) (fun i=>([(0,L6 s),(5,.s (.one (.ref 700 0))),(26,D5 s.length),(27,D5 i)],[(700,.tbx 109 [.ref 700 0,.buf 701 UInt8 1 rP (34::escs s i)]),(701,.spare (34::escs s i).length 1 5)])) (fun i=>i<=s.length) (fun i=>s.length-i) 0 (Nat.zero_le _) (Sees.of ⟨B5 rfl,B5 rfl,B5 rfl,B5 rfl,trivial⟩ ⟨rfl,rfl,trivial⟩) ?_;intro i y;dsimp only at y ⊢;have C:=yP s i y;refine k2 ?_;refine A7 (A6 (E9 Z Z) Z (B0 ?_));refine k1 (k2 ?_);refine B2 rfl (fun j=>?_) (fun j=>?_)
 ·have d:i<s.length:=by have:=A0 j;omega
  have w:s[i]?=some s[i]:=by simp[d]
  obtain⟨c,A⟩:∃c,c=s[i]:=⟨_,rfl⟩
  have B:=wD s i d;have z:=lZ c;rw[<-A]at w B;refine k5 (k1 (k2 (k3 (k2 ?_))));refine A7 (A6 (A8 Z Z) Z (A6 (A9 Z Z) Z (B0 ?_)));refine k1 ?_;refine A7 (A6 (A8 Z Z) Z (A6 (A8 Z Z) Z (A6 (K3 Z Z (by omega) w) Z (C9 (sE c) Z Z Z ?_))));rintro _ rfl;refine dF (s9 (xs:=34::escs s i) (s:=l9 c) ⟨⟨_,.inr rfl,rfl⟩,rfl⟩ (by simp only[HU];omega)) Z Z Z ?_;rintro _ _ ⟨rfl,rfl⟩;refine B0 ?_;refine k4 (k1 ?_);refine A7 (A6 (E2 Z Z (by omega)) Z (A6 (A8 Z Z) Z (B0 ?_)));refine k1 ?_;refine⟨i+1,d,by omega,?_⟩;rw[B];exact Sees.of ⟨B5 rfl,B5 rfl,B5 rfl,B5 rfl,trivial⟩ ⟨rfl,rfl,trivial⟩
 have q:i=s.length:=by have:=A1 j;omega
 subst q;refine k6 (k2 ?_);refine A7 (dF (bI (xs:=34::escs s s.length) (c:=34) ⟨⟨_,.inr rfl,rfl⟩,rfl⟩ (by simp only[HU];omega)) Z Z Z ?_);rintro _ _ ⟨rfl,rfl⟩;refine B0 ?_;refine k1 (k2 ?_);refine A7 (lE (k:=700) (k':=701) ⟨_,rfl,rfl,rfl⟩ bJ Z Z Z Z Z (.inr Z) Z (A6 (A9 Z Z) Z (B0 ?_)));refine k1 (I2 ?_);exact B4 (G8 rfl rfl rfl) (by rw[v])
theorem fA{p a:Str}{i:Nat}(h:i<p.length):j5 a (p.drop i)=if p[i]=0 then false else if p[i]=47 then J1 a&&j5 [] (p.drop (i+1)) else j5 (a++[p[i]]) (p.drop (i+1)):=by
 rw[IB h];rfl
theorem AI{p:Str}{i:Nat}(h:i<p.length):(p.drop i).take (i+1-i)=[p[i]]:=by
 rw[IB h,show i+1-i=1 by omega];rfl
set_option maxHeartbeats 1000000
theorem kM(p:Str)(J:p.length<=1073741824):FnOk Tryz.prog 102 [F9 p] (fun rs=>rs=[D0 (H8 p)]):=by
 refine FnOk.intro Tryz.func102 (by decide) Z Z Z Z ?_;refine k2 ?_;refine A7 (A6 (A9 Z Z) Z (B0 ?_));refine k1 (k2 (k2 ?_));refine A7 (A6 (A8 Z Z) Z (A6 (H1 Z) Z (A6 (E9 Z Z) Z (A6 (A8 Z Z) Z (B1 Z Z Z Z (fun d=>by rw[d];exact A8 Z Z) ?_)))));refine B1 Z Z Z Z (fun d=>by rw[d];exact H1 Z) ?_;refine B1 Z Z Z Z (fun d=>by rw[d];exact N1 Z Z) ?_;refine A6 (B6 Z (fun h=>by first | rfl | (rw[h];rfl)) (fun h=>by first | rfl | (rw[h];rfl))) Z ?_;refine B0 ?_;refine k1 ?_;refine B2 rfl (fun g=>?_) (fun g=>?_)
 ·have h:=A0 (or_pick.symm.trans g);refine k2 ?_;refine A7 (A6 (A9 Z Z) Z (B0 ?_));refine k1 (I2 (H9 ?_));exact B4 (rs:=[D0 210]) (G8 rfl rfl rfl) (by unfold H8;rw[A4 (by omega)])
 have h:=A1 (or_pick.symm.trans g);have hb:[D0 210]=[D0 (H8 p)]\/j5 [] p=true:=by
  cases w:j5 [] p
  ·left;unfold H8;rw[A4 (.inr (.inr w))]
  ·exact .inr rfl
 have d:j5 [] p=true->[D0 0]=[D0 (H8 p)]:=fun w=>by unfold H8;rw[A5 (by rw[w];rintro (f | f | f)<;>first | omega | cases f)]
 have v:j5 [] p=false->[D0 210]=[D0 (H8 p)]:=fun w=>by unfold H8;rw[A4 (.inr (.inr w))]
 refine k5 (k1 (k2 ?_));refine A7 (A6 (A9 Z Z) Z (B0 ?_));refine k1 (k2 (k2 ?_));refine A7 (A6 (A9 Z Z) Z (B0 ?_));refine k1 (k3 ?_);refine D3 (X:=Nat×Str) (fun x=>([(0,L6 p),(3,L6 x.2),(4,D5 x.1)],[])) (fun x=>x.2.length<=x.1/\((x.1<=p.length/\j5 x.2 (p.drop x.1)=j5 [] p)\/(x.1=p.length+1/\j5 [] p=true))) (fun x=>p.length+1-x.1) (0,[]) ⟨Nat.zero_le _,.inl ⟨Nat.zero_le _,rfl⟩⟩ (Sees.of ⟨B5 rfl,B5 rfl,B5 rfl,trivial⟩ trivial) ?_;rintro⟨i,m⟩ ⟨B,s⟩;dsimp only at B s ⊢;refine k2 (k2 ?_);refine A7 (A6 (A8 Z Z) Z (A6 (A8 Z Z) Z (A6 (H1 Z) Z (A6 (tX Z Z) Z (B0 ?_)))));refine k1 ?_;refine B2 rfl (fun g=>?_) (fun g=>?_);rotate_left
 ·have f:¬(i:Int)<=p.length:=A1 g;refine k6 (k2 ?_);refine A7 (A6 (A9 Z Z) Z (B0 ?_));refine k1 (I2 ?_);exact B4 (rs:=[D0 0]) (G8 rfl rfl rfl) (d (by rcases s with s | s<;>first | exact absurd s.1 (by omega) | exact s.2))
 have I:i<=p.length:=by have f:(i:Int)<=p.length:=A0 g;omega
 obtain⟨_,u⟩:i<=p.length/\j5 m (p.drop i)=j5 [] p:=by rcases s with s | s<;>first | exact s | exact absurd s.1 (by omega)
 have H:(i:Int)<p.length->p[((i:Nat):Int).toNat]?=some (p.getD i 0):=fun f=>by
  rw[HS,HY,HQ (by omega)];rfl
 have q:∀f:i<p.length,p.getD i 0=p[i]:=fun f=>by rw[HY,HQ f];rfl
 have F:∀c:UInt8,((c.toNat:Int)=0)↔c=0:=fun c=>by
  constructor
  ·intro h;exact UInt8.toNat_inj.1 (by simpa using (show c.toNat=0 by omega))
  ·rintro rfl;rfl
 have G:∀c:UInt8,((c.toNat:Int)=47)↔c=47:=fun c=>by
  constructor
  ·intro h;exact UInt8.toNat_inj.1 (by simpa using (show c.toNat=47 by omega))
  ·rintro rfl;rfl
 refine k5 (k1 (k2 (k3 (k2 (k2 ?_)))));refine A7 (A6 (A8 Z Z) Z (A6 (A8 Z Z) Z (A6 (H1 Z) Z (A6 (E9 Z Z) Z (A6 (A8 Z Z) Z (B1 Z Z Z Z (fun d=>by rw[d];exact A8 Z Z) ?_))))));refine B1 Z Z Z Z (fun d=>by rw[d];exact A8 Z Z) ?_;refine B1 Z Z Z Z (fun d=>by have E:=d;(try simp at E);rw[d];exact K3 Z Z (by omega) (H (by omega))) ?_;refine B1 Z Z Z Z (fun d=>by rw[d];exact J9 Z Z) ?_;refine A6 (B6 Z (fun h=>by first | rfl | (rw[h];rfl)) (fun h=>by first | rfl | (rw[h];rfl))) Z ?_;refine B0 ?_;refine k1 ?_;refine B2 rfl (fun g=>?_) (fun g=>?_)
 ·have f:=A0 (and_pick.symm.trans g);refine k2 ?_;refine A7 (A6 (A9 Z Z) Z (B0 ?_));refine k1 (I2 (H9 (N8 (H9 (H9 (N8 (H9 ?_)))))));refine B4 (rs:=[D0 210]) (G8 rfl rfl rfl) (v ?_);have j:i<p.length:=by omega
  rw[<-u,fA j,A4 (by rw[<-q j,<-F];exact f.2)]
 have y:=A1 (and_pick.symm.trans g);refine k5 (k1 (k2 (k2 ?_)));refine A7 (A6 (A8 Z Z) Z (A6 (A8 Z Z) Z (A6 (H1 Z) Z (A6 (E9 Z Z) Z (A6 (A8 Z Z) Z (B1 Z Z Z Z (fun d=>by rw[d];exact A8 Z Z) ?_))))));refine B1 Z Z Z Z (fun d=>by rw[d];exact A8 Z Z) ?_;refine B1 Z Z Z Z (fun d=>by have E:=d;(try simp at E);rw[d];exact K3 Z Z (by omega) (H (by omega))) ?_;refine B1 Z Z Z Z (fun d=>by rw[d];exact L8 Z Z) ?_;refine A6 (B6 Z (fun h=>by first | rfl | (rw[h];rfl)) (fun h=>by first | rfl | (rw[h];rfl))) Z ?_;refine B0 ?_;refine k1 ?_;refine B2 rfl (fun g=>?_) (fun g=>?_)
 ·have f:=A0 (and_pick.symm.trans g);have j:i<p.length:=by omega
  have z:p[i]≠0:=fun e=>y ⟨f.1,by rw[F,q j];exact e⟩;have A:p[i]≠47:=fun e=>f.2 (by rw[G,q j];exact e);rw[fA j,A5 z,A5 A]at u;refine k2 ?_;refine A7 (A6 (A8 Z Z) Z (A6 (A8 Z Z) Z (A6 (A8 Z Z) Z (A6 (A8 Z Z) Z (A6 (E2 Z Z (by omega)) Z (A6 (cV Z Z Z (by omega) (by omega) (by omega)) Z (A6 (L9 Z Z (by simp;omega)) Z (A6 (A9 Z Z) Z (B0 ?_)))))))));refine k1 (k6 (k7 (k8 Z (k1 ?_))));refine A7 (A6 (A8 Z Z) Z (A6 (E2 Z Z (by omega)) Z (A6 (A9 Z Z) Z (B0 ?_))));refine k1 ?_;refine⟨(i+1,m++[p[i]]),⟨by simp;omega,.inl ⟨j,u⟩⟩,by dsimp only;omega,?_⟩;rw[<-AI j];exact (Sees.of ⟨B5 rfl,B5 rfl,B5 rfl,trivial⟩ trivial)
 have C:=A1 (and_pick.symm.trans g);have k:j5 [] p=(J1 m&&(decide (i=p.length)||j5 [] (p.drop (i+1)))):=by
  rw[<-u];by_cases j:i<p.length
  ·have z:p[i]≠0:=fun e=>y ⟨by omega,by rw[F,q j];exact e⟩;have A:p[i]=47:=Classical.byContradiction fun e=>C ⟨by omega,fun h=>e (by rw[<-q j];exact (G _).1 h)⟩;rw[fA j,A5 z,A4 A];have:¬i=p.length:=by omega
   simp[this]
  ·have:i=p.length:=by omega
   rw[JK (by omega)];simp[j5,this]
 refine k5 (k1 (k2 (k2 ?_)));refine A7 (A6 (A8 Z Z) Z (A6 (S8 Z Z) Z (A6 (A8 Z Z) Z (B1 Z Z Z Z (fun d=>by rw[d];exact A8 Z Z) ?_))));refine B1 Z Z Z Z (fun d=>by rw[d];exact S8 Z Z) ?_;refine A6 (B6 Z (fun h=>by first | rfl | (rw[h];rfl)) (fun h=>by first | rfl | (rw[h];rfl))) Z ?_;refine A6 (A8 Z Z) Z (B1 Z Z Z Z (fun d=>by rw[d];exact A8 Z Z) ?_);refine B1 Z Z Z Z (fun d=>by rw[d];exact S8 Z Z) ?_;refine A6 (B6 Z (fun h=>by first | rfl | (rw[h];rfl)) (fun h=>by first | rfl | (rw[h];rfl))) Z ?_;refine B0 ?_;refine k1 ?_;refine B2 rfl (fun g=>?_) (fun g=>?_)
 ·simp only[or_pick]at g;have f:=A0 g;refine k2 ?_;refine A7 (A6 (A9 Z Z) Z (B0 ?_));refine k1 (I2 (H9 (N8 (H9 (H9 (N8 (H9 ?_)))))));refine B4 (rs:=[D0 210]) (G8 rfl rfl rfl) (v ?_);rw[k];have:J1 m=false:=by unfold J1;rw[decide_eq_false_iff_not];rintro⟨a,b,c⟩;rcases f with (f | f) | f<;>contradiction
  rw[this];rfl
 simp only[or_pick]at g;have f:=A1 g;have D:J1 m=true:=by unfold J1;rw[decide_eq_true_eq];exact⟨fun e=>f (.inl (.inl e)),fun e=>f (.inl (.inr e)),fun e=>f (.inr e)⟩
 rw[D,Bool.true_and]at k;refine k5 (k1 ?_);refine A7 (A6 (A9 Z Z) Z (B0 ?_));refine k4 (k1 ?_);refine A7 (A6 (A8 Z Z) Z (A6 (E2 Z Z (by omega)) Z (A6 (A9 Z Z) Z (B0 ?_))));refine k1 ?_;refine⟨(i+1,[]),⟨by simp,?_⟩,by dsimp only;omega,(Sees.of ⟨B5 rfl,B5 rfl,B5 rfl,trivial⟩ trivial)⟩;dsimp only;by_cases j:i=p.length
 ·exact .inr ⟨by omega,by rw[k];simp[j]⟩
 ·left;refine⟨by omega,?_⟩;rw[k];simp[j]
theorem vJ(a b:Str)(ha:a.length<=1073741824)(_hb:b.length<=1073741824):FnOk Tryz.prog 103 [F9 a,F9 b] (fun rs=>rs=[G1 (above a b)]):=by
 have f:(a.length:Int)<b.length->b[((a.length:Nat):Int).toNat]?=some (b.getD a.length 0):=fun g=>by
  rw[HS,HY,HQ (by omega)];rfl
 refine FnOk.intro Tryz.func103 (by decide) Z Z Z Z ?_;refine k2 ?_;refine A7 (A6 (A9 Z Z) Z (B0 ?_));refine k1 (k2 ?_);refine A7 (A6 (A8 Z Z) Z (A6 (H1 Z) Z (A6 (A8 Z Z) Z (A6 (H1 Z) Z (A6 (N1 Z Z) Z (A6 (A8 Z Z) Z (B1 Z Z Z Z (fun c=>by rw[c];exact A8 Z Z) ?_)))))));refine B1 Z Z Z Z (fun c=>by rw[c];exact A8 Z Z) ?_;refine B1 Z Z Z Z (fun c=>by rw[c];exact H1 Z) ?_;refine B1 Z Z Z Z (fun c=>by have e:=c;(try simp at e);rw[c];exact mO Z Z (by omega) (by omega)) ?_;refine B1 Z Z Z Z (fun c=>by rw[c];exact A8 Z Z) ?_;refine B1 Z Z Z Z (fun c=>by rw[c];exact S8 Z Z) ?_;refine A6 (B6 Z (fun h=>by first | rfl | (rw[h];rfl)) (fun h=>by first | rfl | (rw[h];rfl))) Z ?_;refine A6 (A8 Z Z) Z (B1 Z Z Z Z (fun c=>by rw[c];exact A8 Z Z) ?_);refine B1 Z Z Z Z (fun c=>by rw[c];exact A8 Z Z) ?_;refine B1 Z Z Z Z (fun c=>by rw[c];exact H1 Z) ?_;refine B1 Z Z Z Z (fun c=>by have e:=c;(try simp at e);rw[c];exact K3 Z Z (by omega) (f (by omega))) ?_;refine B1 Z Z Z Z (fun c=>by rw[c];exact J9 Z Z) ?_;refine A6 (B6 Z (fun h=>by first | rfl | (rw[h];rfl)) (fun h=>by first | rfl | (rw[h];rfl))) Z ?_;refine A6 (A9 Z Z) Z (B0 ?_);refine k1 (I2 ?_);refine B4 (G8 Z Z Z) ?_;refine congrArg (fun x=>[G1 x]) ?_;rw[bP,bP,HS];unfold above;by_cases h:a.length<b.length
 ·have c:b[a.length]?=some (b.getD a.length 0):=by rw[HY,HQ h];rfl
  rw[c,A2 (show (a.length:Int)<b.length by omega),Bool.true_and]
  have d:(((b.getD a.length 0).toNat:Int)=47)↔b.getD a.length 0=47:=⟨fun h=>UInt8.toNat_inj.1 (by
   have:(b.getD a.length 0).toNat=47:=by omega
   simpa using this),fun h=>by rw[h];rfl⟩
  rw[<-Bool.decide_and,decide_eq_decide,d];simp only[gt_iff_lt,h,true_and,Option.some.injEq]
 ·rw[A3 (show ¬(a.length:Int)<b.length by omega)];simp[h]
theorem nA(f:FuncId)(m:File->Bool)(l:List File)(w:l.length<=1073741824)(s:∀x∈l,FnOk Tryz.prog f [uL x] (fun rs=>rs=[G1 (m x)])) :
  FnOk Tryz.prog 164 [jD l,.one (.v (.func (.func f) #[] #[]))] (fun rs=>∃i:Int,rs=[D0 i]/\decide (0<=i)=l.any m):=by
 refine FnOk.intro Tryz.func164 (by decide) Z Z Z Z ?_;refine k2 ?_;refine A7 (A6 (A9 Z Z) Z (B0 ?_));refine k1 (k2 (k2 ?_));refine A7 (A6 (A8 Z Z) Z (A6 (F3 Z (.pure _ _ _ _)) Z (A6 (A8 Z Z) Z (B0 ?_))));refine k1 (k3 ?_);refine D3 (X:=Nat) (fun i=>([(0,D9 File 2 V4 l),(1,H5 (.func (.func f) #[] #[])),(7,D5 l.length),(8,D5 i)],[])) (fun i=>i<=l.length/\(l.take i).any m=false) (fun i=>l.length-i) 0 ⟨Nat.zero_le _,rfl⟩ (Sees.of ⟨B5 rfl,B5 rfl,B5 rfl,B5 rfl,trivial⟩ trivial) ?_;rintro i ⟨t,h⟩;dsimp only at t h ⊢;refine k2 ?_;refine A7 (A6 (E9 Z Z) Z (B0 ?_));refine k1 (k2 ?_);refine B2 rfl (fun d=>?_) (fun d=>?_);rotate_left
 ·have g:i=l.length:=by have g:=A1 d;(try dsimp only at g);omega
  rw[g,HX]at h;refine k6 (k2 ?_);refine A7 (A6 (A9 Z Z) Z (B0 ?_));refine k1 (I2 ?_);exact B4 (rs:=[D0 (-1)]) (G8 rfl rfl rfl) ⟨-1,rfl,by rw[h];rfl⟩
 have b:i<l.length:=by have g:=A0 d;(try dsimp only at g);omega
 obtain⟨x,k⟩:∃x,x=l[i]:=⟨_,rfl⟩
 have q:l[i]?=some x:=by rw[k];simp[b]
 have j:=s x (by rw[k];exact HT b);refine k5 (k1 (k2 (k3 (k2 ?_))));refine A7 (A6 (A8 Z Z) Z (A6 (A9 Z Z) Z (B0 ?_)));refine k1 (k2 ?_);refine A7 (A6 (A8 Z Z) Z (A6 (A8 Z Z) Z (A6 (A8 Z Z) Z (A6 (B7 Z (.pure _ _ _ _) Z (by omega) q) Z (A6 (K6 Z Z) Z (A6 (uF (j) Z Z Z) Z (B0 ?_)))))));refine k1 ?_;refine B2 rfl (fun d=>?_) (fun d=>?_)
 ·refine k2 ?_;refine A7 (A6 (A8 Z Z) Z (A6 (A9 Z Z) Z (B0 ?_)));refine k1 (I2 (N8 (H9 (H9 (N8 (H9 ?_))))));refine B4 (rs:=[D0 i]) (G8 rfl rfl rfl) ⟨i,rfl,?_⟩;rw[List.any_eq_true.2 ⟨x,by rw[k];exact HT b,d⟩];exact A2 (by omega)
 ·refine k5 (k4 (k1 ?_));refine A7 (A6 (E2 Z Z (by omega)) Z (A6 (A8 Z Z) Z (B0 ?_)));refine k1 ?_;refine⟨i+1,⟨b,?_⟩,by omega,(Sees.of ⟨B5 rfl,B5 rfl,B5 rfl,B5 rfl,trivial⟩ trivial)⟩;rw[List.take_add_one,q,Option.toList_some,JL,h,Bool.false_or,List.any_cons,List.any_nil,Bool.or_false];exact d
theorem t6(f:FuncId)(a:File->Bool)(l:List File)(g:l.length<=1073741824)(b:∀x∈l,FnOk Tryz.prog f [uL x] (fun rs=>rs=[G1 (a x)])) :
  FnOk Tryz.prog 115 [jD l,.one (.v (.func (.func f) #[] #[]))] (fun rs=>rs=[G1 (l.any a)]):=by
 refine FnOk.intro Tryz.func115 (by decide) Z Z Z Z ?_;refine k2 ?_;refine A7 (A6 (A9 Z Z) Z (B0 ?_));refine k1 (k2 ?_);refine A7 (A6 (A8 Z Z) Z (A6 (A8 Z Z) Z (C9 (nA f a l g b) Z Z Z ?_)));rintro _ ⟨i,rfl,d⟩;refine A6 (fN Z Z) Z (A6 (A9 Z Z) Z (B0 ?_));refine k1 (I2 ?_);exact B4 (G8 rfl rfl rfl) (by rw[<-d])
theorem iU(f:FuncId)(m:Commit->Bool)(l:List Commit)(w:l.length<=1073741824)(s:∀x∈l,FnOk Tryz.prog f [dT x] (fun rs=>rs=[G1 (m x)])) :
  FnOk Tryz.prog 114 [E4 l,.one (.v (.func (.func f) #[] #[]))] (fun rs=>∃i:Int,rs=[D0 i]/\decide (0<=i)=l.any m):=by
 refine FnOk.intro Tryz.func114 (by decide) Z Z Z Z ?_;refine k2 ?_;refine A7 (A6 (A9 Z Z) Z (B0 ?_));refine k1 (k2 (k2 ?_));refine A7 (A6 (A8 Z Z) Z (A6 (F3 Z (.pure _ _ _ _)) Z (A6 (A8 Z Z) Z (B0 ?_))));refine k1 (k3 ?_);refine D3 (X:=Nat) (fun i=>([(0,D9 Commit 3 E6 l),(1,H5 (.func (.func f) #[] #[])),(7,D5 l.length),(8,D5 i)],[])) (fun i=>i<=l.length/\(l.take i).any m=false) (fun i=>l.length-i) 0 ⟨Nat.zero_le _,rfl⟩ (Sees.of ⟨B5 rfl,B5 rfl,B5 rfl,B5 rfl,trivial⟩ trivial) ?_;rintro i ⟨t,h⟩;dsimp only at t h ⊢;refine k2 ?_;refine A7 (A6 (E9 Z Z) Z (B0 ?_));refine k1 (k2 ?_);refine B2 rfl (fun d=>?_) (fun d=>?_);rotate_left
 ·have g:i=l.length:=by have g:=A1 d;(try dsimp only at g);omega
  rw[g,HX]at h;refine k6 (k2 ?_);refine A7 (A6 (A9 Z Z) Z (B0 ?_));refine k1 (I2 ?_);exact B4 (rs:=[D0 (-1)]) (G8 rfl rfl rfl) ⟨-1,rfl,by rw[h];rfl⟩
 have b:i<l.length:=by have g:=A0 d;(try dsimp only at g);omega
 obtain⟨x,k⟩:∃x,x=l[i]:=⟨_,rfl⟩
 have q:l[i]?=some x:=by rw[k];simp[b]
 have j:=s x (by rw[k];exact HT b);refine k5 (k1 (k2 (k3 (k2 ?_))));refine A7 (A6 (A8 Z Z) Z (A6 (A9 Z Z) Z (B0 ?_)));refine k1 (k2 ?_);refine A7 (A6 (A8 Z Z) Z (A6 (A8 Z Z) Z (A6 (A8 Z Z) Z (A6 (B7 Z (.pure _ _ _ _) Z (by omega) q) Z (A6 (K6 Z Z) Z (A6 (uF (j) Z Z Z) Z (B0 ?_)))))));refine k1 ?_;refine B2 rfl (fun d=>?_) (fun d=>?_)
 ·refine k2 ?_;refine A7 (A6 (A8 Z Z) Z (A6 (A9 Z Z) Z (B0 ?_)));refine k1 (I2 (N8 (H9 (H9 (N8 (H9 ?_))))));refine B4 (rs:=[D0 i]) (G8 rfl rfl rfl) ⟨i,rfl,?_⟩;rw[List.any_eq_true.2 ⟨x,by rw[k];exact HT b,d⟩];exact A2 (by omega)
 ·refine k5 (k4 (k1 ?_));refine A7 (A6 (E2 Z Z (by omega)) Z (A6 (A8 Z Z) Z (B0 ?_)));refine k1 ?_;refine⟨i+1,⟨b,?_⟩,by omega,(Sees.of ⟨B5 rfl,B5 rfl,B5 rfl,B5 rfl,trivial⟩ trivial)⟩;rw[List.take_add_one,q,Option.toList_some,JL,h,Bool.false_or,List.any_cons,List.any_nil,Bool.or_false];exact d
theorem a8(f:FuncId)(a:Commit->Bool)(l:List Commit)(g:l.length<=1073741824)(b:∀x∈l,FnOk Tryz.prog f [dT x] (fun rs=>rs=[G1 (a x)])) :
  FnOk Tryz.prog 71 [E4 l,.one (.v (.func (.func f) #[] #[]))] (fun rs=>rs=[G1 (l.any a)]):=by
 refine FnOk.intro Tryz.func71 (by decide) Z Z Z Z ?_;refine k2 ?_;refine A7 (A6 (A9 Z Z) Z (B0 ?_));refine k1 (k2 ?_);refine A7 (A6 (A8 Z Z) Z (A6 (A8 Z Z) Z (C9 (iU f a l g b) Z Z Z ?_)));rintro _ ⟨i,rfl,d⟩;refine A6 (fN Z Z) Z (A6 (A9 Z Z) Z (B0 ?_));refine k1 (I2 ?_);exact B4 (G8 rfl rfl rfl) (by rw[<-d])
structure FewG (g:Graph):Prop where
 len:g.length<=1000
 pars:∀c∈g,c.Parents.length<=1048576
theorem AJ(l:List Int)(n:Int)(j:l.length<=1073741824):FnOk Tryz.prog 57 [P5 l,D0 n] (fun rs=>rs=[G1 (decide (n∈l))]):=by
 refine FnOk.intro Tryz.func57 (by decide) Z Z Z Z ?_;refine k2 ?_;refine A7 (A6 (A9 Z Z) Z (B0 ?_));refine k1 (k2 (k2 ?_));refine A7 (A6 (A9 Z Z) Z (B0 ?_));refine k1 (k3 ?_);refine D3 (X:=Nat) (fun i=>([(0,D9 Int 1 K4 l),(1,D5 n),(5,D5 i)],[])) (fun i=>i<=l.length/\n∉l.take i) (fun i=>l.length-i) 0 ⟨Nat.zero_le _,by simp⟩ (Sees.of ⟨B5 rfl,B5 rfl,B5 rfl,trivial⟩ trivial) ?_;rintro i ⟨f,d⟩;dsimp only at f d ⊢;refine k2 (k2 ?_);refine A7 (A6 (A8 Z Z) Z (A6 (A8 Z Z) Z (A6 (F3 Z (.pure _ _ _ _)) Z (A6 (E9 Z Z) Z (B0 ?_)))));refine k1 ?_;refine B2 rfl (fun c=>?_) (fun c=>?_);rotate_left
 ·have a:i=l.length:=by have a:=A1 c;(try dsimp only at a);omega
  rw[a,HX]at d;refine k6 (k2 ?_);refine A7 (A6 (A9 Z Z) Z (B0 ?_));refine k1 (I2 ?_);exact B4 (rs:=[G1 false]) (G8 rfl rfl rfl) (by rw[A3 d])
 have b:i<l.length:=by have a:=A0 c;(try dsimp only at a);omega
 have g:l[i]?=some l[i]:=by simp[b]
 refine k5 (k1 (k2 (k3 (k2 ?_))));refine A7 (A6 (A8 Z Z) Z (A6 (A8 Z Z) Z (A6 (B7 Z (.pure _ _ _ _) Z (by omega) g) Z (A6 (B9 Z Z) Z (A6 (A8 Z Z) Z (A6 (J9 Z Z) Z (B0 ?_)))))));refine k1 ?_;refine B2 rfl (fun c=>?_) (fun c=>?_)
 ·have a:l[i]=n:=A0 c;refine k2 ?_;refine A7 (A6 (A9 Z Z) Z (B0 ?_));refine k1 (I2 (N8 (H9 (H9 (N8 (H9 ?_))))));exact B4 (rs:=[G1 true]) (G8 rfl rfl rfl) (by rw[A2 (a ▸ HT b)])
 ·have a:¬l[i]=n:=A1 c;refine k5 (k4 (k1 ?_));refine A7 (A6 (A8 Z Z) Z (A6 (E2 Z Z (by omega)) Z (A6 (A9 Z Z) Z (B0 ?_))));refine k1 ?_;refine⟨i+1,⟨b,?_⟩,by omega,(Sees.of ⟨B5 rfl,B5 rfl,B5 rfl,trivial⟩ trivial)⟩;rw[List.take_add_one,HQ b,Option.toList_some,HV,List.mem_singleton];rintro (h | h)
  ·exact d h
  ·exact a h.symm
theorem fU(ps:List Int)(l:List Bool)(i:Nat)(h:i<ps.length):M8 (ps.take (i+1)) l=(M8 (ps.take i) l).set ps[i].toNat true:=by
 unfold M8;rw[List.take_add_one,HQ h,Option.toList_some,JJ];rfl
theorem V3{l:List Bool}{c:Nat}(h:c<l.length):l[c]?=some (D2 l c):=by
 unfold D2;rw[HQ h];rfl
theorem iV{ps:List Int}{l:List Bool}{c i:Nat}(h:D2 l c=true):D2 (M8 (ps.take i) l) c=true:=(fI _ _).2 c h
def cH(g:Graph)(l:List Bool)(c:Nat):List Bool:=(List.range c).foldl (P6 g) l
theorem pN(g:Graph)(l:List Bool)(c:Nat):cH g l (c+1)=P6 g (cH g l c) c:=by unfold cH;rw[JR,JJ];rfl
theorem sF(g:Graph)(l:List Bool)(c:Nat):(cH g l c).length=l.length:=fH g _ l
theorem iW(g:Graph):∀(k:Nat) (l:List Bool),N3 g (k+1) l=aA g (N3 g k l)
 | 0,_=>rfl
 | k+1,l=>by rw[N3,iW g k];rfl
theorem vK(g:Graph)(b:List Int)(C:g.length<=1000)(hp:∀c∈g,c.Parents.length<=1048576)(hr:related g=true)(hf:∀f∈b,0<=f/\f<g.length)(an:b.length<=1048576) :
  FnOk Tryz.prog 58 [E4 g,P5 b] (fun rs=>rs=[oF (G6 g b)]):=by
 have ag:∀c,(C6 g c).length<=1048576:=fun c=>by
  by_cases J:c<g.length
  ·rw[W4 J];exact hp _ (HT J)
  ·rw[z8 J];exact Nat.zero_le _
 refine FnOk.intro Tryz.func58 (by decide) Z Z Z Z ?_;refine k2 ?_;refine A7 (A6 (A9 Z Z) Z (B0 ?_));refine k1 (k2 ?_);refine A7 (A6 (A8 Z Z) Z (A6 (F3 Z (.pure _ _ _ _)) Z (E1 (gO 753 Bool S3 false Z Z (by omega) (by omega) (fun _=>by first | exact⟨⟨rfl,rfl⟩,trivial⟩ | exact⟨I7 _ _ _,trivial⟩ | exact⟨I7 _ _ _,⟨rfl,rfl⟩,I7 _ _ _,trivial⟩ | exact⟨⟨rfl,rfl⟩,⟨rfl,rfl⟩,trivial⟩) (by first | rfl | (simp[H3,L2,Ob.free,SV.free,S1.free,TC.free]<;>rfl))) Z ?_)));refine A6 (A9 Z Z) Z (B0 ?_);refine k1 (k2 (k2 ?_));refine A7 (A6 (A9 Z Z) Z (B0 ?_));refine k1 (k3 ?_);rw[HS];obtain⟨z,hz⟩:∃z,z=List.replicate g.length false:=⟨_,rfl⟩
 have al:z.length=g.length:=by rw[hz];simp
 rw[<-hz];refine D3 (X:=Nat) (fun i=>([(0,D9 Commit 3 E6 g),(1,D9 Int 1 K4 b),(5,.s (.one (.mut 753))),(6,D5 i)],[(753,.arr Bool 1 S3 (M8 (b.take i) z))])) (fun i=>i<=b.length) (fun i=>b.length-i) 0 (Nat.zero_le _) (Sees.of ⟨B5 rfl,B5 rfl,B5 rfl,B5 rfl,trivial⟩ ⟨rfl,trivial⟩) ?_;intro i hi;dsimp only at hi ⊢;have P:=M9 (b.take i) z;refine k2 (k2 ?_);refine A7 (A6 (A8 Z Z) Z (A6 (A8 Z Z) Z (A6 (F3 Z (.pure _ _ _ _)) Z (A6 (E9 Z Z) Z (B0 ?_)))));refine k1 ?_;refine B2 rfl (fun d=>?_) (fun d=>?_)
 ·have G:i<b.length:=by have j:=A0 d;(try dsimp only at j);omega
  have hv:b[i]?=some b[i]:=by simp[G]
  have Y:=hf _ (HT G);have O:=fU b z i G;obtain⟨f,W⟩:∃f,f=b[i]:=⟨_,rfl⟩
  rw[<-W]at hv Y O;refine k5 (k1 (k2 (k3 ?_)));refine A7 (A6 (A8 Z Z) Z (A6 (A8 Z Z) Z (A6 (A8 Z Z) Z (A6 (B7 Z (.pure _ _ _ _) Z (by omega) hv) Z (A6 (B9 Z Z) Z (A6 (F0 Z Z Z (by omega) (by (rw[P];omega))) Z ?_))))));refine J8 (M7 TySz.out Z Z (by (rw[P];omega)) Z Z) ?_;refine B0 ?_;refine k4 (k1 ?_);refine A7 (A6 (A8 Z Z) Z (A6 (E2 Z Z (by omega)) Z (A6 (A9 Z Z) Z (B0 ?_))));refine k1 ?_;refine⟨i+1,by omega,by omega,?_⟩;rw[O];exact (Sees.of ⟨B5 rfl,B5 rfl,B5 rfl,B5 rfl,trivial⟩ ⟨rfl,trivial⟩)
 have aa:i=b.length:=by have j:=A1 d;(try dsimp only at j);omega
 rw[aa,HX];obtain⟨B,H⟩:∃B,B=M8 b z:=⟨_,rfl⟩
 have T:B.length=g.length:=by rw[H,M9,al]
 have M:G6 g b=N3 g g.length B:=by rw[H,hz];rfl
 rw[<-H,M];refine k6 (k2 (k2 ?_));refine A7 (A6 (A9 Z Z) Z (B0 ?_));refine k1 (k3 ?_);refine D3 (X:=Nat) (fun k=>([(0,D9 Commit 3 E6 g),(5,.s (.one (.mut 753))),(7,D5 k)],[(753,.arr Bool 1 S3 (N3 g k B))])) (fun k=>k<=g.length) (fun k=>g.length-k) 0 (Nat.zero_le _) (Sees.of ⟨B5 rfl,B5 rfl,B5 rfl,trivial⟩ ⟨rfl,trivial⟩) ?_;intro k hk;dsimp only at hk ⊢;refine k2 (k2 ?_);refine A7 (A6 (A8 Z Z) Z (A6 (A8 Z Z) Z (A6 (F3 Z (.pure _ _ _ _)) Z (A6 (E9 Z Z) Z (B0 ?_)))));refine k1 ?_;refine B2 rfl (fun d=>?_) (fun d=>?_);rotate_left
 ·have ab:k=g.length:=by have j:=A1 d;(try dsimp only at j);omega
  rw[ab];refine Q7 (Sees.freeze (k:=753) Z) ?_;refine k6 (k2 ?_);refine A7 (A6 (A8 Z Z) Z (A6 (A9 Z Z) Z (B0 ?_)));refine k1 (I2 ?_);exact B4 (rs:=[oF (N3 g g.length B)]) (G8 rfl rfl rfl) rfl
 have am:k<g.length:=by have j:=A0 d;(try dsimp only at j);omega
 have w:N3 g (k+1) B=cH g (N3 g k B) g.length:=iW g k B;obtain⟨y,hy⟩:∃y,y=N3 g k B:=⟨_,rfl⟩
 have ak:y.length=g.length:=by rw[hy,aT,T]
 rw[<-hy]at w ⊢;refine k5 (k1 (k2 (k3 (k2 ?_))));refine A7 (A6 (A9 Z Z) Z (B0 ?_));refine k1 (k3 ?_);refine D3 (X:=Nat) (fun c=>([(0,D9 Commit 3 E6 g),(5,.s (.one (.mut 753))),(7,D5 k),(8,D5 c)],[(753,.arr Bool 1 S3 (cH g y c))])) (fun c=>c<=g.length) (fun c=>g.length-c) 0 (Nat.zero_le _) (Sees.of ⟨B5 rfl,B5 rfl,B5 rfl,B5 rfl,trivial⟩ ⟨rfl,trivial⟩) ?_;intro c J;dsimp only at J ⊢;refine k2 (k2 ?_);refine A7 (A6 (A8 Z Z) Z (A6 (A8 Z Z) Z (A6 (F3 Z (.pure _ _ _ _)) Z (A6 (E9 Z Z) Z (B0 ?_)))));refine k1 ?_;refine B2 rfl (fun d=>?_) (fun d=>?_);rotate_left
 ·have V:c=g.length:=by have j:=A1 d;(try dsimp only at j);omega
  rw[V,<-w];refine k6 (k7 (k7 (k8 Z (k4 (k1 ?_)))));refine A7 (A6 (A8 Z Z) Z (A6 (E2 Z Z (by omega)) Z (A6 (A9 Z Z) Z (B0 ?_))));refine k1 ?_;exact⟨k+1,by omega,by omega,(Sees.of ⟨B5 rfl,B5 rfl,B5 rfl,trivial⟩ ⟨rfl,trivial⟩)⟩
 have E:c<g.length:=by have j:=A0 d;(try dsimp only at j);omega
 have F:=pN g y c;obtain⟨x,hx⟩:∃x,x=cH g y c:=⟨_,rfl⟩
 have S:x.length=g.length:=by rw[hx,sF,ak]
 rw[<-hx]at F ⊢;obtain⟨v,K⟩:∃v,v=g[c]:=⟨_,rfl⟩
 have Q:g[c]?=some v:=by rw[K];simp[E]
 have L:C6 g c=v.Parents:=by rw[W4 E,K]
 have hpr:=(H2 hr c).1;have af:=ag c;rw[L]at hpr af;refine k5 (k1 (k2 (k3 (k2 ?_))));refine A7 (A6 (A9 Z Z) Z (B0 ?_));refine k1 (k3 ?_);refine D3 (X:=Nat) (fun p=>([(0,D9 Commit 3 E6 g),(5,.s (.one (.mut 753))),(7,D5 k),(8,D5 c),(9,D5 p)],[(753,.arr Bool 1 S3 (if D2 x c=true then M8 (v.Parents.take p) x else x))])) (fun p=>p<=v.Parents.length/\(D2 x c=false->p=0)) (fun p=>v.Parents.length-p) 0 ⟨Nat.zero_le _,fun _=>rfl⟩ (by split<;>exact (Sees.of ⟨B5 rfl,B5 rfl,B5 rfl,B5 rfl,B5 rfl,trivial⟩ ⟨rfl,trivial⟩)) ?_;rintro p ⟨ac,ad⟩;dsimp only at ac ad ⊢;obtain⟨u,I⟩:∃u,u=(if D2 x c=true then M8 (v.Parents.take p) x else x):=⟨_,rfl⟩
 have D:u.length=g.length:=by rw[I];split;rw[M9,S];exact S
 have ai:D2 u c=D2 x c:=by
  rw[I];cases U:D2 x c
  ·simp[U]
  ·simp only[if_true];exact iV U
 have aj:u[((c:Nat):Int).toNat]?=some (D2 x c):=by rw[HS,V3 (by omega),ai]
 rw[<-I];refine k2 (k2 ?_);refine A7 (A6 (A8 Z Z) Z (A6 (A8 Z Z) Z (A6 (A8 Z Z) Z (A6 (B7 Z (.pure _ _ _ _) Z (by omega) Q) Z (A6 (D7 Z) Z (A6 (B9 Z Z) Z (A6 (F3 Z (.pure _ _ _ _)) Z (A6 (E9 Z Z) Z (A6 (A8 Z Z) Z (B1 Z Z Z Z (fun C=>by rw[C];exact A8 Z Z) ?_))))))))));refine B1 Z Z Z Z (fun C=>by rw[C];exact A8 Z Z) ?_;refine B1 Z Z Z Z (fun C=>by have hq:=C;(try simp at hq);rw[C];exact F0 Z Z Z (by omega) (by (rw[D];omega))) ?_;refine B1 Z Z Z Z (fun C=>by rw[C];exact O6 Z Z aj Z) ?_;refine A6 (B6 Z (fun h=>by first | rfl | (rw[h];rfl)) (fun h=>by first | rfl | (rw[h];rfl))) Z ?_;refine B0 ?_;refine k1 ?_;refine B2 rfl (fun d=>?_) (fun d=>?_)
 ·rw[bP,HR,decide_eq_true_eq]at d;have A:p<v.Parents.length:=by omega
  have R:v.Parents[p]?=some v.Parents[p]:=by simp[A]
  have ae:=hpr _ (HT A);have O:=fU v.Parents x p A;rw[I,A4 d.2]at D;rw[I,A4 d.2];obtain⟨q,hq⟩:∃q,q=v.Parents[p]:=⟨_,rfl⟩
  rw[<-hq]at R ae O;refine k5 (k1 (k2 (k3 ?_)));refine A7 (A6 (A8 Z Z) Z (A6 (A8 Z Z) Z (A6 (A8 Z Z) Z (A6 (B7 Z (.pure _ _ _ _) Z (by omega) Q) Z (A6 (D7 Z) Z (A6 (B9 Z Z) Z (A6 (A8 Z Z) Z (A6 (B7 Z (.pure _ _ _ _) Z (by omega) R) Z (A6 (B9 Z Z) Z (A6 (F0 Z Z Z (by omega) (by (rw[D];omega))) Z ?_))))))))));refine J8 (M7 TySz.out Z Z (by (rw[D];omega)) Z Z) ?_;refine B0 ?_;refine k4 (k1 ?_);refine A7 (A6 (A8 Z Z) Z (A6 (E2 Z Z (by omega)) Z (A6 (A9 Z Z) Z (B0 ?_))));refine k1 ?_;refine⟨p+1,⟨by omega,fun e=>by rw[d.2]at e;cases e⟩,by omega,?_⟩;rw[A4 d.2,O];exact (Sees.of ⟨B5 rfl,B5 rfl,B5 rfl,B5 rfl,B5 rfl,trivial⟩ ⟨rfl,trivial⟩)
 ·rw[bP,Bool.and_eq_false_iff,decide_eq_false_iff_not]at d;have ah:u=P6 g x c:=by
   rw[I];unfold P6;rw[L];cases U:D2 x c
   ·rfl
   ·have:p=v.Parents.length:=by
     rcases d with j | j
     ·omega
     ·rw[U]at j;cases j
    rw[this,HX]
  rw[ah,<-F];refine k6 (k7 (k7 (k8 Z (k4 (k1 ?_)))));refine A7 (A6 (A8 Z Z) Z (A6 (E2 Z Z (by omega)) Z (A6 (A9 Z Z) Z (B0 ?_))));refine k1 ?_;exact⟨c+1,by omega,by omega,(Sees.of ⟨B5 rfl,B5 rfl,B5 rfl,B5 rfl,trivial⟩ ⟨rfl,trivial⟩)⟩
theorem vL(l:List Int)(n:Int)(j:l.length<=1073741824):FnOk Tryz.prog 163 [P5 l,D0 n] (fun rs=>∃i:Int,rs=[D0 i]/\decide (0<=i)=decide (n∈l)):=by
 refine FnOk.intro Tryz.func163 (by decide) Z Z Z Z ?_;refine k2 ?_;refine A7 (A6 (A9 Z Z) Z (B0 ?_));refine k1 (k2 (k2 ?_));refine A7 (A6 (A8 Z Z) Z (A6 (F3 Z (.pure _ _ _ _)) Z (A6 (A8 Z Z) Z (B0 ?_))));refine k1 (k3 ?_);refine D3 (X:=Nat) (fun i=>([(0,D9 Int 1 K4 l),(1,D5 n),(7,D5 l.length),(8,D5 i)],[])) (fun i=>i<=l.length/\n∉l.take i) (fun i=>l.length-i) 0 ⟨Nat.zero_le _,by simp⟩ (Sees.of ⟨B5 rfl,B5 rfl,B5 rfl,B5 rfl,trivial⟩ trivial) ?_;rintro i ⟨f,d⟩;dsimp only at f d ⊢;refine k2 ?_;refine A7 (A6 (E9 Z Z) Z (B0 ?_));refine k1 (k2 ?_);refine B2 rfl (fun c=>?_) (fun c=>?_);rotate_left
 ·have a:i=l.length:=by have a:=A1 c;(try dsimp only at a);omega
  rw[a,HX]at d;refine k6 (k2 ?_);refine A7 (A6 (A9 Z Z) Z (B0 ?_));refine k1 (I2 ?_);exact B4 (rs:=[D0 (-1)]) (G8 rfl rfl rfl) ⟨-1,rfl,by rw[A3 d];rfl⟩
 have b:i<l.length:=by have a:=A0 c;(try dsimp only at a);omega
 have g:l[i]?=some l[i]:=by simp[b]
 refine k5 (k1 (k2 (k3 (k2 ?_))));refine A7 (A6 (A8 Z Z) Z (A6 (A9 Z Z) Z (B0 ?_)));refine k1 (k2 ?_);refine A7 (A6 (A8 Z Z) Z (A6 (A8 Z Z) Z (A6 (A8 Z Z) Z (A6 (B7 Z (.pure _ _ _ _) Z (by omega) g) Z (A6 (B9 Z Z) Z (A6 (J9 Z Z) Z (B0 ?_)))))));refine k1 ?_;refine B2 rfl (fun c=>?_) (fun c=>?_)
 ·have a:n=l[i]:=A0 c;refine k2 ?_;refine A7 (A6 (A8 Z Z) Z (A6 (A9 Z Z) Z (B0 ?_)));refine k1 (I2 (N8 (H9 (H9 (N8 (H9 ?_))))));refine B4 (rs:=[D0 i]) (G8 rfl rfl rfl) ⟨i,rfl,?_⟩;rw[A2 (show n∈l from a ▸ HT b)];exact A2 (by omega)
 ·have a:¬n=l[i]:=A1 c;refine k5 (k4 (k1 ?_));refine A7 (A6 (E2 Z Z (by omega)) Z (A6 (A8 Z Z) Z (B0 ?_)));refine k1 ?_;refine⟨i+1,⟨b,?_⟩,by omega,(Sees.of ⟨B5 rfl,B5 rfl,B5 rfl,B5 rfl,trivial⟩ trivial)⟩;rw[List.take_add_one,HQ b,Option.toList_some,HV,List.mem_singleton];rintro (h | h)
  ·exact d h
  ·exact a h
theorem nB(l:List Int)(n:Int)(b:l.length<=1073741824):FnOk Tryz.prog 113 [P5 l,D0 n] (fun rs=>rs=[G1 (decide (n∈l))]):=by
 refine FnOk.intro Tryz.func113 (by decide) Z Z Z Z ?_;refine k2 ?_;refine A7 (A6 (A9 Z Z) Z (B0 ?_));refine k1 (k2 ?_);refine A7 (A6 (A8 Z Z) Z (A6 (A8 Z Z) Z (C9 (vL l n b) Z Z Z ?_)));rintro _ ⟨i,rfl,a⟩;refine A6 (fN Z Z) Z (A6 (A9 Z Z) Z (B0 ?_));refine k1 (I2 ?_);exact B4 (G8 rfl rfl rfl) (by rw[<-a])
theorem nC(c:Commit)(d:c.Parents.length<=1073741824):FnOk Tryz.prog 112 [dT c] (fun a=>a=[G1 (decide (c.Parents.length>32))]):=by
 refine FnOk.intro Tryz.func112 (by decide) Z Z Z Z ?_;refine k2 ?_;refine A7 (E1 (bC 1 Z Z Z) Z (A6 (A9 Z Z) Z (B0 ?_)));refine k1 (k2 ?_);refine A7 (A6 (B3 Z) Z (A6 (B8 Z Z Z) Z (A6 (F3 Z (.pure _ _ _ _)) Z (A6 (N1 Z Z) Z (A6 (A9 Z Z) Z (B0 ?_))))));refine k1 (I2 ?_);exact B4 (G8 rfl rfl rfl) (congrArg (fun b=>[G1 b]) (decide_eq_decide.2 ⟨fun h=>by omega,fun h=>by omega⟩))
theorem pO(g:Graph)(f:FewG g)(b:g.length<=1073741824):FnOk Tryz.prog 68 [E4 g] (fun rs=>rs=[G1 (P1 g)]):=by
 refine FnOk.intro Tryz.func68 (by decide) Z Z Z Z ?_;refine k2 ?_;refine A7 (A6 (A9 Z Z) Z (B0 ?_));refine k1 (k2 ?_);refine A7 (A6 (A8 Z Z) Z (A6 (F3 Z (.pure _ _ _ _)) Z (A6 (tX Z Z) Z (A6 (A8 Z Z) Z (B1 Z Z Z Z (fun a=>by rw[a];exact A8 Z Z) ?_)))));refine B1 Z Z Z Z (fun a=>by have i:=a;(try simp at i);rw[a];exact M2 (a8 112 (fun c=>decide (c.Parents.length>32)) g b (fun c d=>nC c (by have:=f.pars c d;omega))) Z Z) ?_;refine B1 Z Z Z Z (fun a=>by rw[a];exact Z4 Z) ?_;refine A6 (B6 Z (fun h=>by first | rfl | (rw[h];rfl)) (fun h=>by first | rfl | (rw[h];rfl))) Z ?_;refine A6 (A9 Z Z) Z (B0 ?_);refine k1 (I2 ?_);refine B4 (G8 Z Z Z) ?_;unfold P1;rw[bP,show decide ((g.length:Int)<=300)=decide (g.length<=300) from decide_eq_decide.2 (by omega)]
theorem sG(c:Commit):FnOk Tryz.prog 72 [dT c] (fun rs=>rs=[G1 (decide (c.Date<0\/c.Date>2147483647))]):=by
 refine FnOk.intro Tryz.func72 (by decide) Z Z Z Z ?_;refine k2 ?_;refine A7 (E1 (bC 1 Z Z Z) Z (A6 (A9 Z Z) Z (B0 ?_)));refine k1 (k2 ?_);refine A7 (A6 (B3 Z) Z (A6 (B8 Z Z Z) Z (A6 (E9 Z Z) Z (A6 (A8 Z Z) Z (B1 Z Z Z Z (fun a=>by rw[a];exact B3 Z) ?_)))));refine B1 Z Z Z Z (fun a=>by rw[a];exact B8 Z Z Z) ?_;refine B1 Z Z Z Z (fun a=>by rw[a];exact N1 Z Z) ?_;refine A6 (B6 Z (fun h=>by first | rfl | (rw[h];rfl)) (fun h=>by first | rfl | (rw[h];rfl))) Z ?_;refine A6 (A9 Z Z) Z (B0 ?_);refine k1 (I2 ?_);refine B4 (G8 Z Z Z) ?_;rw[or_pick]
theorem sH(g:Graph)(c:Int):FnOk Tryz.prog 32 [E4 g,D0 c] (fun rs=>rs=[G1 (decide (aE g c))]):=by
 refine FnOk.intro Tryz.func32 (by decide) Z Z Z Z ?_;refine k2 ?_;refine A7 (A6 (A9 Z Z) Z (B0 ?_));refine k1 (k2 ?_);refine A7 (A6 (A8 Z Z) Z (A6 (fN Z Z) Z (A6 (A8 Z Z) Z (B1 Z Z Z Z (fun a=>by rw[a];exact A8 Z Z) ?_))));refine B1 Z Z Z Z (fun a=>by rw[a];exact A8 Z Z) ?_;refine B1 Z Z Z Z (fun a=>by rw[a];exact F3 Z (.pure _ _ _ _)) ?_;refine B1 Z Z Z Z (fun a=>by rw[a];exact E9 Z Z) ?_;refine A6 (B6 Z (fun h=>by first | rfl | (rw[h];rfl)) (fun h=>by first | rfl | (rw[h];rfl))) Z ?_;refine A6 (A9 Z Z) Z (B0 ?_);refine k1 (I2 ?_);refine B4 (G8 Z Z Z) ?_;rw[and_pick];rfl
theorem pP(g:Graph)(E:FewG g)(d:g.length<=1073741824):FnOk Tryz.prog 69 [E4 g] (fun rs=>rs=[G1 (related g)]):=by
 refine FnOk.intro Tryz.func69 (by decide) Z Z Z Z ?_;refine k2 ?_;refine A7 (A6 (A9 Z Z) Z (B0 ?_));refine k1 (k2 (k2 ?_));refine A7 (A6 (A8 Z Z) Z (A6 (F3 Z (.pure _ _ _ _)) Z (A6 (A8 Z Z) Z (B0 ?_))));refine k1 (k3 ?_);refine D3 (X:=Nat) (fun i=>([(0,D9 Commit 3 E6 g),(7,D9 Commit 3 E6 g),(8,D5 g.length),(9,D5 i)],[])) (fun i=>i<=g.length/\((g.take i).all fun c=>c9 g.length [] c.Parents)=true) (fun i=>g.length-i) 0 ⟨Nat.zero_le _,rfl⟩ (Sees.of ⟨B5 rfl,B5 rfl,B5 rfl,B5 rfl,trivial⟩ trivial) ?_;rintro i ⟨F,ha⟩;dsimp only at F ha ⊢;refine k2 ?_;refine A7 (A6 (E9 Z Z) Z (B0 ?_));refine k1 (k2 ?_);refine B2 rfl (fun m=>?_) (fun m=>?_);rotate_left
 ·have j:i=g.length:=by have j:=A1 m;(try dsimp only at j);omega
  rw[j,HX]at ha;refine k6 (k2 ?_);refine A7 (A6 (A9 Z Z) Z (B0 ?_));refine k1 (I2 ?_);exact B4 (rs:=[G1 true]) (G8 rfl rfl rfl) (by unfold related;rw[ha])
 have w:i<g.length:=by have j:=A0 m;(try dsimp only at j);omega
 obtain⟨c,A⟩:∃c,c=g[i]:=⟨_,rfl⟩
 have D:g[i]?=some c:=by rw[A];simp[w]
 have I:=E.pars c (by rw[A];exact HT w);have z:c9 g.length [] c.Parents=false->[G1 false]=[G1 (related g)]:=fun h=>by
  have:related g=false:=by
   unfold related;rw[List.all_eq_false];exact⟨c,by rw[A];exact HT w,by rw[h];decide⟩
  rw[this]
 refine k5 (k1 (k2 (k3 (k2 ?_))));refine A7 (A6 (B7 Z (.pure _ _ _ _) Z (by omega) D) Z (A6 (K6 Z Z) Z (E1 (P2 4 Z) Z (J8 (E0 TySz.out Z Z Z Z Z Z) (B0 ?_)))));refine k1 (k2 ?_);refine A7 (A6 (B3 Z) Z (A6 (B8 Z Z Z) Z (A6 (F3 Z (.pure _ _ _ _)) Z (A6 (A8 Z Z) Z (B0 ?_)))));refine k1 (k3 ?_);refine D3 (X:=Nat) (fun k=>([(0,D9 Commit 3 E6 g),(4,.s (.one (.ref 4 0))),(7,D9 Commit 3 E6 g),(8,D5 g.length),(9,D5 i),(14,D9 Int 1 K4 c.Parents),(15,D5 c.Parents.length),(16,D5 k)],[(4,.box (dT c).s1.cells)])) (fun k=>k<=c.Parents.length/\c9 g.length [] c.Parents=c9 g.length (c.Parents.take k) (c.Parents.drop k)) (fun k=>c.Parents.length-k) 0 ⟨Nat.zero_le _,rfl⟩ (Sees.of ⟨B5 rfl,B5 rfl,B5 rfl,B5 rfl,B5 rfl,B5 rfl,B5 rfl,B5 rfl,trivial⟩ ⟨rfl,trivial⟩) ?_;rintro k ⟨G,v⟩;dsimp only at G v ⊢;refine k2 ?_;refine A7 (A6 (E9 Z Z) Z (B0 ?_));refine k1 (k2 ?_);refine B2 rfl (fun m=>?_) (fun m=>?_);rotate_left
 ·have j:k=c.Parents.length:=by have j:=A1 m;(try dsimp only at j);omega
  rw[j,List.drop_length]at v;refine k6 (k7 (k7 (k8 Z (k4 (k1 ?_)))));refine A7 (A6 (E2 Z Z (by omega)) Z (A6 (A8 Z Z) Z (B0 ?_)));refine k1 ?_;refine⟨i+1,⟨w,?_⟩,by omega,(Sees.of ⟨B5 rfl,B5 rfl,B5 rfl,B5 rfl,trivial⟩ trivial)⟩;rw[List.take_add_one,D,Option.toList_some,JF,ha,Bool.true_and,List.all_cons,List.all_nil,Bool.and_true,v];rfl
 have q:k<c.Parents.length:=by have j:=A0 m;(try dsimp only at j);omega
 have y:c.Parents[k]?=some c.Parents[k]:=by simp[q]
 rw[IB q]at v;obtain⟨p,H⟩:∃p,p=c.Parents[k]:=⟨_,rfl⟩
 rw[<-H]at y v;have C:c.Parents.take (k+1)=c.Parents.take k++[p]:=by rw[List.take_add_one,y,Option.toList_some]
 rw[c9,<-C]at v;refine k5 (k1 (k2 (k3 (k2 ?_))));refine A7 (A6 (A8 Z Z) Z (A6 (B7 Z (.pure _ _ _ _) Z (by omega) y) Z (A6 (B9 Z Z) Z (A6 (A9 Z Z) Z (A6 (A9 Z Z) Z (B0 ?_))))));refine k1 (k2 ?_);refine A7 (A6 (A8 Z Z) Z (A6 (E9 Z Z) Z (A6 (A8 Z Z) Z (B1 Z Z Z Z (fun d=>by rw[d];exact A8 Z Z) ?_))));refine B1 Z Z Z Z (fun d=>by rw[d];exact A8 Z Z) ?_;refine B1 Z Z Z Z (fun d=>by rw[d];exact F3 Z (.pure _ _ _ _)) ?_;refine B1 Z Z Z Z (fun d=>by rw[d];exact fN Z Z) ?_;refine A6 (B6 Z (fun h=>by first | rfl | (rw[h];rfl)) (fun h=>by first | rfl | (rw[h];rfl))) Z ?_;refine A6 (A8 Z Z) Z (B1 Z Z Z Z (fun d=>by rw[d];exact B3 Z) ?_);refine B1 Z Z Z Z (fun d=>by rw[d];exact B8 Z Z Z) ?_;refine B1 Z Z Z Z (fun d=>by rw[d];exact A8 Z Z) ?_;refine B1 Z Z Z Z (fun d=>by have B:=d;(try simp at B);rw[d];exact eQ Z (.pure _ _ _ _) Z (by omega) (by omega)) ?_;refine B1 Z Z Z Z (fun d=>by rw[d];exact A8 Z Z) ?_;refine B1 Z Z Z Z (fun d=>by have B:=d;(try simp at B);rw[d];exact M2 (nB (c.Parents.take ((k:Nat):Int).toNat) p (by rw[IF];omega)) Z Z) ?_;refine A6 (B6 Z (fun h=>by first | rfl | (rw[h];rfl)) (fun h=>by first | rfl | (rw[h];rfl))) Z ?_;refine B0 ?_;refine k1 ?_;rw[HS,yQ,yQ];refine B2 rfl (fun m=>?_) (fun m=>?_)
 ·rw[IH,IH,decide_eq_true_eq,decide_eq_true_eq,decide_eq_true_eq]at m;have j:decide (0<=p/\p<(g.length:Int)/\p∉c.Parents.take k)=false:=by
   rw[decide_eq_false_iff_not];rintro⟨J,a2,a3⟩;rcases m with (h | h) | h
   ·omega
   ·omega
   ·exact a3 h
  rw[j,Bool.false_and]at v;refine k2 ?_;refine A7 (A6 (A9 Z Z) Z (B0 ?_));refine k1 (I2 (N8 (H9 (H9 (N8 (N8 (H9 (H9 (N8 (H9 ?_))))))))));exact B4 (rs:=[G1 false]) (G8 rfl rfl rfl) (z v)
 ·rw[IZ,IZ,decide_eq_false_iff_not,decide_eq_false_iff_not,decide_eq_false_iff_not]at m;have j:decide (0<=p/\p<(g.length:Int)/\p∉c.Parents.take k)=true:=A2 ⟨by omega,by omega,m.2⟩;rw[j,Bool.true_and]at v;refine k5 (k4 (k1 ?_));refine A7 (A6 (E2 Z Z (by omega)) Z (A6 (A8 Z Z) Z (B0 ?_)));refine k1 ?_;exact⟨k+1,⟨q,v⟩,by omega,(Sees.of ⟨B5 rfl,B5 rfl,B5 rfl,B5 rfl,B5 rfl,B5 rfl,B5 rfl,B5 rfl,trivial⟩ ⟨rfl,trivial⟩)⟩
theorem nD(ps l:List Int)(k:Nat)(h:k<ps.length):N6 (ps.take (k+1)) l=bump (N6 (ps.take k) l) ps[k]:=by
 unfold N6;rw[List.take_add_one,HQ h,Option.toList_some,JJ];rfl
theorem sI{l:List Int}{p:Int}(h:0<=p/\p<l.length):l[p.toNat]?=some (I1 l p.toNat):=by
 unfold I1;rw[HQ (by omega)];rfl
theorem sJ{ps:List Int}{l:List Int}{p:Nat}(b:∀p∈ps,0<=p/\p<l.length)(a:ps.Nodup):I1 l p<=I1 (N6 ps l) p/\I1 (N6 ps l) p<=I1 l p+1:=by
 rw[cR (n:=0) b a];split<;>omega
theorem pQ{g:Graph}(d:related g=true){i p:Nat}(a:i<=g.length)(b:p<g.length):0<=I1 (J0 g i) p/\I1 (J0 g i) p<=i:=by
 rw[aC d p b i a];have:=List.countP_le_length (p:=fun c=>decide ((p:Int)∈C6 g c)) (l:=List.range i);rw[IW]at this;omega
theorem sK(g:Graph)(hf:FewG g)(W:related g=true):FnOk Tryz.prog 70 [E4 g] (fun rs=>∃ch w,rs=[P5 w]/\KInv g w.length 0 ch w):=by
 have hg:=hf.len;refine FnOk.intro Tryz.func70 (by decide) Z Z Z Z ?_;refine k2 ?_;refine A7 (A6 (A9 Z Z) Z (B0 ?_));refine k1 (k2 ?_);refine A7 (A6 (A8 Z Z) Z (A6 (F3 Z (.pure _ _ _ _)) Z (E1 (gO 753 Int K4 0 Z Z (by omega) (by omega) (fun _=>by first | exact⟨⟨rfl,rfl⟩,trivial⟩ | exact⟨I7 _ _ _,trivial⟩ | exact⟨I7 _ _ _,⟨rfl,rfl⟩,I7 _ _ _,trivial⟩ | exact⟨⟨rfl,rfl⟩,⟨rfl,rfl⟩,trivial⟩) (by first | rfl | (simp[H3,L2,Ob.free,SV.free,S1.free,TC.free]<;>rfl))) Z ?_)));refine A6 (A9 Z Z) Z (B0 ?_);refine k1 (k2 (k2 ?_));refine A7 (A6 (A8 Z Z) Z (A6 (F3 Z (.pure _ _ _ _)) Z (A6 (A8 Z Z) Z (B0 ?_))));refine k1 (k3 ?_);rw[HS];refine D3 (X:=Nat) (fun i=>([(0,D9 Commit 3 E6 g),(3,.s (.one (.mut 753))),(17,D9 Commit 3 E6 g),(18,D5 g.length),(19,D5 i)],[(753,.arr Int 1 K4 (J0 g i))])) (fun i=>i<=g.length) (fun i=>g.length-i) 0 (Nat.zero_le _) (Sees.of ⟨B5 rfl,B5 rfl,B5 rfl,B5 rfl,B5 rfl,trivial⟩ ⟨rfl,trivial⟩) ?_;intro i V;dsimp only at V ⊢;refine k2 ?_;refine A7 (A6 (E9 Z Z) Z (B0 ?_));refine k1 (k2 ?_);refine B2 rfl (fun j=>?_) (fun j=>?_)
 ·have G:i<g.length:=by have d:=A0 j;(try dsimp only at d);omega
  obtain⟨c,P⟩:∃c,c=g[i]:=⟨_,rfl⟩
  have hv:g[i]?=some c:=by rw[P];simp[G]
  have H:C6 g i=c.Parents:=by rw[W4 G,P]
  have hpr:=H2 W i;have ah:=hf.pars c (by rw[P];exact HT G);have hs:=bS G;rw[H]at hpr hs;have C:=Y1 g i;have U:=fun p (T:p<g.length)=>pQ W (i:=i) (p:=p) (by omega) T;obtain⟨z,hz⟩:∃z,z=J0 g i:=⟨_,rfl⟩
  rw[<-hz]at hs C U ⊢;refine k5 (k1 (k2 (k3 (k2 ?_))));refine A7 (A6 (B7 Z (.pure _ _ _ _) Z (by omega) hv) Z (A6 (K6 Z Z) Z (E1 (P2 5 Z) Z (J8 (E0 TySz.out Z Z Z Z Z Z) (B0 ?_)))));refine k1 (k2 ?_);refine A7 (A6 (B3 Z) Z (A6 (B8 Z Z Z) Z (A6 (F3 Z (.pure _ _ _ _)) Z (A6 (A8 Z Z) Z (B0 ?_)))));refine k1 (k3 ?_);refine D3 (X:=Nat) (fun k=>([(0,D9 Commit 3 E6 g),(3,.s (.one (.mut 753))),(17,D9 Commit 3 E6 g),(18,D5 g.length),(19,D5 i),(24,D9 Int 1 K4 c.Parents),(25,D5 c.Parents.length),(26,D5 k)],[(753,.arr Int 1 K4 (N6 (c.Parents.take k) z))])) (fun k=>k<=c.Parents.length) (fun k=>c.Parents.length-k) 0 (Nat.zero_le _) (Sees.of ⟨B5 rfl,B5 rfl,B5 rfl,B5 rfl,B5 rfl,B5 rfl,B5 rfl,B5 rfl,trivial⟩ ⟨rfl,trivial⟩) ?_;intro k hk;dsimp only at hk ⊢;have L:=aB (c.Parents.take k) z;refine k2 ?_;refine A7 (A6 (E9 Z Z) Z (B0 ?_));refine k1 (k2 ?_);refine B2 rfl (fun j=>?_) (fun j=>?_);rotate_left
  ·have d:k=c.Parents.length:=by have d:=A1 j;(try dsimp only at d);omega
   rw[d,HX,<-hs];refine k6 (k7 (k7 (k8 Z (k4 (k1 ?_)))));refine A7 (A6 (E2 Z Z (by omega)) Z (A6 (A8 Z Z) Z (B0 ?_)));refine k1 ?_;exact⟨i+1,G,by omega,(Sees.of ⟨B5 rfl,B5 rfl,B5 rfl,B5 rfl,B5 rfl,trivial⟩ ⟨rfl,trivial⟩)⟩
  have y:k<c.Parents.length:=by have d:=A0 j;(try dsimp only at d);omega
  have J:c.Parents[k]?=some c.Parents[k]:=by simp[y]
  have R:=hpr.1 _ (HT y);have aa:=nD c.Parents z k y;obtain⟨p,T⟩:∃p,p=c.Parents[k]:=⟨_,rfl⟩
  rw[<-T]at J R aa;have hb:=sJ (ps:=c.Parents.take k) (l:=z) (p:=p.toNat) (fun q hq=>by rw[C];exact hpr.1 q (List.mem_of_mem_take hq)) (hpr.2.sublist (List.take_sublist _ _));have hh:=U p.toNat (by omega)
  have I:=sI (l:=N6 (c.Parents.take k) z) (p:=p) (by rw[L,C];exact R);refine k5 (k1 (k2 (k3 (k2 ?_))));refine A7 (A6 (B7 Z (.pure _ _ _ _) Z (by omega) J) Z (A6 (B9 Z Z) Z (A6 (A9 Z Z) Z (B0 ?_))));refine k1 ?_;refine A7 (A6 (A8 Z Z) Z (A6 (A8 Z Z) Z (A6 (F0 Z Z Z (by omega) (by (rw[L];omega))) Z ?_)));refine A6 (O6 Z Z I Z) Z (A6 (E2 Z Z (by omega)) Z (A6 (F0 Z Z Z (by omega) (by (rw[L];omega))) Z ?_));refine J8 (M7 TySz.out Z Z (by (rw[L];omega)) Z Z) ?_;refine B0 ?_;refine k4 (k1 ?_);refine A7 (A6 (E2 Z Z (by omega)) Z (A6 (A8 Z Z) Z (B0 ?_)));refine k1 ?_;refine⟨k+1,by omega,by omega,?_⟩;rw[aa];exact (Sees.of ⟨B5 rfl,B5 rfl,B5 rfl,B5 rfl,B5 rfl,B5 rfl,B5 rfl,B5 rfl,trivial⟩ ⟨rfl,trivial⟩)
 have Q:i=g.length:=by have d:=A1 j;(try dsimp only at d);omega
 rw[Q];have ab:=KInv.start W;obtain⟨z,hz⟩:∃z,z=J0 g g.length:=⟨_,rfl⟩
 have ae:z.length=g.length:=by rw[hz];exact Y1 g _
 rw[<-hz]at ab ⊢;refine k6 (k2 ?_);refine A7 (E1 (gN 8 _ K4 Z) Z (B0 ?_));refine k1 (k2 (k2 ?_));refine A7 (A6 (A8 Z Z) Z (A6 (vC Z Z) Z (A6 (A8 Z Z) Z (B0 ?_))));refine k1 (k3 ?_);refine D3 (X:=Nat) (fun i=>([(0,D9 Commit 3 E6 g),(3,.s (.one (.mut 753))),(8,.s (.one (.buf 8 Int 1 K4 (M4 z i)))),(38,.s (.one (.mut 753))),(39,D5 g.length),(40,D5 i)],[(8,.spare (M4 z i).length 1 3),(753,.arr Int 1 K4 z)])) (fun i=>i<=g.length) (fun i=>g.length-i) 0 (Nat.zero_le _) (by rw[<-ae];exact (Sees.of ⟨B5 rfl,B5 rfl,B5 rfl,B5 rfl,B5 rfl,B5 rfl,trivial⟩ ⟨rfl,rfl,trivial⟩)) ?_;intro i V;dsimp only at V ⊢;have am:=qY z i;have M:=oE z i;refine k2 ?_;refine A7 (A6 (E9 Z Z) Z (B0 ?_));refine k1 (k2 ?_);refine B2 rfl (fun j=>?_) (fun j=>?_)
 ·have G:i<g.length:=by have d:=A0 j;(try dsimp only at d);omega
  have I:=sI (l:=z) (p:=(i:Int)) (by omega);rw[HS]at I;refine k5 (k1 (k2 (k3 (k2 ?_))));refine A7 (A6 (A8 Z Z) Z (A6 (F0 Z Z Z (by omega) (by (rw[ae];omega))) Z ?_));refine A6 (O6 Z Z I Z) Z (A6 (A9 Z Z) Z (A6 (A9 Z Z) Z (B0 ?_)));refine k1 (k2 ?_);refine A7 (A6 (A8 Z Z) Z (A6 (J9 Z Z) Z (B0 ?_)));refine k1 ?_;refine B2 rfl (fun j=>?_) (fun j=>?_)
  ·have d:I1 z i=0:=A0 j;rw[A4 d]at M;skip;refine A7 (A6 (A8 Z Z) Z (A6 (A8 Z Z) Z (A6 (G2 (c:=K4) (ys:=[(i:Int)]) (F6 Z Z Z Z M3) Z Z Z) Z (E1 (k9 Z Z Z (.pure _ _ _ _) (by (simp only[HU,IM];omega)) Z) Z (A6 (A9 Z Z) Z (B0 ?_))))));refine k4 (k1 ?_);refine A7 (A6 (E2 Z Z (by omega)) Z (A6 (A8 Z Z) Z (B0 ?_)));refine k1 ?_;refine⟨i+1,by omega,by omega,?_⟩;rw[M];exact (Sees.of ⟨B5 rfl,B5 rfl,B5 rfl,B5 rfl,B5 rfl,B5 rfl,trivial⟩ ⟨rfl,rfl,trivial⟩)
  ·have d:¬I1 z i=0:=A1 j;rw[A5 d]at M;refine k5 (k4 (k1 ?_));refine A7 (A6 (E2 Z Z (by omega)) Z (A6 (A8 Z Z) Z (B0 ?_)));refine k1 ?_;refine⟨i+1,by omega,by omega,?_⟩;rw[M];exact (Sees.of ⟨B5 rfl,B5 rfl,B5 rfl,B5 rfl,B5 rfl,B5 rfl,trivial⟩ ⟨rfl,rfl,trivial⟩)
 have Q:i=g.length:=by have d:=A1 j;(try dsimp only at d);omega
 rw[Q];refine k6 (k2 (k2 ?_));refine A7 (A6 (A9 Z Z) Z (B0 ?_));refine k1 (k3 ?_);refine D3 (X:=Nat×List Int×List Int) (fun x=>([(0,D9 Commit 3 E6 g),(3,.s (.one (.mut 753))),(8,.s (.one (.buf 8 Int 1 K4 x.2.2))),(11,D5 x.1)],[(8,.spare x.2.2.length 1 3),(753,.arr Int 1 K4 x.2.1)])) (fun x=>x.1<=x.2.2.length/\KInv g x.1 0 x.2.1 x.2.2) (fun x=>g.length-x.1) (0,z,M4 z g.length) ⟨Nat.zero_le _,ab⟩ (Sees.of ⟨B5 rfl,B5 rfl,B5 rfl,B5 rfl,trivial⟩ ⟨rfl,rfl,trivial⟩) ?_;rintro⟨k,ch,w⟩ ⟨hk,S⟩;dsimp only at hk S ⊢;have al:=S.le;refine k2 (k2 ?_);refine A7 (A6 (A8 Z Z) Z (A6 (A8 Z Z) Z (A6 (F3 Z (.buf _ _ _ _ _)) Z (A6 (E9 Z Z) Z (B0 ?_)))));refine k1 ?_;refine B2 rfl (fun j=>?_) (fun j=>?_);rotate_left
 ·have d:k=w.length:=by have d:=A1 j;(try dsimp only at d);omega
  rw[d]at S;refine k6 (k2 ?_);refine A7 (A6 (A8 Z Z) Z (A6 (A9 Z Z) Z (B0 ?_)));refine k1 (I2 ?_);exact B4 (rs:=[P5 w]) (G8 rfl rfl rfl) ⟨ch,w,rfl,S⟩
 have y:k<w.length:=by have d:=A0 j;(try dsimp only at d);omega
 have ak:=S.rng _ (HT y);obtain⟨K,af⟩:∃K:Nat,w[k]=(K:Int):=⟨w[k].toNat,by omega⟩
 have ad:w[k]?=some (K:Int):=by rw[HQ y,af]
 have C:K<g.length:=by omega
 obtain⟨c,P⟩:∃c,c=g[K]:=⟨_,rfl⟩
 have ai:g[((K:Nat):Int).toNat]?=some c:=by rw[P];simp[C]
 have H:C6 g K=c.Parents:=by rw[W4 C,P]
 have ah:=hf.pars c (by rw[P];exact HT C);refine k5 (k1 (k2 (k3 (k2 ?_))));refine A7 (A6 (A8 Z Z) Z (A6 (A8 Z Z) Z (A6 (A8 Z Z) Z (A6 (B7 Z (.buf _ _ _ _ _) Z (by omega) ad) Z (A6 (B9 Z Z) Z (A6 (B7 Z (.pure _ _ _ _) Z (by omega) ai) Z (A6 (D7 Z) Z (A6 (B9 Z Z) Z (A6 (F3 Z (.pure _ _ _ _)) Z (A6 (A8 Z Z) Z (B0 ?_)))))))))));refine k1 (k3 ?_);refine D3 (X:=Nat×List Int×List Int) (fun x=>([(0,D9 Commit 3 E6 g),(3,.s (.one (.mut 753))),(8,.s (.one (.buf 8 Int 1 K4 x.2.2))),(11,D5 k),(65,D9 Int 1 K4 c.Parents),(66,D5 c.Parents.length),(67,D5 x.1)],[(8,.spare x.2.2.length 1 3),(753,.arr Int 1 K4 x.2.1)])) (fun x=>x.1<=c.Parents.length/\k<x.2.2.length/\x.2.2[k]?=some (K:Int)/\KInv g k x.1 x.2.1 x.2.2) (fun x=>c.Parents.length-x.1) (0,ch,w) ⟨Nat.zero_le _,y,ad,S⟩ (Sees.of ⟨B5 rfl,B5 rfl,B5 rfl,B5 rfl,B5 rfl,B5 rfl,B5 rfl,trivial⟩ ⟨rfl,rfl,trivial⟩) ?_;rintro⟨i,v,E⟩ ⟨V,hkl,B,F⟩;dsimp only at V hkl B F ⊢;have aj:=F.le;have D:=F.len;have O:E[k]=(K:Int):=by rw[HQ hkl]at B;exact Option.some.inj B
 refine k2 ?_;refine A7 (A6 (E9 Z Z) Z (B0 ?_));refine k1 (k2 ?_);refine B2 rfl (fun j=>?_) (fun j=>?_);rotate_left
 ·have d:i=c.Parents.length:=by have d:=A1 j;(try dsimp only at d);omega
  rw[d,<-H]at F;have hN:=F.next hkl O;refine k6 (k7 (k7 (k8 Z (k4 (k1 ?_)))));refine A7 (A6 (A8 Z Z) Z (A6 (E2 Z Z (by omega)) Z (A6 (A9 Z Z) Z (B0 ?_))));refine k1 ?_;exact⟨(k+1,v,E),⟨by dsimp only;omega,hN⟩,by dsimp only;omega,(Sees.of ⟨B5 rfl,B5 rfl,B5 rfl,B5 rfl,trivial⟩ ⟨rfl,rfl,trivial⟩)⟩
 have A:i<c.Parents.length:=by have d:=A0 j;(try dsimp only at d);omega
 have J:c.Parents[i]?=some c.Parents[i]:=by simp[A]
 have R:=(H2 W K).1 c.Parents[i] (by rw[H];exact HT A);obtain⟨p,T⟩:∃p:Nat,c.Parents[i]=(p:Int):=⟨c.Parents[i].toNat,by omega⟩
 rw[T]at J;obtain⟨s1,s2,s3,s4⟩:=F.step W hkl O (i:=i) (p:=p) (by rw[H];exact A) (by simp only[H];exact T);have I:=sI (l:=v) (p:=(p:Int)) (by omega);have ac:(T9 v p)[((p:Nat):Int).toNat]?=some (I1 v p-1):=by
  unfold T9;rw[HS,List.getElem?_set_self (by omega)]
 have ag:(T9 v p).length=g.length:=by unfold T9;rw[IT,D]
 have Y:v.set ((p:Nat):Int).toNat (I1 v ((p:Nat):Int).toNat-1)=T9 v p:=rfl;refine k5 (k1 (k2 (k3 (k2 ?_))));refine A7 (A6 (B7 Z (.pure _ _ _ _) Z (by omega) J) Z (A6 (B9 Z Z) Z (A6 (A9 Z Z) Z (B0 ?_))));refine k1 (k2 ?_);refine A7 (A6 (A8 Z Z) Z (A6 (A8 Z Z) Z (A6 (F0 Z Z Z (by omega) (by (rw[D];omega))) Z ?_)));refine A6 (O6 Z Z I Z) Z (A6 (bA Z Z (by (rw[HS];omega))) Z ?_);refine A6 (F0 Z Z Z (by omega) (by (rw[D];omega))) Z ?_;refine J8 (M7 TySz.out Z Z (by (rw[D];omega)) Z Z) ?_;refine B0 ?_;rw[Y];refine k1 (k2 ?_);refine A7 (A6 (A8 Z Z) Z (A6 (A8 Z Z) Z (A6 (F0 Z Z Z (by omega) (by (rw[ag];omega))) Z ?_)));refine A6 (O6 Z Z ac Z) Z (A6 (J9 Z Z) Z (B0 ?_));refine k1 ?_;refine B2 rfl (fun j=>?_) (fun j=>?_)
 ·have d:I1 v p-1=0:=A0 j;rw[A4 d]at s4;skip;refine A7 (A6 (A8 Z Z) Z (A6 (A8 Z Z) Z (A6 (G2 (c:=K4) (ys:=[(p:Int)]) (F6 Z Z Z Z M3) Z Z Z) Z (E1 (k9 Z Z Z (.pure _ _ _ _) (by (simp only[HU,IM];omega)) Z) Z (A6 (A9 Z Z) Z (B0 ?_))))));refine k4 (k1 ?_);refine A7 (A6 (E2 Z Z (by omega)) Z (A6 (A8 Z Z) Z (B0 ?_)));refine k1 ?_;exact⟨(i+1,T9 v p,E++[(p:Int)]),⟨A,by dsimp only;rw[HW];omega,by dsimp only;rw[IJ hkl];exact B,s4⟩,by dsimp only;omega,(Sees.of ⟨B5 rfl,B5 rfl,B5 rfl,B5 rfl,B5 rfl,B5 rfl,B5 rfl,trivial⟩ ⟨rfl,rfl,trivial⟩)⟩
 ·have d:¬I1 v p-1=0:=A1 j;rw[A5 d]at s4;refine k5 (k4 (k1 ?_));refine A7 (A6 (E2 Z Z (by omega)) Z (A6 (A8 Z Z) Z (B0 ?_)));refine k1 ?_;exact⟨(i+1,T9 v p,E),⟨A,hkl,B,s4⟩,by dsimp only;omega,(Sees.of ⟨B5 rfl,B5 rfl,B5 rfl,B5 rfl,B5 rfl,B5 rfl,B5 rfl,trivial⟩ ⟨rfl,rfl,trivial⟩)⟩
abbrev sL(s:Str):Cell:=.v (.string ⟨s.toArray⟩)
def U8(l:List File):List (Str×Cell):=l.foldl (fun m f=>O0 m f.Path (sL f.Blob)) []
theorem uI(a b:Str)(c:Cell):∀d:List (Str×Cell),J6 (O0 d a c) b=if a=b then some c else J6 d b
 | []=>by
  unfold O0 J6;split
  ·rfl
  ·rfl
 | (k,x)::r=>by
  unfold O0;split
  ·rename_i e;subst e;unfold J6;split
   ·rfl
   ·rfl
  ·rename_i e;rw[J6,uI a b c r];by_cases g:k=b
   ·subst g;rw[A4 rfl,A5 (fun h=>e h.symm)];simp[J6]
   ·rw[A5 g];by_cases f:a=b
    ·rw[A4 f,A4 f]
    ·rw[A5 f,A5 f,J6,A5 g]
theorem nE(l:List File)(i:Nat)(h:i<l.length):U8 (l.take (i+1))=O0 (U8 (l.take i)) l[i].Path (sL l[i].Blob):=by
 unfold U8;rw[List.take_add_one,HQ h,Option.toList_some,JJ];rfl
theorem pR(p:Str):∀(l:List File) (m:List (Str×Cell)),J6 (l.foldl (fun m f=>O0 m f.Path (sL f.Blob)) m) p=((R7 l.reverse p).map sL).or (J6 m p)
 | [],m=>by simp[R7]
 | f::r,m=>by
  rw[IS,pR p r,uI,List.reverse_cons];have b:∀(l:List File),R7 (l++[f]) p=(R7 l p).or (if f.Path=p then some f.Blob else none):=by
   intro l;induction l with
   | nil=>simp[R7]
   | cons g l c =>
    rw[IR,R7,R7];split
    ·rfl
    ·exact c
  rw[b];cases R7 r.reverse p with
  | some x=>rfl
  | none=>by_cases h:f.Path=p<;>simp[h]
theorem nF(l:List File)(p:Str):(J6 (U8 l) p).isSome=decide (p∈l.map (·.Path)):=by
 unfold U8;rw[pR];have:J6 ([]:List (Str×Cell)) p=none:=rfl;rw[this,Option.or_none,Option.isSome_map];cases h:R7 l.reverse p with
 | none =>
  have:=sZ.1 h;rw[List.map_reverse,List.mem_reverse]at this;simp only[Option.isSome_none,this,decide_false]
 | some x =>
  obtain⟨f,c,b,_⟩:=qK h;have:p∈l.map (·.Path):=by rw[<-b];exact List.mem_map_of_mem (List.mem_reverse.1 c)
  simp only[Option.isSome_some,this,decide_true]
theorem sM(l:List File)(w:l.length<=1073741824):AL.Met Tryz.prog 167 [.one (.p (.list File 2 V4 l))] [] [] [] (fun rs ob'=>rs=[.one (.mut 800)]/\ob'=[(800,.map Str mV (U8 l))]):=by
 refine AL.Met.intro Tryz.func167 (by decide) Z Z Z ?_;refine k2 ?_;refine A7 (A6 (A9 Z Z) Z (B0 ?_));refine k1 (k2 ?_);refine A7 (E1 (vE 800 Str mV Z) Z (A6 (A9 Z Z) Z (B0 ?_)));refine k1 (k2 (k2 ?_));refine A7 (A6 (A8 Z Z) Z (A6 (F3 Z (.pure _ _ _ _)) Z (A6 (A8 Z Z) Z (B0 ?_))));refine k1 (k3 ?_);refine D3 (X:=Nat) (fun i=>([(3,.s (.one (.mut 800))),(7,D9 File 2 V4 l),(8,D5 l.length),(9,D5 i)],[(800,.map Str mV (U8 (l.take i)))])) (fun i=>i<=l.length) (fun i=>l.length-i) 0 (Nat.zero_le _) (Sees.of ⟨B5 rfl,B5 rfl,B5 rfl,B5 rfl,trivial⟩ ⟨rfl,trivial⟩) ?_;intro i q;dsimp only at q ⊢;refine k2 ?_;refine A7 (A6 (E9 Z Z) Z (B0 ?_));refine k1 (k2 ?_);refine B2 rfl (fun g=>?_) (fun g=>?_)
 ·have b:i<l.length:=by have c:=A0 g;(try dsimp only at c);omega
  have k:=nE l i b;obtain⟨f,j⟩:∃f,f=l[i]:=⟨_,rfl⟩
  have v:l[i]?=some f:=by rw[j];simp[b]
  rw[<-j]at k;refine k5 (k1 (k2 (k3 (k2 ?_))));refine A7 (A6 (B7 Z (.pure _ _ _ _) Z (by omega) v) Z (A6 (K6 Z Z) Z (E1 (P2 5 Z) Z (J8 (E0 TySz.out Z Z Z Z Z Z) (B0 ?_)))));refine k1 ?_;refine A7 (A6 (A8 Z Z) Z (A6 (B3 Z) Z (A6 (B8 Z Z Z) Z (A6 (B3 Z) Z (A6 (B8 Z Z Z) Z (J8 (xX (f.Path) Z Z Z Z Z pE pF) (B0 ?_)))))));refine k4 (k1 ?_);refine A7 (A6 (E2 Z Z (by omega)) Z (A6 (A8 Z Z) Z (B0 ?_)));refine k1 ?_;refine⟨i+1,by omega,by omega,?_⟩;rw[k];exact (Sees.of ⟨B5 rfl,B5 rfl,B5 rfl,B5 rfl,trivial⟩ ⟨rfl,trivial⟩)
 ·have d:i=l.length:=by have c:=A1 g;(try dsimp only at c);omega
  rw[d,HX];refine k6 (k2 ?_);refine A7 (A6 (A8 Z Z) Z (A6 (A9 Z Z) Z (B0 ?_)));refine k1 (I2 ?_);exact N4 (x1 rfl rfl) (by repeat (first | exact F4 | refine F5 rfl ?_ | refine H4 _ ?_)) (fun _ _ h=>h) ⟨rfl,rfl⟩
theorem pS{gf:Fr}{ob:Obs}(p:Str)(k:List (Str×Cell))(P:p.length<=1073741824)(K:C2 ob 800=some (.map Str mV k))(_hc:∀O∈k,∃v,O.2=.v v)(ps:List Str)(F:∀q,(J6 k q).isSome=decide (q∈ps)) :
  AL.Met Tryz.prog 168 [.one (.p (.v (.string ⟨p.toArray⟩))),.one (.mut 800)] gf ob [] (fun rs ob'=>rs=[.one (.p (.v (.bool (K5 p ps))))]/\ob'=ob):=by
 have x:∀c:UInt8,((c.toNat:Int)=47)↔c=47:=fun c=>by
  constructor
  ·intro h;exact UInt8.toNat_inj.1 (by simpa using (show c.toNat=47 by omega))
  ·rintro rfl;rfl
 refine AL.Met.introH Tryz.func168 (by decide) rfl rfl rfl (fun H=>?_);refine k2 ?_;refine A7 (A6 (A9 Z Z) Z (B0 ?_));refine k1 (k2 (k2 ?_));refine A7 (A6 (A8 Z Z) Z (A6 (H1 Z) Z (A6 (A8 Z Z) Z (B0 ?_))));refine k1 (k3 ?_);refine D3 (X:=Nat) (fun i=>([(0,L6 p),(1,.s (.one (.mut 800))),(9,D5 p.length),(10,D5 i)]++gf,ob)) (fun i=>i<=p.length/\∀j,j<i->(decide (p.take j∈ps)&&decide (p[j]?=some 47))=false) (fun i=>p.length-i) 0 ⟨Nat.zero_le _,fun j h=>by omega⟩ (GZ ⟨B5 rfl,B5 rfl,B5 rfl,B5 rfl,trivial⟩ H (by repeat (first | exact F4 | refine F5 rfl ?_)) (fun _ _ h=>h)) ?_;rintro i ⟨L,D⟩;dsimp only at L D ⊢;refine k2 ?_;refine A7 (A6 (E9 Z Z) Z (B0 ?_));refine k1 (k2 ?_);refine B2 rfl (fun d=>?_) (fun d=>?_);rotate_left
 ·have C:i=p.length:=by have B:=A1 d;(try dsimp only at B);omega
  have E:K5 p ps=false:=by
   unfold K5;rw[List.any_eq_false];intro j I;rw[D j (by rw[C];exact IA.1 I)];simp
  refine k6 (k2 ?_);refine A7 (A6 (A9 Z Z) Z (B0 ?_));refine k1 (I2 ?_);exact N4 (x1 rfl rfl) (by repeat (first | exact F4 | refine F5 rfl ?_ | refine H4 _ ?_)) (fun _ _ h=>h) ⟨by rw[E],rfl⟩
 have f:i<p.length:=by have B:=A0 d;(try dsimp only at B);omega
 have M:p[((i:Nat):Int).toNat]?=some p[i]:=by simp[f]
 have y:p[i]?=some p[i]:=by simp[f]
 have z:=F (p.take ((i:Nat):Int).toNat);obtain⟨r,J⟩:∃r,r=J6 k (p.take ((i:Nat):Int).toNat):=⟨_,rfl⟩
 rw[<-J,HS]at z;refine k5 (k1 (k2 (k3 (k2 ?_))));refine A7 (A6 (A8 Z Z) Z (A6 (A9 Z Z) Z (B0 ?_)));refine k1 (k2 ?_);refine A7 (A6 (A8 Z Z) Z (A6 (A8 Z Z) Z (A6 (A8 Z Z) Z (A6 (mO Z Z (by omega) (by omega)) Z (A6 (xR ((p.take ((i:Nat):Int).toNat)) (r:=r) Z K Z pE pF (J.symm)) Z (A6 (A8 Z Z) Z (A6 (C1 Z Z) Z (A6 (C1 Z Z) Z (A6 (A9 Z Z) Z (A6 (A9 Z Z) Z (B0 ?_)))))))))));refine k1 (k2 ?_);refine A7 (A6 (A8 Z Z) Z (A6 (A8 Z Z) Z (B1 Z Z Z Z (fun w=>by rw[w];exact A8 Z Z) ?_)));refine B1 Z Z Z Z (fun w=>by rw[w];exact A8 Z Z) ?_;refine B1 Z Z Z Z (fun w=>by have z:=w;(try simp at z);rw[w];exact K3 Z Z (by omega) M) ?_;refine B1 Z Z Z Z (fun w=>by rw[w];exact J9 Z Z) ?_;refine A6 (B6 Z (fun h=>by first | rfl | (rw[h];rfl)) (fun h=>by first | rfl | (rw[h];rfl))) Z ?_;refine B0 ?_;refine k1 ?_;refine B2 rfl (fun d=>?_) (fun d=>?_)
 ·rw[bP,HR,decide_eq_true_eq]at d;have A:K5 p ps=true:=by
   unfold K5;rw[List.any_eq_true];exact⟨i,IA.2 f,by rw[<-z,d.1,y,(x _).1 d.2];rfl⟩
  refine k2 ?_;refine A7 (A6 (A9 Z Z) Z (B0 ?_));refine k1 (I2 (N8 (H9 (H9 (N8 (H9 ?_))))));exact N4 (x1 rfl rfl) (by repeat (first | exact F4 | refine F5 rfl ?_ | refine H4 _ ?_)) (fun _ _ h=>h) ⟨by rw[A],rfl⟩
 ·rw[bP]at d;refine k5 (k4 (k1 ?_));refine A7 (A6 (E2 Z Z (by omega)) Z (A6 (A8 Z Z) Z (B0 ?_)));refine k1 ?_;refine⟨i+1,⟨f,fun j I=>?_⟩,by omega,GZ ⟨B5 rfl,B5 rfl,B5 rfl,B5 rfl,trivial⟩ H (by repeat (first | exact F4 | refine F5 rfl ?_)) (fun _ _ h=>h)⟩;by_cases e:j=i
  ·subst e;rw[<-z,y];cases G:r.isSome
   ·rfl
   ·rw[G,Bool.true_and,decide_eq_false_iff_not]at d;have:¬p[j]=47:=fun h=>d ((x _).2 h);simp[this]
  ·exact D j (by omega)
theorem vM(l:List File):∀b∈U8 l,∃v,b.2=.v v:=by
 have e:∀(l:List File) (m:List (Str×Cell)),(∀b∈m,∃v,b.2=.v v)->∀b∈l.foldl (fun m f=>O0 m f.Path (sL f.Blob)) m,∃v,b.2=.v v:=by
  intro l;induction l with
  | nil=>exact fun m h=>h
  | cons f r g =>
   intro m h;refine g _ ?_;clear g;induction m with
   | nil=>intro b a;change b∈O0 [] f.Path (sL f.Blob) at a;rw[O0,List.mem_singleton]at a;rw[a];exact⟨_,rfl⟩
   | cons x m d =>
    obtain⟨k,c⟩:=x;intro b a;change b∈O0 ((k,c)::m) f.Path (sL f.Blob) at a;rw[O0]at a;split at a
    ·rcases HZ.1 a with rfl | a
     ·exact⟨_,rfl⟩
     ·exact h b (by simp[a])
    ·rcases HZ.1 a with rfl | a
     ·exact h _ (by simp)
     ·exact d (fun b i=>h b (by simp[i])) b a
 exact e l [] fun _ h=>by cases h
theorem fV:∀(l:List File) (i:Nat),i+1<l.length->(ascend (l.take (i+2))=(ascend (l.take (i+1))&&eP (l.getD i ⟨[],[]⟩).Path (l.getD (i+1) ⟨[],[]⟩).Path))
 | [],i,h=>by simp at h
 | [_],i,h=>by simp at h
 | f::g::r,0,_=>by simp[ascend]
 | f::g::r,i+1,h=>by
  have b:ascend (g::r.take (i+1))=(ascend (g::r.take i)&&eP ((g::r).getD i ⟨[],[]⟩).Path ((g::r).getD (i+1) ⟨[],[]⟩).Path):=fV (g::r) i (by simpa using h);show ascend (f::g::r.take (i+1))=(ascend (f::g::r.take i)&&eP ((g::r).getD i ⟨[],[]⟩).Path ((g::r).getD (i+1) ⟨[],[]⟩).Path)
  rw[ascend,ascend,b,Bool.and_assoc]
theorem nG(l:List File):ascend (l.take 1)=true:=by
 cases l with
 | nil=>rfl
 | cons f r=>rfl
theorem pT(l:List File)(S:l.length<=1073741824)(T:∀f∈l,f.Path.length<=1073741824):FnOk Tryz.prog 118 [jD l] (fun rs=>rs=[G1 (H7 l)]):=by
 rw[<-sY];have H:=vM l;have G:=nF l;refine FnOk.intro Tryz.func118 (by decide) Z Z Z Z ?_;refine k2 ?_;refine A7 (A6 (A9 Z Z) Z (B0 ?_));refine k1 (k2 ?_);refine A7 (A6 (A8 Z Z) Z (lK (sM l S) Z Z Z Z ?_));rintro _ _ ⟨rfl,rfl⟩;refine⟨rfl,?_⟩;refine A6 (A9 Z Z) Z (B0 ?_);refine k1 (k2 (k2 ?_));refine A7 (A6 (A8 Z Z) Z (A6 (F3 Z (.pure _ _ _ _)) Z (A6 (A8 Z Z) Z (B0 ?_))));refine k1 (k3 ?_);refine D3 (X:=Nat) (fun i=>([(0,D9 File 2 V4 l),(3,.s (.one (.mut 800))),(8,D9 File 2 V4 l),(9,D5 l.length),(10,D5 i)],[(800,.map Str mV (U8 l))])) (fun i=>i<=l.length/\ascend (l.take i)=true/\((l.take i).all fun f=>!K5 f.Path (l.map (·.Path)))=true) (fun i=>l.length-i) 0 ⟨Nat.zero_le _,rfl,rfl⟩ (Sees.of ⟨B5 rfl,B5 rfl,B5 rfl,B5 rfl,B5 rfl,trivial⟩ ⟨rfl,trivial⟩) ?_;rintro i ⟨R,ha,E⟩;dsimp only at R ha E ⊢;refine k2 ?_;refine A7 (A6 (E9 Z Z) Z (B0 ?_));refine k1 (k2 ?_);refine B2 rfl (fun q=>?_) (fun q=>?_);rotate_left
 ·have K:i=l.length:=by have v:=A1 q;(try dsimp only at v);omega
  rw[K,HX]at ha E;refine k6 (k2 ?_);refine A7 (A6 (A9 Z Z) Z (B0 ?_));refine k1 (I2 ?_);exact B4 (rs:=[G1 true]) (G8 rfl rfl rfl) (by unfold V5;rw[ha,E];rfl)
 have j:i<l.length:=by have v:=A0 q;(try dsimp only at v);omega
 obtain⟨f,I⟩:∃f,f=l[i]:=⟨_,rfl⟩
 have L:l[i]?=some f:=by rw[I];simp[j]
 have J:=T f (by rw[I];exact HT j);obtain⟨g,b⟩:∃g,g=l.getD (i-1) ⟨[],[]⟩:=⟨_,rfl⟩
 have D:0<i->l[((i:Int)-1).toNat]?=some g:=fun w=>by
  rw[b,show ((i:Int)-1).toNat=i-1 by omega,HY,HQ (by omega)];rfl
 have c:ascend (l.take (i+1))=if 0<i then eP g.Path f.Path else true:=by
  cases i with
  | zero=>rw[A5 (by omega)];exact nG l
  | succ i =>
   rw[A4 (by omega),fV l i j,ha,Bool.true_and,b];rw[show l.getD (i+1) ⟨[],[]⟩=f by rw[HY,L];rfl];rfl
 have z:((0 < i/\eP g.Path f.Path=false)\/K5 f.Path (l.map (·.Path))=true)->[G1 false]=[G1 (V5 l)]:=by
  rintro (⟨w,h⟩ | h)
  ·have : ascend l=false:=by
    cases A:ascend l
    ·rfl
    ·exfalso;rw[A4 w,h]at c;have M:∀(l:List File) (k:Nat),ascend l=true->ascend (l.take k)=true:=by
      intro l;induction l with
      | nil=>intro k h;simpa using h
      | cons x r U =>
       intro k h;cases k with
       | zero=>rfl
       | succ k =>
        have F:=U k (fY h);rw[List.take_succ_cons];cases O:r.take k with
        | nil=>rfl
        | cons y t =>
         unfold ascend;rw[HR];refine⟨b8 h y (List.mem_of_mem_take (by rw[O];simp)),by rw[<-O];exact F⟩
     rw[M l (i+1) A]at c;cases c
   unfold V5;rw[this];rfl
  ·have:(l.all fun f=>!K5 f.Path (l.map (·.Path)))=false:=by
    rw[List.all_eq_false];exact⟨f,by rw[I];exact HT j,by rw[h];simp⟩
   unfold V5;rw[this,Bool.and_false]
 have B:(0<i->eP g.Path f.Path=true)->K5 f.Path (l.map (·.Path))=false->ascend (l.take (i+1))=true/\((l.take (i+1)).all fun f=>!K5 f.Path (l.map (·.Path)))=true:=by
  intro v A;refine⟨?_,?_⟩
  ·rw[c];split
   ·rename_i w;exact v w
   ·rfl
  ·rw[List.take_add_one,L,Option.toList_some,JF,E,Bool.true_and,List.all_cons,List.all_nil,A];rfl
 refine k5 (k1 (k2 (k3 (k2 ?_))));refine A7 (A6 (A8 Z Z) Z (A6 (B7 Z (.pure _ _ _ _) Z (by omega) L) Z (A6 (K6 Z Z) Z (E1 (P2 5 Z) Z (A6 (A9 Z Z) Z (J8 (E0 TySz.out Z Z Z Z Z Z) (B0 ?_)))))));refine k1 (k2 ?_);cases d:(if decide ((0:Int)<(i:Int))=true then !Op.bytesLess g.Path f.Path else false)
 ·have v:0<i->eP g.Path f.Path=true:=fun w=>by
   rw[A4 (A2 (by omega)),Bool.not_eq_false']at d;exact d
  refine iR 17 (by kernel_rfl) (by kernel_rfl) Z (D6 (A8 Z Z) Z Z (D6 (N1 Z Z) Z Z (D6 (A8 Z Z) Z Z (E5 Z Z (fun b=>by rw[b];exact A8 Z Z) Z Z ?_))));refine E5 Z Z (fun b=>by rw[b];exact A8 Z Z) Z Z ?_;refine E5 Z Z (fun b=>by have C:=b;(try simp at C);rw[b];exact bA Z Z (by omega)) Z Z ?_;refine E5 Z Z (fun b=>by have C:=b;(try simp at C);rw[b];exact B7 Z (.pure _ _ _ _) Z (by omega) (D (by omega))) Z Z ?_;refine E5 Z Z (fun b=>by rw[b];exact D7 Z) Z Z ?_;refine E5 Z Z (fun b=>by rw[b];exact B9 Z Z) Z Z ?_;refine E5 Z Z (fun b=>by rw[b];exact B3 Z) Z Z ?_;refine E5 Z Z (fun b=>by rw[b];exact B8 Z Z Z) Z Z ?_;refine E5 Z Z (fun b=>by rw[b];exact mY Z Z) Z Z ?_;refine D6 (B6 Z (fun h=>by first | rfl | (rw[h];rfl)) (fun h=>by first | rfl | (rw[h];rfl))) Z Z ?_;refine D6 (A8 Z Z) Z Z (CL Z Z d Z (D6 (B3 Z) Z Z (CL Z Z d Z (D6 (B8 Z Z Z) Z Z (CL Z Z d Z (D6 (A8 Z Z) Z Z (dB ?_)))))));refine vF Z Z d (xL (pS f.Path (U8 l) J Z H (l.map (·.Path)) G) Z Z Z ?_);rintro _ _ ⟨rfl,rfl⟩;refine⟨_,rfl,?_⟩;refine D6 (B6 Z (fun h=>by first | rfl | (rw[h];rfl)) (fun h=>by first | rfl | (rw[h];rfl))) Z Z ?_;refine dB ?_;refine k1 ?_;rw[d];refine B2 rfl (fun q=>?_) (fun q=>?_)
  ·have A:K5 f.Path (l.map (·.Path))=true:=by simpa using q
   refine k2 ?_;refine A7 (A6 (A9 Z Z) Z (B0 ?_));refine k1 (I2 (N8 (H9 (H9 (N8 (H9 ?_))))));exact B4 (rs:=[G1 false]) (G8 rfl rfl rfl) (z (.inr A))
  ·have A:K5 f.Path (l.map (·.Path))=false:=by simpa using q
   obtain⟨F,Q⟩:=B v A;refine k5 (k4 (k1 ?_));refine A7 (A6 (E2 Z Z (by omega)) Z (A6 (A8 Z Z) Z (B0 ?_)));refine k1 ?_;exact⟨i+1,⟨j,F,Q⟩,by omega,(Sees.of ⟨B5 rfl,B5 rfl,B5 rfl,B5 rfl,B5 rfl,trivial⟩ ⟨rfl,trivial⟩)⟩
 ·have w:0<i:=by
   apply Classical.byContradiction;intro w;rw[A5 (by rw[decide_eq_true_eq];omega)]at d;cases d
  have v:eP g.Path f.Path=false:=by
   rw[A4 (A2 (by omega)),Bool.not_eq_true']at d;exact d
  refine M6 (by kernel_rfl) (by kernel_rfl) (D6 (A8 Z Z) Z Z (D6 (N1 Z Z) Z Z (D6 (A8 Z Z) Z Z (E5 Z Z (fun b=>by rw[b];exact A8 Z Z) Z Z ?_))));refine E5 Z Z (fun b=>by rw[b];exact A8 Z Z) Z Z ?_;refine E5 Z Z (fun b=>by have C:=b;(try simp at C);rw[b];exact bA Z Z (by omega)) Z Z ?_;refine E5 Z Z (fun b=>by have C:=b;(try simp at C);rw[b];exact B7 Z (.pure _ _ _ _) Z (by omega) (D (by omega))) Z Z ?_;refine E5 Z Z (fun b=>by rw[b];exact D7 Z) Z Z ?_;refine E5 Z Z (fun b=>by rw[b];exact B9 Z Z) Z Z ?_;refine E5 Z Z (fun b=>by rw[b];exact B3 Z) Z Z ?_;refine E5 Z Z (fun b=>by rw[b];exact B8 Z Z Z) Z Z ?_;refine E5 Z Z (fun b=>by rw[b];exact mY Z Z) Z Z ?_;refine D6 (B6 Z (fun h=>by first | rfl | (rw[h];rfl)) (fun h=>by first | rfl | (rw[h];rfl))) Z Z ?_;refine D6 (A8 Z Z) Z Z (iC Z Z (by rw[d];decide) Z Z ?_);refine iC Z Z (by rw[d];decide) Z Z ?_;refine iC Z Z (by rw[d];decide) Z Z ?_;refine iC Z Z (by rw[d];decide) Z Z ?_;refine D6 (xN Z (d) Z) Z Z (dB ?_);refine k1 ?_;refine B2 rfl (fun q=>?_) (fun q=>?_)
  ·refine k2 ?_;refine A7 (A6 (A9 Z Z) Z (B0 ?_));refine k1 (I2 (N8 (H9 (H9 (N8 (H9 ?_))))));exact B4 (rs:=[G1 false]) (G8 rfl rfl rfl) (z (.inl ⟨w,v⟩))
  ·cases q
theorem lR(s:Str)(c:UInt8):FnOk Tryz.prog 169 [F9 s,F9 [c]] (fun a=>a=[D0 (s.count c)]) :=
 HB (xs:=[.string ⟨s.toArray⟩,.string ⟨#[c]⟩]) ⟨_,rfl,rfl,rfl⟩ rfl fun w=>by simpa[Lib.countByte] using Tryz.strings_Count_one ⟨s.toArray⟩ c w
theorem vN(s:Str)(c:UInt8):FnOk Tryz.prog 226 [F9 s,F9 [c]] (fun a=>a=[D0 (Lib.indexByte s c)]) :=
 HB (xs:=[.string ⟨s.toArray⟩,.string ⟨#[c]⟩]) ⟨_,rfl,rfl,rfl⟩ rfl fun w=>by simpa using Tryz.strings_Index_one ⟨s.toArray⟩ c w
abbrev aL(l:List Str):Ob:=.grow 9 Str 1 n9 l
theorem nH(s:Str)(M:s.length<=536870912):AL.Met Tryz.prog 219 [(F9 s).s1,(F9 [10]).s1,(D0 1).s1,(D0 (-1)).s1] [] [] [] (fun J ob'=>J=[.one (.mut 9)]/\ob'=[(9,aL (K7 s))]):=by
 have E:=O8 s [];have K:s.count 10<=s.length:=List.count_le_length;have v:([10]:Str).length=1:=rfl;obtain⟨P,k⟩:∃P,P=K7 s:=⟨_,rfl⟩
 have F:P.length=s.count 10+1:=by rw[k];exact E
 refine AL.Met.intro Tryz.func219 (by decide) Z Z Z ?_;refine k2 ?_;refine A7 (A6 (A9 Z Z) Z (B0 ?_));refine k1 (k2 (k2 ?_));refine A7 (A6 (A8 Z Z) Z (A6 (J9 Z Z) Z (B0 ?_)));refine k1 ?_;refine B2 rfl (fun c=>?_) (fun c=>?_)
 ·exact absurd (A0 c) (by omega)
 refine k5 (k1 (k2 (k2 ?_)));refine A7 (A6 (A8 Z Z) Z (A6 (S8 Z Z) Z (B0 ?_)));refine k1 ?_;refine B2 rfl (fun c=>?_) (fun c=>?_)
 ·exact absurd (A0 c) (by simp)
 refine k5 (k1 (k2 (k2 ?_)));refine A7 (A6 (A8 Z Z) Z (A6 (E9 Z Z) Z (B0 ?_)));refine k1 ?_;refine B2 rfl (fun c=>?_) (fun c=>?_);rotate_left
 ·exact absurd (A1 c) (by omega)
 skip;refine A7 (A6 (A8 Z Z) Z (A6 (A8 Z Z) Z (C9 (lR s 10) Z Z Z ?_)));rintro _ rfl;refine A6 (E2 Z Z (by omega)) Z (A6 (A9 Z Z) Z (B0 ?_));refine k1 (k2 ?_);refine A7 (A6 (A8 Z Z) Z (A6 (A8 Z Z) Z (A6 (H1 Z) Z (A6 (E2 Z Z (by omega)) Z (A6 (BJ Z Z) Z (A6 (A9 Z Z) Z (B0 ?_)))))));refine k1 (k2 ?_);rw[show (if (s.length:Int)+1<(s.count 10:Int)+1 then (s.length:Int)+1 else (s.count 10:Int)+1)=(P.length:Int) from by split<;>omega];refine A7 (A6 (A8 Z Z) Z (E1 (AF 9 Str n9 [] Z Z (by omega) (by omega) (fun _=>by first | exact⟨⟨rfl,rfl⟩,trivial⟩ | exact⟨I7 _ _ _,trivial⟩ | exact⟨I7 _ _ _,⟨rfl,rfl⟩,I7 _ _ _,trivial⟩ | exact⟨⟨rfl,rfl⟩,⟨rfl,rfl⟩,trivial⟩) (by first | rfl | (simp[H3,L2,Ob.free,SV.free,S1.free,TC.free]<;>rfl))) Z ?_));refine A6 (A9 Z Z) Z (B0 ?_);refine k1 (k2 ?_);refine A7 (A6 (A8 Z Z) Z (A6 (bA Z Z (by omega)) Z (A6 (A9 Z Z) Z (B0 ?_))));refine k1 (k2 ?_);refine A7 (A6 (A9 Z Z) Z (B0 ?_));refine k1 (k2 (k3 ?_));refine D3 (X:=Nat×Str) (fun x=>([(0,L6 x.2),(1,L6 [10]),(2,D5 1),(3,D5 ((P.length:Int)-1)),(9,.s (.one (.mut 9))),(10,D5 x.1)],[(9,aL (P.take x.1++List.replicate (P.length-x.1) []))])) (fun x=>x.1+1<=P.length/\P.drop x.1=K7 x.2/\x.2.length<=s.length) (fun x=>P.length-x.1) (0,s) ⟨by dsimp only;omega,k,Nat.le_refl _⟩ (Sees.of ⟨B5 rfl,B5 rfl,B5 rfl,B5 rfl,B5 rfl,B5 rfl,trivial⟩ ⟨rfl,trivial⟩) ?_;rintro⟨i,r⟩ ⟨G,q,I⟩;dsimp only at G q I ⊢;refine k2 (k2 ?_);refine A7 (A6 (A8 Z Z) Z (A6 (A8 Z Z) Z (A6 (E9 Z Z) Z (B0 ?_))));refine k1 ?_;refine B2 rfl (fun c=>?_) (fun c=>?_)
 ·have H:i+1<P.length:=by have:=A0 c;omega
  have A:(10:UInt8)∈r:=by
   have d:=O8 r [];have f:(P.drop i).length=r.count 10+1:=by rw[q];exact d
   rw[JB]at f;exact List.count_pos_iff.1 (by omega)
  rcases Q0 10 r with ⟨d,_⟩ | ⟨a,b,d,f,w⟩
  ·exact absurd A d
  obtain⟨y,D⟩:=tA q d f;have L:r.length=a.length+1+b.length:=by rw[d];simp;omega
  refine k5 (k1 (k3 (k2 ?_)));refine A7 (A6 (A8 Z Z) Z (A6 (A8 Z Z) Z (C9 (vN r 10) Z Z Z ?_)));rintro _ rfl;refine A6 (A9 Z Z) Z (B0 ?_);refine k1 (k2 (k2 ?_));refine A7 (A6 (A8 Z Z) Z (A6 (E9 Z Z) Z (B0 ?_)));refine k1 ?_;rw[w];refine B2 rfl (fun c=>?_) (fun c=>?_)
  ·exact absurd (A0 c) (by omega)
  refine k5 (k1 (k2 ?_));have p:(P.take i++List.replicate (P.length-i) ([]:Str))[((i:Nat):Int).toNat]?=some []:=by
   rw[HS,II (by rw[IF];omega),List.getElem?_replicate,A4 (by rw[IF];omega)]
  refine A7 (A6 (A8 Z Z) Z (A6 (A8 Z Z) Z (A6 (A8 Z Z) Z (A6 (A8 Z Z) Z (A6 (A8 Z Z) Z (A6 (E2 Z Z (by omega)) Z (A6 (mO Z Z (by omega) (by omega)) Z (A6 (N9 Z Z Z (by omega) (by (simp;omega))) Z (J8 (eW ((r.take ((a.length:Int)+1).toNat)) TySz.out Z Z p Z Z Z Z (fun _ _ _ h=>dG h) (by intro j d f;rcases j with _ | _ | _ | _ | _ | _ | _ | j<;>first | rfl | omega)) ?_)))))))));refine B0 ?_;refine k1 (k2 ?_);refine A7 (A6 (A8 Z Z) Z (A6 (A8 Z Z) Z (A6 (A8 Z Z) Z (A6 (H1 Z) Z (A6 (E2 Z Z (by omega)) Z (A6 (zY Z Z (by omega) (by omega)) Z (A6 (A9 Z Z) Z (B0 ?_))))))));refine k1 ?_;refine A7 (A6 (A8 Z Z) Z (A6 (E2 Z Z (by omega)) Z (A6 (A9 Z Z) Z (B0 ?_))));refine k4 (k1 ?_);have B:r.take (((a.length:Int)+1).toNat)=a++[10]:=by rw[d,show ((a.length:Int)+1).toNat=a.length+1 by omega,show a++10::b=(a++[10])++b by simp,List.take_left' (by simp)]
  have C:r.drop (((a.length:Int)+(([10]:Str).length:Int)).toNat)=b:=by rw[d,v,show ((a.length:Int)+((1:Nat):Int)).toNat=a.length+1 by omega,show a++10::b=(a++[10])++b by simp,List.drop_left' (by simp)]
  refine⟨(i+1,b),⟨by dsimp only;omega,D,by dsimp only;omega⟩,by dsimp only;omega,?_⟩;rw[B,C];dsimp only;rw[<-mA P [] _ i y];exact Sees.of ⟨B5 rfl,B5 rfl,B5 rfl,B5 rfl,B5 rfl,B5 rfl,trivial⟩ ⟨rfl,trivial⟩
 ·have z:i+1=P.length:=by have:=A1 c;omega
  have d:=O8 r [];have f:(P.drop i).length=r.count 10+1:=by rw[q];exact d
  rw[JB]at f;have w:(10:UInt8)∉r:=List.count_eq_zero.1 (by omega);have y:P[i]?=some r:=by rw[<-List.head?_drop,q];unfold K7;rw[kS _ _ w];rfl
  refine k6 (k2 ?_);have p:(P.take i++List.replicate (P.length-i) ([]:Str))[((i:Nat):Int).toNat]?=some []:=by
   rw[HS,II (by rw[IF];omega),List.getElem?_replicate,A4 (by rw[IF];omega)]
  refine A7 (A6 (A8 Z Z) Z (A6 (A8 Z Z) Z (A6 (A8 Z Z) Z (A6 (N9 Z Z Z (by omega) (by (simp;omega))) Z (J8 (eW (r) TySz.out Z Z p Z Z Z Z (fun _ _ _ h=>dG h) (by intro j d f;rcases j with _ | _ | _ | _ | _ | _ | _ | j<;>first | rfl | omega)) ?_)))));refine B0 ?_;refine k1 (k2 ?_);have e:(P.take i++List.replicate (P.length-i) ([]:Str)).set (i:Int).toNat r=P:=by rw[HS,mA P [] r i y,z];simp
  rw[e];refine A7 (A6 (A8 Z Z) Z (A6 (A8 Z Z) Z (A6 (E2 Z Z (by omega)) Z (E1 (mX Z Z Z (by omega) (by omega) Z) Z (A6 (A9 Z Z) Z (B0 ?_))))));refine k1 (I2 ?_);rw[show ((i:Int)+1).toNat=P.length by omega,HX,k];exact N4 (x1 rfl rfl) (by repeat (first | exact F4 | refine F5 rfl ?_ | refine H4 _ ?_)) (ObIn.spec (ob':=[(9,_)]) ⟨rfl,trivial⟩) ⟨rfl,rfl⟩
theorem iX(s:Str)(a:s.length<=536870912):AL.Met Tryz.prog 152 [(F9 s).s1,(F9 [10]).s1] [] [] [] (fun b ob'=>b=[.one (.mut 9)]/\ob'=[(9,aL (K7 s))]):=by
 refine AL.Met.intro Tryz.func152 (by decide) Z Z Z ?_;refine k2 ?_;refine A7 (A6 (A9 Z Z) Z (B0 ?_));refine k1 (k2 ?_);refine A7 (A6 (A8 Z Z) Z (A6 (A8 Z Z) Z (A6 (A8 Z Z) Z (A6 (H1 Z) Z (lK (nH s a) Z Z Z Z ?_)))));rintro _ _ ⟨rfl,rfl⟩;refine⟨rfl,?_⟩;refine A6 (A9 Z Z) Z (B0 ?_);refine k1 (I2 ?_);exact N4 (x1 rfl rfl) (by repeat (first | exact F4 | refine F5 rfl ?_ | refine H4 _ ?_)) (ObIn.spec (ob':=[(9,_)]) ⟨rfl,trivial⟩) ⟨rfl,rfl⟩
theorem lS(s:Str)(m:s.length<=536870912):FnOk Tryz.prog 120 [F9 s] (fun j=>j=[D0 (L1 s)]):=by
 have d:=kT s;have k:s.count 10<=s.length:=List.count_le_length;refine FnOk.intro Tryz.func120 (by decide) Z Z Z Z ?_;refine k2 ?_;refine A7 (A6 (A9 Z Z) Z (B0 ?_));refine k1 (k2 ?_);refine A7 (A6 (A8 Z Z) Z (C9 (lR s 10) Z Z Z ?_));rintro _ rfl;refine A6 (A9 Z Z) Z (B0 ?_);refine fQ ?_;refine xJ [(0,L6 s),(3,D5 (H0 s).length)] [] ?_ ?_
 ·refine k2 ?_;refine A7 (A6 (A8 Z Z) Z (A6 (mM Z Z) Z (A6 (A8 Z Z) Z (B1 Z Z Z Z (fun a=>by rw[a];exact A8 Z Z) ?_))));refine B1 Z Z Z Z (fun a=>by have i:=a;(try simp at i);rw[a];exact M2 (vI s (by omega)) Z Z) ?_;refine B1 Z Z Z Z (fun a=>by rw[a];exact Z4 Z) ?_;refine A6 (B6 Z (fun h=>by first | rfl | (rw[h];rfl)) (fun h=>by first | rfl | (rw[h];rfl))) Z ?_;refine B0 ?_;refine k1 ?_;refine B2 rfl (fun b=>?_) (fun b=>?_)
  ·have h:s≠[]/\ended s=false:=by
    by_cases c:s=[]
    ·simp[c]at b
    ·refine⟨c,?_⟩;simpa[c] using b
   rw[A4 h]at d;skip;refine A7 (A6 (A8 Z Z) Z (A6 (E2 Z Z (by omega)) Z (A6 (A9 Z Z) Z (B0 ?_))));refine k1 ?_;rw[d,Int.natCast_add];exact Sees.of ⟨B5 rfl,B5 rfl,trivial⟩ trivial
  ·have h:¬(s≠[]/\ended s=false):=by
    rintro⟨c,f⟩;simp[c,f]at b
   rw[A5 h]at d;refine k5 (k1 ?_);rw[d];exact Sees.of ⟨B5 rfl,B5 rfl,trivial⟩ trivial
 ·refine k2 (k2 ?_);refine A7 (A6 (A8 Z Z) Z (A6 (H1 Z) Z (A6 (N1 Z Z) Z (A6 (A8 Z Z) Z (B1 Z Z Z Z (fun a=>by rw[a];exact A8 Z Z) ?_)))));refine B1 Z Z Z Z (fun a=>by rw[a];exact N1 Z Z) ?_;refine A6 (B6 Z (fun h=>by first | rfl | (rw[h];rfl)) (fun h=>by first | rfl | (rw[h];rfl))) Z ?_;refine B0 ?_;refine k1 ?_;refine B2 rfl (fun b=>?_) (fun b=>?_)
  ·have h:=A0 (or_pick.symm.trans b);refine k2 ?_;refine A7 (A6 (A9 Z Z) Z (B0 ?_));refine k1 (I2 (H9 ?_));exact B4 (G8 rfl rfl rfl) (by rw[L1,A4 (by omega)])
  ·have h:=A1 (or_pick.symm.trans b);refine k5 (k1 (k2 ?_));refine A7 (A6 (A9 Z Z) Z (B0 ?_));refine k1 (I2 ?_);exact B4 (G8 rfl rfl rfl) (by rw[L1,A5 (by omega)])
theorem sN(s:Str)(q:s.length<=536870912):AL.Met Tryz.prog 96 [(F9 s).s1] [] [] [] (fun rs ob'=>rs=[.one (.mut 9),(D0 (X9 s).2).s1]/\ob'=[(9,aL (X9 s).1)]):=by
 have k:H0 s=if (K7 s).getLastD []=[] then (K7 s).dropLast else K7 s:=qL s []
 have f:(K7 s).length=s.count 10+1:=O8 s [];have v:s.count 10<=s.length:=List.count_le_length;refine AL.Met.intro Tryz.func96 (by decide) Z Z Z ?_;refine k2 ?_;refine A7 (A6 (A9 Z Z) Z (A6 (A9 Z Z) Z (B0 ?_)));refine k1 (k2 (k2 ?_));refine A7 (A6 (A8 Z Z) Z (C9 (lS s q) Z Z Z ?_));rintro _ rfl;refine A6 (A9 Z Z) Z (B0 ?_);refine k1 (k2 ?_);refine A7 (A6 (A8 Z Z) Z (A6 (L8 Z Z) Z (B0 ?_)));refine k1 ?_;refine B2 rfl (fun c=>?_) (fun c=>?_)
 ·have h:L1 s≠0:=by simpa using c
  have b:s.length>1048576\/(H0 s).length>4096:=by
   by_cases b:s.length>1048576\/(H0 s).length>4096
   ·exact b
   ·exact absurd (by rw[L1,A5 b]) h
  refine k2 ?_;refine A7 (A6 (A8 Z Z) Z (E1 (xK 9 _ n9 Z) Z (A6 (A9 Z Z) Z (B0 ?_))));refine k1 (I2 (H9 ?_));refine N4 (tY rfl rfl rfl) (by repeat (first | exact F4 | refine F5 rfl ?_ | refine H4 _ ?_)) (ObIn.spec (ob':=[(9,_)]) ⟨rfl,trivial⟩) ?_;rw[X9,A4 b,L1,A4 b];exact⟨rfl,rfl⟩
 ·have h:L1 s=0:=by simpa using c
  have b:¬(s.length>1048576\/(H0 s).length>4096):=fun b=>by rw[L1,A4 b]at h;omega
  have w:(K7 s)[(K7 s).length-1]?=some ((K7 s).getLastD []):=by
   rw[<-List.getLast?_eq_getElem?,List.getLast?_eq_some_getLast (fun e=>by rw[e]at f;simp at f)];rw[List.getLastD_eq_getLast?,List.getLast?_eq_some_getLast (fun e=>by rw[e]at f;simp at f)];rfl
  have j:(((K7 s).length:Int)-1).toNat=(K7 s).length-1:=by omega
  refine k5 (k1 (k2 ?_));refine A7 (A6 (A8 Z Z) Z (lK (iX s q) Z Z Z Z ?_));rintro _ _ ⟨rfl,rfl⟩;refine⟨rfl,?_⟩;refine A6 (A9 Z Z) Z (B0 ?_);refine fQ ?_;refine xJ [(5,.s (.one (.mut 9)))] [(9,aL (H0 s))] ?_ ?_
  ·refine k2 ?_;refine A7 (A6 (A8 Z Z) Z (A6 (A8 Z Z) Z (A6 (o5 Z Z) Z (A6 (bA Z Z (by omega)) Z (A6 (N9 Z Z Z (by omega) (by omega)) Z (A6 (iN Z Z (by rw[j];exact w) Z) Z ?_))))));refine A6 (S8 Z Z) Z (B0 ?_);refine k1 ?_;refine B2 rfl (fun c=>?_) (fun c=>?_)
   ·have i:=A0 c;skip;refine A7 (A6 (A8 Z Z) Z (A6 (A8 Z Z) Z (A6 (o5 Z Z) Z (A6 (bA Z Z (by omega)) Z (E1 (mX Z Z Z (by omega) (by omega) Z) Z (A6 (A9 Z Z) Z (B0 ?_)))))));refine k1 ?_;rw[k,A4 i,List.dropLast_eq_take,<-j];exact Sees.of ⟨B5 rfl,trivial⟩ ⟨rfl,trivial⟩
   ·have i:=A1 c;refine k5 (k1 ?_);rw[k,A5 i];exact Sees.of ⟨B5 rfl,trivial⟩ ⟨rfl,trivial⟩
  ·refine k2 ?_;refine A7 (A6 (A8 Z Z) Z (A6 (A9 Z Z) Z (A6 (A9 Z Z) Z (B0 ?_))));refine k1 (I2 ?_);refine N4 (tY rfl rfl rfl) (by repeat (first | exact F4 | refine F5 rfl ?_ | refine H4 _ ?_)) (ObIn.spec (ob':=[(9,_)]) ⟨rfl,trivial⟩) ?_;rw[X9,A5 b];exact⟨rfl,rfl⟩
end Go.Proofs.YtbflhoahmmfkmaaGreatDoor
