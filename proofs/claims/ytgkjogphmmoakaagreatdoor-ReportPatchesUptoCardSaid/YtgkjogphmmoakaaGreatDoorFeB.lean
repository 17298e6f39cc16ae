/- Walks of the program's functions. -/
import Derived.Test.YtgkjogphmmoakaaGreatDoorFeA
set_option linter.all false
namespace Go.Proofs.YtgkjogphmmoakaaGreatDoor
open Go Go.AL
set_option maxRecDepth 100000
set_option maxHeartbeats 1000000
theorem MC{s:Str}{i:Nat}(h:aL (s.drop i)=none):wC s i=[F9 [],E2 0,F3 false]:=by unfold wC;rw[h]
theorem MD{s:Str}{i k:Nat}{w:Str}(h:aL (s.drop i)=some (w,k)):wC s i=[F9 w,E2 ((i+k:Nat):Int),F3 true]:=by unfold wC;rw[h]
def i7(r:Str):List Str:=(E9 (r++[10])).map List.dropLast
theorem VI{a b:Str}(h:(10:UInt8)∉a):i7 (a++10::b)=a::i7 b:=by
 unfold i7 E9;rw[A45,A57,iV _ _ _ h];simp
theorem RD{r:Str}(h:(10:UInt8)∉r):i7 r=[r]:=by
 unfold i7 E9;rw[iV _ _ _ h];simp[H3]
theorem nI(r:Str):(i7 r).length=r.count 10+1:=by
 unfold i7;rw[A67,bJ,List.count_append,rX];simp
theorem RE{P:List Str}{i:Nat}{r a b:Str}(h:P.drop i=i7 r)(c:r=a++10::b)(ha:(10:UInt8)∉a):P[i]?=some a/\P.drop (i+1)=i7 b:=by
 have e:i7 r=a::i7 b:=by rw[c,VI ha]
 rw[e]at h;refine⟨by rw[<-List.head?_drop,h];rfl,?_⟩;rw[<-List.tail_drop,h];rfl
theorem sP{s:Str}(h:s≠[]):dP s=if ended s=true then some (i7 s.dropLast) else none:=by
 unfold dP;rw[A5 h];by_cases b:ended s=true
 ·rw[A4 b,A4 b];obtain⟨a,rfl⟩:=SJ.1 b;rw[List.dropLast_concat];rfl
 ·rw[A5 b,A5 b]
theorem DU(s:Str)(hs:s.length<=536870912):FnOk Tryz.prog 154 [F9 s,F9 [10],E2 0,E2 (-1)] (fun J=>J=[T0 (i7 s)]):=by
 have E:=nI s;have K:s.count 10<=s.length:=List.count_le_length;have v:([10]:Str).length=1:=rfl;obtain⟨P,f⟩:∃P,P=i7 s:=⟨_,rfl⟩
 have F:P.length=s.count 10+1:=by rw[f];exact E
 refine FnOk.intro Tryz.func154 (by decide) Z Z Z Z ?_;refine k2 ?_;refine A7 (A6 (A9 Z Z) Z (B0 ?_));refine k1 (k2 (k2 ?_));refine A7 (A6 (A8 Z Z) Z (A6 (I3 Z Z) Z (B0 ?_)));refine k1 ?_;refine B8 rfl (fun c=>?_) (fun c=>?_)
 ·exact absurd (A0 c) (by omega)
 refine k5 (k1 (k2 (k2 ?_)));refine A7 (A6 (A8 Z Z) Z (A6 (c7 Z Z) Z (B0 ?_)));refine k1 ?_;refine B8 rfl (fun c=>?_) (fun c=>?_)
 ·exact absurd (A0 c) (by simp)
 refine k5 (k1 (k2 (k2 ?_)));refine A7 (A6 (A8 Z Z) Z (A6 (F2 Z Z) Z (B0 ?_)));refine k1 ?_;refine B8 rfl (fun c=>?_) (fun c=>?_);rotate_left
 ·exact absurd (A1 c) (by omega)
 skip;refine A7 (A6 (A8 Z Z) Z (A6 (A8 Z Z) Z (C4 (qX s 10) Z Z Z ?_)));rintro _ rfl;refine A6 (C9 Z Z (by omega)) Z (A6 (A9 Z Z) Z (B0 ?_));refine k1 (k2 ?_);refine A7 (A6 (A8 Z Z) Z (A6 (A8 Z Z) Z (A6 (G4 Z) Z (A6 (C9 Z Z (by omega)) Z (A6 (uS Z Z) Z (A6 (A9 Z Z) Z (B0 ?_)))))));refine k1 (k2 ?_);rw[show (if (s.length:Int)+1<(s.count 10:Int)+1 then (s.length:Int)+1 else (s.count 10:Int)+1)=(P.length:Int) from by split<;>omega];refine A7 (A6 (A8 Z Z) Z (D2 (gO 9 Str J9 [] Z Z (by omega) (by omega) (fun _=>by first | exact⟨⟨rfl,rfl⟩,trivial⟩ | exact⟨J5 _ _ _,trivial⟩ | exact⟨J5 _ _ _,⟨rfl,rfl⟩,J5 _ _ _,trivial⟩ | exact⟨⟨rfl,rfl⟩,⟨rfl,rfl⟩,trivial⟩) (by first | rfl | (simp[H9,N6,Ob.free,SV.free,S1.free,TC.free]<;>rfl))) Z ?_));refine A6 (A9 Z Z) Z (B0 ?_);refine k1 (k2 ?_);refine A7 (A6 (A8 Z Z) Z (A6 (K3 Z Z (by omega)) Z (A6 (A9 Z Z) Z (B0 ?_))));refine k1 (k2 ?_);refine A7 (A6 (A9 Z Z) Z (B0 ?_));refine k1 (k2 (k3 ?_));refine E3 (X:=Nat×Str) (fun x=>([(0,P3 x.2),(1,P3 [10]),(2,C7 0),(3,C7 ((P.length:Int)-1)),(9,.s (.one (.mut 9))),(10,C7 x.1)],[(9,.arr Str 1 J9 (P.take x.1++List.replicate (P.length-x.1) []))])) (fun x=>x.1+1<=P.length/\P.drop x.1=i7 x.2/\x.2.length<=s.length) (fun x=>P.length-x.1) (0,s) ⟨by dsimp only;omega,f,Nat.le_refl _⟩ (Sees.of ⟨B5 rfl,B5 rfl,B5 rfl,B5 rfl,B5 rfl,B5 rfl,trivial⟩ ⟨rfl,trivial⟩) ?_;rintro⟨i,r⟩ ⟨G,q,I⟩;dsimp only at G q I ⊢;refine k2 (k2 ?_);refine A7 (A6 (A8 Z Z) Z (A6 (A8 Z Z) Z (A6 (F2 Z Z) Z (B0 ?_))));refine k1 ?_;refine B8 rfl (fun c=>?_) (fun c=>?_)
 ·have H:i+1<P.length:=by have:=A0 c;omega
  have A:(10:UInt8)∈r:=by
   have d:=nI r;have j:(P.drop i).length=r.count 10+1:=by rw[q];exact d
   rw[A47]at j;exact List.count_pos_iff.1 (by omega)
  rcases U6 10 r with ⟨d,_⟩ | ⟨a,b,d,j,w⟩
  ·exact absurd A d
  obtain⟨y,D⟩:=RE q d j;have L:r.length=a.length+1+b.length:=by rw[d];simp;omega
  refine k5 (k1 (k3 (k2 ?_)));refine A7 (A6 (A8 Z Z) Z (A6 (A8 Z Z) Z (C4 (AV r 10) Z Z Z ?_)));rintro _ rfl;refine A6 (A9 Z Z) Z (B0 ?_);refine k1 (k2 (k2 ?_));refine A7 (A6 (A8 Z Z) Z (A6 (F2 Z Z) Z (B0 ?_)));refine k1 ?_;rw[w];refine B8 rfl (fun c=>?_) (fun c=>?_)
  ·exact absurd (A0 c) (by omega)
  refine k5 (k1 (k2 ?_));refine A7 (A6 (A8 Z Z) Z (A6 (A8 Z Z) Z (A6 (A8 Z Z) Z (A6 (A8 Z Z) Z (A6 (A8 Z Z) Z (A6 (C9 Z Z (by omega)) Z (A6 (kR Z Z (by omega) (by omega)) Z (A6 (I5 Z Z Z (by omega) (by (simp;omega))) Z (F4 (O2 TySz.out Z Z (by simp;omega) Z Z) (B0 ?_))))))))));refine k1 (k2 ?_);refine A7 (A6 (A8 Z Z) Z (A6 (A8 Z Z) Z (A6 (A8 Z Z) Z (A6 (G4 Z) Z (A6 (C9 Z Z (by omega)) Z (A6 (cI Z Z (by omega) (by omega)) Z (A6 (A9 Z Z) Z (B0 ?_))))))));refine k1 ?_;refine A7 (A6 (A8 Z Z) Z (A6 (C9 Z Z (by omega)) Z (A6 (A9 Z Z) Z (B0 ?_))));refine k4 (k1 ?_);have B:r.take (((a.length:Int)+0).toNat)=a:=by rw[d,show ((a.length:Int)+0).toNat=a.length by omega,List.take_left]
  have C:r.drop (((a.length:Int)+(([10]:Str).length:Int)).toNat)=b:=by rw[d,v,show ((a.length:Int)+((1:Nat):Int)).toNat=a.length+1 by omega,show a++10::b=(a++[10])++b by simp,List.drop_left' (by simp)]
  refine⟨(i+1,b),⟨by dsimp only;omega,D,by dsimp only;omega⟩,by dsimp only;omega,?_⟩;rw[B,C];dsimp only;rw[<-lA P [] _ i y];exact Sees.of ⟨B5 rfl,B5 rfl,B5 rfl,B5 rfl,B5 rfl,B5 rfl,trivial⟩ ⟨rfl,trivial⟩
 ·have z:i+1=P.length:=by have:=A1 c;omega
  have d:=nI r;have j:(P.drop i).length=r.count 10+1:=by rw[q];exact d
  rw[A47]at j;have w:(10:UInt8)∉r:=List.count_eq_zero.1 (by omega);have y:P[i]?=some r:=by rw[<-List.head?_drop,q,RD w];rfl
  refine k6 (k2 ?_);refine A7 (A6 (A8 Z Z) Z (A6 (A8 Z Z) Z (A6 (A8 Z Z) Z (A6 (I5 Z Z Z (by omega) (by (simp;omega))) Z (F4 (O2 TySz.out Z Z (by simp;omega) Z Z) (B0 ?_))))));refine k1 (k2 ?_);have e:(P.take i++List.replicate (P.length-i) ([]:Str)).set (i:Int).toNat r=P:=by rw[A36,lA P [] r i y,z];simp
  rw[e];refine G8 (Sees.freeze (k:=9) Z) ?_;refine A7 (A6 (A8 Z Z) Z (A6 (A8 Z Z) Z (A6 (C9 Z Z (by omega)) Z (A6 (qI Z (.pure _ _ _ _) Z (by omega) (by omega)) Z (A6 (A9 Z Z) Z (B0 ?_))))));refine k1 (G5 ?_);exact C0 (H6 rfl rfl rfl) (by rw[show ((i:Int)+1).toNat=P.length by omega,A44,f])
theorem VJ(s:Str)(hs:s.length<=536870912):FnOk Tryz.prog 84 [F9 s,F9 [10]] (fun rs=>rs=[T0 (i7 s)]):=by
 refine FnOk.intro Tryz.func84 (by decide) Z Z Z Z ?_;refine k2 ?_;refine A7 (A6 (A9 Z Z) Z (B0 ?_));refine k1 (k2 ?_);refine A7 (A6 (A8 Z Z) Z (A6 (A8 Z Z) Z (C4 (DU s hs) Z Z Z ?_)));rintro _ rfl;refine A6 (A9 Z Z) Z (B0 ?_);refine k1 (G5 ?_);exact C0 (H6 rfl rfl rfl) rfl
theorem mL(s p:Str):FnOk Tryz.prog 237 [F9 s,F9 p] (fun rs=>rs=[F3 (decide (s.take p.length=p))]):=by
 refine FnOk.intro Tryz.func237 (by decide) Z Z Z Z ?_;refine k2 ?_;refine A7 (A6 (A9 Z Z) Z (B0 ?_));refine k1 (k2 ?_);refine A7 (A6 (A8 Z Z) Z (A6 (G4 Z) Z (A6 (A8 Z Z) Z (A6 (G4 Z) Z (A6 (x9 Z Z) Z (A6 (A8 Z Z) Z (B4 Z Z Z Z (fun a=>by rw[a];exact A8 Z Z) ?_)))))));refine B4 Z Z Z Z (fun a=>by rw[a];exact A8 Z Z) ?_;refine B4 Z Z Z Z (fun a=>by rw[a];exact G4 Z) ?_;refine B4 Z Z Z Z (fun a=>by have b:=a;(try simp at b);rw[a];exact kR Z Z (by omega) (by omega)) ?_;refine B4 Z Z Z Z (fun a=>by rw[a];exact A8 Z Z) ?_;refine B4 Z Z Z Z (fun a=>by rw[a];exact c7 Z Z) ?_;refine A6 (B9 Z (fun h=>by first | rfl | (rw[h];rfl)) (fun h=>by first | rfl | (rw[h];rfl))) Z ?_;refine A6 (A9 Z Z) Z (B0 ?_);simp only[and_pick,A36];refine k1 (G5 ?_);refine C0 (H6 Z Z Z) ?_
 congr 4
 congr 1
 apply propext;constructor
 ·intro h;exact h.2
 ·intro h;refine⟨?_,h⟩;have:=congrArg List.length h;rw[A42]at this;omega
theorem iA(s p:Str):FnOk Tryz.prog 158 [F9 s,F9 p] (fun rs=>rs=[F3 (decide (s.take p.length=p))]):=by
 refine FnOk.intro Tryz.func158 (by decide) Z Z Z Z ?_;refine k2 ?_;refine A7 (A6 (A9 Z Z) Z (B0 ?_));refine k1 (k2 ?_);refine A7 (A6 (A8 Z Z) Z (A6 (A8 Z Z) Z (C4 (mL s p) Z Z Z ?_)));rintro _ rfl;refine A6 (A9 Z Z) Z (B0 ?_);refine k1 (G5 ?_);exact C0 (H6 rfl rfl rfl) rfl
def RF(s p:Str):List PV:=if s.take p.length=p then [F9 (s.drop p.length),F3 true] else [F9 s,F3 false]
theorem zM(s p:Str):FnOk Tryz.prog 234 [F9 s,F9 p] (fun rs=>rs=RF s p):=by
 refine FnOk.intro Tryz.func234 (by decide) Z Z Z Z ?_;refine k2 ?_;refine A7 (A6 (A9 Z Z) Z (A6 (A9 Z Z) Z (B0 ?_)));refine k1 (k2 (k2 ?_));refine A7 (A6 (A8 Z Z) Z (A6 (A8 Z Z) Z (C4 (mL s p) Z Z Z ?_)));rintro _ rfl;refine A6 (G7 Z) Z (B0 ?_);refine k1 ?_;refine B8 rfl (fun a=>?_) (fun a=>?_)
 ·have h:¬s.take p.length=p:=by intro h;rw[A2 h]at a;cases a
  refine k2 ?_;refine A7 (A6 (A8 Z Z) Z (A6 (A9 Z Z) Z (A6 (A9 Z Z) Z (B0 ?_))));refine k1 (G5 (I2 ?_));exact C0 (rs:=[F9 s,F3 false]) (R0 rfl rfl rfl rfl rfl) (by unfold RF;rw[A5 h])
 ·have h:s.take p.length=p:=by
   by_cases h:s.take p.length=p
   ·exact h
   ·rw[A3 h]at a;cases a
  have b:p.length<=s.length:=by
   have:=congrArg List.length h;rw[A42]at this;omega
  refine k5 (k1 (k2 ?_));refine A7 (A6 (A8 Z Z) Z (A6 (A8 Z Z) Z (A6 (G4 Z) Z (A6 (cI Z Z (by omega) (by omega)) Z (A6 (A9 Z Z) Z (A6 (A9 Z Z) Z (B0 ?_)))))));refine k1 (G5 ?_);exact C0 (rs:=[F9 (s.drop p.length),F3 true]) (R0 rfl rfl rfl rfl rfl) (by unfold RF;rw[A4 h])
theorem DV(s p:Str):FnOk Tryz.prog 155 [F9 s,F9 p] (fun rs=>rs=RF s p):=by
 have a:=zM s p;unfold RF at a ⊢;by_cases h:s.take p.length=p
 ·rw[A4 h]at a ⊢;refine FnOk.intro Tryz.func155 (by decide) Z Z Z Z ?_;refine k2 ?_;refine A7 (A6 (A9 Z Z) Z (A6 (A9 Z Z) Z (B0 ?_)));refine k1 (k2 ?_);refine A7 (A6 (A8 Z Z) Z (A6 (A8 Z Z) Z (C4 (a) Z Z Z ?_)));rintro _ rfl;refine A6 (B6 Z Z) Z (A6 (B6 Z Z) Z (A6 (A9 Z Z) Z (A6 (A9 Z Z) Z (B0 ?_))));refine k1 (G5 ?_);exact C0 (R0 rfl rfl rfl rfl rfl) rfl
 ·rw[A5 h]at a ⊢;refine FnOk.intro Tryz.func155 (by decide) Z Z Z Z ?_;refine k2 ?_;refine A7 (A6 (A9 Z Z) Z (A6 (A9 Z Z) Z (B0 ?_)));refine k1 (k2 ?_);refine A7 (A6 (A8 Z Z) Z (A6 (A8 Z Z) Z (C4 (a) Z Z Z ?_)));rintro _ rfl;refine A6 (B6 Z Z) Z (A6 (B6 Z Z) Z (A6 (A9 Z Z) Z (A6 (A9 Z Z) Z (B0 ?_))));refine k1 (G5 ?_);exact C0 (R0 rfl rfl rfl rfl rfl) rfl
theorem ME(s:Str):ended s=decide (1<=s.length/\s.drop (s.length-1)=[10]):=by
 by_cases h:ended s=true
 ·rw[h];obtain⟨a,rfl⟩:=SJ.1 h
  symm;apply A2;simp
 ·have b:ended s=false:=by simpa using h
  rw[b];symm;apply A3;rintro⟨d,c⟩;refine h (SJ.2 ⟨s.take (s.length-1),?_⟩);rw[<-c,A68]
theorem zN(s:Str)(hs:s.length<=1073741824):FnOk Tryz.prog 231 [F9 s,F9 [10]] (fun rs=>rs=[F3 (ended s)]):=by
 have c:([10]:Str).length=1:=rfl;refine FnOk.intro Tryz.func231 (by decide) Z Z Z Z ?_;refine k2 ?_;refine A7 (A6 (A9 Z Z) Z (B0 ?_));refine k1 (k2 ?_);refine A7 (A6 (A8 Z Z) Z (A6 (G4 Z) Z (A6 (A8 Z Z) Z (A6 (G4 Z) Z (A6 (x9 Z Z) Z (A6 (A8 Z Z) Z (B4 Z Z Z Z (fun b=>by rw[b];exact A8 Z Z) ?_)))))));refine B4 Z Z Z Z (fun b=>by rw[b];exact A8 Z Z) ?_;refine B4 Z Z Z Z (fun b=>by rw[b];exact G4 Z) ?_;refine B4 Z Z Z Z (fun b=>by rw[b];exact A8 Z Z) ?_;refine B4 Z Z Z Z (fun b=>by rw[b];exact G4 Z) ?_;refine B4 Z Z Z Z (fun b=>by have d:=b;(try simp at d);rw[b];exact K3 Z Z (by omega)) ?_;refine B4 Z Z Z Z (fun b=>by have d:=b;(try simp at d);rw[b];exact cI Z Z (by omega) (by omega)) ?_;refine B4 Z Z Z Z (fun b=>by rw[b];exact A8 Z Z) ?_;refine B4 Z Z Z Z (fun b=>by rw[b];exact c7 Z Z) ?_;refine A6 (B9 Z (fun h=>by first | rfl | (rw[h];rfl)) (fun h=>by first | rfl | (rw[h];rfl))) Z ?_;refine A6 (A9 Z Z) Z (B0 ?_);simp only[and_pick];refine k1 (G5 ?_);refine C0 (H6 Z Z Z) ?_;rw[ME,c]
 congr 4
 congr 1
 rw[show ((s.length:Int)-((1:Nat):Int)).toNat=s.length-1 by omega];apply propext;constructor
 ·intro h;exact⟨by omega,h.2⟩
 ·intro h;exact⟨by omega,h.2⟩
def BD(s:Str):List PV:=if ended s=true then [F9 s.dropLast,F3 true] else [F9 s,F3 false]
theorem zO(s:Str)(hs:s.length<=1073741824):FnOk Tryz.prog 153 [F9 s,F9 [10]] (fun rs=>rs=BD s):=by
 have c:([10]:Str).length=1:=rfl;refine FnOk.intro Tryz.func153 (by decide) Z Z Z Z ?_;refine k2 ?_;refine A7 (A6 (A9 Z Z) Z (A6 (A9 Z Z) Z (B0 ?_)));refine k1 (k2 (k2 ?_));refine A7 (A6 (A8 Z Z) Z (A6 (A8 Z Z) Z (C4 (zN s hs) Z Z Z ?_)));rintro _ rfl;refine A6 (G7 Z) Z (B0 ?_);refine k1 ?_;refine B8 rfl (fun b=>?_) (fun b=>?_)
 ·have h:ended s=false:=by cases h:ended s<;>rw[h]at b<;>simp at b ⊢
  refine k2 ?_;refine A7 (A6 (A8 Z Z) Z (A6 (A9 Z Z) Z (A6 (A9 Z Z) Z (B0 ?_))));refine k1 (G5 (I2 ?_));exact C0 (rs:=[F9 s,F3 false]) (R0 rfl rfl rfl rfl rfl) (by unfold BD;rw[h];rfl)
 ·have h:ended s=true:=by cases h:ended s<;>rw[h]at b<;>simp at b ⊢
  have d:1<=s.length:=by obtain⟨a,rfl⟩:=SJ.1 h;simp
  refine k5 (k1 (k2 ?_));refine A7 (A6 (A8 Z Z) Z (A6 (A8 Z Z) Z (A6 (G4 Z) Z (A6 (A8 Z Z) Z (A6 (G4 Z) Z (A6 (K3 Z Z (by omega)) Z (A6 (kR Z Z (by omega) (by omega)) Z (A6 (A9 Z Z) Z (A6 (A9 Z Z) Z (B0 ?_))))))))));refine k1 (G5 ?_);refine C0 (rs:=[F9 s.dropLast,F3 true]) (R0 rfl rfl (by rw[c,show ((s.length:Int)-((1:Nat):Int)).toNat=s.length-1 by omega,<-List.dropLast_eq_take];rfl) rfl rfl) (by unfold BD;rw[A4 h])
theorem DW(s:Str)(hs:s.length<=1073741824):FnOk Tryz.prog 83 [F9 s,F9 [10]] (fun rs=>rs=BD s):=by
 have a:=zO s hs;unfold BD at a ⊢;by_cases h:ended s=true
 ·rw[A4 h]at a ⊢;refine FnOk.intro Tryz.func83 (by decide) Z Z Z Z ?_;refine k2 ?_;refine A7 (A6 (A9 Z Z) Z (A6 (A9 Z Z) Z (B0 ?_)));refine k1 (k2 ?_);refine A7 (A6 (A8 Z Z) Z (A6 (A8 Z Z) Z (C4 (a) Z Z Z ?_)));rintro _ rfl;refine A6 (B6 Z Z) Z (A6 (B6 Z Z) Z (A6 (A9 Z Z) Z (A6 (A9 Z Z) Z (B0 ?_))));refine k1 (G5 ?_);exact C0 (R0 rfl rfl rfl rfl rfl) rfl
 ·rw[A5 h]at a ⊢;refine FnOk.intro Tryz.func83 (by decide) Z Z Z Z ?_;refine k2 ?_;refine A7 (A6 (A9 Z Z) Z (A6 (A9 Z Z) Z (B0 ?_)));refine k1 (k2 ?_);refine A7 (A6 (A8 Z Z) Z (A6 (A8 Z Z) Z (C4 (a) Z Z Z ?_)));rintro _ rfl;refine A6 (B6 Z Z) Z (A6 (B6 Z Z) Z (A6 (A9 Z Z) Z (A6 (A9 Z Z) Z (B0 ?_))));refine k1 (G5 ?_);exact C0 (R0 rfl rfl rfl rfl rfl) rfl
def rG(s:Str):List PV:=match dP s with
 | none=>[T0 [],F3 false]
 | some l=>[T0 l,F3 true]
theorem MF(s:Str)(hs:s.length<=536870912):FnOk Tryz.prog 32 [F9 s] (fun rs=>rs=rG s):=by
 refine FnOk.intro Tryz.func32 (by decide) Z Z Z Z ?_;refine k2 ?_;refine A7 (A6 (A9 Z Z) Z (A6 (A9 Z Z) Z (B0 ?_)));refine k1 (k2 (k2 ?_));refine A7 (A6 (A8 Z Z) Z (A6 (c7 Z Z) Z (B0 ?_)));refine k1 ?_;refine B8 rfl (fun a=>?_) (fun a=>?_)
 ·have h:s=[]:=A0 a;refine k2 ?_;refine A7 (A6 (N2 _ 1 J9) Z (A6 (A9 Z Z) Z (B0 ?_)));refine k1 (G5 (I2 ?_));exact C0 (rs:=[T0 [],F3 true]) (R0 rfl rfl rfl rfl rfl) (by unfold rG dP;rw[A4 h])
 have h:s≠[]:=A1 a;have b:=DW s (by omega);unfold BD at b;by_cases c:ended s=true
 ·rw[A4 c]at b;have d:s.dropLast.length<=s.length:=by rw[List.length_dropLast];omega
  refine k5 (k1 (k2 ?_));refine A7 (A6 (A8 Z Z) Z (C4 (b) Z Z Z ?_));rintro _ rfl;refine A6 (A8 Z Z) Z (A6 (B6 Z Z) Z (A6 (B6 Z Z) Z (A6 (A9 Z Z) Z (A6 (A9 Z Z) Z (B0 ?_)))));refine k1 (k2 (k2 ?_));refine A7 (A6 (A8 Z Z) Z (A6 (G7 Z) Z (B0 ?_)));refine k1 ?_;refine B8 rfl (fun a=>?_) (fun a=>?_)
  ·cases a
  refine k5 (k1 (k2 ?_));refine A7 (A6 (A8 Z Z) Z (C4 (VJ s.dropLast (by omega)) Z Z Z ?_));rintro _ rfl;refine A6 (A9 Z Z) Z (A6 (A9 Z Z) Z (B0 ?_));refine k1 (G5 ?_);exact C0 (rs:=[T0 (i7 s.dropLast),F3 true]) (R0 rfl rfl rfl rfl rfl) (by unfold rG;rw[sP h,A4 c])
 ·rw[A5 c]at b;refine k5 (k1 (k2 ?_));refine A7 (A6 (A8 Z Z) Z (C4 (b) Z Z Z ?_));rintro _ rfl;refine A6 (A8 Z Z) Z (A6 (B6 Z Z) Z (A6 (B6 Z Z) Z (A6 (A9 Z Z) Z (A6 (A9 Z Z) Z (B0 ?_)))));refine k1 (k2 (k2 ?_));refine A7 (A6 (A8 Z Z) Z (A6 (G7 Z) Z (B0 ?_)));refine k1 ?_;refine B8 rfl (fun a=>?_) (fun a=>?_)
  ·refine k2 ?_;refine A7 (A6 (N2 _ 1 J9) Z (A6 (A9 Z Z) Z (B0 ?_)));refine k1 (G5 (I2 ?_));exact C0 (rs:=[T0 [],F3 false]) (R0 rfl rfl rfl rfl rfl) (by unfold rG;rw[sP h,A5 c])
  ·cases a
theorem BE(l a:Str)(o:l.length<=16777216):FnOk Tryz.prog 96 [F9 l,F9 a]
  (fun rs=>∃(w:Str) (b:Bool),rs=[F9 w,F3 b]/\match U2 l a with
   | some w'=>b=true/\w=w'
   | none=>b=false):=by
 have e:=DV l a;unfold RF at e;by_cases h:l.take a.length=a
 ·rw[A4 h]at e;obtain⟨r,g⟩:∃r,r=l.drop a.length:=⟨_,rfl⟩
  have n:r.length<=l.length:=by rw[g,A47];omega
  have i:=HH r 0 (Nat.zero_le _) (by omega);rw[<-g]at e;cases j:aL r with
  | none =>
   rw[MC (by rw[List.drop_zero];exact j)]at i;have f:U2 l a=none:=by unfold U2;rw[A4 h,<-g,j]
   refine FnOk.intro Tryz.func96 (by decide) Z Z Z Z ?_;refine k2 ?_;refine A7 (A6 (A9 Z Z) Z (A6 (A9 Z Z) Z (B0 ?_)));refine k1 (k2 ?_);refine A7 (A6 (A8 Z Z) Z (A6 (A8 Z Z) Z (C4 (e) Z Z Z ?_)));rintro _ rfl;refine A6 (A8 Z Z) Z (A6 (B6 Z Z) Z (A6 (B6 Z Z) Z (A6 (A9 Z Z) Z (A6 (A9 Z Z) Z (B0 ?_)))));refine k1 (k2 (k2 ?_));refine A7 (A6 (A8 Z Z) Z (A6 (G7 Z) Z (B0 ?_)));refine k1 ?_;refine B8 rfl (fun d=>?_) (fun d=>?_)
   ·cases d
   refine k5 (k1 (k2 ?_));refine A7 (A6 (A8 Z Z) Z (C4 (i) Z Z Z ?_));rintro _ rfl;refine A6 (A8 Z Z) Z (A6 (B6 Z Z) Z (A6 (B6 Z Z) Z (A6 (B6 Z Z) Z (A6 (A9 Z Z) Z (A6 (A9 Z Z) Z (A6 (A9 Z Z) Z (B0 ?_)))))));refine k1 (k2 ?_);refine A7 (A6 (A8 Z Z) Z (A6 (A8 Z Z) Z (A6 (A8 Z Z) Z (B4 Z Z Z Z (fun c=>by rw[c];exact A8 Z Z) ?_))));refine B4 Z Z Z Z (fun c=>by rw[c];exact A8 Z Z) ?_;refine B4 Z Z Z Z (fun c=>by rw[c];exact G4 Z) ?_;refine B4 Z Z Z Z (fun c=>by rw[c];exact I3 Z Z) ?_;refine A6 (B9 Z (fun h=>by first | rfl | (rw[h];rfl)) (fun h=>by first | rfl | (rw[h];rfl))) Z ?_;refine A6 (A9 Z Z) Z (A6 (A9 Z Z) Z (B0 ?_));refine k1 (G5 ?_);refine C0 (R0 rfl rfl rfl rfl rfl) ⟨[],_,rfl,?_⟩;rw[f];rfl
  | some q =>
   obtain⟨w,k⟩:=q;rw[MD (k:=k) (by rw[List.drop_zero];exact j),Nat.zero_add]at i;have f:U2 l a=if k=r.length then some w else none:=by unfold U2;rw[A4 h,<-g,j]
   refine FnOk.intro Tryz.func96 (by decide) Z Z Z Z ?_;refine k2 ?_;refine A7 (A6 (A9 Z Z) Z (A6 (A9 Z Z) Z (B0 ?_)));refine k1 (k2 ?_);refine A7 (A6 (A8 Z Z) Z (A6 (A8 Z Z) Z (C4 (e) Z Z Z ?_)));rintro _ rfl;refine A6 (A8 Z Z) Z (A6 (B6 Z Z) Z (A6 (B6 Z Z) Z (A6 (A9 Z Z) Z (A6 (A9 Z Z) Z (B0 ?_)))));refine k1 (k2 (k2 ?_));refine A7 (A6 (A8 Z Z) Z (A6 (G7 Z) Z (B0 ?_)));refine k1 ?_;refine B8 rfl (fun d=>?_) (fun d=>?_)
   ·cases d
   refine k5 (k1 (k2 ?_));refine A7 (A6 (A8 Z Z) Z (C4 (i) Z Z Z ?_));rintro _ rfl;refine A6 (A8 Z Z) Z (A6 (B6 Z Z) Z (A6 (B6 Z Z) Z (A6 (B6 Z Z) Z (A6 (A9 Z Z) Z (A6 (A9 Z Z) Z (A6 (A9 Z Z) Z (B0 ?_)))))));refine k1 (k2 ?_);refine A7 (A6 (A8 Z Z) Z (A6 (A8 Z Z) Z (A6 (A8 Z Z) Z (B4 Z Z Z Z (fun c=>by rw[c];exact A8 Z Z) ?_))));refine B4 Z Z Z Z (fun c=>by rw[c];exact A8 Z Z) ?_;refine B4 Z Z Z Z (fun c=>by rw[c];exact G4 Z) ?_;refine B4 Z Z Z Z (fun c=>by rw[c];exact I3 Z Z) ?_;refine A6 (B9 Z (fun h=>by first | rfl | (rw[h];rfl)) (fun h=>by first | rfl | (rw[h];rfl))) Z ?_;refine A6 (A9 Z Z) Z (A6 (A9 Z Z) Z (B0 ?_));refine k1 (G5 ?_);refine C0 (R0 rfl rfl rfl rfl rfl) ⟨w,_,rfl,?_⟩;rw[f];by_cases m:k=r.length
   ·rw[A4 m];exact⟨by rw[m];simp,rfl⟩
   ·rw[A5 m];simp;omega
 ·rw[A5 h]at e;have f:U2 l a=none:=by unfold U2;rw[A5 h]
  refine FnOk.intro Tryz.func96 (by decide) Z Z Z Z ?_;refine k2 ?_;refine A7 (A6 (A9 Z Z) Z (A6 (A9 Z Z) Z (B0 ?_)));refine k1 (k2 ?_);refine A7 (A6 (A8 Z Z) Z (A6 (A8 Z Z) Z (C4 (e) Z Z Z ?_)));rintro _ rfl;refine A6 (A8 Z Z) Z (A6 (B6 Z Z) Z (A6 (B6 Z Z) Z (A6 (A9 Z Z) Z (A6 (A9 Z Z) Z (B0 ?_)))));refine k1 (k2 (k2 ?_));refine A7 (A6 (A8 Z Z) Z (A6 (G7 Z) Z (B0 ?_)));refine k1 ?_;refine B8 rfl (fun d=>?_) (fun d=>?_)
  ·refine k2 ?_;refine A7 (A6 (A9 Z Z) Z (A6 (A9 Z Z) Z (B0 ?_)));refine k1 (G5 (I2 ?_));refine C0 (rs:=[F9 [],F3 false]) (R0 rfl rfl rfl rfl rfl) ⟨[],false,rfl,?_⟩;rw[f]
  ·cases d
def sQ(l:Str)(i:Nat)(b:Str):List PV:=match j4 l i b with
 | none=>[E2 0,E2 0,F3 false]
 | some (a,_,e)=>[E2 a,E2 (e:Int),F3 true]
theorem HY{l b:Str}{i:Nat}(c:i<=l.length)(h:(l.drop i).take b.length=b):i+b.length<=l.length:=by
 have:=congrArg List.length h;rw[A42,A47]at this;omega
theorem BF{s:Str}{a c e:Nat}{r:Int×Int×Nat}(h:kK s a c e=some r):r.2.2=e:=by
 unfold kK at h;obtain⟨st,b⟩:∃st:Int,st=if 0<c then (a:Int)-1 else a:=⟨_,rfl⟩
 rw[<-b]at h;by_cases d:J7 st c=s.take e
 ·rw[A4 d]at h;cases h;rfl
 ·rw[A5 d]at h;cases h
theorem VK{s:Str}{a n:Int}{e:Nat}(h:dN s=some (a,n,e)):e<=s.length:=by
 unfold dN at h;cases b:p7 s with
 | none=>rw[b]at h;cases h
 | some p =>
  obtain⟨v,k⟩:=p;rw[b]at h;dsimp only at h;obtain⟨_,_,_,j,_⟩:=kX b;split at h
  ·rename_i f;have i:=(List.getElem?_eq_some_iff.1 f).1;cases d:p7 (s.drop (k+1)) with
   | none=>rw[d]at h;cases h
   | some q =>
    obtain⟨c,l⟩:=q;rw[d]at h;dsimp only at h;obtain⟨_,_,_,g,_⟩:=kX d;rw[A47]at g;have:=BF h;dsimp only at this;omega
  ·have:=BF h;dsimp only at this;omega
theorem BG{l b:Str}{i:Nat}{a n:Int}{e:Nat}(g:i<=l.length)(h:j4 l i b=some (a,n,e)):e<=l.length:=by
 unfold j4 at h;split at h
 ·rename_i d;have j:=HY g d;cases c:dN (l.drop (i+b.length)) with
  | none=>rw[c]at h;cases h
  | some q =>
   obtain⟨x,y,z⟩:=q;rw[c]at h;have f:=VK c;rw[A47]at f;simp at h;omega
 ·cases h
theorem BH(l:Str)(i:Nat)(b:Str)(j:i<=l.length)(o:l.length<=16777216):FnOk Tryz.prog 242 [F9 l,E2 i,F9 b] (fun rs=>rs=sQ l i b):=by
 by_cases h:(l.drop i).take b.length=b
 ·have m:=HY j h;have c:=QE l (i+b.length) m (by omega);cases g:dN (l.drop (i+b.length)) with
  | none =>
   have c:FnOk Tryz.prog 238 [F9 l,E2 ((i+b.length:Nat):Int)] (fun rs=>rs=[E2 0,E2 0,E2 0,F3 false]):=by unfold LM at c;rw[g]at c;exact c
   rw[show ((i+b.length:Nat):Int)=(i:Int)+(b.length:Int) by omega]at c;have f:j4 l i b=none:=by unfold j4;rw[A4 h,g]
   refine FnOk.intro Tryz.func242 (by decide) Z Z Z Z ?_;refine k2 ?_;refine A7 (A6 (A9 Z Z) Z (A6 (A9 Z Z) Z (A6 (A9 Z Z) Z (B0 ?_))));refine k1 (k2 (k2 ?_));refine A7 (A6 (A8 Z Z) Z (A6 (A8 Z Z) Z (A6 (cI Z Z (by omega) (by omega)) Z (A6 (A8 Z Z) Z (C4 (iA (l.drop i) b) Z Z Z ?_)))));rintro _ rfl;refine A6 (G7 Z) Z (B0 ?_);refine k1 ?_;refine B8 rfl (fun d=>?_) (fun d=>?_)
   ·rw[A2 h]at d;cases d
   refine k5 (k1 (k2 ?_));refine A7 (A6 (A8 Z Z) Z (A6 (A8 Z Z) Z (A6 (A8 Z Z) Z (A6 (G4 Z) Z (A6 (C9 Z Z (by omega)) Z (C4 (c) Z Z Z ?_))))));rintro _ rfl;refine A6 (A8 Z Z) Z (A6 (B6 Z Z) Z (A6 (B6 Z Z) Z (A6 (B6 Z Z) Z (A6 (B6 Z Z) Z (A6 (A9 Z Z) Z (A6 (A9 Z Z) Z (A6 (A9 Z Z) Z (A6 (A9 Z Z) Z (B0 ?_)))))))));refine k1 (k2 ?_);refine A7 (A6 (A8 Z Z) Z (A6 (A8 Z Z) Z (A6 (A8 Z Z) Z (A6 (A9 Z Z) Z (A6 (A9 Z Z) Z (A6 (A9 Z Z) Z (B0 ?_)))))));refine k1 (G5 ?_);refine C0 (rs:=[E2 0,E2 0,F3 false]) (FI Z Z Z Z Z Z Z) ?_;unfold sQ;rw[f]
  | some q =>
   obtain⟨a,n,e⟩:=q;have c:FnOk Tryz.prog 238 [F9 l,E2 ((i+b.length:Nat):Int)] (fun rs=>rs=[E2 a,E2 n,E2 ((i+b.length+e:Nat):Int),F3 true]):=by unfold LM at c;rw[g]at c;exact c
   rw[show ((i+b.length:Nat):Int)=(i:Int)+(b.length:Int) by omega]at c;have f:j4 l i b=some (a,n,i+b.length+e):=by unfold j4;rw[A4 h,g]
   refine FnOk.intro Tryz.func242 (by decide) Z Z Z Z ?_;refine k2 ?_;refine A7 (A6 (A9 Z Z) Z (A6 (A9 Z Z) Z (A6 (A9 Z Z) Z (B0 ?_))));refine k1 (k2 (k2 ?_));refine A7 (A6 (A8 Z Z) Z (A6 (A8 Z Z) Z (A6 (cI Z Z (by omega) (by omega)) Z (A6 (A8 Z Z) Z (C4 (iA (l.drop i) b) Z Z Z ?_)))));rintro _ rfl;refine A6 (G7 Z) Z (B0 ?_);refine k1 ?_;refine B8 rfl (fun d=>?_) (fun d=>?_)
   ·rw[A2 h]at d;cases d
   refine k5 (k1 (k2 ?_));refine A7 (A6 (A8 Z Z) Z (A6 (A8 Z Z) Z (A6 (A8 Z Z) Z (A6 (G4 Z) Z (A6 (C9 Z Z (by omega)) Z (C4 (c) Z Z Z ?_))))));rintro _ rfl;refine A6 (A8 Z Z) Z (A6 (B6 Z Z) Z (A6 (B6 Z Z) Z (A6 (B6 Z Z) Z (A6 (B6 Z Z) Z (A6 (A9 Z Z) Z (A6 (A9 Z Z) Z (A6 (A9 Z Z) Z (A6 (A9 Z Z) Z (B0 ?_)))))))));refine k1 (k2 ?_);refine A7 (A6 (A8 Z Z) Z (A6 (A8 Z Z) Z (A6 (A8 Z Z) Z (A6 (A9 Z Z) Z (A6 (A9 Z Z) Z (A6 (A9 Z Z) Z (B0 ?_)))))));refine k1 (G5 ?_);refine C0 (rs:=[E2 a,E2 ((i+b.length+e:Nat):Int),F3 true]) (FI Z Z Z Z Z Z Z) ?_;unfold sQ;rw[f]
 ·have f:j4 l i b=none:=by unfold j4;rw[A5 h]
  refine FnOk.intro Tryz.func242 (by decide) Z Z Z Z ?_;refine k2 ?_;refine A7 (A6 (A9 Z Z) Z (A6 (A9 Z Z) Z (A6 (A9 Z Z) Z (B0 ?_))));refine k1 (k2 (k2 ?_));refine A7 (A6 (A8 Z Z) Z (A6 (A8 Z Z) Z (A6 (cI Z Z (by omega) (by omega)) Z (A6 (A8 Z Z) Z (C4 (iA (l.drop i) b) Z Z Z ?_)))));rintro _ rfl;refine A6 (G7 Z) Z (B0 ?_);refine k1 ?_;refine B8 rfl (fun d=>?_) (fun d=>?_)
  ·refine k2 ?_;refine A7 (A6 (A9 Z Z) Z (A6 (A9 Z Z) Z (A6 (A9 Z Z) Z (B0 ?_))));refine k1 (G5 (I2 ?_));refine C0 (rs:=[E2 0,E2 0,F3 false]) (FI Z Z Z Z Z Z Z) ?_;unfold sQ;rw[f]
  ·rw[A3 h]at d;cases d
def YS:UInt8×Nat->Nat->Cell
 | (c,_),0=>.v (.int .u8 c.toNat)
 | (_,f),_=>.v (.func (.func f) #[] #[])
def meths:List (UInt8×Nat):=[(64,171),(32,172),(45,172),(43,172),(92,173)]
def eI(c:UInt8):Value:=match meths.find? fun m=>decide (m.1=c) with
 | some m=>.func (.func m.2) #[] #[]
 | none=>.nilFunc
theorem rH{c:UInt8}:∀(l:List (UInt8×Nat)) (k:Nat),(∀j m,j<k->l[j]?=some m->m.1≠c)->l.find? (fun m=>decide (m.1=c))=(l.drop k).find? fun m=>decide (m.1=c)
 | [],k,_=>by simp
 | x::r,0,_=>rfl
 | x::r,k+1,h=>by
  have a:x.1≠c:=h 0 x (by omega) rfl;rw[List.find?_cons_of_neg (by simpa using a),List.drop_succ_cons];exact rH r k fun j m e b=>h (j+1) m (by omega) (by simpa using b)
theorem RG(c:UInt8):FnOk Tryz.prog 97 [pByte c] (fun rs=>rs=[.one (.v (eI c))]):=by
 have y:meths.length=5:=rfl;refine FnOk.intro Tryz.func97 (by decide) Z Z Z Z ?_;refine k2 ?_;refine A7 (A6 (A9 Z Z) Z (B0 ?_));refine k1 (k2 (k2 ?_));refine A7 (A6 (F8 Z) Z (A6 (F8 Z) Z (A6 (F8 Z) Z (A6 (F8 Z) Z (A6 (F8 Z) Z (A6 (E0 (c:=YS) (ys:=meths) (D9 Z Z Z Z (D9 Z Z Z Z (D9 Z Z Z Z (D9 Z Z Z Z (D9 Z Z Z Z H2))))) Z Z Z) Z (A6 (F0 Z (.pure _ _ _ _)) Z (A6 (A8 Z Z) Z (B0 ?_)))))))));refine k1 (k3 ?_);refine E3 (X:=Nat) (fun k=>([(0,.s (pByte c).s1),(10,D7 (UInt8×Nat) 2 YS meths),(11,C7 5),(12,C7 k)],[])) (fun k=>k<=5/\∀j m,j<k->meths[j]?=some m->m.1≠c) (fun k=>5-k) 0 ⟨by omega,by omega⟩ (Sees.of ⟨B5 rfl,B5 rfl,B5 rfl,B5 rfl,trivial⟩ trivial) ?_;rintro k ⟨t,a⟩;dsimp only at t a ⊢;refine k2 ?_;refine A7 (A6 (F2 Z Z) Z (B0 ?_));refine k1 (k2 ?_);refine B8 rfl (fun b=>?_) (fun b=>?_)
 ·have w:k<5:=by have:=A0 b;omega
  obtain⟨m,g⟩:∃m,meths[k]?=some m:=⟨meths[k]'(by omega),A32 _⟩
  obtain⟨d,q⟩:=m;refine k5 (k1 (k2 (k3 (k2 ?_))));refine A7 (A6 (C1 Z (.pure _ _ _ _) Z (by omega) g) Z (A6 (E5 Z Z) Z (D2 (G3 4 Z) Z (F4 (C2 TySz.out Z Z Z Z Z Z) (B0 ?_)))));refine k1 (k2 ?_);refine A7 (A6 (B1 Z) Z (A6 (B2 Z Z Z) Z (A6 (A8 Z Z) Z (A6 (I3 Z Z) Z (B0 ?_)))));refine k1 ?_;refine B8 rfl (fun b=>?_) (fun b=>?_)
  ·have f:(d.toNat:Int)=(c.toNat:Int):=A0 b;have f:d=c:=UInt8.toNat_inj.1 (by omega);refine k2 ?_;refine A7 (A6 (B1 Z) Z (A6 (B2 Z Z Z) Z (A6 (A9 Z Z) Z (B0 ?_))));refine k1 (G5 (R5 (I2 (I2 (R5 (I2 ?_))))));refine C0 (H6 Z Z Z) ?_;unfold eI;rw[rH meths k a,A41 (by omega),List.find?_cons_of_pos]
   ·have:meths[k]'(by omega)=(d,q):=(List.getElem?_eq_some_iff.1 g).2;rw[this];rfl
   ·have:meths[k]'(by omega)=(d,q):=(List.getElem?_eq_some_iff.1 g).2;rw[this];simpa using f
  ·have f:¬(d.toNat:Int)=(c.toNat:Int):=A1 b;refine k5 (k4 (k1 ?_));refine A7 (A6 (C9 Z Z (by omega)) Z (A6 (A8 Z Z) Z (B0 ?_)));refine k1 ?_;refine⟨k+1,⟨by omega,fun j x z l=>?_⟩,by omega,Sees.of ⟨B5 rfl,B5 rfl,B5 rfl,B5 rfl,trivial⟩ trivial⟩;by_cases h:j=k
   ·subst h;rw[g]at l;cases l;intro e;exact f (by rw[show d=c from e])
   ·exact a j x (by omega) l
 ·have i:k=5:=by have:=A1 b;omega
  subst i;refine k6 (k2 ?_);refine A7 (A6 (A9 Z Z) Z (B0 ?_));refine k1 (G5 ?_);refine C0 (H6 Z Z Z) ?_;unfold eI;rw[rH meths 5 a];rfl
def rI:PatchHunk->Nat->Cell
 | h,0=>.v (.int .i64 h.Old)
 | h,1=>.v (.int .i64 h.New)
 | h,_=>match h.Lines with
  | []=>.v (.slice none 0 0)
  | _::_=>.list PatchLine 2 plineC h.Lines
abbrev lS:Ob:=.box [.p (.v (.string ⟨#[]⟩)),.p (.v (.string ⟨#[]⟩)),.p (.v (.slice none 0 0))]
abbrev YT(o n:Str):Ob:=.box [.p (.v (.string ⟨o.toArray⟩)),.p (.v (.string ⟨n.toArray⟩)),.mut 731]
abbrev i8(o n:Str)(hs:List PatchHunk):Obs:=[(730,YT o n),(731,.grow 99 PatchHunk 3 rI hs),(2,lS)]
abbrev W5(o n:Str)(hs:List PatchHunk)(a b:Int)(c:List PatchLine):Obs :=
 [(730,YT o n),(731,.growA 99 PatchHunk 3 rI hs (hs.length-1) [.p (.v (.int .i64 a)),.p (.v (.int .i64 b)),.mut 732]),(732,.grow 188 PatchLine 2 plineC c),(2,lS)]
theorem BI{gf:Fr}(o n:Str):AL.Met Tryz.prog 243 [.one (.ref 730 0)] gf (i8 o n []) [] (fun b ob'=>b=[.one (.p (.v (.pointer none)))]/\ob'=i8 o n []):=by
 refine AL.Met.intro Tryz.func243 (by decide) Z Z Z ?_;refine k2 ?_;refine A7 (A6 (A9 Z Z) Z (B0 ?_));refine k1 (k2 (k2 ?_));refine A7 (A6 (A8 Z Z) Z (A6 (B7 Z) Z (A6 (B1 Z) Z (A6 (B1 Z) Z (A6 (B2 Z Z Z) Z (A6 (r7 Z Z) Z (A6 (I3 Z Z) Z (B0 ?_))))))));refine k1 ?_;refine B8 rfl (fun a=>?_) (fun a=>?_);rotate_left
 ·exact absurd rfl (A1 a)
 refine k2 ?_;refine A7 (A6 (A9 Z Z) Z (B0 ?_));refine k1 (G5 (I2 ?_));exact G1 (O9 rfl rfl) (by repeat (first | exact C5 | refine C3 rfl ?_ | refine D3 _ ?_)) (fun _ _ h=>h) ⟨rfl,rfl⟩
theorem rJ{gf:Fr}(o n:Str)(hs:List PatchHunk)(a b:Int)(d:List PatchLine)(i:0<hs.length)(j:hs.length<=1073741824) :
  AL.Met Tryz.prog 243 [.one (.ref 730 0)] gf (W5 o n hs a b d) [] (fun g ob'=>g=[.one (.mref 731 3 ((hs.length:Int)-1).toNat 0)]/\ob'=W5 o n hs a b d):=by
 refine AL.Met.intro Tryz.func243 (by decide) Z Z Z ?_;refine k2 ?_;refine A7 (A6 (A9 Z Z) Z (B0 ?_));refine k1 (k2 (k2 ?_));refine A7 (A6 (A8 Z Z) Z (A6 (B7 Z) Z (A6 (B1 Z) Z (A6 (B1 Z) Z (A6 (B2 Z Z Z) Z (A6 (GB Z Z) Z (A6 (I3 Z Z) Z (B0 ?_))))))));refine k1 ?_;refine B8 rfl (fun c=>?_) (fun c=>?_)
 ·exact absurd (A0 c) (by omega)
 refine k5 (k1 (k2 ?_));refine D8 (by kernel_rfl) (by kernel_rfl) (B3 (A8 Z Z) Z Z (B3 (B7 Z) Z Z (B3 (B1 Z) Z Z (B3 (B1 Z) Z Z (B3 (B2 Z Z Z) Z Z (B3 (A8 Z Z) Z Z (B3 (B7 Z) Z Z (B3 (B1 Z) Z Z (B3 (B1 Z) Z Z (B3 (B2 Z Z Z) Z Z (B3 (GB Z Z) Z Z (B3 (K3 Z Z (by omega)) Z Z (B3 (vL Z Z Z (by omega) (by omega)) Z Z (B3 (A9 Z Z) Z Z (J8 ?_)))))))))))))));refine k1 (G5 ?_);exact G1 (O9 rfl rfl) (by repeat (first | exact C5 | refine C3 rfl ?_ | refine D3 _ ?_)) (fun _ _ h=>h) ⟨rfl,rfl⟩
theorem MH{gf:Fr}(o n:Str)(hs:List PatchHunk)(l:Str)(F:hs.length<=16777216)(A:l.length<=16777216) :
  AL.Met Tryz.prog 171 [.one (.ref 730 0),.one (.p (.v (.string ⟨l.toArray⟩)))] gf (i8 o n hs) [731]
   (fun rs ob'=>match bD l with
    | none=>rs=[LN false]/\ob'=[(2,lS)]
    | some (a,_,b,_)=>rs=[LN true]/\ob'=i8 o n (hs++[⟨a,b,[]⟩])):=by
 have s1:=BH l 0 [64,64,32,45] (Nat.zero_le _) A;cases w:j4 l 0 [64,64,32,45] with
 | none =>
  have z:bD l=none:=by unfold bD;rw[w]
  rw[z];unfold sQ at s1;rw[w]at s1;refine AL.Met.intro Tryz.func171 (by decide) Z Z Z ?_;refine k2 ?_;refine A7 (A6 (A9 Z Z) Z (B0 ?_));refine k1 (k2 ?_);refine A7 (A6 (A8 Z Z) Z (C4 (s1) Z Z Z ?_));rintro _ rfl;refine A6 (A8 Z Z) Z (A6 (B6 Z Z) Z (A6 (B6 Z Z) Z (A6 (B6 Z Z) Z (A6 (A9 Z Z) Z (A6 (A9 Z Z) Z (A6 (A9 Z Z) Z (B0 ?_)))))));refine k1 (k2 (k2 ?_));refine A7 (A6 (A8 Z Z) Z (A6 (G7 Z) Z (B0 ?_)));refine k1 ?_;refine B8 rfl (fun d=>?_) (fun d=>?_)
  ·refine k2 ?_;refine G8 (Sees.forget 731) ?_;refine A7 (A6 (A9 Z Z) Z (B0 ?_));refine k1 (G5 (I2 ?_));exact G1 (O9 rfl rfl) (by repeat (first | exact C5 | refine C3 rfl ?_ | refine D3 _ ?_)) (ObIn.spec (ob':=[(2,lS)]) ⟨rfl,trivial⟩) ⟨rfl,rfl⟩
  ·cases d
 | some q =>
  obtain⟨a,m,i⟩:=q;unfold sQ at s1;rw[w]at s1;have C:=BG (Nat.zero_le _) w;have s2:=BH l i [32,43] C A;cases x:j4 l i [32,43] with
  | none =>
   have z:bD l=none:=by unfold bD;rw[w];dsimp only;rw[x]
   rw[z];unfold sQ at s2;rw[x]at s2;refine AL.Met.intro Tryz.func171 (by decide) Z Z Z ?_;refine k2 ?_;refine A7 (A6 (A9 Z Z) Z (B0 ?_));refine k1 (k2 ?_);refine A7 (A6 (A8 Z Z) Z (C4 (s1) Z Z Z ?_));rintro _ rfl;refine A6 (A8 Z Z) Z (A6 (B6 Z Z) Z (A6 (B6 Z Z) Z (A6 (B6 Z Z) Z (A6 (A9 Z Z) Z (A6 (A9 Z Z) Z (A6 (A9 Z Z) Z (B0 ?_)))))));refine k1 (k2 (k2 ?_));refine A7 (A6 (A8 Z Z) Z (A6 (G7 Z) Z (B0 ?_)));refine k1 ?_;refine B8 rfl (fun d=>?_) (fun d=>?_)
   ·cases d
   refine k5 (k1 (k2 ?_));refine A7 (A6 (A8 Z Z) Z (A6 (A8 Z Z) Z (C4 (s2) Z Z Z ?_)));rintro _ rfl;refine A6 (A8 Z Z) Z (A6 (B6 Z Z) Z (A6 (B6 Z Z) Z (A6 (B6 Z Z) Z (A6 (A9 Z Z) Z (A6 (A9 Z Z) Z (A6 (A9 Z Z) Z (B0 ?_)))))));refine k1 (k2 (k2 ?_));refine A7 (A6 (A8 Z Z) Z (A6 (G7 Z) Z (A6 (A8 Z Z) Z (I8 Z Z Z (by simp) Z (I8 Z Z Z (by simp) Z (I8 Z Z Z (by simp) Z (I8 Z Z Z (by simp) Z (A6 (bQ Z (rfl) Z) Z (B0 ?_)))))))));refine k1 ?_;refine B8 rfl (fun d=>?_) (fun d=>?_)
   ·refine k2 ?_;refine G8 (Sees.forget 731) ?_;refine A7 (A6 (A9 Z Z) Z (B0 ?_));refine k1 (G5 (I2 ?_));exact G1 (O9 rfl rfl) (by repeat (first | exact C5 | refine C3 rfl ?_ | refine D3 _ ?_)) (ObIn.spec (ob':=[(2,lS)]) ⟨rfl,trivial⟩) ⟨rfl,rfl⟩
   ·cases d
  | some q =>
   obtain⟨b,k,j⟩:=q;unfold sQ at s2;rw[x]at s2;have E:=BG C x;have z:bD l=if l.drop j=[32,64,64] then some (a,m,b,k) else none:=by unfold bD;rw[w];dsimp only;rw[x]
   rw[z];refine AL.Met.intro Tryz.func171 (by decide) Z Z Z ?_;refine k2 ?_;refine A7 (A6 (A9 Z Z) Z (B0 ?_));refine k1 (k2 ?_);refine A7 (A6 (A8 Z Z) Z (C4 (s1) Z Z Z ?_));rintro _ rfl;refine A6 (A8 Z Z) Z (A6 (B6 Z Z) Z (A6 (B6 Z Z) Z (A6 (B6 Z Z) Z (A6 (A9 Z Z) Z (A6 (A9 Z Z) Z (A6 (A9 Z Z) Z (B0 ?_)))))));refine k1 (k2 (k2 ?_));refine A7 (A6 (A8 Z Z) Z (A6 (G7 Z) Z (B0 ?_)));refine k1 ?_;refine B8 rfl (fun d=>?_) (fun d=>?_)
   ·cases d
   refine k5 (k1 (k2 ?_));refine A7 (A6 (A8 Z Z) Z (A6 (A8 Z Z) Z (C4 (s2) Z Z Z ?_)));rintro _ rfl;refine A6 (A8 Z Z) Z (A6 (B6 Z Z) Z (A6 (B6 Z Z) Z (A6 (B6 Z Z) Z (A6 (A9 Z Z) Z (A6 (A9 Z Z) Z (A6 (A9 Z Z) Z (B0 ?_)))))));refine k1 (k2 (k2 ?_));refine A7 (A6 (A8 Z Z) Z (A6 (G7 Z) Z (A6 (A8 Z Z) Z (B4 Z Z Z Z (fun y=>by rw[y];exact A8 Z Z) ?_))));refine B4 Z Z Z Z (fun y=>by rw[y];exact A8 Z Z) ?_;refine B4 Z Z Z Z (fun y=>by have D:=y;(try simp at D);rw[y];exact cI Z Z (by omega) (by omega)) ?_;refine B4 Z Z Z Z (fun y=>by rw[y];exact bF Z Z) ?_;refine A6 (B9 Z (fun h=>by first | rfl | (rw[h];rfl)) (fun h=>by first | rfl | (rw[h];rfl))) Z ?_;refine B0 ?_;refine k1 ?_;refine B8 rfl (fun d=>?_) (fun d=>?_)
   ·have B:¬l.drop j=[32,64,64]:=by simpa using d
    rw[A5 B];refine k2 ?_;refine G8 (Sees.forget 731) ?_;refine A7 (A6 (A9 Z Z) Z (B0 ?_));refine k1 (G5 (I2 ?_));exact G1 (O9 rfl rfl) (by repeat (first | exact C5 | refine C3 rfl ?_ | refine D3 _ ?_)) (ObIn.spec (ob':=[(2,lS)]) ⟨rfl,trivial⟩) ⟨rfl,rfl⟩
   ·have B:l.drop j=[32,64,64]:=by simpa using d
    rw[A4 B];refine k5 (k1 (k2 ?_));refine A7 (A6 (A8 Z Z) Z (A6 (A8 Z Z) Z (A6 (B7 Z) Z (A6 (B1 Z) Z (A6 (B1 Z) Z (A6 (B2 Z Z Z) Z (A6 (A8 Z Z) Z (A6 (A8 Z Z) Z (A6 (F8 Z) Z (A6 (E0 (c:=rI) (ys:=[⟨a,b,[]⟩]) (D9 Z Z Z Z H2) Z Z Z) Z (D2 (cY Z Z Z (.pure _ _ _ _) (by (simp;omega)) Z) Z (A6 (B7 Z) Z (A6 (B1 Z) Z (A6 (B1 Z) Z (F4 (C2 TySz.out Z Z Z Z Z Z) (B0 ?_))))))))))))))));refine k1 (k2 ?_);refine A7 (A6 (A9 Z Z) Z (B0 ?_));refine k1 (G5 ?_);exact G1 (O9 rfl rfl) (by repeat (first | exact C5 | refine C3 rfl ?_ | refine D3 _ ?_)) (ObIn.spec (ob':=i8 o n (hs++[⟨a,b,[]⟩])) ⟨rfl,rfl,rfl,trivial⟩) ⟨rfl,rfl⟩
theorem DX{gf:Fr}(o n l:Str):AL.Met Tryz.prog 172 [.one (.ref 730 0),.one (.p (.v (.string ⟨l.toArray⟩)))] gf (i8 o n []) [732] (fun rs ob'=>rs=[LN false]/\ob'=[(2,lS)]):=by
 refine AL.Met.intro Tryz.func172 (by decide) Z Z Z ?_;refine k2 ?_;refine A7 (A6 (A9 Z Z) Z (B0 ?_));refine k1 (k2 ?_);refine A7 (A6 (A8 Z Z) Z (R4 (BI o n) Z Z Z ?_));rintro _ _ ⟨rfl,rfl⟩;refine A6 (A9 Z Z) Z (B0 ?_);refine k1 (k2 (k2 ?_));refine A7 (A6 (A8 Z Z) Z (A6 (vM Z (by kernel_rfl)) Z (B0 ?_)));refine k1 ?_;refine B8 rfl (fun a=>?_) (fun a=>?_)
 ·refine k2 ?_;refine G8 (Sees.forget 732) ?_;refine A7 (A6 (A9 Z Z) Z (B0 ?_));refine k1 (G5 (I2 ?_));exact G1 (O9 rfl rfl) (by repeat (first | exact C5 | refine C3 rfl ?_ | refine D3 _ ?_)) (ObIn.spec (ob':=[(2,lS)]) ⟨rfl,trivial⟩) ⟨rfl,rfl⟩
 ·cases a
abbrev gfP(F:Nat)(l:Str)(R:List Str)(k:Nat):Fr:=[(1000060,P4 false),(1000061,.s (.one (.clo F [] []))),(1000062,.s (.one (.ref 730 0))),(1000063,P3 l),(1000004,.s (.one (.ref 730 0))),(1000002,.s (.one (.ref 2 0))),(1000046,D7 Str 1 J9 R),(1000047,C7 R.length),(1000048,C7 k)]
theorem DY(F:Nat)(R:List Str)(k:Nat)(o n:Str)(hs:List PatchHunk)(a b:Int)(h:List PatchLine)(c:UInt8)(r:Str)(m:0<hs.length)(w:hs.length<=16777216)(q:h.length<=16777216)(x:r.length<=16777216) :
  AL.Met Tryz.prog 172 [.one (.ref 730 0),.one (.p (.v (.string ⟨(c::r).toArray⟩)))] (gfP F (c::r) R k) (W5 o n hs a b h) [732]
   (fun rs ob'=>rs=[LN true]/\ob'=W5 o n hs a b (h++[⟨c,r++[10]⟩])):=by
 refine AL.Met.intro Tryz.func172 (by decide) Z Z Z ?_;refine k2 ?_;refine A7 (A6 (A9 Z Z) Z (B0 ?_));refine k1 (k2 ?_);refine A7 (A6 (A8 Z Z) Z (R4 (rJ o n hs a b h m (by omega)) Z Z Z ?_));rintro _ _ ⟨rfl,rfl⟩;refine A6 (A9 Z Z) Z (B0 ?_);refine k1 (k2 (k2 ?_));refine A7 (A6 (A8 Z Z) Z (A6 (jV Z (by kernel_rfl)) Z (B0 ?_)));refine k1 ?_;refine B8 rfl (fun l=>?_) (fun l=>?_)
 ·cases l
 refine k5 (k1 (k2 ?_));refine aA [15,12] [[],[12],[15,12]] [(12,([732],[14])),(15,([],[]))] [(0,[]),(1,[]),(2,[]),(3,[]),(4,[]),(5,[]),(6,[]),(7,[]),(8,[]),(9,[]),(10,[]),(11,[]),(12,[]),(13,[12]),(14,[12]),(15,[12])] [(0,[12])] (by kernel_rfl) (by kernel_rfl) (K5 Z Z (by kernel_rfl) Z Z (A8 Z Z) (K5 Z Z (by kernel_rfl) Z Z (A8 Z Z) (K5 Z Z (by kernel_rfl) Z Z (Q8 Z) (K5 Z Z (by kernel_rfl) Z Z (K9 Z) (K5 Z Z (by kernel_rfl) Z Z (fY Z Z (by first | rfl | omega) Z) ?_)))));refine K5 Z Z (by kernel_rfl) Z Z (A8 Z Z) (K5 Z Z (by kernel_rfl) Z Z (K0 Z Z (by omega) (show (c::r)[(0:Int).toNat]?=some c from Z)) (K5 Z Z (by kernel_rfl) Z Z (A8 Z Z) (K5 Z Z (by kernel_rfl) Z Z (cI Z Z (by (first | omega | (simp only[A34];omega))) (by (first | omega | (simp only[A34];omega)))) (K5 Z Z (by kernel_rfl) Z Z (K8 Z Z (by (simp;omega))) (K5 Z Z (by kernel_rfl) Z Z (F8 Z) (K5 Z Z (by kernel_rfl) Z Z (E0 (c:=plineC) (ys:=[⟨c,r++[10]⟩]) (D9 Z Z Z Z H2) Z Z Z) (mB Z Z (by kernel_rfl) Z Z (KU (fun j d=>cY (qT d Z) Z (qT d Z) (.pure _ _ _ _) (by (simp;omega)) Z)) Z (K5 Z Z (by kernel_rfl) Z Z (Q8 Z) (K5 Z Z (by kernel_rfl) Z Z (K9 Z) (mB Z Z (by kernel_rfl) Z Z (TX (fun j d=>KW TySz.out (qT d Z) Z (by first | rfl | omega) (qT d Z) Z Z Z)) Z ?_))))))))));refine FX (by kernel_rfl) rfl ?_ ?_
 ·refine T6 Z Z (by kernel_rfl) Z Z (A8 Z Z) ?_;exact FY
 refine k1 (k2 ?_);refine A7 (A6 (A9 Z Z) Z (B0 ?_));refine k1 (G5 ?_);exact G1 (O9 rfl rfl) (by repeat (first | exact C5 | refine C3 rfl ?_ | refine D3 _ ?_)) (ObIn.spec (ob':=W5 o n hs a b (h++[⟨c,r++[10]⟩])) ⟨rfl,rfl,rfl,rfl,trivial⟩) ⟨rfl,rfl⟩
theorem DZ{gf:Fr}(o n l:Str):AL.Met Tryz.prog 173 [.one (.ref 730 0),.one (.p (.v (.string ⟨l.toArray⟩)))] gf (i8 o n []) [] (fun rs ob'=>rs=[LN false]/\ob'=[(2,lS)]):=by
 refine AL.Met.intro Tryz.func173 (by decide) Z Z Z ?_;refine k2 ?_;refine A7 (A6 (A9 Z Z) Z (B0 ?_));refine k1 (k2 ?_);refine A7 (A6 (A8 Z Z) Z (R4 (BI o n) Z Z Z ?_));rintro _ _ ⟨rfl,rfl⟩;refine A6 (A9 Z Z) Z (B0 ?_);refine k1 (k2 (k2 ?_));refine A7 (A6 (A8 Z Z) Z (A6 (vM Z (by kernel_rfl)) Z (A6 (A8 Z Z) Z (I8 Z Z Z (by simp) Z (I8 Z Z Z (by simp) Z (I8 Z Z Z (by simp) Z (I8 Z Z Z (by simp) Z (I8 Z Z Z (by simp) Z (I8 Z Z Z (by simp) Z (A6 (bQ Z (rfl) Z) Z (A6 (A8 Z Z) Z (I8 Z Z Z (by simp) Z (I8 Z Z Z (by simp) Z (A6 (bQ Z (rfl) Z) Z (B0 ?_)))))))))))))));refine k1 ?_;refine B8 rfl (fun a=>?_) (fun a=>?_)
 ·refine k2 ?_;refine A7 (A6 (A9 Z Z) Z (B0 ?_));refine k1 (G5 (I2 ?_));exact G1 (O9 rfl rfl) (by repeat (first | exact C5 | refine C3 rfl ?_ | refine D3 _ ?_)) (ObIn.spec (ob':=[(2,lS)]) ⟨rfl,trivial⟩) ⟨rfl,rfl⟩
 ·cases a
theorem EA{gf:Fr}(o n:Str)(hs:List PatchHunk)(a b:Int)(c:List PatchLine)(l:Str)(C:0<hs.length)(K:hs.length<=16777216)(F:c.length<=16777216)(A:∀x∈c,x.Text.length<=1073741824) :
  AL.Met Tryz.prog 173 [.one (.ref 730 0),.one (.p (.v (.string ⟨l.toArray⟩)))] gf (W5 o n hs a b c) []
   (fun rs ob'=>match c.getLast? with
    | none=>rs=[LN false]/\ob'=[(2,lS)]
    | some x=>if l=ET then rs=[LN true]/\ob'=W5 o n hs a b (c.dropLast++[⟨x.Kind,gI x.Text⟩]) else rs=[LN false]/\ob'=[(2,lS)]):=by
 cases z:c.getLast? with
 | none =>
  have G:c=[]:=List.getLast?_eq_none_iff.1 z;subst G;refine AL.Met.intro Tryz.func173 (by decide) Z Z Z ?_;refine k2 ?_;refine A7 (A6 (A9 Z Z) Z (B0 ?_));refine k1 (k2 ?_);refine A7 (A6 (A8 Z Z) Z (R4 (rJ o n hs a b [] C (by omega)) Z Z Z ?_));rintro _ _ ⟨rfl,rfl⟩;refine A6 (A9 Z Z) Z (B0 ?_);refine k1 (k2 (k2 ?_));refine A7 (A6 (A8 Z Z) Z (A6 (jV Z (by kernel_rfl)) Z (A6 (A8 Z Z) Z (F7 Z Z Z Z (A6 (A8 Z Z) Z (F7 Z Z Z Z (A6 (Q8 Z) Z (F7 Z Z Z Z (A6 (K9 Z) Z (F7 Z Z Z Z (A6 (fY Z Z (by first | rfl | omega) Z) Z ?_)))))))))));refine F7 Z Z Z Z (A6 (r7 Z Z) Z (F7 Z Z Z Z (A6 (I3 Z Z) Z (A6 (V2 Z (rfl) Z) Z (A6 (A8 Z Z) Z (I8 Z Z Z (by simp) Z (I8 Z Z Z (by simp) Z (A6 (bQ Z ((by simp)) Z) Z (B0 ?_)))))))));refine k1 ?_;refine B8 rfl (fun m=>?_) (fun m=>?_)
  ·refine k2 ?_;refine A7 (A6 (A9 Z Z) Z (B0 ?_));refine k1 (G5 (I2 ?_));exact G1 (O9 rfl rfl) (by repeat (first | exact C5 | refine C3 rfl ?_ | refine D3 _ ?_)) (ObIn.spec (ob':=[(2,lS)]) ⟨rfl,trivial⟩) ⟨rfl,rfl⟩
  ·cases m
 | some x =>
  have q:c≠[]:=fun e=>by rw[e]at z;cases z
  have D:=List.length_pos_iff.2 q;have B:c[((c.length:Int)-1).toNat]?=some x:=by rw[show ((c.length:Int)-1).toNat=c.length-1 by omega,<-List.getLast?_eq_getElem?];exact z
  have u:∀y:PatchLine,c.set (((c.length:Int)-1).toNat) y=c.dropLast++[y]:=by
   intro y;rw[show ((c.length:Int)-1).toNat=c.length-1 by omega];have E:=List.dropLast_concat_getLast q
   conv=>lhs;rw[<-E]
   rw[List.set_append_right _ _ (by rw[List.length_dropLast,A35,List.length_dropLast];simp)];simp
  have H:=A x (A53 B);have w:=fB x.Text [10] (by omega);rw[mN,show iD x.Text=gI x.Text from rfl]at w;have d:decide ((c.length:Int)=0)=false:=A3 (by omega);refine AL.Met.intro Tryz.func173 (by decide) Z Z Z ?_;refine k2 ?_;refine A7 (A6 (A9 Z Z) Z (B0 ?_));refine k1 (k2 ?_);refine A7 (A6 (A8 Z Z) Z (R4 (rJ o n hs a b c C (by omega)) Z Z Z ?_));rintro _ _ ⟨rfl,rfl⟩;refine A6 (A9 Z Z) Z (B0 ?_);refine k1 (k2 (k2 ?_));refine A7 (A6 (A8 Z Z) Z (A6 (jV Z (by kernel_rfl)) Z (A6 (A8 Z Z) Z (F7 Z Z Z Z (A6 (A8 Z Z) Z (F7 Z Z Z Z (A6 (Q8 Z) Z (F7 Z Z Z Z (A6 (K9 Z) Z (F7 Z Z Z Z (A6 (fY Z Z (by first | rfl | omega) Z) Z ?_)))))))))));refine F7 Z Z Z Z (A6 (r7 Z Z) Z (F7 Z Z Z Z (A6 (I3 Z Z) Z (A6 (V2 Z (rfl) Z) Z (A6 (A8 Z Z) Z (F7 Z Z Z d (A6 (A8 Z Z) Z (F7 Z Z Z d (A6 (bF Z Z) Z (A6 (V2 Z (d) Z) Z (B0 ?_)))))))))));refine k1 ?_;refine B8 rfl (fun m=>?_) (fun m=>?_)
  ·have k:l≠ET:=A0 m;refine k2 ?_;refine A7 (A6 (A9 Z Z) Z (B0 ?_));refine k1 (G5 (I2 ?_));refine G1 (O9 rfl rfl) (by repeat (first | exact C5 | refine C3 rfl ?_ | refine D3 _ ?_)) (ObIn.spec (ob':=[(2,lS)]) ⟨rfl,trivial⟩) ?_;dsimp only;rw[A5 k];exact⟨rfl,rfl⟩
  ·have k:l=ET:=Decidable.not_not.1 (A1 m);refine k5 (k1 (k2 ?_));refine D8 (by kernel_rfl) (by kernel_rfl) (B3 (A8 Z Z) Z Z (B3 (Q8 Z) Z Z (B3 (K9 Z) Z Z (B3 (fY Z Z (by first | rfl | omega) Z) Z Z ?_))));refine B3 (A8 Z Z) Z Z (B3 (Q8 Z) Z Z (B3 (K9 Z) Z Z (B3 (fY Z Z (by first | rfl | omega) Z) Z Z ?_)));refine B3 (r7 Z Z) Z Z (B3 (K3 Z Z (by omega)) Z Z (B3 (J4 Z Z Z (by omega) (by omega)) Z Z (B3 (A9 Z Z) Z Z (J8 ?_))));refine k1 (k2 ?_);refine A7 (A6 (A8 Z Z) Z (A6 (A8 Z Z) Z (A6 (Q8 Z) Z (A6 (K9 Z) Z (A6 (o7 Z Z B Z) Z (C4 (w) Z Z Z ?_))))));rintro _ rfl;refine A6 (Q8 Z) Z (A6 (K9 Z) Z (F4 (cU (⟨x.Kind,gI x.Text⟩) TySz.out Z Z B Z Z Z Z (fun _ _ _ h=>bP h) (by intro j I J;rcases j with _ | _ | _ | _ | _ | _ | _ | j<;>first | rfl | omega)) ?_));refine B0 ?_;rw[u];refine k1 (k2 ?_);refine A7 (A6 (A9 Z Z) Z (B0 ?_));refine k1 (G5 ?_);refine G1 (O9 rfl rfl) (by repeat (first | exact C5 | refine C3 rfl ?_ | refine D3 _ ?_)) (ObIn.spec (ob':=W5 o n hs a b (c.dropLast++[⟨x.Kind,gI x.Text⟩])) ⟨rfl,rfl,rfl,rfl,trivial⟩) ?_;dsimp only;rw[A4 k];exact⟨rfl,rfl⟩
theorem tZ(a b:List PatchHunk):x6 (a++b)=x6 a+x6 b:=by simp[x6]
theorem XU(a b:List PatchLine):((a++b).map qH).sum=(a.map qH).sum+(b.map qH).sum:=by simp
theorem iB{α:Type}{l:List α}{x:α}(h:l.getLast?=some x):l=l.dropLast++[x]:=by
 obtain⟨b,a⟩:=List.getLast?_eq_some_iff.1 h;rw[a,List.dropLast_concat]
theorem RH(t:Str):(gI t).length<=t.length:=by
 unfold gI;split
 ·rw[List.length_dropLast];omega
 ·omega
theorem HZ{hs:List PatchHunk}{h:PatchHunk}(a:hs.getLast?=some h):x6 hs=x6 hs.dropLast+zT h:=by
 conv=>lhs;rw[iB a,tZ]
 simp[x6]
theorem uA{hs hs':List PatchHunk}{l:Str}(h:gJ hs l=some hs'):x6 hs'<=x6 hs+l.length+65:=by
 cases l with
 | nil=>cases h
 | cons c r =>
  simp only[gJ]at h;split at h
  ·cases f:bD (c::r) with
   | none=>rw[f]at h;cases h
   | some q =>
    obtain⟨a,m,b,n⟩:=q;rw[f]at h;have h:hs++[⟨a,b,[]⟩]=hs':=Option.some.inj h;rw[<-h,tZ];simp[x6,zT];omega
  ·split at h
   ·unfold pV at h;cases d:hs.getLast? with
    | none=>rw[d]at h;cases h
    | some g =>
     rw[d]at h;have h:hs.dropLast++[⟨g.Old,g.New,g.Lines++[⟨c,r++[10]⟩]⟩]=hs':=Option.some.inj h;rw[<-h,tZ,HZ d];simp[x6,zT,qH];omega
   ·split at h
    ·unfold lG at h;cases d:hs.getLast? with
     | none=>rw[d]at h;cases h
     | some g =>
      rw[d]at h;dsimp only at h;cases e:g.Lines.getLast? with
      | none=>rw[e]at h;cases h
      | some x =>
       rw[e]at h;dsimp only at h;split at h
       ·have h:hs.dropLast++[⟨g.Old,g.New,g.Lines.dropLast++[⟨x.Kind,gI x.Text⟩]⟩]=hs':=Option.some.inj h;have j:=RH x.Text;have i:zT g=64+((g.Lines.dropLast.map qH).sum+qH x):=by
         unfold zT
         conv=>lhs;rw[iB e,XU]
         simp
        rw[<-h,tZ,HZ d,i];simp[x6,zT,qH];omega
       ·cases h
    ·cases h
def BJ(R:List Str)(k:Nat):Nat:=((R.take k).map fun s=>s.length+65).sum
theorem MI(R:List Str)(k:Nat)(x:Str)(h:R[k]?=some x):BJ R (k+1)=BJ R k+(x.length+65):=by
 obtain⟨a,rfl⟩:=List.getElem?_eq_some_iff.1 h;unfold BJ;rw[A55 a,A63,A86];simp
theorem VL(R:List Str)(k:Nat):BJ R k<=(R.map fun s=>s.length+65).sum:=by
 unfold BJ
 conv=>rhs;rw[<-A68 k R,A63,A86]
 omega
def zP(o n:Str)(hs:List PatchHunk):Obs:=match hs.getLast? with
 | some h=>(match h.Lines with
  | []=>i8 o n hs
  | _::_=>W5 o n hs h.Old h.New h.Lines)
 | none=>i8 o n hs
variable {P:Program}{nt:Nat}{fr:Fr}{o n:Str}{hs:List PatchHunk}
theorem shutP{h:PatchHunk}(j:H9 732 fr=true)(l:hs.getLast?=some h)(e:h.Lines≠[]):Sees P nt fr (W5 o n hs h.Old h.New h.Lines) fr (i8 o n hs):=by
 have f:=Sees.freezeG (P:=P) (nt:=nt) (fr:=fr) (ob:=W5 o n hs h.Old h.New h.Lines) (k:=732) rfl rfl;rw[PN j]at f;refine f.trans ?_;have d:hs.set (hs.length-1) h=hs:=by
  have g:=iB l;have c:hs.length-1=hs.dropLast.length:=by rw[List.length_dropLast]
  conv=>lhs;rw[c];arg 1;rw[g]
  rw[List.set_append_right _ _ (Nat.le_refl _),A80,List.set_cons_zero,<-g]
 have i:=A24 (P:=P) (nt:=nt) (fr:=fr) (ob:=A02 (Ob.freeze 732 PatchLine 2 plineC h.Lines) (Obs.drop 732 (W5 o n hs h.Old h.New h.Lines))) 731 h rfl (by
  obtain⟨a,b,m⟩:=h;cases m with
  | nil=>exact absurd rfl e
  | cons x r=>rfl)
 rw[d]at i;refine i.trans (A07 (ObIn.spec ⟨rfl,rfl,rfl,trivial⟩))
theorem openP{h:PatchHunk}(g:H9 732 fr=true)(j:hs.getLast?=some h)(f:h.Lines=[]):Sees P nt fr (i8 o n hs) fr (W5 o n hs h.Old h.New []):=by
 have k:hs[hs.length-1]?=some h:=by rw[<-List.getLast?_eq_getElem?];exact j
 refine (A28 731 (hs.length-1) (v:=h) Z k).trans ?_;have d:(cellsOf rI h 0 3).map TC.p=[.p (.v (.int .i64 h.Old)),.p (.v (.int .i64 h.New)),.p (.v (.slice none 0 0))]:=by
  obtain⟨a,b,q⟩:=h;have f:q=[]:=f;subst f;rfl
 rw[d];refine (A26 732 PatchLine 2 plineC 188 (kb:=731) (o:=2) Z Z (by rw[g];rfl)).trans ?_;exact A07 (ObIn.spec ⟨rfl,rfl,rfl,rfl,trivial⟩)
theorem rK(b:H9 732 fr=true):Sees P nt fr (zP o n hs) fr (i8 o n hs):=by
 unfold zP;cases c:hs.getLast? with
 | none=>exact A07 fun _ _ h=>h
 | some h =>
  dsimp only;cases a:h.Lines with
  | nil=>exact A07 fun _ _ h=>h
  | cons x r =>
   dsimp only;rw[<-a];exact shutP b c (by rw[a];simp)
theorem VM{h:PatchHunk}(b:H9 732 fr=true)(a:hs.getLast?=some h):Sees P nt fr (zP o n hs) fr (W5 o n hs h.Old h.New h.Lines):=by
 unfold zP;rw[a];dsimp only;cases c:h.Lines with
 | nil=>dsimp only;exact openP b a c
 | cons x r=>exact A07 fun _ _ h=>h
theorem ZM{a b:Int}:zP o n (hs++[⟨a,b,[]⟩])=i8 o n (hs++[⟨a,b,[]⟩]):=by unfold zP;simp
theorem VN{h:PatchHunk}{a:List PatchLine}(m:hs.getLast?=some h)(c:a≠[]):Sees P nt fr (W5 o n hs h.Old h.New a) fr (zP o n (hs.dropLast++[⟨h.Old,h.New,a⟩])):=by
 have d:=iB m;have b:(hs.dropLast++[(⟨h.Old,h.New,a⟩:PatchHunk)]).length=hs.length:=by
  conv=>rhs;rw[d]
  simp
 have k:zP o n (hs.dropLast++[⟨h.Old,h.New,a⟩])=W5 o n (hs.dropLast++[⟨h.Old,h.New,a⟩]) h.Old h.New a:=by
  unfold zP;cases a with
  | nil=>exact absurd rfl c
  | cons x r=>simp
 rw[k]
 have f:=Sees.reA (P:=P) (nt:=nt) (fr:=fr) (ob:=W5 o n hs h.Old h.New a) 731 (hs.dropLast++[⟨h.Old,h.New,a⟩]) rfl b (by
  intro i q;have p:hs.dropLast.length=hs.length-1:=by rw[List.length_dropLast]
  rcases Nat.lt_or_ge i (hs.length-1) with j | j
  ·rw[A50 (by omega)]
   conv=>rhs;rw[d]
   rw[A50 (by omega)]
  ·rw[A52 (by omega),A52 (by omega)])
 rw[show (hs.length-1)=(hs.dropLast++[(⟨h.Old,h.New,a⟩:PatchHunk)]).length-1 by rw[b]]at f;exact f.trans (A07 (ObIn.spec ⟨rfl,rfl,rfl,rfl,trivial⟩))
def aE(f:List Str->Option Patch)(l:List Str):List PV:=match f l with
 | some p=>[pPatch p,F3 true]
 | none=>[pPatch R8,F3 false]
theorem RI:eI 64=.func (.func 171) #[] #[]:=rfl
theorem MJ{c:UInt8}(h:c=32\/c=45\/c=43):eI c=.func (.func 172) #[] #[]:=by rcases h with rfl | rfl | rfl<;>rfl
theorem RJ:eI 92=.func (.func 173) #[] #[]:=rfl
theorem RK{c:UInt8}(f:c≠64)(a:¬(c=32\/c=45\/c=43))(g:c≠92):eI c=.nilFunc:=by
 unfold eI meths;have e:∀d:UInt8,d≠c->decide (d=c)=false:=fun d h=>A3 h;have b:(32:UInt8)≠c:=fun e=>a (.inl e.symm);have a2:(45:UInt8)≠c:=fun e=>a (.inr (.inl e.symm));have a3:(43:UInt8)≠c:=fun e=>a (.inr (.inr e.symm));simp only[List.find?_cons,e _ (Ne.symm f),e _ b,e _ a2,e _ a3,e _ (Ne.symm g),List.find?_nil]
theorem MK{x:PatchHunk}(j:Nat)(d:Rd)(u:Value)(h:(rI x j).rep d u):(phunkC x j).rep d u:=by
 match j with
 | 0=>exact h
 | 1=>exact h
 | j+2 =>
  obtain⟨a,b,f⟩:=x;cases f with
  | nil =>
   have h:(Cell.v (.slice none 0 0)).rep d u:=h;obtain⟨rfl,_⟩:=h;exact J5 _ _ _
  | cons y r=>exact h
set_option maxHeartbeats 2000000
theorem ML(l:List Str)(hw:(l.map fun s=>s.length+65).sum<=134217728)(P:∀s∈l,s.length<=4194304):FnOk Tryz.prog 40 [T0 l] (fun rs=>rs=aE Y4 l):=by
 have ac:65*l.length<=(l.map fun s=>s.length+65).sum:=by
  clear hw P;induction l with
  | nil=>simp
  | cons x r ih=>simp only[A49,A77,A34];omega
 by_cases Q:l.length<2
 ·have hp:Y4 l=none:=by
   match l,Q with
   | [],_=>rfl
   | [_],_=>rfl
  refine FnOk.intro Tryz.func40 (by decide) Z Z Z Z ?_;refine k2 ?_;refine A7 (D2 (G3 2 Z) Z (A6 (A9 Z Z) Z (B0 ?_)));refine k1 (k2 (k2 ?_));refine A7 (A6 (A8 Z Z) Z (A6 (F0 Z (.pure _ _ _ _)) Z (A6 (F2 Z Z) Z (B0 ?_))));refine k1 ?_;refine B8 rfl (fun d=>?_) (fun d=>?_);rotate_left
  ·exact absurd (by omega) (A1 d)
  refine k2 ?_;refine A7 (A6 (F8 Z) Z (F4 (C2 TySz.out Z Z Z Z Z Z) (A6 (A9 Z Z) Z (B0 ?_))));refine k1 ?_;refine G8 (A03 PatchHunk 3 phunkC 2 2 Z Z) ?_;refine G5 (I2 ?_);exact C0 (rs:=[pPatch R8,F3 false]) (d8 rfl rfl rfl rfl rfl rfl rfl) (by unfold aE;rw[hp])
 obtain⟨F,H,R,rfl⟩:∃a b r,l=a::b::r:=by
  match l,Q with
  | a::b::r,_=>exact⟨a,b,r,rfl⟩
  | [],h=>exact absurd (by simp) h
  | [_],h=>exact absurd (by simp) h
 have z0:=P F (by simp);have z1:=P H (by simp);have am:(R.map fun s=>s.length+65).sum<=134217728:=by simp only[A49,A77]at hw;omega
 have al:R.length<=134217728:=by simp only[A34]at ac;omega
 clear hw ac;refine FnOk.intro Tryz.func40 (by decide) Z Z Z Z ?_;refine k2 ?_;refine A7 (D2 (G3 2 Z) Z (A6 (A9 Z Z) Z (B0 ?_)));refine k1 (k2 (k2 ?_));refine A7 (A6 (A8 Z Z) Z (A6 (F0 Z (.pure _ _ _ _)) Z (A6 (F2 Z Z) Z (B0 ?_))));refine k1 ?_;refine B8 rfl (fun d=>?_) (fun d=>?_)
 ·exact absurd (A0 d) (by simp only[A34];omega)
 refine k5 (k1 (k2 ?_));refine A7 (A6 (F8 Z) Z (D2 (Y7 730 Z Z Z) Z (A6 (A9 Z Z) Z (B0 ?_))));refine k1 (k2 ?_);refine A7 (A6 (A9 Z Z) Z (A6 (A9 Z Z) Z (B0 ?_)));refine k1 (k2 ?_);refine A7 (A6 (A8 Z Z) Z (A6 (A8 Z Z) Z (A6 (C1 Z (.pure _ _ _ _) Z (by omega) (show (F::H::R)[(0:Int).toNat]?=some F from Z)) Z (A6 (D1 Z Z) Z (C4 (BE F [45,45,45,32] (by omega)) Z Z Z ?_)))));rintro _ ⟨C,b0,rfl,I⟩;refine A6 (A8 Z Z) Z (A6 (B6 Z Z) Z (A6 (B6 Z Z) Z (A6 (B7 Z) Z (A6 (B1 Z) Z (A6 (B1 Z) Z (F4 (C2 TySz.out Z Z Z Z Z Z) (A6 (A9 Z Z) Z (B0 ?_))))))));refine k1 (k2 ?_);refine A7 (A6 (A8 Z Z) Z (A6 (A8 Z Z) Z (A6 (C1 Z (.pure _ _ _ _) Z (by omega) (show (F::H::R)[(1:Int).toNat]?=some H from Z)) Z (A6 (D1 Z Z) Z (C4 (BE H [43,43,43,32] (by omega)) Z Z Z ?_)))));rintro _ ⟨w1,b1,rfl,h1⟩;refine A6 (A8 Z Z) Z (A6 (B6 Z Z) Z (A6 (B6 Z Z) Z (A6 (B7 Z) Z (A6 (B1 Z) Z (A6 (B1 Z) Z (F4 (C2 TySz.out Z Z Z Z Z Z) (A6 (A9 Z Z) Z (B0 ?_))))))));refine k1 (k2 (k2 ?_));refine A7 (A6 (A8 Z Z) Z (A6 (G7 Z) Z (A6 (A8 Z Z) Z (B4 Z Z Z Z (fun hg=>by rw[hg];exact A8 Z Z) ?_))));refine B4 Z Z Z Z (fun hg=>by rw[hg];exact G7 Z) ?_;refine A6 (B9 Z (fun h=>by first | rfl | (rw[h];rfl)) (fun h=>by first | rfl | (rw[h];rfl))) Z ?_;refine B0 ?_;refine k1 ?_;have U:U2 F [45,45,45,32]=none\/U2 H [43,43,43,32]=none->Y4 (F::H::R)=none:=by
  intro h;unfold Y4;rcases h with h | h
  ·simp only[h]
  ·simp only[h];cases U2 F [45,45,45,32]<;>rfl
 by_cases O:U2 F [45,45,45,32]=none\/U2 H [43,43,43,32]=none
 ·refine B8 rfl (fun d=>?_) (fun d=>?_);rotate_left
  ·exfalso;rcases O with h | h
   ·rw[h]at I;have I:b0=false:=I;rw[I]at d;cases d
   ·rw[h]at h1;have h1:b1=false:=h1;rw[h1]at d;cases b0<;>cases d
  refine k2 ?_;refine A7 (A6 (F8 Z) Z (F4 (C2 TySz.out Z Z Z Z Z Z) (A6 (A9 Z Z) Z (B0 ?_))));refine k1 ?_;refine G8 (A03 PatchHunk 3 phunkC 2 2 Z Z) ?_;refine G5 (I2 ?_);exact C0 (rs:=[pPatch R8,F3 false]) (d8 rfl rfl rfl rfl rfl rfl rfl) (by unfold aE;rw[U O])
 obtain⟨o,ho⟩:∃o,U2 F [45,45,45,32]=some o:=by
  cases h:U2 F [45,45,45,32] with
  | none=>exact absurd (.inl h) O
  | some o=>exact⟨o,rfl⟩
 obtain⟨n,hn⟩:∃n,U2 H [43,43,43,32]=some n:=by
  cases h:U2 H [43,43,43,32] with
  | none=>exact absurd (.inr h) O
  | some n=>exact⟨n,rfl⟩
 rw[ho]at I;rw[hn]at h1;obtain⟨rfl,rfl⟩:=I;obtain⟨rfl,rfl⟩:=h1;have ae:∀hs,S4 [] R=some hs->[pPatch ⟨C,w1,hs⟩,F3 true]=aE Y4 (F::H::R):=by
  intro hs h;have:Y4 (F::H::R)=some ⟨C,w1,hs⟩:=by unfold Y4;simp only[ho,hn,h]
  unfold aE;rw[this]
 have B:S4 [] R=none->[pPatch R8,F3 false]=aE Y4 (F::H::R):=by
  intro h;have:Y4 (F::H::R)=none:=by unfold Y4;simp only[ho,hn,h]
  unfold aE;rw[this]
 refine B8 rfl (fun d=>?_) (fun d=>?_)
 ·cases d
 refine k5 (k1 (k2 (k2 ?_)));refine A7 (A6 (A8 Z Z) Z (A6 (u9 Z (.pure _ _ _ _) Z (by (first | omega | (simp only[A34];omega))) (by (first | omega | (simp only[A34];omega)))) Z (A6 (F0 Z (.pure _ _ _ _)) Z (A6 (A8 Z Z) Z (B0 ?_)))));refine k1 (k3 ?_);refine G8 (A20 731 PatchHunk 3 rI 99 (kb:=730) (o:=2) Z Z Z) ?_;refine E3 (X:=Nat×List PatchHunk) (fun x=>([(4,.s (.one (.ref 730 0))),(2,.s (.one (.ref 2 0))),(46,D7 Str 1 J9 R),(47,C7 R.length),(48,C7 x.1)],zP C w1 x.2)) (fun x=>x.1<=R.length/\x6 x.2<=BJ R x.1/\S4 x.2 (R.drop x.1)=S4 [] R) (fun x=>R.length-x.1) (0,[]) ⟨Nat.zero_le _,by simp[x6],rfl⟩ (Sees.of ⟨B5 rfl,B5 rfl,B5 rfl,B5 rfl,B5 rfl,trivial⟩ ⟨rfl,rfl,rfl,trivial⟩) ?_;rintro⟨k,hs⟩ ⟨hk,hz,w⟩;dsimp only at hk hz w ⊢;have ao:=VL R k;have ak:x6 hs<=134217728:=by omega
 have an:=pF hs;refine k2 ?_;refine A7 (A6 (F2 Z Z) Z (B0 ?_));refine k1 (k2 ?_);refine B8 rfl (fun d=>?_) (fun d=>?_)
 ·have J:k<R.length:=by have:=A0 d;omega
  obtain⟨x,hx⟩:∃x,x=R[k]:=⟨_,rfl⟩
  have hv:R[k]?=some x:=by rw[hx];simp[J]
  have aj:=P x (by simp[A53 hv]);have ai:=MI R k x hv;rw[A41 J,<-hx,S4]at w;refine k5 (k1 (k2 (k3 (k2 ?_))));refine A7 (A6 (C1 Z (.pure _ _ _ _) Z (by omega) hv) Z (A6 (D1 Z Z) Z (A6 (A9 Z Z) Z (B0 ?_))));refine k1 (k2 (k2 ?_));refine A7 (A6 (A8 Z Z) Z (A6 (c7 Z Z) Z (B0 ?_)));refine k1 ?_;refine B8 rfl (fun d=>?_) (fun d=>?_)
  ·have I:x=[]:=A0 d;subst I;have w:none=S4 [] R:=w;refine k2 ?_;refine G8 (rK Z) ?_;refine A7 (A6 (F8 Z) Z (F4 (C2 TySz.out Z Z Z Z Z Z) (A6 (A9 Z Z) Z (B0 ?_))));refine k1 ?_;refine G8 (A03 PatchHunk 3 phunkC 2 2 Z Z) ?_;refine G5 (I2 (R5 (I2 (I2 (R5 (I2 ?_))))));exact C0 (rs:=[pPatch R8,F3 false]) (d8 rfl rfl rfl rfl rfl rfl rfl) (B w.symm)
  have ah:x≠[]:=A1 d;obtain⟨c,r,rfl⟩:∃c r,x=c::r:=by
   cases x with
   | nil=>exact absurd rfl ah
   | cons c r=>exact⟨c,r,rfl⟩
  simp only[A34]at aj ai;refine k5 (k1 (k2 ?_));refine A7 (A6 (A8 Z Z) Z (A6 (K0 Z Z (by omega) (show (c::r)[(0:Int).toNat]?=some c from Z)) Z (C4 (RG c) Z Z Z ?_)));rintro _ rfl;refine A6 (A9 Z Z) Z (B0 ?_);refine k1 (k2 ?_);by_cases S:c=64
  ·subst S;rw[RI];have V:=fun gf=>MH (gf:=gf) C w1 hs (64::r) (by omega) (by simp only[A34];omega);have z:gJ hs (64::r)=match bD (64::r) with | none=>none | some (a,_,b,_)=>some (hs++[⟨a,b,[]⟩]):=rfl
   refine G8 (rK Z) ?_;cases G:bD (64::r) with
   | none =>
    rw[G]at V z;rw[z]at w;have w:none=S4 [] R:=w;refine A7 (A6 (A8 Z Z) Z (A6 (aX Z (by kernel_rfl)) Z (A6 (A8 Z Z) Z (F7 Z Z Z Z (A6 (A8 Z Z) Z (F7 Z Z Z Z (A6 (A8 Z Z) Z (F7 Z Z Z Z (A6 (A8 Z Z) Z (F7 Z Z Z Z (gL ((Sees.trans (s8 (t:=61) Z) (Sees.of (ob':=i8 C w1 hs) (fr':=[(60,P4 false),(61,.s (.one (.clo 171 [] []))),(62,.s (.one (.ref 730 0))),(63,P3 (64::r)),(4,.s (.one (.ref 730 0))),(2,.s (.one (.ref 2 0))),(46,D7 Str 1 J9 R),(47,C7 R.length),(48,C7 k)]) ⟨B5 rfl,B5 rfl,B5 rfl,B5 rfl,B5 rfl,B5 rfl,B5 rfl,B5 rfl,B5 rfl,trivial⟩ ⟨rfl,rfl,rfl,trivial⟩))) (aW (V _) Z Z Z Z ?_))))))))))));rintro _ _ ⟨rfl,rfl⟩;refine F7 Z Z Z Z (A6 (G7 Z) Z (A6 (V2 Z (rfl) Z) Z (B0 ?_)));refine k1 ?_;refine B8 rfl (fun d=>?_) (fun d=>?_)
    ·refine k2 ?_;refine A7 (A6 (F8 Z) Z (F4 (C2 TySz.out Z Z Z Z Z Z) (A6 (A9 Z Z) Z (B0 ?_))));refine k1 ?_;refine G8 (A03 PatchHunk 3 phunkC 2 2 Z Z) ?_;refine G5 (R5 (I2 (I2 (R5 (I2 ?_)))));exact C0 (rs:=[pPatch R8,F3 false]) (d8 rfl rfl rfl rfl rfl rfl rfl) (B w.symm)
    ·cases d
   | some q =>
    obtain⟨a,m,b,e⟩:=q;rw[G]at V z;rw[z]at w;have w:S4 (hs++[⟨a,b,[]⟩]) (R.drop (k+1))=S4 [] R:=w;have D:=uA (hs:=hs) (hs':=hs++[⟨a,b,[]⟩]) (l:=64::r) z;simp only[A34]at D;refine A7 (A6 (A8 Z Z) Z (A6 (aX Z (by kernel_rfl)) Z (A6 (A8 Z Z) Z (F7 Z Z Z Z (A6 (A8 Z Z) Z (F7 Z Z Z Z (A6 (A8 Z Z) Z (F7 Z Z Z Z (A6 (A8 Z Z) Z (F7 Z Z Z Z (gL ((Sees.trans (s8 (t:=61) Z) (Sees.of (ob':=i8 C w1 hs) (fr':=[(60,P4 false),(61,.s (.one (.clo 171 [] []))),(62,.s (.one (.ref 730 0))),(63,P3 (64::r)),(4,.s (.one (.ref 730 0))),(2,.s (.one (.ref 2 0))),(46,D7 Str 1 J9 R),(47,C7 R.length),(48,C7 k)]) ⟨B5 rfl,B5 rfl,B5 rfl,B5 rfl,B5 rfl,B5 rfl,B5 rfl,B5 rfl,B5 rfl,trivial⟩ ⟨rfl,rfl,rfl,trivial⟩))) (aW (V _) Z Z Z Z ?_))))))))))));rintro _ _ ⟨rfl,rfl⟩;refine F7 Z Z Z Z (A6 (G7 Z) Z (A6 (V2 Z (rfl) Z) Z (B0 ?_)));refine k1 ?_;refine B8 rfl (fun d=>?_) (fun d=>?_)
    ·cases d
    refine k5 (k4 (k1 ?_));refine A7 (A6 (C9 Z Z (by omega)) Z (A6 (A8 Z Z) Z (B0 ?_)));refine k1 ?_;refine⟨(k+1,hs++[⟨a,b,[]⟩]),⟨J,by dsimp only;omega,w⟩,by dsimp only;omega,?_⟩;dsimp only;rw[ZM];exact Sees.of ⟨B5 rfl,B5 rfl,B5 rfl,B5 rfl,B5 rfl,trivial⟩ ⟨rfl,rfl,rfl,trivial⟩
  have A:∀hs',gJ hs (c::r)=hs'↔(if c=32\/c=45\/c=43 then pV hs ⟨c,r++[10]⟩ else if c=92 then lG hs (c::r) else none)=hs':=by
   intro hs';simp only[gJ];rw[A5 S]
  by_cases M:c=32\/c=45\/c=43
  ·rw[MJ M];simp only[A4 M]at A;cases E:hs.getLast? with
   | none =>
    have Y:hs=[]:=List.getLast?_eq_none_iff.1 E;subst Y;have z:=(A none).2 rfl;rw[z]at w;have w:none=S4 [] R:=w;refine G8 (rK Z) ?_;refine A7 (A6 (A8 Z Z) Z (A6 (aX Z (by kernel_rfl)) Z (A6 (A8 Z Z) Z (F7 Z Z Z Z (A6 (A8 Z Z) Z (F7 Z Z Z Z (A6 (A8 Z Z) Z (F7 Z Z Z Z (A6 (A8 Z Z) Z (F7 Z Z Z Z (gL ((Sees.trans (s8 (t:=61) Z) (Sees.of (ob':=i8 C w1 []) (fr':=[(60,P4 false),(61,.s (.one (.clo 172 [] []))),(62,.s (.one (.ref 730 0))),(63,P3 (c::r)),(4,.s (.one (.ref 730 0))),(2,.s (.one (.ref 2 0))),(46,D7 Str 1 J9 R),(47,C7 R.length),(48,C7 k)]) ⟨B5 rfl,B5 rfl,B5 rfl,B5 rfl,B5 rfl,B5 rfl,B5 rfl,B5 rfl,B5 rfl,trivial⟩ ⟨rfl,rfl,rfl,trivial⟩))) (aW (DX C w1 (c::r)) Z Z Z Z ?_))))))))))));rintro _ _ ⟨rfl,rfl⟩;refine F7 Z Z Z Z (A6 (G7 Z) Z (A6 (V2 Z (rfl) Z) Z (B0 ?_)));refine k1 ?_;refine B8 rfl (fun d=>?_) (fun d=>?_)
    ·refine k2 ?_;refine A7 (A6 (F8 Z) Z (F4 (C2 TySz.out Z Z Z Z Z Z) (A6 (A9 Z Z) Z (B0 ?_))));refine k1 ?_;refine G8 (A03 PatchHunk 3 phunkC 2 2 Z Z) ?_;refine G5 (R5 (I2 (I2 (R5 (I2 ?_)))));exact C0 (rs:=[pPatch R8,F3 false]) (d8 rfl rfl rfl rfl rfl rfl rfl) (B w.symm)
    ·cases d
   | some h =>
    have z:=(A (some (hs.dropLast++[⟨h.Old,h.New,h.Lines++[⟨c,r++[10]⟩]⟩]))).2 (by unfold pV;rw[E]);rw[z]at w;have w:S4 (hs.dropLast++[⟨h.Old,h.New,h.Lines++[⟨c,r++[10]⟩]⟩]) (R.drop (k+1))=S4 [] R:=w;have D:=uA z;simp only[A34]at D;have K:=lB (List.mem_of_getLast? E);have ag:=cM h.Lines;unfold zT at K;have I:0<hs.length:=List.length_pos_iff.2 (by intro e;rw[e]at E;cases E);refine G8 (VM Z E) ?_;refine A7 (A6 (A8 Z Z) Z (A6 (aX Z (by kernel_rfl)) Z (A6 (A8 Z Z) Z (F7 Z Z Z Z (A6 (A8 Z Z) Z (F7 Z Z Z Z (A6 (A8 Z Z) Z (F7 Z Z Z Z (A6 (A8 Z Z) Z (F7 Z Z Z Z (gL ((Sees.trans (s8 (t:=61) Z) (Sees.of (ob':=W5 C w1 hs h.Old h.New h.Lines) (fr':=[(60,P4 false),(61,.s (.one (.clo 172 [] []))),(62,.s (.one (.ref 730 0))),(63,P3 (c::r)),(4,.s (.one (.ref 730 0))),(2,.s (.one (.ref 2 0))),(46,D7 Str 1 J9 R),(47,C7 R.length),(48,C7 k)]) ⟨B5 rfl,B5 rfl,B5 rfl,B5 rfl,B5 rfl,B5 rfl,B5 rfl,B5 rfl,B5 rfl,trivial⟩ ⟨rfl,rfl,rfl,rfl,trivial⟩))) (aW (DY 172 R k C w1 hs h.Old h.New h.Lines c r I (by omega) (by omega) (by omega)) Z Z Z Z ?_))))))))))));rintro _ _ ⟨rfl,rfl⟩;refine F7 Z Z Z Z (A6 (G7 Z) Z (A6 (V2 Z (rfl) Z) Z (B0 ?_)));refine k1 ?_;refine B8 rfl (fun d=>?_) (fun d=>?_)
    ·cases d
    refine k5 (k4 (k1 ?_));refine A7 (A6 (C9 Z Z (by omega)) Z (A6 (A8 Z Z) Z (B0 ?_)));refine k1 ?_;refine⟨(k+1,hs.dropLast++[⟨h.Old,h.New,h.Lines++[⟨c,r++[10]⟩]⟩]),⟨J,by dsimp only;omega,w⟩,by dsimp only;omega,?_⟩;refine Sees.trans ?_ (VN E (by simp));exact Sees.of ⟨B5 rfl,B5 rfl,B5 rfl,B5 rfl,B5 rfl,trivial⟩ ⟨rfl,rfl,rfl,rfl,trivial⟩
  simp only[A5 M]at A;by_cases T:c=92
  ·subst T;rw[RJ];simp only[if_true]at A;cases E:hs.getLast? with
   | none =>
    have Y:hs=[]:=List.getLast?_eq_none_iff.1 E;subst Y;have z:=(A none).2 rfl;rw[z]at w;have w:none=S4 [] R:=w;refine G8 (rK Z) ?_;refine A7 (A6 (A8 Z Z) Z (A6 (aX Z (by kernel_rfl)) Z (A6 (A8 Z Z) Z (F7 Z Z Z Z (A6 (A8 Z Z) Z (F7 Z Z Z Z (A6 (A8 Z Z) Z (F7 Z Z Z Z (A6 (A8 Z Z) Z (F7 Z Z Z Z (gL ((Sees.trans (s8 (t:=61) Z) (Sees.of (ob':=i8 C w1 []) (fr':=[(60,P4 false),(61,.s (.one (.clo 173 [] []))),(62,.s (.one (.ref 730 0))),(63,P3 (92::r)),(4,.s (.one (.ref 730 0))),(2,.s (.one (.ref 2 0))),(46,D7 Str 1 J9 R),(47,C7 R.length),(48,C7 k)]) ⟨B5 rfl,B5 rfl,B5 rfl,B5 rfl,B5 rfl,B5 rfl,B5 rfl,B5 rfl,B5 rfl,trivial⟩ ⟨rfl,rfl,rfl,trivial⟩))) (aW (DZ C w1 (92::r)) Z Z Z Z ?_))))))))))));rintro _ _ ⟨rfl,rfl⟩;refine F7 Z Z Z Z (A6 (G7 Z) Z (A6 (V2 Z (rfl) Z) Z (B0 ?_)));refine k1 ?_;refine B8 rfl (fun d=>?_) (fun d=>?_)
    ·refine k2 ?_;refine A7 (A6 (F8 Z) Z (F4 (C2 TySz.out Z Z Z Z Z Z) (A6 (A9 Z Z) Z (B0 ?_))));refine k1 ?_;refine G8 (A03 PatchHunk 3 phunkC 2 2 Z Z) ?_;refine G5 (R5 (I2 (I2 (R5 (I2 ?_)))));exact C0 (rs:=[pPatch R8,F3 false]) (d8 rfl rfl rfl rfl rfl rfl rfl) (B w.symm)
    ·cases d
   | some h =>
    have K:=lB (List.mem_of_getLast? E);have ag:=cM h.Lines;unfold zT at K;have I:0<hs.length:=List.length_pos_iff.2 (by intro e;rw[e]at E;cases E);have V:=fun gf=>EA (gf:=gf) C w1 hs h.Old h.New h.Lines (92::r) I (by omega) (by omega) (fun y L=>by have:=pE L;omega);refine G8 (VM Z E) ?_;by_cases ab:∃y,h.Lines.getLast?=some y/\(92::r)=ET
    ·obtain⟨y,L,ad⟩:=ab;have z:=(A (some (hs.dropLast++[⟨h.Old,h.New,h.Lines.dropLast++[⟨y.Kind,gI y.Text⟩]⟩]))).2 (by unfold lG;rw[E];dsimp only;rw[L];dsimp only;rw[A4 ad]);rw[z]at w;have w:S4 (hs.dropLast++[⟨h.Old,h.New,h.Lines.dropLast++[⟨y.Kind,gI y.Text⟩]⟩]) (R.drop (k+1))=S4 [] R:=w;have D:=uA z;simp only[A34]at D;have W:=fun gf=>(V gf).mono (post':=fun rs ob'=>rs=[LN true]/\ob'=W5 C w1 hs h.Old h.New (h.Lines.dropLast++[⟨y.Kind,gI y.Text⟩])) (fun rs ob' G=>by rw[L]at G;dsimp only at G;rw[A4 ad]at G;exact G);refine A7 (A6 (A8 Z Z) Z (A6 (aX Z (by kernel_rfl)) Z (A6 (A8 Z Z) Z (F7 Z Z Z Z (A6 (A8 Z Z) Z (F7 Z Z Z Z (A6 (A8 Z Z) Z (F7 Z Z Z Z (A6 (A8 Z Z) Z (F7 Z Z Z Z (gL ((Sees.trans (s8 (t:=61) Z) (Sees.of (ob':=W5 C w1 hs h.Old h.New h.Lines) (fr':=[(60,P4 false),(61,.s (.one (.clo 173 [] []))),(62,.s (.one (.ref 730 0))),(63,P3 (92::r)),(4,.s (.one (.ref 730 0))),(2,.s (.one (.ref 2 0))),(46,D7 Str 1 J9 R),(47,C7 R.length),(48,C7 k)]) ⟨B5 rfl,B5 rfl,B5 rfl,B5 rfl,B5 rfl,B5 rfl,B5 rfl,B5 rfl,B5 rfl,trivial⟩ ⟨rfl,rfl,rfl,rfl,trivial⟩))) (aW (W _) Z Z Z Z ?_))))))))))));rintro _ _ ⟨rfl,rfl⟩;refine F7 Z Z Z Z (A6 (G7 Z) Z (A6 (V2 Z (rfl) Z) Z (B0 ?_)));refine k1 ?_;refine B8 rfl (fun d=>?_) (fun d=>?_)
     ·cases d
     refine k5 (k4 (k1 ?_));refine A7 (A6 (C9 Z Z (by omega)) Z (A6 (A8 Z Z) Z (B0 ?_)));refine k1 ?_;refine⟨(k+1,hs.dropLast++[⟨h.Old,h.New,h.Lines.dropLast++[⟨y.Kind,gI y.Text⟩]⟩]),⟨J,by dsimp only;omega,w⟩,by dsimp only;omega,?_⟩;refine Sees.trans ?_ (VN E (by simp));exact Sees.of ⟨B5 rfl,B5 rfl,B5 rfl,B5 rfl,B5 rfl,trivial⟩ ⟨rfl,rfl,rfl,rfl,trivial⟩
    ·have z:=(A none).2 (by
      unfold lG;rw[E];dsimp only;cases L:h.Lines.getLast? with
      | none=>rfl
      | some y=>dsimp only;rw[A5 (fun e=>ab ⟨y,L,e⟩)])
     rw[z]at w;have w:none=S4 [] R:=w
     have W:=fun gf=>(V gf).mono (post':=fun rs ob'=>rs=[LN false]/\ob'=[(2,lS)]) (fun rs ob' G=>by
      cases L:h.Lines.getLast? with
      | none=>rw[L]at G;exact G
      | some y=>rw[L]at G;dsimp only at G;rw[A5 (fun e=>ab ⟨y,L,e⟩)]at G;exact G)
     refine A7 (A6 (A8 Z Z) Z (A6 (aX Z (by kernel_rfl)) Z (A6 (A8 Z Z) Z (F7 Z Z Z Z (A6 (A8 Z Z) Z (F7 Z Z Z Z (A6 (A8 Z Z) Z (F7 Z Z Z Z (A6 (A8 Z Z) Z (F7 Z Z Z Z (gL ((Sees.trans (s8 (t:=61) Z) (Sees.of (ob':=W5 C w1 hs h.Old h.New h.Lines) (fr':=[(60,P4 false),(61,.s (.one (.clo 173 [] []))),(62,.s (.one (.ref 730 0))),(63,P3 (92::r)),(4,.s (.one (.ref 730 0))),(2,.s (.one (.ref 2 0))),(46,D7 Str 1 J9 R),(47,C7 R.length),(48,C7 k)]) ⟨B5 rfl,B5 rfl,B5 rfl,B5 rfl,B5 rfl,B5 rfl,B5 rfl,B5 rfl,B5 rfl,trivial⟩ ⟨rfl,rfl,rfl,rfl,trivial⟩))) (aW (W _) Z Z Z Z ?_))))))))))));rintro _ _ ⟨rfl,rfl⟩;refine F7 Z Z Z Z (A6 (G7 Z) Z (A6 (V2 Z (rfl) Z) Z (B0 ?_)));refine k1 ?_;refine B8 rfl (fun d=>?_) (fun d=>?_)
     ·refine k2 ?_;refine A7 (A6 (F8 Z) Z (F4 (C2 TySz.out Z Z Z Z Z Z) (A6 (A9 Z Z) Z (B0 ?_))));refine k1 ?_;refine G8 (A03 PatchHunk 3 phunkC 2 2 Z Z) ?_;refine G5 (R5 (I2 (I2 (R5 (I2 ?_)))));exact C0 (rs:=[pPatch R8,F3 false]) (d8 rfl rfl rfl rfl rfl rfl rfl) (B w.symm)
     ·cases d
  rw[RK S M T];have z:=(A none).2 (by rw[A5 T]);rw[z]at w;have w:none=S4 [] R:=w;refine G8 (rK Z) ?_;refine A7 (A6 (A8 Z Z) Z (A6 (PT Z (by kernel_rfl)) Z (A6 (A8 Z Z) Z (I8 Z Z Z (by simp) Z (I8 Z Z Z (by simp) Z (I8 Z Z Z (by simp) Z (I8 Z Z Z (by simp) Z (I8 Z Z Z (by simp) Z (A6 (bQ Z (rfl) Z) Z (B0 ?_))))))))));refine k1 ?_;refine B8 rfl (fun d=>?_) (fun d=>?_)
  ·refine k2 ?_;refine A7 (A6 (F8 Z) Z (F4 (C2 TySz.out Z Z Z Z Z Z) (A6 (A9 Z Z) Z (B0 ?_))));refine k1 ?_;refine G8 (A03 PatchHunk 3 phunkC 2 2 Z Z) ?_;refine G5 (R5 (I2 (I2 (R5 (I2 ?_)))));exact C0 (rs:=[pPatch R8,F3 false]) (d8 rfl rfl rfl rfl rfl rfl rfl) (B w.symm)
  ·cases d
 ·have af:k=R.length:=by have:=A1 d;omega
  subst af;rw[A48 (Nat.le_refl _)]at w;have w:some hs=S4 [] R:=w;refine k6 (k2 ?_);refine G8 (rK Z) ?_;refine G8 (A25 731 phunkC Z (fun x _ j _ rd u=>MK j rd u)) ?_;refine G8 (Sees.freezeG (k:=731) Z Z) ?_;refine V1 [(4,.s (.one (.ref 730 0))),(2,.s (.one (.ref 2 0)))] [(730,.box [.p (.v (.string ⟨C.toArray⟩)),.p (.v (.string ⟨w1.toArray⟩)),.p (.list PatchHunk 3 phunkC hs)]),(2,lS)] (Sees.of ⟨B5 rfl,B5 rfl,trivial⟩ ⟨rfl,rfl,trivial⟩) ?_;refine A7 (A6 (A8 Z Z) Z (A6 (B7 Z) Z (A6 (B1 Z) Z (A6 (E7 Z Z Z) Z (F4 (C2 TySz.out Z Z Z Z Z Z) (A6 (A9 Z Z) Z (B0 ?_)))))));refine k1 (G5 ?_);exact C0 (rs:=[pPatch ⟨C,w1,hs⟩,F3 true]) (d8 rfl rfl rfl rfl rfl rfl rfl) (ae hs w.symm)
theorem RL{s:Str}{l:List Str}(h:dP s=some l):(l.map fun t=>t.length+65).sum<=66*s.length/\∀t∈l,t.length<=s.length:=by
 unfold dP at h;split at h
 ·cases h;simp
 ·split at h
  ·have h:(E9 s).map List.dropLast=l:=Option.some.inj h;obtain⟨k,o⟩:=Y3 s;have q:=aF s;have b:∀L:List Str,((L.map List.dropLast).map fun t=>t.length+65).sum<=L.flatten.length+65*L.length:=by
    intro L;induction L with
    | nil=>simp
    | cons x r j =>
     simp only[A49,A77,A62,A35,A34,List.length_dropLast]at j ⊢;omega
   have hs:=b (E9 s);rw[h]at hs;have d:(l.map fun (t:Str)=>t.length+65).sum<=(E9 s).flatten.length+65*(E9 s).length:=hs;refine⟨by omega,fun t c=>?_⟩;rw[<-h]at c;obtain⟨x,i,rfl⟩:=A65.1 c;have:=(List.sublist_flatten_of_mem i).length_le;rw[List.length_dropLast];omega
  ·cases h
theorem XV{R:List Str}:∀{hs a:List PatchHunk},S4 hs R=some a->x6 a<=x6 hs+(R.map fun t=>t.length+65).sum:=by
 induction R with
 | nil=>intro hs a h;cases h;simp
 | cons x r c =>
  intro hs a h;rw[S4]at h;cases b:gJ hs x with
  | none=>rw[b]at h;cases h
  | some g =>
   rw[b]at h;have d:=uA b;have e:=c h;simp only[A49,A77];omega
theorem RM{l:List Str}{p:Patch}(h:Y4 l=some p):x6 p.Hunks<=(l.map fun t=>t.length+65).sum:=by
 unfold Y4 at h
 match l with
 | []=>cases h
 | [_]=>cases h
 | a :: b::r =>
  dsimp only at h;cases c:U2 a [45,45,45,32] with
  | none=>rw[c]at h;cases h
  | some o =>
   cases f:U2 b [43,43,43,32] with
   | none=>rw[c,f]at h;cases h
   | some n =>
    rw[c,f]at h;dsimp only at h;cases d:S4 [] r with
    | none=>rw[d]at h;cases h
    | some hs =>
     rw[d]at h;have h:(⟨o,n,hs⟩:Patch)=p:=Option.some.inj h;rw[<-h];have:=XV d;simp only[A49,A77];have e:x6 ([]:List PatchHunk)=0:=rfl
     first | omega | (dsimp only;omega)
def oX(f:List Str->Option Patch)(s:Str):List PV:=[pPatch (aM f s).1,E2 (aM f s).2]
theorem MM(s:Str)(hs:s.length<=1048576):FnOk Tryz.prog 11 [F9 s] (fun rs=>rs=oX Y4 s):=by
 have c:¬16777216<s.length:=by omega
 have d:=MF s (by omega);have b:∀{x:Patch×Int},aM Y4 s=x->x=(R8,4)->[pPatch R8,E2 4]=oX Y4 s:=by
  intro x o y;unfold oX;rw[o,y]
 refine FnOk.intro Tryz.func11 (by decide) Z Z Z Z ?_;refine k2 ?_;refine A7 (D2 (G3 2 Z) Z (A6 (A9 Z Z) Z (B0 ?_)));refine k1 (k2 (k2 ?_));refine A7 (A6 (A8 Z Z) Z (A6 (G4 Z) Z (A6 (P8 Z Z) Z (B0 ?_))));refine k1 ?_;refine B8 rfl (fun a=>?_) (fun a=>?_)
 ·exact absurd (A0 a) (by omega)
 cases g:dP s with
 | none =>
  unfold rG at d;rw[g]at d;refine k5 (k1 (k2 ?_));refine A7 (A6 (A8 Z Z) Z (C4 (d) Z Z Z ?_));rintro _ rfl;refine A6 (A8 Z Z) Z (A6 (B6 Z Z) Z (A6 (B6 Z Z) Z (A6 (A9 Z Z) Z (A6 (A9 Z Z) Z (B0 ?_)))));refine k1 (k2 (k2 ?_));refine A7 (A6 (A8 Z Z) Z (A6 (G7 Z) Z (B0 ?_)));refine k1 ?_;refine B8 rfl (fun a=>?_) (fun a=>?_)
  ·refine k2 ?_;refine A7 (A6 (F8 Z) Z (F4 (C2 TySz.out Z Z Z Z Z Z) (A6 (A9 Z Z) Z (B0 ?_))));refine k1 ?_;refine G8 (A03 PatchHunk 3 phunkC 2 2 Z Z) ?_;refine G5 (I2 ?_);exact C0 (rs:=[pPatch R8,E2 4]) (d8 rfl rfl rfl rfl rfl rfl rfl) (b rfl (by unfold aM;rw[A5 c,g]))
  ·cases a
 | some l =>
  unfold rG at d;rw[g]at d;obtain⟨A,z2⟩:=RL g;have e:=ML l (by omega) (fun t a=>by have:=z2 t a;omega);cases k:Y4 l with
  | none =>
   unfold aE at e;rw[k]at e;refine k5 (k1 (k2 ?_));refine A7 (A6 (A8 Z Z) Z (C4 (d) Z Z Z ?_));rintro _ rfl;refine A6 (A8 Z Z) Z (A6 (B6 Z Z) Z (A6 (B6 Z Z) Z (A6 (A9 Z Z) Z (A6 (A9 Z Z) Z (B0 ?_)))));refine k1 (k2 (k2 ?_));refine A7 (A6 (A8 Z Z) Z (A6 (G7 Z) Z (B0 ?_)));refine k1 ?_;refine B8 rfl (fun a=>?_) (fun a=>?_)
   ·cases a
   refine k5 (k1 (k2 ?_));refine A7 (A6 (A8 Z Z) Z (C4 (e) Z Z Z ?_));rintro _ rfl;refine A6 (A8 Z Z) Z (A6 (B6 Z Z) Z (A6 (B6 Z Z) Z (D2 (G3 6 Z) Z (F4 (C2 TySz.out Z Z Z Z Z Z) (A6 (A9 Z Z) Z (B0 ?_))))));refine k1 (k2 (k2 ?_));refine A7 (A6 (A8 Z Z) Z (A6 (G7 Z) Z (B0 ?_)));refine k1 ?_;refine B8 rfl (fun a=>?_) (fun a=>?_)
   ·refine k2 ?_;refine A7 (A6 (F8 Z) Z (F4 (C2 TySz.out Z Z Z Z Z Z) (A6 (A9 Z Z) Z (B0 ?_))));refine k1 ?_;refine G8 (A03 PatchHunk 3 phunkC 2 2 Z Z) ?_;refine G5 (I2 ?_);exact C0 (rs:=[pPatch R8,E2 4]) (d8 rfl rfl rfl rfl rfl rfl rfl) (b rfl (by unfold aM;rw[A5 c,g];dsimp only;rw[k]))
   ·cases a
  | some p =>
   unfold aE at e;rw[k]at e;have z:=RM k;have v:=wK p (by omega);have q:aM Y4 s=if J1 p≠0\/K1 p≠s then (R8,4) else (p,0):=by unfold aM;rw[A5 c,g];dsimp only;rw[k]
   obtain⟨w,m⟩:∃w,w=if J1 p≠0 then [] else K1 p:=⟨_,rfl⟩
   rw[<-m]at v;refine k5 (k1 (k2 ?_));refine A7 (A6 (A8 Z Z) Z (C4 (d) Z Z Z ?_));rintro _ rfl;refine A6 (A8 Z Z) Z (A6 (B6 Z Z) Z (A6 (B6 Z Z) Z (A6 (A9 Z Z) Z (A6 (A9 Z Z) Z (B0 ?_)))));refine k1 (k2 (k2 ?_));refine A7 (A6 (A8 Z Z) Z (A6 (G7 Z) Z (B0 ?_)));refine k1 ?_;refine B8 rfl (fun a=>?_) (fun a=>?_)
   ·cases a
   refine k5 (k1 (k2 ?_));refine A7 (A6 (A8 Z Z) Z (C4 (e) Z Z Z ?_));rintro _ rfl;refine A6 (A8 Z Z) Z (A6 (B6 Z Z) Z (A6 (B6 Z Z) Z (D2 (G3 6 Z) Z (F4 (C2 TySz.out Z Z Z Z Z Z) (A6 (A9 Z Z) Z (B0 ?_))))));refine k1 (k2 (k2 ?_));refine A7 (A6 (A8 Z Z) Z (A6 (G7 Z) Z (B0 ?_)));refine k1 ?_;refine B8 rfl (fun a=>?_) (fun a=>?_)
   ·cases a
   refine k5 (k1 (k2 (k2 ?_)));refine A7 (A6 (E7 Z Z Z) Z (C4 (v) Z Z Z ?_));rintro _ rfl;refine A6 (A8 Z Z) Z (A6 (B6 Z Z) Z (A6 (B6 Z Z) Z (A6 (A9 Z Z) Z (A6 (A9 Z Z) Z (B0 ?_)))));refine k1 (k2 ?_);refine A7 (A6 (A8 Z Z) Z (A6 (K4 Z Z) Z (A6 (A8 Z Z) Z (B4 Z Z Z Z (fun j=>by rw[j];exact A8 Z Z) ?_))));refine B4 Z Z Z Z (fun j=>by rw[j];exact A8 Z Z) ?_;refine B4 Z Z Z Z (fun j=>by rw[j];exact bF Z Z) ?_;refine A6 (B9 Z (fun h=>by first | rfl | (rw[h];rfl)) (fun h=>by first | rfl | (rw[h];rfl))) Z ?_;refine B0 ?_;simp only[or_pick];refine k1 ?_;by_cases hb:J1 p≠0\/K1 p≠s
   ·rw[A4 hb]at q;refine B8 rfl (fun a=>?_) (fun a=>?_);rotate_left
    ·exfalso;have o:=A1 a;by_cases f:J1 p=0
     ·rw[A5 (by simp[f])]at m;rcases hb with h | h
      ·exact h f
      ·exact o (.inr (by rw[m];exact h))
     ·exact o (.inl f)
    refine k2 ?_;refine A7 (A6 (F8 Z) Z (F4 (C2 TySz.out Z Z Z Z Z Z) (A6 (A9 Z Z) Z (B0 ?_))));refine k1 ?_;refine G8 (A03 PatchHunk 3 phunkC 2 2 Z Z) ?_;refine G5 (I2 ?_);exact C0 (rs:=[pPatch R8,E2 4]) (d8 rfl rfl rfl rfl rfl rfl rfl) (b q rfl)
   ·rw[A5 hb]at q;have f:J1 p=0:=Decidable.not_not.1 fun h=>hb (.inl h);have u:K1 p=s:=Decidable.not_not.1 fun h=>hb (.inr h);rw[A5 (by simp[f])]at m;refine B8 rfl (fun a=>?_) (fun a=>?_)
    ·exfalso;rcases A0 a with h | h
     ·exact h f
     ·exact h (by rw[m];exact u)
    refine k5 (k1 (k2 ?_));refine A7 (A6 (E7 Z Z Z) Z (F4 (C2 TySz.out Z Z Z Z Z Z) (A6 (A9 Z Z) Z (B0 ?_))));refine k1 (G5 ?_);exact C0 (rs:=[pPatch p,E2 0]) (d8 rfl rfl rfl rfl rfl rfl rfl) (by unfold oX;rw[q])
end Go.Proofs.YtgkjogphmmoakaaGreatDoor
