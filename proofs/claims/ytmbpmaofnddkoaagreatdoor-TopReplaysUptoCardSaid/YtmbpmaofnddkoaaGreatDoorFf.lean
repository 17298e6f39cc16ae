
/- Walks of the program's functions. -/
import Derived.Test.YtmbpmaofnddkoaaGreatDoorFe
import Derived.RecoverIn
set_option linter.all false
namespace Go.Proofs.YtmbpmaofnddkoaaGreatDoor
open Go Go.AL
open Go.Proofs.Tryz (prog)
set_option maxRecDepth 100000
set_option maxHeartbeats 4000000
theorem zI{x:Int}(h:0<=x/\x<18446744073709551616):IntKind.u64.wrap ((BitVec.ofInt IntKind.u64.bits IntKind.u64.max ^^^ BitVec.ofInt IntKind.u64.bits x).toNat:Int)=18446744073709551615-x:=by
 have b:BitVec.ofInt 64 IntKind.u64.max=BitVec.allOnes 64:=by decide
 have c:(BitVec.ofInt 64 x).toNat=x.toNat:=by
  rw[BitVec.toNat_ofInt];simp;omega
 show IntKind.u64.wrap (((BitVec.ofInt 64 IntKind.u64.max ^^^ BitVec.ofInt 64 x:BitVec 64).toNat:Nat):Int)=_;rw[b,BitVec.allOnes_xor,BitVec.toNat_not,c];simp only[IntKind.wrap,IntKind.signed,IntKind.bits];simp;omega
theorem O0(z:Set4)(k:S5 z)(a b:Nat)(x y:Int)(g:x=a)(j:y=b)(f:a<=b)(hb:b<256):FnOk prog 234 [W9 z,.one (.v (.int .u8 x)),.one (.v (.int .u8 y))] (fun rs=>rs=[W9 (z.through a b)]):=by
 have c:(UInt8.ofNat a).toNat=a:=by rw[UInt8.toNat_ofNat'];omega
 have d:(UInt8.ofNat b).toNat=b:=by rw[UInt8.toNat_ofNat'];omega
 have h:=BW z k (UInt8.ofNat a) (UInt8.ofNat b) B3;rw[c,d]at h;subst g j;have e:pByte (UInt8.ofNat a)=.one (.v (.int .u8 (a:Int)))/\pByte (UInt8.ofNat b)=.one (.v (.int .u8 (b:Int))):=by
  constructor
  ·show PV.one (.v (.int .u8 ((UInt8.ofNat a).toNat:Int)))=_;rw[c]
  ·show PV.one (.v (.int .u8 ((UInt8.ofNat b).toNat:Int)))=_;rw[d]
 rw[e.1,e.2]at h;exact h
attribute [local irreducible] AL.Set4.through AL.Set4.with_
abbrev FH(a b c d:Int):Ob:=.box [.p (.v (.int .u64 a)),.p (.v (.int .u64 b)),.p (.v (.int .u64 c)),.p (.v (.int .u64 d))]
def complT(z:Set4):Nat->Ob
 | 0=>FH z.a z.b z.c z.d
 | 1=>FH z.compl.a z.b z.c z.d
 | 2=>FH z.compl.a z.compl.b z.c z.d
 | 3=>FH z.compl.a z.compl.b z.compl.c z.d
 | _=>FH z.compl.a z.compl.b z.compl.c z.compl.d
theorem rC(z:Set4)(g:S5 z):FnOk prog 217 [W9 z] (fun rs=>rs=[W9 z.compl]):=by
 obtain⟨j,z2,z3,z4⟩:=g;refine FnOk.intro Tryz.func217 F5 A0 A0 A0 A0 (H2 ?_);refine B6 (V5 1 A0 A0 A0) A0 (B6 (E6 2 A0) A0 (J5 ?_));refine C1 (X:=Nat) (fun i=>([(1,.s (.one (.ref 1 0))),(2,.s (.one (.ref 2 0))),(4,B1 i)],[(1,complT z i),(2,FH 0 0 0 0)])) (fun i=>i<=4) (fun i=>4-i) 0 (B37 _) (C6) ?_;intro i c;dsimp only at c ⊢;refine zc 5 (fun a=>?_) fun a=>?_
 ·have d:i<4:=by have:=A1 a;omega
  rcases (show i=0\/i=1\/i=2\/i=3 by omega) with h | h | h | h<;>subst h
  ·refine zz 17 ?_;rw[zI j];refine R6 ?_;exact⟨1,by omega,by omega,C6⟩
  ·refine zz 17 ?_;rw[zI z2];refine R6 ?_;exact⟨2,by omega,by omega,C6⟩
  ·refine zz 17 ?_;rw[zI z3];refine R6 ?_;exact⟨3,by omega,by omega,C6⟩
  ·refine zz 17 ?_;rw[zI z4];refine R6 ?_;exact⟨4,by omega,by omega,C6⟩
 ·have b:i=4:=by have:=A2 a;omega
  subst b;refine J5 ?_;exact A8 (rs:=[W9 z.compl]) b0y rfl
theorem A65(z t:Set4)(b:S5 z)(name:Str)(h:mD z name=some t):FnOk prog 233 [W9 z,G5 name] (fun rs=>rs=[W9 t]):=by
 unfold mD at h;refine FnOk.intro Tryz.func233 F5 A0 A0 A0 A0 (H2 ?_);refine B6 (V5 2 A0 A0 A0) A0 (B6 (E6 4 A0) A0 ?_);refine zc 12 (fun e=>?_) fun e=>?_
 ·have c:name=[97,108,112,104,97]:=A1 kA;rw[A5 c]at h;cases h;refine H8 ?_;refine F0 (O0 (z) (b) 97 122 97 122 A0 A0 F5 F5) (F0 (O0 ((z).through 97 122) (M2 (b) 97 122) 65 90 65 90 A0 A0 F5 F5) (H8 ?_));exact A8 (rs:=[W9 (((z).through 97 122).through 65 90)]) b0y rfl
 have a:¬name=[97,108,112,104,97]:=A2 kA;refine zc 5 (fun e=>?_) fun e=>?_
 ·have c:name=[100,105,103,105,116]:=A1 kA;rw[A6 a,A5 c]at h;cases h;refine H8 ?_;refine F0 (O0 (z) (b) 48 57 48 57 A0 A0 F5 F5) (H8 ?_);exact A8 (rs:=[W9 ((z).through 48 57)]) b0y rfl
 have d:¬name=[100,105,103,105,116]:=A2 kA;refine zc 5 (fun e=>?_) fun e=>?_
 ·have c:name=[97,108,110,117,109]:=A1 kA;rw[A6 a,A6 d,A5 c]at h;cases h;refine H8 ?_;refine F0 (O0 (z) (b) 97 122 97 122 A0 A0 F5 F5) (F0 (O0 ((z).through 97 122) (M2 (b) 97 122) 65 90 65 90 A0 A0 F5 F5) (F0 (O0 (((z).through 97 122).through 65 90) (M2 (M2 (b) 97 122) 65 90) 48 57 48 57 A0 A0 F5 F5) (H8 ?_)));exact A8 (rs:=[W9 ((((z).through 97 122).through 65 90).through 48 57)]) b0y rfl
 have f:¬name=[97,108,110,117,109]:=A2 kA;refine zc 5 (fun e=>?_) fun e=>?_
 ·have c:name=[117,112,112,101,114]:=A1 kA;rw[A6 a,A6 d,A6 f,A5 c]at h;cases h;refine H8 ?_;refine F0 (O0 (z) (b) 65 90 65 90 A0 A0 F5 F5) (H8 ?_);exact A8 (rs:=[W9 ((z).through 65 90)]) b0y rfl
 have j:¬name=[117,112,112,101,114]:=A2 kA;refine zc 5 (fun e=>?_) fun e=>?_
 ·have c:name=[108,111,119,101,114]:=A1 kA;rw[A6 a,A6 d,A6 f,A6 j,A5 c]at h;cases h;refine H8 ?_;refine F0 (O0 (z) (b) 97 122 97 122 A0 A0 F5 F5) (H8 ?_);exact A8 (rs:=[W9 ((z).through 97 122)]) b0y rfl
 have k:¬name=[108,111,119,101,114]:=A2 kA;refine zc 5 (fun e=>?_) fun e=>?_
 ·have c:name=[115,112,97,99,101]:=A1 kA;rw[A6 a,A6 d,A6 f,A6 j,A6 k,A5 c]at h;cases h;refine H8 ?_;refine F0 (O0 (z) (b) 9 13 9 13 A0 A0 F5 F5) (F0 (tW ((z).through 9 13) (M2 (b) 9 13) 32) (H8 ?_));exact A8 (rs:=[W9 (((z).through 9 13).with_ 32)]) b0y rfl
 have l:¬name=[115,112,97,99,101]:=A2 kA;refine zc 5 (fun e=>?_) fun e=>?_
 ·have c:name=[112,117,110,99,116]:=A1 kA;rw[A6 a,A6 d,A6 f,A6 j,A6 k,A6 l,A5 c]at h;cases h;refine H8 ?_;refine F0 (O0 (z) (b) 33 47 33 47 A0 A0 F5 F5) (F0 (O0 ((z).through 33 47) (M2 (b) 33 47) 58 64 58 64 A0 A0 F5 F5) (F0 (O0 (((z).through 33 47).through 58 64) (M2 (M2 (b) 33 47) 58 64) 91 96 91 96 A0 A0 F5 F5) (F0 (O0 ((((z).through 33 47).through 58 64).through 91 96) (M2 (M2 (M2 (b) 33 47) 58 64) 91 96) 123 126 123 126 A0 A0 F5 F5) (H8 ?_))));exact A8 (rs:=[W9 (((((z).through 33 47).through 58 64).through 91 96).through 123 126)]) b0y rfl
 have m:¬name=[112,117,110,99,116]:=A2 kA;refine F8 ?_;rw[A6 a,A6 d,A6 f,A6 j,A6 k,A6 l,A6 m]at h;cases h
theorem ZQ{K:List Nat}(a:E8 K 872=true){s:Str}{st:PSt}(z:Set4)(name:Str)(h:mD z name=none):PX 233 [(W9 z).s1,(G5 name).s1] K s st (.error 40:Ps Int) iZ:=by
 intro gf ob Z A;have B:=A.z.self;have q:B0 (PObs s st Z) 872=none:=B.none (.inr a);unfold mD at h;refine MetX.introH Tryz.func233 F5 rfl rfl rfl (fun y=>?_);refine C3 (s7 (l:=[(0,.s (W9 z).s1),(1,.s (G5 name).s1)]) A lf y L6) ?_;refine H8 ?_;refine B6 (eV 872 q F5) A0 (H8 ?_);refine C3 (fr':=[(1,.s (G5 name).s1)]++B2 K gf) (ob':=Z) (A91 ⟨cL rfl,trivial⟩ (B7 y) (by repeat (first | exact R0 | refine P0 rfl ?_ | refine pI _ a ?_)) ((((B.pin (s:=s) (st:=st)).fgt a).cons (i:=872) (.inr a)).sub)) ?_;refine zc 9 (fun k=>?_) fun k=>?_
 ·have d:name=[97,108,112,104,97]:=A1 kA;rw[A5 d]at h;cases h
 have j:¬name=[97,108,112,104,97]:=A2 kA;refine zc 5 (fun k=>?_) fun k=>?_
 ·have d:name=[100,105,103,105,116]:=A1 kA;rw[A6 j,A5 d]at h;cases h
 have m:¬name=[100,105,103,105,116]:=A2 kA;refine zc 5 (fun k=>?_) fun k=>?_
 ·have d:name=[97,108,110,117,109]:=A1 kA;rw[A6 j,A6 m,A5 d]at h;cases h
 have p:¬name=[97,108,110,117,109]:=A2 kA;refine zc 5 (fun k=>?_) fun k=>?_
 ·have d:name=[117,112,112,101,114]:=A1 kA;rw[A6 j,A6 m,A6 p,A5 d]at h;cases h
 have v:¬name=[117,112,112,101,114]:=A2 kA;refine zc 5 (fun k=>?_) fun k=>?_
 ·have d:name=[108,111,119,101,114]:=A1 kA;rw[A6 j,A6 m,A6 p,A6 v,A5 d]at h;cases h
 have w:¬name=[108,111,119,101,114]:=A2 kA;refine zc 5 (fun k=>?_) fun k=>?_
 ·have d:name=[115,112,97,99,101]:=A1 kA;rw[A6 j,A6 m,A6 p,A6 v,A6 w,A5 d]at h;cases h
 have x:¬name=[115,112,97,99,101]:=A2 kA;refine zc 5 (fun k=>?_) fun k=>?_
 ·have d:name=[112,117,110,99,116]:=A1 kA;rw[A6 j,A6 m,A6 p,A6 v,A6 w,A6 x,A5 d]at h;cases h
 have C:¬name=[112,117,110,99,116]:=A2 kA;refine H8 ?_;refine N8 A0 ?_;exact H1 L6 (fun _ _ h=>h) ⟨rfl,rfl⟩
theorem any_px{K:List Nat}{s:Str}{st:PSt}(b:SOk s st):PX 197 [K7] K s st (.ok (FQ st):Ps Int) iZ:=by
 intro gf ob Z c;have i:=c.z.self;have d:=b.len;have f:=b.at_;have g:=b.nds;have a:=rC set0 fF;refine MetX.introH Tryz.func197 F5 rfl rfl rfl (fun e=>?_);refine C3 (s7 (l:=[(0,.s K7)]) c ⟨cL rfl,trivial⟩ e L6) ?_;refine zz 19 ?_;refine F0 (a) (JN (KO (K:=K) (s:=s) (st:=st.skip 1) (Z:=Z) set0.compl (by show st.nodes.length<=1000;omega) ⟨rfl,rfl,n5⟩) mS A0 A0 A0 ?_);rintro _ _ ⟨rfl,rfl⟩;refine H2 ?_;refine F8 ?_;exact I3 Y5 L6 (fun _ _ h=>h) ⟨(FQ st).1,(FQ st).2,rfl,rfl,rfl⟩
theorem ZR{K:List Nat}{s:Str}{st:PSt}(m:SOk s st)(i:st.at_+1<=s.length):PX 198 [K7] K s st (pX s st) iZ:=by
 intro gf ob Z j;have r:=j.z.self;have k:=m.len;have b:=m.gr (M7 (s:=s) (x:=st) 1 i) B3;refine MetX.introH Tryz.func198 F5 rfl rfl rfl (fun o=>?_);refine C3 (s7 (l:=[(0,.s K7)]) j ⟨cL rfl,trivial⟩ o L6) ?_;refine zz 20 ?_;refine L2 (KN (K:=K) b _ _ Z ⟨rfl,rfl,n5⟩) mS rfl rfl rfl ?_ ?_
 ·(rintro e ob' ⟨g,rfl⟩;exact H1 L6 (fun _ _ h=>h) ⟨by unfold pX l7;rw[g],rfl⟩)
 rintro _ _ ⟨f,c,g,rfl,rfl⟩;refine F0 (tW set0 fF c) (JN (KO (K:=K) (s:=s) (st:=f) (Z:=Z) (set0.with_ c.toNat) (by have p:=(b.gr (pZ g) B3).nds;have q:=(b.gr (pZ g) B3).at_;omega) ⟨rfl,rfl,n5⟩) mS A0 A0 A0 ?_);rintro _ _ ⟨rfl,rfl⟩;refine H2 ?_;refine F8 ?_;exact I3 Y5 L6 (fun _ _ h=>h) ⟨(qI (set0.with_ c.toNat) f).1,(qI (set0.with_ c.toNat) f).2,by unfold pX l7;rw[g],rfl,rfl⟩
theorem BZ(s:Str)(m:s.length<=1000):FnOk prog 240 [G5 s,G5 [58,93]] (fun rs=>rs=if Lib.index s [58,93]<0 then [G5 s,G5 [],F6 false] else [G5 (s.take (Lib.index s [58,93]).toNat),G5 (s.drop ((Lib.index s [58,93]).toNat+2)),F6 true]):=by
 have d:=KM s [58,93] B3;have f:=fun h=>Lib.index_room s [58,93] h;obtain⟨i,k⟩:∃i,i=Lib.index s [58,93]:=⟨_,rfl⟩
 rw[<-k]at d f ⊢;refine FnOk.intro Tryz.func240 F5 A0 A0 A0 A0 (o9 ?_);refine F0 (d) ?_;refine zc 7 (fun b=>?_) fun b=>?_
 ·have c:i>=0:=A1 b;have j:=f c;rw[show (([58,93]:Str).length:Int)=2 from rfl]at j;have e:(i+((([58,93]:Str).length:Nat):Int)).toNat=i.toNat+2:=by rw[show ((([58,93]:Str).length:Nat):Int)=2 from rfl];omega
  refine R6 ?_;refine D2 (sY A0 A0 B3 B3) A0 A0 (H8 ?_);refine D2 (pA A0) A0 A0 (D2 (X6 A0 A0 b6y) A0 A0 (D2 (pB A0 A0 b6y b6y) A0 A0 (I0 ?_)));refine A8 b1y ?_;rw[A6 B3,e]
 ·have c:¬i>=0:=A2 b;refine U7 ?_;exact A8 (rs:=[G5 s,G5 [],F6 false]) b1y (by rw[A5 B3])
theorem cut_no(s:Str)(b:s.length<=1000)(h:Lib.index s [58,93]<0):FnOk prog 232 [G5 s,G5 [58,93]] (fun rs=>rs=[G5 s,G5 [],F6 false]):=by
 have a:=BZ s b;rw[A5 h]at a;refine FnOk.intro Tryz.func232 F5 A0 A0 A0 A0 (R9 ?_);refine F0 (a) (X0 ?_);exact A8 (rs:=[G5 s,G5 [],F6 false]) b1y rfl
theorem cut_yes(s:Str)(c:s.length<=1000)(h:¬Lib.index s [58,93]<0):FnOk prog 232 [G5 s,G5 [58,93]] (fun rs=>rs=[G5 (s.take (Lib.index s [58,93]).toNat),G5 (s.drop ((Lib.index s [58,93]).toNat+2)),F6 true]):=by
 have b:=BZ s c;rw[A6 h]at b;refine FnOk.intro Tryz.func232 F5 A0 A0 A0 A0 (R9 ?_);refine F0 (b) (X0 ?_);exact A8 (rs:=[G5 (s.take (Lib.index s [58,93]).toNat),G5 (s.drop ((Lib.index s [58,93]).toNat+2)),F6 true]) b1y rfl
abbrev setE(t:Set4):S1:=.one (.eref Unit 4 (fun _ j=>[Cell.v (.int .u64 t.a),Cell.v (.int .u64 t.b),Cell.v (.int .u64 t.c),Cell.v (.int .u64 t.d)].getD j (.v undef)) () 0)
theorem UD(s:Str):UB s [91,58]=if mE 91 58 s=true then [G5 (s.drop 2),F6 true] else [G5 s,F6 false]:=by
 have e:(s.take ([91,58]:Str).length=[91,58])↔mE 91 58 s=true:=by
  unfold mE;rw[decide_eq_true_eq]
  match s with
  | []=>simp
  | [a]=>simp
  | a::b::r=>simp
 unfold UB;by_cases h:mE 91 58 s=true
 ·rw[A5 (e.2 h),A5 h];rfl
 ·rw[A6 (fun g=>h (e.1 g)),A6 h]
theorem b8y{p:Prop}(h:p:=by (show (_:Int)<=_;first | omega | (dsimp only[PSt.skip];omega))):p:=h
theorem zJ{K:List Nat}(m:E8 K 870=true)(Y:E8 K 872=true){s:Str}{st:PSt}(t:Set4)(S:S5 t)(hs:SOk s st):PX 216 [K7,(W9 t).s1] K s st (iL s t st) (fun X=>[(W9 X).s1]):=by
 intro gf ob Z hI;have H:=hI.z.self;have am:=hs.len;have ao:=hs.at_;have P:B0 (PObs s st Z) 870=none:=H.none (.inr m);obtain⟨rest,p⟩:∃rest,rest=s.drop st.at_:=⟨_,rfl⟩
 have av:rest.length=s.length-st.at_:=by rw[p,B47]
 have A:=KL (s.drop ((st.at_:Nat):Int).toNat) [91,58];rw[B26,<-p,UD]at A
 have d:iL s t st=if mE 91 58 rest=true then (if Lib.index (rest.drop 2) [58,93]<0 then .error 40 else match mD t ((rest.drop 2).take (Lib.index (rest.drop 2) [58,93]).toNat) with
   | none=>.error 40
   | some X=>.ok (st.skip (4+(Lib.index (rest.drop 2) [58,93]).toNat),X)) else match s[st.at_]? with
   | none=>.error 40
   | some c=>if (s.drop (st.at_+1)).length<2\/(s.drop (st.at_+1))[0]?≠some 45\/(s.drop (st.at_+1))[1]?=some 93 then .ok (st.skip 1,t.with_ c.toNat)
    else if ((s.drop (st.at_+1)).getD 1 0).toNat<c.toNat then .error 40
    else .ok (st.skip 3,t.through c.toNat ((s.drop (st.at_+1)).getD 1 0).toNat):=by unfold iL;rw[<-p];rfl
 refine MetX.introH Tryz.func216 F5 rfl rfl rfl (fun hH=>?_);refine C3 (s7 (l:=[(0,.s K7),(1,.s (W9 t).s1)]) hI lf hH L6) ?_;refine H8 ?_;refine B6 (eV 870 P F5) A0 (H8 ?_)
 refine C3 (fr':=[(0,.s K7),(3,.s (setE t)),(4,.s (.one (.ref 870 0)))]++B2 K gf) (ob':=(870,FH 0 0 0 0)::PObs s st Z) (A91 lf (B7 hH) (by repeat (first | exact R0 | refine P0 rfl ?_ | refine pI _ m ?_)) (D4 (L:=[(870,_),(810,_),(811,_)]) ⟨rfl,rfl,rfl,trivial⟩ (fun j x hj U=>by
  have h1:=H.key j x U;rw[A7 (fun e=>by rw[<-e,m]at h1;cases h1.2)]
  exact (H.pin.fgt m).sub j x U))) ?_
 by_cases R:mE 91 58 rest=true
 ·rw[A5 R]at A d;obtain⟨r,W⟩:∃r,r=rest.drop 2:=⟨_,rfl⟩
  have ae:r.length=rest.length-2:=by rw[W,B47]
  rw[<-W]at A d;have E:FnOk prog 231 [G5 (s.drop ((st.at_:Nat):Int).toNat),G5 [91,58]] (fun rs=>rs=[G5 r,F6 true]):=by rw[B26,<-p];exact A
  have ap:2<=rest.length:=by
   have:=(B28.1 (A1 R).2).1;omega
  refine U7 ?_;refine D2 (pB A0 A0 B3 B3) A0 A0 (D2 (I2 (E) A0 A0) A0 A0 ?_);refine zc 10 (fun q=>?_) fun q=>?_;rotate_left
  ·cases q
  refine k2 ?_;by_cases U:Lib.index r [58,93]<0
  ·rw[A5 U]at d;refine H2 ?_;refine F0 (cut_no r B3 U) ?_;refine zc 14 (fun q=>?_) fun q=>?_
   ·skip;refine H2 ?_;refine N8 A0 ?_;exact H1 L6 (ZOk.sub (K:=K) ((H.pin).cons (.inr m))) ⟨d,rfl⟩
   ·cases q
  ·rw[A6 U]at d;have Q:=Lib.index_room r [58,93] B3;rw[show (([58,93]:Str).length:Int)=2 from rfl]at Q;obtain⟨k,hk⟩:∃k:Nat,k=(Lib.index r [58,93]).toNat:=⟨_,rfl⟩
   have ac:=cut_yes r B3 U;rw[<-hk]at d ac;have au:(r.take k).length=k:=by rw[B42];omega
   refine H2 ?_;refine F0 (ac) ?_;refine zc 14 (fun q=>?_) fun q=>?_
   ·cases q
   refine zz 16 ?_;rw[show ((st.at_:Int)+(2+((r.take k).length:Int)+2))=((st.at_+(4+k):Nat):Int) by omega];refine F8 ?_;have ag:ZOk K Z ((870,FH 0 0 0 0)::PObs s st Z):=H.pin.cons (.inr m);cases M:mD t (r.take k) with
   | none =>
    rw[M]at d;refine C3 (fr':=[(3,.s (setE t)),(7,T0 (r.take k))]++B2 K gf) (ob':=PObs s (st.skip (4+k)) Z) (A91 lf (B7 hH) L6 (N5 (K:=K) ⟨rfl,rfl,ag.cons (.inl rfl)⟩)) ?_;refine H8 ?_;refine L2 (ZQ (K:=K) Y t (r.take k) M _ _ Z ⟨rfl,rfl,n5⟩) mS rfl rfl rfl ?_ ?_
    ·(rintro e ob' ⟨B,rfl⟩;cases B;exact H1 L6 (fun _ _ h=>h) ⟨d,rfl⟩)
    rintro _ _ ⟨_,_,B,_,_⟩;cases B
   | some X =>
    rw[M]at d;refine H8 ?_;refine F0 (A65 t X S (r.take k) M) (H8 ?_);exact I3 (UC rfl rfl rfl rfl) L6 (N5 (K:=K) (st:=st.skip (4+k)) ⟨rfl,rfl,(ag.cons (.inl rfl)).cons (.inr m)⟩) ⟨st.skip (4+k),X,d,rfl,rfl⟩
 ·rw[A6 R]at A d;have E:FnOk prog 231 [G5 (s.drop ((st.at_:Nat):Int).toNat),G5 [91,58]] (fun rs=>rs=[G5 rest,F6 false]):=by rw[B26,<-p];exact A
  refine U7 ?_;refine D2 (pB A0 A0 B3 B3) A0 A0 (D2 (I2 (E) A0 A0) A0 A0 ?_);refine zc 10 (fun q=>?_) fun q=>?_
  ·cases q
  refine H2 ?_;have aj:KOk [811]:=⟨rfl,rfl⟩
  have ak:B0 Z 870=none:=H.none (.inr m);have w:=H;obtain⟨Z0,v⟩:∃Z0:Obs,Z0=(870,FH 0 0 0 0)::Z:=⟨_,rfl⟩
  have al:ZOk [811] Z0 Z0:=by
   rw[v];exact ZOk.own ((H.less aj (HJ H.k8)).consZ ak) ⟨by decide,rfl⟩ (fun j hj=>rfl) (B4 _ _ _)
  have ad:∀(x:Ob) (y:PSt),ZOk K Z ((870,x)::PObs s y Z0):=fun x y=>by
   rw[v];exact ((((w.cons (i:=870) (.inr m)).cons (i:=811) (.inr w.k8.h811)).cons (i:=810) (.inl rfl)).cons (i:=870) (.inr m))
  have O:∀(y:PSt),ZOk K Z (PObs s y Z0):=fun y=>by
   rw[v];exact (((w.cons (i:=870) (.inr m)).cons (i:=811) (.inr w.k8.h811)).cons (i:=810) (.inl rfl))
  refine C3 (fr':=[(0,.s K7),(3,.s (setE t)),(4,.s (.one (.ref 870 0)))]++B2 K gf) (ob':=PObs s st Z0) (A91 lf (B7 hH) L6 (by
   rw[v]
   exact D4 (L:=[(810,_),(811,_),(870,_)]) ⟨rfl,rfl,rfl,trivial⟩ SY)) ?_
  have H:=al;refine H2 ?_;refine L2 (KN (K:=[811]) hs _ _ Z0 ⟨rfl,rfl,n5⟩) mS rfl rfl rfl ?_ ?_
  ·(rintro e ob' ⟨B,rfl⟩;exact H1 L6 (ZOk.sub (K:=K) (by rw[v];exact w.cons (i:=870) (.inr m))) ⟨by rw[d,(OY B).1,(OY B).2],rfl⟩)
  rintro _ _ ⟨y,c,B,rfl,rfl⟩;refine H2 ?_;obtain⟨hv,rfl⟩:s[st.at_]?=some c/\y=st.skip 1:=by
   unfold mO at B;cases hv:s[st.at_]? with
   | none=>rw[hv]at B;cases B
   | some c2=>rw[hv]at B;cases B;exact⟨rfl,rfl⟩
  rw[hv]at d;dsimp only at d;have ar:=(B28.1 hv).1;obtain⟨r,W⟩:∃r,r=s.drop (st.at_+1):=⟨_,rfl⟩
  have ae:r.length=s.length-(st.at_+1):=by rw[W,B47]
  rw[<-W]at d;have af:2<=r.length->r[((0:Int)).toNat]?=some (r.getD 0 0):=fun h=>by rw[B30];show r[0]?=_;rw[B23 B3];rfl
  have T:2<=r.length->r[((1:Int)).toNat]?=some (r.getD 1 0):=fun h=>by rw[B30];show r[1]?=_;rw[B23 B3];rfl
  refine R9 ?_;refine D2 (pB A0 A0 b8y b8y) A0 A0 (H2 ?_);rw[show (((st.skip 1).at_:Nat):Int).toNat=st.at_+1 from rfl,<-W];refine X0 ?_;refine E3 A0 A0 A0 A0 (fun hg=>by have hq:=hg;(try simp at hq);rw[hg];exact P9 A0 A0 B3 (af B3)) ?_;refine R6 ?_;refine E3 A0 A0 A0 A0 (fun hg=>by have hq:=hg;(try simp at hq);rw[hg];exact P9 A0 A0 B3 (T B3)) ?_;refine H8 ?_;simp only[or_pick];obtain⟨V,ab⟩:∃V,V=r.getD 0 0:=⟨_,rfl⟩
  obtain⟨G,I⟩:∃G,G=r.getD 1 0:=⟨_,rfl⟩
  rw[<-ab,<-I];rw[<-I]at d;have C:(((r.length:Int)<2\/¬(V.toNat:Int)=45)\/(G.toNat:Int)=93)↔(r.length<2\/r[0]?≠some 45\/r[1]?=some 93):=by
   have ah:(V.toNat:Int)=45↔V=45:=⟨fun h=>B88.1 (by have:(45:UInt8).toNat=45:=rfl;omega),fun h=>by rw[h];rfl⟩
   have ai:(G.toNat:Int)=93↔G=93:=⟨fun h=>B88.1 (by have:(93:UInt8).toNat=93:=rfl;omega),fun h=>by rw[h];rfl⟩
   rw[ah,ai];by_cases h2:r.length<2
   ·constructor
    ·intro _;exact .inl h2
    ·intro _;exact .inl (.inl B3)
   ·have a0:=af B3;have a1:=T B3;rw[<-ab]at a0;rw[<-I]at a1;have a0:r[0]?=some V:=a0;have a1:r[1]?=some G:=a1;rw[a0,a1];simp only[ne_eq,Option.some.injEq];constructor
    ·rintro ((h | h) | h)
     ·omega
     ·exact .inr (.inl h)
     ·exact .inr (.inr h)
    ·rintro (h | h | h)
     ·omega
     ·exact .inl (.inr h)
     ·exact .inr h
  refine zc 0 (fun q=>?_) fun q=>?_
  ·have J:=C.1 (A1 q);rw[A5 J]at d;refine R6 ?_;refine F0 (tW t S c) (V2 (I9 TySz.out A0 (by rw[v];rfl) A0 A0 A0 A0) ?_);refine H2 ?_;exact I3 (UC rfl rfl rfl rfl) L6 (N5 (K:=K) (st:=st.skip 1) ⟨rfl,rfl,ad _ _⟩) ⟨st.skip 1,t.with_ c.toNat,d,rfl,rfl⟩
  have J:¬(r.length<2\/r[0]?≠some 45\/r[1]?=some 93):=fun h=>A2 q (C.2 h);rw[A6 J]at d;have h2:2<=r.length:=by
   apply Nat.le_of_not_lt;exact fun h=>J (.inl h)
  have F:=T h2;rw[<-I]at F;refine I0 ?_;refine A9 (P9 A0 A0 B3 F) A0 ?_;refine zc 3 (fun q=>?_) fun q=>?_
  ·have an:(G.toNat:Int)<c.toNat:=A1 q;rw[A5 B3]at d;skip;refine H2 ?_;refine N8 A0 ?_;exact H1 L6 (O _).sub ⟨d,rfl⟩
  have aq:¬(G.toNat:Int)<c.toNat:=A2 q;rw[A6 B3]at d;refine J5 ?_;refine A9 (X6 A0 A0 (by (dsimp only[PSt.skip];omega))) A0 ?_;refine N0 ?_;refine D2 (I1 A0 A0) A0 A0 (H2 ?_);refine D2 (P9 A0 A0 B3 F) A0 A0 (D2 (I2 (BW t S c G B3) A0 A0) A0 A0 (d_eff (I9 TySz.out A0 (by rw[v];rfl) A0 A0 A0 A0) A0 ?_));refine H2 ?_;exact I3 (UC rfl rfl rfl rfl) L6 (N5 (K:=K) (st:=st.skip 3) ⟨rfl,rfl,by rw[v];exact (((((w.cons (i:=870) (.inr m)).cons (i:=811) (.inr w.k8.h811)).cons (i:=810) (.inl rfl)).cons (i:=810) (.inl rfl)).cons (i:=870) (.inr m))⟩) ⟨st.skip 3,t.through c.toNat G.toNat,d,rfl,rfl⟩
abbrev FI(t:Set4):Ob:=FH t.a t.b t.c t.d
theorem A66{K:List Nat}(ab:E8 K 870=true)(d:E8 K 871=true)(ac:E8 K 872=true){s:Str}{st:PSt}(hs:SOk s st)(af:st.at_+1<=s.length):PX 196 [K7] K s st (jK s (s.length+2) st) iZ:=by
 intro gf ob Z hI;have P:=hI.z.self;have V:=P;have ar:=hs.len;have aw:=hs.at_;have ae:KOk [811,872,870]:=⟨rfl,rfl⟩
 have T:∀k,E8 [811,872,870] k=true->E8 K k=true:=fun k hk=>by
  have h:=t8.1 hk;simp only[B34,C00,or_false]at h;rcases h with rfl | rfl | rfl
  ·exact P.k8.h811
  ·exact ac
  ·exact ab
 have U:B0 Z 871=none:=P.none (.inr d);obtain⟨Z1,a⟩:∃Z1:Ob->Obs,Z1=fun x=>(871,x)::Z:=⟨_,rfl⟩
 have ah:∀t:Set4,ZOk [811,872,870] (Z1 (FI t)) (Z1 (FI t)):=fun t=>by
  rw[a];exact ZOk.own ((P.less ae T).consZ U) ⟨by decide,rfl⟩ (fun j hj=>rfl) (B4 _ _ _)
 have ai:∀(x:Ob),ZOk K Z (Z1 x):=fun x=>by rw[a];exact V.cons (i:=871) (.inr d)
 have W:∀(x:Ob) (aj:PSt),ZOk K Z (PObs s aj (Z1 x)):=fun x aj=>(((ai x).cons (i:=811) (.inr V.k8.h811)).cons (i:=810) (.inl rfl))
 have ao:ZOk [811,872,870] Z Z:=P.less ae T;have g1:=M7 (s:=s) (x:=st) 1 af;have al:=hs.gr g1 B3;have g2:=vJ (s:=s) (x:=st.skip 1) 94 g1.len;have H:=al.gr g2 B3;obtain⟨w,G⟩:∃w,w=U5 s 94 (st.skip 1):=⟨_,rfl⟩
 obtain⟨y,C⟩:∃y,y=yI s 94 (st.skip 1):=⟨_,rfl⟩
 have q:jK s (s.length+2) st=match iL s set0 y with
   | .error e=>.error e
   | .ok (M,t)=>match jJ s (s.length+2) t M with
    | .error e=>.error e
    | .ok (st4,t')=>.ok (qI (if w=true then t'.compl else t') st4):=by rw[C,G];rfl
 have e2:(if s[st.at_+1]?=some 94 then st.at_+1+1 else st.at_+1)=y.at_/\st.depth=y.depth/\st.nodes=y.nodes/\decide (s[st.at_+1]?=some 94)=w:=by
  by_cases h:s[st.at_+1]?=some 94
  ·have O:U5 s 94 (st.skip 1)=true:=A3 h;have he:yI s 94 (st.skip 1)=(st.skip 1).skip 1:=by unfold yI;rw[A5 O]
   rw[C,he,G,O,A5 h];exact⟨rfl,rfl,rfl,A3 h⟩
  ·have O:U5 s 94 (st.skip 1)=false:=A4 h;have he:yI s 94 (st.skip 1)=st.skip 1:=by unfold yI;rw[A6 (by rw[O];decide)]
   rw[C,he,G,O,A6 h];exact⟨rfl,rfl,rfl,A4 h⟩
 rw[<-C]at H g2;refine MetX.introH Tryz.func196 F5 rfl rfl rfl (fun Y=>?_);refine C3 (s7 (l:=[(0,.s K7)]) hI ⟨cL rfl,trivial⟩ Y L6) ?_;refine zz 18 ?_;refine M9 (x7 s (st.at_+1) st.depth 94 af B3 A0) A0 A0 A0 (H2 ?_);rw[e2.1,e2.2.2.2];refine F8 ?_;refine C3 (fr':=[(0,.s K7),(3,S6 w)]++B2 K gf) (ob':=PObs s y Z) (A91 lf (B7 Y) L6 (N5 (K:=K) ⟨by rw[B4,e2.2.1],by rw[<-e2.2.2.1];rfl,((P.pin).cons (.inl rfl)).cons (.inl rfl)⟩)) ?_;have ay:=P;have P:ZOk [811,872,870] Z Z:=ao;have au:B0 (PObs s y Z) 871=none:=U;cases S:iL s set0 y with
 | error e0 =>
  rw[S]at q;refine H8 ?_;refine L2 (zJ (K:=[811,872,870]) rfl rfl set0 fF H _ _ Z ⟨rfl,rfl,n5⟩) mS rfl rfl rfl ?_ ?_
  ·(rintro e ob' ⟨F,rfl⟩;rw[S]at F;cases F;exact H1 L6 (fun _ _ h=>h) ⟨q,rfl⟩)
  rintro _ _ ⟨_,_,F,_,_⟩;rw[S]at F;cases F
 | ok p =>
  obtain⟨M,t⟩:=p;rw[S]at q;dsimp only at q;have g3:=mG H.at_ S;have am:=H.gr g3 B3;have an:=IS fF S;obtain⟨RI,ad⟩:∃RI,RI=jJ s (s.length+2) t M:=⟨_,rfl⟩
  rw[<-ad]at q;refine H8 ?_;refine L2 (zJ (K:=[811,872,870]) rfl rfl set0 fF H _ _ Z ⟨rfl,rfl,n5⟩) mS rfl rfl rfl ?_ ?_
  ·(rintro e ob' ⟨F,rfl⟩;rw[S]at F;cases F)
  rintro _ _ ⟨ak,t',F,rfl,rfl⟩;refine B6 (eV 871 U F5) A0 (H2 ?_);obtain⟨rfl,rfl⟩:M=ak/\t=t':=by rw[S]at F;cases F;exact⟨rfl,rfl⟩
  refine H2 ?_;refine C1 (X:=Nat×Set4×PSt) (fun x=>([(0,.s K7),(3,S6 w),(4,.s (.one (.ref 871 0)))]++B2 K gf,PObs s x.2.2 (Z1 (FI x.2.1)))) (fun x=>SOk s x.2.2/\S5 x.2.1/\s.length-x.2.2.at_<x.1/\RI=jJ s x.1 x.2.1 x.2.2) (fun x=>x.1) (s.length+2,t,M) ⟨am,an,by dsimp only;omega,ad⟩ ?_ ?_
  ·dsimp only;refine A91 lf (B7 Y) (by repeat (first | exact R0 | refine P0 rfl ?_ | refine pI _ d ?_)) ?_;rw[a];exact D4 (L:=[(810,_),(811,_),(871,_)]) ⟨rfl,rfl,rfl,trivial⟩ (fun j x hj hx=>(((V.pin.fgt d).cons (i:=871) (.inr d)).cons (i:=871) (.inr d)).sub j x hx)
  rintro⟨f,N,D⟩ ⟨B,I,hf,v⟩;dsimp only at B I hf v ⊢;obtain⟨f,rfl⟩:∃g,f=g+1:=⟨f-1,by omega⟩
  rw[jJ]at v;have P:=ah N;refine R6 ?_;refine M9 (x7 s D.at_ D.depth 93 B.at_ B3 A0) A0 A0 A0 (H2 ?_);by_cases E:s[D.at_]?=some 93
  ·have O:U5 s 93 D=true:=A3 E;have ag:=B.gr (M7 (s:=s) (x:=D) 1 (t6 O)) B3;have ax:=ag.nds;have av:=ag.at_;rw[A5 O]at v;rw[v]at q;dsimp only at q;rw[A3 E,A5 E];refine zc 0 (fun Q=>?_) fun Q=>?_
   ·cases Q
   refine H8 ?_;obtain⟨R,J⟩:∃R,R=if w=true then N.compl else N:=⟨_,rfl⟩
   rw[<-J]at q;refine H8 ?_;refine kT ([(0,.s K7),(4,.s (.one (.ref 871 0)))]++B2 K gf) (PObs s (D.skip 1) (Z1 (FI R))) ?_ ?_
   ·skip;refine zc 0 (fun Q=>?_) fun Q=>?_
    ·have hb:w=true:=Q;rw[A5 hb]at J;subst J;skip;refine F8 ?_;refine A9 (aF A0 (by rw[a];rfl) A0) A0 ?_;refine F0 (rC N I) (V2 (I9 TySz.out A0 (by rw[a];rfl) A0 A0 A0 A0) ?_);refine F8 ?_;refine A91 lf (B7 Y) L6 ?_;rw[a]
     exact D4 (L:=[(810,_),(811,_),(871,_)]) ⟨rfl,rfl,rfl,trivial⟩ (fun j x hj hx=>by
      have:=W (FI N) D;rw[a]at this
      exact ((this.cons (i:=810) (.inl rfl)).cons (i:=871) (.inr d)).sub j x hx)
    ·have hb:w=false:=Q;rw[A6 (by rw[hb];decide)]at J;subst J;refine F8 ?_;exact A91 lf (B7 Y) L6 (N5 (K:=[811,872,870]) (st:=D.skip 1) ⟨rfl,rfl,n5⟩)
   refine k2 ?_;have P:=ah R;refine H2 ?_;refine A9 (aF A0 (by rw[a];rfl) A0) A0 ?_;refine YI (KO (K:=[811,872,870]) (s:=s) (st:=D.skip 1) (Z:=Z1 (FI R)) R B3 ⟨rfl,rfl,n5⟩) mS A0 A0 A0 (H2 ?_);refine F8 ?_;exact I3 Y5 L6 (N5 (K:=K) (st:=(qI R (D.skip 1)).1) ⟨rfl,rfl,W _ _⟩) ⟨(qI R (D.skip 1)).1,(qI R (D.skip 1)).2,q,rfl,rfl⟩
  ·have O:U5 s 93 D=false:=A4 E;rw[A6 (by rw[O];decide)]at v;rw[A4 E,A6 E];refine zc 0 (fun Q=>?_) fun Q=>?_;rotate_left
   ·cases Q
   refine H2 ?_;cases A:iL s N D with
   | error e0 =>
    rw[A]at v;rw[v]at q;refine H2 ?_;refine A9 (aF A0 (by rw[a];rfl) A0) A0 ?_;refine L2 (zJ (K:=[811,872,870]) rfl rfl N I B _ _ (Z1 (FI N)) ⟨rfl,rfl,n5⟩) mS rfl rfl rfl ?_ ?_
    ·(rintro e ob' ⟨m,rfl⟩;rw[A]at m;cases m;exact H1 L6 (ai _).sub ⟨q,rfl⟩)
    rintro _ _ ⟨_,_,m,_,_⟩;rw[A]at m;cases m
   | ok p2 =>
    obtain⟨sd,td⟩:=p2;rw[A]at v;dsimp only at v;have gd:=mG B.at_ A;have gc:=gd.cnt;have ga:=gd.len;have gb:=gd.at_;have gm:=gd.more;refine H2 ?_;refine A9 (aF A0 (by rw[a];rfl) A0) A0 ?_;refine L2 (zJ (K:=[811,872,870]) rfl rfl N I B _ _ (Z1 (FI N)) ⟨rfl,rfl,n5⟩) mS rfl rfl rfl ?_ ?_
    ·(rintro e ob' ⟨m,rfl⟩;rw[A]at m;cases m)
    rintro _ _ ⟨ap,aq,m,rfl,rfl⟩;refine V2 (I9 TySz.out A0 (by rw[a];rfl) A0 A0 A0 A0) ?_;refine F8 ?_;obtain⟨rfl,rfl⟩:sd=ap/\td=aq:=by rw[A]at m;cases m;exact⟨rfl,rfl⟩
    refine GO ?_;refine⟨(f,td,sd),⟨B.gr gd B3,IS I A,?_,v⟩,Nat.lt_succ_self f,?_⟩
    ·dsimp only;omega
    ·dsimp only;refine A91 lf (B7 Y) L6 ?_;rw[a]
     exact D4 (L:=[(810,_),(811,_),(871,_)]) ⟨rfl,rfl,rfl,trivial⟩ (fun j x hj hx=>by
      have:=W (FI N) sd;rw[a]at this
      exact (this.cons (i:=871) (x:=FI td) (.inr d)).sub j x hx)
theorem HL{K:List Nat}{s:Str}{st:PSt}(x:SOk s st)(B:st.at_+1<=s.length)(b:Int):PX 185 [K7,Q5 b] K s st (y3 s b st) iZ:=by
 intro gf ob Z u;have C:=u.z.self;have w:=x.len;have D:=x.nds;obtain⟨a,f⟩:∃a,a=(sP ⟨b,set0,0,0,[]⟩ (st.skip 1)).1:=⟨_,rfl⟩
 have j:y3 s b st=match s[st.at_+1]? with
  | some c=>if c∈([42,43,63,123]:Str) then .error 40 else .ok (a,((st.skip 1).nodes.length:Int))
  | none=>.ok (a,((st.skip 1).nodes.length:Int)):=by rw[f];rfl
 have p:a.at_=st.at_+1:=by rw[f];rfl
 refine MetX.introH Tryz.func185 F5 rfl rfl rfl (fun A=>?_);refine C3 (s7 (l:=[(0,.s K7),(1,.s (Q5 b))]) u lf A L6) ?_;refine zz 20 ?_;refine zZ ((A99 Int 1 E0 17 7 A0 A0)) (YI (add_pm (K:=K) (s:=s) (st:=st.skip 1) (Z:=Z) ⟨b,set0,0,0,[]⟩ (show st.nodes.length<=1000 by omega) ⟨rfl,rfl,n5⟩) mS A0 A0 A0 (H2 ?_));rw[<-f];refine H2 ?_;by_cases q:st.at_+1<s.length
 ·have y:s[st.at_+1]?=some (s.getD (st.at_+1) 0):=by rw[B30,B23 q];rfl
  obtain⟨c,v⟩:∃c,c=s.getD (st.at_+1) 0:=⟨_,rfl⟩
  rw[<-v]at y;rw[y]at j;dsimp only at j;refine H2 ?_;refine M9 (jX s a.at_ a.depth B3 B3 A0) A0 A0 A0 (N0 ?_);rw[p,A3 q,<-v];refine R6 ?_;refine E4 A0 A0 A0 A0 (F8 ?_);refine E4 A0 A0 A0 A0 (F0 (tN [42,43,63,123] c) (E4 A0 A0 A0 A0 (F8 ?_)));refine A9 (Y2 A0 (rfl) A0) A0 ?_;refine zc 1 (fun m=>?_) fun m=>?_
  ·have i:=(v6 c _).1 (A1 m);skip;refine H2 ?_;refine N8 A0 ?_;exact H1 L6 C.pobs ⟨by rw[j];exact A5 i,rfl⟩
  have i:¬c∈([42,43,63,123]:Str):=fun e=>A2 m ((v6 c _).2 e);refine J5 ?_;exact I3 Y5 L6 (N5 (K:=K) (st:=a) ⟨rfl,rfl,n5⟩) ⟨a,_,by rw[j];exact A6 i,rfl,rfl⟩
 rw[B58 (show s.length<=st.at_+1 by omega)]at j;refine H2 ?_;refine M9 (jX s a.at_ a.depth B3 B3 A0) A0 A0 A0 (N0 ?_);rw[p,A4 q];refine J5 ?_;refine A9 (Y3 A0 (rfl) A0) A0 ?_;refine zc 1 (fun m=>?_) fun m=>?_
 ·cases m
 refine J5 ?_;exact I3 Y5 L6 (N5 (K:=K) (st:=a) ⟨rfl,rfl,n5⟩) ⟨a,_,j,rfl,rfl⟩
def HM(c:UInt8):FuncId:=if c=40 then 195 else if c=91 then 196 else if c=46 then 197 else if c=92 then 198 else 199
def stepP(st:PSt)(c:UInt8):Ps FuncId:=if c∈([42,43,63,123]:Str) then .error 40 else .ok (st,HM c)
abbrev cloR:FuncId->List S1:=fun f=>[.one (.clo f [(810,0)] [])]
theorem WX{K:List Nat}{s:Str}{st:PSt}(c:UInt8):PX 186 [K7,eS c] K s st (stepP st c) cloR:=by
 intro gf ob Z t;have i:=t.z.self;have f:∀k:UInt8,(c.toNat:Int)=k.toNat->c=k:=fun k e=>B88.1 B3;have d:∀k:UInt8,¬((c.toNat:Int)=k.toNat)->¬c=k:=fun k h e=>h (by rw[e]);refine MetX.introH Tryz.func186 F5 rfl rfl rfl (fun u=>?_);refine C3 (s7 (l:=[(0,.s K7),(1,.s (eS c))]) t lf u L6) ?_;refine zc 15 (fun a=>?_) fun a=>?_
 ·have b:=f 40 (A1 a);refine J5 ?_;exact I3 Y5 L6 (N5 (K:=K) (st:=st) ⟨rfl,rfl,n5⟩) ⟨st,_,by rw[b];rfl,rfl,rfl⟩
 have j:=d 40 (A2 a);refine zc 5 (fun a=>?_) fun a=>?_
 ·have b:=f 91 (A1 a);refine J5 ?_;exact I3 Y5 L6 (N5 (K:=K) (st:=st) ⟨rfl,rfl,n5⟩) ⟨st,_,by rw[b];rfl,rfl,rfl⟩
 have q:=d 91 (A2 a);refine zc 5 (fun a=>?_) fun a=>?_
 ·have b:=f 46 (A1 a);refine J5 ?_;exact I3 Y5 L6 (N5 (K:=K) (st:=st) ⟨rfl,rfl,n5⟩) ⟨st,_,by rw[b];rfl,rfl,rfl⟩
 have o:=d 46 (A2 a);refine zc 5 (fun a=>?_) fun a=>?_
 ·have b:=f 92 (A1 a);refine J5 ?_;exact I3 Y5 L6 (N5 (K:=K) (st:=st) ⟨rfl,rfl,n5⟩) ⟨st,_,by rw[b];rfl,rfl,rfl⟩
 have r:=d 92 (A2 a);refine zc 6 (fun a=>?_) fun a=>?_
 ·have b:=f 42 (A1 a);refine zc 1 (fun a=>?_) fun a=>?_
  ·skip;refine H2 ?_;refine N8 A0 ?_;exact H1 L6 i.pobs ⟨by rw[b];rfl,rfl⟩
  ·rw[b]at a;cases a
 have m:=d 42 (A2 a);refine zc 5 (fun a=>?_) fun a=>?_
 ·have b:=f 43 (A1 a);refine zc 1 (fun a=>?_) fun a=>?_
  ·skip;refine H2 ?_;refine N8 A0 ?_;exact H1 L6 i.pobs ⟨by rw[b];rfl,rfl⟩
  ·rw[b]at a;cases a
 have n:=d 43 (A2 a);refine zc 5 (fun a=>?_) fun a=>?_
 ·have b:=f 63 (A1 a);refine zc 1 (fun a=>?_) fun a=>?_
  ·skip;refine H2 ?_;refine N8 A0 ?_;exact H1 L6 i.pobs ⟨by rw[b];rfl,rfl⟩
  ·rw[b]at a;cases a
 have p:=d 63 (A2 a);skip;refine zc 4 (fun a=>?_) fun a=>?_
 ·have b:=f 123 (A1 a);skip;refine H2 ?_;refine N8 A0 ?_;exact H1 L6 i.pobs ⟨by rw[b];rfl,rfl⟩
 have g:=d 123 (A2 a);refine X0 ?_;refine I3 Y5 L6 (N5 (K:=K) (st:=st) ⟨rfl,rfl,n5⟩) ⟨st,_,?_,rfl,rfl⟩;unfold stepP HM;rw[A6 (by simp only[B34,C00,or_false,m,n,p,g,not_false_eq_true]),A6 j,A6 q,A6 o,A6 r]
def CA(s:Str)(f:Nat)(st:PSt)(c:UInt8):Ps Int:=if c=40 then U9 s J3 f st else if c=91 then jK s (s.length+2) st else if c=46 then .ok (FQ st) else if c=92 then pX s st else l7 s st
theorem atom_gr{s:Str}{f:Nat}{st:PSt}{c:UInt8}(b:st.at_+1<=s.length){z:PSt}{k:Int}(h:CA s f st c=.ok (z,k)):Gr s 0 0 st z/\EG z k:=by
 unfold CA at h;split at h
 ·exact (eO f).paren b h
 split at h
 ·exact EJ b h
 split at h
 ·have d:=gr_any (s:=s) (x:=st) b;rw[Except.ok.inj h]at d;exact d
 split at h
 ·exact wY b h
 ·exact qA h
theorem atom_px{K:List Nat}(a:E8 K 870=true)(b:E8 K 871=true)(d:E8 K 872=true){s:Str}{st:PSt}(i:SOk s st)(e:st.at_+1<=s.length){f:Nat}{c:UInt8}
  (g:c=40->PX 195 [K7] K s st (U9 s J3 f st) iZ):PX (HM c) [K7] K s st (CA s f st c) iZ:=by
 unfold HM CA;split
 ·rename_i h;exact g h
 split
 ·exact A66 a b d i e
 split
 ·exact any_px i
 split
 ·exact ZR i e
 ·exact ZP i
theorem OZ{K:List Nat}(H:E8 K 870=true)(I:E8 K 871=true)(J:E8 K 872=true){s:Str}{st:PSt}(G:SOk s st){f:Nat}{c:UInt8}(hc:s[st.at_]?=some c)
  (P:c=40->PX 195 [K7] K s st (U9 s J3 f st) iZ):PX 171 [K7,eS c] K s st (cX s J3 (f+1) st c) iZ:=by
 intro gf ob Z V;have hz:=V.z.self;have X:=G.len;have hn:=G.nds;have B:st.at_+1<=s.length:=by have:=(B28.1 hc).1;omega
 have Y:∀k:UInt8,(c.toNat:Int)=k.toNat->c=k:=fun k e=>B88.1 B3;have O:∀k:UInt8,¬((c.toNat:Int)=k.toNat)->¬c=k:=fun k h e=>h (by rw[e]);obtain⟨R,d⟩:∃R,R=cX s J3 (f+1) st c:=⟨_,rfl⟩
 rw[<-d];rw[cX]at d;refine MetX.introH Tryz.func171 F5 rfl rfl rfl (fun hH=>?_);refine C3 (s7 (l:=[(0,.s K7),(1,.s (eS c))]) V lf hH L6) ?_;refine zc 15 (fun t=>?_) fun t=>?_
 ·have D:=Y 94 (A1 t);rw[A5 D]at d;refine H8 ?_;refine L2 (HL (K:=K) G B 2 _ _ Z ⟨rfl,rfl,n5⟩) mS rfl rfl rfl ?_ ?_
  ·(rintro e ob' ⟨a,rfl⟩;exact H1 L6 (fun _ _ h=>h) ⟨by rw[d,a],rfl⟩)
  rintro _ _ ⟨g,v,a,rfl,rfl⟩;refine H2 ?_;refine F8 ?_;exact I3 Y5 L6 (N5 (K:=K) (st:=g) ⟨rfl,rfl,n5⟩) ⟨g,v,by rw[d,a],rfl,rfl⟩
 have D:=O 94 (A2 t);rw[A6 D]at d;refine zc 5 (fun t=>?_) fun t=>?_
 ·have C:=Y 36 (A1 t);rw[A5 C]at d;refine H8 ?_;refine L2 (HL (K:=K) G B 3 _ _ Z ⟨rfl,rfl,n5⟩) mS rfl rfl rfl ?_ ?_
  ·(rintro e ob' ⟨a,rfl⟩;exact H1 L6 (fun _ _ h=>h) ⟨by rw[d,a],rfl⟩)
  rintro _ _ ⟨g,v,a,rfl,rfl⟩;refine H2 ?_;refine F8 ?_;exact I3 Y5 L6 (N5 (K:=K) (st:=g) ⟨rfl,rfl,n5⟩) ⟨g,v,by rw[d,a],rfl,rfl⟩
 have C:=O 36 (A2 t);rw[A6 C]at d;refine H2 ?_;by_cases T:c∈([42,43,63,123]:Str)
 ·have M:stepP st c=.error 40:=A5 T;have L:R=.error 40:=by
   rw[d];simp only[B34,C00,or_false]at T;rcases T with rfl | rfl | rfl | rfl<;>rfl
  refine H8 ?_;refine L2 (WX (K:=K) (s:=s) (st:=st) c _ _ Z ⟨rfl,rfl,n5⟩) mS rfl rfl rfl ?_ ?_
  ·(rintro e ob' ⟨a,rfl⟩;rw[M]at a;cases a;exact H1 L6 (fun _ _ h=>h) ⟨L,rfl⟩)
  rintro _ _ ⟨g,v,a,rfl,rfl⟩;rw[M]at a;cases a
 have M:stepP st c=.ok (st,HM c):=A6 T;have E:R=y4 s J3 (CA s f st c):=by
  rw[d];unfold CA;split
  ·rfl
  split
  ·rfl
  split
  ·rfl
  split
  ·rfl
  ·rfl
 clear d;refine H8 ?_;refine L2 (WX (K:=K) (s:=s) (st:=st) c _ _ Z ⟨rfl,rfl,n5⟩) mS rfl rfl rfl ?_ ?_
 ·(rintro e ob' ⟨a,rfl⟩;rw[M]at a;cases a)
 rintro _ _ ⟨g,v,a,rfl,rfl⟩;rw[M]at a;cases a;refine H2 ?_;refine F8 ?_;obtain⟨F,hF⟩:∃F,F=HM c:=⟨_,rfl⟩
 have y:=atom_px H I J G B (c:=c) P;rw[<-hF]at y ⊢;obtain⟨A,hA⟩:∃A,A=CA s f st c:=⟨_,rfl⟩
 have N:=fun z k=>atom_gr (f:=f) (c:=c) B (z:=z) (k:=k);rw[<-hA]at y E N;cases A with
 | error e0 =>
  refine H2 ?_;refine NC (y _ _ Z ⟨rfl,rfl,n5⟩) mS rfl rfl rfl rfl ?_ ?_
  ·(rintro e ob' ⟨a,rfl⟩;cases a;exact H1 L6 (fun _ _ h=>h) ⟨E,rfl⟩)
  rintro _ _ ⟨g,v,a,rfl,rfl⟩;cases a
 | ok p =>
  obtain⟨g,k⟩:=p;obtain⟨U,i2⟩:=N g k rfl;have n:=G.gr U (B29 _);have ae:=n.nds;have ac:=n.at_;refine H2 ?_;refine NC (y _ _ Z ⟨rfl,rfl,n5⟩) mS rfl rfl rfl rfl ?_ ?_
  ·(rintro e ob' ⟨a,rfl⟩;cases a)
  rintro _ _ ⟨ab,v,a,rfl,rfl⟩;cases a;refine H2 ?_;refine F8 ?_;have u:R=match bX s J3 g with
   | .error e=>.error e
   | .ok (st',none)=>.ok (st',k)
   | .ok (st',some (j,m))=>.ok (sP ⟨6,set0,j,m,[k]⟩ st'):=by rw[E];rfl
  cases i:bX s J3 g with
  | error e0 =>
   rw[i]at u;refine H2 ?_;refine L2 (BX (K:=K) n _ _ Z ⟨rfl,rfl,n5⟩) mS rfl rfl rfl ?_ ?_
   ·(rintro e ob' ⟨a,rfl⟩;rw[i]at a;cases a;exact H1 L6 (fun _ _ h=>h) ⟨u,rfl⟩)
   rintro _ _ ⟨x,b,a,rfl,rfl⟩;rw[i]at a;cases a
  | ok q =>
   obtain⟨x,b⟩:=q;rw[i]at u;cases b with
   | none =>
    refine H2 ?_;refine L2 (BX (K:=K) n _ _ Z ⟨rfl,rfl,n5⟩) mS rfl rfl rfl ?_ ?_
    ·(rintro e ob' ⟨a,rfl⟩;rw[i]at a;cases a)
    rintro _ _ ⟨S,b,a,w,rfl⟩;rw[i]at a;cases a;dsimp only at w;subst w;refine X0 ?_;refine zc 6 (fun t=>?_) fun t=>?_;rotate_left
    ·cases t
    refine N0 ?_;exact I3 Y5 L6 (N5 (K:=K) (st:=x) ⟨rfl,rfl,n5⟩) ⟨x,k,u,rfl,rfl⟩
   | some q =>
    obtain⟨j,m⟩:=q;rcases oY U.len i with ⟨W,_⟩ | ⟨q,W,g3,hb⟩
    ·cases W
    have Q:=n.gr g3 B3;have af:=Q.nds;have ad:=Q.at_;refine H2 ?_;refine L2 (BX (K:=K) n _ _ Z ⟨rfl,rfl,n5⟩) mS rfl rfl rfl ?_ ?_
    ·(rintro e ob' ⟨a,rfl⟩;rw[i]at a;cases a)
    rintro _ _ ⟨S,b,a,w,rfl⟩;rw[i]at a;cases a;dsimp only at w;subst w;refine X0 ?_;refine zc 6 (fun t=>?_) fun t=>?_
    ·cases t
    refine J5 ?_;refine A9 (B8 (c:=E0) (ys:=[k]) (C5 A0 A0 A0 A0 E5) A0 A0 A0) A0 (F8 ?_);refine YI (add_pm (K:=K) (s:=s) (st:=x) (Z:=Z) ⟨6,set0,j,m,[k]⟩ B3 ⟨rfl,rfl,n5⟩) mS A0 A0 A0 (H2 ?_);refine F8 ?_;exact I3 Y5 L6 (N5 (K:=K) (st:=(sP ⟨6,set0,j,m,[k]⟩ x).1) ⟨rfl,rfl,n5⟩) ⟨_,_,u,rfl,rfl⟩
def aO(n:Nat):Nat:=900+2*n
def pO(n:Nat):Nat:=901+2*n
def sB:Nat->List Nat
 | 0=>[811,870,871,872]
 | n+1=>pO n::aO n::sB n
theorem ksN_iff{n j:Nat}:E8 (sB n) j=true↔j=811\/j=870\/j=871\/j=872\/(900<=j/\j<900+2*n):=by
 induction n with
 | zero =>
  rw[t8];simp only[sB,B34,C00,or_false];omega
 | succ n a =>
  rw[t8]at a ⊢;simp only[sB,B34,aO,pO];rw[a];omega
theorem ksA_iff{n j:Nat}:E8 (aO n::sB n) j=true↔j=aO n\/E8 (sB n) j=true:=by
 rw[t8,t8,B34]
theorem KP{n j:Nat}(h:¬(j=811\/j=870\/j=871\/j=872\/(900<=j/\j<900+2*n))):E8 (sB n) j=false:=by
 cases hb:E8 (sB n) j
 ·rfl
 ·exact absurd (ksN_iff.1 hb) h
theorem KQ(n:Nat):KOk (sB n):=⟨ksN_iff.2 (.inl rfl),KP B3⟩
theorem ksA_ok(n:Nat):KOk (aO n::sB n):=⟨ksA_iff.2 (.inr (KQ n).h811),by
 cases hb:E8 (aO n::sB n) 810
 ·rfl
 ·rcases ksA_iff.1 hb with h | h
  ·unfold aO at h;omega
  ·rw[(KQ n).h810]at h;cases h⟩
theorem fQ{k:Nat}{fr:Fr}{i:Nat}{s:SV}(h:C7 fr i=some s)(a:s.free k=true):C7 (Fr.forget k fr) i=some s:=by
 rw[K5,h];show some (s.forget k)=some s;rw[SV.forget_free a]
theorem KR{k:Nat}{fr:Fr}{i:Nat}{α:Type}{a:Nat}{c:α->Nat->Cell}{d:List α}(h:C7 fr i=some (.s (.one (.buf k α a c d)))):C7 (Fr.forget k fr) i=some (B9 α a c d):=by
 rw[K5,h];show some (SV.s (.one (cond (Nat.beq k k) _ _)))=_;rw[Nat.beq_refl];rfl
theorem tZ{K:List Nat}{a:Nat}{s:Str}{st:PSt}{x:Ob}{Z ob:Obs}(j:a≠810)(i:a≠811)(ha:E8 K a=true)(l:ZOk K Z Z)
  (g:∀k o,k≠a->B0 (PObs s st Z) k=some o->B0 ob k=some o):∀k o,B0 (PObs s st ((a,x)::Z)) k=some o->B0 ((a,x)::Obs.forget a ob) k=some o:=fun k o c=>by
 by_cases e:a=k
 ·subst e;rw[B4];rw[A7 (fun e=>j e.symm),A7 (fun e=>i e.symm),B4]at c;exact c
 have b:B0 (PObs s st Z) k=some o:=by
  by_cases f:810=k
  ·subst f;rw[B4]at c;rw[B4];exact c
  rw[A7 f]at c ⊢;by_cases d:811=k
  ·subst d;rw[B4]at c;rw[B4];exact c
  rw[A7 d,A7 e]at c;rw[A7 d];exact c
 rw[A7 e,I8,g k o (fun h=>e h.symm) b];show some (o.forget a)=some o;rw[Ob.forget_free ?_];by_cases f:810=k
 ·subst f;rw[B4]at b;cases b;simp[Ob.free,TC.free,qD,sA (show 811≠a from fun e=>i e.symm)]
 rw[A7 f]at b;by_cases d:811=k
 ·subst d;rw[B4]at b;cases b;rfl
 rw[A7 d]at b;exact l.free k o b a ha
theorem KS{K:List Nat}{a:Nat}{s:Str}{st:PSt}{x:Ob}{Z:Obs}(g:a≠810)(j:a≠811)(ha:E8 K a=true)(l:ZOk K Z Z):∀k o,B0 (PObs s st Z) k=some o->B0 (Obs.forget a (PObs s st ((a,x)::Z))) k=some o:=fun k o b=>by
 have e:k≠a:=fun e=>by
  subst e;rw[A7 (fun e=>g e.symm),A7 (fun e=>j e.symm),l.none (.inr ha)]at b;cases b
 have h:=tZ (s:=s) (st:=st) (x:=x) (Z:=Z) (ob:=PObs s st ((a,x)::Z)) g j ha l (fun k o b c=>by
  by_cases d:810=k
  ·subst d;rw[B4]at c ⊢;exact c
  rw[A7 d]at c ⊢;by_cases f:811=k
  ·subst f;rw[B4]at c ⊢;exact c
  rw[A7 f]at c ⊢
  rw[A7 (fun h=>b h.symm)];exact c) k o
 rw[A7 (fun h=>e h.symm)]at h;refine h ?_;by_cases d:810=k
 ·subst d;rw[B4]at b ⊢;exact b
 rw[A7 d]at b ⊢;by_cases f:811=k
 ·subst f;rw[B4]at b ⊢;exact b
 rw[A7 f]at b ⊢;rw[A7 (fun h=>e h.symm)];exact b
theorem PA{s:Str}{st:PSt}{y:Ob}{Z:Obs}{a:Nat}:∀k o,k≠a->B0 (PObs s st Z) k=some o->B0 (PObs s st ((a,y)::Z)) k=some o:=fun k o e b=>by
 by_cases c:810=k
 ·subst c;rw[B4]at b ⊢;exact b
 rw[A7 c]at b ⊢;by_cases d:811=k
 ·subst d;rw[B4]at b ⊢;exact b
 rw[A7 d]at b ⊢;rw[A7 (fun h=>e h.symm)];exact b
theorem PB{s:Str}{st:PSt}{x:Ob}{Z:Obs}{a:Nat}(b:a≠810)(c:a≠811):B0 (PObs s st ((a,x)::Z)) a=some x:=by
 rw[A7 (fun e=>b e.symm),A7 (fun e=>c e.symm),B4]
theorem HN{K:List Nat}{s:Str}{st:PSt}{Z:Obs}{a:Nat}(b:a≠810)(c:a≠811)(ha:E8 K a=true)(d:ZOk K Z Z):B0 (PObs s st Z) a=none:=by
 rw[A7 (fun e=>b e.symm),A7 (fun e=>c e.symm),d.none (.inr ha)]
theorem PC{a:Nat}{K:List Nat}(h:E8 K a=false){kids:List Int}:∀k,E8 K k=true->(SV.s (.one (.buf a Int 1 E0 kids))).free k=true:=fun k c=>by
 show (!Nat.beq a k)=true;rw[sA (fun e=>by rw[e,c]at h;cases h)];rfl
theorem b1x{p:Prop}(h:p:=by repeat (first | exact R0 | refine pI _ (by assumption) ?_ | refine P0 rfl ?_)):p:=h
theorem alt_px{n:Nat}(am:n<=50){s:Str}{st:PSt}(hs:SOk s st)(hn:st.nodes.length<=st.at_)(hd:st.depth+n=50){F:Nat}(hF:F<=5000)(D:gG s J3 F st []≠.error 0)
  (M:∀f st',f<F->SOk s st'->st'.nodes.length<=st'.at_->st'.depth+n=50->st'.at_+1<=s.length->U9 s J3 f st'≠.error 0->PX 195 [K7] (sB n) s st' (U9 s J3 f st') iZ) :
  PX 141 [K7] (aO n::sB n) s st (gG s J3 F st []) iZ:=by
 intro gf ob Z hI;obtain⟨K,hK⟩:∃K,K=aO n::sB n:=⟨_,rfl⟩
 obtain⟨a,B⟩:∃a,a=aO n:=⟨_,rfl⟩
 obtain⟨J,L⟩:∃J,J=sB n:=⟨_,rfl⟩
 have q:E8 K a=true:=by rw[hK,B];exact ksA_iff.2 (.inl rfl)
 have W:E8 J a=false:=by rw[L,B];exact KP (by unfold aO;omega)
 have af:KOk J:=by rw[L];exact KQ n
 have ad:∀k,E8 J k=true->E8 K k=true:=fun k hk=>by rw[L]at hk;rw[hK];exact ksA_iff.2 (.inr hk)
 have G:E8 J 870=true:=by rw[L];exact ksN_iff.2 B3
 have H:E8 J 871=true:=by rw[L];exact ksN_iff.2 B3
 have I:E8 J 872=true:=by rw[L];exact ksN_iff.2 B3
 have O:a≠810:=by rw[B];unfold aO;omega
 have T:a≠811:=by rw[B];unfold aO;omega
 have Y:Nat.blt a 1000000=true:=by
  have:a<1000000:=by rw[B];unfold aO;omega
  simpa using this
 rw[<-hK]at hI ⊢;rw[<-L]at M;clear hK B L;have N:=hI.z.self;have v:=N;have al:=hs.len;obtain⟨R,hR⟩:∃R,R=gG s J3 F st []:=⟨_,rfl⟩
 rw[<-hR]at D ⊢;obtain⟨Z1,y⟩:∃Z1:List Int->Obs,Z1=fun kids=>(a,.spare kids.length 1 3)::Z:=⟨_,rfl⟩
 have aj:∀kids,ZOk J (Z1 kids) (Z1 kids):=fun kids=>by
  rw[y];exact ZOk.own ((N.less af ad).consZ (N.none (.inr q))) ⟨O,W⟩ (fun j hj=>rfl) (B4 _ _ _)
 have ak:∀kids,ZOk K Z (Z1 kids):=fun kids=>by rw[y];exact v.cons (i:=a) (.inr q)
 refine MetX.introH Tryz.func141 F5 rfl rfl rfl (fun U=>?_);refine C3 (s7 (l:=[(0,.s K7)]) hI ⟨cL rfl,trivial⟩ U L6) ?_;refine X0 ?_;refine C3 (B18 a Int 1 E0 3 (t:=3) A0 (HN O T q N) Y) (k3 ?_);refine C1 (X:=Nat×List Int×PSt) (fun x=>([(0,.s K7),(3,.s (.one (.buf a Int 1 E0 x.2.1)))]++B2 K gf,PObs s x.2.2 (Z1 x.2.1))) (fun x=>SOk s x.2.2/\x.2.2.nodes.length<=x.2.2.at_/\x.2.2.depth+n=50/\x.2.1.length+x.1<=F/\R=gG s J3 x.1 x.2.2 x.2.1) (fun x=>x.1) (F,[],st) ⟨hs,hn,hd,by simp,hR⟩ ?_ ?_
 ·dsimp only;refine A91 ⟨cL (fQ A0 (lG v.k8 a q)),cL rfl,trivial⟩ (B7 U) b1x ?_;rw[y];exact tZ O T q N fun _ _ _ h=>h
 rintro⟨f,kids,A⟩ ⟨w,ab,P,ah,d⟩;dsimp only at w ab P ah d ⊢;have ai:=w.at_;have N:=aj kids;refine R6 ?_;refine M9 (jX s A.at_ A.depth ai B3 A0) A0 A0 A0 (zz 20 ?_);by_cases hm:A.at_<s.length;rotate_left
 ·have S:s[A.at_]?=none:=B58 B3;rw[A4 hm];obtain⟨f,rfl⟩:∃g,f=g+1:=by
   cases f with
   | zero=>exact absurd (by rw[d,gG]) D
   | succ g=>exact⟨g,rfl⟩
  rw[gG,S]at d;dsimp only at d;refine zc 0 (fun C=>?_) fun C=>?_;rotate_left
  ·cases C
  refine k2 ?_;have ag:=w.nds;refine C3 (Sees.forget a) (C3 (fr':=[(0,.s K7),(3,B9 Int 1 E0 kids)]++B2 K gf) (ob':=PObs s A Z) (A91 ⟨cL (fQ A0 (lG v.k8 a q)),cL (KR rfl),trivial⟩ (B7 U) b1x (by rw[y];exact KS O T q v)) ?_);have N:=v;refine H8 ?_;refine YI (BY (K:=K) (s:=s) (st:=A) (Z:=Z) 4 kids B3 B3 ⟨rfl,rfl,n5⟩) mS A0 A0 A0 (H2 ?_);refine F8 ?_;exact I3 Y5 L6 (fun _ _ h=>h) ⟨_,_,d,rfl,rfl⟩
 have S:s[A.at_]?=some (s.getD A.at_ 0):=by rw[B30,B23 hm];rfl
 obtain⟨c,hc⟩:∃c,c=s.getD A.at_ 0:=⟨_,rfl⟩
 rw[<-hc]at S;rw[<-hc,A3 hm];obtain⟨f,rfl⟩:∃g,f=g+1:=by
  cases f with
  | zero=>exact absurd (by rw[d,gG]) D
  | succ g=>exact⟨g,rfl⟩
 rw[gG,S]at d;dsimp only at d;have hu:∀k:UInt8,(c.toNat:Int)=k.toNat↔c=k:=fun k=>⟨fun e=>B88.1 B3,fun e=>by rw[e]⟩
 have E:(c.toNat:Int)=124↔c=124:=hu 124;have V:(c.toNat:Int)=41↔c=41:=hu 41;by_cases he:c=124\/c=41
 ·rw[A5 he]at d;refine zc 0 (fun C=>?_) fun C=>?_;rotate_left
  ·exfalso;rw[PK,PK]at C;simp only[Bool.not_true,B83,B89,decide_eq_false_iff_not,E,V]at C;rcases he with h | h
   ·exact C.1 h
   ·exact C.2 h
  refine k2 ?_;have ag:=w.nds;refine C3 (Sees.forget a) (C3 (fr':=[(0,.s K7),(3,B9 Int 1 E0 kids)]++B2 K gf) (ob':=PObs s A Z) (A91 ⟨cL (fQ A0 (lG v.k8 a q)),cL (KR rfl),trivial⟩ (B7 U) b1x (by rw[y];exact KS O T q v)) ?_);have N:=v;refine H8 ?_;refine YI (BY (K:=K) (s:=s) (st:=A) (Z:=Z) 4 kids B3 B3 ⟨rfl,rfl,n5⟩) mS A0 A0 A0 (H2 ?_);refine F8 ?_;exact I3 Y5 L6 (fun _ _ h=>h) ⟨_,_,d,rfl,rfl⟩
 rw[A6 he]at d;refine zc 0 (fun C=>?_) fun C=>?_
 ·exfalso;rw[PK,PK]at C;simp only[Bool.not_true,B83,B63,decide_eq_true_eq,E,V]at C;exact he C
 refine F8 ?_;have ae:∀k,E8 J k=true->(SV.s (.one (.buf a Int 1 E0 kids))).free k=true:=PC W;refine C3 (A91 (l:=[(0,.s K7),(3,.s (.one (.buf a Int 1 E0 kids))),(4,.s (eS c))]) lf (B7 U) L6 (fun _ _ h=>h)) ?_;obtain⟨f,rfl⟩:∃g,f=g+1:=by
  cases f with
  | zero=>exact absurd (by rw[d,cX]) D
  | succ g=>exact⟨g,rfl⟩
 have ac:c=40->PX 195 [K7] J s A (U9 s J3 f A) iZ:=fun e =>
  M f A B3 w ab P B3 (fun h=>D (by rw[d,cX,A6 (by rw[e];decide),A6 (by rw[e];decide),A5 e,h];rfl))
 cases Q:cX s J3 (f+1) A c with
 | error e0 =>
  rw[Q]at d;refine R6 ?_;refine L2 (OZ (K:=J) G H I w S ac _ _ (Z1 kids) ⟨rfl,rfl,n5⟩) mS rfl rfl rfl ?_ ?_
  ·(rintro e ob' ⟨m,rfl⟩;rw[Q]at m;cases m;exact H1 L6 (ak _).sub ⟨d,rfl⟩)
  rintro _ _ ⟨_,_,m,_,_⟩;rw[Q]at m;cases m
 | ok p =>
  obtain⟨sd,k⟩:=p;rw[Q]at d;dsimp only at d;obtain⟨gp,ip⟩:=(eO (s:=s) (f+1)).piece S Q;have an:=gp.cnt;have ao:=gp.len;refine R6 ?_;refine L2 (OZ (K:=J) G H I w S ac _ _ (Z1 kids) ⟨rfl,rfl,n5⟩) mS rfl rfl rfl ?_ ?_
  ·(rintro e ob' ⟨m,rfl⟩;rw[Q]at m;cases m)
  rintro _ _ ⟨ap,k',m,rfl,rfl⟩;rw[Q]at m;cases m;refine A9 (B8 (c:=E0) (ys:=[k]) (C5 A0 A0 A0 A0 E5) A0 A0 A0) A0 (B6 (R7 A0 (by rw[y];exact PB O T) A0 (.pure _ _ _ _) NZ Y) A0 ?_);refine H2 ?_;refine GO ?_;refine⟨(f+1,kids++[k],sd),⟨w.gr gp (B29 _),by dsimp only;omega,by dsimp only;rw[gp.dep];exact P,by simp only[B25,B31,List.length_nil];omega,d⟩,by dsimp only;omega,?_⟩;dsimp only;refine A91 ⟨cL (show C7 (Fr.forget a _) 0=_ from fQ A0 (lG v.k8 a q)),cL rfl,trivial⟩ (B7 U) b1x ?_;rw[y];exact tZ O T q v PA
theorem ksS_iff{n j:Nat}:E8 (sB (n+1)) j=true↔j=pO n\/E8 (aO n::sB n) j=true:=by
 rw[show sB (n+1)=pO n::aO n::sB n from rfl,t8,t8,B34]
theorem pat_px{n:Nat}(ae:n<=50){s:Str}{st:PSt}(hs:SOk s st)(hn:st.nodes.length<=st.at_)(hd:st.depth+n=50){F:Nat}(hF:F<=5000)(E:jL s J3 F st≠.error 0)
  (Q:∀f st',f<F->SOk s st'->st'.nodes.length<=st'.at_->st'.depth+n=50->st'.at_+1<=s.length->U9 s J3 f st'≠.error 0->PX 195 [K7] (sB n) s st' (U9 s J3 f st') iZ) :
  PX 106 [K7] (sB (n+1)) s st (jL s J3 F st) iZ:=by
 intro gf ob Z hI;have B:∀{f:Nat} {st':PSt},f<F->SOk s st'->st'.nodes.length<=st'.at_->st'.depth+n=50->gG s J3 f st' []≠.error 0->PX 141 [K7] (aO n::sB n) s st' (gG s J3 f st' []) iZ:=fun {f st'} V h2 h3 h4 h5 =>
  alt_px ae h2 h3 h4 B3 h5 fun f' ai h6=>Q f' ai B3
 obtain⟨K,hK⟩:∃K,K=sB (n+1):=⟨_,rfl⟩
 obtain⟨a,D⟩:∃a,a=pO n:=⟨_,rfl⟩
 obtain⟨J,hJ⟩:∃J,J=aO n::sB n:=⟨_,rfl⟩
 have y:E8 K a=true:=by rw[hK,D];exact ksS_iff.2 (.inl rfl)
 have ac:E8 J a=false:=by
  rw[hJ,D];cases hb:E8 (aO n::sB n) (pO n)
  ·rfl
  ·rcases ksA_iff.1 hb with h | h
   ·unfold pO aO at h;omega
   ·have:=ksN_iff.1 h;unfold pO at this;omega
 have an:KOk J:=by rw[hJ];exact ksA_ok n
 have ag:∀k,E8 J k=true->E8 K k=true:=fun k Y=>by rw[hJ]at Y;rw[hK];exact ksS_iff.2 (.inr Y)
 have U:a≠810:=by rw[D];unfold pO;omega
 have V:a≠811:=by rw[D];unfold pO;omega
 have ab:a<1000000:=by rw[D];unfold pO;omega
 have ao:Nat.blt a 1000000=true:=by simpa using ab
 rw[<-hK]at hI ⊢;rw[<-hJ]at B;clear hK D hJ Q;have w:=hI.z.self;have P:=hs.len;obtain⟨R,L⟩:∃R,R=jL s J3 F st:=⟨_,rfl⟩
 rw[<-L]at E ⊢;obtain⟨F,rfl⟩:∃G,F=G+1:=by
  cases F with
  | zero=>exact absurd (by rw[L,jL]) E
  | succ g=>exact⟨g,rfl⟩
 rw[jL]at L;obtain⟨Z1,C⟩:∃Z1:List Int->Obs,Z1=fun kids=>(a,.spare kids.length 1 3)::Z:=⟨_,rfl⟩
 have ah:ZOk J Z Z:=w.less an ag;have ax:∀kids,ZOk J (Z1 kids) (Z1 kids):=fun kids=>by
  rw[C];exact ZOk.own (ah.consZ (w.none (.inr y))) ⟨U,ac⟩ (fun j hj=>rfl) (B4 _ _ _)
 have ay:∀kids,ZOk K Z (Z1 kids):=fun kids=>by rw[C];exact w.cons (i:=a) (.inr y)
 refine MetX.introH Tryz.func106 F5 rfl rfl rfl (fun W=>?_);refine C3 (s7 (l:=[(0,.s K7)]) hI ⟨cL rfl,trivial⟩ W L6) ?_;refine I0 ?_;have hz:=ah;cases N:gG s J3 F st [] with
 | error e0 =>
  rw[N]at L;have H:gG s J3 F st []≠.error 0:=fun h=>E (by rw[N]at h;rw[L,h]);refine H2 ?_;refine L2 (B (Nat.lt_succ_self F) hs hn hd H _ _ Z ⟨rfl,rfl,n5⟩) mS rfl rfl rfl ?_ ?_
  ·(rintro e ob' ⟨m,rfl⟩;rw[N]at m;cases m;exact H1 L6 (fun _ _ h=>h) ⟨L,rfl⟩)
  rintro _ _ ⟨_,_,m,_,_⟩;rw[N]at m;cases m
 | ok q =>
  obtain⟨aj,k⟩:=q;rw[N]at L;dsimp only at L;have H:gG s J3 F st []≠.error 0:=fun h=>by rw[N]at h;cases h
  obtain⟨g2,_⟩:=(eO (s:=s) F).alt hs.at_ (fun k Y=>by cases Y) N;have bc:=g2.cnt;have al:=g2.len;have ba:=g2.at_;have au:SOk s aj:=⟨P,al,by omega⟩
  refine H2 ?_;refine L2 (B (Nat.lt_succ_self F) hs hn hd H _ _ Z ⟨rfl,rfl,n5⟩) mS rfl rfl rfl ?_ ?_
  ·(rintro e ob' ⟨m,rfl⟩;rw[N]at m;cases m)
  rintro _ _ ⟨az,k',m,rfl,rfl⟩;rw[N]at m;cases m;refine B6 (rO a (c:=E0) (ys:=[k]) (C5 A0 A0 A0 A0 E5) A0 A0 A0 (HN U V y w) ab) A0 (H2 ?_);refine H2 ?_;refine C1 (X:=Nat×List Int×PSt) (fun x=>([(0,.s K7),(3,.s (.one (.buf a Int 1 E0 x.2.1)))]++B2 K gf,PObs s x.2.2 (Z1 x.2.1))) (fun x=>SOk s x.2.2/\x.2.2.nodes.length<=x.2.2.at_+1/\x.2.2.depth+n=50/\x.2.1.length+x.1<=F+1/\x.1<=F/\R=fE s J3 x.1 x.2.2 x.2.1) (fun x=>x.1) (F,[k],aj) ⟨au,by dsimp only;omega,by dsimp only;rw[g2.dep];exact hd,by simp only[B31,List.length_nil];omega,B29 _,L⟩ ?_ ?_
  ·dsimp only;refine A91 ⟨cL (show C7 (Fr.forget a _) 0=_ from fQ A0 (lG w.k8 a y)),cL rfl,trivial⟩ (B7 W) b1x ?_;rw[C];exact tZ U V y w fun _ _ _ h=>h
  rintro⟨f,kids,A⟩ ⟨T,af,M,aq,ap,v⟩;dsimp only at T af M aq ap v ⊢;have ar:=T.at_;have hz:=ax kids;obtain⟨f,rfl⟩:∃g,f=g+1:=by
   cases f with
   | zero=>exact absurd (by rw[v,fE]) E
   | succ g=>exact⟨g,rfl⟩
  rw[fE]at v;refine R6 ?_;refine M9 (x7 s A.at_ A.depth 124 ar B3 A0) A0 A0 A0 (F8 ?_);by_cases hb:s[A.at_]?=some 124;rotate_left
  ·have hh:¬U5 s 124 A=true:=fun h=>hb (A1 h);rw[A6 hh]at v;rw[A4 hb,A6 hb];refine zc 0 (fun ht=>?_) fun ht=>?_
   ·cases ht
   refine H2 ?_;refine C3 (fr':=[(0,.s K7),(3,.s (.one (.buf a Int 1 E0 kids)))]++B2 K gf) (ob':=PObs s A (Z1 kids)) (A91 lf (B7 W) L6 (N5 (K:=J) (st:=A) ⟨rfl,rfl,n5⟩)) ?_;refine C3 (Sees.forget a) (C3 (fr':=[(0,.s K7),(3,B9 Int 1 E0 kids)]++B2 K gf) (ob':=PObs s A Z) (A91 ⟨cL (fQ A0 (lG w.k8 a y)),cL (KR rfl),trivial⟩ (B7 W) b1x (by rw[C];exact KS U V y w)) ?_);have hz:=w;refine H8 ?_;refine YI (BY (K:=K) (s:=s) (st:=A) (Z:=Z) 5 kids B3 B3 ⟨rfl,rfl,n5⟩) mS A0 A0 A0 (H2 ?_);refine F8 ?_;exact I3 Y5 L6 (fun _ _ h=>h) ⟨_,_,v,rfl,rfl⟩
  have hh:U5 s 124 A=true:=A3 hb;have aw:=M7 (s:=s) (x:=A) 1 (t6 hh);have S:SOk s (A.skip 1):=T.gr aw B3;have ad:(A.skip 1).nodes.length<=(A.skip 1).at_:=af;rw[A5 hh]at v;rw[A3 hb,A5 hb];refine zc 0 (fun ht=>?_) fun ht=>?_;rotate_left
  ·cases ht
  refine H2 ?_;refine C3 (fr':=[(0,.s K7),(3,.s (.one (.buf a Int 1 E0 kids)))]++B2 K gf) (ob':=PObs s (A.skip 1) (Z1 kids)) (A91 lf (B7 W) L6 (N5 (K:=J) (st:=A.skip 1) ⟨rfl,rfl,n5⟩)) ?_;have ak:∀k,E8 J k=true->(SV.s (.one (.buf a Int 1 E0 kids))).free k=true:=PC ac;cases O:gG s J3 f (A.skip 1) [] with
  | error e0 =>
   rw[O]at v;have I:gG s J3 f (A.skip 1) []≠.error 0:=fun h=>E (by rw[O]at h;rw[v,h]);refine H8 ?_;refine L2 (B (show f<F+1 by omega) S ad M I _ _ (Z1 kids) ⟨rfl,rfl,n5⟩) mS rfl rfl rfl ?_ ?_
   ·(rintro e ob' ⟨m,rfl⟩;rw[O]at m;cases m;exact H1 L6 (ay _).sub ⟨v,rfl⟩)
   rintro _ _ ⟨_,_,m,_,_⟩;rw[O]at m;cases m
  | ok q =>
   obtain⟨sd,j⟩:=q;rw[O]at v;dsimp only at v;have I:gG s J3 f (A.skip 1) []≠.error 0:=fun h=>by rw[O]at h;cases h
   obtain⟨g4,_⟩:=(eO (s:=s) f).alt S.at_ (fun k Y=>by cases Y) O;have be:=g4.cnt;have am:=g4.len;have bd:=g4.at_;have av:SOk s sd:=⟨P,am,by omega⟩
   refine H8 ?_;refine L2 (B (show f<F+1 by omega) S ad M I _ _ (Z1 kids) ⟨rfl,rfl,n5⟩) mS rfl rfl rfl ?_ ?_
   ·(rintro e ob' ⟨m,rfl⟩;rw[O]at m;cases m)
   rintro _ _ ⟨bf,j',m,rfl,rfl⟩;rw[O]at m;cases m;refine A9 (B8 (c:=E0) (ys:=[j]) (C5 A0 A0 A0 A0 E5) A0 A0 A0) A0 (B6 (R7 A0 (by rw[C];exact PB U V) A0 (.pure _ _ _ _) NZ ao) A0 ?_);refine H2 ?_;refine GO ?_;refine⟨(f,kids++[j],sd),⟨av,by dsimp only;omega,by dsimp only;rw[g4.dep];exact M,by simp only[B25,B31,List.length_nil];omega,by dsimp only;omega,v⟩,by dsimp only;omega,?_⟩;dsimp only;refine A91 ⟨cL (show C7 (Fr.forget a _) 0=_ from fQ A0 (lG w.k8 a y)),cL rfl,trivial⟩ (B7 W) b1x ?_;rw[C];exact tZ U V y w PA
theorem A67{n:Nat}{s:Str}{st:PSt}(hs:SOk s st)(hn:st.nodes.length<=st.at_)(hd:st.depth+n=50)(T:st.at_+1<=s.length){F:Nat}(H:U9 s J3 F st≠.error 0)
  (L:∀m f st',n=m+1->f<F->SOk s st'->st'.nodes.length<=st'.at_->st'.depth+m=50->jL s J3 f st'≠.error 0->PX 106 [K7] (sB (m+1)) s st' (jL s J3 f st') iZ) :
  PX 195 [K7] (sB n) s st (U9 s J3 F st) iZ:=by
 intro gf ob Z O;obtain⟨K,X⟩:∃K,K=sB n:=⟨_,rfl⟩
 rw[<-X]at O ⊢;have V:=O.z.self;have J:=hs.len;obtain⟨R,x⟩:∃R,R=U9 s J3 F st:=⟨_,rfl⟩
 rw[<-x]at H ⊢;obtain⟨F,rfl⟩:∃G,F=G+1:=by
  cases F with
  | zero=>exact absurd (by rw[x,U9]) H
  | succ g=>exact⟨g,rfl⟩
 rw[U9]at x;refine MetX.introH Tryz.func195 F5 rfl rfl rfl (fun N=>?_);refine C3 (s7 (l:=[(0,.s K7)]) O ⟨cL rfl,trivial⟩ N L6) ?_;refine zc 13 (fun D=>?_) fun D=>?_
 ·have E:st.depth=50:=by have:=A1 D;omega
  rw[A5 E]at x;skip;refine H2 ?_;refine N8 A0 ?_;exact H1 L6 V.pobs ⟨x,rfl⟩
 have E:¬st.depth=50:=by have:=A2 D;omega
 rw[A6 E]at x;obtain⟨m,rfl⟩:∃m,n=m+1:=⟨n-1,by omega⟩
 obtain⟨j,w⟩:∃j,j=({ st with at_:=st.at_+1,depth:=st.depth+1 }:PSt):=⟨_,rfl⟩
 rw[<-w]at x;have M:SOk s j:=by rw[w];exact⟨J,T,by dsimp only;omega⟩
 have U:j.nodes.length<=j.at_:=by rw[w];dsimp only;omega
 have Q:j.depth+m=50:=by rw[w];dsimp only;omega
 refine zz 24 ?_;refine C3 (fr':=[(0,.s K7)]++B2 K gf) (ob':=PObs s j Z) (A91 ⟨cL rfl,trivial⟩ (B7 N) L6 (by rw[w];exact N5 (K:=K) (st:={ st with at_:=st.at_+1,depth:=st.depth+1 }) ⟨rfl,rfl,n5⟩)) ?_;have I:=L m F j rfl (Nat.lt_succ_self F) M U Q;rw[<-X]at I;cases C:jL s J3 F j with
 | error e0 =>
  rw[C]at x;have B:jL s J3 F j≠.error 0:=fun h=>H (by rw[C]at h;rw[x,h]);refine H2 ?_;refine L2 (I B _ _ Z ⟨rfl,rfl,n5⟩) mS rfl rfl rfl ?_ ?_
  ·(rintro e ob' ⟨v,rfl⟩;rw[C]at v;cases v;exact H1 L6 (fun _ _ h=>h) ⟨x,rfl⟩)
  rintro _ _ ⟨_,_,v,_,_⟩;rw[C]at v;cases v
 | ok q =>
  obtain⟨d,k⟩:=q;rw[C]at x;dsimp only at x;have B:jL s J3 F j≠.error 0:=fun h=>by rw[C]at h;cases h
  obtain⟨W,_⟩:=(eO (s:=s) F).pat M.at_ C;have ab:=W.dep;have ac:=W.len;have e1:j.depth=st.depth+1:=by rw[w]
  have e2:(d.depth:Int)-1=((d.depth-1:Nat):Int):=by omega
  refine H2 ?_;refine L2 (I B _ _ Z ⟨rfl,rfl,n5⟩) mS rfl rfl rfl ?_ ?_
  ·(rintro e ob' ⟨v,rfl⟩;rw[C]at v;cases v)
  rintro _ _ ⟨Y,k',v,rfl,rfl⟩;rw[C]at v;cases v;refine H2 ?_;refine o9 ?_;rw[e2];obtain⟨A,y⟩:∃A,A=({ d with depth:=d.depth-1 }:PSt):=⟨_,rfl⟩
  refine C3 (fr':=[(0,.s K7),(3,H6 (.int .i64 k))]++B2 K gf) (ob':=PObs s A Z) (A91 lf (B7 N) L6 (by rw[y];exact N5 (K:=K) (st:={ d with depth:=d.depth-1 }) ⟨rfl,rfl,n5⟩)) ?_;have P:A.at_=d.at_:=by rw[y]
  refine R6 ?_;refine M9 (x7 s A.at_ A.depth 41 B3 B3 A0) A0 A0 A0 (H2 ?_);rw[P];by_cases hb:s[d.at_]?=some 41
  ·have S:U5 s 41 d=true:=A3 hb;rw[A5 S]at x;rw[A3 hb,A5 hb];refine zc 0 (fun D=>?_) fun D=>?_
   ·cases D
   refine J5 ?_;refine I3 Y5 L6 (N5 (K:=K) (st:={ d with at_:=d.at_+1,depth:=d.depth-1 }) ⟨?_,?_,n5⟩) ⟨_,_,x,rfl,rfl⟩
   ·rw[y];rfl
   ·rw[y];rfl
  ·have S:¬U5 s 41 d=true:=fun h=>hb (A1 h);rw[A6 S]at x;rw[A4 hb,A6 hb];refine zc 0 (fun D=>?_) fun D=>?_;rotate_left
   ·cases D
   skip;refine H2 ?_;refine N8 A0 ?_;exact H1 L6 ((((V.cons (i:=811) (.inr V.k8.h811)).cons (i:=810) (.inl rfl)).cons (i:=810) (.inl rfl)).sub) ⟨x,rfl⟩
structure PxAll (s:Str) (F:Nat):Prop where
 pat:∀n st,st.depth+n=50->SOk s st->st.nodes.length<=st.at_->jL s J3 F st≠.error 0->PX 106 [K7] (sB (n+1)) s st (jL s J3 F st) iZ
 paren:∀n st,st.depth+n=50->SOk s st->st.nodes.length<=st.at_->st.at_+1<=s.length->U9 s J3 F st≠.error 0->PX 195 [K7] (sB n) s st (U9 s J3 F st) iZ
theorem UE(s:Str):∀(B F:Nat),F<B->F<=5000->PxAll s F
 | 0,_,h,_=>by omega
 | B+1,F,h,hF=>⟨fun n st c g i j=>pat_px B3 g i c hF j fun f st' o u q k l b=>(UE s B f B3 B3).paren n st' k u q l b,
  fun n st c g i j o=>A67 g i c j o fun m f st' _ q k l b d=>(UE s B f B3 B3).pat m st' b k l d⟩
theorem CB{P:Program}{ops:Array Oper}{Q:Exit->Act->List Frame->World->Prop}{i:Nat}{rest:List Nat}{a:Act}{b:List Frame}{w w1:World}{t:TypeId}{x y:Operand}{ty:TypeId}{pos:String}{af:Array Edge}
  (d:ops[i]?=some ⟨none,.store t x y,ty,pos,af,none⟩)(f:(Instr.storeAt t (a.eval x) (a.eval y)).run P w=.ok () w1)(h:wpOpsSIn Fence.wide 0 P ops Q rest a b w1):wpOpsSIn Fence.wide 0 P ops Q (i::rest) a b w:=by
 simp only[wpOpsSIn,d];refine⟨fun _ _=>trivial,?_⟩;have c:(execOp a.eval ⟨none,.store t x y,ty,pos,af,none⟩).run P w=.ok .skip w1:=by
  simp only[execOp,Sem.run_bind,f,Result.andThen_ok,Sem.run_pure]
 rw[c];have g:Region.wanted ⟨none,.store t x y,ty,pos,af,none⟩ (yielded ops a.tmps)=true:=rfl;rw[A5 g];exact h
theorem ZS{P:Program}{ops:Array Oper}{Q:Exit->Act->List Frame->World->Prop}{i:Nat}{rest:List Nat}{a:Act}{b:List Frame}{w:World}{d:Option Nat}{x:Operand}{ty:TypeId}{pos:String}{af:Array Edge}
  (f:ops[i]?=some ⟨d,.move x,ty,pos,af,none⟩)(h:wpOpsSIn Fence.wide 0 P ops Q rest (a.put d (a.eval x)) b w):wpOpsSIn Fence.wide 0 P ops Q (i::rest) a b w:=by
 simp only[wpOpsSIn,f];refine⟨fun _ _=>trivial,?_⟩;have c:(execOp a.eval ⟨d,.move x,ty,pos,af,none⟩).run P w=.ok (.value (a.eval x)) w:=by
  simp only[execOp,Sem.run_bind,Result.andThen_ok,Sem.run_pure]
 rw[c];have g:Region.wanted ⟨d,.move x,ty,pos,af,none⟩ (yielded ops a.tmps)=true:=rfl;rw[A5 g];exact h
theorem UF:RecFn prog eT 105 138 29:=by
 intro p1 p2 e w w1 w2 hs1 hs2;refine⟨J9 ⟨_,rfl,rfl,rfl⟩,?_⟩;have hta:(Instr.typeAssert (.iface 29 (.int .i64 e)) 20 29 true).run prog w=.ok (.tuple #[.int .i64 e,.bool true]) w:=by
  simp only[Instr.typeAssert];rfl
 refine callsDIn_of_wpSIn Tryz.func105 rfl trivial fun c₀ cs hu=>?_;simp only[Tryz.ntmps105,List.size_toArray,B31,List.length_nil,Nat.reduceAdd,Nat.reduceSub,Array.replicate_succ,Array.replicate_zero,List.push_toArray,List.append_toArray,B74,B66];apply wpSIn_seq;apply wpSIn_region;simp[wpOpsSIn,go_sem,recoverD,hu,Exit.thenS,hta];apply wpSIn_seq;apply wpSIn_region;simp[wpOpsSIn,go_sem,Exit.thenS];refine wpSIn_cond (t:=true) (by simp[Act.eval]) ?_;simp only[if_true];apply wpSIn_region;show wpOpsSIn Fence.wide 0 _ _ _ [0,1,2] _ _ _;refine ZS A0 (CB A0 (by simpa[Act.eval,Act.put] using hs1) (CB A0 (by simpa[Act.eval,Act.put] using hs2) ?_));cases c₀;simp_all [wpOpsSIn,bodyPostS,results,Tryz.results105,settle];rfl
theorem PD{P:Program}{T:TypeId}{fn:Func}{d:List PV->Prop}{k1 k2 i1 i2:Nat}{fr:Fr}{ob:Obs}{e:Int}{j k:TC}(g1:C7 fr 1000001=some (.s (.one (.ref k1 0))))(m:C7 fr 1000002=some (.s (.one (.ref k2 0))))(q:Z3 fr i1=some (.s (.one (.ref k1 0))))(u:Z3 fr i2=some (.s (.one (.ref k2 0))))
  (w:B0 ob k1=some (.box [j]))(y:B0 ob k2=some (.box [k]))(g:k1≠k2)(h:retP P fn d .ret (JM fr) ((k2,.box [.p (.v (.int .i64 e))])::(k1,.box [.p (.v (.slice none 0 0))])::ob)):recQ T k1 k2 i1 i2 (retP P fn d) (.panic (gV T e)) fr ob :=
 ⟨e,j,k,rfl,g1,m,q,u,w,y,g,h⟩
theorem z23{K:List Nat}(m:KOk K)(g:E8 K 2=false)(h:E8 K 3=false){c d:Cell}{ob:Obs}(e:B0 ob 2=some (.box [.p c]))(f:B0 ob 3=some (.box [.p d])):ZOk K [(2,.box [.p c]),(3,.box [.p d])] ob:=by
 have key:∀k o,B0 [(2,Ob.box [.p c]),(3,.box [.p d])] k=some o->(k=2/\o=.box [.p c])\/(k=3/\o=.box [.p d]):=fun k o a=>by
  by_cases a2:2=k
  ·subst a2;rw[B4]at a;cases a;exact .inl ⟨rfl,rfl⟩
  rw[A7 a2]at a;by_cases a3:3=k
  ·subst a3;rw[B4]at a;cases a;exact .inr ⟨rfl,rfl⟩
  rw[A7 a3]at a;cases a
 refine⟨m,fun k o a=>?_,fun k o a=>?_,fun k o a j _=>?_⟩
 ·rcases key k o a with ⟨rfl,rfl⟩ | ⟨rfl,rfl⟩
  ·exact e
  ·exact f
 ·rcases key k o a with ⟨rfl,rfl⟩ | ⟨rfl,rfl⟩
  ·exact⟨by decide,g⟩
  ·exact⟨by decide,h⟩
 ·rcases key k o a with ⟨rfl,rfl⟩ | ⟨rfl,rfl⟩<;>rfl
theorem ks_ref{K:List Nat}{i o:Nat}(h:E8 K i=false):∀k,E8 K k=true->(SV.s (.one (.ref i o))).free k=true:=fun k a=>by
 show (!Nat.beq i k)=true;rw[sA (fun e=>by rw[<-e,h]at a;cases a)];rfl
theorem ks_clo2{K:List Nat}{f i j:Nat}(g:E8 K i=false)(h:E8 K j=false):∀k,E8 K k=true->(SV.s (.one (.clo f [] [(i,0),(j,0)]))).free k=true:=fun k a=>by
 show (!(gM k []||gM k [(i,0),(j,0)]))=true;have b:i≠k:=fun e=>by rw[<-e,g]at a;cases a
 have d:j≠k:=fun e=>by rw[<-e,h]at a;cases a
 simp[gM,sA b,sA d]
theorem A68{b:Rd}{z:Value}{α:Type}{a:Nat}{c:α->Nat->Cell}(h:(PV.one (.v (.slice none 0 0))).rep b z):(PV.one (.list α a c [])).rep b z:=by
 have e:z=.slice none 0 0:=by simp only[PV.rep,Cell.rep]at h;exact h.1
 rw[e];exact X9 α a c
theorem retcn{P:Program}{fn:Func}{fr:Fr}{ob:Obs}{t E:Tmp}{k D:Nat}{tt d:TypeId}{F j:List TC}{B:Cell}{α:Type}{ec:Nat}{H:α->Nat->Cell}[TyOne P tt][TyOne P d](M:fn.results=#[.cell t tt,.cell E d])(N:Z3 fr t=some (.s (.one (.ref k 0))))(L:B0 ob k=some (.box F))(I:F[0]?=some (.p (.v (.slice none 0 0))))
  (A:Z3 fr E=some (.s (.one (.ref D 0))))(y:B0 ob D=some (.box j))(m:j[0]?=some (.p B)):RetOk P fn fr ob [.one (.list α ec H []),.one B]:=by
 unfold RetOk;intro S G a w h;obtain⟨b,z,C,J,K⟩:=zH h (tt:=tt) N L I;obtain⟨O,Q,g,q,u⟩:=zH h (tt:=d) A y m;rw[B35]at C g;exact⟨_,by simp[results,M,C,g,asAddr,J,q],[_,_],rfl,A68 K,u,trivial⟩
def parsed(s:Str):List AL.Node×Int:=DZ s J3 1100
theorem b6x{p:Prop}(h:p:=by repeat (first | exact FreeKs.nil | refine FreeKs.cons (fun _ _=>rfl) ?_ | refine FreeKs.cons (lG (by assumption)) ?_ | refine FreeKs.cons (ks_ref (by assumption)) ?_ | refine FreeKs.cons (ks_ref (by assumption)) ?_ | refine FreeKs.cons (ks_clo2 (by assumption) (by assumption)) ?_)):p:=h
theorem b2z{p:Prop}(h:p:=by dsimp only;omega):p:=h
theorem ZT(s:Str)(C:s.length<=1099511627776):FnOk prog 66 [G5 s] (fun rs=>rs=[cW (parsed s).1,E2 (parsed s).2]):=by
 refine B12 Tryz.func66 F5 A0 A0 A0 A0 (WL (F8 ?_));refine B6 (E6 2 A0) A0 (B6 (E6 3 A0) A0 (F8 ?_));refine WL ?_;refine zc 6 (fun l=>?_) fun l=>?_
 ·have d:s.length>256:=by have:=A1 l;omega
  have f:parsed s=([],1):=by unfold parsed DZ;rw[A5 d]
  rw[f];refine N0 ?_;exact A8 (rs:=[cW [],E2 1]) (retcn rfl rfl rfl rfl rfl rfl rfl) rfl
 have d:¬s.length>256:=by have:=A2 l;omega
 have f:parsed s=match jL s J3 1100 ⟨0,0,[]⟩ with
  | .error e=>([],e)
  | .ok (st,_)=>if st.at_<s.length then ([],40) else (st.nodes,0):=by unfold parsed DZ;rw[A6 d];rfl
 have z:SOk s ⟨0,0,[]⟩:=⟨by omega,B37 _,by decide⟩
 have y:jL s J3 1100 ⟨0,0,[]⟩≠.error 0:=(nz_all 1100).pat _ (B37 _) b2z;obtain⟨K,m⟩:∃K,K=sB 51:=⟨_,rfl⟩
 have n:KOk K:=by rw[m];exact KQ 51
 have u:E8 K 2=false:=by rw[m];exact KP F5
 have w:E8 K 3=false:=by rw[m];exact KP F5
 have j:=(UE s 1101 1100 F5 F5).pat 50 ⟨0,0,[]⟩ rfl z (B29 _) y;rw[<-m]at j;clear m;refine F8 ?_;refine SF (T:=eT) (k1:=2) (k2:=3) (i1:=2) (i2:=3) (t1:=138) (t2:=29) A0 A0 A0 OF UF A0 A0 (R6 ?_);refine B6 (V5 810 A0 A0 A0) A0 (H2 ?_);refine C3 (A96 811 AL.Node 8 gF 242 (kb:=810) (o:=3) A0 A0 A0) (k2 ?_);cases i:jL s J3 1100 ⟨0,0,[]⟩ with
 | error A =>
  rw[i]at f;refine H2 ?_;refine L2 (j _ _ _ ⟨rfl,rfl,z23 n u w rfl rfl⟩) b6x rfl rfl rfl ?_ ?_
  ·(rintro e ob' ⟨b,rfl⟩;rw[i]at b;cases b;exact PD rfl rfl rfl rfl rfl rfl F5 (A8 (rs:=[cW [],E2 A]) (retcn rfl rfl rfl rfl rfl rfl rfl) (by rw[f])))
  rintro _ _ ⟨_,_,b,_,_⟩;refine F8 ?_;rw[i]at b;cases b
 | ok q =>
  obtain⟨st,v⟩:=q;rw[i]at f;dsimp only at f;obtain⟨g,_⟩:=(eO (s:=s) 1100).pat (B37 _) i;have B:=g.len;have x:=g.cnt;dsimp only[List.length_nil]at x;refine H2 ?_;refine L2 (j _ _ _ ⟨rfl,rfl,z23 n u w rfl rfl⟩) b6x rfl rfl rfl ?_ ?_
  ·(rintro e ob' ⟨b,rfl⟩;rw[i]at b;cases b)
  rintro _ _ ⟨st',D,b,rfl,rfl⟩;rw[i]at b;cases b;refine F8 ?_;refine zc 11 (fun l=>?_) fun l=>?_
  ·have h:st.at_<s.length:=by have:=A1 l;omega
   rw[A5 h]at f;skip;refine H2 ?_;refine N8 A0 ?_;exact PD rfl rfl rfl rfl rfl rfl F5 (A8 (rs:=[cW [],E2 40]) (retcn rfl rfl rfl rfl rfl rfl rfl) (by rw[f]))
  have h:¬st.at_<s.length:=by have:=A2 l;omega
  rw[A6 h]at f;refine R9 ?_;refine C3 (Sees.freezeG (k:=811) (α:=AL.Node) (ec:=8) (c:=gF) (xs:=st.nodes) (e:=242) A0 A0) (k10 ?_);exact A8 (rs:=[cW st.nodes,E2 0]) (retcc rfl rfl rfl rfl rfl rfl rfl) (by rw[f])
abbrev CC(A:AL.Auto):Unit->Nat->Cell:=fun _ j=>[Cell.list AL.State 7 gI A.States,Cell.v (.int .i64 A.Start)].getD j (.v undef)
theorem UG(A:AL.Auto)(u:AG A):FnOk prog 115 [mP A] (fun rs=>rs=[E2 0]):=by
 obtain⟨z,B⟩:=u.len;have m:=u.start;obtain⟨n,C⟩:∃n,n=A.States.length:=⟨_,rfl⟩
 have j:=u.good;rw[<-C]at z B m j;refine FnOk.intro Tryz.func115 F5 A0 A0 A0 A0 (R9 ?_);refine B6 (E6 3 A0) A0 (U7 ?_);have h:decide ((n:Int)<1)=false:=A4 B3;have d:decide ((8000:Int)<n)=false:=A4 B3;have y:decide (0<=A.Start/\A.Start<(n:Int))=true:=A3 m;rw[<-C];refine R6 ?_;refine E4 A0 A0 A0 h (F8 ?_);refine E4 A0 A0 A0 h (F8 ?_);refine A9 (Y3 A0 (h) A0) A0 (F8 ?_);refine E4 A0 A0 A0 d (F8 ?_);refine E4 A0 A0 A0 d (F8 ?_);refine E4 A0 A0 A0 d (F8 ?_);refine E4 A0 A0 A0 d (iP (nY A.Start n A0) A0 A0 A0 A0 ?_);rintro _ _ ⟨rfl,rfl⟩;refine E4 A0 A0 A0 d (F8 ?_);refine A9 (Y3 A0 (d) A0) A0 (F8 ?_);rw[y];refine zc 0 (fun a=>?_) fun a=>?_
 ·cases a
 refine R9 ?_;refine C1 (X:=Nat) (fun i=>([(3,.s (.one (.ref 3 0))),(4,.s (.one (.clo 149 [] [(3,0)]))),(26,.s (XS A.States).s1),(27,B1 n),(28,B1 i)],[(3,.box [.p (.v (.int .i64 n))])])) (fun i=>i<=n) (fun i=>n-i) 0 (B37 _) (Sees.of ⟨cL rfl,cL rfl,cL rfl,leE A0 (by first | (simp;done) | (simp;omega)),cL rfl,trivial⟩ ⟨rfl,trivial⟩) ?_;intro i I;dsimp only at I ⊢;refine zc 5 (fun a=>?_) fun a=>?_
 ·have k:i<n:=Int.ofNat_lt.1 (A1 a);obtain⟨q,J⟩:∃q,q=A.States[i]'B3:=⟨_,rfl⟩
  have K:A.States[i]?=some q:=by rw[J];exact B23 B3
  have M:=mF (j q (B43 K));obtain⟨b,hb⟩:∃b,b=decide (0<=q.Next/\q.Next<(n:Int)):=⟨_,rfl⟩
  have g:¬q.Kind=4->b=true:=fun L=>by rw[hb];exact A3 B3
  refine J5 ?_;refine B6 (E6 6 A0) A0 (J5 ?_);refine iP (nY q.Next n A0) A0 A0 A0 A0 ?_;rintro _ _ ⟨rfl,rfl⟩;refine H2 ?_;rw[<-hb];refine N0 ?_;refine kT [(3,.s (.one (.ref 3 0))),(4,.s (.one (.clo 149 [] [(3,0)]))),(26,.s (XS A.States).s1),(27,B1 n),(28,B1 i),(7,S6 true)] [(3,.box [.p (.v (.int .i64 n))])] ?_ ?_
  ·refine zc 7 (fun a=>?_) fun a=>?_
   ·rw[g (by have:=A1 a;omega)];refine zc 1 (fun a=>?_) fun a=>?_
    ·refine F8 ?_;exact C6
    ·exact absurd (A1 kA) (A2 a)
   have D:¬q.Kind=0:=A2 a;refine zc 5 (fun a=>?_) fun a=>?_
   ·rw[g (by have:=A1 a;omega)];refine zc 1 (fun a=>?_) fun a=>?_
    ·refine F8 ?_;exact C6
    ·exact absurd (A1 kA) (A2 a)
   have E:¬q.Kind=2:=A2 a;skip;refine zc 4 (fun a=>?_) fun a=>?_
   ·rw[g (by have:=A1 a;omega)];refine F8 ?_;exact C6
   have F:¬q.Kind=3:=A2 a;refine zc 5 (fun a=>?_) fun a=>?_
   ·skip;have w:q.Kind=1:=A1 a;have H:decide (0<=q.Other/\q.Other<(n:Int))=true:=A3 B3;rw[g B3];refine H8 ?_;refine E4 A0 A0 A0 A0 (F8 ?_);refine E4 A0 A0 A0 A0 (F8 ?_);refine E4 A0 A0 A0 A0 (F8 ?_);refine E4 A0 A0 A0 A0 (iP (nY q.Other n A0) A0 A0 A0 A0 ?_);rintro _ _ ⟨rfl,rfl⟩;refine H8 ?_;rw[H];refine GO ?_;exact C6
   have w:¬q.Kind=1:=A2 a;refine zc 5 (fun a=>?_) fun a=>?_
   ·skip;refine H8 ?_;exact C6
   have G:¬q.Kind=4:=A2 a;exfalso;omega
  refine zc 5 (fun a=>?_) fun a=>?_
  ·cases a
  refine I0 ?_;exact⟨i+1,Nat.succ_le_of_lt k,Nat.sub_lt_sub_left k (Nat.lt_succ_self i),C6⟩
 refine N0 ?_;exact A8 (rs:=[E2 0]) M3 rfl
abbrev macG(A:AL.Auto)(s:Str)(a:Nat)(x y:TC):Ob:=.box [.p (.list AL.State 7 gI A.States),.p (.v (.int .i64 A.Start)),.p (.v (.string ⟨s.toArray⟩)),.p (.v (.int .i64 a)),x,y]
abbrev fR(A:AL.Auto)(s:Str)(a:Nat):Ob:=macG A s a (.mut 831) (.mut 832)
abbrev eJ:S1:=.one (.ref 830 0)
abbrev CD(l:List AL.Thread):Ob:=.grow 255 AL.Thread 2 p9 l
abbrev xL(l:List Bool):Ob:=.arr Bool 1 XQ l
abbrev pThr(t:AL.Thread):PV:=.agg [.v (.int .i64 t.state),.v (.int .i64 t.from_)]
theorem WY{p:Prop}(h:p:=by (first | omega | decide)):p:=h
theorem UH(A:AL.Auto)(s:Str)(f:AG A):AL.Met prog 150 [(mP A).s1,.one (.p (.v (.string ⟨s.toArray⟩))),Q5 0] [] [] []
  (fun rs ob'=>rs=[eJ]/\ob'=[(830,macG A s 0 (.p (.v (.slice none 0 0))) (.mut 832)),(832,xL (List.replicate A.States.length false))]):=by
 have j:=f.len;refine AL.Met.intro Tryz.func150 F5 A0 A0 A0 (N0 ?_);refine L8 [8,6] [[],[6],[8,6]] [(6,([832],[])),(8,([830],[]))] [(0,[]),(1,[]),(2,[]),(3,[]),(4,[]),(5,[]),(6,[]),(7,[6]),(8,[6]),(9,[8,6])] [(0,[6]),(1,[6]),(2,[6])] E7 E7 (C8 A0 A0 E7 A0 A0 (I1 A0 A0) (C8 A0 A0 E7 A0 A0 (C4 A0 A0) (C8 A0 A0 E7 A0 A0 (C4 A0 A0) (C8 A0 A0 E7 A0 A0 (N3 A0) (C8 A0 A0 E7 A0 A0 (S8 A0 A0) (C8 A0 A0 E7 A0 A0 (gO A0 (.pure _ _ _ _)) (Y4 A0 A0 E7 A0 A0 (zG (fun b a d=>eW 832 Bool XQ false (T4 a A0) (T4 a A0) WY WY (fun _=>b1w) (by rw[d];rfl))) A0 ?_)))))));refine C8 A0 A0 E7 A0 A0 (sZ A0) (Y4 A0 A0 E7 A0 A0 (zG (fun b a d=>V5 830 (T4 a A0) A0 (by rw[d];rfl))) A0 ?_);refine C8 A0 A0 E7 A0 A0 (Y0 A0 A0) ?_;refine xB E7 rfl ?_ ?_
 ·refine J1 A0 A0 E7 A0 A0 (I1 A0 A0) (J1 A0 A0 E7 A0 A0 (C4 A0 A0) (J1 A0 A0 E7 A0 A0 (C4 A0 A0) ?_));exact jT
 refine F8 ?_;exact D7 Y5 b2y (fun _ _ h=>h) ⟨rfl,by rw[B26];rfl⟩
theorem b3w{p:Prop}(h:p:=by repeat (first | exact N7 | refine R8 rfl ?_ | refine G8 (by assumption) ?_ | refine TL _ rfl ?_)):p:=h
theorem b7x{p:Prop}(h:p:=by repeat (first | exact N7 | refine R8 rfl ?_ | refine TL _ rfl ?_)):p:=h
theorem HO{gf:Fr}{ob:Obs}(A:AL.Auto)(s:Str)(Z:AG A)(a:Nat)(q fr:Int)(m0 R:Mach)(S:MG A m0)(hq:0<=q/\q<A.States.length)(ad:VO A s a ⟨q,fr⟩ m0=R)
  (h0:B0 ob 830=some (fR A s a))(h1:B0 ob 831=some (CD m0.1))(h2:B0 ob 832=some (xL m0.2))(h3:B0 ob 834=none) :
  AL.Met prog 151 [eJ,(pThr ⟨q,fr⟩).s1] gf ob [831,834] (fun rs ob'=>rs=[]/\ob'=(830,fR A s a)::(831,CD R.1)::(832,xL R.2)::F2 [831,834] ob):=by
 obtain⟨am,an⟩:=Z.len;refine AL.Met.introH Tryz.func151 F5 rfl rfl rfl (fun H=>?_);refine C3 (A92 831 (l:=[(0,.s eJ),(1,.s (pThr ⟨q,fr⟩).s1)]) (L:=[(830,_),(831,_),(832,_)]) lf H L6 ⟨h0,h1,h2,trivial⟩) ?_;refine C3 (Sees.forget 834) (C3 (A91 (gf':=B2 [831,834] gf) (l:=[(0,.s eJ),(1,.s (pThr ⟨q,fr⟩).s1)]) (ob':=[(830,fR A s a),(831,CD m0.1),(832,xL m0.2)]++F2 [831,834] ob) lf (B7 H) jN (D4 (L:=[(830,_),(831,_),(832,_)]) ⟨rfl,rfl,rfl,trivial⟩ SY)) ?_);have ae:B0 (F2 [831,834] ob) 834=none:=X2 h3;refine X0 ?_;refine B6 (YG 834 (c:=E0) (ys:=[q]) (C5 A0 A0 A0 A0 E5) A0 A0 A0 ae A0) A0 (H8 ?_);refine C1 (X:=Nat×List Int×Mach) (fun x=>([(0,.s eJ),(3,.s (.one (.eref Unit 2 (fun _ j=>[Cell.v (.int .i64 q),Cell.v (.int .i64 fr)].getD j (.v undef)) () 0))),(4,.s (.one (.mut 834)))]++B2 [831,834] gf,[(830,fR A s a),(831,CD x.2.2.1),(832,xL x.2.2.2),(834,.grow 3 Int 1 E0 x.2.1)]++F2 [831,834] ob)) (fun x=>VQ x.2.1 x.2.2<x.1/\gJ A s a fr x.1 x.2.1 x.2.2=R/\VQ x.2.1 x.2.2<=24001/\MG A x.2.2/\∀k∈x.2.1,0<=k/\k<A.States.length) (fun x=>VQ x.2.1 x.2.2) (3*A.States.length+2,[q],m0) ?_ ?_ ?_
 ·have h6:=S.cnt;refine⟨?_,ad,?_,S,fun k hk=>by rw[B33.1 hk];exact hq⟩
  ·unfold VQ;simp only[B41];omega
  ·unfold VQ;simp only[B41];omega
 ·exact A91 lf (B7 H) jN (D4 (L:=[(830,_),(831,_),(832,_),(834,_)]) ⟨rfl,rfl,rfl,rfl,trivial⟩ b7x)
 rintro⟨f,d,m⟩ ⟨hf,V,T,P,I⟩;dsimp only at hf V T P I ⊢;have ao:d.length<=24001:=by unfold VQ at T;omega
 have ak:=P.cnt;have ar:=P.sl;refine zc 7 (fun J=>?_) fun J=>?_;rotate_left
 ·have aj:d=[]:=List.length_eq_zero_iff.1 (by have:=A2 J;omega);rw[aj,A29]at V;rw[V];refine F8 ?_;exact Q0 (fJ rfl) jN (D4 (L:=[(830,_),(831,_),(832,_)]) ⟨rfl,rfl,rfl,trivial⟩ b3w) ⟨rfl,rfl⟩
 have F:0<d.length:=by have:=A1 J;omega
 obtain⟨i,hi⟩:∃i,d.getLast?=some i:=by
  cases h:d.getLast? with
  | none=>rw[List.getLast?_eq_none_iff]at h;rw[h]at F;cases F
  | some i=>exact⟨i,rfl⟩
 obtain⟨_,af,ag⟩:=EE hi;obtain⟨g3,g4⟩:=I i ag;obtain⟨f',G,m',al,K,O,C,Q,E,y,z⟩:=RC s Z P I hf V hi;have ai:d[((d.length:Int)-1).toNat]?=some i:=by rw[show ((d.length:Int)-1).toNat=d.length-1 by omega];exact af
 have B:d.take ((d.length:Int)-1).toNat=d.dropLast:=by rw[List.dropLast_eq_take];congr 1;omega
 obtain⟨r,hr⟩:∃r,r=d.dropLast:=⟨_,rfl⟩
 have ap:r.length<=24001:=by rw[hr,List.length_dropLast];omega
 rw[<-hr]at B y z;obtain⟨b,hb⟩:∃b,b=L1 m.2 i.toNat:=⟨_,rfl⟩
 have ah:m.2[i.toNat]?=some b:=by rw[hb];exact VP (by rw[P.sl];omega)
 rw[<-hb]at y z;have au:=vI (A:=A) ⟨g3,g4⟩;refine U7 ?_;refine A9 (V8 A0 A0 ai A0) A0 (o9 ?_);rw[B];refine U7 ?_;refine A9 (N6 A0 A0 ah A0) A0 ?_;refine zc 1 (fun J=>?_) fun J=>?_
 ·obtain⟨U,W⟩:=y J;refine F8 ?_;refine⟨(f',G,m'),⟨O,K,b2z,Q,E⟩,C,?_⟩;rw[U,W];exact A91 lf (B7 H) jN (D4 (L:=[(830,_),(831,_),(832,_),(834,_)]) ⟨rfl,rfl,rfl,rfl,trivial⟩ b7x)
 obtain⟨U,W⟩:=z J;have ab:decide ((a:Int)=0)=decide (a=0):=decide_eq_decide.2 B3;have ac:decide ((a:Int)=(s.length:Int))=decide (a=s.length):=decide_eq_decide.2 B3;rw[<-ab,<-ac]at U;obtain⟨aq,_⟩:=EC Z ⟨g3,g4⟩ (decide ((a:Int)=0)) (decide ((a:Int)=(s.length:Int)));refine U7 ?_;refine V2 (L4 TySz.out A0 A0 B3 A0 A0) (H2 ?_);refine C3 (A91 (gf':=B2 [831,834] gf) (l:=[(0,.s eJ),(3,.s (.one (.eref Unit 2 (fun _ j=>[Cell.v (.int .i64 q),Cell.v (.int .i64 fr)].getD j (.v undef)) () 0))),(4,.s (.one (.mut 834))),(5,B1 i)]) (ob':=[(830,fR A s a),(831,CD m.1),(832,xL (m.2.set i.toNat true)),(834,.grow 3 Int 1 E0 r)]++F2 [831,834] ob) lf (B7 H) jN (D4 (L:=[(830,_),(831,_),(832,_),(834,_)]) ⟨rfl,rfl,rfl,rfl,trivial⟩ b7x)) ?_;refine L8 [13,10] [[],[10],[13,10]] [(10,([831],[40])),(13,([],[]))] [(0,[]),(1,[]),(2,[]),(3,[]),(4,[]),(5,[]),(6,[]),(7,[]),(8,[]),(9,[]),(10,[]),(11,[10]),(12,[10]),(13,[10])] [(0,[10])] E7 E7 (C8 A0 A0 E7 A0 A0 (C4 A0 A0) (C8 A0 A0 E7 A0 A0 (C4 A0 A0) (C8 A0 A0 E7 A0 A0 (C9 A0) (C8 A0 A0 E7 A0 A0 (D3 A0) (C8 A0 A0 E7 A0 A0 (D1 A0 A0 A0) (C8 A0 A0 E7 A0 A0 (C4 A0 A0) (C8 A0 A0 E7 A0 A0 (N3 A0) (C8 A0 A0 E7 A0 A0 (S8 A0 A0) (C8 A0 A0 E7 A0 A0 (sZ A0) (C8 A0 A0 E7 A0 A0 (B8 (c:=p9) (ys:=[⟨i,fr⟩]) (C5 A0 A0 A0 A0 E5) A0 A0 A0) (Y4 A0 A0 E7 A0 A0 (vX (fun Y M=>R5 (T4 M A0) A0 (T4 M A0) (.pure _ _ _ _) NZ A0)) A0 (C8 A0 A0 E7 A0 A0 (C9 A0) (C8 A0 A0 E7 A0 A0 (D3 A0) (Y4 A0 A0 E7 A0 A0 (gS (fun Y M=>I9 TySz.out (T4 M A0) A0 (T4 M A0) A0 A0 A0)) A0 ?_))))))))))))));refine vY (ks:=[831,834]) rfl E7 rfl ?_ ?_
 ·refine J1 A0 A0 E7 A0 A0 (C4 A0 A0) ?_;exact jT
 refine GO ?_;refine C3 (A91 (gf':=B2 [831,834] gf) (l:=[(0,.s eJ),(3,.s (.one (.eref Unit 2 (fun _ j=>[Cell.v (.int .i64 q),Cell.v (.int .i64 fr)].getD j (.v undef)) () 0))),(4,.s (.one (.mut 834))),(5,B1 i)]) (ob':=[(830,fR A s a),(831,CD (m.1++[⟨i,fr⟩])),(832,xL (m.2.set i.toNat true)),(834,.grow 3 Int 1 E0 r)]++F2 [831,834] ob) lf (B7 H) jN (D4 (L:=[(830,_),(831,_),(832,_),(834,_)]) ⟨rfl,rfl,rfl,rfl,trivial⟩ b7x)) ?_;refine U7 ?_;refine D2 (I1 A0 A0) A0 A0 (zz 13 ?_);refine D2 (pA A0) A0 A0 (F8 ?_);refine D2 (I2 (A52 (aX A i) (decide ((a:Int)=0)) (decide ((a:Int)=(s.length:Int)))) A0 A0) A0 A0 (JB (R5 A0 A0 A0 (.pure _ _ _ _) B3 A0) A0 A0 (H2 ?_));refine⟨(f',G,m'),⟨O,K,b2z,Q,E⟩,C,?_⟩;rw[U,W];exact A91 lf (B7 H) jN (D4 (L:=[(830,_),(831,_),(832,_),(834,_)]) ⟨rfl,rfl,rfl,rfl,trivial⟩ b7x)
theorem UI{α:Type}{l:List α}{i:Nat}{x:α}(h:l[i]?=some x):l.take (i+1)=l.take i++[x]:=by rw[B48,h];rfl
theorem CE{gf:Fr}{ob:Obs}(A:AL.Auto)(s:Str)(a:Nat)(b:List AL.Thread)(k:List Bool)(x:∀t∈b,0<=t.state/\t.state<A.States.length)(G:b.length<=8000)(z:B0 ob 830=some (fR A s a))(B:B0 ob 831=some (CD b))(C:B0 ob 832=some (xL k))(D:B0 ob 835=none) :
  AL.Met prog 152 [eJ] gf ob [835] (fun rs ob'=>rs=[Q5 (aS A b)]/\ob'=(830,fR A s a)::(831,CD b)::(832,xL k)::F2 [835] ob):=by
 refine AL.Met.introH Tryz.func152 F5 rfl rfl rfl (fun j=>?_);refine C3 (A92 835 (l:=[(0,.s eJ)]) (L:=[(830,_),(831,_),(832,_)]) ⟨cL rfl,trivial⟩ j L6 ⟨z,B,C,trivial⟩) ?_;refine C3 (A91 (gf':=B2 [835] gf) (l:=[(0,.s eJ)]) (ob':=[(830,fR A s a),(831,CD b),(832,xL k)]++F2 [835] ob) ⟨cL rfl,trivial⟩ (B7 j) jN (D4 (L:=[(830,_),(831,_),(832,_)]) ⟨rfl,rfl,rfl,trivial⟩ SY)) ?_;have q:B0 (F2 [835] ob) 835=none:=X2 D;refine zz 15 ?_;refine C1 (X:=Nat) (fun i=>([(0,.s eJ),(8,.s (.one (.mut 831))),(9,B1 b.length),(10,B1 i)]++B2 [835] gf,[(830,fR A s a),(831,CD b),(832,xL k)]++F2 [835] ob)) (fun i=>i<=b.length/\aS A (b.drop i)=aS A b) (fun i=>b.length-i) 0 ⟨B37 _,rfl⟩ ?_ ?_
 ·exact A91 lf (B7 j) jN (D4 (L:=[(830,_),(831,_),(832,_)]) ⟨rfl,rfl,rfl,trivial⟩ b3w)
 rintro i ⟨E,c⟩;dsimp only at E c ⊢;refine zc 5 (fun f=>?_) fun f=>?_;rotate_left
 ·have r:i=b.length:=by have:=A2 f;omega
  rw[r,List.drop_length]at c;rw[<-c];refine N0 ?_;exact D7 Y5 jN (D4 (L:=[(830,_),(831,_),(832,_)]) ⟨rfl,rfl,rfl,trivial⟩ b3w) ⟨rfl,rfl⟩
 have g:i<b.length:=by have:=A1 f;omega
 obtain⟨t,h⟩:∃t,t=b[i]:=⟨_,rfl⟩
 have y:b[i]?=some t:=by rw[h];simp[g]
 obtain⟨v,w⟩:=x t (B43 y);have F:=vI (A:=A) ⟨v,w⟩;rw[B40 g,<-h,aS]at c;refine N0 ?_;refine A9 (cM A0 A0 y A0) A0 (B6 (eV 835 q F5) A0 ?_);refine zc 16 (fun f=>?_) fun f=>?_
 ·have p:(aX A t.state).Kind=4:=A1 f;rw[A5 p]at c;rw[<-c];refine J5 ?_;exact D7 Y5 jN (D4 (L:=[(830,_),(831,_),(832,_)]) ⟨rfl,rfl,rfl,trivial⟩ b3w) ⟨rfl,rfl⟩
 have p:¬(aX A t.state).Kind=4:=A2 f;rw[A6 p]at c;refine I0 ?_;exact⟨i+1,⟨by omega,c⟩,by omega,A91 lf (B7 j) jN (D4 (L:=[(830,_),(831,_),(832,_)]) ⟨rfl,rfl,rfl,trivial⟩ b3w)⟩
theorem UJ{gf:Fr}{ob:Obs}(A:AL.Auto)(s:Str)(a:Nat)(fr:Int)(b:List AL.Thread)(k:List Bool)(G:b.length<=8000)(z:B0 ob 830=some (fR A s a))(B:B0 ob 831=some (CD b))(C:B0 ob 832=some (xL k))(D:B0 ob 835=none) :
  AL.Met prog 153 [eJ,Q5 fr] gf ob [831,835] (fun rs ob'=>rs=[]/\ob'=(830,fR A s a)::(831,CD (gK fr b))::(832,xL k)::F2 [831,835] ob):=by
 refine AL.Met.introH Tryz.func153 F5 rfl rfl rfl (fun j=>?_);refine C3 (A92 831 (l:=[(0,.s eJ),(1,.s (Q5 fr))]) (L:=[(830,_),(831,_),(832,_)]) lf j L6 ⟨z,B,C,trivial⟩) ?_;refine C3 (Sees.forget 835) (C3 (A91 (gf':=B2 [831,835] gf) (l:=[(0,.s eJ),(1,.s (Q5 fr))]) (ob':=[(830,fR A s a),(831,CD b),(832,xL k)]++F2 [831,835] ob) lf (B7 j) jN (D4 (L:=[(830,_),(831,_),(832,_)]) ⟨rfl,rfl,rfl,trivial⟩ SY)) ?_);have p:B0 (F2 [831,835] ob) 835=none:=X2 D;refine R9 ?_;refine C1 (X:=Nat) (fun i=>([(0,.s eJ),(1,.s (Q5 fr)),(9,.s (.one (.mut 831))),(10,B1 b.length),(11,B1 i)]++B2 [831,835] gf,[(830,fR A s a),(831,CD b),(832,xL k)]++F2 [831,835] ob)) (fun i=>i<=b.length/\∀t∈b.take i,t.from_<=fr) (fun i=>b.length-i) 0 ⟨B37 _,fun _ h=>by cases h⟩ ?_ ?_
 ·exact A91 lf (B7 j) jN (D4 (L:=[(830,_),(831,_),(832,_)]) ⟨rfl,rfl,rfl,trivial⟩ b3w)
 rintro i ⟨E,c⟩;dsimp only at E c ⊢;refine zc 5 (fun f=>?_) fun f=>?_;rotate_left
 ·have g:i=b.length:=by have:=A2 f;omega
  have r:gK fr b=b:=by
   rw[sS (i:=i) c (fun t h=>by rw[g,B58 (B29 _)]at h;cases h),g,B38]
  rw[r];refine F8 ?_;exact Q0 (fJ rfl) jN (D4 (L:=[(830,_),(831,_),(832,_)]) ⟨rfl,rfl,rfl,trivial⟩ b3w) ⟨rfl,rfl⟩
 have v:i<b.length:=by have:=A1 f;omega
 obtain⟨t,w⟩:∃t,t=b[i]:=⟨_,rfl⟩
 have y:b[i]?=some t:=by rw[w];simp[v]
 refine J5 ?_;refine A9 (cM A0 A0 y A0) A0 (B6 (eV 835 p F5) A0 ?_);refine zc 10 (fun f=>?_) fun f=>?_
 ·have q:t.from_>fr:=A1 f;have r:gK fr b=b.take i:=sS c (fun x d=>by rw[y]at d;cases d;exact q);rw[r];refine zz 13 ?_;rw[B26];refine F8 ?_;exact D7 (fJ rfl) jN (D4 (L:=[(830,_),(831,_),(832,_)]) ⟨rfl,rfl,rfl,trivial⟩ b3w) ⟨rfl,rfl⟩
 have F:¬t.from_>fr:=A2 f;refine I0 ?_
 exact⟨i+1,⟨by omega,fun x d=>by
  rw[UI y]at d;rcases B36.1 d with d | d
  ·exact c x d
  ·rw[B33.1 d];omega⟩,by omega,A91 lf (B7 j) jN (D4 (L:=[(830,_),(831,_),(832,_)]) ⟨rfl,rfl,rfl,trivial⟩ b3w)⟩
theorem b0w{p:Prop}(h:p:=by repeat (first | exact R0 | refine tail_drop rfl ?_ | refine P0 rfl ?_ | refine pI _ rfl ?_ | refine A55 rfl ?_)):p:=h
theorem CF{gf:Fr}{ob:Obs}(A:AL.Auto)(s:Str)(V:AG A)(a:Nat)(ha:a<s.length)(ao:s.length<=16777216)(m0:Mach)(I:MG A m0)(h0:B0 ob 830=some (fR A s a))(J:B0 ob 831=some (CD m0.1))(h2:B0 ob 832=some (xL m0.2)) :
  AL.Met prog 154 [eJ] gf ob [831,832,834,837,838] (fun rs ob'=>rs=[]/\ob'=(830,fR A s (a+1))::(831,CD (vH A s a m0).1)::(832,xL (vH A s a m0).2)::oZ [831,832,834,837,838] ob):=by
 obtain⟨am,an⟩:=V.len;have ae:=I.cnt;obtain⟨j,ak⟩:∃j,j=m0.1:=⟨_,rfl⟩
 obtain⟨Y,aj⟩:∃Y,Y=m0.2:=⟨_,rfl⟩
 have T:=I.st;obtain⟨C,ad⟩:∃C,C=s[a]:=⟨_,rfl⟩
 have hv:s[((a:Nat):Int).toNat]?=some C:=by rw[B26,ad];simp[ha]
 have ai:vH A s a m0=oX A s (a+1) C.toNat m0.1 ([],List.replicate A.States.length false):=by
  unfold vH;rw[B30,<-B26 a,hv,B26];rfl
 rw[ai];rw[<-ak]at J T ae ⊢;rw[<-aj]at h2;have hl:j.length<=8000:=by omega
 refine AL.Met.introH Tryz.func154 F5 rfl rfl rfl (fun E=>?_);refine C3 (A92 831 (l:=[(0,.s eJ)]) (L:=[(830,_),(831,_),(832,_)]) ⟨cL rfl,trivial⟩ E L6 ⟨h0,J,h2,trivial⟩) ?_;refine C3 (A92 832 (l:=[(0,.s eJ)]) (L:=[(830,_),(831,_),(832,_)]) ⟨cL rfl,trivial⟩ (P1 E) L6 ⟨rfl,rfl,rfl,trivial⟩) ?_;refine C3 (Sees.forget 834) (C3 (Sees.forget 837) (C3 (Sees.forget 838) ?_));refine C3 (A91 (gf':=B2 [831,832,834,837,838] gf) (l:=[(0,.s eJ)]) (ob':=[(830,fR A s a),(831,CD j),(832,xL Y)]++oZ [831,832,834,837,838] ob) ⟨cL rfl,trivial⟩ (B7 E) b0w (D4 (L:=[(830,_),(831,_),(832,_)]) ⟨rfl,rfl,rfl,trivial⟩ (by repeat (first | exact oZ_base | refine R8 rfl ?_)))) ?_;have B:J2 831 (oZ [831,832,834,837,838] ob)=true:=tT rfl rfl;have z2:J2 832 (oZ [831,832,834,837,838] ob)=true:=tT rfl rfl;have z3:J2 834 (oZ [831,832,834,837,838] ob)=true:=tT rfl rfl;have z4:J2 837 (oZ [831,832,834,837,838] ob)=true:=tT rfl rfl;have z5:J2 838 (oZ [831,832,834,837,838] ob)=true:=tT rfl rfl;have f1:H7 831 (B2 [831,832,834,837,838] gf)=true:=rY (u6 rfl);have f2:H7 832 (B2 [831,832,834,837,838] gf)=true:=rY (u6 rfl);obtain⟨R,hR⟩:∃R,oX A s (a+1) C.toNat j ([],List.replicate A.States.length false)=R:=⟨_,rfl⟩
 rw[hR];obtain⟨Z,hZ⟩:∃Z,Z=oZ [831,832,834,837,838] ob:=⟨_,rfl⟩
 rw[<-hZ]at B z2 z3 z4 z5 ⊢;refine R9 ?_;refine D2 (P9 A0 A0 B3 hv) A0 A0 (zz 22 ?_);refine C3 (Sees.freezeG (k:=831) (α:=AL.Thread) (ec:=2) (c:=p9) (xs:=j) (e:=255) A0 A0) ?_;refine C3 (A91 (gf':=B2 [831,832,834,837,838] gf) (l:=[(0,.s eJ),(2,.s (eS C)),(3,B9 AL.Thread 2 p9 j)]) (ob':=[(830,macG A s (a+1) (.p (.list AL.Thread 2 p9 j)) (.mut 832)),(832,xL Y)]++Z) lf (B7 E) b0w (D4 (L:=[(830,_),(832,_)]) ⟨rfl,rfl,trivial⟩ (by repeat (first | exact N7 | refine R8 rfl ?_ | refine G8 (F7 z2).2.1 ?_ | refine G8 (F7 z4).2.1 ?_ | refine G8 (F7 z5).2.1 ?_ | refine rA (by first | exact B | exact z2 | exact z3 | exact z4 | exact z5) ?_ | refine dD (by first | exact B | exact z2 | exact z3 | exact z4 | exact z5) ?_)))) ?_;refine C3 (Sees.forget 832) ?_;refine C3 (A91 (gf':=B2 [831,832,834,837,838] gf) (l:=[(0,.s eJ),(2,.s (eS C)),(3,B9 AL.Thread 2 p9 j)]) (ob':=[(830,macG A s (a+1) (.p (.list AL.Thread 2 p9 j)) .any)]++Z) lf (B7 E) b0w (D4 (L:=[(830,_)]) ⟨rfl,trivial⟩ (by repeat (first | exact N7 | refine R8 rfl ?_ | refine G8 (F7 z2).2.1 ?_ | refine G8 (F7 z4).2.1 ?_ | refine G8 (F7 z5).2.1 ?_ | refine rA (by first | exact B | exact z2 | exact z3 | exact z4 | exact z5) ?_ | refine dD (by first | exact B | exact z2 | exact z3 | exact z4 | exact z5) ?_)))) ?_;refine L8 [14,11,8] [[],[8],[11],[11,8],[14,11,8]] [(8,([832],[])),(11,([],[])),(14,([],[]))] [(0,[]),(1,[]),(2,[]),(3,[]),(4,[]),(5,[]),(6,[]),(7,[]),(8,[]),(9,[]),(10,[]),(11,[]),(11,[8]),(12,[11,8]),(13,[11,8]),(14,[11,8])] [(0,[8]),(1,[8]),(1,[11]),(1,[11,8]),(7,[11]),(8,[11]),(9,[8]),(10,[8])] E7 E7 (C8 A0 A0 E7 A0 A0 (C4 A0 A0) (C8 A0 A0 E7 A0 A0 (C4 A0 A0) (C8 A0 A0 E7 A0 A0 (C4 A0 A0) (C8 A0 A0 E7 A0 A0 (C9 A0) (C8 A0 A0 E7 A0 A0 (D3 A0) (C8 A0 A0 E7 A0 A0 (D3 A0) (C8 A0 A0 E7 A0 A0 (D1 A0 A0 A0) (C8 A0 A0 E7 A0 A0 (gO A0 (.pure _ _ _ _)) ?_))))))));refine Y4 rfl rfl E7 rfl rfl (zG (fun F D hk=>eW 832 Bool XQ false (T4 D rfl) (T4 D rfl) WY WY (fun _=>b1w) (by rw[hk];(repeat (first | exact z2 | refine TM ?_ | refine N9 rfl rfl ?_))))) rfl ?_;refine C8 A0 A0 E7 A0 A0 (C9 A0) (C8 A0 A0 E7 A0 A0 (D3 A0) (Y4 A0 A0 E7 A0 A0 (gS (fun F D=>I9 TySz.out (T4 D A0) A0 (T4 D A0) A0 A0 A0)) A0 (w_again A0 A0 E7 A0 A0 (gS (fun F D=>I9 TySz.out (T4 D A0) A0 (T4 D A0) A0 A0 A0)) A0 (C8 A0 A0 E7 A0 A0 (C9 A0) (C8 A0 A0 E7 A0 A0 (D3 A0) (Y4 A0 A0 E7 A0 A0 (gS (fun F D=>I9 TySz.out (T4 D A0) A0 (T4 D A0) A0 A0 A0)) A0 ?_))))));refine vY (ks:=[831,832,834,837,838]) rfl E7 rfl ?_ ?_
 ·refine J1 A0 A0 E7 A0 A0 (C4 A0 A0) (J1 A0 A0 E7 A0 A0 (C4 A0 A0) (J1 A0 A0 E7 A0 A0 (C4 A0 A0) (J1 A0 A0 E7 A0 A0 (C4 A0 A0) (J1 A0 A0 E7 A0 A0 (gO A0 (.pure _ _ _ _)) ?_))));refine x_eff rfl rfl E7 rfl rfl (zG (fun F D hk=>eW 832 Bool XQ false (T4 D rfl) (T4 D rfl) WY WY (fun _=>b1w) (by rw[hk];(repeat (first | exact z2 | refine TM ?_ | refine N9 rfl rfl ?_))))) rfl (A40 (by repeat (first | exact trivial | refine⟨.inr rfl,?_⟩ | refine⟨.inl rfl,?_⟩ | exact BO SY))) ?_;refine J1 A0 A0 E7 A0 A0 (C9 A0) (J1 A0 A0 E7 A0 A0 (D3 A0) ?_);exact jT
 refine F8 ?_;refine C3 (A91 (gf':=B2 [831,832,834,837,838] gf) (l:=[(0,.s eJ),(2,.s (eS C)),(3,B9 AL.Thread 2 p9 j)]) (ob':=[(830,macG A s (a+1) (.p (.v (.slice none 0 0))) (.mut 832)),(832,xL (List.replicate A.States.length false))]++Z) lf (B7 E) b0w (D4 (L:=[(830,_),(832,_)]) ⟨rfl,rfl,trivial⟩ (by repeat (first | exact N7 | refine R8 rfl ?_ | refine G8 (F7 z2).2.1 ?_ | refine G8 (F7 z4).2.1 ?_ | refine G8 (F7 z5).2.1 ?_ | refine rA (by first | exact B | exact z2 | exact z3 | exact z4 | exact z5) ?_ | refine dD (by first | exact B | exact z2 | exact z3 | exact z4 | exact z5) ?_)))) ?_;refine C3 (A96 831 AL.Thread 2 p9 255 (kb:=830) (o:=4) A0 A0 (and_tt (nX A0 (nX A0 (nX A0 f1))) (N9 A0 A0 (N9 A0 A0 B)))) (N0 ?_);refine C1 (X:=Nat×Mach) (fun x=>([(0,.s eJ),(2,.s (eS C)),(40,B9 AL.Thread 2 p9 j),(41,B1 j.length),(42,B1 x.1)]++B2 [831,832,834,837,838] gf,[(830,fR A s (a+1)),(831,CD x.2.1),(832,xL x.2.2)]++Z)) (fun x=>x.1<=j.length/\oX A s (a+1) C.toNat (j.drop x.1) x.2=R/\MG A x.2) (fun x=>j.length-x.1) (0,([],List.replicate A.States.length false)) ⟨B37 _,hR,MG.first A⟩ ?_ ?_
 ·exact A91 lf (B7 E) b0w (D4 (L:=[(830,_),(831,_),(832,_)]) ⟨rfl,rfl,rfl,trivial⟩ (by repeat (first | exact N7 | refine R8 rfl ?_ | refine G8 (F7 z2).2.1 ?_ | refine G8 (F7 z4).2.1 ?_ | refine G8 (F7 z5).2.1 ?_ | refine rA (by first | exact B | exact z2 | exact z3 | exact z4 | exact z5) ?_ | refine dD (by first | exact B | exact z2 | exact z3 | exact z4 | exact z5) ?_)))
 rintro⟨i,m⟩ ⟨hi,g,G⟩;dsimp only at hi g G ⊢;refine zc 5 (fun H=>?_) fun H=>?_;rotate_left
 ·have af:i=j.length:=by have:=A2 H;omega
  rw[af,List.drop_length]at g;have ac:m=R:=g;rw[ac];refine F8 ?_;exact Q0 (fJ rfl) b0w (D4 (L:=[(830,_),(831,_),(832,_)]) ⟨rfl,rfl,rfl,trivial⟩ (by repeat (first | exact N7 | refine R8 rfl ?_ | refine G8 (F7 z2).2.1 ?_ | refine G8 (F7 z4).2.1 ?_ | refine G8 (F7 z5).2.1 ?_ | refine rA (by first | exact B | exact z2 | exact z3 | exact z4 | exact z5) ?_ | refine dD (by first | exact B | exact z2 | exact z3 | exact z4 | exact z5) ?_))) ⟨rfl,rfl⟩
 have O:i<j.length:=by have:=A1 H;omega
 obtain⟨t,U⟩:∃t,t=j[i]:=⟨_,rfl⟩
 have al:j[i]?=some t:=by rw[U];simp[O]
 rw[B40 O,<-U,oX]at g;obtain⟨Q,S⟩:=T t (B43 al);obtain⟨q,P⟩:∃q,q=aX A t.state:=⟨_,rfl⟩
 have ap:A.States[t.state.toNat]?=some q:=by rw[P];exact vI ⟨Q,S⟩
 have ah:=mF (wV V ⟨Q,S⟩);rw[<-P]at g ah;refine J5 ?_;refine B6 (eV 837 (F7 (N9 A0 A0 (N9 A0 A0 (N9 A0 A0 z4)))).2.1 F5) A0 (H8 ?_);refine C3 (A91 (gf':=B2 [831,832,834,837,838] gf) (l:=[(0,.s eJ),(2,.s (eS C)),(40,B9 AL.Thread 2 p9 j),(41,B1 j.length),(42,B1 i),(5,.s (.one (.ref 837 0)))]) (ob':=[(830,fR A s (a+1)),(831,CD m.1),(832,xL m.2),(837,.box [.p (.v (.int .i64 t.state)),.p (.v (.int .i64 t.from_))])]++Z) lf (B7 E) b0w (D4 (L:=[(830,_),(831,_),(832,_),(837,_)]) ⟨rfl,rfl,rfl,rfl,trivial⟩ (by repeat (first | exact N7 | refine R8 rfl ?_ | refine G8 (F7 z2).2.1 ?_ | refine G8 (F7 z4).2.1 ?_ | refine G8 (F7 z5).2.1 ?_ | refine rA (by first | exact B | exact z2 | exact z3 | exact z4 | exact z5) ?_ | refine dD (by first | exact B | exact z2 | exact z3 | exact z4 | exact z5) ?_)))) ?_;refine L8 [10,9] [[],[9],[10,9]] [(9,([838],[])),(10,([],[]))] [(0,[]),(1,[]),(2,[]),(3,[]),(4,[]),(5,[]),(6,[]),(7,[]),(8,[]),(9,[]),(10,[9])] [(0,[9]),(1,[9]),(2,[9]),(3,[9]),(4,[9]),(5,[9]),(6,[9]),(7,[9]),(8,[9])] E7 E7 (C8 A0 A0 E7 A0 A0 (C4 A0 A0) (C8 A0 A0 E7 A0 A0 (C9 A0) (C8 A0 A0 E7 A0 A0 (D3 A0) (C8 A0 A0 E7 A0 A0 (D3 A0) (C8 A0 A0 E7 A0 A0 (D1 A0 A0 A0) (C8 A0 A0 E7 A0 A0 (D3 A0) (C8 A0 A0 E7 A0 A0 (D1 A0 A0 A0) (C8 A0 A0 E7 A0 A0 (F1 A0 (.pure _ _ _ _) A0 B3 kA) (C8 A0 A0 E7 A0 A0 (I1 A0 A0) ?_)))))))));refine Y4 rfl rfl E7 rfl rfl (r_alloc (by repeat (first | exact z5 | refine TM ?_ | refine N9 rfl rfl ?_))) rfl ?_;refine Y4 A0 A0 E7 A0 A0 (gS (fun F D=>I9 TySz.out (T4 D A0) A0 (T4 D A0) A0 A0 A0)) A0 ?_;refine vY (ks:=[831,832,834,837,838]) rfl E7 rfl ?_ ?_
 ·refine J1 A0 A0 E7 A0 A0 (C4 A0 A0) (J1 A0 A0 E7 A0 A0 (C9 A0) (J1 A0 A0 E7 A0 A0 (D3 A0) (J1 A0 A0 E7 A0 A0 (D3 A0) (J1 A0 A0 E7 A0 A0 (D1 A0 A0 A0) (J1 A0 A0 E7 A0 A0 (D3 A0) (J1 A0 A0 E7 A0 A0 (D1 A0 A0 A0) (J1 A0 A0 E7 A0 A0 (F1 A0 (.pure _ _ _ _) A0 B3 kA) (J1 A0 A0 E7 A0 A0 (I1 A0 A0) ?_))))))));exact jT
 refine F8 ?_;refine C3 (A91 (gf':=B2 [831,832,834,837,838] gf) (l:=[(0,.s eJ),(2,.s (eS C)),(40,B9 AL.Thread 2 p9 j),(41,B1 j.length),(42,B1 i),(5,.s (.one (.ref 837 0))),(6,.s (.one (.ref 838 0)))]) (ob':=[(830,fR A s (a+1)),(831,CD m.1),(832,xL m.2),(837,.box [.p (.v (.int .i64 t.state)),.p (.v (.int .i64 t.from_))]),(838,.box ((cellsOf gI q 0 7).map .p))]++Z) lf (B7 E) b0w (D4 (L:=[(830,_),(831,_),(832,_),(837,_),(838,_)]) ⟨rfl,rfl,rfl,rfl,rfl,trivial⟩ (by repeat (first | exact N7 | refine R8 rfl ?_ | refine G8 (F7 z2).2.1 ?_ | refine G8 (F7 z4).2.1 ?_ | refine G8 (F7 z5).2.1 ?_ | refine rA (by first | exact B | exact z2 | exact z3 | exact z4 | exact z5) ?_ | refine dD (by first | exact B | exact z2 | exact z3 | exact z4 | exact z5) ?_)))) ?_;by_cases W:q.Kind=0
 ·have K:C.toNat / 64=0\/C.toNat / 64=1\/C.toNat / 64=2\/C.toNat / 64=3:=by have:=C.toNat_lt;omega
  have z:=A3 W;rcases K with K | K | K | K
  all_goals
   have ag:=quo64 C.toNat_lt K;have I:0<=(C.toNat:Int).tmod 64:=Int.tmod_nonneg _ B3;refine I0 ?_;refine E4 A0 A0 A0 z (F8 ?_);refine E4 A0 A0 A0 z (A9 (IX A0 A0 F5) A0 (E4 A0 A0 A0 z (F8 ?_)));refine E4 A0 A0 A0 z (A9 (bY A0 A0 (ag) F5) A0 (E4 A0 A0 A0 z (F8 ?_)));refine E4 A0 A0 A0 z (F8 ?_);refine E4 A0 A0 A0 z (A9 (FT A0 A0 F5) A0 (E4 A0 A0 A0 z (A9 (n_shr A0 A0 (by (exact I))) A0 ?_)));refine E4 A0 A0 A0 z (F8 ?_);refine E4 A0 A0 A0 z (F8 ?_);refine A9 (Y2 A0 (z) A0) A0 ?_;refine zc 1 (fun H=>?_) fun H=>?_
   ·have hB:sQ q.Set C.toNat=1:=by
     have J:=A1 H;rw[RE,rem64]at J;unfold sQ;rw[K];exact J
    rw[A5 ⟨W,hB⟩]at g;obtain⟨M,hM⟩:∃M,VO A s (a+1) ⟨q.Next,t.from_⟩ m=M:=⟨_,rfl⟩
    rw[hM]at g;have ab:MG A M:=by rw[<-hM];exact wW s V b2z G
    skip;refine J5 ?_;refine M9 (HO A s V (a+1) q.Next t.from_ m M G B3 hM A0 A0 A0 (F7 (N9 A0 A0 (N9 A0 A0 (N9 A0 A0 (N9 A0 A0 (N9 A0 A0 z3)))))).2.1) A0 A0 A0 (I0 ?_);refine⟨(i+1,M),⟨by omega,g,ab⟩,by dsimp only;omega,?_⟩;exact A91 lf (B7 E) b0w (D4 (L:=[(830,_),(831,_),(832,_)]) ⟨rfl,rfl,rfl,trivial⟩ (by repeat (first | exact N7 | refine R8 rfl ?_ | refine G8 (F7 z2).2.1 ?_ | refine G8 (F7 z4).2.1 ?_ | refine G8 (F7 z5).2.1 ?_ | refine rA (by first | exact B | exact z2 | exact z3 | exact z4 | exact z5) ?_ | refine dD (by first | exact B | exact z2 | exact z3 | exact z4 | exact z5) ?_)))
   ·have hB:¬sQ q.Set C.toNat=1:=by
     have J:=A2 H;rw[RE,rem64]at J;unfold sQ;rw[K];exact J
    rw[A6 (fun h=>hB h.2)]at g;refine I0 ?_;refine⟨(i+1,m),⟨by omega,g,G⟩,by dsimp only;omega,?_⟩;exact A91 lf (B7 E) b0w (D4 (L:=[(830,_),(831,_),(832,_)]) ⟨rfl,rfl,rfl,trivial⟩ (by repeat (first | exact N7 | refine R8 rfl ?_ | refine G8 (F7 z2).2.1 ?_ | refine G8 (F7 z4).2.1 ?_ | refine G8 (F7 z5).2.1 ?_ | refine rA (by first | exact B | exact z2 | exact z3 | exact z4 | exact z5) ?_ | refine dD (by first | exact B | exact z2 | exact z3 | exact z4 | exact z5) ?_)))
 have w:=A4 W;refine I0 ?_;refine H5 A0 A0 A0 (by rw[w];decide) A0 ?_;refine H5 A0 A0 A0 (by rw[w];decide) A0 ?_;refine H5 A0 A0 A0 (by rw[w];decide) A0 ?_;refine H5 A0 A0 A0 (by rw[w];decide) A0 ?_;refine H5 A0 A0 A0 (by rw[w];decide) A0 ?_;refine H5 A0 A0 A0 (by rw[w];decide) A0 ?_;refine H5 A0 A0 A0 (by rw[w];decide) A0 ?_;refine H5 A0 A0 A0 (by rw[w];decide) A0 ?_;refine H5 A0 A0 A0 (by rw[w];decide) A0 ?_;refine H5 A0 A0 A0 (by rw[w];decide) A0 ?_;refine A9 (Y3 A0 (w) A0) A0 ?_;refine zc 1 (fun H=>?_) fun H=>?_
 ·cases H
 refine I0 ?_;rw[A6 (fun h=>W h.1)]at g;refine⟨(i+1,m),⟨by omega,g,G⟩,by dsimp only;omega,?_⟩;exact A91 lf (B7 E) b0w (D4 (L:=[(830,_),(831,_),(832,_)]) ⟨rfl,rfl,rfl,trivial⟩ (by repeat (first | exact N7 | refine R8 rfl ?_ | refine G8 (F7 z2).2.1 ?_ | refine G8 (F7 z4).2.1 ?_ | refine G8 (F7 z5).2.1 ?_ | refine rA (by first | exact B | exact z2 | exact z3 | exact z4 | exact z5) ?_ | refine dD (by first | exact B | exact z2 | exact z3 | exact z4 | exact z5) ?_)))
theorem PE{A:AL.Auto}{s:Str}{f a:Nat}{m m1 g:Mach}{b d:Int×Int}{e c:Bool}{i:Int}(h:(if e=true then m else VO A s a ⟨A.Start,a⟩ m)=m1)(l:aS A m1.1=i)(hb:(if 0<=i then (i,(a:Int)) else b)=d)(k:(if 0<=i then true else e)=c)(j:(if 0<=i then (gK i m1.1,m1.2) else m1)=g) :
  wU A s (f+1) a m b e=if a=s.length\/(c=true/\g.1=[]) then (d,c) else wU A s f (a+1) (vH A s a g) d c:=by
 subst h l hb k j;rfl
theorem A69(A:AL.Auto)(s:Str)(D:AG A)(P:s.length<=16777216):FnOk prog 116 [mP A,G5 s,E2 0] (fun rs=>rs=[.agg [.v (.int .i64 (yJ A s 0).1.1),.v (.int .i64 (yJ A s 0).1.2)],F6 (yJ A s 0).2]):=by
 obtain⟨R,N⟩:∃R,yJ A s 0=R:=⟨_,rfl⟩
 rw[N];have K:wU A s (s.length+1-0) 0 ([],List.replicate A.States.length false) (0,0) false=R:=N;obtain⟨T,U⟩:=D.len;refine FnOk.intro Tryz.func116 F5 A0 A0 A0 A0 (H8 ?_);refine B6 (E6 6 A0) A0 (J5 ?_);refine mK (UH A s D) A0 A0 A0 A0 ?_;rintro _ _ ⟨rfl,rfl⟩;refine⟨rfl,?_⟩;refine H2 ?_;refine GO ?_;refine C3 (A96 831 AL.Thread 2 p9 255 (kb:=830) (o:=4) A0 A0 A0) (H2 ?_);refine B6 (E6 9 A0) A0 (N0 ?_);refine C1 (X:=Nat×Mach×(Int×Int)×Bool) (fun x=>([(1,T0 s),(3,.s (.one (.eref Unit 2 (CC A) () 0))),(6,.s (.one (.ref 6 0))),(8,.s (.one (.ref 830 0))),(9,.s (.one (.ref 9 0))),(10,S6 x.2.2.2)],[(830,fR A s x.1),(831,CD x.2.1.1),(832,xL x.2.1.2),(6,.box [.p (.v (.int .i64 0)),.p (.v (.int .i64 0))]),(9,.box [.p (.v (.int .i64 x.2.2.1.1)),.p (.v (.int .i64 x.2.2.1.2))])])) (fun x=>x.1<=s.length/\MG A x.2.1/\wU A s (s.length+1-x.1) x.1 x.2.1 x.2.2.1 x.2.2.2=R) (fun x=>s.length-x.1) (0,([],List.replicate A.States.length false),(0,0),false) ⟨B37 _,MG.first A,K⟩ (C6) ?_;rintro⟨a,m,⟨L,M⟩,H⟩ ⟨ha,I,c⟩;dsimp only at ha I c ⊢;obtain⟨m1,q⟩:∃m1,(if H=true then m else VO A s a ⟨A.Start,a⟩ m)=m1:=⟨_,rfl⟩
 obtain⟨i,O⟩:∃i,aS A m1.1=i:=⟨_,rfl⟩
 obtain⟨C,y⟩:∃C,(if 0<=i then (i,(a:Int)) else (L,M))=C:=⟨_,rfl⟩
 obtain⟨w,j⟩:∃w,(if 0<=i then true else H)=w:=⟨_,rfl⟩
 obtain⟨B,u⟩:∃B,(if 0<=i then (gK i m1.1,m1.2) else m1)=B:=⟨_,rfl⟩
 rw[show s.length+1-a=(s.length-a)+1 by omega,PE q O y j u]at c;have E:MG A m1:=by
  rw[<-q];split
  ·exact I
  ·exact wW s D D.start I
 have z:MG A B:=by
  rw[<-u];split
  ·exact E.keep i
  ·exact E
 have Q:=E.cnt;have S:=z.cnt;refine J5 ?_;refine kT [(1,T0 s),(3,.s (.one (.eref Unit 2 (CC A) () 0))),(6,.s (.one (.ref 6 0))),(8,.s (.one (.ref 830 0))),(9,.s (.one (.ref 9 0))),(10,S6 H)] [(830,fR A s a),(831,CD m1.1),(832,xL m1.2),(6,.box [.p (.v (.int .i64 0)),.p (.v (.int .i64 0))]),(9,.box [.p (.v (.int .i64 L)),.p (.v (.int .i64 M))])] ?_ ?_
 ·cases H with
  | true =>
   rw[A5 rfl]at q;subst q;skip;refine zc 0 (fun d=>?_) fun d=>?_
   ·cases d
   refine F8 ?_;exact C6
  | false =>
   rw[A6 F5]at q;skip;refine zc 0 (fun d=>?_) fun d=>?_;rotate_left
   ·cases d
   skip;refine j3 8 E7 E7 A0 (J5 ?_);refine D2 (sZ A0) A0 A0 (F8 ?_);refine fL (HO A s D a A.Start a m m1 I D.start q A0 A0 A0 A0) A0 A0 A0 ?_;rintro _ _ ⟨rfl,rfl⟩;refine⟨_,rfl,?_⟩;refine F8 ?_;refine GO ?_;exact C6
 refine R6 ?_;refine M9 (CE A s a m1.1 m1.2 E.st B3 A0 A0 A0 A0) A0 A0 A0 (H8 ?_);rw[O];refine R6 ?_;refine kT [(1,T0 s),(3,.s (.one (.eref Unit 2 (CC A) () 0))),(6,.s (.one (.ref 6 0))),(8,.s (.one (.ref 830 0))),(9,.s (.one (.ref 9 0))),(10,S6 w)] [(830,fR A s a),(831,CD B.1),(832,xL B.2),(6,.box [.p (.v (.int .i64 0)),.p (.v (.int .i64 0))]),(9,.box [.p (.v (.int .i64 C.1)),.p (.v (.int .i64 C.2))])] ?_ ?_
 ·skip;refine zc 0 (fun d=>?_) fun d=>?_
  ·have J:=A1 d;rw[A5 J]at y j u;subst y j u;refine zz 14 ?_;refine M9 (UJ A s a i m1.1 m1.2 B3 A0 A0 A0 A0) A0 A0 A0 (F8 ?_);exact C6
  ·have J:=A2 d;rw[A6 J]at y j u;subst y j u;refine F8 ?_;exact C6
 refine H2 ?_;by_cases F:a=s.length
 ·have k:decide ((a:Int)=(s.length:Int))=true:=A3 B3;rw[A5 (.inl F)]at c;refine U7 ?_;refine H5 A0 A0 A0 (by rw[k];decide) A0 ?_;refine H5 A0 A0 A0 (by rw[k];decide) A0 ?_;refine pY A0 A0 A0 A0 (pY A0 A0 A0 A0 (pY A0 A0 A0 A0 (pY A0 A0 A0 A0 (pY A0 A0 A0 A0 (pY A0 A0 A0 A0 (H5 A0 A0 A0 (by rw[k];decide) A0 ?_))))));refine A9 (Y2 A0 (k) A0) A0 ?_;refine zc 1 (fun d=>?_) fun d=>?_;rotate_left
  ·cases d
  refine X0 ?_;exact A8 (rs:=[.agg [.v (.int .i64 C.1),.v (.int .i64 C.2)],F6 w]) (zY rfl rfl rfl rfl rfl rfl rfl) (by rw[<-c])
 have k:decide ((a:Int)=(s.length:Int))=false:=A4 B3;cases w with
 | true =>
  refine U7 ?_;refine E4 A0 A0 A0 k (F8 ?_);refine E4 A0 A0 A0 k (F8 ?_);refine E4 A0 A0 A0 A0 (F8 ?_);refine E4 A0 A0 A0 A0 (F8 ?_);refine E4 A0 A0 A0 A0 (F8 ?_);refine E4 A0 A0 A0 A0 (F8 ?_);refine E4 A0 A0 A0 A0 (F8 ?_);refine E4 A0 A0 A0 A0 (F8 ?_);refine E4 A0 A0 A0 k (A9 (Y2 A0 (rfl) A0) A0 (A9 (Y3 A0 (k) A0) A0 ?_));refine zc 1 (fun d=>?_) fun d=>?_
  ·have G:B.1=[]:=List.length_eq_zero_iff.1 (by have:=A1 d;omega);rw[A5 (.inr ⟨rfl,G⟩)]at c;refine X0 ?_;exact A8 (rs:=[.agg [.v (.int .i64 C.1),.v (.int .i64 C.2)],F6 true]) (zY rfl rfl rfl rfl rfl rfl rfl) (by rw[<-c])
  ·have G:B.1≠[]:=fun e=>by have:=A2 d;rw[e]at this;exact this rfl
   rw[A6 (fun h=>h.elim F fun h=>G h.2)]at c;refine H8 ?_;refine M9 (CF A s D a B3 P B z A0 A0 A0) A0 A0 A0 (F8 ?_);exact⟨(a+1,vH A s a B,C,true),⟨by dsimp only;omega,EF s D z,by dsimp only;rw[show s.length+1-(a+1)=s.length-a by omega];exact c⟩,by dsimp only;omega,C6⟩
 | false =>
  rw[A6 (fun h=>h.elim F fun h=>by cases h.1)]at c;refine U7 ?_;refine E4 A0 A0 A0 k (F8 ?_);refine E4 A0 A0 A0 k (J5 ?_);refine E4 A0 A0 A0 k (A9 (Y3 A0 (rfl) A0) A0 (A9 (Y3 A0 (k) A0) A0 ?_));refine zc 1 (fun d=>?_) fun d=>?_
  ·cases d
  refine H8 ?_;refine M9 (CF A s D a B3 P B z A0 A0 A0) A0 A0 A0 (F8 ?_);exact⟨(a+1,vH A s a B,C,false),⟨by dsimp only;omega,EF s D z,by dsimp only;rw[show s.length+1-(a+1)=s.length-a by omega];exact c⟩,by dsimp only;omega,C6⟩
theorem anyG_ok(A:AL.Auto)(s:Str)(a:AG A)(c:s.length<=16777216):FnOk prog 72 [mP A,G5 s] (fun rs=>rs=[F6 (yJ A s 0).2,E2 0]):=by
 refine FnOk.intro Tryz.func72 F5 A0 A0 A0 A0 (R9 ?_);refine F0 (UG A a) ?_;refine zc 7 (fun b=>?_) fun b=>?_
 ·cases b
 refine I0 ?_;refine F0 (A69 A s a c) (H8 ?_);refine B6 (E6 7 A0) A0 (R9 ?_);exact A8 (rs:=[F6 (yJ A s 0).2,E2 0]) nP rfl
end Go.Proofs.YtmbpmaofnddkoaaGreatDoor
