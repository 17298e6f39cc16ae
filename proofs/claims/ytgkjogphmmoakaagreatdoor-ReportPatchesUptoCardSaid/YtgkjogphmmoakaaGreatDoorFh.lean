/- Walks of the program's functions. -/
import Derived.Test.YtgkjogphmmoakaaGreatDoorFg
set_option linter.all false
namespace Go.Proofs.YtgkjogphmmoakaaGreatDoor
open Go Go.AL
set_option maxRecDepth 100000
set_option maxHeartbeats 1000000
set_option maxHeartbeats 2000000
abbrev g0:Graph:=[⟨[],0,[⟨[120],[97,97]⟩]⟩]
abbrev bb:Str:=[97,97]
abbrev g1:Graph:=[⟨[],0,[⟨[120],bb⟩]⟩]
theorem IA{p:Patch}(a:J1 p=0)(c:(K1 p).length<=1048576):FnOk Tryz.prog 11 [F9 (K1 p)] (fun rs=>rs=[pPatch p,E2 0]):=by
 have h:=MM (K1 p) c;unfold oX at h;rw[JE (fun p b=>JD b) a]at h;exact h
theorem EC(M:List Int)(a0 b0 d:Int):FnOk Tryz.prog 4 [O1 M,E2 a0,E2 b0,E2 d] (fun rs=>rs=[F3 true]):=by
 have af:=Y8 d (n:=4) (by omega);have C:=gU d 4 (by omega) (by omega);obtain⟨n,hn⟩:∃n,n=W8 d 4:=⟨_,rfl⟩
 rw[<-hn]at af C;refine FnOk.intro Tryz.func4 (by decide) Z Z Z Z ?_;refine k2 ?_;refine A7 (A6 (A9 Z Z) Z (B0 ?_));refine k1 (k2 ?_);refine A7 (A6 (A8 Z Z) Z (C4 (RO M 5 4 (by omega) (by omega)) Z Z Z ?_));rintro _ ⟨g,rfl,j,hv⟩;refine A6 (A9 Z Z) Z (B0 ?_);have Q:=j.few (by decide);have an:=j.len;have hd:=hv.check;refine k1 (k2 (k2 ?_));refine A7 (A6 (A8 Z Z) Z (A6 (F0 Z (.pure _ _ _ _)) Z (A6 (I3 Z Z) Z (B0 ?_))));refine k1 ?_;refine B8 rfl (fun q=>?_) (fun q=>?_)
 ·refine k2 ?_;refine A7 (C4 (wF) Z Z Z ?_);rintro _ rfl;refine A6 (A9 Z Z) Z (B0 ?_);refine k1 (G5 (I2 ?_));exact C0 (rs:=[F3 true]) (H6 rfl rfl rfl) rfl
 have ao:¬(g.length:Int)=0:=A1 q;have Y:=Y8 a0 (n:=(g.length:Int)) (by omega);have ae:=Y8 b0 (n:=(g.length:Int)) (by omega);refine k5 (k1 (k2 ?_));refine A7 (A6 (A8 Z Z) Z (A6 (A8 Z Z) Z (A6 (F0 Z (.pure _ _ _ _)) Z (C4 (gU a0 (g.length:Int) (by omega) (by omega)) Z Z Z ?_))));rintro _ rfl;refine A6 (A8 Z Z) Z (A6 (A8 Z Z) Z (A6 (F0 Z (.pure _ _ _ _)) Z (C4 (gU b0 (g.length:Int) (by omega) (by omega)) Z Z Z ?_)));rintro _ rfl;refine A6 (A9 Z Z) Z (A6 (A9 Z Z) Z (B0 ?_));obtain⟨a,T⟩:∃a:Nat,W8 a0 (g.length:Int)=(a:Int):=⟨(W8 a0 (g.length:Int)).toNat,by omega⟩
 obtain⟨b,ab⟩:∃b:Nat,W8 b0 (g.length:Int)=(b:Int):=⟨(W8 b0 (g.length:Int)).toNat,by omega⟩
 rw[T]at Y ⊢;rw[ab]at ae ⊢;have ha:a<g.length:=by omega
 have hb:b<g.length:=by omega
 have ag:dT g (a:Int):=⟨by omega,by omega⟩
 have ah:dT g (b:Int):=⟨by omega,by omega⟩
 obtain⟨O,V⟩:∃R,R=g[a]:=⟨_,rfl⟩
 have v:g[((a:Nat):Int).toNat]?=some O:=by rw[V];simp[ha]
 have J:N9 g a=O.Files:=qZ (by rw[A36]at v;exact v);have U:(N9 g a).length<=1073741824:=(Q.files a).len;obtain⟨P,ad⟩:∃R,R=g[b]:=⟨_,rfl⟩
 have z:g[((b:Nat):Int).toNat]?=some P:=by rw[ad];simp[hb]
 have K:N9 g b=P.Files:=qZ (by rw[A36]at z;exact z);have ac:(N9 g b).length<=1073741824:=(Q.files b).len;have L:∀c t,(cT (N9 g c) t).length<=250000/\(E9 (cT (N9 g c) t)).length<=2112:=fun c t=>by
  unfold cT;cases hf:O7 (N9 g c) t with
  | none=>exact⟨by decide,by decide⟩
  | some w =>
   obtain⟨f,m,_,rfl⟩:=wS hf;unfold N9 at m;by_cases hc:c<g.length
   ·rw[A32 hc]at m;have S:=((j.files _ (A37 hc)).all f m).2;have h2:=(hv.files _ (A37 hc)).1.cnt f m;have h3:=NV f.Blob;exact⟨S,by show (E9 f.Blob).length<=_;omega⟩
   ·rw[A52 (by omega)]at m;cases m
 refine k1 (k2 ?_);refine A7 (A6 (E0 (c:=J9) (ys:=names4) (D9 Z Z Z Z (D9 Z Z Z Z (D9 Z Z Z Z (D9 Z Z Z Z H2)))) Z Z Z) Z (A6 (A9 Z Z) Z (B0 ?_)));refine k1 (k2 (k2 ?_));refine A7 (A6 (A9 Z Z) Z (B0 ?_));refine k1 (k3 ?_);refine E3 (X:=Nat) (fun i=>([(1,C7 a),(2,C7 b),(3,C7 d),(9,D7 Commit 3 J3 g),(10,D7 Str 1 J9 names4),(11,C7 i)],[])) (fun i=>i<=4) (fun i=>4-i) 0 (Nat.zero_le _) (Sees.of ⟨B5 rfl,B5 rfl,B5 rfl,B5 rfl,B5 rfl,B5 rfl,trivial⟩ trivial) ?_;intro i hi;dsimp only at hi ⊢;refine k2 (k2 ?_);refine A7 (A6 (A8 Z Z) Z (A6 (F2 Z Z) Z (B0 ?_)));refine k1 ?_;refine B8 rfl (fun q=>?_) (fun q=>?_);rotate_left
 ·refine k6 (k2 ?_);refine A7 (C4 (wF) Z Z Z ?_);rintro _ rfl;refine A6 (A9 Z Z) Z (B0 ?_);refine k1 (G5 ?_);exact C0 (rs:=[F3 true]) (H6 rfl rfl rfl) rfl
 have ai:i<4:=by have S:=A0 q;(try dsimp only at S);omega
 obtain⟨k,s,aj,ak⟩:=WV i ai;obtain⟨E,F⟩:=L a k;obtain⟨G,H⟩:=L b k;obtain⟨x,hx⟩:∃x,x=cT (N9 g a) k:=⟨_,rfl⟩
 obtain⟨y,hy⟩:∃y,y=cT (N9 g b) k:=⟨_,rfl⟩
 have A:=GO O.Files k (by rw[<-J];exact U);rw[show (O7 O.Files k).getD []=x by rw[hx,J];rfl]at A;have B:=GO P.Files k (by rw[<-K];exact ac);rw[show (O7 P.Files k).getD []=y by rw[hy,K];rfl]at B;rw[<-hx]at E F;rw[<-hy]at G H;obtain⟨p,m,I,hz,al,W⟩:=WT k x y n ak aj E G F H (by omega);have hO:=VH g a b n k x y p Q ha hb hx.symm hy.symm ⟨by omega,by omega⟩ ⟨by omega,by omega⟩ m I (by omega);have hD:=UV g ⟨3,a,b,n,false,k⟩ (K1 p) 0 Q hd (by dsimp only;omega) (WU (by omega) (by omega) (by omega)) ag (fun _=>ah) (by dsimp only;decide) ⟨fun h=>absurd h (by dsimp only;decide),fun _=>hO,fun h=>absurd h (by dsimp only;decide),fun h=>absurd h (by dsimp only;decide),fun h=>absurd h (by dsimp only;decide),fun h=>absurd h (by dsimp only;decide),fun h=>absurd h (by dsimp only;decide)⟩;have hP:=IA I al;have hA:=HU p x hz (by omega);rw[W]at hA;obtain⟨w,hw⟩:∃w,w=K1 p:=⟨_,rfl⟩
 rw[<-hw]at hD hP;refine k5 (k1 (k2 (k3 (k2 ?_))));refine D8 (by kernel_rfl) (by kernel_rfl) (B3 (A8 Z Z) Z Z (B3 (A8 Z Z) Z Z (B3 (A8 Z Z) Z Z (B3 (A8 Z Z) Z Z (B3 (H4 (C) Z Z) Z Z (B3 (A8 Z Z) Z Z (B3 (A8 Z Z) Z Z (B3 (C1 Z (.pure _ _ _ _) Z (by omega) s) Z Z (B3 (D1 Z Z) Z Z (B3 (F8 Z) Z Z (B3 (H4 (hD) Z Z) Z Z (B3 (A8 Z Z) Z Z (B3 (B6 Z Z) Z Z (B3 (B6 Z Z) Z Z (B3 (A9 Z Z) Z Z (B3 (A9 Z Z) Z Z (J8 ?_)))))))))))))))));refine k1 (k2 ?_);refine A7 (A6 (A8 Z Z) Z (C4 (hP) Z Z Z ?_));rintro _ rfl;refine A6 (A8 Z Z) Z (A6 (B6 Z Z) Z (A6 (B6 Z Z) Z (D2 (G3 14 Z) Z (F4 (C2 TySz.out Z Z Z Z Z Z) (A6 (A9 Z Z) Z (B0 ?_))))));refine k1 (k2 ?_);refine D8 (by kernel_rfl) (by kernel_rfl) (B3 (A8 Z Z) Z Z (B3 (A8 Z Z) Z Z (B3 (C1 Z (.pure _ _ _ _) Z (by omega) v) Z Z (B3 (L7 Z) Z Z (B3 (D1 Z Z) Z Z (B3 (A8 Z Z) Z Z (B3 (A8 Z Z) Z Z (B3 (C1 Z (.pure _ _ _ _) Z (by omega) s) Z Z (B3 (D1 Z Z) Z Z (B3 (H4 (A) Z Z) Z Z (B3 (A8 Z Z) Z Z (B3 (B6 Z Z) Z Z (B3 (B6 Z Z) Z Z (B3 (A9 Z Z) Z Z (B3 (A9 Z Z) Z Z (J8 ?_))))))))))))))));refine k1 (k2 ?_);refine D8 (by kernel_rfl) (by kernel_rfl) (B3 (A8 Z Z) Z Z (B3 (A8 Z Z) Z Z (B3 (C1 Z (.pure _ _ _ _) Z (by omega) z) Z Z (B3 (L7 Z) Z Z (B3 (D1 Z Z) Z Z (B3 (A8 Z Z) Z Z (B3 (A8 Z Z) Z Z (B3 (C1 Z (.pure _ _ _ _) Z (by omega) s) Z Z (B3 (D1 Z Z) Z Z (B3 (H4 (B) Z Z) Z Z (B3 (A8 Z Z) Z Z (B3 (B6 Z Z) Z Z (B3 (B6 Z Z) Z Z (B3 (A9 Z Z) Z Z (B3 (A9 Z Z) Z Z (J8 ?_))))))))))))))));refine k1 (k2 ?_);refine A7 (A6 (E7 Z Z Z) Z (A6 (A8 Z Z) Z (C4 (hA) Z Z Z ?_)));rintro _ rfl;refine A6 (A8 Z Z) Z (A6 (B6 Z Z) Z (A6 (B6 Z Z) Z (A6 (A9 Z Z) Z (A6 (A9 Z Z) Z (B0 ?_)))));refine k1 (k2 ?_);refine A7 (A6 (A8 Z Z) Z (A6 (K4 Z Z) Z (A6 (A8 Z Z) Z (B4 Z Z Z Z (fun j=>by rw[j];exact A8 Z Z) ?_))));refine B4 Z Z Z Z (fun j=>by rw[j];exact K4 Z Z) ?_;refine A6 (B9 Z (fun h=>by first | rfl | (rw[h];rfl)) (fun h=>by first | rfl | (rw[h];rfl))) Z ?_;refine A6 (A8 Z Z) Z (B4 Z Z Z Z (fun j=>by rw[j];exact A8 Z Z) ?_);refine B4 Z Z Z Z (fun j=>by rw[j];exact K4 Z Z) ?_;refine A6 (B9 Z (fun h=>by first | rfl | (rw[h];rfl)) (fun h=>by first | rfl | (rw[h];rfl))) Z ?_;refine A6 (A8 Z Z) Z (B4 Z Z Z Z (fun j=>by rw[j];exact A8 Z Z) ?_);refine B4 Z Z Z Z (fun j=>by rw[j];exact A8 Z Z) ?_;refine B4 Z Z Z Z (fun j=>by rw[j];exact bF Z Z) ?_;refine A6 (B9 Z (fun h=>by first | rfl | (rw[h];rfl)) (fun h=>by first | rfl | (rw[h];rfl))) Z ?_;refine B0 ?_;refine k1 ?_;refine B8 rfl (fun q=>?_) (fun q=>?_)
 ·exfalso;revert q;simp
 refine k5 (k4 (k1 ?_));refine A7 (A6 (A8 Z Z) Z (A6 (C9 Z Z (by omega)) Z (A6 (A9 Z Z) Z (B0 ?_))));refine k1 ?_;exact⟨i+1,by omega,by omega,Sees.of ⟨B5 rfl,B5 rfl,B5 rfl,B5 rfl,B5 rfl,B5 rfl,trivial⟩ trivial⟩
end Go.Proofs.YtgkjogphmmoakaaGreatDoor
