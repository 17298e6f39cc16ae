/- Walks of the program's functions. -/
import Derived.Test.YtbflhoahmmfkmaaGreatDoorFf
set_option linter.all false
namespace Go.Proofs.YtbflhoahmmfkmaaGreatDoor
open Go Go.AL
set_option maxRecDepth 100000
set_option maxHeartbeats 1000000
set_option maxHeartbeats 2000000
abbrev g0:Graph:=[⟨[],0,[⟨[120],[97,97]⟩]⟩]
abbrev bb:Str:=[97,97]
abbrev g1:Graph:=[⟨[],0,[⟨[120],bb⟩]⟩]
theorem DW(s:Str)(f:s.length<=1099511627776):FnOk Tryz.prog 14 [G8 s] (fun rs=>rs=[G8 (kE s)]):=by
 refine FnOk.intro Tryz.func14 (by decide) Z Z Z Z ?_;refine k2 ?_;refine A7 (A6 (A9 Z Z) Z (B0 ?_));refine k1 (k2 (k2 ?_));refine A7 (A6 (A8 Z Z) Z (C7 (GP s f) Z Z Z ?_));rintro _ rfl;refine B0 ?_;refine k1 ?_;refine B7 rfl (fun b=>?_) (fun b=>?_)
 ·have c:s≠[]:=fun e=>by rw[e]at b;cases b
  have d:0<s.length:=List.length_pos_iff.2 c;refine k2 ?_;refine A7 (A6 (A8 Z Z) Z (A6 (A8 Z Z) Z (A6 (M2 Z) Z (A6 (P2 Z Z (by omega)) Z (A6 (mF Z Z (by omega) (by omega)) Z (A6 (A9 Z Z) Z (B0 ?_)))))));refine k1 (J0 (M7 ?_));refine C0 (H7 Z Z Z) ?_;rw[show kE s=s.dropLast by unfold kE;rw[A4 b],List.dropLast_eq_take,show ((s.length:Int)-1).toNat=s.length-1 by omega]
 ·refine k5 (k1 (k2 ?_));refine A7 (A6 (A8 Z Z) Z (A6 (A9 Z Z) Z (B0 ?_)));refine k1 (J0 ?_);exact C0 (rs:=[G8 s]) (H7 rfl rfl rfl) (by unfold kE;rw[b];rfl)
def P7(l:List (Int×Int)):List (List Int):=l.map fun a=>[a.1,a.2]
theorem kA(g:Graph)(c:Cmd)(l:List (Int×Int))(e:Int)(E:l.length<=5000)(x:FnOk Tryz.prog 18 [G7 g,E7 c.A,G8 c.Text] (fun rs=>rs=[.one (.list (Int×Int) 2 jZ l),E7 e])) :
  FnOk Tryz.prog 39 [G7 g,bI c] (fun rs=>rs=[G8 (Z2 (P7 l)),E7 e]):=by
 obtain⟨L,b⟩:∃L,L=P7 l:=⟨_,rfl⟩
 have y:L.length=l.length:=by rw[b];unfold P7;rw[SM]
 have C:∀ns∈L,ns.length<=2:=fun ns q=>by
  rw[b]at q;obtain⟨c,_,rfl⟩:=SF.1 q;exact Nat.le_refl _
 rw[<-b];refine FnOk.intro Tryz.func39 (by decide) Z Z Z Z ?_;refine k2 ?_;refine A7 (D3 (bU 3 Z Z Z) Z (A6 (A9 Z Z) Z (A6 (A9 Z Z) Z (B0 ?_))));refine k1 (k2 ?_);refine A7 (A6 (A8 Z Z) Z (A6 (B1 Z) Z (A6 (B2 Z Z Z) Z (A6 (B1 Z) Z (A6 (B2 Z Z Z) Z (C7 (x) Z Z Z ?_))))));rintro _ rfl;refine A6 (A8 Z Z) Z (A6 (B5 Z Z) Z (A6 (B5 Z Z) Z (A6 (A9 Z Z) Z (A6 (A9 Z Z) Z (B0 ?_)))));refine k1 (k2 ?_);refine A7 (A6 (A9 Z Z) Z (B0 ?_));refine k1 (k2 (k2 ?_));refine A7 (A6 (A8 Z Z) Z (A6 (E8 Z (.pure _ _ _ _)) Z (A6 (A8 Z Z) Z (B0 ?_))));refine k1 (k3 ?_);refine E3 (X:=Nat) (fun i=>([(7,C8 e),(8,O4 (Z9 L i)),(20,E2 (Int×Int) 2 jZ l),(21,C8 l.length),(22,C8 i)],[])) (fun i=>i<=l.length) (fun i=>l.length-i) 0 (Nat.zero_le _) (by dsimp only;rw[sF];exact (Sees.of ⟨B4 rfl,B4 rfl,B4 rfl,B4 rfl,B4 rfl,trivial⟩ trivial)) ?_;intro i B;dsimp only at B ⊢;have D:=dX C i;refine k2 ?_;refine A7 (A6 (F3 Z Z) Z (B0 ?_));refine k1 (k2 ?_);refine B7 rfl (fun k=>?_) (fun k=>?_)
 ·have j:i<l.length:=by have d:=A0 k;(try dsimp only at d);omega
  obtain⟨a,ha⟩:∃a,a=l[i]:=⟨_,rfl⟩
  have w:l[i]?=some a:=by rw[ha];exact RG j
  have m:L[i]?=some [a.1,a.2]:=by rw[b];unfold P7;rw[SR,w];rfl
  have v:=gC m;have z:(M3 [a.1,a.2]).length<=28:=c8 [a.1,a.2] 2;refine k5 (k1 (k2 (k3 (k2 ?_))));refine A7 (A6 (B8 Z (.pure _ _ _ _) Z (by omega) w) Z (A6 (G3 Z Z) Z (D3 (I5 10 Z) Z (F7 (C4 TySz.out Z Z Z Z Z Z) (B0 ?_)))));refine k1 ?_;refine A7 (A6 (A8 Z Z) Z (A6 (B1 Z) Z (A6 (B2 Z Z Z) Z (A6 (B1 Z) Z (A6 (B2 Z Z Z) Z (A6 (D9 (c:=G4) (ys:=[a.1,a.2]) (D4 Z Z Z Z (D4 Z Z Z Z H3)) Z Z Z) Z (C7 (oF [a.1,a.2] (by simp)) Z Z Z ?_)))))));rintro _ rfl;refine A6 (M1 Z Z (by (simp;omega))) Z (A6 (A9 Z Z) Z (B0 ?_));rw[<-v];refine k4 (k1 ?_);refine A7 (A6 (D2 Z Z (by omega)) Z (A6 (A8 Z Z) Z (B0 ?_)));refine k1 ?_;exact⟨i+1,by omega,by omega,(by rw[v];exact (Sees.of ⟨B4 rfl,B4 rfl,B4 rfl,B4 rfl,B4 rfl,trivial⟩ trivial))⟩
 have f:i=L.length:=by have d:=A1 k;(try dsimp only at d);omega
 rw[f];refine k6 (k2 ?_);refine A7 (A6 (A8 Z Z) Z (A6 (A8 Z Z) Z (A6 (A9 Z Z) Z (A6 (A9 Z Z) Z (B0 ?_)))));refine k1 (J0 ?_);exact C0 (rs:=[G8 (Z9 L L.length),E7 e]) (Z7 rfl rfl rfl rfl rfl) rfl
theorem AA(g:Graph)(c:Nat)(b:Str)(h:FewT g)(w:z1 g c=0)(A:H1 (F5 g c) b=none) :
  FnOk Tryz.prog 49 [G7 g,E7 c,G8 b] (fun rs=>rs=[.one (.v (.pointer none)),E7 0,E7 5]):=by
 obtain⟨E,_,D⟩:=cX w;have m:c<g.length:=by omega
 have C:O6 g=0:=by
  unfold z1 at w;split at w
  ·assumption
  ·rename_i B;exact Decidable.not_not.1 B
 have x:=mK g h;rw[C]at x;have z:=tK g c;rw[A2 (show l3 g (c:Int) from⟨by omega,by omega⟩)]at z;obtain⟨j,q⟩:∃j,j=g[c]:=⟨_,rfl⟩
 have f:g[((c:Nat):Int).toNat]?=some j:=by rw[q];simp[m]
 have s:F5 g c=j.Files:=p7 (by rw[RI]at f;exact f);have k:(F5 g c).length<=1073741824:=(h.files c).len;rw[s]at k A;have y:=iE j.Files b k;rw[A]at y;refine FnOk.intro Tryz.func49 (by decide) Z Z Z Z ?_;refine k2 ?_;refine A7 (A6 (A9 Z Z) Z (A6 (A9 Z Z) Z (A6 (A9 Z Z) Z (B0 ?_))));refine k1 (k2 (k2 ?_));refine A7 (A6 (A8 Z Z) Z (C7 (x) Z Z Z ?_));rintro _ rfl;refine A6 (A9 Z Z) Z (B0 ?_);refine k1 (k2 ?_);refine A7 (A6 (A8 Z Z) Z (A6 (P6 Z Z) Z (B0 ?_)));refine k1 ?_;refine B7 rfl (fun d=>?_) (fun d=>?_)
 ·exact absurd rfl (A0 d)
 refine k5 (k1 (k2 (k2 ?_)));refine A7 (A6 (A8 Z Z) Z (A6 (A8 Z Z) Z (C7 (z) Z Z Z ?_)));rintro _ rfl;refine A6 (M8 Z) Z (B0 ?_);refine k1 ?_;refine B7 rfl (fun d=>?_) (fun d=>?_)
 ·cases d
 refine k5 (k1 (k2 ?_));refine A7 (A6 (A8 Z Z) Z (A6 (A8 Z Z) Z (A6 (B8 Z (.pure _ _ _ _) Z (by omega) f) Z (A6 (F6 Z) Z (A6 (C3 Z Z) Z (A6 (A8 Z Z) Z (C7 (y) Z Z Z ?_)))))));rintro _ rfl;refine A6 (A8 Z Z) Z (A6 (B5 Z Z) Z (A6 (B5 Z Z) Z (A6 (A9 Z Z) Z (A6 (A9 Z Z) Z (B0 ?_)))));refine k1 (k2 (k2 ?_));refine A7 (A6 (A8 Z Z) Z (A6 (M8 Z) Z (B0 ?_)));refine k1 ?_;refine B7 rfl (fun d=>?_) (fun d=>?_);rotate_left
 ·cases d
 refine k2 ?_;refine A7 (A6 (A9 Z Z) Z (A6 (A9 Z Z) Z (A6 (A9 Z Z) Z (B0 ?_))));refine k1 (J0 (M7 ?_));exact C0 (rs:=[.one (.v (.pointer none)),E7 0,E7 5]) (IT rfl rfl rfl rfl rfl rfl rfl) rfl
theorem AB(g:Graph)(c:Nat)(a:Str)(h:FewT g)(j:z1 g c=0)(f:H1 (F5 g c) a=none) :
  FnOk Tryz.prog 18 [G7 g,E7 c,G8 a] (fun rs=>rs=[.one (.list (Int×Int) 2 jZ []),E7 5]):=by
 have d:=AA g c a h j f;refine FnOk.intro Tryz.func18 (by decide) Z Z Z Z ?_;refine k2 ?_;refine A7 (A6 (K7 _ 2 jZ) Z (A6 (A9 Z Z) Z (B0 ?_)));refine k1 (k2 ?_);refine A7 (A6 (A8 Z Z) Z (A6 (A8 Z Z) Z (A6 (A8 Z Z) Z (C7 (d) Z Z Z ?_))));rintro _ rfl;refine A6 (A8 Z Z) Z (A6 (B5 Z Z) Z (A6 (B5 Z Z) Z (A6 (B5 Z Z) Z (A6 (A9 Z Z) Z (A6 (A9 Z Z) Z (A6 (A9 Z Z) Z (B0 ?_)))))));refine k1 (k2 (k2 ?_));refine A7 (A6 (A8 Z Z) Z (A6 (P6 Z Z) Z (B0 ?_)));refine k1 ?_;refine B7 rfl (fun b=>?_) (fun b=>?_);rotate_left
 ·exact absurd (by decide) (A1 b)
 refine k2 ?_;refine A7 (A6 (A8 Z Z) Z (A6 (K7 _ 2 jZ) Z (A6 (A9 Z Z) Z (B0 ?_))));refine k1 (J0 (M7 ?_));exact C0 (rs:=[.one (.list (Int×Int) 2 jZ []),E7 5]) (Z7 rfl rfl rfl rfl rfl) rfl
abbrev gR:Graph:=[⟨[],0,[⟨[120],[97,10]⟩]⟩]
theorem AC:FewT gR:=⟨⟨by decide,by decide⟩,fun c a=>by rw[List.mem_singleton.1 a];exact⟨by decide,by decide,by decide⟩⟩
theorem OB:GB gR:=⟨by decide,(fun c a=>by rw[List.mem_singleton.1 a];exact⟨by decide,fun p d=>by cases d⟩),.inl (fun c p h=>by
  cases c with
  | zero=>cases h
  | succ c=>simp[D5]at h),(fun c a f b=>by rw[List.mem_singleton.1 a]at b;rw[List.mem_singleton.1 b];exact⟨by decide,by decide⟩)⟩
abbrev wR:List Str:=[[98,108,97,109,101],[48],[120]]
abbrev cR:Cmd:=⟨8,0,0,0,false,[120]⟩
theorem LO:Z2 [[0,0]]=[99,111,109,109,105,116,32,48,32,48,10]:=by
 unfold Z2 Z9 M3 m7 f0;simp only[RJ,RP,List.take,RW,List.map_nil,EA 0 (by decide) (by decide)];decide
theorem HJ:FnOk Tryz.prog 54 [G7 gR,G8 (N2 wR)] (fun rs=>rs=[G8 (dJ (N2 wR) (Z2 [[0,0]]) 0)]):=by
 have b:=zK wR (by decide) (by decide) (by decide);rw[show kP wR=(cR,0) by kernel_rfl]at b;have a:=rR gR 0 [120] [97,10] AC OB (by kernel_rfl) (by kernel_rfl);rw[show S6 gR [120] 0 (D8 [97,10]).length=[(0,0)] by kernel_rfl]at a;have d:=kA gR cR [(0,0)] 0 (by decide) a;have c:=zL gR cR (Z2 [[0,0]]) 0 AC (by kernel_rfl) (by decide) (by kernel_rfl) (by decide) (fun h=>absurd h (by decide)) (by decide) ⟨fun h=>absurd h (by decide),fun h=>absurd h (by decide),fun h=>absurd h (by decide),fun h=>absurd h (by decide),fun h=>absurd h (by decide),fun _=>d,fun h=>absurd h (by decide)⟩;exact wJ gR (N2 wR) cR 0 (Z2 [[0,0]]) 0 (by decide) (by rw[LO];decide) b fun _=>c
theorem oM:FnOk Tryz.prog 8 [] (fun rs=>rs=[G5 true]):=by
 have g:=JJ gR [98,108,97,109,101,32,48,32,120,10] [N2 wR] [dJ (N2 wR) (Z2 [[0,0]]) 0] AC (by kernel_rfl) (by decide) (by kernel_rfl) rfl (fun i j o d k=>by
  cases i with
  | zero =>
   cases d;cases k;exact HJ
  | succ i=>simp at d) (by unfold dJ;rw[LO];decide) (by decide)
 have m:[dJ (N2 wR) (Z2 [[0,0]]) 0].flatten=[62,32,98,108,97,109,101,32,48,32,120,10,99,111,109,109,105,116,32,48,32,48,10]:=by unfold dJ;rw[LO];decide
 rw[m]at g;refine FnOk.intro Tryz.func8 (by decide) Z Z Z Z ?_;refine k2 ?_;refine A7 (A6 (A9 Z Z) Z (B0 ?_));refine k1 (k2 ?_);refine A7 (A6 (H0 Z) Z (A6 (D9 (c:=V6) (ys:=[(⟨[120],[97,10]⟩:File)]) (D4 Z Z Z Z H3) Z Z Z) Z (A6 (H0 Z) Z (LG ((RB Int 1 G4 6 0 Z Z)) (A6 (D9 (c:=I0) (ys:=gR) (D4 Z Z Z Z H3) Z Z Z) Z (A6 (A9 Z Z) Z (B0 ?_)))))));refine k1 (k2 ?_);refine A7 (A6 (A8 Z Z) Z (C7 (g) Z Z Z ?_));rintro _ rfl;refine A6 (A8 Z Z) Z (A6 (B5 Z Z) Z (A6 (B5 Z Z) Z (A6 (A9 Z Z) Z (A6 (A9 Z Z) Z (B0 ?_)))));refine k1 (k2 ?_);refine A7 (A6 (A8 Z Z) Z (A6 (J4 Z Z) Z (A6 (A8 Z Z) Z (B3 Z Z Z Z (fun b=>by rw[b];exact A8 Z Z) ?_))));refine B3 Z Z Z Z (fun b=>by rw[b];exact t8 Z Z) ?_;refine A6 (B9 Z (fun h=>by first | rfl | (rw[h];rfl)) (fun h=>by first | rfl | (rw[h];rfl))) Z ?_;refine A6 (A9 Z Z) Z (B0 ?_);refine k1 (J0 ?_);exact C0 (rs:=[G5 true]) (H7 rfl rfl rfl) rfl
theorem tX(an:List Int)(c0 q:Int):FnOk Tryz.prog 3 [O5 an,E7 c0,E7 q] (fun rs=>rs=[G5 true]):=by
 have br:=T4 q (n:=4) (by omega);obtain⟨f,F,bp⟩:=KS (P9 q 4).toNat (by omega)
 rw[show ((P9 q 4).toNat:Int)=P9 q 4 by omega]at F;refine FnOk.intro Tryz.func3 (by decide) Z Z Z Z ?_;refine k2 ?_;refine A7 (A6 (A9 Z Z) Z (B0 ?_));refine k1 (k2 ?_);refine A7 (A6 (A8 Z Z) Z (C7 (DU an 6 4 (by omega) (by omega)) Z Z Z ?_));rintro _ ⟨g,rfl,d,hv⟩;refine A6 (A9 Z Z) Z (B0 ?_);have hF:=d.few (by decide);have J:=hv.gb;have bn:=d.len;have hd:=hv.check;refine k1 (k2 (k2 ?_));refine A7 (A6 (A8 Z Z) Z (A6 (E8 Z (.pure _ _ _ _)) Z (A6 (J4 Z Z) Z (B0 ?_))));refine k1 ?_;refine B7 rfl (fun s=>?_) (fun s=>?_)
 ·refine k2 ?_;refine A7 (C7 (oM) Z Z Z ?_);rintro _ rfl;refine A6 (A9 Z Z) Z (B0 ?_);refine k1 (J0 (M7 ?_));exact C0 (rs:=[G5 true]) (H7 rfl rfl rfl) rfl
 have bo:¬(g.length:Int)=0:=A1 s;have ay:=T4 c0 (n:=(g.length:Int)) (by omega);refine k5 (k1 (k2 ?_));refine A7 (A6 (A8 Z Z) Z (A6 (A8 Z Z) Z (A6 (E8 Z (.pure _ _ _ _)) Z (C7 (cW c0 (g.length:Int) (by omega) (by omega)) Z Z Z ?_))));rintro _ rfl;refine A6 (A9 Z Z) Z (B0 ?_);obtain⟨c,av⟩:∃c:Nat,P9 c0 (g.length:Int)=(c:Int):=⟨(P9 c0 (g.length:Int)).toNat,by omega⟩
 rw[av]at ay ⊢;have hc:c<g.length:=by omega
 have D:l3 g (c:Int):=⟨by omega,by omega⟩
 have ai:z1 g (c:Int)=0:=by
  unfold z1;rw[A5 (fun e=>e hd),A4 D]
 obtain⟨cm,ax⟩:∃cm,cm=g[c]:=⟨_,rfl⟩
 have P:g[((c:Nat):Int).toNat]?=some cm:=by rw[ax];simp[hc]
 have V:F5 g c=cm.Files:=p7 (by rw[RI]at P;exact P);have aw:(F5 g c).length<=1073741824:=(hF.files c).len;have H:=vV cm.Files f (by rw[<-V];exact aw);obtain⟨C,hC⟩:∃C:Cmd,C=⟨8,c,0,0,false,f⟩:=⟨_,rfl⟩
 have ag:(dI ⟨8,c,0,0,false,f⟩).2=0:=FG (by omega);refine k1 (k2 ?_);refine A7 (A6 (D9 (c:=O7) (ys:=names4) (D4 Z Z Z Z (D4 Z Z Z Z (D4 Z Z Z Z (D4 Z Z Z Z H3)))) Z Z Z) Z (A6 (A8 Z Z) Z (C7 (cW q 4 (by omega) (by omega)) Z Z Z ?_)));rintro _ rfl;refine A6 (B8 Z (.pure _ _ _ _) Z (by omega) F) Z (A6 (C3 Z Z) Z (A6 (A9 Z Z) Z (B0 ?_)));cases hf:H1 (F5 g c) f with
 | none =>
  have E:=hf;rw[V]at E;rw[E]at H;have hB:=AB g c f hF ai hf;have hO:=kA g ⟨8,c,0,0,false,f⟩ [] 5 (by simp) hB;have hD:=zL g ⟨8,c,0,0,false,f⟩ (Z2 (P7 [])) 5 hF hd (by dsimp only;omega) ag D (fun h=>absurd h (by dsimp only;decide)) (by dsimp only;decide) ⟨fun h=>absurd h (by dsimp only;decide),fun h=>absurd h (by dsimp only;decide),fun h=>absurd h (by dsimp only;decide),fun h=>absurd h (by dsimp only;decide),fun h=>absurd h (by dsimp only;decide),fun _=>hO,fun h=>absurd h (by dsimp only;decide)⟩;rw[show Z2 (P7 [])=[] by simp[Z2,Z9,P7]]at hD;refine k1 (k2 ?_);refine A7 (A6 (A8 Z Z) Z (A6 (A8 Z Z) Z (A6 (B8 Z (.pure _ _ _ _) Z (by omega) P) Z (A6 (F6 Z) Z (A6 (C3 Z Z) Z (A6 (A8 Z Z) Z (C7 (H) Z Z Z ?_)))))));rintro _ rfl;refine A6 (A8 Z Z) Z (A6 (B5 Z Z) Z (A6 (B5 Z Z) Z (A6 (A9 Z Z) Z (A6 (A9 Z Z) Z (B0 ?_)))));refine k1 (k2 ?_);refine A7 (A6 (A8 Z Z) Z (A6 (A8 Z Z) Z (A6 (A8 Z Z) Z (A6 (H0 Z) Z (C7 (hD) Z Z Z ?_)))));rintro _ rfl;refine A6 (A8 Z Z) Z (A6 (B5 Z Z) Z (A6 (B5 Z Z) Z (A6 (A9 Z Z) Z (A6 (A9 Z Z) Z (B0 ?_)))));refine k1 (k2 (k2 ?_));refine A7 (A6 (A8 Z Z) Z (A6 (M8 Z) Z (B0 ?_)));refine k1 ?_;refine B7 rfl (fun s=>?_) (fun s=>?_);rotate_left
  ·cases s
  refine k2 ?_;refine A7 (A6 (A8 Z Z) Z (A6 (J4 Z Z) Z (A6 (A8 Z Z) Z (U7 Z Z Z Z (A6 (A8 Z Z) Z (U7 Z Z Z Z (A6 (t8 Z Z) Z (A6 (nI Z (rfl) Z) Z (A6 (A8 Z Z) Z (U7 Z Z Z Z (C7 (oM) Z Z Z ?_)))))))))));rintro _ rfl;refine A6 (nI Z (rfl) Z) Z (A6 (A9 Z Z) Z (B0 ?_));refine k1 (J0 (M7 ?_));exact C0 (rs:=[G5 true]) (H7 rfl rfl rfl) rfl
 | some w =>
  have E:=hf;rw[V]at E;rw[E]at H;have Q:=bP J hf;have az:=Q.1;have au:=Q.2;obtain⟨n,hn⟩:∃n,n=(D8 w).length:=⟨_,rfl⟩
  have hB:=rR g c f w hF J ai hf;rw[<-hn]at hB au;obtain⟨B,T⟩:∃B,B=S6 g f c n:=⟨_,rfl⟩
  have ao:B.length=n:=by rw[T,rQ]
  rw[<-T]at hB;have hO:=kA g ⟨8,c,0,0,false,f⟩ B 0 (by omega) hB;have hD:=zL g ⟨8,c,0,0,false,f⟩ (Z2 (P7 B)) 0 hF hd (by dsimp only;omega) ag D (fun h=>absurd h (by dsimp only;decide)) (by dsimp only;decide) ⟨fun h=>absurd h (by dsimp only;decide),fun h=>absurd h (by dsimp only;decide),fun h=>absurd h (by dsimp only;decide),fun h=>absurd h (by dsimp only;decide),fun h=>absurd h (by dsimp only;decide),fun _=>hO,fun h=>absurd h (by dsimp only;decide)⟩;have aq:(P7 B).length=n:=by unfold P7;rw[SM,ao]
  have bq:=dX (L:=P7 B) (m:=2) (fun ns be=>by
   obtain⟨a,_,rfl⟩:=SF.1 be
   exact Nat.le_refl _) (P7 B).length
  have I:=iC (Z2 (P7 B)) (by unfold Z2;omega);rw[EN]at I;have ac:=iC w (by omega);obtain⟨S,hS⟩:∃S,S=Z2 (P7 B):=⟨_,rfl⟩
  rw[<-hS]at hD I;obtain⟨OL,U⟩:∃OL:List Str,OL=(P7 B).map fun ns=>M3 ns++[10]:=⟨_,rfl⟩
  have bi:OL.length=n:=by rw[U,SM,aq]
  rw[<-U]at I;obtain⟨LB,ae⟩:∃LB,LB=D8 w:=⟨_,rfl⟩
  rw[<-ae]at ac hn;refine k1 (k2 ?_);refine A7 (A6 (A8 Z Z) Z (A6 (A8 Z Z) Z (A6 (B8 Z (.pure _ _ _ _) Z (by omega) P) Z (A6 (F6 Z) Z (A6 (C3 Z Z) Z (A6 (A8 Z Z) Z (C7 (H) Z Z Z ?_)))))));rintro _ rfl;refine A6 (A8 Z Z) Z (A6 (B5 Z Z) Z (A6 (B5 Z Z) Z (A6 (A9 Z Z) Z (A6 (A9 Z Z) Z (B0 ?_)))));refine k1 (k2 ?_);refine A7 (A6 (A8 Z Z) Z (A6 (A8 Z Z) Z (A6 (A8 Z Z) Z (A6 (H0 Z) Z (C7 (hD) Z Z Z ?_)))));rintro _ rfl;refine A6 (A8 Z Z) Z (A6 (B5 Z Z) Z (A6 (B5 Z Z) Z (A6 (A9 Z Z) Z (A6 (A9 Z Z) Z (B0 ?_)))));refine k1 (k2 (k2 ?_));refine A7 (A6 (A8 Z Z) Z (A6 (M8 Z) Z (B0 ?_)));refine k1 ?_;refine B7 rfl (fun s=>?_) (fun s=>?_)
  ·cases s
  refine k5 (k1 (k2 ?_));refine A7 (A6 (A8 Z Z) Z (C7 (I) Z Z Z ?_));rintro _ rfl;refine A6 (A9 Z Z) Z (B0 ?_);refine k1 (k2 ?_);refine A7 (A6 (A8 Z Z) Z (C7 (ac) Z Z Z ?_));rintro _ rfl;refine A6 (A9 Z Z) Z (B0 ?_);refine k1 (k2 (k2 ?_));refine A7 (A6 (A8 Z Z) Z (A6 (P6 Z Z) Z (A6 (A8 Z Z) Z (B3 Z Z Z Z (fun d=>by rw[d];exact A8 Z Z) ?_))));refine B3 Z Z Z Z (fun d=>by rw[d];exact E8 Z (.pure _ _ _ _)) ?_;refine B3 Z Z Z Z (fun d=>by rw[d];exact A8 Z Z) ?_;refine B3 Z Z Z Z (fun d=>by rw[d];exact E8 Z (.pure _ _ _ _)) ?_;refine B3 Z Z Z Z (fun d=>by rw[d];exact P6 Z Z) ?_;refine A6 (B9 Z (fun h=>by first | rfl | (rw[h];rfl)) (fun h=>by first | rfl | (rw[h];rfl))) Z ?_;refine B0 ?_;refine k1 ?_;refine B7 rfl (fun s=>?_) (fun s=>?_)
  ·exfalso;rw[or_pick]at s;have:=A0 s;omega
  refine k5 (k1 (k2 (k2 ?_)));refine A7 (A6 (A9 Z Z) Z (B0 ?_));refine k1 (k3 ?_);refine E3 (X:=Nat) (fun i=>([(7,E2 Commit 3 I0 g),(8,O4 f),(13,E2 Str 1 O7 OL),(14,E2 Str 1 O7 LB),(15,C8 i)],[])) (fun i=>i<=n) (fun i=>n-i) 0 (Nat.zero_le _) (Sees.of ⟨B4 rfl,B4 rfl,B4 rfl,B4 rfl,B4 rfl,trivial⟩ trivial) ?_;intro i hi;dsimp only at hi ⊢;refine k2 (k2 ?_);refine A7 (A6 (A8 Z Z) Z (A6 (A8 Z Z) Z (A6 (E8 Z (.pure _ _ _ _)) Z (A6 (F3 Z Z) Z (B0 ?_)))));refine k1 ?_;refine B7 rfl (fun s=>?_) (fun s=>?_);rotate_left
  ·refine k6 (k2 ?_);refine A7 (C7 (oM) Z Z Z ?_);rintro _ rfl;refine A6 (A9 Z Z) Z (B0 ?_);refine k1 (J0 ?_);exact C0 (rs:=[G5 true]) (H7 rfl rfl rfl) rfl
  have bd:i<n:=by have h1:=A0 s;(try dsimp only at h1);omega
  obtain⟨v,bh⟩:∃v,v=LB[i]'(by omega):=⟨_,rfl⟩
  have ak:LB[i]?=some v:=by rw[bh];exact RG _
  have bc:LineAt g f v ((c:Int),(i:Int)):=⟨⟨by omega,by dsimp only;omega⟩,by dsimp only;omega,w,hf,by rw[<-ae];exact ak⟩
  obtain⟨a,ha⟩:∃a,a=jH g f ((c:Int),(i:Int)):=⟨_,rfl⟩
  have W:LineAt g f v a:=by rw[ha];exact bc.origin J _
  have bf:B[i]?=some a:=by
   rw[T,ha];unfold S6;rw[SR,RG (by rw[SS];exact bd),List.getElem_range];rfl
  have A:OL[i]?=some (M3 [a.1,a.2]++[10]):=by
   rw[U,SR];unfold P7;rw[SR,bf];rfl
  have ar:=W.c;have bm:=W.i;obtain⟨z,O,y⟩:=W.b;obtain⟨k,hk⟩:∃k:Nat,a.1=(k:Int):=⟨a.1.toNat,by omega⟩
  obtain⟨j,hj⟩:∃j:Nat,a.2=(j:Int):=⟨a.2.toNat,by omega⟩
  rw[hk]at ar O A;rw[hj]at y A;rw[RI]at O y;have aj:=bP J O;have bk:=aj.1;have bl:=aj.2;have ba:j<(D8 z).length:=(List.getElem?_eq_some_iff.1 y).1;have bj:(M3 [(k:Int),(j:Int)]).length<=28:=c8 [(k:Int),(j:Int)] 2;have G:=DW (M3 [(k:Int),(j:Int)]++[10]) (by simp;omega);rw[FF,gK]at G;have hW:=oE (gJ k j) (by unfold gJ;simp) (uU (by omega) (by omega)) (by have:=BD k j;omega);have K:=fU (M4 (k:Int)) 0 (Nat.zero_le _) (by have:=p8 (k:Int);omega);rw[jX (by rw[List.drop_zero];exact yD (n:=(k:Int)) (by omega) (by omega))]at K;have M:=fU (M4 (j:Int)) 0 (Nat.zero_le _) (by have:=p8 (j:Int);omega);rw[jX (by rw[List.drop_zero];exact yD (n:=(j:Int)) (by omega) (by omega))]at M;rw[RI]at K M;have hkl:k<g.length:=by omega
  obtain⟨pm,hpm⟩:∃pm,pm=g[k]:=⟨_,rfl⟩
  have Y:g[((k:Nat):Int).toNat]?=some pm:=by rw[hpm];simp[hkl]
  have af:F5 g k=pm.Files:=p7 (by rw[RI]at Y;exact Y);have ah:(F5 g k).length<=1073741824:=(hF.files k).len;have ab:=vV pm.Files f (by rw[<-af];exact ah);have R:=O;rw[af]at R;rw[R]at ab;have ad:=iC z (by omega);obtain⟨LT,ap⟩:∃LT,LT=D8 z:=⟨_,rfl⟩
  rw[<-ap]at ad y ba;have bg:LT[((j:Nat):Int).toNat]?=some v:=by rw[RI];exact y
  obtain⟨x1,al⟩:∃x,x=M4 (k:Int):=⟨_,rfl⟩
  obtain⟨x2,am⟩:∃x,x=M4 (j:Int):=⟨_,rfl⟩
  rw[gK]at A;unfold gJ at hW G A;rw[<-al,<-am]at hW G A;rw[<-al]at K;rw[<-am]at M;refine k5 (k1 (k2 (k3 (k2 ?_))));refine A7 (A6 (A8 Z Z) Z (A6 (A8 Z Z) Z (A6 (B8 Z (.pure _ _ _ _) Z (by omega) A) Z (A6 (C3 Z Z) Z (C7 (G) Z Z Z ?_)))));rintro _ rfl;refine C7 (hW) Z Z Z ?_;rintro _ rfl;refine A6 (A8 Z Z) Z (A6 (B5 Z Z) Z (A6 (B5 Z Z) Z (A6 (A9 Z Z) Z (A6 (A9 Z Z) Z (B0 ?_)))));refine k1 (k2 (k2 ?_));refine A7 (A6 (A8 Z Z) Z (A6 (M8 Z) Z (A6 (A8 Z Z) Z (U7 Z Z Z Z (A6 (A8 Z Z) Z (U7 Z Z Z Z (A6 (E8 Z (.pure _ _ _ _)) Z (U7 Z Z Z Z (A6 (P6 Z Z) Z (A6 (nJ Z (rfl) Z) Z (A6 (A8 Z Z) Z (U7 Z Z Z Z (A6 (A8 Z Z) Z (U7 Z Z Z Z (A6 (B8 Z (.pure _ _ _ _) Z (by omega) (show [f0,x1,x2][(0:Int).toNat]?=some f0 from Z)) Z (U7 Z Z Z Z (A6 (C3 Z Z) Z (U7 Z Z Z Z (A6 (dQ Z Z) Z (A6 (nJ Z (rfl) Z) Z (B0 ?_)))))))))))))))))))));refine k1 ?_;refine B7 rfl (fun s=>?_) (fun s=>?_)
  ·exact absurd s (by decide)
  refine k5 (k1 (k2 ?_));refine A7 (A6 (A8 Z Z) Z (A6 (B8 Z (.pure _ _ _ _) Z (by omega) (show [f0,x1,x2][(1:Int).toNat]?=some x1 from Z)) Z (A6 (C3 Z Z) Z (C7 (K) Z Z Z ?_))));rintro _ rfl;refine A6 (A8 Z Z) Z (A6 (B5 Z Z) Z (A6 (B5 Z Z) Z (A6 (B5 Z Z) Z (A6 (A9 Z Z) Z (A6 (A9 Z Z) Z (A6 (A9 Z Z) Z (B0 ?_)))))));refine k1 (k2 ?_);refine A7 (A6 (A8 Z Z) Z (A6 (B8 Z (.pure _ _ _ _) Z (by omega) (show [f0,x1,x2][(2:Int).toNat]?=some x2 from Z)) Z (A6 (C3 Z Z) Z (C7 (M) Z Z Z ?_))));rintro _ rfl;refine A6 (A8 Z Z) Z (A6 (B5 Z Z) Z (A6 (B5 Z Z) Z (A6 (B5 Z Z) Z (A6 (A9 Z Z) Z (A6 (A9 Z Z) Z (A6 (A9 Z Z) Z (B0 ?_)))))));refine k1 (k2 (k2 ?_));refine A7 (A6 (A8 Z Z) Z (A6 (M8 Z) Z (A6 (A8 Z Z) Z (B3 Z Z Z Z (fun d=>by rw[d];exact A8 Z Z) ?_))));refine B3 Z Z Z Z (fun d=>by rw[d];exact M8 Z) ?_;refine A6 (B9 Z (fun h=>by first | rfl | (rw[h];rfl)) (fun h=>by first | rfl | (rw[h];rfl))) Z ?_;refine A6 (A8 Z Z) Z (B3 Z Z Z Z (fun d=>by rw[d];exact A8 Z Z) ?_);refine B3 Z Z Z Z (fun d=>by rw[d];exact F3 Z Z) ?_;refine A6 (B9 Z (fun h=>by first | rfl | (rw[h];rfl)) (fun h=>by first | rfl | (rw[h];rfl))) Z ?_;refine A6 (A8 Z Z) Z (B3 Z Z Z Z (fun d=>by rw[d];exact A8 Z Z) ?_);refine B3 Z Z Z Z (fun d=>by rw[d];exact A8 Z Z) ?_;refine B3 Z Z Z Z (fun d=>by rw[d];exact E8 Z (.pure _ _ _ _)) ?_;refine B3 Z Z Z Z (fun d=>by rw[d];exact r5 Z Z) ?_;refine A6 (B9 Z (fun h=>by first | rfl | (rw[h];rfl)) (fun h=>by first | rfl | (rw[h];rfl))) Z ?_;refine B0 ?_;refine k1 ?_;refine B7 rfl (fun s=>?_) (fun s=>?_)
  ·exfalso;revert s;simp;omega
  refine k5 (k1 (k2 ?_));refine A7 (A6 (A8 Z Z) Z (A6 (A8 Z Z) Z (A6 (B8 Z (.pure _ _ _ _) Z (by omega) Y) Z (A6 (F6 Z) Z (A6 (C3 Z Z) Z (A6 (A8 Z Z) Z (C7 (ab) Z Z Z ?_)))))));rintro _ rfl;refine A6 (A8 Z Z) Z (A6 (B5 Z Z) Z (A6 (B5 Z Z) Z (A6 (A9 Z Z) Z (A6 (A9 Z Z) Z (B0 ?_)))));refine k1 (k2 ?_);refine A7 (A6 (A8 Z Z) Z (C7 (ad) Z Z Z ?_));rintro _ rfl;refine A6 (A9 Z Z) Z (B0 ?_);refine k1 (k2 ?_);refine F1 (by kernel_rfl) (by kernel_rfl) (B6 (A8 Z Z) Z Z (B6 (M8 Z) Z Z (B6 (A8 Z Z) Z Z (D7 Z Z (fun d=>by rw[d];exact A8 Z Z) Z Z ?_))));refine D7 Z Z (fun d=>by rw[d];exact F3 Z Z) Z Z ?_;refine B6 (B9 Z (fun h=>by first | rfl | (rw[h];rfl)) (fun h=>by first | rfl | (rw[h];rfl))) Z Z ?_;refine B6 (A8 Z Z) Z Z (D7 Z Z (fun d=>by rw[d];exact A8 Z Z) Z Z ?_);refine D7 Z Z (fun d=>by rw[d];exact A8 Z Z) Z Z ?_;refine D7 Z Z (fun d=>by rw[d];exact E8 Z (.pure _ _ _ _)) Z Z ?_;refine D7 Z Z (fun d=>by rw[d];exact r5 Z Z) Z Z ?_;refine B6 (B9 Z (fun h=>by first | rfl | (rw[h];rfl)) (fun h=>by first | rfl | (rw[h];rfl))) Z Z ?_;refine B6 (A8 Z Z) Z Z (D7 Z Z (fun d=>by rw[d];exact A8 Z Z) Z Z ?_);refine D7 Z Z (fun d=>by rw[d];exact A8 Z Z) Z Z ?_;refine D7 Z Z (fun d=>by have hq:=d;(try simp at hq);rw[d];exact B8 Z (.pure _ _ _ _) Z (by omega) bg) Z Z ?_;refine D7 Z Z (fun d=>by rw[d];exact C3 Z Z) Z Z ?_;refine D7 Z Z (fun d=>by rw[d];exact A8 Z Z) Z Z ?_;refine D7 Z Z (fun d=>by rw[d];exact A8 Z Z) Z Z ?_;refine D7 Z Z (fun d=>by have hq:=d;(try simp at hq);rw[d];exact B8 Z (.pure _ _ _ _) Z (by omega) ak) Z Z ?_;refine D7 Z Z (fun d=>by rw[d];exact C3 Z Z) Z Z ?_;refine D7 Z Z (fun d=>by rw[d];exact dQ Z Z) Z Z ?_;refine B6 (B9 Z (fun h=>by first | rfl | (rw[h];rfl)) (fun h=>by first | rfl | (rw[h];rfl))) Z Z ?_;refine T3 ?_;refine k1 ?_;refine B7 rfl (fun s=>?_) (fun s=>?_)
  ·exfalso;revert s;simp;omega
  refine k5 (k4 (k1 ?_));refine A7 (A6 (A8 Z Z) Z (A6 (D2 Z Z (by omega)) Z (A6 (A9 Z Z) Z (B0 ?_))));refine k1 ?_;exact⟨i+1,by omega,by omega,Sees.of ⟨B4 rfl,B4 rfl,B4 rfl,B4 rfl,B4 rfl,trivial⟩ trivial⟩
end Go.Proofs.YtbflhoahmmfkmaaGreatDoor
