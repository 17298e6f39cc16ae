/- Walks of the program's functions. -/
import Derived.Test.YtgkjogphmmoakaaGreatDoorFe
set_option linter.all false
namespace Go.Proofs.YtgkjogphmmoakaaGreatDoor
open Go Go.AL
set_option maxRecDepth 100000
set_option maxHeartbeats 1000000
theorem VH(g:Graph)(a b:Nat)(c:Int)(t x y:Str)(p:Patch)(h:FewT g)(ha:a<g.length)(hb:b<g.length)(q:cT (N9 g a) t=x)(r:cT (N9 g b) t=y)(k:Few x)(l:Few y)(n:rU t t x y c false=(p,0))(m:J1 p=0)(s:x6 p.Hunks<=268435456) :
  FnOk Tryz.prog 25 [I1 g,iR ⟨3,a,b,c,false,t⟩] (fun rs=>rs=[F9 (K1 p),E2 0]):=by
 have f:=HI g a t h ha;rw[q]at f;have i:=HI g b t h hb;rw[r]at i;have e:=RC t t x y c false k l;rw[n]at e;have d:=wK p s;rw[m,A5 (by simp)]at d;obtain⟨w,o⟩:∃w,w=K1 p:=⟨_,rfl⟩
 rw[<-o]at d ⊢;refine FnOk.intro Tryz.func25 (by decide) Z Z Z Z ?_;refine k2 ?_;refine A7 (D2 (Y7 3 Z Z Z) Z (A6 (A9 Z Z) Z (A6 (A9 Z Z) Z (B0 ?_))));refine k1 (k2 ?_);refine y8 [23,22] [[],[22],[23,22]] [(0,[22]),(1,[22]),(2,[22]),(3,[22]),(4,[22]),(5,[22]),(6,[22]),(7,[22]),(8,[22]),(9,[22]),(10,[22]),(11,[22]),(12,[22]),(13,[22]),(14,[22]),(15,[22]),(16,[22]),(17,[22]),(18,[22]),(19,[22]),(20,[22]),(21,[22]),(21,[23,22])] (by kernel_rfl) (by kernel_rfl) (K7 Z (B1 Z) (K7 Z (B2 Z Z Z) (K7 Z (B1 Z) (K7 Z (B2 Z Z Z) (K7 Z (A8 Z Z) (K7 Z (B1 Z) (K7 Z (B2 Z Z Z) (K7 Z (B1 Z) (K7 Z (B2 Z Z Z) (K7 Z (H4 (f) Z Z) (K7 Z (A8 Z Z) (K7 Z (B1 Z) (K7 Z (B2 Z Z Z) (K7 Z (B1 Z) (K7 Z (B2 Z Z Z) (K7 Z (H4 (i) Z Z) (K7 Z (B1 Z) (K7 Z (B2 Z Z Z) (K7 Z (H4 (e) Z Z) (K7 Z (A8 Z Z) (K7 Z (B6 Z Z) (K7 Z (B6 Z Z) (oK 6 Z Z ?_)))))))))))))))))))))));refine gP (X6 TySz.out Z Z Z Z Z Z) (K7 Z (A9 Z Z) ?_);refine FU rfl ?_ ?_
 ·refine H7 Z Z (B1 Z) (H7 Z Z (B2 Z Z Z) (H7 Z Z (B1 Z) (H7 Z Z (B2 Z Z Z) (H7 Z Z (A8 Z Z) (H7 Z Z (B1 Z) (H7 Z Z (B2 Z Z Z) (H7 Z Z (B1 Z) (H7 Z Z (B2 Z Z Z) (H7 Z Z (H4 (f) Z Z) (H7 Z Z (A8 Z Z) (H7 Z Z (B1 Z) (H7 Z Z (B2 Z Z Z) (H7 Z Z (B1 Z) (H7 Z Z (B2 Z Z Z) (H7 Z Z (H4 (i) Z Z) (H7 Z Z (B1 Z) (H7 Z Z (B2 Z Z Z) (H7 Z Z (H4 (e) Z Z) (H7 Z Z (A8 Z Z) (H7 Z Z (B6 Z Z) (H7 Z Z (B6 Z Z) (H7 Z Z (B6 Z Z) ?_))))))))))))))))))))));exact FV
 refine k1 (k2 (k2 ?_));refine A7 (A6 (A8 Z Z) Z (A6 (K4 Z Z) Z (B0 ?_)));refine k1 ?_;refine B8 rfl (fun j=>?_) (fun j=>?_)
 ·exact absurd rfl (A0 j)
 refine k5 (k1 (k2 ?_));refine A7 (A6 (E7 Z Z Z) Z (C4 (d) Z Z Z ?_));rintro _ rfl;refine A6 (B6 Z Z) Z (A6 (B6 Z Z) Z (A6 (A9 Z Z) Z (A6 (A9 Z Z) Z (B0 ?_))));refine k1 (G5 ?_);exact C0 (rs:=[F9 w,E2 0]) (R0 rfl rfl rfl rfl rfl) rfl
end Go.Proofs.YtgkjogphmmoakaaGreatDoor
