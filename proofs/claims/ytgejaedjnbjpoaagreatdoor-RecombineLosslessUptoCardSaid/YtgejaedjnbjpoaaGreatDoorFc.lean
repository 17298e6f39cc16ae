/- Walks of the program's functions. -/
import Derived.Test.YtgejaedjnbjpoaaGreatDoorFb
import Derived.Test.YtgejaedjnbjpoaaGreatDoorFs
namespace Go.Proofs.YtgejaedjnbjpoaaGreatDoor
open Go Go.AL
set_option maxRecDepth 100000
end Go.Proofs.YtgejaedjnbjpoaaGreatDoor
namespace Go.Proofs.YtgejaedjnbjpoaaGreatDoor
open Go Go.AL
set_option maxRecDepth 100000
theorem D88 (s:Str):FnOk Tryz.prog 80 [F3 s] (fun rs=>rs=[E0 (T0 s)]):=by
 refine FnOk.intro Tryz.func80 (by decide) Z Z Z Z ?_
 refine k2 ?_
 refine A3 (A2 (A5 Z Z) Z (A6 ?_))
 refine k1 (k2 ?_)
 refine A3 (A2 (A4 Z Z) Z (A2 (E4 Z) Z (A2 (s9 Z Z) Z (A2 (A4 Z Z) Z (A9 Z Z Z Z (fun hg=>by rw [hg];exact A4 Z Z) ?_)))));refine A9 Z Z Z Z (fun hg=>by rw [hg];exact E4 Z) ?_;refine A9 Z Z Z Z (fun hg=>by rw [hg];exact x7 Z Z) ?_;refine A2 (B4 Z (fun h=>by first | rfl | (rw [h];rfl)) (fun h=>by first | rfl | (rw [h];rfl))) Z ?_;refine A2 (A5 Z Z) Z (A6 ?_)
 refine k1 (k10 ?_)
 refine B5 (F2 Z Z Z) ?_
 simp only [L2]
 congr 4
 unfold T0
 congr 1
 apply propext
 omega
end Go.Proofs.YtgejaedjnbjpoaaGreatDoor
namespace Go.Proofs.YtgejaedjnbjpoaaGreatDoor
open Go Go.AL
set_option maxRecDepth 100000
set_option maxHeartbeats 1000000
end Go.Proofs.YtgejaedjnbjpoaaGreatDoor
namespace Go.Proofs.YtgejaedjnbjpoaaGreatDoor
open Go Go.AL
set_option maxRecDepth 100000
end Go.Proofs.YtgejaedjnbjpoaaGreatDoor
namespace Go.Proofs.YtgejaedjnbjpoaaGreatDoor
open Go Go.AL
set_option maxRecDepth 100000
end Go.Proofs.YtgejaedjnbjpoaaGreatDoor
namespace Go.Proofs.YtgejaedjnbjpoaaGreatDoor
open Go Go.AL
set_option maxRecDepth 100000
end Go.Proofs.YtgejaedjnbjpoaaGreatDoor
