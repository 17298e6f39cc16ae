/- Walks of the program's functions. -/
import Derived.Test.YtgejaedjnbjpoaaGreatDoorFc
import Derived.Test.YtgejaedjnbjpoaaGreatDoorFs
import Derived.Test.YtgejaedjnbjpoaaGreatDoorAn
namespace Go.Proofs.YtgejaedjnbjpoaaGreatDoor
open Go Go.AL
set_option maxRecDepth 100000
end Go.Proofs.YtgejaedjnbjpoaaGreatDoor
namespace Go.Proofs.YtgejaedjnbjpoaaGreatDoor
open Go Go.AL
set_option maxRecDepth 100000
theorem check12_good {p:Patch} (h1:¬C94 p≠0):D41 p.Hunks=true:=by
 by_cases hg:D41 p.Hunks=true
 ·exact hg
 ·exfalso;apply h1;unfold C94;split
  ·decide
  ·rw [if_pos (by simpa using hg)];decide
end Go.Proofs.YtgejaedjnbjpoaaGreatDoor
namespace Go.Proofs.YtgejaedjnbjpoaaGreatDoor
open Go Go.AL
set_option maxRecDepth 100000
end Go.Proofs.YtgejaedjnbjpoaaGreatDoor
namespace Go.Proofs.YtgejaedjnbjpoaaGreatDoor
open Go Go.AL
set_option maxRecDepth 100000
end Go.Proofs.YtgejaedjnbjpoaaGreatDoor
namespace Go.Proofs.YtgejaedjnbjpoaaGreatDoor
open Go Go.AL
set_option maxRecDepth 100000
theorem ke_of (c k:UInt8):decide ((c.toNat:Int)=(k.toNat:Int))=decide (c=k):=by
 rw [decide_eq_decide]
 constructor
 ·intro h;exact UInt8.toNat_inj.1 (by omega)
 ·rintro rfl;rfl
theorem ke45 (c:UInt8):decide ((c.toNat:Int)=45)=decide (c=45):=ke_of c 45
theorem ke43 (c:UInt8):decide ((c.toNat:Int)=43)=decide (c=43):=ke_of c 43
theorem ke32 (c:UInt8):decide ((c.toNat:Int)=32)=decide (c=32):=ke_of c 32
end Go.Proofs.YtgejaedjnbjpoaaGreatDoor
namespace Go.Proofs.YtgejaedjnbjpoaaGreatDoor
open Go Go.AL
set_option maxRecDepth 100000
end Go.Proofs.YtgejaedjnbjpoaaGreatDoor
namespace Go.Proofs.YtgejaedjnbjpoaaGreatDoor
open Go Go.AL
set_option maxRecDepth 100000
end Go.Proofs.YtgejaedjnbjpoaaGreatDoor
namespace Go.Proofs.YtgejaedjnbjpoaaGreatDoor
open Go Go.AL
set_option maxRecDepth 100000
end Go.Proofs.YtgejaedjnbjpoaaGreatDoor
namespace Go.Proofs.YtgejaedjnbjpoaaGreatDoor
open Go Go.AL
set_option maxRecDepth 100000
set_option maxHeartbeats 1000000
end Go.Proofs.YtgejaedjnbjpoaaGreatDoor
