/- Walks of the program's functions. -/
import Derived.Test.YtbflhoahmmfkmaaGreatDoorFe
set_option linter.all false
namespace Go.Proofs.YtbflhoahmmfkmaaGreatDoor
open Go Go.AL
set_option maxRecDepth 100000
theorem check12_good{p:Patch}(b:¬cO p≠0):lX p.Hunks=true:=by
 by_cases a:lX p.Hunks=true
 ·exact a
 ·exfalso;apply b;unfold cO;split
  ·decide
  ·rw[A4 (by simpa using a)];decide
end Go.Proofs.YtbflhoahmmfkmaaGreatDoor
