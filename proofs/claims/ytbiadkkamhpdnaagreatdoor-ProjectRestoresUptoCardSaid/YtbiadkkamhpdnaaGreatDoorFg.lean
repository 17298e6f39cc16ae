/- Walks of the program's functions. -/
import Derived.Test.YtbiadkkamhpdnaaGreatDoorFa
import Derived.Test.YtbiadkkamhpdnaaGreatDoorFf
import Derived.Test.YtbiadkkamhpdnaaGreatDoorFe
import Derived.Test.YtbiadkkamhpdnaaGreatDoorFs
set_option linter.unusedSimpArgs false
namespace Go.Proofs.YtbiadkkamhpdnaaGreatDoor
open Go Go.AL
set_option maxRecDepth 100000
set_option maxHeartbeats 1000000
end Go.Proofs.YtbiadkkamhpdnaaGreatDoor
namespace Go.Proofs.YtbiadkkamhpdnaaGreatDoor
open Go Go.AL
set_option maxRecDepth 100000
theorem cut_szC {n : Nat} {rows : List Row} {sp : List Span} {hs : List CHunk} (hn : n ≤ 32) (hr : rowsIn rows) (hW : (rows.map szRow).sum ≤ 8388608) (h : cutGo n rows 0 [] sp = some hs) : szC hs ≤ 268435456 ∧ ∀ x ∈ hs, rowsIn x.Rows := by
  have h1 := cutGo_w szRow 2081 n rows sp 0 [] hs (Int.le_refl _) h (by simp) (by simp)
  have h2 := cutGo_rows hr sp 0 [] hs h (fun x hx => by cases hx)
  have hl := szRow_len rows
  refine ⟨?_, fun x hx => (h2 x hx).2⟩
  have h3 : szC hs = (hs.map fun h => (2048 + h.At.length) + (h.Rows.map szRow).sum).sum := rfl
  have h4 : szC hs ≤ (hs.map fun h => 2081 + (h.Rows.map szRow).sum).sum := by
    rw [h3]
    clear h h1 h3
    induction hs with
    | nil => simp
    | cons x r ih =>
      have h5 := (h2 x (by simp)).1
      have h6 := ih fun y hy => h2 y (by simp [hy])
      rw [List.map_cons, List.sum_cons, List.map_cons, List.sum_cons]
      omega
  have h5 := h1.2
  simp only [List.length_nil] at h5
  have h6 := h1.1
  omega
theorem cut_szC0 {path : Str} {t : Table} {sp : List Span} {d : Bool} (hr : rowsIn t.Rows) (hW : (t.Rows.map szRow).sum ≤ 8388608) : szC (cut18 path t sp d).1.Hunks ≤ 268435456 ∧ ∀ x ∈ (cut18 path t sp d).1.Hunks, rowsIn x.Rows := by
  have h0 : szC comb0.Hunks ≤ 268435456 ∧ ∀ x ∈ comb0.Hunks, rowsIn x.Rows := ⟨by decide, fun x hx => by cases hx⟩
  unfold cut18
  split
  · exact h0
  · split
    · exact h0
    · rename_i hc
      cases hg : cutGo t.Parents.toNat t.Rows 0 [] sp with
      | none => exact h0
      | some hs =>
        dsimp only
        split
        · exact h0
        · refine cut_szC ?_ hr hW hg
          unfold check16 at hc
          split at hc
          · exact absurd hc (by decide)
          · omega
theorem check16_par {t : Table} (h : check16 t = 0) : 1 ≤ t.Parents ∧ t.Parents ≤ 32 := by
  unfold check16 at h
  split at h
  · cases h
  · omega
set_option maxHeartbeats 1000000
end Go.Proofs.YtbiadkkamhpdnaaGreatDoor
namespace Go.Proofs.YtbiadkkamhpdnaaGreatDoor
open Go Go.AL
set_option maxRecDepth 100000
end Go.Proofs.YtbiadkkamhpdnaaGreatDoor
namespace Go.Proofs.YtbiadkkamhpdnaaGreatDoor
open Go Go.AL
set_option maxRecDepth 100000
end Go.Proofs.YtbiadkkamhpdnaaGreatDoor
namespace Go.Proofs.YtbiadkkamhpdnaaGreatDoor
open Go Go.AL
set_option maxRecDepth 100000
end Go.Proofs.YtbiadkkamhpdnaaGreatDoor
namespace Go.Proofs.YtbiadkkamhpdnaaGreatDoor
open Go Go.AL
end Go.Proofs.YtbiadkkamhpdnaaGreatDoor
namespace Go.Proofs.YtbiadkkamhpdnaaGreatDoor
open Go Go.AL
set_option maxRecDepth 100000
end Go.Proofs.YtbiadkkamhpdnaaGreatDoor
namespace Go.Proofs.YtbiadkkamhpdnaaGreatDoor
open Go Go.AL
set_option maxRecDepth 100000
set_option maxHeartbeats 4000000
end Go.Proofs.YtbiadkkamhpdnaaGreatDoor
namespace Go.Proofs.YtbiadkkamhpdnaaGreatDoor
open Go Go.AL
set_option maxRecDepth 100000
set_option maxHeartbeats 1000000
end Go.Proofs.YtbiadkkamhpdnaaGreatDoor
namespace Go.Proofs.YtbiadkkamhpdnaaGreatDoor
open Go Go.AL
set_option maxRecDepth 100000
set_option maxHeartbeats 4000000
end Go.Proofs.YtbiadkkamhpdnaaGreatDoor
namespace Go.Proofs.YtbiadkkamhpdnaaGreatDoor
open Go Go.AL
set_option maxRecDepth 100000
set_option maxHeartbeats 4000000
end Go.Proofs.YtbiadkkamhpdnaaGreatDoor
namespace Go.Proofs.YtbiadkkamhpdnaaGreatDoor
open Go Go.AL
set_option maxRecDepth 100000
section
variable {P : Program} {nt : Nat} {fr : Fr} {w : Str} {d : Bool} {n : Int} {hs : List CHunk}
end
set_option maxHeartbeats 4000000
end Go.Proofs.YtbiadkkamhpdnaaGreatDoor
namespace Go.Proofs.YtbiadkkamhpdnaaGreatDoor
open Go Go.AL
set_option maxRecDepth 100000
end Go.Proofs.YtbiadkkamhpdnaaGreatDoor
