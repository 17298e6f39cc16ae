/- Walks of the program's functions. -/
import Derived.Test.YtbiadkkamhpdnaaGreatDoorFa
import Derived.Test.YtbiadkkamhpdnaaGreatDoorFf
import Derived.Test.YtbiadkkamhpdnaaGreatDoorFe
import Derived.Test.YtbiadkkamhpdnaaGreatDoorFs
set_option linter.unusedSimpArgs false
namespace Go.Proofs.YtbiadkkamhpdnaaGreatDoor
open Go Go.AL
set_option maxRecDepth 100000
set_option maxHeartbeats 1000000
theorem I35 {n:Nat} {rows:List Row} {sp:List Span} {hs:List CHunk} (hn:n≤32) (hr:K1 rows) (hW:(rows.map Y2).sum≤8388608) (h:A20 n rows 0 [] sp=some hs):szC hs≤268435456∧∀x∈hs,K1 x.Rows:=by
 have h1:=G40 Y2 2081 n rows sp 0 [] hs (Int.le_refl _) h (by simp) (by simp)
 have h2:=F04 hr sp 0 [] hs h (fun x hx=>by cases hx)
 have hl:=A00 rows
 refine ⟨?_,fun x hx=>(h2 x hx).2⟩
 have h3:szC hs=(hs.map fun h=>(2048+h.At.length)+(h.Rows.map Y2).sum).sum:=rfl
 have h4:szC hs≤(hs.map fun h=>2081+(h.Rows.map Y2).sum).sum:=by
  rw [h3]
  clear h h1 h3
  induction hs with
  | nil=>simp
  | cons x r ih =>
   have h5:=(h2 x (by simp)).1
   have h6:=ih fun y hy=>h2 y (by simp [hy])
   rw [K13,K34,K13,K34]
   omega
 have h5:=h1.2
 simp only [K10] at h5
 have h6:=h1.1
 omega
theorem J42 {path:Str} {t:Table} {sp:List Span} {d:Bool} (hr:K1 t.Rows) (hW:(t.Rows.map Y2).sum≤8388608):szC (A30 path t sp d).1.Hunks≤268435456∧∀x∈(A30 path t sp d).1.Hunks,K1 x.Rows:=by
 have h0:szC comb0.Hunks≤268435456∧∀x∈comb0.Hunks,K1 x.Rows:=⟨by decide,fun x hx=>by cases hx⟩
 unfold A30
 split
 ·exact h0
 ·split
  ·exact h0
  ·rename_i hc
   cases hg:A20 t.Parents.toNat t.Rows 0 [] sp with
   | none=>exact h0
   | some hs =>
    dsimp only
    split
    ·exact h0
    ·refine I35 ?_ hr hW hg
     unfold L5 at hc
     split at hc
     ·exact absurd hc (by decide)
     ·omega
theorem G91 {t:Table} (h:L5 t=0):1≤t.Parents∧t.Parents≤32:=by
 unfold L5 at h
 split at h
 ·cases h
 ·omega
set_option maxHeartbeats 1000000
end Go.Proofs.YtbiadkkamhpdnaaGreatDoor
namespace Go.Proofs.YtbiadkkamhpdnaaGreatDoor
open Go Go.AL
set_option maxRecDepth 100000
end Go.Proofs.YtbiadkkamhpdnaaGreatDoor
namespace Go.Proofs.YtbiadkkamhpdnaaGreatDoor
open Go Go.AL
end Go.Proofs.YtbiadkkamhpdnaaGreatDoor
namespace Go.Proofs.YtbiadkkamhpdnaaGreatDoor
open Go Go.AL
set_option maxRecDepth 100000
set_option maxHeartbeats 4000000
set_option maxHeartbeats 1000000
set_option maxHeartbeats 4000000
set_option maxHeartbeats 4000000
section
variable {P:Program} {nt:Nat} {fr:Fr} {w:Str} {d:Bool} {n:Int} {hs:List CHunk}
end
set_option maxHeartbeats 4000000
end Go.Proofs.YtbiadkkamhpdnaaGreatDoor
