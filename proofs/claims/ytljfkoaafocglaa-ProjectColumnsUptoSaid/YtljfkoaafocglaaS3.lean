/- What the functions of the tables compute, as plain functions of Lean, and laws about them. No project text. -/
import Derived.Test.YtljfkoaafocglaaS2
namespace Go.AL
open Go

def bitAt (m : Int) (c : Nat) : Bool := m / 2 ^ c % 2 == 1
/-- is a row to be seen in a column? -/
def visB (r : Row) (c : Int) : Bool := if c = -1 then !r.Lost else if c < -1 ∨ 32 ≤ c then false else bitAt r.Marks c.toNat == r.Lost
def colOf (rows : List Row) (c : Int) : List Str := (rows.filter (visB · c)).map (·.Text)
def markOk (n : Nat) (r : Row) : Bool := r.Marks / 2 ^ n == 0 && !(r.Lost && r.Marks == 0)
def marksOk (rows : List Row) (n : Nat) : Bool := rows.all (markOk n)
def textsOk (rows : List Row) (n : Nat) : Bool := rows.all (fun r => lineOk r.Text) && (List.range (n + 1)).all fun k => listOk (colOf rows ((k : Int) - 1))
def check16 (t : Table) : Int := if t.Parents < 1 ∨ 32 < t.Parents then 2 else if marksOk t.Rows t.Parents.toNat = false then 180 else if textsOk t.Rows t.Parents.toNat = false then 4 else 0
def column20 (t : Table) (c : Int) : Str × Int := if check16 t ≠ 0 then ([], check16 t) else if c < -1 ∨ t.Parents ≤ c then ([], 3) else joinOf (colOf t.Rows c)

theorem marksOk_cons (r : Row) (rs : List Row) (n : Nat) : marksOk (r :: rs) n = (markOk n r && marksOk rs n) := rfl
def rowsIn (rows : List Row) : Prop := ∀ r ∈ rows, 0 ≤ r.Marks ∧ r.Marks < 4294967296
def textsLen (rows : List Row) : Nat := (rows.map (·.Text)).flatten.length

theorem colOf_len (rows : List Row) (c : Int) : (colOf rows c).length ≤ rows.length := by unfold colOf; rw [List.length_map]; exact List.length_filter_le _ _
theorem colOf_flat (rows : List Row) (c : Int) : (colOf rows c).flatten.length ≤ textsLen rows := by
  unfold colOf textsLen
  induction rows with
  | nil => simp
  | cons r rs ih =>
    rw [List.filter_cons]
    split
    · simp only [List.map_cons, List.flatten_cons, List.length_append]; omega
    · simp only [List.map_cons, List.flatten_cons, List.length_append]; omega
theorem colOf_mem (rows : List Row) (c : Int) : ∀ s ∈ colOf rows c, ∃ r ∈ rows, r.Text = s := by
  intro s hs
  unfold colOf at hs
  obtain ⟨r, hr, rfl⟩ := List.mem_map.1 hs
  exact ⟨r, (List.mem_filter.1 hr).1, rfl⟩
theorem text_len (rows : List Row) : ∀ r ∈ rows, r.Text.length ≤ textsLen rows := by
  intro r hr
  unfold textsLen
  exact (List.sublist_flatten_of_mem (List.mem_map_of_mem hr)).length_le

theorem and1_u32 (x : Int) (h : 0 ≤ x ∧ x < 4294967296) : IntKind.u32.wrap ((BitVec.ofInt IntKind.u32.bits x &&& BitVec.ofInt IntKind.u32.bits 1).toNat : Int) = x % 2 := by
  have h1 : (BitVec.ofInt IntKind.u32.bits x &&& BitVec.ofInt IntKind.u32.bits 1).toNat = x.toNat % 2 := by
    rw [BitVec.toNat_and, BitVec.toNat_ofInt, BitVec.toNat_ofInt]
    have e1 : (x % ((2 ^ IntKind.u32.bits : Nat) : Int)).toNat = x.toNat := by
      rw [show ((2 ^ IntKind.u32.bits : Nat) : Int) = 4294967296 by rfl]; omega
    have e2 : ((1 : Int) % ((2 ^ IntKind.u32.bits : Nat) : Int)).toNat = 1 := by rfl
    rw [e1, e2, Nat.and_one_is_mod]
  rw [h1]
  have h2 : IntKind.u32.wrap ((x.toNat % 2 : Nat) : Int) = ((x.toNat % 2 : Nat) : Int) := by
    simp [IntKind.wrap, IntKind.signed, IntKind.bits]; omega
  rw [h2]; omega

theorem u64_id {n : Int} (h : 0 ≤ n ∧ n < 18446744073709551616) : IntKind.u64.wrap n = n := by simp [IntKind.wrap, IntKind.signed, IntKind.bits]; omega
theorem shr32 (m c : Int) (hc : 0 ≤ c ∧ c ≤ 32) : m.fdiv (2 ^ (min c.toNat IntKind.u32.bits)) = m / 2 ^ c.toNat := by
  rw [show min c.toNat IntKind.u32.bits = c.toNat from Nat.min_eq_left (by show c.toNat ≤ 32; omega), Int.fdiv_eq_ediv_of_nonneg _ (Int.pow_nonneg (by decide))]
theorem shr64' (m c : Int) (hc : 0 ≤ c ∧ c ≤ 64) : m.fdiv (2 ^ (min c.toNat IntKind.u64.bits)) = m / 2 ^ c.toNat := by
  rw [show min c.toNat IntKind.u64.bits = c.toNat from Nat.min_eq_left (by show c.toNat ≤ 64; omega), Int.fdiv_eq_ediv_of_nonneg _ (Int.pow_nonneg (by decide))]
theorem shr_eq (m c : Int) (b : Nat) (hc : 0 ≤ c ∧ c ≤ b) : m.fdiv (2 ^ (min c.toNat b)) = m / 2 ^ c.toNat := by
  rw [show min c.toNat b = c.toNat by omega, Int.fdiv_eq_ediv_of_nonneg _ (Int.pow_nonneg (by decide))]
end Go.AL
