/- Bounds on the table that Make makes. No project text. -/
import Derived.Test.YtljfkoaafocglaaS5
namespace Go.AL
open Go

theorem textsLen_le (rows : List Row) (B : Nat) (h : ∀ r ∈ rows, r.Text.length ≤ B) : textsLen rows ≤ rows.length * B := by
  unfold textsLen
  induction rows with
  | nil => simp
  | cons r rs ih =>
    have h1 := ih fun x hx => h x (by simp [hx])
    have h2 := h r (by simp)
    simp only [List.map_cons, List.flatten_cons, List.length_append, List.length_cons, Nat.add_mul, Nat.one_mul]
    omega

theorem line_len (b s : Str) (h : s ∈ linesOf b) : s.length ≤ b.length := by
  have h1 : (linesOf b).flatten = b := by
    have key : ∀ (s cur : Str), (linesAux cur s).flatten = cur ++ s := by
      intro s
      induction s with
      | nil => intro cur; unfold linesAux; split <;> simp [*]
      | cons c r ih => intro cur; unfold linesAux; split <;> simp [ih]
    exact key b []
  have h2 : ∀ (l : List Str), s ∈ l → s.length ≤ l.flatten.length := by
    intro l
    induction l with
    | nil => intro h; cases h
    | cons x r ih =>
      intro h
      rcases List.mem_cons.1 h with rfl | h
      · simp
      · have := ih h; simp only [List.flatten_cons, List.length_append]; omega
  have := h2 _ h; rw [h1] at this; exact this

theorem make16_rows (result : Str) (parents : List Str) (B : Nat) (h0 : result.length ≤ B) (h1 : ∀ b ∈ parents, b.length ≤ B) :
    rowsIn (make16 result parents).1.Rows ∧ (make16 result parents).1.Rows.length ≤ (B + 1) * (32 * B + 1) ∧ ∀ r ∈ (make16 result parents).1.Rows, r.Text.length ≤ B := by
  have hnil : rowsIn [] ∧ ([] : List Row).length ≤ (B + 1) * (32 * B + 1) ∧ ∀ r ∈ ([] : List Row), r.Text.length ≤ B := ⟨fun r hr => (by cases hr), (by simp), fun r hr => (by cases hr)⟩
  by_cases hn : parents.length < 1 ∨ 32 < parents.length
  · rw [make16, if_pos hn]; exact hnil
  obtain ⟨fs, hfs⟩ : ∃ fs, fs = linesOf result :: parents.map linesOf := ⟨_, rfl⟩
  obtain ⟨names, hnames⟩ : ∃ names, names = namesOf fs := ⟨_, rfl⟩
  obtain ⟨s, hs⟩ : ∃ s, s = loomAt (fs.map (idsOf names)) (linesOf result).length parents.length parents.length := ⟨_, rfl⟩
  have hm : make16 result parents = if ∃ k, k < (linesOf result).length + 1 ∧ (coalesceOf (s.2 k)).2 ≠ 0 then (⟨0, []⟩, 1) else (⟨parents.length, rowsTo names (linesOf result) s ((linesOf result).length + 1)⟩, 0) := by
    rw [make16, if_neg hn, hs, hnames, hfs]
  rw [hm]
  split
  · exact hnil
  have hfB : ∀ f ∈ fs, f.length ≤ B ∧ ∀ t ∈ f, t.length ≤ B := by
    intro f hf
    rw [hfs] at hf
    rcases List.mem_cons.1 hf with rfl | hf
    · exact ⟨by have := linesOf_length result; omega, fun t ht => by have := line_len _ _ ht; omega⟩
    · obtain ⟨b, hb, rfl⟩ := List.mem_map.1 hf
      have := h1 b hb
      exact ⟨by have := linesOf_length b; omega, fun t ht => by have := line_len _ _ ht; omega⟩
  have hnB : ∀ t ∈ names, t.length ≤ B := by
    intro t ht
    rw [hnames] at ht
    obtain ⟨f, hf, h2⟩ := List.mem_flatten.1 (namesOf_sub fs t ht)
    exact (hfB f hf).2 t h2
  have hid : ∀ x ∈ fs.map (idsOf names), x.length ≤ B ∧ ∀ v ∈ x, (fun _ : Int => True) v := by
    intro x hx
    obtain ⟨f, hf, rfl⟩ := List.mem_map.1 hx
    exact ⟨by rw [idsOf, List.length_map]; exact (hfB f hf).1, fun _ _ => trivial⟩
  have hok : LoomOk (fun _ => True) B (linesOf result).length parents.length s := by rw [hs]; exact loomAt_ok hid _
  have hL : (linesOf result).length ≤ B := (hfB _ (by rw [hfs]; simp)).1
  have hcs : ∀ k, (coalesceOf (s.2 k)).1.length ≤ 32 * B ∧ ∀ m ∈ (coalesceOf (s.2 k)).1, 0 ≤ m.Parents ∧ m.Parents < 4294967296 := fun k => by
    have h2 := hok.gaps k
    have h3 := coalesce_spec (fun _ => True) B (s.2 k) h2.2
    rw [h2.1] at h3
    have : parents.length * B ≤ 32 * B := Nat.mul_le_mul_right _ (by omega)
    exact ⟨by omega, fun m hmem => (h3.2 m hmem).1⟩
  have hgetD : ∀ (l : List Str) (k : Nat), (∀ t ∈ l, t.length ≤ B) → (l.getD k []).length ≤ B := by
    intro l k hl
    rw [List.getD_eq_getElem?_getD]
    cases h : l[k]? with
    | none => simp
    | some t => exact hl t (List.mem_of_getElem? h)
  have key : ∀ k, k ≤ (linesOf result).length + 1 → rowsIn (rowsTo names (linesOf result) s k) ∧ (rowsTo names (linesOf result) s k).length ≤ k * (32 * B + 1) ∧ ∀ r ∈ rowsTo names (linesOf result) s k, r.Text.length ≤ B := by
    intro k
    induction k with
    | zero => intro _; simp only [rowsTo, List.range_zero, List.map_nil, List.flatten_nil]; exact ⟨fun r hr => (by cases hr), by simp, fun r hr => (by cases hr)⟩
    | succ k ih =>
      intro hk
      obtain ⟨i1, i2, i3⟩ := ih (by omega)
      have hc := hcs k
      have hgap : ∀ r ∈ rowsOfGap names (linesOf result) s k, (0 ≤ r.Marks ∧ r.Marks < 4294967296) ∧ r.Text.length ≤ B := by
        intro r hr
        unfold rowsOfGap at hr
        rcases List.mem_append.1 hr with h | h
        · obtain ⟨m, hmem, rfl⟩ := List.mem_map.1 h
          exact ⟨hc.2 m hmem, hgetD _ _ hnB⟩
        · split at h
          · rename_i hkl
            simp only [List.mem_singleton] at h
            subst h
            refine ⟨?_, hgetD _ _ (hfB _ (by rw [hfs]; simp)).2⟩
            have : k < s.1.length := by rw [hok.len]; exact hkl
            show 0 ≤ s.1.getD k 0 ∧ s.1.getD k 0 < 4294967296
            rw [List.getD_eq_getElem?_getD, List.getElem?_eq_getElem this]
            exact hok.marks _ (List.getElem_mem this)
          · cases h
      have hgl : (rowsOfGap names (linesOf result) s k).length ≤ 32 * B + 1 := by
        unfold rowsOfGap
        rw [List.length_append, List.length_map]
        have := hc.1
        split <;> simp <;> omega
      rw [rowsTo_succ]
      refine ⟨fun r hr => ?_, by rw [List.length_append, Nat.add_mul, Nat.one_mul]; omega, fun r hr => ?_⟩
      · rcases List.mem_append.1 hr with h | h
        · exact i1 r h
        · exact (hgap r h).1
      · rcases List.mem_append.1 hr with h | h
        · exact i3 r h
        · exact (hgap r h).2
  obtain ⟨k1, k2, k3⟩ := key _ (Nat.le_refl _)
  have : ((linesOf result).length + 1) * (32 * B + 1) ≤ (B + 1) * (32 * B + 1) := Nat.mul_le_mul_right _ (by omega)
  exact ⟨k1, by simp only; omega, k3⟩
end Go.AL
