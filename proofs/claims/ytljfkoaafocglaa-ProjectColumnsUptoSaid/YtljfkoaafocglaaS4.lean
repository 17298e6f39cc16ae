/- What Make computes, as plain functions of Lean, and laws about it. No project text. -/
import Derived.Test.YtljfkoaafocglaaS3
namespace Go.AL
open Go

theorem u32_in (n : Int) : 0 ≤ IntKind.u32.wrap n ∧ IntKind.u32.wrap n < 4294967296 := by simp [IntKind.wrap, IntKind.signed, IntKind.bits]; omega
def clrBit (a b : Int) : Int := IntKind.u32.wrap ((BitVec.ofInt IntKind.u32.bits a &&& ~~~BitVec.ofInt IntKind.u32.bits b).toNat : Int)

/-! ### the lists of the lost lines -/

/-- the lists of the parents, merged one after another -/
def coalesceFrom (acc : List Merged) (p : Nat) : List (List Int) → List Merged × Int
  | [] => (acc, 0)
  | x :: r => if 4096 < acc.length ∨ 4096 < x.length then ([], 1) else coalesceFrom (joinedOf acc x p) (p + 1) r
def coalesceOf (lists : List (List Int)) : List Merged × Int := if 32 < lists.length then ([], 1) else coalesceFrom [] 0 lists

theorem joinGo_size (l : List Merged) (list : List Int) (bit : Int) : ∀ (ps : List Span) (i j : Nat), i ≤ l.length → j ≤ list.length → Asc l.length list.length i j ps → (joinGo l list bit i j ps).length ≤ (l.length - i) + (list.length - j)
  | [], i, j, hi, hj, _ => by simp [joinGo]
  | x :: r, i, j, hi, hj, ha => by
    obtain ⟨h1, h2, h3⟩ := ha
    have h4 := h3.le
    have e1 : ((x.From.toNat + 1 : Nat) : Int) = x.From + 1 := by omega
    have e2 : ((x.To.toNat + 1 : Nat) : Int) = x.To + 1 := by omega
    have ih := joinGo_size l list bit r (x.From.toNat + 1) (x.To.toNat + 1) (by omega) (by omega) (by rw [e1, e2]; exact h3)
    have h5 : ((l[x.From.toNat]?.map fun y => (⟨y.Line, orBit y.Parents bit⟩ : Merged)).toList).length ≤ 1 := by cases l[x.From.toNat]? <;> simp
    simp only [joinGo, List.length_append, List.length_map, List.length_take, List.length_drop]
    omega

theorem joined_size (l : List Merged) (list : List Int) (p : Int) : (joinedOf l list p).length ≤ l.length + list.length := by
  have hasc := walkGo_asc (linesM l) list 0 0
  rw [Int.zero_add, Int.zero_add, show (linesM l).length = l.length by simp [linesM]] at hasc
  have := joinGo_size l list (bitOf p) (walkGo 0 0 (linesM l) list) 0 0 (Nat.zero_le _) (Nat.zero_le _) hasc
  simpa [joinedOf] using this

theorem mem_take_drop {α : Type} {l : List α} {i n : Nat} {x : α} (h : x ∈ (l.drop i).take n) : x ∈ l := List.mem_of_mem_drop (List.mem_of_mem_take h)

theorem joinGo_mem (l : List Merged) (list : List Int) (bit : Int) (hb : 0 ≤ bit ∧ bit < 4294967296) (hl : ∀ m ∈ l, 0 ≤ m.Parents ∧ m.Parents < 4294967296) (Q : Int → Prop) (hq1 : ∀ m ∈ l, Q m.Line) (hq2 : ∀ v ∈ list, Q v) :
    ∀ (ps : List Span) (i j : Nat), ∀ m ∈ joinGo l list bit i j ps, (0 ≤ m.Parents ∧ m.Parents < 4294967296) ∧ Q m.Line
  | [], i, j, m, hm => by
    rcases List.mem_append.1 hm with h | h
    · have := mem_take_drop h; exact ⟨hl _ this, hq1 _ this⟩
    · obtain ⟨v, hv, rfl⟩ := List.mem_map.1 h
      exact ⟨hb, hq2 _ (mem_take_drop hv)⟩
  | x :: r, i, j, m, hm => by
    unfold joinGo at hm
    rcases List.mem_append.1 hm with h | h
    · rcases List.mem_append.1 h with h | h
      · have := mem_take_drop h; exact ⟨hl _ this, hq1 _ this⟩
      · obtain ⟨v, hv, rfl⟩ := List.mem_map.1 h
        exact ⟨hb, hq2 _ (mem_take_drop hv)⟩
    · rcases List.mem_append.1 h with h | h
      · cases hx : l[x.From.toNat]? with
        | none => simp [hx] at h
        | some y =>
          simp [hx] at h
          subst h
          exact ⟨u32_in _, hq1 y (List.mem_of_getElem? hx)⟩
      · exact joinGo_mem l list bit hb hl Q hq1 hq2 r _ _ m h

theorem coalesceFrom_spec (Q : Int → Prop) (B : Nat) : ∀ (ls : List (List Int)) (acc : List Merged) (p : Nat), (∀ x ∈ ls, x.length ≤ B ∧ ∀ v ∈ x, Q v) → (∀ m ∈ acc, (0 ≤ m.Parents ∧ m.Parents < 4294967296) ∧ Q m.Line) →
    (coalesceFrom acc p ls).1.length ≤ acc.length + ls.length * B ∧ ∀ m ∈ (coalesceFrom acc p ls).1, (0 ≤ m.Parents ∧ m.Parents < 4294967296) ∧ Q m.Line
  | [], acc, p, _, ha => by simp only [coalesceFrom]; exact ⟨by simp, ha⟩
  | x :: r, acc, p, hl, ha => by
    unfold coalesceFrom
    split
    · exact ⟨by simp, by simp⟩
    · have hx := hl x (List.mem_cons_self ..)
      have hj := joined_size acc x p
      have hm := joinGo_mem acc x (bitOf p) (u32_in _) (fun m hm => (ha m hm).1) Q (fun m hm => (ha m hm).2) hx.2 (walkGo 0 0 (linesM acc) x) 0 0
      have ih := coalesceFrom_spec Q B r (joinedOf acc x p) (p + 1) (fun y hy => hl y (List.mem_cons_of_mem _ hy)) hm
      refine ⟨?_, ih.2⟩
      have h1 := ih.1
      have h2 := hx.1
      simp only [List.length_cons, Nat.add_mul, Nat.one_mul]
      omega

theorem coalesce_spec (Q : Int → Prop) (B : Nat) (ls : List (List Int)) (h : ∀ x ∈ ls, x.length ≤ B ∧ ∀ v ∈ x, Q v) : (coalesceOf ls).1.length ≤ ls.length * B ∧ ∀ m ∈ (coalesceOf ls).1, (0 ≤ m.Parents ∧ m.Parents < 4294967296) ∧ Q m.Line := by
  unfold coalesceOf
  split
  · exact ⟨by simp, by simp⟩
  · have := coalesceFrom_spec Q B ls [] 0 h (by simp)
    simpa using this

/-! ### the table -/

/-- one pair clears its bit -/
def clearOne (p : Int) (ms : List Int) (x : Span) : List Int := ms.set x.To.toNat (clrBit (ms.getD x.To.toNat 0) (bitOf p))
/-- one change of parent p puts its lost lines into a gap -/
def gapPut (p : Nat) (file : List Int) (g : Nat → List (List Int)) (c : Change) : Nat → List (List Int) := fun k =>
  if k = c.New.toNat then (g k).set p ((file.drop c.Old.toNat).take ((c.Old + c.OldLen).toNat - c.Old.toNat)) else g k
abbrev Loom := List Int × (Nat → List (List Int))
def parentStep (ids : List (List Int)) (s : Loom) (p : Nat) : Loom :=
  let file := ids.getD (p + 1) []
  let sc := walkOf file (ids.getD 0 [])
  ((matchedOf sc file.length).foldl (clearOne p) (s.1.map (orBit · (bitOf p))), sc.foldl (gapPut p file) s.2)
def loom0 (lines n : Nat) : Loom := (List.replicate lines 0, fun _ => List.replicate n [])
def loomAt (ids : List (List Int)) (lines n p : Nat) : Loom := (List.range p).foldl (parentStep ids) (loom0 lines n)

def rowsOfGap (names : List Str) (file : List Str) (s : Loom) (k : Nat) : List Row :=
  (coalesceOf (s.2 k)).1.map (fun m => (⟨true, m.Parents, names.getD m.Line.toNat []⟩ : Row)) ++ (if k < file.length then [⟨false, s.1.getD k 0, file.getD k []⟩] else [])
def rowsTo (names : List Str) (file : List Str) (s : Loom) (k : Nat) : List Row := ((List.range k).map (rowsOfGap names file s)).flatten
def make16 (result : Str) (parents : List Str) : Table × Int :=
  if parents.length < 1 ∨ 32 < parents.length then (⟨0, []⟩, 2) else
  let fs := linesOf result :: parents.map linesOf
  let names := namesOf fs
  let s := loomAt (fs.map (idsOf names)) (linesOf result).length parents.length parents.length
  if ∃ k, k < (linesOf result).length + 1 ∧ (coalesceOf (s.2 k)).2 ≠ 0 then (⟨0, []⟩, 1) else (⟨parents.length, rowsTo names (linesOf result) s ((linesOf result).length + 1)⟩, 0)

theorem rowsTo_succ (names file : List Str) (s : Loom) (k : Nat) : rowsTo names file s (k + 1) = rowsTo names file s k ++ rowsOfGap names file s k := by
  unfold rowsTo; rw [List.range_succ, List.map_append, List.flatten_append]; simp

/-- what holds of a loom whose lists come from files of at most B lines, with numbers of the kind Q -/
structure LoomOk (Q : Int → Prop) (B lines n : Nat) (s : Loom) : Prop where
  len : s.1.length = lines
  marks : ∀ m ∈ s.1, 0 ≤ m ∧ m < 4294967296
  gaps : ∀ k, (s.2 k).length = n ∧ ∀ x ∈ s.2 k, x.length ≤ B ∧ ∀ v ∈ x, Q v

theorem loom0_ok (Q : Int → Prop) (B lines n : Nat) : LoomOk Q B lines n (loom0 lines n) where
  len := by simp [loom0]
  marks := fun m hm => by have := List.eq_of_mem_replicate hm; subst this; decide
  gaps := fun k => ⟨by simp [loom0], fun x hx => by have := List.eq_of_mem_replicate hx; subst this; simp⟩

theorem gapPut_ok {Q : Int → Prop} {B n p : Nat} {file : List Int} (hf : file.length ≤ B ∧ ∀ v ∈ file, Q v) {g : Nat → List (List Int)} (hg : ∀ k, (g k).length = n ∧ ∀ x ∈ g k, x.length ≤ B ∧ ∀ v ∈ x, Q v) (c : Change) :
    ∀ k, (gapPut p file g c k).length = n ∧ ∀ x ∈ gapPut p file g c k, x.length ≤ B ∧ ∀ v ∈ x, Q v := by
  intro k
  unfold gapPut
  split
  · refine ⟨by rw [List.length_set]; exact (hg k).1, fun x hx => ?_⟩
    rcases List.mem_or_eq_of_mem_set hx with h | rfl
    · exact (hg k).2 x h
    · exact ⟨by simp; omega, fun v hv => hf.2 v (mem_take_drop hv)⟩
  · exact hg k

theorem foldl_gap_ok {Q : Int → Prop} {B n p : Nat} {file : List Int} (hf : file.length ≤ B ∧ ∀ v ∈ file, Q v) : ∀ (sc : List Change) {g : Nat → List (List Int)}, (∀ k, (g k).length = n ∧ ∀ x ∈ g k, x.length ≤ B ∧ ∀ v ∈ x, Q v) →
    ∀ k, (sc.foldl (gapPut p file) g k).length = n ∧ ∀ x ∈ sc.foldl (gapPut p file) g k, x.length ≤ B ∧ ∀ v ∈ x, Q v
  | [], _, hg => hg
  | c :: r, _, hg => foldl_gap_ok hf r (gapPut_ok hf hg c)

theorem clearOne_ok {p : Int} {ms : List Int} {x : Span} (h : ∀ m ∈ ms, 0 ≤ m ∧ m < 4294967296) : (clearOne p ms x).length = ms.length ∧ ∀ m ∈ clearOne p ms x, 0 ≤ m ∧ m < 4294967296 := by
  refine ⟨by simp [clearOne], fun m hm => ?_⟩
  rcases List.mem_or_eq_of_mem_set hm with h' | rfl
  · exact h m h'
  · exact u32_in _
theorem foldl_clear_ok {p : Int} : ∀ (ps : List Span) {ms : List Int}, (∀ m ∈ ms, 0 ≤ m ∧ m < 4294967296) → (ps.foldl (clearOne p) ms).length = ms.length ∧ ∀ m ∈ ps.foldl (clearOne p) ms, 0 ≤ m ∧ m < 4294967296
  | [], ms, h => ⟨rfl, h⟩
  | x :: r, ms, h => by
    have h1 := clearOne_ok (p := p) (x := x) h
    have h2 := foldl_clear_ok (p := p) r h1.2
    exact ⟨h2.1.trans h1.1, h2.2⟩

theorem parentStep_ok {Q : Int → Prop} {B lines n : Nat} {ids : List (List Int)} (hids : ∀ x ∈ ids, x.length ≤ B ∧ ∀ v ∈ x, Q v) {s : Loom} (h : LoomOk Q B lines n s) (p : Nat) : LoomOk Q B lines n (parentStep ids s p) := by
  have hf : (ids.getD (p + 1) []).length ≤ B ∧ ∀ v ∈ ids.getD (p + 1) [], Q v := by
    rw [List.getD_eq_getElem?_getD]
    cases hx : ids[p + 1]? with
    | none => simp
    | some x => exact hids x (List.mem_of_getElem? hx)
  have hr : ∀ m ∈ s.1.map (orBit · (bitOf p)), 0 ≤ m ∧ m < 4294967296 := fun m hm => by
    obtain ⟨v, _, rfl⟩ := List.mem_map.1 hm; exact u32_in _
  have hc := foldl_clear_ok (p := p) (matchedOf (walkOf (ids.getD (p + 1) []) (ids.getD 0 [])) (ids.getD (p + 1) []).length) hr
  exact { len := by rw [parentStep]; simp only; rw [hc.1, List.length_map]; exact h.len, marks := hc.2, gaps := foldl_gap_ok hf _ h.gaps }

theorem loomAt_succ (ids : List (List Int)) (lines n p : Nat) : loomAt ids lines n (p + 1) = parentStep ids (loomAt ids lines n p) p := by
  unfold loomAt; rw [List.range_succ, List.foldl_append]; rfl
theorem loomAt_ok {Q : Int → Prop} {B lines n : Nat} {ids : List (List Int)} (hids : ∀ x ∈ ids, x.length ≤ B ∧ ∀ v ∈ x, Q v) : ∀ p, LoomOk Q B lines n (loomAt ids lines n p)
  | 0 => loom0_ok Q B lines n
  | p + 1 => by rw [loomAt_succ]; exact parentStep_ok hids (loomAt_ok hids p) p

/-! ### the numbers of the lines -/

theorem placeOf_le (l : List Str) (s : Str) : ∀ k : Int, 0 ≤ k → s ∈ l → k ≤ placeOf l s k ∧ placeOf l s k < k + l.length := by
  induction l with
  | nil => intro k _ h; cases h
  | cons x r ih =>
    intro k hk h
    unfold placeOf
    by_cases hx : x = s
    · rw [if_pos hx]; simp; omega
    · rw [if_neg hx]
      have := ih (k + 1) (by omega) (by rcases List.mem_cons.1 h with rfl | h; exact absurd rfl hx; exact h)
      simp only [List.length_cons]; omega

theorem names_mem_foldl (l : List Str) : ∀ (out : List Str) (s : Str), s ∈ out ∨ s ∈ l → s ∈ l.foldl namesStep out := by
  induction l with
  | nil => intro out s h; rcases h with h | h; exact h; cases h
  | cons x r ih =>
    intro out s h
    apply ih
    rcases h with h | h
    · left; unfold namesStep; split; exact h; exact List.mem_append_left _ h
    · rcases List.mem_cons.1 h with rfl | h
      · left; unfold namesStep; split; assumption; simp
      · exact .inr h
theorem namesOf_mem (fs : List (List Str)) (s : Str) (f : List Str) (hf : f ∈ fs) (hs : s ∈ f) : s ∈ namesOf fs := names_mem_foldl _ _ _ (.inr (List.mem_flatten.2 ⟨f, hf, hs⟩))

theorem ids_in (fs : List (List Str)) : ∀ x ∈ fs.map (idsOf (namesOf fs)), ∀ v ∈ x, 0 ≤ v ∧ v < (namesOf fs).length := by
  intro x hx v hv
  obtain ⟨f, hf, rfl⟩ := List.mem_map.1 hx
  obtain ⟨s, hs, rfl⟩ := List.mem_map.1 hv
  have := placeOf_le (namesOf fs) s 0 (Int.le_refl _) (namesOf_mem fs s f hf hs)
  omega

theorem names_sub_foldl (l : List Str) : ∀ (out : List Str) (s : Str), s ∈ l.foldl namesStep out → s ∈ out ∨ s ∈ l := by
  induction l with
  | nil => intro out s h; exact .inl h
  | cons x r ih =>
    intro out s h
    rcases ih _ _ h with h | h
    · unfold namesStep at h
      split at h
      · exact .inl h
      · rcases List.mem_append.1 h with h | h
        · exact .inl h
        · simp at h; subst h; exact .inr (by simp)
    · exact .inr (List.mem_cons_of_mem _ h)
theorem namesOf_sub (fs : List (List Str)) (s : Str) (h : s ∈ namesOf fs) : s ∈ fs.flatten := by
  rcases names_sub_foldl _ _ _ h with h | h
  · cases h
  · exact h
end Go.AL
