/- What the functions of the scripts compute, as plain functions of Lean, and laws about them. No project text. -/
import Derived.Test.YtljfkoaafocglaaS1
namespace Go.AL
open Go

/-- the script of good pairs -/
def madeGo (i j : Int) : List Span → Int → Int → List Change
  | [], m, n => if m > i ∨ n > j then [⟨i, m - i, j, n - j⟩] else []
  | x :: r, m, n => (if x.From > i ∨ x.To > j then [⟨i, x.From - i, j, x.To - j⟩] else []) ++ madeGo (x.From + 1) (x.To + 1) r m n
def madeOf (p : List Span) (m n : Int) : List Change := madeGo 0 0 p m n

theorem madeGo_length (p : List Span) (i j m n : Int) : (madeGo i j p m n).length ≤ p.length + 1 := by
  induction p generalizing i j with
  | nil => unfold madeGo; split <;> simp
  | cons x r ih => unfold madeGo; have := ih (x.From + 1) (x.To + 1); split <;> simp <;> omega

/-- n pairs from (i, j) on -/
def spanRun (i j : Int) (n : Nat) : List Span := (List.range n).map fun (t : Nat) => ⟨i + (t : Int), j + (t : Int)⟩
theorem spanRun_length (i j : Int) (n : Nat) : (spanRun i j n).length = n := by simp [spanRun]
theorem spanRun_succ (i j : Int) (n : Nat) : spanRun i j (n + 1) = ⟨i, j⟩ :: spanRun (i + 1) (j + 1) n := by
  unfold spanRun
  rw [List.range_succ_eq_map, List.map_cons, List.map_map]
  congr 1
  · simp
  · refine List.map_congr_left fun t _ => ?_
    simp only [Function.comp, Span.mk.injEq]
    omega

/-- the partners of a script -/
def matchedGo (i j : Int) : List Change → Int → List Span
  | [], m => spanRun i j (m - i).toNat
  | c :: r, m => spanRun i j (c.Old - i).toNat ++ matchedGo (max i c.Old + c.OldLen) (j + (c.Old - i).toNat + c.NewLen) r m
def matchedOf (l : List Change) (m : Int) : List Span := matchedGo 0 0 l m

/-- the least number of lines to take away and to add -/
def dist : List Int → List Int → Nat
  | [], b => b.length
  | x :: a, [] => (x :: a).length
  | x :: a, y :: b => if x = y then dist a b else 1 + min (dist a (y :: b)) (dist (x :: a) b)

theorem dist_nil (a : List Int) : dist a [] = a.length := by cases a <;> simp [dist]
theorem dist_le (a b : List Int) : dist a b ≤ a.length + b.length := by
  induction a generalizing b with
  | nil => simp [dist]
  | cons x a iha =>
    induction b with
    | nil => simp [dist]
    | cons y b ihb =>
      unfold dist
      split
      · have := iha b; simp; omega
      · have := iha (y :: b); have := ihb; simp only [List.length_cons] at *; omega

/-- the pairs of the shortest script -/
def walkGo (i j : Int) : List Int → List Int → List Span
  | [], _ => []
  | _ :: _, [] => []
  | x :: a, y :: b => if x = y then ⟨i, j⟩ :: walkGo (i + 1) (j + 1) a b else if dist a (y :: b) + 1 = dist (x :: a) (y :: b) then walkGo (i + 1) j a (y :: b) else walkGo i (j + 1) (x :: a) b
def walkOf (a b : List Int) : List Change := madeOf (walkGo 0 0 a b) a.length b.length

theorem dist_drop (a b : List Int) (i j : Nat) (hi : i < a.length) (hj : j < b.length) :
    dist (a.drop i) (b.drop j) = if a[i] = b[j] then dist (a.drop (i + 1)) (b.drop (j + 1)) else 1 + min (dist (a.drop (i + 1)) (b.drop j)) (dist (a.drop i) (b.drop (j + 1))) := by
  rw [List.drop_eq_getElem_cons hi, List.drop_eq_getElem_cons hj]
  conv => lhs; rw [dist]
theorem walkGo_drop (a b : List Int) (i j : Nat) (hi : i < a.length) (hj : j < b.length) (p q : Int) :
    walkGo p q (a.drop i) (b.drop j) = if a[i] = b[j] then ⟨p, q⟩ :: walkGo (p + 1) (q + 1) (a.drop (i + 1)) (b.drop (j + 1)) else
      if dist (a.drop (i + 1)) (b.drop j) + 1 = dist (a.drop i) (b.drop j) then walkGo (p + 1) q (a.drop (i + 1)) (b.drop j) else walkGo p (q + 1) (a.drop i) (b.drop (j + 1)) := by
  rw [List.drop_eq_getElem_cons hi, List.drop_eq_getElem_cons hj]
  conv => lhs; rw [walkGo]
theorem walkGo_nil_left (p q : Int) (b : List Int) : walkGo p q [] b = [] := by simp [walkGo]
theorem walkGo_nil_right (p q : Int) (a : List Int) : walkGo p q a [] = [] := by cases a <;> simp [walkGo]
theorem walkGo_length (p q : Int) (a b : List Int) : (walkGo p q a b).length ≤ a.length := by
  induction a generalizing p q b with
  | nil => simp [walkGo]
  | cons x a iha =>
    induction b generalizing p q with
    | nil => simp [walkGo]
    | cons y b ihb =>
      unfold walkGo
      split
      · have := iha (p + 1) (q + 1) b; simp; omega
      · split
        · have := iha (p + 1) q (y :: b); simp; omega
        · exact ihb p (q + 1)

universe u
/-- a list given by what stands at each place, with one place changed -/
theorem range_set {α : Type u} (n k : Nat) (f g : Nat → α) (v : α) (hv : k < n → g k = v) (h : ∀ q, q < n → q ≠ k → g q = f q) : ((List.range n).map f).set k v = (List.range n).map g := by
  refine List.ext_getElem (by simp) fun q h1 h2 => ?_
  have hq : q < n := by simpa using h2
  rw [List.getElem_set]
  by_cases he : k = q
  · subst he; simp [hv hq]
  · rw [if_neg he]; simp [h q hq (Ne.symm he)]
theorem range_get {α : Type u} (n k : Nat) (f : Nat → α) (h : k < n) : ((List.range n).map f)[k]? = some (f k) := by simp [h]

/-- row i of the table, its places below q still empty -/
def distRow (a b : List Int) (i q : Nat) : List Int := (List.range (b.length + 1)).map fun j => if q ≤ j then (dist (a.drop i) (b.drop j) : Int) else 0
/-- the table, its rows above i still empty -/
def distRows (a b : List Int) (i : Nat) : List (List Int) := (List.range (a.length + 1)).map fun r => if i ≤ r then distRow a b r 0 else []
def distTable (a b : List Int) : List (List Int) := distRows a b 0
theorem distRow_length (a b : List Int) (i q : Nat) : (distRow a b i q).length = b.length + 1 := by simp [distRow]
theorem distRows_length (a b : List Int) (i : Nat) : (distRows a b i).length = a.length + 1 := by simp [distRows]
theorem distRow_full (a b : List Int) (i : Nat) : List.replicate (b.length + 1) 0 = distRow a b i (b.length + 1) := by
  refine List.ext_getElem (by simp [distRow]) fun q h1 h2 => ?_
  have : ¬ (b.length + 1 ≤ q) := by simp at h1; omega
  simp [distRow, this]
theorem distRows_full (a b : List Int) : List.replicate (a.length + 1) [] = distRows a b (a.length + 1) := by
  refine List.ext_getElem (by simp [distRows]) fun q h1 h2 => ?_
  have : ¬ (a.length + 1 ≤ q) := by simp at h1; omega
  simp [distRows, this]
theorem distRow_set (a b : List Int) (i j : Nat) : (distRow a b i (j + 1)).set j (dist (a.drop i) (b.drop j) : Int) = distRow a b i j := by
  unfold distRow
  refine range_set _ _ _ _ _ (fun _ => by simp) fun q hq hne => ?_
  by_cases h : j ≤ q
  · rw [if_pos h, if_pos (by omega)]
  · rw [if_neg h, if_neg (by omega)]
theorem distRow_get (a b : List Int) (i q j : Nat) (h : q ≤ j) (hj : j ≤ b.length) : (distRow a b i q)[j]? = some (dist (a.drop i) (b.drop j) : Int) := by
  unfold distRow
  rw [range_get _ _ _ (by omega), if_pos h]
theorem distRows_set (a b : List Int) (i : Nat) : (distRows a b (i + 1)).set i (distRow a b i 0) = distRows a b i := by
  unfold distRows
  refine range_set _ _ _ _ _ (fun _ => by simp) fun q hq hne => ?_
  by_cases h : i ≤ q
  · rw [if_pos h, if_pos (by omega)]
  · rw [if_neg h, if_neg (by omega)]
theorem distRows_get (a b : List Int) (i r : Nat) (h : i ≤ r) (hr : r ≤ a.length) : (distRows a b i)[r]? = some (distRow a b r 0) := by
  unfold distRows
  rw [range_get _ _ _ (by omega), if_pos h]

def linesM (l : List Merged) : List Int := l.map (·.Line)

theorem matchedGo_length (l : List Change) (i j m : Int) (hi : 0 ≤ i) (B : Nat) (hm : m ≤ B) (hl : ∀ c ∈ l, c.Old ≤ B ∧ 0 ≤ c.OldLen) : ((matchedGo i j l m).length : Int) ≤ max 0 (B - i) := by
  induction l generalizing i j with
  | nil => simp only [matchedGo, spanRun_length]; omega
  | cons c r ih =>
    have hc := hl c (List.mem_cons_self ..)
    have := ih (max i c.Old + c.OldLen) (j + (c.Old - i).toNat + c.NewLen) (by omega) (fun d hd => hl d (List.mem_cons_of_mem _ hd))
    simp only [matchedGo, List.length_append, spanRun_length]
    omega

theorem spanRun_zero (i j : Int) : spanRun i j 0 = [] := rfl
theorem spanRun_snoc (i j : Int) (n : Nat) : spanRun i j (n + 1) = spanRun i j n ++ [⟨i + n, j + n⟩] := by simp [spanRun, List.range_succ]

/-- pairs that ascend from (i, j) on, within (m, n) -/
def Asc (m n : Int) : Int → Int → List Span → Prop
  | i, j, [] => i ≤ m ∧ j ≤ n
  | i, j, x :: r => i ≤ x.From ∧ j ≤ x.To ∧ Asc m n (x.From + 1) (x.To + 1) r

theorem Asc.le {m n : Int} : ∀ {p : List Span} {i j : Int}, Asc m n i j p → i ≤ m ∧ j ≤ n
  | [], i, j, h => h
  | x :: r, i, j, h => by have := Asc.le h.2.2; have := h.1; have := h.2.1; omega

theorem Asc.weaken {m n : Int} {p : List Span} {i j i' j' : Int} (h : Asc m n i j p) (hi : i' ≤ i) (hj : j' ≤ j) : Asc m n i' j' p := by
  cases p with
  | nil => exact ⟨by have := h.1; omega, by have := h.2; omega⟩
  | cons x r => exact ⟨by have := h.1; omega, by have := h.2.1; omega, h.2.2⟩

theorem walkGo_asc (a b : List Int) : ∀ (p q : Int), Asc (p + a.length) (q + b.length) p q (walkGo p q a b) := by
  induction a generalizing b with
  | nil => intro p q; rw [walkGo_nil_left]; simp only [Asc, List.length_nil]; omega
  | cons x a iha =>
    induction b with
    | nil => intro p q; rw [walkGo_nil_right]; simp only [Asc, List.length_nil]; omega
    | cons y b ihb =>
      intro p q
      rw [walkGo]
      split
      · have := iha b (p + 1) (q + 1)
        refine ⟨Int.le_refl _, Int.le_refl _, ?_⟩
        simp only [List.length_cons]
        rwa [show p + ((a.length + 1 : Nat) : Int) = p + 1 + a.length by omega, show q + ((b.length + 1 : Nat) : Int) = q + 1 + b.length by omega]
      · split
        · have := (iha (y :: b) (p + 1) q).weaken (i' := p) (j' := q) (by omega) (Int.le_refl _)
          rwa [show p + ((x :: a).length : Int) = p + 1 + a.length by simp; omega]
        · have := (ihb p (q + 1)).weaken (i' := p) (j' := q) (Int.le_refl _) (by omega)
          rwa [show q + ((y :: b).length : Int) = q + 1 + b.length by simp; omega]

theorem Asc.made {m n : Int} : ∀ {p : List Span} {i j : Int}, Asc m n i j p → ∀ c ∈ madeGo i j p m n, i ≤ c.Old ∧ j ≤ c.New ∧ 0 ≤ c.OldLen ∧ 0 ≤ c.NewLen ∧ c.Old + c.OldLen ≤ m ∧ c.New + c.NewLen ≤ n
  | [], i, j, h, c, hc => by
    unfold madeGo at hc
    split at hc
    · simp only [List.mem_singleton] at hc; subst hc
      have := h.1; have := h.2
      simp only; omega
    · cases hc
  | x :: r, i, j, h, c, hc => by
    unfold madeGo at hc
    obtain ⟨h1, h2, h3⟩ := h
    have h4 := h3.le
    rcases List.mem_append.1 hc with hc | hc
    · split at hc
      · simp only [List.mem_singleton] at hc; subst hc
        simp only; omega
      · cases hc
    · have := Asc.made h3 c hc; omega

theorem matchedGo_head (i j m : Int) (l : List Change) (h : ∀ c ∈ l, i + 1 ≤ c.Old) (hm : l = [] → i + 1 ≤ m) : matchedGo i j l m = ⟨i, j⟩ :: matchedGo (i + 1) (j + 1) l m := by
  cases l with
  | nil =>
    have := hm rfl
    rw [matchedGo, matchedGo, show (m - i).toNat = (m - (i + 1)).toNat + 1 by omega, spanRun_succ]
  | cons c r =>
    have := h c (List.mem_cons_self ..)
    rw [matchedGo, matchedGo, show (c.Old - i).toNat = (c.Old - (i + 1)).toNat + 1 by omega, spanRun_succ]
    rw [show max (i + 1) c.Old = max i c.Old by omega, show (j + 1 + ((c.Old - (i + 1)).toNat : Int)) = j + (((c.Old - (i + 1)).toNat + 1 : Nat) : Int) by omega]
    rfl

/-- the script of good pairs has these partners -/
theorem matched_made {m n : Int} : ∀ {p : List Span} {i j : Int}, Asc m n i j p → matchedGo i j (madeGo i j p m n) m = p
  | [], i, j, h => by
    have h1 := h.1; have h2 := h.2
    unfold madeGo
    split
    · rw [matchedGo, matchedGo, show (i - i).toNat = 0 by omega, show (m - (max i i + (m - i))).toNat = 0 by omega]; rfl
    · rw [matchedGo, show (m - i).toNat = 0 by omega]; rfl
  | x :: r, i, j, h => by
    obtain ⟨h1, h2, h3⟩ := h
    have ih := matched_made h3
    have hm := h3.le
    have hd := matchedGo_head x.From x.To m (madeGo (x.From + 1) (x.To + 1) r m n) (fun c hc => (h3.made c hc).1) (fun _ => hm.1)
    rw [ih] at hd
    unfold madeGo
    split
    · rw [List.singleton_append, matchedGo, show (i - i).toNat = 0 by omega, show max i i + (x.From - i) = x.From by omega, show j + ((0 : Nat) : Int) + (x.To - j) = x.To by omega, hd]; rfl
    · have e1 : i = x.From := by omega
      have e2 : j = x.To := by omega
      rw [List.nil_append, e1, e2, hd]

theorem matched_walk (a b : List Int) : matchedOf (walkOf a b) a.length = walkGo 0 0 a b := by
  have := walkGo_asc a b 0 0
  rw [Int.zero_add, Int.zero_add] at this
  exact matched_made this

theorem walkOf_bound (a b : List Int) : ∀ c ∈ walkOf a b, 0 ≤ c.Old ∧ 0 ≤ c.New ∧ 0 ≤ c.OldLen ∧ 0 ≤ c.NewLen ∧ c.Old + c.OldLen ≤ a.length ∧ c.New + c.NewLen ≤ b.length := by
  have := walkGo_asc a b 0 0
  rw [Int.zero_add, Int.zero_add] at this
  exact this.made

/-- the bit of a parent, as the machine makes it -/
def bitOf (p : Int) : Int := IntKind.u32.wrap (1 * 2 ^ (min (IntKind.u64.wrap p).toNat IntKind.u32.bits))
def orBit (a b : Int) : Int := IntKind.u32.wrap ((BitVec.ofInt IntKind.u32.bits a ||| BitVec.ofInt IntKind.u32.bits b).toNat : Int)

/-- a merged list and the list of one parent more -/
def joinGo (l : List Merged) (list : List Int) (bit : Int) (i j : Nat) : List Span → List Merged
  | [] => (l.drop i).take (l.length - i) ++ ((list.drop j).take (list.length - j)).map fun v => ⟨v, bit⟩
  | x :: r => (l.drop i).take (x.From.toNat - i) ++ (((list.drop j).take (x.To.toNat - j)).map fun v => ⟨v, bit⟩) ++ ((l[x.From.toNat]?.map fun y => (⟨y.Line, orBit y.Parents bit⟩ : Merged)).toList ++ joinGo l list bit (x.From.toNat + 1) (x.To.toNat + 1) r)
def joinedOf (l : List Merged) (list : List Int) (p : Int) : List Merged := joinGo l list (bitOf p) 0 0 (walkGo 0 0 (linesM l) list)

theorem take_drop_snoc {α : Type} (l : List α) (i t : Nat) (h : i + t < l.length) : (l.drop i).take (t + 1) = (l.drop i).take t ++ [l[i + t]] := by
  rw [List.take_add_one, List.getElem?_drop, List.getElem?_eq_getElem h]; rfl

theorem joinGo_length (l : List Merged) (list : List Int) (bit : Int) : ∀ (p : List Span) (i j : Nat), (joinGo l list bit i j p).length ≤ l.length * (p.length + 1) + list.length * (p.length + 1) + p.length
  | [], i, j => by simp [joinGo]; omega
  | x :: r, i, j => by
    have := joinGo_length l list bit r (x.From.toNat + 1) (x.To.toNat + 1)
    have h1 : ((l.drop i).take (x.From.toNat - i)).length ≤ l.length := by simp; omega
    have h2 : ((list.drop j).take (x.To.toNat - j)).length ≤ list.length := by simp; omega
    have h3 : ((l[x.From.toNat]?.map fun y => (⟨y.Line, orBit y.Parents bit⟩ : Merged)).toList).length ≤ 1 := by cases l[x.From.toNat]? <;> simp
    simp only [joinGo, List.length_append, List.length_map, List.length_cons, Nat.mul_add, Nat.mul_one] at *
    omega
end Go.AL
