/- Plain facts about data; no project text. -/
import Derived.Test.YtbedalhmlcflfaaGreatDoorD
import Derived.Lib.Strings
import Derived.Lib.Bytealg
import Derived.Lib.Join
import Derived.Lib.ItoaNum
/- What the functions of the texts compute, as plain functions of Lean, and laws about them. No project text. -/
namespace Go.AL
open Go

theorem u8_lf (c : UInt8) : ((c.toNat : Int) = 10) ↔ c = 10 := by
  constructor
  · intro h
    have : c.toNat = 10 := by omega
    exact UInt8.toNat_inj.1 (by simpa using this)
  · rintro rfl; rfl

/-- the lines of a blob; cur: what has been read of the line -/
def linesAux (cur : Str) : Str → List Str
  | [] => if cur = [] then [] else [cur]
  | c :: r => if c = 10 then (cur ++ [c]) :: linesAux [] r else linesAux (cur ++ [c]) r
def linesOf (b : Str) : List Str := linesAux [] b

theorem linesAux_length (cur : Str) (s : Str) : (linesAux cur s).length ≤ s.length + 1 := by
  induction s generalizing cur with
  | nil => unfold linesAux; split <;> simp
  | cons c r ih => unfold linesAux; split <;> simp <;> (have := ih []; have := ih (cur ++ [c]); omega)

theorem linesAux_nil_length (s : Str) : (linesAux [] s).length ≤ s.length := by
  have key : ∀ (s cur : Str), cur ≠ [] → (linesAux cur s).length ≤ s.length + 1 := fun s cur _ => linesAux_length cur s
  induction s with
  | nil => simp [linesAux]
  | cons c r ih => unfold linesAux; split <;> simp <;> (have := linesAux_length ([] ++ [c]) r; simp at this; omega)

theorem linesOf_length (b : Str) : (linesOf b).length ≤ b.length := linesAux_nil_length b

theorem linesAux_step (cur r : Str) (c : UInt8) : linesAux cur (c :: r) = if c = 10 then (cur ++ [c]) :: linesAux [] r else linesAux (cur ++ [c]) r := rfl
theorem linesAux_end (cur : Str) (h : cur ≠ []) : linesAux cur [] = [cur] := by simp [linesAux, h]

theorem or_pick {p q : Prop} [Decidable p] [Decidable q] : (if decide p = true then true else decide q) = decide (p ∨ q) := by by_cases p <;> simp [*]
theorem and_pick {p q : Prop} [Decidable p] [Decidable q] : (if decide p = true then decide q else false) = decide (p ∧ q) := by by_cases p <;> simp [*]
theorem flatten_take_succ {α : Type} (l : List (List α)) (i : Nat) (h : i < l.length) : (l.take (i + 1)).flatten = (l.take i).flatten ++ l[i] := by
  rw [List.take_add_one, List.getElem?_eq_getElem h, Option.toList_some, List.flatten_append]; simp
theorem flatten_take_le {α : Type} (l : List (List α)) (i : Nat) : (l.take i).flatten.length ≤ l.flatten.length := by
  conv => rhs; rw [← List.take_append_drop i l, List.flatten_append, List.length_append]
  omega

theorem toNat_succ (i : Nat) : ((i : Int) + 1).toNat = i + 1 := by omega

theorem part_snoc {α : Type} (b : List α) (f i : Nat) (hf : f ≤ i) (hi : i < b.length) : (b.drop f).take (i - f) ++ [b[i]] = (b.drop f).take (i + 1 - f) := by
  rw [show i + 1 - f = (i - f) + 1 by omega, List.take_add_one, List.getElem?_drop, show f + (i - f) = i by omega, List.getElem?_eq_getElem hi]
  rfl

def ended (s : Str) : Bool := s.getLast? == some 10

theorem ended_eq (s : Str) : ended s = (if decide (s ≠ []) = true then decide (((s.getLastD 0).toNat : Int) = 10) else false) := by
  unfold ended
  by_cases h : s = []
  · simp [h]
  · rw [List.getLast?_eq_some_getLast h, List.getLastD_eq_getLast?, List.getLast?_eq_some_getLast h]
    simp only [ne_eq, h, not_false_eq_true, decide_true, if_true, Option.getD_some, u8_lf]
    rfl

/-- the place of a string in a list; -1 -/
def placeOf : List Str → Str → Int → Int
  | [], _, _ => -1
  | x :: r, s, i => if x = s then i else placeOf r s (i + 1)

theorem placeOf_drop (l : List Str) (s : Str) (k : Nat) (h : k < l.length) : placeOf (l.drop k) s k = if l[k] = s then (k : Int) else placeOf (l.drop (k + 1)) s ((k : Int) + 1) := by
  rw [List.drop_eq_getElem_cons h]
  simp [placeOf]

theorem placeOf_neg (l : List Str) (s : Str) : ∀ (k : Int), 0 ≤ k → ((placeOf l s k < 0) ↔ s ∉ l) := by
  induction l with
  | nil => intro k _; simp [placeOf]
  | cons x r ih =>
    intro k hk
    unfold placeOf
    by_cases h : x = s
    · simp [h]; omega
    · have := ih (k + 1) (by omega)
      simp [h, this, Ne.symm h]

/-- a line: no line feed but at its end, not empty -/
def lineOk (s : Str) : Bool := s.dropLast.all (· ≠ 10) && s != []

/-- a list of lines -/
def listOk : List Str → Bool
  | [] => true
  | s :: r => lineOk s && (r.isEmpty || ended s) && listOk r
def checkOf (b : Str) : Int := if b.length > 1048576 ∨ (linesOf b).length > 4096 then 1 else 0
def joinOf (l : List Str) : Str × Int := if listOk l = false then ([], 2) else if l.flatten.length > 1048576 ∨ l.length > 4096 then ([], 1) else (l.flatten, 0)
def namesStep (out : List Str) (s : Str) : List Str := if s ∈ out then out else out ++ [s]
/-- the names of some files: each line once, in the order in which they come -/
def namesOf (files : List (List Str)) : List Str := files.flatten.foldl namesStep []
def idsOf (names : List Str) (file : List Str) : List Int := file.map (fun s => placeOf names s 0)

theorem namesStep_length (out : List Str) (s : Str) : (namesStep out s).length ≤ out.length + 1 := by unfold namesStep; split <;> simp
theorem foldl_names_length (l out : List Str) : (l.foldl namesStep out).length ≤ out.length + l.length := by
  induction l generalizing out with
  | nil => simp
  | cons s r ih => have h1 := ih (namesStep out s); have h2 := namesStep_length out s; simp only [List.foldl_cons, List.length_cons]; omega
theorem namesOf_length (fs : List (List Str)) : (namesOf fs).length ≤ fs.flatten.length := by have := foldl_names_length fs.flatten []; simpa [namesOf] using this
end Go.AL

/- What the functions of the scripts compute, as plain functions of Lean, and laws about them. No project text. -/
namespace Go.AL
open Go

/-- the script of good pairs -/
def madeGo (i j : Int) : List Span → Int → Int → List Change
  | [], m, n => if m > i ∨ n > j then [⟨i, m - i, j, n - j⟩] else []
  | x :: r, m, n => (if x.From > i ∨ x.To > j then [⟨i, x.From - i, j, x.To - j⟩] else []) ++ madeGo (x.From + 1) (x.To + 1) r m n
def madeOf (p : List Span) (m n : Int) : List Change := madeGo 0 0 p m n

theorem madeGo_length (p : List Span) (i j m n : Int) : (madeGo i j p m n).length ≤ p.length + 1 := by
  induction p generalizing i j with
  | nil => unfold madeGo; split <;> simp
  | cons x r ih => unfold madeGo; have := ih (x.From + 1) (x.To + 1); split <;> simp <;> omega

/-- n pairs from (i, j) on -/
def spanRun (i j : Int) (n : Nat) : List Span := (List.range n).map fun (t : Nat) => ⟨i + (t : Int), j + (t : Int)⟩
theorem spanRun_length (i j : Int) (n : Nat) : (spanRun i j n).length = n := by simp [spanRun]
theorem spanRun_succ (i j : Int) (n : Nat) : spanRun i j (n + 1) = ⟨i, j⟩ :: spanRun (i + 1) (j + 1) n := by
  unfold spanRun
  rw [List.range_succ_eq_map, List.map_cons, List.map_map]
  congr 1
  · simp
  · refine List.map_congr_left fun t _ => ?_
    simp only [Function.comp, Span.mk.injEq]
    omega

/-- the partners of a script -/
def matchedGo (i j : Int) : List Change → Int → List Span
  | [], m => spanRun i j (m - i).toNat
  | c :: r, m => spanRun i j (c.Old - i).toNat ++ matchedGo (max i c.Old + c.OldLen) (j + (c.Old - i).toNat + c.NewLen) r m
def matchedOf (l : List Change) (m : Int) : List Span := matchedGo 0 0 l m

/-- the least number of lines to take away and to add -/
def dist : List Int → List Int → Nat
  | [], b => b.length
  | x :: a, [] => (x :: a).length
  | x :: a, y :: b => if x = y then dist a b else 1 + min (dist a (y :: b)) (dist (x :: a) b)

theorem dist_nil (a : List Int) : dist a [] = a.length := by cases a <;> simp [dist]
theorem dist_le (a b : List Int) : dist a b ≤ a.length + b.length := by
  induction a generalizing b with
  | nil => simp [dist]
  | cons x a iha =>
    induction b with
    | nil => simp [dist]
    | cons y b ihb =>
      unfold dist
      split
      · have := iha b; simp; omega
      · have := iha (y :: b); have := ihb; simp only [List.length_cons] at *; omega

/-- the pairs of the shortest script -/
def walkGo (i j : Int) : List Int → List Int → List Span
  | [], _ => []
  | _ :: _, [] => []
  | x :: a, y :: b => if x = y then ⟨i, j⟩ :: walkGo (i + 1) (j + 1) a b else if dist a (y :: b) + 1 = dist (x :: a) (y :: b) then walkGo (i + 1) j a (y :: b) else walkGo i (j + 1) (x :: a) b
def walkOf (a b : List Int) : List Change := madeOf (walkGo 0 0 a b) a.length b.length

theorem dist_drop (a b : List Int) (i j : Nat) (hi : i < a.length) (hj : j < b.length) :
    dist (a.drop i) (b.drop j) = if a[i] = b[j] then dist (a.drop (i + 1)) (b.drop (j + 1)) else 1 + min (dist (a.drop (i + 1)) (b.drop j)) (dist (a.drop i) (b.drop (j + 1))) := by
  rw [List.drop_eq_getElem_cons hi, List.drop_eq_getElem_cons hj]
  conv => lhs; rw [dist]
theorem walkGo_drop (a b : List Int) (i j : Nat) (hi : i < a.length) (hj : j < b.length) (p q : Int) :
    walkGo p q (a.drop i) (b.drop j) = if a[i] = b[j] then ⟨p, q⟩ :: walkGo (p + 1) (q + 1) (a.drop (i + 1)) (b.drop (j + 1)) else
      if dist (a.drop (i + 1)) (b.drop j) + 1 = dist (a.drop i) (b.drop j) then walkGo (p + 1) q (a.drop (i + 1)) (b.drop j) else walkGo p (q + 1) (a.drop i) (b.drop (j + 1)) := by
  rw [List.drop_eq_getElem_cons hi, List.drop_eq_getElem_cons hj]
  conv => lhs; rw [walkGo]
theorem walkGo_nil_left (p q : Int) (b : List Int) : walkGo p q [] b = [] := by simp [walkGo]
theorem walkGo_nil_right (p q : Int) (a : List Int) : walkGo p q a [] = [] := by cases a <;> simp [walkGo]
theorem walkGo_length (p q : Int) (a b : List Int) : (walkGo p q a b).length ≤ a.length := by
  induction a generalizing p q b with
  | nil => simp [walkGo]
  | cons x a iha =>
    induction b generalizing p q with
    | nil => simp [walkGo]
    | cons y b ihb =>
      unfold walkGo
      split
      · have := iha (p + 1) (q + 1) b; simp; omega
      · split
        · have := iha (p + 1) q (y :: b); simp; omega
        · exact ihb p (q + 1)

universe u
/-- a list given by what stands at each place, with one place changed -/
theorem range_set {α : Type u} (n k : Nat) (f g : Nat → α) (v : α) (hv : k < n → g k = v) (h : ∀ q, q < n → q ≠ k → g q = f q) : ((List.range n).map f).set k v = (List.range n).map g := by
  refine List.ext_getElem (by simp) fun q h1 h2 => ?_
  have hq : q < n := by simpa using h2
  rw [List.getElem_set]
  by_cases he : k = q
  · subst he; simp [hv hq]
  · rw [if_neg he]; simp [h q hq (Ne.symm he)]
theorem range_get {α : Type u} (n k : Nat) (f : Nat → α) (h : k < n) : ((List.range n).map f)[k]? = some (f k) := by simp [h]

/-- row i of the table, its places below q still empty -/
def distRow (a b : List Int) (i q : Nat) : List Int := (List.range (b.length + 1)).map fun j => if q ≤ j then (dist (a.drop i) (b.drop j) : Int) else 0
/-- the table, its rows above i still empty -/
def distRows (a b : List Int) (i : Nat) : List (List Int) := (List.range (a.length + 1)).map fun r => if i ≤ r then distRow a b r 0 else []
def distTable (a b : List Int) : List (List Int) := distRows a b 0
theorem distRow_length (a b : List Int) (i q : Nat) : (distRow a b i q).length = b.length + 1 := by simp [distRow]
theorem distRows_length (a b : List Int) (i : Nat) : (distRows a b i).length = a.length + 1 := by simp [distRows]
theorem distRow_full (a b : List Int) (i : Nat) : List.replicate (b.length + 1) 0 = distRow a b i (b.length + 1) := by
  refine List.ext_getElem (by simp [distRow]) fun q h1 h2 => ?_
  have : ¬ (b.length + 1 ≤ q) := by simp at h1; omega
  simp [distRow, this]
theorem distRows_full (a b : List Int) : List.replicate (a.length + 1) [] = distRows a b (a.length + 1) := by
  refine List.ext_getElem (by simp [distRows]) fun q h1 h2 => ?_
  have : ¬ (a.length + 1 ≤ q) := by simp at h1; omega
  simp [distRows, this]
theorem distRow_set (a b : List Int) (i j : Nat) : (distRow a b i (j + 1)).set j (dist (a.drop i) (b.drop j) : Int) = distRow a b i j := by
  unfold distRow
  refine range_set _ _ _ _ _ (fun _ => by simp) fun q hq hne => ?_
  by_cases h : j ≤ q
  · rw [if_pos h, if_pos (by omega)]
  · rw [if_neg h, if_neg (by omega)]
theorem distRow_get (a b : List Int) (i q j : Nat) (h : q ≤ j) (hj : j ≤ b.length) : (distRow a b i q)[j]? = some (dist (a.drop i) (b.drop j) : Int) := by
  unfold distRow
  rw [range_get _ _ _ (by omega), if_pos h]
theorem distRows_set (a b : List Int) (i : Nat) : (distRows a b (i + 1)).set i (distRow a b i 0) = distRows a b i := by
  unfold distRows
  refine range_set _ _ _ _ _ (fun _ => by simp) fun q hq hne => ?_
  by_cases h : i ≤ q
  · rw [if_pos h, if_pos (by omega)]
  · rw [if_neg h, if_neg (by omega)]
theorem distRows_get (a b : List Int) (i r : Nat) (h : i ≤ r) (hr : r ≤ a.length) : (distRows a b i)[r]? = some (distRow a b r 0) := by
  unfold distRows
  rw [range_get _ _ _ (by omega), if_pos h]

def linesM (l : List Merged) : List Int := l.map (·.Line)

theorem matchedGo_length (l : List Change) (i j m : Int) (hi : 0 ≤ i) (B : Nat) (hm : m ≤ B) (hl : ∀ c ∈ l, c.Old ≤ B ∧ 0 ≤ c.OldLen) : ((matchedGo i j l m).length : Int) ≤ max 0 (B - i) := by
  induction l generalizing i j with
  | nil => simp only [matchedGo, spanRun_length]; omega
  | cons c r ih =>
    have hc := hl c (List.mem_cons_self ..)
    have := ih (max i c.Old + c.OldLen) (j + (c.Old - i).toNat + c.NewLen) (by omega) (fun d hd => hl d (List.mem_cons_of_mem _ hd))
    simp only [matchedGo, List.length_append, spanRun_length]
    omega

theorem spanRun_zero (i j : Int) : spanRun i j 0 = [] := rfl
theorem spanRun_snoc (i j : Int) (n : Nat) : spanRun i j (n + 1) = spanRun i j n ++ [⟨i + n, j + n⟩] := by simp [spanRun, List.range_succ]

/-- pairs that ascend from (i, j) on, within (m, n) -/
def Asc (m n : Int) : Int → Int → List Span → Prop
  | i, j, [] => i ≤ m ∧ j ≤ n
  | i, j, x :: r => i ≤ x.From ∧ j ≤ x.To ∧ Asc m n (x.From + 1) (x.To + 1) r

theorem Asc.le {m n : Int} : ∀ {p : List Span} {i j : Int}, Asc m n i j p → i ≤ m ∧ j ≤ n
  | [], i, j, h => h
  | x :: r, i, j, h => by have := Asc.le h.2.2; have := h.1; have := h.2.1; omega

theorem Asc.weaken {m n : Int} {p : List Span} {i j i' j' : Int} (h : Asc m n i j p) (hi : i' ≤ i) (hj : j' ≤ j) : Asc m n i' j' p := by
  cases p with
  | nil => exact ⟨by have := h.1; omega, by have := h.2; omega⟩
  | cons x r => exact ⟨by have := h.1; omega, by have := h.2.1; omega, h.2.2⟩

theorem walkGo_asc (a b : List Int) : ∀ (p q : Int), Asc (p + a.length) (q + b.length) p q (walkGo p q a b) := by
  induction a generalizing b with
  | nil => intro p q; rw [walkGo_nil_left]; simp only [Asc, List.length_nil]; omega
  | cons x a iha =>
    induction b with
    | nil => intro p q; rw [walkGo_nil_right]; simp only [Asc, List.length_nil]; omega
    | cons y b ihb =>
      intro p q
      rw [walkGo]
      split
      · have := iha b (p + 1) (q + 1)
        refine ⟨Int.le_refl _, Int.le_refl _, ?_⟩
        simp only [List.length_cons]
        rwa [show p + ((a.length + 1 : Nat) : Int) = p + 1 + a.length by omega, show q + ((b.length + 1 : Nat) : Int) = q + 1 + b.length by omega]
      · split
        · have := (iha (y :: b) (p + 1) q).weaken (i' := p) (j' := q) (by omega) (Int.le_refl _)
          rwa [show p + ((x :: a).length : Int) = p + 1 + a.length by simp; omega]
        · have := (ihb p (q + 1)).weaken (i' := p) (j' := q) (Int.le_refl _) (by omega)
          rwa [show q + ((y :: b).length : Int) = q + 1 + b.length by simp; omega]

theorem Asc.made {m n : Int} : ∀ {p : List Span} {i j : Int}, Asc m n i j p → ∀ c ∈ madeGo i j p m n, i ≤ c.Old ∧ j ≤ c.New ∧ 0 ≤ c.OldLen ∧ 0 ≤ c.NewLen ∧ c.Old + c.OldLen ≤ m ∧ c.New + c.NewLen ≤ n
  | [], i, j, h, c, hc => by
    unfold madeGo at hc
    split at hc
    · simp only [List.mem_singleton] at hc; subst hc
      have := h.1; have := h.2
      simp only; omega
    · cases hc
  | x :: r, i, j, h, c, hc => by
    unfold madeGo at hc
    obtain ⟨h1, h2, h3⟩ := h
    have h4 := h3.le
    rcases List.mem_append.1 hc with hc | hc
    · split at hc
      · simp only [List.mem_singleton] at hc; subst hc
        simp only; omega
      · cases hc
    · have := Asc.made h3 c hc; omega

theorem matchedGo_head (i j m : Int) (l : List Change) (h : ∀ c ∈ l, i + 1 ≤ c.Old) (hm : l = [] → i + 1 ≤ m) : matchedGo i j l m = ⟨i, j⟩ :: matchedGo (i + 1) (j + 1) l m := by
  cases l with
  | nil =>
    have := hm rfl
    rw [matchedGo, matchedGo, show (m - i).toNat = (m - (i + 1)).toNat + 1 by omega, spanRun_succ]
  | cons c r =>
    have := h c (List.mem_cons_self ..)
    rw [matchedGo, matchedGo, show (c.Old - i).toNat = (c.Old - (i + 1)).toNat + 1 by omega, spanRun_succ]
    rw [show max (i + 1) c.Old = max i c.Old by omega, show (j + 1 + ((c.Old - (i + 1)).toNat : Int)) = j + (((c.Old - (i + 1)).toNat + 1 : Nat) : Int) by omega]
    rfl

/-- the script of good pairs has these partners -/
theorem matched_made {m n : Int} : ∀ {p : List Span} {i j : Int}, Asc m n i j p → matchedGo i j (madeGo i j p m n) m = p
  | [], i, j, h => by
    have h1 := h.1; have h2 := h.2
    unfold madeGo
    split
    · rw [matchedGo, matchedGo, show (i - i).toNat = 0 by omega, show (m - (max i i + (m - i))).toNat = 0 by omega]; rfl
    · rw [matchedGo, show (m - i).toNat = 0 by omega]; rfl
  | x :: r, i, j, h => by
    obtain ⟨h1, h2, h3⟩ := h
    have ih := matched_made h3
    have hm := h3.le
    have hd := matchedGo_head x.From x.To m (madeGo (x.From + 1) (x.To + 1) r m n) (fun c hc => (h3.made c hc).1) (fun _ => hm.1)
    rw [ih] at hd
    unfold madeGo
    split
    · rw [List.singleton_append, matchedGo, show (i - i).toNat = 0 by omega, show max i i + (x.From - i) = x.From by omega, show j + ((0 : Nat) : Int) + (x.To - j) = x.To by omega, hd]; rfl
    · have e1 : i = x.From := by omega
      have e2 : j = x.To := by omega
      rw [List.nil_append, e1, e2, hd]

theorem matched_walk (a b : List Int) : matchedOf (walkOf a b) a.length = walkGo 0 0 a b := by
  have := walkGo_asc a b 0 0
  rw [Int.zero_add, Int.zero_add] at this
  exact matched_made this

theorem walkOf_bound (a b : List Int) : ∀ c ∈ walkOf a b, 0 ≤ c.Old ∧ 0 ≤ c.New ∧ 0 ≤ c.OldLen ∧ 0 ≤ c.NewLen ∧ c.Old + c.OldLen ≤ a.length ∧ c.New + c.NewLen ≤ b.length := by
  have := walkGo_asc a b 0 0
  rw [Int.zero_add, Int.zero_add] at this
  exact this.made

/-- the bit of a parent, as the machine makes it -/
def bitOf (p : Int) : Int := IntKind.u32.wrap (1 * 2 ^ (min (IntKind.u64.wrap p).toNat IntKind.u32.bits))
def orBit (a b : Int) : Int := IntKind.u32.wrap ((BitVec.ofInt IntKind.u32.bits a ||| BitVec.ofInt IntKind.u32.bits b).toNat : Int)

/-- a merged list and the list of one parent more -/
def joinGo (l : List Merged) (list : List Int) (bit : Int) (i j : Nat) : List Span → List Merged
  | [] => (l.drop i).take (l.length - i) ++ ((list.drop j).take (list.length - j)).map fun v => ⟨v, bit⟩
  | x :: r => (l.drop i).take (x.From.toNat - i) ++ (((list.drop j).take (x.To.toNat - j)).map fun v => ⟨v, bit⟩) ++ ((l[x.From.toNat]?.map fun y => (⟨y.Line, orBit y.Parents bit⟩ : Merged)).toList ++ joinGo l list bit (x.From.toNat + 1) (x.To.toNat + 1) r)
def joinedOf (l : List Merged) (list : List Int) (p : Int) : List Merged := joinGo l list (bitOf p) 0 0 (walkGo 0 0 (linesM l) list)

theorem take_drop_snoc {α : Type} (l : List α) (i t : Nat) (h : i + t < l.length) : (l.drop i).take (t + 1) = (l.drop i).take t ++ [l[i + t]] := by
  rw [List.take_add_one, List.getElem?_drop, List.getElem?_eq_getElem h]; rfl

theorem joinGo_length (l : List Merged) (list : List Int) (bit : Int) : ∀ (p : List Span) (i j : Nat), (joinGo l list bit i j p).length ≤ l.length * (p.length + 1) + list.length * (p.length + 1) + p.length
  | [], i, j => by simp [joinGo]; omega
  | x :: r, i, j => by
    have := joinGo_length l list bit r (x.From.toNat + 1) (x.To.toNat + 1)
    have h1 : ((l.drop i).take (x.From.toNat - i)).length ≤ l.length := by simp; omega
    have h2 : ((list.drop j).take (x.To.toNat - j)).length ≤ list.length := by simp; omega
    have h3 : ((l[x.From.toNat]?.map fun y => (⟨y.Line, orBit y.Parents bit⟩ : Merged)).toList).length ≤ 1 := by cases l[x.From.toNat]? <;> simp
    simp only [joinGo, List.length_append, List.length_map, List.length_cons, Nat.mul_add, Nat.mul_one] at *
    omega
end Go.AL

/- What the functions of the tables compute, as plain functions of Lean, and laws about them. No project text. -/
namespace Go.AL
open Go

def bitAt (m : Int) (c : Nat) : Bool := m / 2 ^ c % 2 == 1
/-- is a row to be seen in a column? -/
def visB (r : Row) (c : Int) : Bool := if c = -1 then !r.Lost else if c < -1 ∨ 32 ≤ c then false else bitAt r.Marks c.toNat == r.Lost
def colOf (rows : List Row) (c : Int) : List Str := (rows.filter (visB · c)).map (·.Text)
def markOk (n : Nat) (r : Row) : Bool := r.Marks / 2 ^ n == 0 && !(r.Lost && r.Marks == 0)
def marksOk (rows : List Row) (n : Nat) : Bool := rows.all (markOk n)
def textsOk (rows : List Row) (n : Nat) : Bool := rows.all (fun r => lineOk r.Text) && (List.range (n + 1)).all fun k => listOk (colOf rows ((k : Int) - 1))
def check16 (t : Table) : Int := if t.Parents < 1 ∨ 32 < t.Parents then 2 else if marksOk t.Rows t.Parents.toNat = false then 180 else if textsOk t.Rows t.Parents.toNat = false then 4 else 0
def column20 (t : Table) (c : Int) : Str × Int := if check16 t ≠ 0 then ([], check16 t) else if c < -1 ∨ t.Parents ≤ c then ([], 3) else joinOf (colOf t.Rows c)

theorem marksOk_cons (r : Row) (rs : List Row) (n : Nat) : marksOk (r :: rs) n = (markOk n r && marksOk rs n) := rfl
def rowsIn (rows : List Row) : Prop := ∀ r ∈ rows, 0 ≤ r.Marks ∧ r.Marks < 4294967296
def textsLen (rows : List Row) : Nat := (rows.map (·.Text)).flatten.length

theorem colOf_len (rows : List Row) (c : Int) : (colOf rows c).length ≤ rows.length := by unfold colOf; rw [List.length_map]; exact List.length_filter_le _ _
theorem colOf_flat (rows : List Row) (c : Int) : (colOf rows c).flatten.length ≤ textsLen rows := by
  unfold colOf textsLen
  induction rows with
  | nil => simp
  | cons r rs ih =>
    rw [List.filter_cons]
    split
    · simp only [List.map_cons, List.flatten_cons, List.length_append]; omega
    · simp only [List.map_cons, List.flatten_cons, List.length_append]; omega
theorem colOf_mem (rows : List Row) (c : Int) : ∀ s ∈ colOf rows c, ∃ r ∈ rows, r.Text = s := by
  intro s hs
  unfold colOf at hs
  obtain ⟨r, hr, rfl⟩ := List.mem_map.1 hs
  exact ⟨r, (List.mem_filter.1 hr).1, rfl⟩
theorem text_len (rows : List Row) : ∀ r ∈ rows, r.Text.length ≤ textsLen rows := by
  intro r hr
  unfold textsLen
  exact (List.sublist_flatten_of_mem (List.mem_map_of_mem hr)).length_le

theorem and1_u32 (x : Int) (h : 0 ≤ x ∧ x < 4294967296) : IntKind.u32.wrap ((BitVec.ofInt IntKind.u32.bits x &&& BitVec.ofInt IntKind.u32.bits 1).toNat : Int) = x % 2 := by
  have h1 : (BitVec.ofInt IntKind.u32.bits x &&& BitVec.ofInt IntKind.u32.bits 1).toNat = x.toNat % 2 := by
    rw [BitVec.toNat_and, BitVec.toNat_ofInt, BitVec.toNat_ofInt]
    have e1 : (x % ((2 ^ IntKind.u32.bits : Nat) : Int)).toNat = x.toNat := by
      rw [show ((2 ^ IntKind.u32.bits : Nat) : Int) = 4294967296 by rfl]; omega
    have e2 : ((1 : Int) % ((2 ^ IntKind.u32.bits : Nat) : Int)).toNat = 1 := by rfl
    rw [e1, e2, Nat.and_one_is_mod]
  rw [h1]
  have h2 : IntKind.u32.wrap ((x.toNat % 2 : Nat) : Int) = ((x.toNat % 2 : Nat) : Int) := by
    simp [IntKind.wrap, IntKind.signed, IntKind.bits]; omega
  rw [h2]; omega

theorem u64_id {n : Int} (h : 0 ≤ n ∧ n < 18446744073709551616) : IntKind.u64.wrap n = n := by simp [IntKind.wrap, IntKind.signed, IntKind.bits]; omega
theorem shr32 (m c : Int) (hc : 0 ≤ c ∧ c ≤ 32) : m.fdiv (2 ^ (min c.toNat IntKind.u32.bits)) = m / 2 ^ c.toNat := by
  rw [show min c.toNat IntKind.u32.bits = c.toNat from Nat.min_eq_left (by show c.toNat ≤ 32; omega), Int.fdiv_eq_ediv_of_nonneg _ (Int.pow_nonneg (by decide))]
theorem shr64' (m c : Int) (hc : 0 ≤ c ∧ c ≤ 64) : m.fdiv (2 ^ (min c.toNat IntKind.u64.bits)) = m / 2 ^ c.toNat := by
  rw [show min c.toNat IntKind.u64.bits = c.toNat from Nat.min_eq_left (by show c.toNat ≤ 64; omega), Int.fdiv_eq_ediv_of_nonneg _ (Int.pow_nonneg (by decide))]
theorem shr_eq (m c : Int) (b : Nat) (hc : 0 ≤ c ∧ c ≤ b) : m.fdiv (2 ^ (min c.toNat b)) = m / 2 ^ c.toNat := by
  rw [show min c.toNat b = c.toNat by omega, Int.fdiv_eq_ediv_of_nonneg _ (Int.pow_nonneg (by decide))]
end Go.AL

/- What Make computes, as plain functions of Lean, and laws about it. No project text. -/
namespace Go.AL
open Go

theorem u32_in (n : Int) : 0 ≤ IntKind.u32.wrap n ∧ IntKind.u32.wrap n < 4294967296 := by simp [IntKind.wrap, IntKind.signed, IntKind.bits]; omega
def clrBit (a b : Int) : Int := IntKind.u32.wrap ((BitVec.ofInt IntKind.u32.bits a &&& ~~~BitVec.ofInt IntKind.u32.bits b).toNat : Int)

/-! ### the lists of the lost lines -/

/-- the lists of the parents, merged one after another -/
def coalesceFrom (acc : List Merged) (p : Nat) : List (List Int) → List Merged × Int
  | [] => (acc, 0)
  | x :: r => if 4096 < acc.length ∨ 4096 < x.length then ([], 1) else coalesceFrom (joinedOf acc x p) (p + 1) r
def coalesceOf (lists : List (List Int)) : List Merged × Int := if 32 < lists.length then ([], 1) else coalesceFrom [] 0 lists

theorem joinGo_size (l : List Merged) (list : List Int) (bit : Int) : ∀ (ps : List Span) (i j : Nat), i ≤ l.length → j ≤ list.length → Asc l.length list.length i j ps → (joinGo l list bit i j ps).length ≤ (l.length - i) + (list.length - j)
  | [], i, j, hi, hj, _ => by simp [joinGo]
  | x :: r, i, j, hi, hj, ha => by
    obtain ⟨h1, h2, h3⟩ := ha
    have h4 := h3.le
    have e1 : ((x.From.toNat + 1 : Nat) : Int) = x.From + 1 := by omega
    have e2 : ((x.To.toNat + 1 : Nat) : Int) = x.To + 1 := by omega
    have ih := joinGo_size l list bit r (x.From.toNat + 1) (x.To.toNat + 1) (by omega) (by omega) (by rw [e1, e2]; exact h3)
    have h5 : ((l[x.From.toNat]?.map fun y => (⟨y.Line, orBit y.Parents bit⟩ : Merged)).toList).length ≤ 1 := by cases l[x.From.toNat]? <;> simp
    simp only [joinGo, List.length_append, List.length_map, List.length_take, List.length_drop]
    omega

theorem joined_size (l : List Merged) (list : List Int) (p : Int) : (joinedOf l list p).length ≤ l.length + list.length := by
  have hasc := walkGo_asc (linesM l) list 0 0
  rw [Int.zero_add, Int.zero_add, show (linesM l).length = l.length by simp [linesM]] at hasc
  have := joinGo_size l list (bitOf p) (walkGo 0 0 (linesM l) list) 0 0 (Nat.zero_le _) (Nat.zero_le _) hasc
  simpa [joinedOf] using this

theorem mem_take_drop {α : Type} {l : List α} {i n : Nat} {x : α} (h : x ∈ (l.drop i).take n) : x ∈ l := List.mem_of_mem_drop (List.mem_of_mem_take h)

theorem joinGo_mem (l : List Merged) (list : List Int) (bit : Int) (hb : 0 ≤ bit ∧ bit < 4294967296) (hl : ∀ m ∈ l, 0 ≤ m.Parents ∧ m.Parents < 4294967296) (Q : Int → Prop) (hq1 : ∀ m ∈ l, Q m.Line) (hq2 : ∀ v ∈ list, Q v) :
    ∀ (ps : List Span) (i j : Nat), ∀ m ∈ joinGo l list bit i j ps, (0 ≤ m.Parents ∧ m.Parents < 4294967296) ∧ Q m.Line
  | [], i, j, m, hm => by
    rcases List.mem_append.1 hm with h | h
    · have := mem_take_drop h; exact ⟨hl _ this, hq1 _ this⟩
    · obtain ⟨v, hv, rfl⟩ := List.mem_map.1 h
      exact ⟨hb, hq2 _ (mem_take_drop hv)⟩
  | x :: r, i, j, m, hm => by
    unfold joinGo at hm
    rcases List.mem_append.1 hm with h | h
    · rcases List.mem_append.1 h with h | h
      · have := mem_take_drop h; exact ⟨hl _ this, hq1 _ this⟩
      · obtain ⟨v, hv, rfl⟩ := List.mem_map.1 h
        exact ⟨hb, hq2 _ (mem_take_drop hv)⟩
    · rcases List.mem_append.1 h with h | h
      · cases hx : l[x.From.toNat]? with
        | none => simp [hx] at h
        | some y =>
          simp [hx] at h
          subst h
          exact ⟨u32_in _, hq1 y (List.mem_of_getElem? hx)⟩
      · exact joinGo_mem l list bit hb hl Q hq1 hq2 r _ _ m h

theorem coalesceFrom_spec (Q : Int → Prop) (B : Nat) : ∀ (ls : List (List Int)) (acc : List Merged) (p : Nat), (∀ x ∈ ls, x.length ≤ B ∧ ∀ v ∈ x, Q v) → (∀ m ∈ acc, (0 ≤ m.Parents ∧ m.Parents < 4294967296) ∧ Q m.Line) →
    (coalesceFrom acc p ls).1.length ≤ acc.length + ls.length * B ∧ ∀ m ∈ (coalesceFrom acc p ls).1, (0 ≤ m.Parents ∧ m.Parents < 4294967296) ∧ Q m.Line
  | [], acc, p, _, ha => by simp only [coalesceFrom]; exact ⟨by simp, ha⟩
  | x :: r, acc, p, hl, ha => by
    unfold coalesceFrom
    split
    · exact ⟨by simp, by simp⟩
    · have hx := hl x (List.mem_cons_self ..)
      have hj := joined_size acc x p
      have hm := joinGo_mem acc x (bitOf p) (u32_in _) (fun m hm => (ha m hm).1) Q (fun m hm => (ha m hm).2) hx.2 (walkGo 0 0 (linesM acc) x) 0 0
      have ih := coalesceFrom_spec Q B r (joinedOf acc x p) (p + 1) (fun y hy => hl y (List.mem_cons_of_mem _ hy)) hm
      refine ⟨?_, ih.2⟩
      have h1 := ih.1
      have h2 := hx.1
      simp only [List.length_cons, Nat.add_mul, Nat.one_mul]
      omega

theorem coalesce_spec (Q : Int → Prop) (B : Nat) (ls : List (List Int)) (h : ∀ x ∈ ls, x.length ≤ B ∧ ∀ v ∈ x, Q v) : (coalesceOf ls).1.length ≤ ls.length * B ∧ ∀ m ∈ (coalesceOf ls).1, (0 ≤ m.Parents ∧ m.Parents < 4294967296) ∧ Q m.Line := by
  unfold coalesceOf
  split
  · exact ⟨by simp, by simp⟩
  · have := coalesceFrom_spec Q B ls [] 0 h (by simp)
    simpa using this

/-! ### the table -/

/-- one pair clears its bit -/
def clearOne (p : Int) (ms : List Int) (x : Span) : List Int := ms.set x.To.toNat (clrBit (ms.getD x.To.toNat 0) (bitOf p))
/-- one change of parent p puts its lost lines into a gap -/
def gapPut (p : Nat) (file : List Int) (g : Nat → List (List Int)) (c : Change) : Nat → List (List Int) := fun k =>
  if k = c.New.toNat then (g k).set p ((file.drop c.Old.toNat).take ((c.Old + c.OldLen).toNat - c.Old.toNat)) else g k
abbrev Loom := List Int × (Nat → List (List Int))
def parentStep (ids : List (List Int)) (s : Loom) (p : Nat) : Loom :=
  let file := ids.getD (p + 1) []
  let sc := walkOf file (ids.getD 0 [])
  ((matchedOf sc file.length).foldl (clearOne p) (s.1.map (orBit · (bitOf p))), sc.foldl (gapPut p file) s.2)
def loom0 (lines n : Nat) : Loom := (List.replicate lines 0, fun _ => List.replicate n [])
def loomAt (ids : List (List Int)) (lines n p : Nat) : Loom := (List.range p).foldl (parentStep ids) (loom0 lines n)

def rowsOfGap (names : List Str) (file : List Str) (s : Loom) (k : Nat) : List Row :=
  (coalesceOf (s.2 k)).1.map (fun m => (⟨true, m.Parents, names.getD m.Line.toNat []⟩ : Row)) ++ (if k < file.length then [⟨false, s.1.getD k 0, file.getD k []⟩] else [])
def rowsTo (names : List Str) (file : List Str) (s : Loom) (k : Nat) : List Row := ((List.range k).map (rowsOfGap names file s)).flatten
def make16 (result : Str) (parents : List Str) : Table × Int :=
  if parents.length < 1 ∨ 32 < parents.length then (⟨0, []⟩, 2) else
  let fs := linesOf result :: parents.map linesOf
  let names := namesOf fs
  let s := loomAt (fs.map (idsOf names)) (linesOf result).length parents.length parents.length
  if ∃ k, k < (linesOf result).length + 1 ∧ (coalesceOf (s.2 k)).2 ≠ 0 then (⟨0, []⟩, 1) else (⟨parents.length, rowsTo names (linesOf result) s ((linesOf result).length + 1)⟩, 0)

theorem rowsTo_succ (names file : List Str) (s : Loom) (k : Nat) : rowsTo names file s (k + 1) = rowsTo names file s k ++ rowsOfGap names file s k := by
  unfold rowsTo; rw [List.range_succ, List.map_append, List.flatten_append]; simp

/-- what holds of a loom whose lists come from files of at most B lines, with numbers of the kind Q -/
structure LoomOk (Q : Int → Prop) (B lines n : Nat) (s : Loom) : Prop where
  len : s.1.length = lines
  marks : ∀ m ∈ s.1, 0 ≤ m ∧ m < 4294967296
  gaps : ∀ k, (s.2 k).length = n ∧ ∀ x ∈ s.2 k, x.length ≤ B ∧ ∀ v ∈ x, Q v

theorem loom0_ok (Q : Int → Prop) (B lines n : Nat) : LoomOk Q B lines n (loom0 lines n) where
  len := by simp [loom0]
  marks := fun m hm => by have := List.eq_of_mem_replicate hm; subst this; decide
  gaps := fun k => ⟨by simp [loom0], fun x hx => by have := List.eq_of_mem_replicate hx; subst this; simp⟩

theorem gapPut_ok {Q : Int → Prop} {B n p : Nat} {file : List Int} (hf : file.length ≤ B ∧ ∀ v ∈ file, Q v) {g : Nat → List (List Int)} (hg : ∀ k, (g k).length = n ∧ ∀ x ∈ g k, x.length ≤ B ∧ ∀ v ∈ x, Q v) (c : Change) :
    ∀ k, (gapPut p file g c k).length = n ∧ ∀ x ∈ gapPut p file g c k, x.length ≤ B ∧ ∀ v ∈ x, Q v := by
  intro k
  unfold gapPut
  split
  · refine ⟨by rw [List.length_set]; exact (hg k).1, fun x hx => ?_⟩
    rcases List.mem_or_eq_of_mem_set hx with h | rfl
    · exact (hg k).2 x h
    · exact ⟨by simp; omega, fun v hv => hf.2 v (mem_take_drop hv)⟩
  · exact hg k

theorem foldl_gap_ok {Q : Int → Prop} {B n p : Nat} {file : List Int} (hf : file.length ≤ B ∧ ∀ v ∈ file, Q v) : ∀ (sc : List Change) {g : Nat → List (List Int)}, (∀ k, (g k).length = n ∧ ∀ x ∈ g k, x.length ≤ B ∧ ∀ v ∈ x, Q v) →
    ∀ k, (sc.foldl (gapPut p file) g k).length = n ∧ ∀ x ∈ sc.foldl (gapPut p file) g k, x.length ≤ B ∧ ∀ v ∈ x, Q v
  | [], _, hg => hg
  | c :: r, _, hg => foldl_gap_ok hf r (gapPut_ok hf hg c)

theorem clearOne_ok {p : Int} {ms : List Int} {x : Span} (h : ∀ m ∈ ms, 0 ≤ m ∧ m < 4294967296) : (clearOne p ms x).length = ms.length ∧ ∀ m ∈ clearOne p ms x, 0 ≤ m ∧ m < 4294967296 := by
  refine ⟨by simp [clearOne], fun m hm => ?_⟩
  rcases List.mem_or_eq_of_mem_set hm with h' | rfl
  · exact h m h'
  · exact u32_in _
theorem foldl_clear_ok {p : Int} : ∀ (ps : List Span) {ms : List Int}, (∀ m ∈ ms, 0 ≤ m ∧ m < 4294967296) → (ps.foldl (clearOne p) ms).length = ms.length ∧ ∀ m ∈ ps.foldl (clearOne p) ms, 0 ≤ m ∧ m < 4294967296
  | [], ms, h => ⟨rfl, h⟩
  | x :: r, ms, h => by
    have h1 := clearOne_ok (p := p) (x := x) h
    have h2 := foldl_clear_ok (p := p) r h1.2
    exact ⟨h2.1.trans h1.1, h2.2⟩

theorem parentStep_ok {Q : Int → Prop} {B lines n : Nat} {ids : List (List Int)} (hids : ∀ x ∈ ids, x.length ≤ B ∧ ∀ v ∈ x, Q v) {s : Loom} (h : LoomOk Q B lines n s) (p : Nat) : LoomOk Q B lines n (parentStep ids s p) := by
  have hf : (ids.getD (p + 1) []).length ≤ B ∧ ∀ v ∈ ids.getD (p + 1) [], Q v := by
    rw [List.getD_eq_getElem?_getD]
    cases hx : ids[p + 1]? with
    | none => simp
    | some x => exact hids x (List.mem_of_getElem? hx)
  have hr : ∀ m ∈ s.1.map (orBit · (bitOf p)), 0 ≤ m ∧ m < 4294967296 := fun m hm => by
    obtain ⟨v, _, rfl⟩ := List.mem_map.1 hm; exact u32_in _
  have hc := foldl_clear_ok (p := p) (matchedOf (walkOf (ids.getD (p + 1) []) (ids.getD 0 [])) (ids.getD (p + 1) []).length) hr
  exact { len := by rw [parentStep]; simp only; rw [hc.1, List.length_map]; exact h.len, marks := hc.2, gaps := foldl_gap_ok hf _ h.gaps }

theorem loomAt_succ (ids : List (List Int)) (lines n p : Nat) : loomAt ids lines n (p + 1) = parentStep ids (loomAt ids lines n p) p := by
  unfold loomAt; rw [List.range_succ, List.foldl_append]; rfl
theorem loomAt_ok {Q : Int → Prop} {B lines n : Nat} {ids : List (List Int)} (hids : ∀ x ∈ ids, x.length ≤ B ∧ ∀ v ∈ x, Q v) : ∀ p, LoomOk Q B lines n (loomAt ids lines n p)
  | 0 => loom0_ok Q B lines n
  | p + 1 => by rw [loomAt_succ]; exact parentStep_ok hids (loomAt_ok hids p) p

/-! ### the numbers of the lines -/

theorem placeOf_le (l : List Str) (s : Str) : ∀ k : Int, 0 ≤ k → s ∈ l → k ≤ placeOf l s k ∧ placeOf l s k < k + l.length := by
  induction l with
  | nil => intro k _ h; cases h
  | cons x r ih =>
    intro k hk h
    unfold placeOf
    by_cases hx : x = s
    · rw [if_pos hx]; simp; omega
    · rw [if_neg hx]
      have := ih (k + 1) (by omega) (by rcases List.mem_cons.1 h with rfl | h; exact absurd rfl hx; exact h)
      simp only [List.length_cons]; omega

theorem names_mem_foldl (l : List Str) : ∀ (out : List Str) (s : Str), s ∈ out ∨ s ∈ l → s ∈ l.foldl namesStep out := by
  induction l with
  | nil => intro out s h; rcases h with h | h; exact h; cases h
  | cons x r ih =>
    intro out s h
    apply ih
    rcases h with h | h
    · left; unfold namesStep; split; exact h; exact List.mem_append_left _ h
    · rcases List.mem_cons.1 h with rfl | h
      · left; unfold namesStep; split; assumption; simp
      · exact .inr h
theorem namesOf_mem (fs : List (List Str)) (s : Str) (f : List Str) (hf : f ∈ fs) (hs : s ∈ f) : s ∈ namesOf fs := names_mem_foldl _ _ _ (.inr (List.mem_flatten.2 ⟨f, hf, hs⟩))

theorem ids_in (fs : List (List Str)) : ∀ x ∈ fs.map (idsOf (namesOf fs)), ∀ v ∈ x, 0 ≤ v ∧ v < (namesOf fs).length := by
  intro x hx v hv
  obtain ⟨f, hf, rfl⟩ := List.mem_map.1 hx
  obtain ⟨s, hs, rfl⟩ := List.mem_map.1 hv
  have := placeOf_le (namesOf fs) s 0 (Int.le_refl _) (namesOf_mem fs s f hf hs)
  omega

theorem names_sub_foldl (l : List Str) : ∀ (out : List Str) (s : Str), s ∈ l.foldl namesStep out → s ∈ out ∨ s ∈ l := by
  induction l with
  | nil => intro out s h; exact .inl h
  | cons x r ih =>
    intro out s h
    rcases ih _ _ h with h | h
    · unfold namesStep at h
      split at h
      · exact .inl h
      · rcases List.mem_append.1 h with h | h
        · exact .inl h
        · simp at h; subst h; exact .inr (by simp)
    · exact .inr (List.mem_cons_of_mem _ h)
theorem namesOf_sub (fs : List (List Str)) (s : Str) (h : s ∈ namesOf fs) : s ∈ fs.flatten := by
  rcases names_sub_foldl _ _ _ h with h | h
  · cases h
  · exact h
end Go.AL

/- The program's way to check tables and to join lines, as plain functions of Lean, and that it is the reference's. No project text. -/
namespace Go.AL
open Go

/-! ### lines -/
theorem hasSuffix_lf (s : Str) : Lib.hasSuffix s [10] = ended s := by
  unfold Lib.hasSuffix ended
  rw [Bool.eq_iff_iff, List.isSuffixOf_iff_suffix, beq_iff_eq]
  constructor
  · rintro ⟨t, rfl⟩; simp
  · intro h
    obtain ⟨hne, h2⟩ := List.getLast?_eq_some_iff.1 h
    exact ⟨hne, h2.symm⟩

def bareOf (s : Str) : Str := if ended s then s.dropLast else s
theorem trimSuffix_lf (s : Str) : Lib.trimSuffix s [10] = bareOf s := by
  unfold Lib.trimSuffix bareOf
  rw [hasSuffix_lf, List.dropLast_eq_take]; rfl
theorem bareOf_len (s : Str) : (bareOf s).length ≤ s.length := by unfold bareOf; split <;> simp

theorem indexByte_first (c : UInt8) : ∀ l : Str, (c ∉ l ∧ Lib.indexByte l c = -1) ∨ ∃ a b, l = a ++ c :: b ∧ c ∉ a ∧ Lib.indexByte l c = a.length
  | [] => .inl ⟨by simp, rfl⟩
  | x :: l => by
    unfold Lib.indexByte
    by_cases hx : x = c
    · exact .inr ⟨[], l, by rw [hx]; rfl, by simp, by simp [hx]⟩
    · rcases indexByte_first c l with ⟨h1, h2⟩ | ⟨a, b, h1, h2, h3⟩
      · exact .inl ⟨by simp [h1, Ne.symm hx], by simp [hx, h2]⟩
      · refine .inr ⟨x :: a, b, by rw [h1]; rfl, by simp [h2, Ne.symm hx], ?_⟩
        have h4 : ¬ ((a.length : Int) = -1) := by omega
        simp [hx, h3, h4]

theorem indexByte_mem (c : UInt8) (l : Str) : 0 ≤ Lib.indexByte l c ↔ c ∈ l := by
  rcases indexByte_first c l with ⟨h1, h2⟩ | ⟨a, b, h1, h2, h3⟩
  · rw [h2]; simp [h1]
  · rw [h3, h1]; simp

theorem dropLast_app (a b : Str) (c : UInt8) (h : b ≠ []) : c ∈ (a ++ c :: b).dropLast := by
  rw [List.dropLast_append_of_ne_nil (by simp), List.dropLast_cons_of_ne_nil h]; simp

/-- a line feed before the end -/
theorem indexByte_inner (l : Str) : (0 ≤ Lib.indexByte l 10 ∧ Lib.indexByte l 10 < (l.length : Int) - 1) ↔ 10 ∈ l.dropLast := by
  rcases indexByte_first 10 l with ⟨h1, h2⟩ | ⟨a, b, h1, h2, h3⟩
  · rw [h2]
    have : 10 ∉ l.dropLast := fun h => h1 (List.dropLast_subset l h)
    simp [this]
  · rw [h3]
    by_cases hb : b = []
    · subst hb
      have e : l.dropLast = a := by rw [h1]; simp
      rw [e, h1]; simp [h2]
    · have h4 := dropLast_app a b 10 hb
      rw [← h1] at h4
      have h5 : 0 < b.length := List.length_pos_iff.2 hb
      simp only [h4, iff_true]
      rw [h1]; simp only [List.length_append, List.length_cons]; omega

theorem lineOk_iff (s : Str) : lineOk s = true ↔ s ≠ [] ∧ 10 ∉ s.dropLast := by
  unfold lineOk
  rw [Bool.and_eq_true, List.all_eq_true]
  constructor
  · rintro ⟨h1, h2⟩
    exact ⟨by simpa using h2, fun h => by have := h1 10 h; simp at this⟩
  · rintro ⟨h1, h2⟩
    exact ⟨fun x hx => by simpa using fun e : x = 10 => h2 (e ▸ hx), by simpa using h1⟩

theorem mem_bare (s : Str) : 10 ∈ bareOf s ↔ 10 ∈ s.dropLast := by
  unfold bareOf
  split
  · exact Iff.rfl
  · rename_i h
    by_cases hs : s = []
    · subst hs; simp
    · constructor
      · intro h2
        have e := (List.dropLast_concat_getLast hs).symm
        rw [e] at h2
        rcases List.mem_append.1 h2 with h3 | h3
        · exact h3
        · exfalso
          refine h ?_
          unfold ended
          rw [List.getLast?_eq_some_getLast hs]
          simp at h3; simp [← h3]
      · exact fun h2 => List.dropLast_subset s h2

/-- is a row's text a single line? -/
theorem single_eq (s : Str) : (if decide (s ≠ []) = true then !decide (0 ≤ Lib.indexByte (bareOf s) 10) else false) = lineOk s := by
  rw [Bool.eq_iff_iff, lineOk_iff]
  have h := mem_bare s
  have h2 := indexByte_mem 10 (bareOf s)
  by_cases hs : s = []
  · simp [hs]
  · simp [hs, h2, h]

theorem ended_idx (s : Str) (h : lineOk s = true) : ended s = true ↔ 0 ≤ Lib.indexByte s 10 := by
  obtain ⟨h1, h2⟩ := (lineOk_iff s).1 h
  rw [indexByte_mem]
  have e := (List.dropLast_concat_getLast h1).symm
  unfold ended
  rw [List.getLast?_eq_some_getLast h1]
  constructor
  · intro h3
    have : s.getLast h1 = 10 := by simpa using h3
    rw [← this]; exact List.getLast_mem h1
  · intro h3
    rw [e] at h3
    rcases List.mem_append.1 h3 with h3 | h3
    · exact absurd h3 h2
    · simp at h3; simp [← h3]

/-- what the program's Join asks of line i of n -/
def badLine (l : Str) (last : Bool) : Prop := l = [] ∨ (0 ≤ Lib.indexByte l 10 ∧ Lib.indexByte l 10 < (l.length : Int) - 1) ∨ (Lib.indexByte l 10 < 0 ∧ last = false)
theorem badLine_iff (l : Str) (r : List Str) : badLine l r.isEmpty ↔ (lineOk l && (r.isEmpty || ended l)) = false := by
  unfold badLine
  rw [indexByte_inner]
  by_cases hl : lineOk l = true
  · obtain ⟨h1, h2⟩ := (lineOk_iff l).1 hl
    have h3 := ended_idx l hl
    cases hr : r.isEmpty
    · cases he : ended l
      · have : ¬ 0 ≤ Lib.indexByte l 10 := fun h => by rw [h3.2 h] at he; cases he
        simp [hl, h1, h2]; omega
      · have := h3.1 he
        simp [hl, h1, h2]; omega
    · simp [hl, h1, h2]
  · have : l = [] ∨ 10 ∈ l.dropLast := by
      by_cases h1 : l = []
      · exact .inl h1
      · exact .inr (Classical.byContradiction fun h2 => hl ((lineOk_iff l).2 ⟨h1, h2⟩))
    have hf : lineOk l = false := by simpa using hl
    rw [hf]
    constructor
    · intro _; rfl
    · intro _; rcases this with h | h
      · exact .inl h
      · exact .inr (.inl h)

theorem listOk_cons (s : Str) (r : List Str) : listOk (s :: r) = (lineOk s && (r.isEmpty || ended s) && listOk r) := rfl

theorem join_nil (l : List Str) : Lib.join l [] = l.flatten := by
  induction l with
  | nil => rfl
  | cons s r ih =>
    cases r with
    | nil => simp [Lib.join]
    | cons t r =>
      have e : List.intersperse ([] : Str) (s :: t :: r) = s :: [] :: List.intersperse [] (t :: r) := rfl
      simp only [Lib.join, List.intercalate, e, List.flatten_cons, List.nil_append] at ih ⊢
      rw [ih]

/-! ### bits -/
def and32 (a b : Int) : Int := IntKind.u32.wrap ((BitVec.ofInt IntKind.u32.bits a &&& BitVec.ofInt IntKind.u32.bits b).toNat : Int)
def not32 (a : Int) : Int := IntKind.u32.wrap ((BitVec.ofInt IntKind.u32.bits IntKind.u32.max ^^^ BitVec.ofInt IntKind.u32.bits a).toNat : Int)

theorem bitAt_nat (n c : Nat) : bitAt (n : Int) c = n.testBit c := by
  unfold bitAt
  rw [Nat.testBit_eq_decide_div_mod_eq]
  have : ((n : Int) / 2 ^ c % 2 == 1) = decide (n / 2 ^ c % 2 = 1) := by
    rw [Bool.eq_iff_iff, beq_iff_eq, decide_eq_true_iff]
    have e : (n : Int) / 2 ^ c % 2 = ((n / 2 ^ c % 2 : Nat) : Int) := by simp
    rw [e]; omega
  exact this

theorem u32_nat (n : Nat) (h : n < 4294967296) : IntKind.u32.wrap (n : Int) = n := by simp [IntKind.wrap, IntKind.signed, IntKind.bits]; omega
theorem bv_nat (n : Nat) : BitVec.ofInt IntKind.u32.bits (n : Int) = BitVec.ofNat 32 n := BitVec.ofInt_natCast 32 n

theorem and32_nat (n m : Nat) (hn : n < 4294967296) (hm : m < 4294967296) : and32 n m = ((n &&& m : Nat) : Int) := by
  unfold and32
  rw [bv_nat, bv_nat]
  have e : (BitVec.ofNat 32 n &&& BitVec.ofNat 32 m).toNat = n &&& m := by
    rw [BitVec.toNat_and, BitVec.toNat_ofNat, BitVec.toNat_ofNat, Nat.mod_eq_of_lt (by omega), Nat.mod_eq_of_lt (by omega)]
  have h2 : n &&& m < 2 ^ 32 := Nat.and_lt_two_pow n (by omega)
  show IntKind.u32.wrap ((BitVec.ofNat 32 n &&& BitVec.ofNat 32 m).toNat : Int) = _
  rw [e, u32_nat _ (by omega)]

theorem or32_nat (n m : Nat) (hn : n < 4294967296) (hm : m < 4294967296) : orBit n m = ((n ||| m : Nat) : Int) ∧ n ||| m < 4294967296 := by
  unfold orBit
  rw [bv_nat, bv_nat]
  have e : (BitVec.ofNat 32 n ||| BitVec.ofNat 32 m).toNat = n ||| m := by
    rw [BitVec.toNat_or, BitVec.toNat_ofNat, BitVec.toNat_ofNat, Nat.mod_eq_of_lt (by omega), Nat.mod_eq_of_lt (by omega)]
  have h2 : n ||| m < 2 ^ 32 := Nat.or_lt_two_pow (by omega) (by omega)
  refine ⟨?_, by omega⟩
  show IntKind.u32.wrap ((BitVec.ofNat 32 n ||| BitVec.ofNat 32 m).toNat : Int) = _
  rw [e, u32_nat _ (by omega)]

theorem not32_nat (n : Nat) (hn : n < 4294967296) : not32 n = ((4294967295 ^^^ n : Nat) : Int) ∧ 4294967295 ^^^ n < 4294967296 := by
  unfold not32
  rw [bv_nat, show IntKind.u32.max = ((4294967295 : Nat) : Int) from rfl, bv_nat]
  have e : (BitVec.ofNat 32 4294967295 ^^^ BitVec.ofNat 32 n).toNat = 4294967295 ^^^ n := by
    rw [BitVec.toNat_xor, BitVec.toNat_ofNat, BitVec.toNat_ofNat, Nat.mod_eq_of_lt (by omega), Nat.mod_eq_of_lt (by omega)]
  have h2 : 4294967295 ^^^ n < 2 ^ 32 := Nat.xor_lt_two_pow (by omega) (by omega)
  refine ⟨?_, by omega⟩
  show IntKind.u32.wrap ((BitVec.ofNat 32 4294967295 ^^^ BitVec.ofNat 32 n).toNat : Int) = _
  rw [e, u32_nat _ (by omega)]

theorem ones_bit (c : Nat) (h : c < 32) : (4294967295 : Nat).testBit c = true := by
  have : (4294967295 : Nat) = 2 ^ 32 - 1 := rfl
  rw [this, Nat.testBit_two_pow_sub_one]; simpa using h

/-! ### the ends of the columns -/
def inOf (r : Row) : Int := if r.Lost then r.Marks else not32 r.Marks
def addOk (res : Bool) (par : Int) (r : Row) : Bool := decide (and32 par (inOf r) = 0) && (r.Lost || !res)
def addRes (res : Bool) (r : Row) : Bool := if ended r.Text then res else res || !r.Lost
def addPar (par : Int) (r : Row) : Int := if ended r.Text then par else orBit par (inOf r)
def addsOk : Bool → Int → List Row → Bool
  | _, _, [] => true
  | res, par, r :: rs => lineOk r.Text && addOk res par r && addsOk (addRes res r) (addPar par r) rs

theorem inOf_nat (r : Row) (hr : 0 ≤ r.Marks ∧ r.Marks < 4294967296) : ∃ m : Nat, m < 4294967296 ∧ inOf r = m ∧ ∀ c, c < 32 → m.testBit c = visB r c := by
  obtain ⟨k, hk⟩ : ∃ k : Nat, r.Marks = k := ⟨r.Marks.toNat, by omega⟩
  have hv : ∀ c : Nat, c < 32 → visB r c = (k.testBit c == r.Lost) := by
    intro c hc
    rw [visB, if_neg (by omega), if_neg (by omega), hk, Int.toNat_natCast, bitAt_nat]
  unfold inOf
  cases hl : r.Lost
  · have := not32_nat k (by omega)
    refine ⟨4294967295 ^^^ k, this.2, by rw [if_neg (by simp), hk]; exact this.1, fun c hc => ?_⟩
    rw [hv c hc, hl, Nat.testBit_xor, ones_bit c hc]
    cases k.testBit c <;> rfl
  · refine ⟨k, by omega, by rw [if_pos rfl]; exact hk, fun c hc => ?_⟩
    rw [hv c hc, hl]
    cases k.testBit c <;> rfl

theorem vis_result (r : Row) : visB r (-1) = !r.Lost := by rw [visB, if_pos rfl]

/-- all but the last line end -/
def listOkB : Bool → List Str → Bool
  | _, [] => true
  | b, s :: r => !b && lineOk s && listOkB (!ended s) r
theorem listOkB_true (l : List Str) : listOkB true l = l.isEmpty := by cases l <;> simp [listOkB]
theorem listOk_B (l : List Str) : listOk l = listOkB false l := by
  induction l with
  | nil => rfl
  | cons s r ih =>
    rw [listOk_cons, ih, listOkB]
    cases he : ended s
    · rw [show (!false) = true from rfl, listOkB_true]
      cases r <;> simp [listOkB]
    · simp

/-- the state after some rows: bad c: a line of column c had no line feed -/
structure EndsAt (res : Bool) (par : Int) (bad : Int → Bool) : Prop where
  res : res = bad (-1)
  par : ∃ p : Nat, p < 4294967296 ∧ par = p ∧ ∀ c : Nat, c < 32 → p.testBit c = bad c

theorem and_zero (n m : Nat) (hm : m < 4294967296) : n &&& m = 0 ↔ ∀ c, c < 32 → m.testBit c = true → n.testBit c = false := by
  constructor
  · intro h c hc hm1
    have : (n &&& m).testBit c = false := by rw [h]; simp
    rw [Nat.testBit_and, hm1] at this
    simpa using this
  · intro h
    refine Nat.eq_of_testBit_eq fun c => ?_
    rw [Nat.testBit_and, Nat.zero_testBit]
    by_cases hc : c < 32
    · cases hm1 : m.testBit c
      · simp
      · rw [h c hc hm1]; rfl
    · have : m.testBit c = false := Nat.testBit_lt_two_pow (Nat.lt_of_lt_of_le (by omega : m < 2 ^ 32) (Nat.pow_le_pow_right (by omega) (by omega)))
      rw [this]; simp

theorem addOk_iff {res : Bool} {par : Int} {bad : Int → Bool} (h : EndsAt res par bad) (r : Row) (hr : 0 ≤ r.Marks ∧ r.Marks < 4294967296) : addOk res par r = true ↔ ∀ c : Int, -1 ≤ c → c < 32 → visB r c = true → bad c = false := by
  obtain ⟨m, hm, he, hb⟩ := inOf_nat r hr
  obtain ⟨p, hp, hpe, hpb⟩ := h.par
  unfold addOk
  rw [he, hpe, and32_nat p m hp hm, Bool.and_eq_true, decide_eq_true_iff, show (((p &&& m : Nat) : Int) = 0) ↔ p &&& m = 0 by omega, and_zero p m hm]
  constructor
  · rintro ⟨h1, h2⟩ c hc1 hc2 hv
    by_cases hc : c = -1
    · subst hc
      rw [vis_result] at hv
      rw [← h.res]
      simpa [show r.Lost = false by simpa using hv] using h2
    · obtain ⟨k, rfl⟩ : ∃ k : Nat, c = k := ⟨c.toNat, by omega⟩
      rw [← hpb k (by omega)]
      exact h1 k (by omega) (by rw [hb k (by omega)]; exact hv)
  · intro h1
    refine ⟨fun c hc hm1 => ?_, ?_⟩
    · rw [hpb c hc]
      exact h1 c (by omega) (by omega) (by rw [← hb c hc]; exact hm1)
    · cases hl : r.Lost
      · have := h1 (-1) (by omega) (by omega) (by rw [vis_result, hl]; rfl)
        rw [h.res, this]; rfl
      · rfl

theorem ends_step {res : Bool} {par : Int} {bad : Int → Bool} (h : EndsAt res par bad) (r : Row) (hr : 0 ≤ r.Marks ∧ r.Marks < 4294967296) : EndsAt (addRes res r) (addPar par r) (fun c => bad c || (visB r c && !ended r.Text)) := by
  obtain ⟨m, hm, he, hb⟩ := inOf_nat r hr
  obtain ⟨p, hp, hpe, hpb⟩ := h.par
  unfold addRes addPar
  cases hen : ended r.Text
  · have ho := or32_nat p m hp hm
    refine ⟨?_, p ||| m, ho.2, ?_, fun c hc => ?_⟩
    · rw [if_neg (by simp), h.res, vis_result]; simp
    · rw [if_neg (by simp), he, hpe]; exact ho.1
    · rw [Nat.testBit_or, hpb c hc, hb c hc]; simp
  · refine ⟨?_, p, hp, ?_, fun c hc => ?_⟩
    · rw [if_pos rfl, h.res]; simp
    · rw [if_pos rfl]; exact hpe
    · rw [hpb c hc]; simp

theorem colOf_cons (r : Row) (rs : List Row) (c : Int) : colOf (r :: rs) c = if visB r c then r.Text :: colOf rs c else colOf rs c := by
  unfold colOf
  cases hv : visB r c <;> simp [hv]

theorem addsOk_iff : ∀ (rows : List Row) (res : Bool) (par : Int) (bad : Int → Bool), EndsAt res par bad → rowsIn rows → (addsOk res par rows = true ↔ (∀ r ∈ rows, lineOk r.Text = true) ∧ ∀ c : Int, -1 ≤ c → c < 32 → listOkB (bad c) (colOf rows c) = true)
  | [], res, par, bad, _, _ => by simp [addsOk, colOf, listOkB]
  | r :: rs, res, par, bad, h, hr => by
    have hr1 := hr r (by simp)
    have ih := addsOk_iff rs _ _ _ (ends_step h r hr1) (fun x hx => hr x (by simp [hx]))
    rw [addsOk, Bool.and_eq_true, Bool.and_eq_true, addOk_iff h r hr1, ih]
    constructor
    · rintro ⟨⟨h1, h2⟩, h3, h4⟩
      refine ⟨fun x hx => ?_, fun c hc1 hc2 => ?_⟩
      · rcases List.mem_cons.1 hx with rfl | hx
        · exact h1
        · exact h3 x hx
      · have h5 := h4 c hc1 hc2
        rw [colOf_cons]
        cases hv : visB r c
        · rw [if_neg (by simp)]; simpa [hv] using h5
        · rw [if_pos rfl, listOkB, h2 c hc1 hc2 hv, h1]
          rw [h2 c hc1 hc2 hv, hv] at h5
          simpa using h5
    · rintro ⟨h1, h2⟩
      refine ⟨⟨h1 r (by simp), fun c hc1 hc2 hv => ?_⟩, fun x hx => h1 x (by simp [hx]), fun c hc1 hc2 => ?_⟩
      · have h3 := h2 c hc1 hc2
        rw [colOf_cons, hv, if_pos rfl, listOkB] at h3
        simp only [Bool.and_eq_true, Bool.not_eq_true'] at h3
        exact h3.1.1
      · have h3 := h2 c hc1 hc2
        rw [colOf_cons] at h3
        cases hv : visB r c
        · rw [hv, if_neg (by simp)] at h3; simpa using h3
        · rw [hv, if_pos rfl, listOkB] at h3
          simp only [Bool.and_eq_true, Bool.not_eq_true'] at h3
          rw [h3.1.1]; simpa using h3.2

theorem ends0 : EndsAt false 0 (fun _ => false) := ⟨rfl, 0, by omega, rfl, fun c _ => by simp⟩

theorem div_pow_zero (m : Int) (n c : Nat) (h0 : 0 ≤ m) (h : m / 2 ^ n = 0) (hc : n ≤ c) : bitAt m c = false := by
  obtain ⟨k, rfl⟩ : ∃ k : Nat, m = k := ⟨m.toNat, by omega⟩
  rw [bitAt_nat]
  have h1 : (k : Int) / 2 ^ n = ((k / 2 ^ n : Nat) : Int) := by simp
  rw [h1] at h
  have h2 : k / 2 ^ n = 0 := by omega
  have h3 : k < 2 ^ n := by
    rcases Nat.div_eq_zero_iff.1 h2 with h3 | h3
    · have := Nat.two_pow_pos n; omega
    · exact h3
  exact Nat.testBit_lt_two_pow (Nat.lt_of_lt_of_le h3 (Nat.pow_le_pow_right (by omega) hc))

theorem colOf_beyond (rows : List Row) (n : Nat) (hm : marksOk rows n = true) (hr : rowsIn rows) (c : Int) (h1 : (n : Int) ≤ c) (h2 : c < 32) : colOf rows c = colOf rows (-1) := by
  unfold colOf
  have : rows.filter (visB · c) = rows.filter (visB · (-1)) := by
    refine List.filter_congr fun r hmem => ?_
    have h3 : markOk n r = true := List.all_eq_true.1 hm r hmem
    unfold markOk at h3
    simp only [Bool.and_eq_true, beq_iff_eq] at h3
    have h4 := div_pow_zero r.Marks n c.toNat (hr r hmem).1 h3.1 (by omega)
    rw [vis_result, visB, if_neg (by omega), if_neg (by omega), h4]
    cases r.Lost <;> rfl
  rw [this]

/-- the program's look at the ends of all columns at once is the reference's look at each column -/
theorem adds_texts (rows : List Row) (n : Nat) (hn : n ≤ 32) (hm : marksOk rows n = true) (hr : rowsIn rows) : addsOk false 0 rows = textsOk rows n := by
  rw [Bool.eq_iff_iff, addsOk_iff rows false 0 _ ends0 hr, textsOk, Bool.and_eq_true, List.all_eq_true, List.all_eq_true]
  refine and_congr Iff.rfl ?_
  constructor
  · intro h k hk
    have hk := List.mem_range.1 hk
    rw [listOk_B]
    exact h _ (by omega) (by omega)
  · intro h c hc1 hc2
    have key : ∀ c : Int, -1 ≤ c → c < n → listOkB false (colOf rows c) = true := by
      intro c h1 h2
      have := h (c + 1).toNat (List.mem_range.2 (by omega))
      rw [show (((c + 1).toNat : Nat) : Int) - 1 = c by omega, listOk_B] at this
      exact this
    by_cases hcn : c < n
    · exact key c hc1 hcn
    · rw [colOf_beyond rows n hm hr c (by omega) hc2]
      exact key (-1) (by omega) (by omega)
end Go.AL

/- Quoted words, numbers and ranges as written. No project text. -/
namespace Go.AL
open Go

def plainB (c : UInt8) : Bool := decide (33 ≤ c.toNat ∧ c.toNat ≤ 126 ∧ c.toNat ≠ 34 ∧ c.toNat ≠ 92)
def digs8 : Str := [48, 49, 50, 51, 52, 53, 54, 55]
def digs10 : Str := [48, 49, 50, 51, 52, 53, 54, 55, 56, 57]
def octOf (c : UInt8) : Str := (digs8.drop (c.toNat / 64)).take 1 ++ (digs8.drop (c.toNat / 8 % 8)).take 1 ++ (digs8.drop (c.toNat % 8)).take 1
def escOf (c : UInt8) : Str := if c.toNat = 34 ∨ c.toNat = 92 then [92, c] else if c.toNat = 10 then [92, 110] else if c.toNat = 9 then [92, 116] else if c.toNat < 32 ∨ 126 < c.toNat then 92 :: octOf c else [c]
def quoteOf (s : Str) : Str := if s ≠ [] ∧ s.all plainB = true then s else 34 :: ((s.map escOf).flatten ++ [34])

theorem octOf_len (c : UInt8) : (octOf c).length ≤ 3 := by unfold octOf; simp only [List.length_append, List.length_take]; omega
theorem escOf_len (c : UInt8) : (escOf c).length ≤ 4 := by
  have := octOf_len c
  unfold escOf; split
  · simp
  · split
    · simp
    · split
      · simp
      · split
        · simp only [List.length_cons]; omega
        · simp
theorem esc_flat_len (s : Str) : ((s.map escOf).flatten).length ≤ 4 * s.length := by
  induction s with
  | nil => simp
  | cons c r ih => have := escOf_len c; simp only [List.map_cons, List.flatten_cons, List.length_append, List.length_cons]; omega
theorem quoteOf_len (s : Str) : (quoteOf s).length ≤ 4 * s.length + 2 := by
  unfold quoteOf; have := esc_flat_len s
  split
  · omega
  · simp only [List.length_cons, List.length_append, List.length_nil]; omega

def fmtOf (n : Int) : Str := if n < 0 ∨ 2147483647 < n then [] else Lib.itoa n
def rangeOf (a n : Int) : Str := if a < 0 ∨ n < 0 ∨ 2147483647 < a ∨ 2147483647 - a < n then [] else if n = 0 then fmtOf a ++ [44, 48] else if n = 1 then fmtOf (a + 1) else fmtOf (a + 1) ++ [44] ++ fmtOf n

theorem decDigits_len : ∀ (k u : Nat), u < 10 ^ (k + 1) → (Lib.decDigits u).length ≤ k + 1
  | 0, u, h => by rw [Lib.decDigits, dif_pos (by omega)]; simp
  | k + 1, u, h => by
    rw [Lib.decDigits]
    split
    · simp
    · have := decDigits_len k (u / 10) (by rw [Nat.div_lt_iff_lt_mul (by omega)]; rw [Nat.pow_succ] at h; omega)
      simp only [List.length_append, List.length_cons, List.length_nil]; omega
theorem fmtOf_len (n : Int) : (fmtOf n).length ≤ 10 := by
  unfold fmtOf; split
  · simp
  · unfold Lib.itoa
    rw [if_neg (by omega)]
    exact decDigits_len 9 n.toNat (by omega)
theorem rangeOf_len (a n : Int) : (rangeOf a n).length ≤ 21 := by
  have := fmtOf_len a; have := fmtOf_len (a + 1); have := fmtOf_len n
  unfold rangeOf
  split
  · simp
  · split
    · simp only [List.length_append, List.length_cons, List.length_nil]; omega
    · split
      · omega
      · simp only [List.length_append, List.length_cons, List.length_nil]; omega

theorem dig10 (k : Nat) (h : k < 10) : (digs10.drop k).take 1 = [UInt8.ofNat (48 + k)] := by
  have : ∀ k : Fin 10, (digs10.drop k.1).take 1 = [UInt8.ofNat (48 + k.1)] := by decide
  exact this ⟨k, h⟩
theorem fmt_small (n : Int) (h0 : 0 ≤ n) (h : n < 10) : fmtOf n = (digs10.drop n.toNat).take 1 := by
  unfold fmtOf Lib.itoa
  rw [if_neg (by omega), if_neg (by omega), dig10 _ (by omega), Lib.decDigits, dif_pos (by omega)]
theorem fmt_big (n : Int) (h0 : 10 ≤ n) (h : n ≤ 2147483647) : fmtOf n = fmtOf (n / 10) ++ (digs10.drop (n % 10).toNat).take 1 := by
  unfold fmtOf Lib.itoa
  rw [if_neg (by omega), if_neg (by omega), if_neg (by omega), if_neg (by omega), dig10 _ (by omega), Lib.decDigits, dif_neg (by omega)]
  have e1 : n.toNat / 10 = (n / 10).toNat := by omega
  have e2 : n.toNat % 10 = (n % 10).toNat := by omega
  rw [e1, e2]

theorem dig8 (k : Nat) (h : k < 8) : (digs8.drop k).take 1 = [UInt8.ofNat (48 + k)] := by
  have : ∀ k : Fin 8, (digs8.drop k.1).take 1 = [UInt8.ofNat (48 + k.1)] := by decide
  exact this ⟨k, h⟩
theorem octOf_bytes (c : UInt8) : octOf c = [UInt8.ofNat (48 + c.toNat / 64), UInt8.ofNat (48 + c.toNat / 8 % 8), UInt8.ofNat (48 + c.toNat % 8)] := by
  have := c.toNat_lt
  unfold octOf
  rw [dig8 _ (by omega), dig8 _ (by omega), dig8 _ (by omega)]; rfl
/-- the escapes of the first i bytes -/
def escs (s : Str) (i : Nat) : Str := ((s.take i).map escOf).flatten
theorem escs_zero (s : Str) : escs s 0 = [] := rfl
theorem escs_succ (s : Str) (i : Nat) (h : i < s.length) : escs s (i + 1) = escs s i ++ escOf s[i] := by
  unfold escs; rw [List.take_succ_eq_append_getElem h, List.map_append, List.flatten_append]; simp only [List.map_cons, List.map_nil, List.flatten_cons, List.flatten_nil, List.append_nil]
theorem escs_len (s : Str) (i : Nat) (h : i ≤ s.length) : (escs s i).length ≤ 4 * i := by
  have := esc_flat_len (s.take i); unfold escs; rw [List.length_take] at this; omega
def plains (s : Str) (i : Nat) : Bool := decide (s ≠ []) && (s.take i).all plainB
theorem plains_zero (s : Str) : plains s 0 = decide (s ≠ []) := by simp [plains]
theorem plains_succ (s : Str) (i : Nat) (h : i < s.length) : plains s (i + 1) = (plains s i && plainB s[i]) := by
  unfold plains; rw [List.take_succ_eq_append_getElem h, List.all_append]; simp only [List.all_cons, List.all_nil, Bool.and_true, Bool.and_assoc]
theorem quoteOf_eq (s : Str) : quoteOf s = if plains s s.length = true then s else (34 :: escs s s.length) ++ [34] := by
  unfold quoteOf plains escs
  rw [List.take_length]
  simp only [Bool.and_eq_true, decide_eq_true_eq, List.cons_append]
end Go.AL

/- Texts cut behind their line feeds. No project text. -/
namespace Go.AL
open Go

def partsAux (cur : Str) : Str → List Str
  | [] => [cur]
  | c :: r => if c = 10 then (cur ++ [c]) :: partsAux [] r else partsAux (cur ++ [c]) r
def partsOf (b : Str) : List Str := partsAux [] b

theorem partsAux_none (a cur : Str) (h : (10 : UInt8) ∉ a) : partsAux cur a = [cur ++ a] := by
  induction a generalizing cur with
  | nil => simp [partsAux]
  | cons c r ih =>
    simp only [List.mem_cons, not_or] at h
    rw [partsAux, if_neg (fun e => h.1 e.symm), ih _ h.2]; simp
theorem partsAux_cut (a b cur : Str) (h : (10 : UInt8) ∉ a) : partsAux cur (a ++ 10 :: b) = (cur ++ a ++ [10]) :: partsAux [] b := by
  induction a generalizing cur with
  | nil => simp [partsAux]
  | cons c r ih =>
    simp only [List.mem_cons, not_or] at h
    rw [List.cons_append, partsAux, if_neg (fun e => h.1 e.symm), ih _ h.2]; simp
theorem partsAux_count (s cur : Str) : (partsAux cur s).length = s.count 10 + 1 := by
  induction s generalizing cur with
  | nil => rfl
  | cons c r ih =>
    by_cases hc : c = 10
    · subst hc; rw [partsAux, if_pos rfl, List.length_cons, ih, List.count_cons_self]
    · rw [partsAux, if_neg hc, ih, List.count_cons_of_ne hc]
theorem parts_lines (s cur : Str) : linesAux cur s = if (partsAux cur s).getLastD [] = [] then (partsAux cur s).dropLast else partsAux cur s := by
  induction s generalizing cur with
  | nil => by_cases h : cur = [] <;> simp [linesAux, partsAux, h]
  | cons c r ih =>
    rw [linesAux, partsAux]
    by_cases hc : c = 10
    · rw [if_pos hc, if_pos hc, ih]
      have hn : partsAux [] r ≠ [] := fun e => by have := partsAux_count r []; rw [e] at this; simp at this
      obtain ⟨x, y, hxy⟩ := List.exists_cons_of_ne_nil hn
      rw [hxy]
      have e1 : ((cur ++ [c]) :: x :: y).getLastD [] = (x :: y).getLastD [] := by cases y <;> simp [List.getLastD]
      rw [e1]
      split
      · rfl
      · rfl
    · rw [if_neg hc, if_neg hc, ih]
theorem linesAux_count (s cur : Str) : (linesAux cur s).length = s.count 10 + if s = [] then (if cur = [] then 0 else 1) else if ended s = true then 0 else 1 := by
  induction s generalizing cur with
  | nil => by_cases h : cur = [] <;> simp [linesAux, h]
  | cons c r ih =>
    have he : ended (c :: r) = if r = [] then c == 10 else ended r := by
      cases r with
      | nil => simp [ended]
      | cons d t => simp [ended, List.getLast?_cons_cons]
    rw [linesAux, if_neg (List.cons_ne_nil _ _), he]
    by_cases hc : c = 10
    · subst hc
      rw [if_pos rfl, List.length_cons, ih, List.count_cons_self]
      by_cases hr : r = [] <;> simp [hr]
      omega
    · rw [if_neg hc, ih, List.count_cons_of_ne hc]
      by_cases hr : r = [] <;> simp [hr, hc]
theorem linesOf_count (s : Str) : (linesOf s).length = s.count 10 + if s ≠ [] ∧ ended s = false then 1 else 0 := by
  unfold linesOf
  rw [linesAux_count]
  by_cases hs : s = [] <;> simp [hs]
  cases ended s <;> simp
theorem parts_step {P : List Str} {i : Nat} {r a b : Str} (h : P.drop i = partsOf r) (hr : r = a ++ 10 :: b) (ha : (10 : UInt8) ∉ a) : P[i]? = some (a ++ [10]) ∧ P.drop (i + 1) = partsOf b := by
  have e : partsOf r = (a ++ [10]) :: partsOf b := by rw [hr]; unfold partsOf; rw [partsAux_cut _ _ _ ha]; rfl
  rw [e] at h
  refine ⟨by rw [← List.head?_drop, h]; rfl, ?_⟩
  rw [← List.tail_drop, h]; rfl
theorem fill_step {α : Type} (P : List α) (z x : α) (i : Nat) (h : P[i]? = some x) : (P.take i ++ List.replicate (P.length - i) z).set i x = P.take (i + 1) ++ List.replicate (P.length - (i + 1)) z := by
  obtain ⟨hi, hx⟩ := List.getElem?_eq_some_iff.1 h
  have hl : (P.take i).length = i := by rw [List.length_take]; omega
  rw [List.set_append_right _ _ (by omega), hl, Nat.sub_self, show P.length - i = (P.length - (i + 1)) + 1 by omega, List.replicate_succ, List.set_cons_zero, List.take_succ_eq_append_getElem hi, hx, List.append_assoc]
  rfl
def splitOf (b : Str) : List Str × Int := if b.length > 1048576 ∨ (linesOf b).length > 4096 then ([], 1) else (linesOf b, 0)
theorem splitOf_len (b : Str) : (splitOf b).1.length ≤ 4096 := by
  unfold splitOf; split
  · simp
  · dsimp only; omega
end Go.AL

/- Scripts as checked, and their groups. No project text. -/
namespace Go.AL
open Go

def in81 (n : Int) : Prop := 0 ≤ n ∧ n ≤ 4096
instance (n : Int) : Decidable (in81 n) := by unfold in81; exact inferInstance
def badC (k : Nat) (i j : Int) (c : Change) : Prop := ((((((¬ in81 c.Old ∨ ¬ in81 c.OldLen) ∨ ¬ in81 c.New) ∨ ¬ in81 c.NewLen) ∨ c.OldLen + c.NewLen = 0) ∨ c.Old - i ≠ c.New - j) ∨ c.Old < i) ∨ (0 < (k : Int) ∧ c.Old = i)
instance (k : Nat) (i j : Int) (c : Change) : Decidable (badC k i j c) := by unfold badC; exact inferInstance
def scriptGo (k : Nat) (i j : Int) : List Change → Int → Int → Bool
  | [], m, n => decide (¬ (m - i ≠ n - j ∨ m < i))
  | c :: r, m, n => decide (¬ badC k i j c) && scriptGo (k + 1) (c.Old + c.OldLen) (c.New + c.NewLen) r m n
def check8 (l : List Change) (m n : Int) : Int := if ¬ in81 m ∨ ¬ in81 n then 80 else if scriptGo 0 0 0 l m n = true then 0 else 80

def ScOk (i j : Int) : List Change → Int → Int → Prop
  | [], m, n => i ≤ m ∧ j ≤ n
  | c :: r, m, n => in81 c.Old ∧ in81 c.OldLen ∧ in81 c.New ∧ in81 c.NewLen ∧ i ≤ c.Old ∧ j ≤ c.New ∧ ScOk (c.Old + c.OldLen) (c.New + c.NewLen) r m n
theorem scriptGo_ok : ∀ (l : List Change) (k : Nat) (i j m n : Int), scriptGo k i j l m n = true → ScOk i j l m n
  | [], k, i, j, m, n, h => by simp only [scriptGo, decide_eq_true_eq] at h; simp only [ScOk]; omega
  | c :: r, k, i, j, m, n, h => by
    simp only [scriptGo, Bool.and_eq_true, decide_eq_true_eq] at h
    obtain ⟨h1, h2⟩ := h
    unfold badC at h1
    refine ⟨?_, ?_, ?_, ?_, ?_, ?_, scriptGo_ok r _ _ _ m n h2⟩
    all_goals (by_cases a1 : in81 c.Old <;> by_cases a2 : in81 c.OldLen <;> by_cases a3 : in81 c.New <;> by_cases a4 : in81 c.NewLen <;> simp [a1, a2, a3, a4] at h1 ⊢ <;> omega)
theorem check8_ok {l : List Change} {m n : Int} (h : check8 l m n = 0) : in81 m ∧ in81 n ∧ ScOk 0 0 l m n := by
  unfold check8 at h
  split at h
  · omega
  · rename_i h1
    split at h
    · rename_i h2
      by_cases a1 : in81 m <;> by_cases a2 : in81 n <;> simp [a1, a2] at h1
      exact ⟨a1, a2, scriptGo_ok _ _ _ _ _ _ h2⟩
    · omega
def cAt (l : List Change) (k : Nat) : Change := l.getD k ⟨0, 0, 0, 0⟩
theorem cAt_get {l : List Change} {k : Nat} (h : k < l.length) : l[k]? = some (cAt l k) := by
  unfold cAt; rw [List.getD_eq_getElem?_getD, List.getElem?_eq_getElem h]; rfl
theorem ScOk.end_le : ∀ {l : List Change} {i j m n : Int}, ScOk i j l m n → i ≤ m ∧ j ≤ n
  | [], _, _, _, _, h => h
  | c :: r, i, j, m, n, ⟨h1, h2, h3, h4, h5, h6, h7⟩ => by have := h7.end_le; unfold in81 at *; omega
theorem ScOk.get : ∀ {l : List Change} {i j m n : Int} (k : Nat), ScOk i j l m n → k < l.length → in81 (cAt l k).Old ∧ in81 (cAt l k).OldLen ∧ in81 (cAt l k).New ∧ in81 (cAt l k).NewLen ∧ (cAt l k).Old + (cAt l k).OldLen ≤ m ∧ (cAt l k).New + (cAt l k).NewLen ≤ n
  | c :: r, i, j, m, n, 0, ⟨h1, h2, h3, h4, h5, h6, h7⟩, _ => by have := h7.end_le; exact ⟨h1, h2, h3, h4, this.1, this.2⟩
  | c :: r, i, j, m, n, k + 1, ⟨h1, h2, h3, h4, h5, h6, h7⟩, hk => by
    have := h7.get k (by simpa using hk)
    simpa [cAt] using this
theorem ScOk.next : ∀ {l : List Change} {i j m n : Int} (k : Nat), ScOk i j l m n → k + 1 < l.length → (cAt l k).Old + (cAt l k).OldLen ≤ (cAt l (k + 1)).Old
  | [c], _, _, _, _, _, _, hk => by simp at hk
  | c :: c2 :: r, i, j, m, n, 0, ⟨_, _, _, _, _, _, h7⟩, _ => by simpa [cAt] using h7.2.2.2.2.1
  | c :: c2 :: r, i, j, m, n, k + 1, ⟨_, _, _, _, _, _, h7⟩, hk => by
    have := h7.next k (by simpa using hk)
    simpa [cAt] using this
theorem ScOk.mono {l : List Change} {m n : Int} (h : ScOk 0 0 l m n) : ∀ (a b : Nat), a ≤ b → b < l.length → (cAt l a).Old ≤ (cAt l b).Old ∧ (cAt l a).Old + (cAt l a).OldLen ≤ (cAt l b).Old + (cAt l b).OldLen
  | a, 0, h1, h2 => by rw [show a = 0 by omega]; omega
  | a, b + 1, h1, h2 => by
    by_cases hab : a = b + 1
    · subst hab; omega
    · have h3 := h.mono a b (by omega) (by omega)
      have h4 := h.next b h2
      have h5 := h.get b (by omega)
      have h6 := h.get (b + 1) h2
      unfold in81 at *; omega

def minI (a b : Int) : Int := if b < a then b else a
def opens (l : List Change) (ctx : Int) (k : Nat) : Prop := k = 0 ∨ 2 * ctx < (cAt l k).Old - (cAt l (k - 1)).Old - (cAt l (k - 1)).OldLen
instance (l : List Change) (ctx : Int) (k : Nat) : Decidable (opens l ctx k) := by unfold opens; exact inferInstance
def hunk0 : Hunk := ⟨0, 0, ⟨0, 0⟩, ⟨0, 0⟩⟩
def hunkOpen (l : List Change) (ctx : Int) (k : Nat) : Hunk := ⟨k, 0, ⟨(cAt l k).Old - minI ctx (cAt l k).Old, 0⟩, ⟨(cAt l k).New - minI ctx (cAt l k).Old, 0⟩⟩
def hunkEnd (l : List Change) (m ctx : Int) (k : Nat) (h : Hunk) : Hunk :=
  let c := cAt l k
  let a := minI ctx (m - (c.Old + c.OldLen))
  ⟨h.First, k + 1, ⟨h.Old.From, c.Old + c.OldLen + a⟩, ⟨h.New.From, c.New + c.NewLen + a⟩⟩
def groupOpen (l : List Change) (ctx : Int) (k : Nat) (out : List Hunk) : List Hunk := if opens l ctx k then out ++ [hunkOpen l ctx k] else out
def groupTo (l : List Change) (m ctx : Int) : Nat → List Hunk
  | 0 => []
  | k + 1 => let out := groupOpen l ctx k (groupTo l m ctx k); out.set (out.length - 1) (hunkEnd l m ctx k (out.getD (out.length - 1) hunk0))
def groupOf (l : List Change) (m n ctx : Int) : List Hunk × Int := if ctx < 0 ∨ 1048576 < ctx then ([], 3) else if check8 l m n ≠ 0 then ([], check8 l m n) else (groupTo l m ctx l.length, 0)

theorem groupTo_len (l : List Change) (m ctx : Int) : ∀ k, (groupTo l m ctx k).length ≤ k ∧ (0 < k → 0 < (groupTo l m ctx k).length)
  | 0 => by simp [groupTo]
  | k + 1 => by
    have h := groupTo_len l m ctx k
    simp only [groupTo, List.length_set, groupOpen]
    split
    · simp only [List.length_append, List.length_cons, List.length_nil]; omega
    · rename_i ho
      have : k ≠ 0 := fun e => ho (.inl e)
      omega
def HunkOk (l : List Change) (m : Int) (k : Nat) (h : Hunk) : Prop :=
  ∃ a b : Nat, h.First = a ∧ h.Last = (b : Int) + 1 ∧ a ≤ b ∧ b < k ∧ 0 ≤ h.Old.From ∧ h.Old.From ≤ (cAt l a).Old ∧ (cAt l b).Old + (cAt l b).OldLen ≤ h.Old.To ∧ h.Old.To ≤ m ∧ -4096 ≤ h.New.From ∧ h.New.From ≤ 4096
theorem groupTo_ok {l : List Change} {m n ctx : Int} (hs : ScOk 0 0 l m n) (hc : 0 ≤ ctx) : ∀ k, k ≤ l.length → ∀ h ∈ groupTo l m ctx k, HunkOk l m k h
  | 0, _, h, hm => by simp [groupTo] at hm
  | k + 1, hk, h, hm => by
    have ih := groupTo_ok hs hc k (by omega)
    have hg := hs.get k (by omega)
    have hlen := groupTo_len l m ctx k
    simp only [groupTo] at hm
    obtain ⟨out, hout⟩ : ∃ out, out = groupOpen l ctx k (groupTo l m ctx k) := ⟨_, rfl⟩
    rw [← hout] at hm
    have hmin : ∀ x, 0 ≤ x → 0 ≤ minI ctx x ∧ minI ctx x ≤ x := fun x hx => by unfold minI; split <;> omega
    have h1 := hmin (cAt l k).Old hg.1.1
    have h2 := hmin (m - ((cAt l k).Old + (cAt l k).OldLen)) (by omega)
    obtain ⟨⟨g1, g2⟩, ⟨g3, g4⟩, ⟨g5, g6⟩, ⟨g7, g8⟩, g9, g10⟩ := hg
    have hend : ∀ h0 : Hunk, (∃ a : Nat, h0.First = a ∧ a ≤ k ∧ 0 ≤ h0.Old.From ∧ h0.Old.From ≤ (cAt l a).Old ∧ -4096 ≤ h0.New.From ∧ h0.New.From ≤ 4096) → HunkOk l m (k + 1) (hunkEnd l m ctx k h0) := by
      rintro h0 ⟨a, e1, e2, e3, e4, e5, e6⟩
      refine ⟨a, k, e1, rfl, e2, by omega, e3, e4, ?_, ?_, e5, e6⟩
      · show _ ≤ (cAt l k).Old + (cAt l k).OldLen + minI ctx (m - ((cAt l k).Old + (cAt l k).OldLen)); omega
      · show (cAt l k).Old + (cAt l k).OldLen + minI ctx (m - ((cAt l k).Old + (cAt l k).OldLen)) ≤ m; omega
    obtain ⟨p, hp, rfl⟩ := List.getElem_of_mem hm
    rw [List.length_set] at hp
    rw [List.getElem_set]
    split
    · rename_i hq
      refine hend _ ?_
      by_cases ho : opens l ctx k
      · have e : out = groupTo l m ctx k ++ [hunkOpen l ctx k] := by rw [hout, groupOpen, if_pos ho]
        have e2 : out.getD (out.length - 1) hunk0 = hunkOpen l ctx k := by rw [e]; simp
        rw [e2]
        refine ⟨k, rfl, Nat.le_refl _, ?_, ?_, ?_, ?_⟩
        · show 0 ≤ (cAt l k).Old - minI ctx (cAt l k).Old; omega
        · show (cAt l k).Old - minI ctx (cAt l k).Old ≤ _; omega
        · show -4096 ≤ (cAt l k).New - minI ctx (cAt l k).Old; omega
        · show (cAt l k).New - minI ctx (cAt l k).Old ≤ _; omega
      · have e : out = groupTo l m ctx k := by rw [hout, groupOpen, if_neg ho]
        have hlt : out.length - 1 < (groupTo l m ctx k).length := by rw [e] at hp ⊢; omega
        have e2 : out.getD (out.length - 1) hunk0 ∈ groupTo l m ctx k := by
          rw [e] at hlt ⊢
          rw [List.getD_eq_getElem?_getD, List.getElem?_eq_getElem hlt]
          exact List.getElem_mem hlt
        obtain ⟨a, b, e3, e4, e5, e6, e7, e8, e9, e10, e11, e12⟩ := ih _ e2
        exact ⟨a, e3, by omega, e7, e8, e11, e12⟩
    · rename_i hq
      have hin : out[p] ∈ groupTo l m ctx k := by
        by_cases ho : opens l ctx k
        · have e : out = groupTo l m ctx k ++ [hunkOpen l ctx k] := by rw [hout, groupOpen, if_pos ho]
          have hlt : p < (groupTo l m ctx k).length := by
            have : out.length = (groupTo l m ctx k).length + 1 := by rw [e]; simp
            omega
          have : out[p] = (groupTo l m ctx k)[p] := by simp only [e]; rw [List.getElem_append_left hlt]
          rw [this]; exact List.getElem_mem hlt
        · have e : out = groupTo l m ctx k := by rw [hout, groupOpen, if_neg ho]
          have : out[p] ∈ out := List.getElem_mem hp
          rw [← e]; exact this
      obtain ⟨a, b, e3, e4, e5, e6, e7⟩ := ih _ hin
      exact ⟨a, b, e3, e4, e5, by omega, e7⟩
end Go.AL

/- Patches as the document means them. No project text. -/
namespace Go.AL
open Go

def nameOk (s : Str) : Bool := decide (1 ≤ s.length ∧ s.length ≤ 200)
def linesNot (ls : List PatchLine) (k : UInt8) : List Str := (ls.filter (fun x => decide (x.Kind ≠ k))).map (·.Text)
def badLn (x : PatchLine) : Prop := ((x.Kind ≠ 32 ∧ x.Kind ≠ 45) ∧ x.Kind ≠ 43) ∨ lineOk x.Text = false
instance (x : PatchLine) : Decidable (badLn x) := by unfold badLn; exact inferInstance
def goodLn (x : PatchLine) : Bool := decide (¬ badLn x)
def someCh (ls : List PatchLine) : Bool := ls.any (fun x => decide (x.Kind ≠ 32))
def offPlace (some : Bool) (i j : Int) (h : PatchHunk) : Prop := ((((some = false ∨ h.Old < i) ∨ h.New < j) ∨ 4096 < h.Old) ∨ 4096 < h.New) ∨ h.Old - i ≠ h.New - j
instance (s : Bool) (i j : Int) (h : PatchHunk) : Decidable (offPlace s i j h) := by unfold offPlace; exact inferInstance
def oldN (h : PatchHunk) : Int := (linesNot h.Lines 43).length
def newN (h : PatchHunk) : Int := (linesNot h.Lines 45).length
def goodGo (i j : Int) : List PatchHunk → Bool
  | [] => true
  | h :: r => h.Lines.all goodLn && (decide (¬ offPlace (someCh h.Lines) i j h) && (decide (¬ (4096 < h.Old + oldN h ∨ 4096 < h.New + newN h)) && goodGo (h.Old + oldN h) (h.New + newN h) r))
def sideLines (hs : List PatchHunk) (k : UInt8) : List Str := (hs.map (fun h => linesNot h.Lines k)).flatten
def endedBut : List Str → Bool
  | [] => true
  | x :: r => (r.isEmpty || ended x) && endedBut r
def sideOk (hs : List PatchHunk) (k : UInt8) : Bool := endedBut (sideLines hs k)
def goodOf (hs : List PatchHunk) : Bool := goodGo 0 0 hs && (sideOk hs 43 && sideOk hs 45)
def markS : Str := [10, 92, 32, 78, 111, 32, 110, 101, 119, 108, 105, 110, 101, 32, 97, 116, 32, 101, 110, 100, 32, 111, 102, 32, 102, 105, 108, 101, 10]
def linePs (x : PatchLine) : List Str := if ended x.Text then [[x.Kind] ++ x.Text] else [[x.Kind] ++ x.Text, markS]
def headW (h : PatchHunk) : Str := [64, 64, 32, 45] ++ rangeOf h.Old (oldN h) ++ [32, 43] ++ rangeOf h.New (newN h) ++ [32, 64, 64, 10]
def hunkPs (h : PatchHunk) : List Str := headW h :: (h.Lines.map linePs).flatten
def namePs (p : Patch) : List Str := [[45, 45, 45, 32] ++ quoteOf p.OldName ++ [10], [43, 43, 43, 32] ++ quoteOf p.NewName ++ [10]]
def writePs (p : Patch) : List Str := namePs p ++ (p.Hunks.map hunkPs).flatten
def writeOf (p : Patch) : Str := (writePs p).flatten
def check12 (p : Patch) : Int := if nameOk p.OldName = false ∨ nameOk p.NewName = false then 120 else if goodOf p.Hunks = false then 121 else if 16777216 < (writeOf p).length then 1 else 0

def szL (x : PatchLine) : Nat := x.Text.length + 64
def szH (h : PatchHunk) : Nat := 64 + (h.Lines.map szL).sum
def szP (hs : List PatchHunk) : Nat := (hs.map szH).sum
structure PFit (p : Patch) : Prop where
  old : p.OldName.length ≤ 4194304
  new : p.NewName.length ≤ 4194304
  hunks : szP p.Hunks ≤ 268435456

theorem szL_take (ls : List PatchLine) (i : Nat) : ((ls.take i).map szL).sum ≤ (ls.map szL).sum := by
  conv => rhs; rw [← List.take_append_drop i ls, List.map_append, List.sum_append]
  omega
theorem szL_len (ls : List PatchLine) : 64 * ls.length ≤ (ls.map szL).sum := by
  induction ls with
  | nil => simp
  | cons x r ih => simp only [List.map_cons, List.sum_cons, List.length_cons, szL]; omega
theorem szL_mem {ls : List PatchLine} {x : PatchLine} (h : x ∈ ls) : x.Text.length + 64 ≤ (ls.map szL).sum := by
  induction ls with
  | nil => simp at h
  | cons y r ih =>
    simp only [List.map_cons, List.sum_cons]
    rcases List.mem_cons.1 h with rfl | h
    · unfold szL; omega
    · have := ih h; omega
theorem szP_mem {hs : List PatchHunk} {h : PatchHunk} (hm : h ∈ hs) : szH h ≤ szP hs := by
  unfold szP
  induction hs with
  | nil => simp at hm
  | cons y r ih =>
    simp only [List.map_cons, List.sum_cons]
    rcases List.mem_cons.1 hm with rfl | hm
    · omega
    · have := ih hm; omega
theorem szP_len (hs : List PatchHunk) : 64 * hs.length ≤ szP hs := by
  unfold szP
  induction hs with
  | nil => simp
  | cons x r ih => simp only [List.map_cons, List.sum_cons, List.length_cons, szH]; omega
theorem szP_take (hs : List PatchHunk) (i : Nat) : szP (hs.take i) ≤ szP hs := by
  unfold szP
  conv => rhs; rw [← List.take_append_drop i hs, List.map_append, List.sum_append]
  omega
theorem linesNot_len (ls : List PatchLine) (k : UInt8) : (linesNot ls k).length ≤ ls.length := by unfold linesNot; rw [List.length_map]; exact List.length_filter_le _ _
theorem linesNot_succ (ls : List PatchLine) (k : UInt8) (i : Nat) (h : i < ls.length) : linesNot (ls.take (i + 1)) k = if ls[i].Kind ≠ k then linesNot (ls.take i) k ++ [ls[i].Text] else linesNot (ls.take i) k := by
  unfold linesNot
  rw [List.take_succ_eq_append_getElem h, List.filter_append, List.map_append]
  by_cases hk : ls[i].Kind = k
  · rw [if_neg (by simp [hk])]; simp [hk]
  · rw [if_pos hk]; simp [hk]
theorem sideLines_succ (hs : List PatchHunk) (k : UInt8) (i : Nat) (h : i < hs.length) : sideLines (hs.take (i + 1)) k = sideLines (hs.take i) k ++ linesNot hs[i].Lines k := by
  unfold sideLines
  rw [List.take_succ_eq_append_getElem h, List.map_append, List.flatten_append]; simp only [List.map_cons, List.map_nil, List.flatten_cons, List.flatten_nil, List.append_nil]
theorem sideLines_len (hs : List PatchHunk) (k : UInt8) : 64 * (sideLines hs k).length ≤ szP hs := by
  induction hs with
  | nil => simp [sideLines]
  | cons h r ih =>
    have h1 := linesNot_len h.Lines k
    have h2 := szL_len h.Lines
    simp only [sideLines, List.map_cons, List.flatten_cons, List.length_append, szP, List.sum_cons, szH] at ih ⊢
    omega
theorem sideLines_mem {hs : List PatchHunk} {k : UInt8} {s : Str} (h : s ∈ sideLines hs k) : s.length ≤ szP hs := by
  unfold sideLines at h
  obtain ⟨l, hl, hs'⟩ := List.mem_flatten.1 h
  obtain ⟨hk, hhk, rfl⟩ := List.mem_map.1 hl
  unfold linesNot at hs'
  obtain ⟨x, hx, rfl⟩ := List.mem_map.1 hs'
  have h1 := szL_mem (List.mem_filter.1 hx).1
  have h2 := szP_mem hhk
  unfold szH at h2
  omega
theorem endedBut_drop (l : List Str) (i : Nat) (h : i + 1 < l.length) : endedBut (l.drop i) = (ended l[i] && endedBut (l.drop (i + 1))) := by
  rw [List.drop_eq_getElem_cons (by omega), endedBut]
  have : (l.drop (i + 1)).isEmpty = false := by
    rw [List.isEmpty_eq_false_iff]; intro e
    have := congrArg List.length e
    simp at this; omega
  rw [this]; rfl
theorem endedBut_last (l : List Str) (i : Nat) (h : l.length ≤ i + 1) : endedBut (l.drop i) = true := by
  rcases Nat.lt_or_ge i l.length with h' | h'
  · rw [List.drop_eq_getElem_cons h', List.drop_eq_nil_of_le h]; rfl
  · rw [List.drop_eq_nil_of_le h']; rfl
theorem esc_ge (c : UInt8) : 1 ≤ (escOf c).length := by
  unfold escOf
  split
  · simp
  · split
    · simp
    · split
      · simp
      · split <;> simp
theorem quoteOf_ge (s : Str) : s.length ≤ (quoteOf s).length := by
  have h : s.length ≤ ((s.map escOf).flatten).length := by
    induction s with
    | nil => simp
    | cons c r ih => have := esc_ge c; simp only [List.map_cons, List.flatten_cons, List.length_append, List.length_cons]; omega
  unfold quoteOf
  split
  · omega
  · simp only [List.length_cons, List.length_append, List.length_nil]; omega
theorem linePs_len (x : PatchLine) : (linePs x).length ≤ 2 ∧ 1 ≤ (linePs x).length := by unfold linePs; split <;> simp
theorem linePs_flat (x : PatchLine) : (linePs x).flatten.length ≤ szL x := by
  unfold linePs szL markS; split <;> simp <;> omega
theorem linesPs_flat (ls : List PatchLine) : (ls.map linePs).flatten.flatten.length ≤ (ls.map szL).sum := by
  induction ls with
  | nil => simp
  | cons x r ih => have := linePs_flat x; simp only [List.map_cons, List.flatten_cons, List.flatten_append, List.length_append, List.sum_cons]; omega
theorem linesPs_len (ls : List PatchLine) : (ls.map linePs).flatten.length ≤ 2 * ls.length := by
  induction ls with
  | nil => simp
  | cons x r ih => have := linePs_len x; simp only [List.map_cons, List.flatten_cons, List.length_append, List.length_cons]; omega
theorem headW_len (h : PatchHunk) : (headW h).length ≤ 52 := by
  have h1 := rangeOf_len h.Old (oldN h)
  have h2 := rangeOf_len h.New (newN h)
  unfold headW
  simp only [List.length_append, List.length_cons, List.length_nil]; omega
theorem hunkPs_flat (h : PatchHunk) : (hunkPs h).flatten.length ≤ szH h := by
  have h1 := headW_len h
  have h2 := linesPs_flat h.Lines
  unfold hunkPs szH
  simp only [List.flatten_cons, List.length_append]; omega
theorem hunksPs_flat (hs : List PatchHunk) : (hs.map hunkPs).flatten.flatten.length ≤ szP hs := by
  unfold szP
  induction hs with
  | nil => simp
  | cons x r ih => have := hunkPs_flat x; simp only [List.map_cons, List.flatten_cons, List.flatten_append, List.length_append, List.sum_cons]; omega
theorem hunkPs_len (h : PatchHunk) : (hunkPs h).length ≤ szH h := by
  have h1 := linesPs_len h.Lines
  have h2 := szL_len h.Lines
  unfold hunkPs szH
  simp only [List.length_cons]; omega
theorem hunksPs_len (hs : List PatchHunk) : (hs.map hunkPs).flatten.length ≤ szP hs := by
  unfold szP
  induction hs with
  | nil => simp
  | cons x r ih => have := hunkPs_len x; simp only [List.map_cons, List.flatten_cons, List.length_append, List.sum_cons]; omega
theorem namePs_flat (p : Patch) : (namePs p).flatten.length ≤ 4 * p.OldName.length + 4 * p.NewName.length + 14 := by
  have h1 := quoteOf_len p.OldName
  have h2 := quoteOf_len p.NewName
  unfold namePs
  simp only [List.flatten_cons, List.flatten_nil, List.length_append, List.length_cons, List.length_nil]; omega
theorem hunkTo_succ (hs : List PatchHunk) (k : Nat) (h : k < hs.length) : ((hs.take (k + 1)).map hunkPs).flatten = ((hs.take k).map hunkPs).flatten ++ hunkPs hs[k] := by
  rw [List.take_succ_eq_append_getElem h, List.map_append, List.flatten_append]; simp only [List.map_cons, List.map_nil, List.flatten_cons, List.flatten_nil, List.append_nil]
theorem lineTo_succ (ls : List PatchLine) (k : Nat) (h : k < ls.length) : ((ls.take (k + 1)).map linePs).flatten = ((ls.take k).map linePs).flatten ++ linePs ls[k] := by
  rw [List.take_succ_eq_append_getElem h, List.map_append, List.flatten_append]; simp only [List.map_cons, List.map_nil, List.flatten_cons, List.flatten_nil, List.append_nil]
theorem goodGo_range : ∀ (hs : List PatchHunk) (i j : Int), goodGo i j hs = true → 0 ≤ i → 0 ≤ j → ∀ h ∈ hs, (0 ≤ h.Old ∧ h.Old ≤ 4096) ∧ (0 ≤ h.New ∧ h.New ≤ 4096)
  | [], _, _, _, _, _, h, hm => by simp at hm
  | x :: r, i, j, hg, hi, hj, h, hm => by
    simp only [goodGo, Bool.and_eq_true, decide_eq_true_eq] at hg
    obtain ⟨_, h1, h2, h3⟩ := hg
    unfold offPlace at h1
    have hx : (0 ≤ x.Old ∧ x.Old ≤ 4096) ∧ (0 ≤ x.New ∧ x.New ≤ 4096) := by omega
    rcases List.mem_cons.1 hm with rfl | hm
    · exact hx
    · exact goodGo_range r _ _ h3 (by unfold oldN; omega) (by unfold newN; omega) h hm
theorem goodOf_range {hs : List PatchHunk} (h : goodOf hs = true) : ∀ x ∈ hs, (0 ≤ x.Old ∧ x.Old ≤ 4096) ∧ (0 ≤ x.New ∧ x.New ≤ 4096) := by
  unfold goodOf at h
  rw [Bool.and_eq_true] at h
  exact goodGo_range hs 0 0 h.1 (by omega) (by omega)
end Go.AL

/- A patch made from a script's groups. No project text. -/
namespace Go.AL
open Go

def putOf (k : UInt8) (ts : List Str) : List PatchLine := ts.map fun t => ⟨k, t⟩
theorem putOf_succ (k : UInt8) (ts : List Str) (i : Nat) (h : i < ts.length) : putOf k (ts.take (i + 1)) = putOf k (ts.take i) ++ [⟨k, ts[i]⟩] := by
  unfold putOf; rw [List.take_succ_eq_append_getElem h, List.map_append]; rfl
theorem putOf_len (k : UInt8) (ts : List Str) : (putOf k ts).length = ts.length := by simp [putOf]
def sub (x : List Str) (a b : Int) : List Str := (x.drop a.toNat).take (b.toNat - a.toNat)
theorem sub_len (x : List Str) (a b : Int) : (sub x a b).length ≤ x.length := by unfold sub; rw [List.length_take, List.length_drop]; omega
def endC (c : Change) : Int := c.Old + c.OldLen
/-- where the old lines stand after t changes from change a on -/
def posTo (l : List Change) (i0 : Int) (a t : Nat) : Int := if t = 0 then i0 else endC (cAt l (a + t - 1))
theorem posTo_succ (l : List Change) (i0 : Int) (a t : Nat) : posTo l i0 a (t + 1) = endC (cAt l (a + t)) := by
  unfold posTo; rw [if_neg (by omega)]; congr 2
def madeTo (l : List Change) (x y : List Str) (i0 : Int) (a : Nat) : Nat → List PatchLine
  | 0 => []
  | t + 1 => madeTo l x y i0 a t ++ putOf 32 (sub x (posTo l i0 a t) (cAt l (a + t)).Old) ++ putOf 45 (sub x (cAt l (a + t)).Old (endC (cAt l (a + t)))) ++ putOf 43 (sub y (cAt l (a + t)).New ((cAt l (a + t)).New + (cAt l (a + t)).NewLen))
def hunkOfG (l : List Change) (x y : List Str) (h : Hunk) : PatchHunk :=
  ⟨h.Old.From, h.New.From, madeTo l x y h.Old.From h.First.toNat (h.Last.toNat - h.First.toNat) ++ putOf 32 (sub x (posTo l h.Old.From h.First.toNat (h.Last.toNat - h.First.toNat)) h.Old.To)⟩
theorem madeTo_len (l : List Change) (x y : List Str) (i0 : Int) (a t : Nat) : (madeTo l x y i0 a t).length ≤ t * (2 * x.length + y.length) := by
  induction t with
  | zero => simp [madeTo]
  | succ t ih =>
    have h1 := sub_len x (posTo l i0 a t) (cAt l (a + t)).Old
    have h2 := sub_len x (cAt l (a + t)).Old (endC (cAt l (a + t)))
    have h3 := sub_len y (cAt l (a + t)).New ((cAt l (a + t)).New + (cAt l (a + t)).NewLen)
    simp only [madeTo, List.length_append, putOf_len]
    rw [Nat.succ_mul]; omega
def patch0 : Patch := ⟨[], [], []⟩
def scriptOf (x y : List Str) : List Change := walkOf (idsOf (namesOf [x, y]) x) (idsOf (namesOf [x, y]) y)
def madeHunks (x y : List Str) (ctx : Int) : List PatchHunk := (groupOf (scriptOf x y) x.length y.length ctx).1.map (hunkOfG (scriptOf x y) x y)
def make12 (on nn a b : Str) (ctx : Int) : Patch × Int :=
  if nameOk on = false ∨ nameOk nn = false then (patch0, 120)
  else if (splitOf a).2 ≠ 0 then (patch0, (splitOf a).2)
  else if (splitOf b).2 ≠ 0 then (patch0, (splitOf b).2)
  else if (groupOf (scriptOf (splitOf a).1 (splitOf b).1) (splitOf a).1.length (splitOf b).1.length ctx).2 ≠ 0 then (patch0, (groupOf (scriptOf (splitOf a).1 (splitOf b).1) (splitOf a).1.length (splitOf b).1.length ctx).2)
  else if check12 ⟨on, nn, madeHunks (splitOf a).1 (splitOf b).1 ctx⟩ ≠ 0 then (patch0, check12 ⟨on, nn, madeHunks (splitOf a).1 (splitOf b).1 ctx⟩)
  else (⟨on, nn, madeHunks (splitOf a).1 (splitOf b).1 ctx⟩, 0)
theorem scriptOf_len (x y : List Str) : (scriptOf x y).length ≤ x.length + 1 := by
  unfold scriptOf walkOf madeOf
  have h1 := madeGo_length (walkGo 0 0 (idsOf (namesOf [x, y]) x) (idsOf (namesOf [x, y]) y)) 0 0 ((idsOf (namesOf [x, y]) x).length) ((idsOf (namesOf [x, y]) y).length)
  have h2 := walkGo_length 0 0 (idsOf (namesOf [x, y]) x) (idsOf (namesOf [x, y]) y)
  have h3 : (idsOf (namesOf [x, y]) x).length = x.length := by simp [idsOf]
  omega
end Go.AL

/- Patches applied. No project text. -/
namespace Go.AL
open Go

def fitsOf (h : PatchHunk) (lines : List Str) : Bool := if (lines.length : Int) < h.Old + oldN h then false else decide ((lines.drop h.Old.toNat).take (linesNot h.Lines 43).length = linesNot h.Lines 43)
theorem eqAt (x old : List Str) (o i : Nat) (hi : i < old.length) (hx : o + old.length ≤ x.length) :
    ((x.drop (o + i)).take (old.length - i) = old.drop i) ↔ (x[o + i]'(by omega) = old[i] ∧ (x.drop (o + (i + 1))).take (old.length - (i + 1)) = old.drop (i + 1)) := by
  rw [List.drop_eq_getElem_cons (show o + i < x.length by omega), List.drop_eq_getElem_cons hi, show old.length - i = (old.length - (i + 1)) + 1 by omega, List.take_succ_cons, List.cons.injEq]
  rfl
/-- how many of the first hunks fit -/
def fitN : List PatchHunk → List Str → Nat
  | [], _ => 0
  | h :: r, x => if fitsOf h x = true then fitN r x + 1 else 0
theorem fitN_le (hs : List PatchHunk) (x : List Str) : fitN hs x ≤ hs.length := by
  induction hs with
  | nil => simp [fitN]
  | cons h r ih => simp only [fitN]; split <;> simp <;> omega
def fits14 (p : Patch) (blob : Str) : Int × Int := if check12 p ≠ 0 then (0, check12 p) else if (splitOf blob).2 ≠ 0 then (0, (splitOf blob).2) else (fitN p.Hunks (splitOf blob).1, 0)

def hAt (hs : List PatchHunk) (k : Nat) : PatchHunk := hs.getD k ⟨0, 0, []⟩
theorem hAt_get {hs : List PatchHunk} {k : Nat} (h : k < hs.length) : hs[k]? = some (hAt hs k) := by
  unfold hAt; rw [List.getD_eq_getElem?_getD, List.getElem?_eq_getElem h]; rfl
theorem hAt_mem {hs : List PatchHunk} {k : Nat} (h : k < hs.length) : hAt hs k ∈ hs := List.mem_of_getElem? (hAt_get h)
def atTo (hs : List PatchHunk) (k : Nat) : Int := if k = 0 then 0 else (hAt hs (k - 1)).Old + oldN (hAt hs (k - 1))
def outTo (hs : List PatchHunk) (x : List Str) : Nat → List Str
  | 0 => []
  | k + 1 => outTo hs x k ++ sub x (atTo hs k) (hAt hs k).Old ++ linesNot (hAt hs k).Lines 45
def applyOf (hs : List PatchHunk) (x : List Str) : Str × Int :=
  let out := outTo hs x hs.length ++ x.drop (atTo hs hs.length).toNat
  if listOk out = false then ([], 140) else joinOf out
def apply14 (p : Patch) (blob : Str) : Str × Int := if (fits14 p blob).2 ≠ 0 then ([], (fits14 p blob).2) else if (fits14 p blob).1 < p.Hunks.length then ([], 140) else applyOf p.Hunks (linesOf blob)

theorem fitN_all : ∀ (hs : List PatchHunk) (x : List Str), fitN hs x = hs.length → ∀ h ∈ hs, fitsOf h x = true
  | [], _, _, h, hm => by simp at hm
  | y :: r, x, he, h, hm => by
    simp only [fitN] at he
    split at he
    · rename_i hy
      rcases List.mem_cons.1 hm with rfl | hm
      · exact hy
      · exact fitN_all r x (by simpa using he) h hm
    · simp at he
theorem fitsOf_le {h : PatchHunk} {x : List Str} (hf : fitsOf h x = true) : h.Old + oldN h ≤ x.length := by
  unfold fitsOf at hf
  split at hf
  · cases hf
  · omega
theorem goodGo_order : ∀ (hs : List PatchHunk) (i j : Int), goodGo i j hs = true → ∀ k, k < hs.length → (if k = 0 then i else (hAt hs (k - 1)).Old + oldN (hAt hs (k - 1))) ≤ (hAt hs k).Old
  | [], _, _, _, k, hk => by simp at hk
  | y :: r, i, j, hg, k, hk => by
    simp only [goodGo, Bool.and_eq_true, decide_eq_true_eq] at hg
    obtain ⟨_, h1, _, h3⟩ := hg
    unfold offPlace at h1
    match k with
    | 0 => simp only [if_pos]; show i ≤ y.Old; omega
    | 1 =>
      have := goodGo_order r _ _ h3 0 (by simpa using hk)
      simpa [hAt] using this
    | k + 2 =>
      have := goodGo_order r _ _ h3 (k + 1) (by simp only [List.length_cons] at hk; omega)
      simpa [hAt] using this
theorem oldN_nn (h : PatchHunk) : 0 ≤ oldN h := by unfold oldN; omega
theorem sub_flat (x : List Str) (a b : Int) (_h0 : 0 ≤ a) (h1 : a ≤ b) : (x.take a.toNat).flatten.length + (sub x a b).flatten.length = (x.take b.toNat).flatten.length := by
  have e : x.take b.toNat = x.take a.toNat ++ sub x a b := by
    unfold sub
    rw [show b.toNat = a.toNat + (b.toNat - a.toNat) by omega, List.take_add]; congr 2; omega
  rw [e, List.flatten_append, List.length_append]
theorem szP_succ (hs : List PatchHunk) (k : Nat) (h : k < hs.length) : szP (hs.take (k + 1)) = szP (hs.take k) + szH (hAt hs k) := by
  have e : hs[k] = hAt hs k := by have := hAt_get h; rw [List.getElem?_eq_getElem h] at this; exact Option.some.inj this
  unfold szP
  rw [List.take_succ_eq_append_getElem h, List.map_append, List.sum_append, e]; simp
theorem linesNot_flat (ls : List PatchLine) (k : UInt8) : (linesNot ls k).flatten.length + (linesNot ls k).length ≤ (ls.map szL).sum := by
  unfold linesNot
  induction ls with
  | nil => simp
  | cons x r ih =>
    by_cases hx : x.Kind = k
    · simp [hx, szL] at ih ⊢; omega
    · simp [hx, szL] at ih ⊢; omega
theorem outTo_len {hs : List PatchHunk} {x : List Str} (ho : ∀ k, k < hs.length → 0 ≤ atTo hs k ∧ atTo hs k ≤ (hAt hs k).Old ∧ (hAt hs k).Old + oldN (hAt hs k) ≤ x.length) :
    ∀ k, k ≤ hs.length → (outTo hs x k).length ≤ (atTo hs k).toNat + szP (hs.take k) ∧ (outTo hs x k).flatten.length ≤ (x.take (atTo hs k).toNat).flatten.length + szP (hs.take k)
  | 0, _ => by simp [outTo]
  | k + 1, hk => by
    obtain ⟨h1, h2⟩ := outTo_len ho k (by omega)
    obtain ⟨h3, h4, h5⟩ := ho k (by omega)
    have h6 := oldN_nn (hAt hs k)
    have e : atTo hs (k + 1) = (hAt hs k).Old + oldN (hAt hs k) := by unfold atTo; rw [if_neg (by omega)]; rfl
    have h7 := sub_flat x (atTo hs k) (hAt hs k).Old h3 h4
    have h8 := szP_succ hs k (by omega)
    have h9 := linesNot_flat (hAt hs k).Lines 45
    have h10 := sub_flat x (hAt hs k).Old ((hAt hs k).Old + oldN (hAt hs k)) (by omega) (by omega)
    have h11 : (sub x (atTo hs k) (hAt hs k).Old).length ≤ (hAt hs k).Old.toNat - (atTo hs k).toNat := by unfold sub; rw [List.length_take]; omega
    unfold szH at h8
    simp only [outTo, List.length_append, List.flatten_append, e]
    constructor <;> omega
end Go.AL

/- Open sides of a patch: the program's check and the document's. No project text. -/
namespace Go.AL
open Go

/-- the open sides behind some lines; none: a line behind an open one -/
def openGo (o n : Bool) : List PatchLine → Option (Bool × Bool)
  | [] => some (o, n)
  | x :: r =>
    if x.Kind ≠ 43 ∧ o = true then none
    else if x.Kind ≠ 45 ∧ n = true then none
    else openGo (if x.Kind ≠ 43 then !ended x.Text else o) (if x.Kind ≠ 45 then !ended x.Text else n) r
/-- one side's texts, behind an open line or not -/
def closedB : Bool → List Str → Bool
  | _, [] => true
  | o, s :: r => !o && closedB (!ended s) r
def lastOpen (o : Bool) : List Str → Bool
  | [] => o
  | s :: r => lastOpen (!ended s) r
theorem closedB_append : ∀ (a b : List Str) (o : Bool), closedB o (a ++ b) = (closedB o a && closedB (lastOpen o a) b)
  | [], b, o => by simp [closedB, lastOpen]
  | s :: r, b, o => by simp only [List.cons_append, closedB, lastOpen, closedB_append r b]; cases o <;> simp
theorem closedB_ended : ∀ (l : List Str), closedB false l = endedBut l
  | [] => rfl
  | s :: r => by
    have ih := closedB_ended r
    simp only [closedB, endedBut]
    cases he : ended s
    · cases r with
      | nil => rfl
      | cons t u => simp [closedB]
    · rw [← ih]; cases r <;> simp [closedB]
theorem openGo_sides : ∀ (ls : List PatchLine) (o n : Bool), openGo o n ls = if closedB o (linesNot ls 43) && closedB n (linesNot ls 45) then some (lastOpen o (linesNot ls 43), lastOpen n (linesNot ls 45)) else none
  | [], o, n => by simp [openGo, linesNot, closedB, lastOpen]
  | x :: r, o, n => by
    have c1 : linesNot (x :: r) 43 = if x.Kind ≠ 43 then x.Text :: linesNot r 43 else linesNot r 43 := by
      unfold linesNot; by_cases h : x.Kind = 43 <;> simp [h]
    have c2 : linesNot (x :: r) 45 = if x.Kind ≠ 45 then x.Text :: linesNot r 45 else linesNot r 45 := by
      unfold linesNot; by_cases h : x.Kind = 45 <;> simp [h]
    rw [openGo, openGo_sides r, c1, c2]
    by_cases h1 : x.Kind = 43 <;> by_cases h2 : x.Kind = 45 <;> cases o <;> cases n <;> simp [h1, h2, closedB, lastOpen]

def badPlace (i j : Int) (h : PatchHunk) : Prop := ((((h.Old < 0 ∨ h.New < 0) ∨ 4096 < h.Old) ∨ 4096 < h.New) ∨ h.Old < i) ∨ h.Old - i ≠ h.New - j
instance (i j : Int) (h : PatchHunk) : Decidable (badPlace i j h) := by unfold badPlace; exact inferInstance
def wellGo (i j : Int) (o n : Bool) : List PatchHunk → Bool
  | [] => true
  | h :: r =>
    (h.Lines.all goodLn && someCh h.Lines) && (decide (¬ badPlace i j h) &&
      match openGo o n h.Lines with
      | none => false
      | some (o', n') => decide (h.Old + oldN h ≤ 4096 ∧ h.New + newN h ≤ 4096) && wellGo (h.Old + oldN h) (h.New + newN h) o' n' r)
theorem sideLines_cons (h : PatchHunk) (r : List PatchHunk) (k : UInt8) : sideLines (h :: r) k = linesNot h.Lines k ++ sideLines r k := rfl
theorem well_eq : ∀ (hs : List PatchHunk) (i j : Int) (o n : Bool), 0 ≤ i → 0 ≤ j → wellGo i j o n hs = (goodGo i j hs && (closedB o (sideLines hs 43) && closedB n (sideLines hs 45)))
  | [], i, j, o, n, _, _ => by simp [wellGo, goodGo, sideLines, closedB]
  | h :: r, i, j, o, n, hi, hj => by
    rw [wellGo, goodGo, sideLines_cons, sideLines_cons, closedB_append, closedB_append, openGo_sides]
    have a1 := oldN_nn h
    have a2 : 0 ≤ newN h := by unfold newN; omega
    cases e1 : h.Lines.all goodLn
    · simp
    cases e2 : someCh h.Lines
    · have : decide (¬ offPlace false i j h) = false := decide_eq_false (fun hh => hh (by unfold offPlace; simp))
      rw [this]; simp
    have e3 : decide (¬ badPlace i j h) = decide (¬ offPlace true i j h) := by
      apply decide_eq_decide.2
      unfold badPlace offPlace
      constructor <;> intro hh <;> simp only [not_or, Bool.true_eq_false, not_false_eq_true, true_and] at hh ⊢ <;> omega
    rw [e3]
    by_cases hp : offPlace true i j h
    · rw [decide_eq_false (fun hh => hh hp)]; simp
    rw [decide_eq_true hp]
    have hb : 0 ≤ h.Old ∧ 0 ≤ h.New := by unfold offPlace at hp; simp only [not_or] at hp; omega
    have e4 : decide (h.Old + oldN h ≤ 4096 ∧ h.New + newN h ≤ 4096) = decide (¬ (4096 < h.Old + oldN h ∨ 4096 < h.New + newN h)) := decide_eq_decide.2 (by omega)
    have ih := well_eq r (h.Old + oldN h) (h.New + newN h) (lastOpen o (linesNot h.Lines 43)) (lastOpen n (linesNot h.Lines 45)) (by omega) (by omega)
    cases e5 : closedB o (linesNot h.Lines 43) <;> cases e6 : closedB n (linesNot h.Lines 45) <;> simp [e4, ih, Bool.and_assoc]
theorem well_good (hs : List PatchHunk) : wellGo 0 0 false false hs = goodOf hs := by
  rw [well_eq hs 0 0 false false (by omega) (by omega), closedB_ended, closedB_ended]; rfl
end Go.AL

/- Bounds on the table that Make makes. No project text. -/
namespace Go.AL
open Go

theorem textsLen_le (rows : List Row) (B : Nat) (h : ∀ r ∈ rows, r.Text.length ≤ B) : textsLen rows ≤ rows.length * B := by
  unfold textsLen
  induction rows with
  | nil => simp
  | cons r rs ih =>
    have h1 := ih fun x hx => h x (by simp [hx])
    have h2 := h r (by simp)
    simp only [List.map_cons, List.flatten_cons, List.length_append, List.length_cons, Nat.add_mul, Nat.one_mul]
    omega

theorem line_len (b s : Str) (h : s ∈ linesOf b) : s.length ≤ b.length := by
  have h1 : (linesOf b).flatten = b := by
    have key : ∀ (s cur : Str), (linesAux cur s).flatten = cur ++ s := by
      intro s
      induction s with
      | nil => intro cur; unfold linesAux; split <;> simp [*]
      | cons c r ih => intro cur; unfold linesAux; split <;> simp [ih]
    exact key b []
  have h2 : ∀ (l : List Str), s ∈ l → s.length ≤ l.flatten.length := by
    intro l
    induction l with
    | nil => intro h; cases h
    | cons x r ih =>
      intro h
      rcases List.mem_cons.1 h with rfl | h
      · simp
      · have := ih h; simp only [List.flatten_cons, List.length_append]; omega
  have := h2 _ h; rw [h1] at this; exact this

theorem make16_rows (result : Str) (parents : List Str) (B : Nat) (h0 : result.length ≤ B) (h1 : ∀ b ∈ parents, b.length ≤ B) :
    rowsIn (make16 result parents).1.Rows ∧ (make16 result parents).1.Rows.length ≤ (B + 1) * (32 * B + 1) ∧ ∀ r ∈ (make16 result parents).1.Rows, r.Text.length ≤ B := by
  have hnil : rowsIn [] ∧ ([] : List Row).length ≤ (B + 1) * (32 * B + 1) ∧ ∀ r ∈ ([] : List Row), r.Text.length ≤ B := ⟨fun r hr => (by cases hr), (by simp), fun r hr => (by cases hr)⟩
  by_cases hn : parents.length < 1 ∨ 32 < parents.length
  · rw [make16, if_pos hn]; exact hnil
  obtain ⟨fs, hfs⟩ : ∃ fs, fs = linesOf result :: parents.map linesOf := ⟨_, rfl⟩
  obtain ⟨names, hnames⟩ : ∃ names, names = namesOf fs := ⟨_, rfl⟩
  obtain ⟨s, hs⟩ : ∃ s, s = loomAt (fs.map (idsOf names)) (linesOf result).length parents.length parents.length := ⟨_, rfl⟩
  have hm : make16 result parents = if ∃ k, k < (linesOf result).length + 1 ∧ (coalesceOf (s.2 k)).2 ≠ 0 then (⟨0, []⟩, 1) else (⟨parents.length, rowsTo names (linesOf result) s ((linesOf result).length + 1)⟩, 0) := by
    rw [make16, if_neg hn, hs, hnames, hfs]
  rw [hm]
  split
  · exact hnil
  have hfB : ∀ f ∈ fs, f.length ≤ B ∧ ∀ t ∈ f, t.length ≤ B := by
    intro f hf
    rw [hfs] at hf
    rcases List.mem_cons.1 hf with rfl | hf
    · exact ⟨by have := linesOf_length result; omega, fun t ht => by have := line_len _ _ ht; omega⟩
    · obtain ⟨b, hb, rfl⟩ := List.mem_map.1 hf
      have := h1 b hb
      exact ⟨by have := linesOf_length b; omega, fun t ht => by have := line_len _ _ ht; omega⟩
  have hnB : ∀ t ∈ names, t.length ≤ B := by
    intro t ht
    rw [hnames] at ht
    obtain ⟨f, hf, h2⟩ := List.mem_flatten.1 (namesOf_sub fs t ht)
    exact (hfB f hf).2 t h2
  have hid : ∀ x ∈ fs.map (idsOf names), x.length ≤ B ∧ ∀ v ∈ x, (fun _ : Int => True) v := by
    intro x hx
    obtain ⟨f, hf, rfl⟩ := List.mem_map.1 hx
    exact ⟨by rw [idsOf, List.length_map]; exact (hfB f hf).1, fun _ _ => trivial⟩
  have hok : LoomOk (fun _ => True) B (linesOf result).length parents.length s := by rw [hs]; exact loomAt_ok hid _
  have hL : (linesOf result).length ≤ B := (hfB _ (by rw [hfs]; simp)).1
  have hcs : ∀ k, (coalesceOf (s.2 k)).1.length ≤ 32 * B ∧ ∀ m ∈ (coalesceOf (s.2 k)).1, 0 ≤ m.Parents ∧ m.Parents < 4294967296 := fun k => by
    have h2 := hok.gaps k
    have h3 := coalesce_spec (fun _ => True) B (s.2 k) h2.2
    rw [h2.1] at h3
    have : parents.length * B ≤ 32 * B := Nat.mul_le_mul_right _ (by omega)
    exact ⟨by omega, fun m hmem => (h3.2 m hmem).1⟩
  have hgetD : ∀ (l : List Str) (k : Nat), (∀ t ∈ l, t.length ≤ B) → (l.getD k []).length ≤ B := by
    intro l k hl
    rw [List.getD_eq_getElem?_getD]
    cases h : l[k]? with
    | none => simp
    | some t => exact hl t (List.mem_of_getElem? h)
  have key : ∀ k, k ≤ (linesOf result).length + 1 → rowsIn (rowsTo names (linesOf result) s k) ∧ (rowsTo names (linesOf result) s k).length ≤ k * (32 * B + 1) ∧ ∀ r ∈ rowsTo names (linesOf result) s k, r.Text.length ≤ B := by
    intro k
    induction k with
    | zero => intro _; simp only [rowsTo, List.range_zero, List.map_nil, List.flatten_nil]; exact ⟨fun r hr => (by cases hr), by simp, fun r hr => (by cases hr)⟩
    | succ k ih =>
      intro hk
      obtain ⟨i1, i2, i3⟩ := ih (by omega)
      have hc := hcs k
      have hgap : ∀ r ∈ rowsOfGap names (linesOf result) s k, (0 ≤ r.Marks ∧ r.Marks < 4294967296) ∧ r.Text.length ≤ B := by
        intro r hr
        unfold rowsOfGap at hr
        rcases List.mem_append.1 hr with h | h
        · obtain ⟨m, hmem, rfl⟩ := List.mem_map.1 h
          exact ⟨hc.2 m hmem, hgetD _ _ hnB⟩
        · split at h
          · rename_i hkl
            simp only [List.mem_singleton] at h
            subst h
            refine ⟨?_, hgetD _ _ (hfB _ (by rw [hfs]; simp)).2⟩
            have : k < s.1.length := by rw [hok.len]; exact hkl
            show 0 ≤ s.1.getD k 0 ∧ s.1.getD k 0 < 4294967296
            rw [List.getD_eq_getElem?_getD, List.getElem?_eq_getElem this]
            exact hok.marks _ (List.getElem_mem this)
          · cases h
      have hgl : (rowsOfGap names (linesOf result) s k).length ≤ 32 * B + 1 := by
        unfold rowsOfGap
        rw [List.length_append, List.length_map]
        have := hc.1
        split <;> simp <;> omega
      rw [rowsTo_succ]
      refine ⟨fun r hr => ?_, by rw [List.length_append, Nat.add_mul, Nat.one_mul]; omega, fun r hr => ?_⟩
      · rcases List.mem_append.1 hr with h | h
        · exact i1 r h
        · exact (hgap r h).1
      · rcases List.mem_append.1 hr with h | h
        · exact i3 r h
        · exact (hgap r h).2
  obtain ⟨k1, k2, k3⟩ := key _ (Nat.le_refl _)
  have : ((linesOf result).length + 1) * (32 * B + 1) ≤ (B + 1) * (32 * B + 1) := Nat.mul_le_mul_right _ (by omega)
  exact ⟨k1, by simp only; omega, k3⟩
end Go.AL

/- Sizes of made patches; what Apply has put together. No project text. -/
namespace Go.AL
open Go

theorem outTo_lenK {hs : List PatchHunk} {x : List Str} :
    ∀ k, k ≤ hs.length → (∀ j, j < k → 0 ≤ atTo hs j ∧ atTo hs j ≤ (hAt hs j).Old ∧ (hAt hs j).Old + oldN (hAt hs j) ≤ x.length) → (outTo hs x k).length ≤ (atTo hs k).toNat + szP (hs.take k) ∧ (outTo hs x k).flatten.length ≤ (x.take (atTo hs k).toNat).flatten.length + szP (hs.take k)
  | 0, _, _ => by simp [outTo]
  | k + 1, hk, ho => by
    obtain ⟨h1, h2⟩ := outTo_lenK k (by omega) (fun j hj => ho j (by omega))
    obtain ⟨h3, h4, h5⟩ := ho k (by omega)
    have h6 := oldN_nn (hAt hs k)
    have e : atTo hs (k + 1) = (hAt hs k).Old + oldN (hAt hs k) := by unfold atTo; rw [if_neg (by omega)]; rfl
    have h7 := sub_flat x (atTo hs k) (hAt hs k).Old h3 h4
    have h8 := szP_succ hs k (by omega)
    have h9 := linesNot_flat (hAt hs k).Lines 45
    have h10 := sub_flat x (hAt hs k).Old ((hAt hs k).Old + oldN (hAt hs k)) (by omega) (by omega)
    have h11 : (sub x (atTo hs k) (hAt hs k).Old).length ≤ (hAt hs k).Old.toNat - (atTo hs k).toNat := by unfold sub; rw [List.length_take]; omega
    unfold szH at h8
    simp only [outTo, List.length_append, List.flatten_append, e]
    constructor <;> omega

/-- lines of at most L bytes -/
theorem szL_le (ls : List PatchLine) (L : Nat) (h : ∀ x ∈ ls, x.Text.length ≤ L) : (ls.map szL).sum ≤ ls.length * (L + 64) := by
  induction ls with
  | nil => simp
  | cons x r ih =>
    have h1 := ih (fun y hy => h y (by simp [hy]))
    have h2 := h x (by simp)
    simp only [List.map_cons, List.sum_cons, List.length_cons, Nat.succ_mul]
    unfold szL at *; omega
theorem szP_le (hs : List PatchHunk) (B : Nat) (h : ∀ x ∈ hs, szH x ≤ B) : szP hs ≤ hs.length * B := by
  induction hs with
  | nil => simp [szP]
  | cons x r ih =>
    have h1 := ih (fun y hy => h y (by simp [hy]))
    have h2 := h x (by simp)
    simp only [szP, List.map_cons, List.sum_cons, List.length_cons, Nat.succ_mul] at *
    omega
theorem sub_mem {x : List Str} {a b : Int} {s : Str} (h : s ∈ sub x a b) : s ∈ x := by
  unfold sub at h
  exact List.mem_of_mem_drop (List.mem_of_mem_take h)
theorem putOf_mem {k : UInt8} {ts : List Str} {q : PatchLine} (h : q ∈ putOf k ts) : q.Text ∈ ts := by
  unfold putOf at h
  obtain ⟨t, ht, rfl⟩ := List.mem_map.1 h
  exact ht
theorem madeTo_mem (l : List Change) (x y : List Str) (i0 : Int) (a : Nat) : ∀ (t : Nat) (q : PatchLine), q ∈ madeTo l x y i0 a t → q.Text ∈ x ∨ q.Text ∈ y
  | 0, q, h => by simp [madeTo] at h
  | t + 1, q, h => by
    simp only [madeTo, List.mem_append] at h
    rcases h with ((h | h) | h) | h
    · exact madeTo_mem l x y i0 a t q h
    · exact .inl (sub_mem (putOf_mem h))
    · exact .inl (sub_mem (putOf_mem h))
    · exact .inr (sub_mem (putOf_mem h))
theorem hunkOfG_sz (l : List Change) (x y : List Str) (h : Hunk) (L T : Nat) (hx : ∀ s ∈ x, s.length ≤ L) (hy : ∀ s ∈ y, s.length ≤ L) (ht : h.Last.toNat - h.First.toNat ≤ T) :
    szH (hunkOfG l x y h) ≤ 64 + (T * (2 * x.length + y.length) + x.length) * (L + 64) := by
  unfold szH
  have h1 : ∀ q ∈ (hunkOfG l x y h).Lines, q.Text.length ≤ L := by
    intro q hq
    simp only [hunkOfG, List.mem_append] at hq
    rcases hq with hq | hq
    · rcases madeTo_mem _ _ _ _ _ _ _ hq with h | h
      · exact hx _ h
      · exact hy _ h
    · exact hx _ (sub_mem (putOf_mem hq))
  have h2 := szL_le _ L h1
  have h3 : (hunkOfG l x y h).Lines.length ≤ T * (2 * x.length + y.length) + x.length := by
    simp only [hunkOfG, List.length_append, putOf_len]
    have h4 := madeTo_len l x y h.Old.From h.First.toNat (h.Last.toNat - h.First.toNat)
    have h5 := sub_len x (posTo l h.Old.From h.First.toNat (h.Last.toNat - h.First.toNat)) h.Old.To
    have h6 : (h.Last.toNat - h.First.toNat) * (2 * x.length + y.length) ≤ T * (2 * x.length + y.length) := Nat.mul_le_mul_right _ ht
    omega
  have h4 : (hunkOfG l x y h).Lines.length * (L + 64) ≤ (T * (2 * x.length + y.length) + x.length) * (L + 64) := Nat.mul_le_mul_right _ h3
  omega
theorem groupOf_fit (l : List Change) (m n ctx : Int) : (groupOf l m n ctx).1.length ≤ l.length ∧ ∀ h ∈ (groupOf l m n ctx).1, h.Last.toNat - h.First.toNat ≤ l.length := by
  unfold groupOf
  by_cases c1 : ctx < 0 ∨ 1048576 < ctx
  · rw [if_pos c1]; simp
  rw [if_neg c1]
  by_cases c2 : check8 l m n ≠ 0
  · rw [if_pos c2]; simp
  rw [if_neg c2]
  obtain ⟨_, _, c3⟩ := check8_ok (Decidable.not_not.1 c2)
  refine ⟨(groupTo_len l m ctx l.length).1, fun h hh => ?_⟩
  have := groupTo_ok c3 (show 0 ≤ ctx by omega) l.length (Nat.le_refl _) h hh
  obtain ⟨a, b, e1, e2, e3, e4, _⟩ := this
  omega
theorem madeHunks_sz (x y : List Str) (ctx : Int) (L : Nat) (hx : ∀ s ∈ x, s.length ≤ L) (hy : ∀ s ∈ y, s.length ≤ L) :
    szP (madeHunks x y ctx) ≤ (x.length + 1) * (64 + ((x.length + 1) * (2 * x.length + y.length) + x.length) * (L + 64)) := by
  have h0 := scriptOf_len x y
  obtain ⟨h1, h2⟩ := groupOf_fit (scriptOf x y) x.length y.length ctx
  have h3 : ∀ q ∈ madeHunks x y ctx, szH q ≤ 64 + ((x.length + 1) * (2 * x.length + y.length) + x.length) * (L + 64) := by
    intro q hq
    unfold madeHunks at hq
    obtain ⟨h, hh, rfl⟩ := List.mem_map.1 hq
    exact hunkOfG_sz _ _ _ _ L (x.length + 1) hx hy (by have := h2 h hh; omega)
  have h4 := szP_le _ _ h3
  have h5 : (madeHunks x y ctx).length ≤ x.length + 1 := by unfold madeHunks; rw [List.length_map]; omega
  exact Nat.le_trans h4 (Nat.mul_le_mul_right _ h5)
/-- small blobs -/
theorem madeHunks_small (a b : Str) (ctx : Int) (ha : a.length ≤ 36) (hb : b.length ≤ 216) : szP (madeHunks (splitOf a).1 (splitOf b).1 ctx) ≤ 134217728 := by
  have hm : ∀ (s : Str), (splitOf s).1.length ≤ s.length ∧ ∀ t ∈ (splitOf s).1, t.length ≤ s.length := by
    intro s
    unfold splitOf
    split
    · simp
    · refine ⟨linesOf_length s, fun t ht => line_len s t ht⟩
  obtain ⟨ha1, ha2⟩ := hm a
  obtain ⟨hb1, hb2⟩ := hm b
  have h := madeHunks_sz (splitOf a).1 (splitOf b).1 ctx 216 (fun s hs => by have := ha2 s hs; omega) (fun s hs => by have := hb2 s hs; omega)
  refine Nat.le_trans h ?_
  have e1 : (splitOf a).1.length ≤ 36 := by omega
  have e2 : (splitOf b).1.length ≤ 216 := by omega
  refine Nat.le_trans (Nat.mul_le_mul (Nat.add_le_add_right e1 1) (Nat.add_le_add_left (Nat.mul_le_mul_right _ (Nat.add_le_add (Nat.mul_le_mul (Nat.add_le_add_right e1 1) (Nat.add_le_add (Nat.mul_le_mul_left 2 e1) e2)) e1)) 64)) ?_
  decide
end Go.AL

/- The example of the chapter on patches. No project text. -/
namespace Go.AL
open Go

def awakeP : Patch := ⟨[120], [120], [⟨0, 0, [⟨32, [97, 10]⟩, ⟨45, [98]⟩, ⟨43, [99, 10]⟩]⟩]⟩
theorem awake_script : scriptOf [[97, 10], [98]] [[97, 10], [99, 10]] = [⟨1, 1, 1, 1⟩] := by
  have e : namesOf [[[97, 10], [98]], [[97, 10], [99, 10]]] = [[97, 10], [98], [99, 10]] := by decide
  have e1 : idsOf [[97, 10], [98], [99, 10]] [[97, 10], [98]] = [0, 1] := by decide
  have e2 : idsOf [[97, 10], [98], [99, 10]] [[97, 10], [99, 10]] = [0, 2] := by decide
  unfold scriptOf
  rw [e, e1, e2]
  simp [walkOf, walkGo, dist, madeOf, madeGo]
theorem writeOf_le (p : Patch) : (writeOf p).length ≤ 4 * p.OldName.length + 4 * p.NewName.length + 14 + szP p.Hunks := by
  have h1 := namePs_flat p
  have h2 := hunksPs_flat p.Hunks
  unfold writeOf writePs
  rw [List.flatten_append, List.length_append]; omega
theorem awake_check : check12 awakeP = 0 := by
  have h1 := writeOf_le awakeP
  have h2 : 4 * awakeP.OldName.length + 4 * awakeP.NewName.length + 14 + szP awakeP.Hunks ≤ 1000 := by decide
  unfold check12
  rw [if_neg (by decide), if_neg (by decide), if_neg (by omega)]
theorem awake_make : make12 [120] [120] [97, 10, 98] [97, 10, 99, 10] 1 = (awakeP, 0) := by
  have e1 : splitOf [97, 10, 98] = ([[97, 10], [98]], 0) := by decide
  have e2 : splitOf [97, 10, 99, 10] = ([[97, 10], [99, 10]], 0) := by decide
  have e3 : groupOf [⟨1, 1, 1, 1⟩] 2 2 1 = ([⟨0, 1, ⟨0, 2⟩, ⟨0, 2⟩⟩], 0) := by decide
  have e4 : madeHunks [[97, 10], [98]] [[97, 10], [99, 10]] 1 = awakeP.Hunks := by
    unfold madeHunks
    rw [awake_script]
    show (groupOf [⟨1, 1, 1, 1⟩] 2 2 1).1.map _ = _
    rw [e3]; decide
  have e5 : check12 ⟨[120], [120], awakeP.Hunks⟩ = 0 := awake_check
  unfold make12
  rw [if_neg (by decide), e1, e2]
  dsimp only
  rw [awake_script, e4, e5]
  show (if (0 : Int) ≠ 0 then _ else if (0 : Int) ≠ 0 then _ else if (groupOf [⟨1, 1, 1, 1⟩] 2 2 1).2 ≠ 0 then _ else _) = _
  rw [e3]; rfl
theorem awake_apply : apply14 awakeP [97, 10, 98] = ([97, 10, 99, 10], 0) ∧ (apply14 awakeP [97, 10, 98, 10]) = ([], 140) := by
  unfold apply14 fits14
  rw [awake_check]
  constructor <;> decide
end Go.AL
