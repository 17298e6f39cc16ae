/- What the functions of the texts compute, as plain functions of Lean, and laws about them. No project text. -/
import Derived.Test.YtljfkoaafocglaaD
namespace Go.AL
open Go

theorem u8_lf (c : UInt8) : ((c.toNat : Int) = 10) ↔ c = 10 := by
  constructor
  · intro h
    have : c.toNat = 10 := by omega
    exact UInt8.toNat_inj.1 (by simpa using this)
  · rintro rfl; rfl

/-- the lines of a blob; cur: what has been read of the line -/
def linesAux (cur : Str) : Str → List Str
  | [] => if cur = [] then [] else [cur]
  | c :: r => if c = 10 then (cur ++ [c]) :: linesAux [] r else linesAux (cur ++ [c]) r
def linesOf (b : Str) : List Str := linesAux [] b

theorem linesAux_length (cur : Str) (s : Str) : (linesAux cur s).length ≤ s.length + 1 := by
  induction s generalizing cur with
  | nil => unfold linesAux; split <;> simp
  | cons c r ih => unfold linesAux; split <;> simp <;> (have := ih []; have := ih (cur ++ [c]); omega)

theorem linesAux_nil_length (s : Str) : (linesAux [] s).length ≤ s.length := by
  have key : ∀ (s cur : Str), cur ≠ [] → (linesAux cur s).length ≤ s.length + 1 := fun s cur _ => linesAux_length cur s
  induction s with
  | nil => simp [linesAux]
  | cons c r ih => unfold linesAux; split <;> simp <;> (have := linesAux_length ([] ++ [c]) r; simp at this; omega)

theorem linesOf_length (b : Str) : (linesOf b).length ≤ b.length := linesAux_nil_length b

theorem linesAux_step (cur r : Str) (c : UInt8) : linesAux cur (c :: r) = if c = 10 then (cur ++ [c]) :: linesAux [] r else linesAux (cur ++ [c]) r := rfl
theorem linesAux_end (cur : Str) (h : cur ≠ []) : linesAux cur [] = [cur] := by simp [linesAux, h]

theorem or_pick {p q : Prop} [Decidable p] [Decidable q] : (if decide p = true then true else decide q) = decide (p ∨ q) := by by_cases p <;> simp [*]
theorem and_pick {p q : Prop} [Decidable p] [Decidable q] : (if decide p = true then decide q else false) = decide (p ∧ q) := by by_cases p <;> simp [*]
theorem flatten_take_succ {α : Type} (l : List (List α)) (i : Nat) (h : i < l.length) : (l.take (i + 1)).flatten = (l.take i).flatten ++ l[i] := by
  rw [List.take_add_one, List.getElem?_eq_getElem h, Option.toList_some, List.flatten_append]; simp
theorem flatten_take_le {α : Type} (l : List (List α)) (i : Nat) : (l.take i).flatten.length ≤ l.flatten.length := by
  conv => rhs; rw [← List.take_append_drop i l, List.flatten_append, List.length_append]
  omega

theorem toNat_succ (i : Nat) : ((i : Int) + 1).toNat = i + 1 := by omega

theorem part_snoc {α : Type} (b : List α) (f i : Nat) (hf : f ≤ i) (hi : i < b.length) : (b.drop f).take (i - f) ++ [b[i]] = (b.drop f).take (i + 1 - f) := by
  rw [show i + 1 - f = (i - f) + 1 by omega, List.take_add_one, List.getElem?_drop, show f + (i - f) = i by omega, List.getElem?_eq_getElem hi]
  rfl

def ended (s : Str) : Bool := s.getLast? == some 10

theorem ended_eq (s : Str) : ended s = (if decide (s ≠ []) = true then decide (((s.getLastD 0).toNat : Int) = 10) else false) := by
  unfold ended
  by_cases h : s = []
  · simp [h]
  · rw [List.getLast?_eq_some_getLast h, List.getLastD_eq_getLast?, List.getLast?_eq_some_getLast h]
    simp only [ne_eq, h, not_false_eq_true, decide_true, if_true, Option.getD_some, u8_lf]
    rfl

/-- the place of a string in a list; -1 -/
def placeOf : List Str → Str → Int → Int
  | [], _, _ => -1
  | x :: r, s, i => if x = s then i else placeOf r s (i + 1)

theorem placeOf_drop (l : List Str) (s : Str) (k : Nat) (h : k < l.length) : placeOf (l.drop k) s k = if l[k] = s then (k : Int) else placeOf (l.drop (k + 1)) s ((k : Int) + 1) := by
  rw [List.drop_eq_getElem_cons h]
  simp [placeOf]

theorem placeOf_neg (l : List Str) (s : Str) : ∀ (k : Int), 0 ≤ k → ((placeOf l s k < 0) ↔ s ∉ l) := by
  induction l with
  | nil => intro k _; simp [placeOf]
  | cons x r ih =>
    intro k hk
    unfold placeOf
    by_cases h : x = s
    · simp [h]; omega
    · have := ih (k + 1) (by omega)
      simp [h, this, Ne.symm h]

/-- a line: no line feed but at its end, not empty -/
def lineOk (s : Str) : Bool := s.dropLast.all (· ≠ 10) && s != []

/-- a list of lines -/
def listOk : List Str → Bool
  | [] => true
  | s :: r => lineOk s && (r.isEmpty || ended s) && listOk r
def checkOf (b : Str) : Int := if b.length > 1048576 ∨ (linesOf b).length > 4096 then 1 else 0
def joinOf (l : List Str) : Str × Int := if listOk l = false then ([], 2) else if l.flatten.length > 1048576 ∨ l.length > 4096 then ([], 1) else (l.flatten, 0)
def namesStep (out : List Str) (s : Str) : List Str := if s ∈ out then out else out ++ [s]
/-- the names of some files: each line once, in the order in which they come -/
def namesOf (files : List (List Str)) : List Str := files.flatten.foldl namesStep []
def idsOf (names : List Str) (file : List Str) : List Int := file.map (fun s => placeOf names s 0)

theorem namesStep_length (out : List Str) (s : Str) : (namesStep out s).length ≤ out.length + 1 := by unfold namesStep; split <;> simp
theorem foldl_names_length (l out : List Str) : (l.foldl namesStep out).length ≤ out.length + l.length := by
  induction l generalizing out with
  | nil => simp
  | cons s r ih => have h1 := ih (namesStep out s); have h2 := namesStep_length out s; simp only [List.foldl_cons, List.length_cons]; omega
theorem namesOf_length (fs : List (List Str)) : (namesOf fs).length ≤ fs.flatten.length := by have := foldl_names_length fs.flatten []; simpa [namesOf] using this
end Go.AL
