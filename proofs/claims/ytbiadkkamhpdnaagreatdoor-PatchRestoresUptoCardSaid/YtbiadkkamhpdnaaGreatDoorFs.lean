/- Plain facts about data; no project text. -/
import Derived.Test.YtbiadkkamhpdnaaGreatDoorD
import Derived.Lib.Strings
import Derived.Lib.Bytealg
import Derived.Lib.Join
import Derived.Lib.ItoaNum
import Derived.Test.YtbiadkkamhpdnaaGreatDoorAn
set_option linter.unusedSimpArgs false
namespace Go.AL
open Go
theorem u8_lf (c : UInt8) : ((c.toNat : Int) = 10) ↔ c = 10 := by
  constructor
  · intro h
    have : c.toNat = 10 := by omega
    exact UInt8.toNat_inj.1 (by simpa using this)
  · rintro rfl; rfl
def linesAux (cur : Str) : Str → List Str
  | [] => if cur = [] then [] else [cur]
  | c :: r => if c = 10 then (cur ++ [c]) :: linesAux [] r else linesAux (cur ++ [c]) r
def linesOf (b : Str) : List Str := linesAux [] b
theorem linesAux_length (cur : Str) (s : Str) : (linesAux cur s).length ≤ s.length + 1 := by
  induction s generalizing cur with
  | nil => unfold linesAux; split <;> simp
  | cons c r ih => unfold linesAux; split <;> simp <;> (have := ih []; have := ih (cur ++ [c]); omega)
theorem linesAux_nil_length (s : Str) : (linesAux [] s).length ≤ s.length := by
  have key : ∀ (s cur : Str), cur ≠ [] → (linesAux cur s).length ≤ s.length + 1 := fun s cur _ => linesAux_length cur s
  induction s with
  | nil => simp [linesAux]
  | cons c r ih => unfold linesAux; split <;> simp <;> (have := linesAux_length ([] ++ [c]) r; simp at this; omega)
theorem linesOf_length (b : Str) : (linesOf b).length ≤ b.length := linesAux_nil_length b
theorem linesAux_step (cur r : Str) (c : UInt8) : linesAux cur (c :: r) = if c = 10 then (cur ++ [c]) :: linesAux [] r else linesAux (cur ++ [c]) r := rfl
theorem linesAux_end (cur : Str) (h : cur ≠ []) : linesAux cur [] = [cur] := by simp [linesAux, h]
theorem or_pick {p q : Prop} [Decidable p] [Decidable q] : (if decide p = true then true else decide q) = decide (p ∨ q) := by by_cases p <;> simp [*]
theorem and_pick {p q : Prop} [Decidable p] [Decidable q] : (if decide p = true then decide q else false) = decide (p ∧ q) := by by_cases p <;> simp [*]
theorem flatten_take_succ {α : Type} (l : List (List α)) (i : Nat) (h : i < l.length) : (l.take (i + 1)).flatten = (l.take i).flatten ++ l[i] := by
  rw [List.take_add_one, List.getElem?_eq_getElem h, Option.toList_some, List.flatten_append]; simp
theorem flatten_take_le {α : Type} (l : List (List α)) (i : Nat) : (l.take i).flatten.length ≤ l.flatten.length := by
  conv => rhs; rw [← List.take_append_drop i l, List.flatten_append, List.length_append]
  omega
theorem toNat_succ (i : Nat) : ((i : Int) + 1).toNat = i + 1 := by omega
theorem part_snoc {α : Type} (b : List α) (f i : Nat) (hf : f ≤ i) (hi : i < b.length) : (b.drop f).take (i - f) ++ [b[i]] = (b.drop f).take (i + 1 - f) := by
  rw [show i + 1 - f = (i - f) + 1 by omega, List.take_add_one, List.getElem?_drop, show f + (i - f) = i by omega, List.getElem?_eq_getElem hi]
  rfl
def ended (s : Str) : Bool := s.getLast? == some 10
theorem ended_eq (s : Str) : ended s = (if decide (s ≠ []) = true then decide (((s.getLastD 0).toNat : Int) = 10) else false) := by
  unfold ended
  by_cases h : s = []
  · simp [h]
  · rw [List.getLast?_eq_some_getLast h, List.getLastD_eq_getLast?, List.getLast?_eq_some_getLast h]
    simp only [ne_eq, h, not_false_eq_true, decide_true, if_true, Option.getD_some, u8_lf]
    rfl
def placeOf : List Str → Str → Int → Int
  | [], _, _ => -1
  | x :: r, s, i => if x = s then i else placeOf r s (i + 1)
theorem placeOf_drop (l : List Str) (s : Str) (k : Nat) (h : k < l.length) : placeOf (l.drop k) s k = if l[k] = s then (k : Int) else placeOf (l.drop (k + 1)) s ((k : Int) + 1) := by
  rw [List.drop_eq_getElem_cons h]
  simp [placeOf]
theorem placeOf_neg (l : List Str) (s : Str) : ∀ (k : Int), 0 ≤ k → ((placeOf l s k < 0) ↔ s ∉ l) := by
  induction l with
  | nil => intro k _; simp [placeOf]
  | cons x r ih =>
    intro k hk
    unfold placeOf
    by_cases h : x = s
    · simp [h]; omega
    · have := ih (k + 1) (by omega)
      simp [h, this, Ne.symm h]
def lineOk (s : Str) : Bool := s.dropLast.all (· ≠ 10) && s != []
def listOk : List Str → Bool
  | [] => true
  | s :: r => lineOk s && (r.isEmpty || ended s) && listOk r
def checkOf (b : Str) : Int := if b.length > 1048576 ∨ (linesOf b).length > 4096 then 1 else 0
def joinOf (l : List Str) : Str × Int := if listOk l = false then ([], 2) else if l.flatten.length > 1048576 ∨ l.length > 4096 then ([], 1) else (l.flatten, 0)
def namesStep (out : List Str) (s : Str) : List Str := if s ∈ out then out else out ++ [s]
def namesOf (files : List (List Str)) : List Str := files.flatten.foldl namesStep []
def idsOf (names : List Str) (file : List Str) : List Int := file.map (fun s => placeOf names s 0)
theorem namesStep_length (out : List Str) (s : Str) : (namesStep out s).length ≤ out.length + 1 := by unfold namesStep; split <;> simp
theorem foldl_names_length (l out : List Str) : (l.foldl namesStep out).length ≤ out.length + l.length := by
  induction l generalizing out with
  | nil => simp
  | cons s r ih => have h1 := ih (namesStep out s); have h2 := namesStep_length out s; simp only [List.foldl_cons, List.length_cons]; omega
theorem namesOf_length (fs : List (List Str)) : (namesOf fs).length ≤ fs.flatten.length := by have := foldl_names_length fs.flatten []; simpa [namesOf] using this
end Go.AL
namespace Go.AL
open Go
def madeGo (i j : Int) : List Span → Int → Int → List Change
  | [], m, n => if m > i ∨ n > j then [⟨i, m - i, j, n - j⟩] else []
  | x :: r, m, n => (if x.From > i ∨ x.To > j then [⟨i, x.From - i, j, x.To - j⟩] else []) ++ madeGo (x.From + 1) (x.To + 1) r m n
def madeOf (p : List Span) (m n : Int) : List Change := madeGo 0 0 p m n
theorem madeGo_length (p : List Span) (i j m n : Int) : (madeGo i j p m n).length ≤ p.length + 1 := by
  induction p generalizing i j with
  | nil => unfold madeGo; split <;> simp
  | cons x r ih => unfold madeGo; have := ih (x.From + 1) (x.To + 1); split <;> simp <;> omega
def spanRun (i j : Int) (n : Nat) : List Span := (List.range n).map fun (t : Nat) => ⟨i + (t : Int), j + (t : Int)⟩
def matchedGo (i j : Int) : List Change → Int → List Span
  | [], m => spanRun i j (m - i).toNat
  | c :: r, m => spanRun i j (c.Old - i).toNat ++ matchedGo (max i c.Old + c.OldLen) (j + (c.Old - i).toNat + c.NewLen) r m
def matchedOf (l : List Change) (m : Int) : List Span := matchedGo 0 0 l m
def dist : List Int → List Int → Nat
  | [], b => b.length
  | x :: a, [] => (x :: a).length
  | x :: a, y :: b => if x = y then dist a b else 1 + min (dist a (y :: b)) (dist (x :: a) b)
theorem dist_nil (a : List Int) : dist a [] = a.length := by cases a <;> simp [dist]
theorem dist_le (a b : List Int) : dist a b ≤ a.length + b.length := by
  induction a generalizing b with
  | nil => simp [dist]
  | cons x a iha =>
    induction b with
    | nil => simp [dist]
    | cons y b ihb =>
      unfold dist
      split
      · have := iha b; simp; omega
      · have := iha (y :: b); have := ihb; simp only [List.length_cons] at *; omega
def walkGo (i j : Int) : List Int → List Int → List Span
  | [], _ => []
  | _ :: _, [] => []
  | x :: a, y :: b => if x = y then ⟨i, j⟩ :: walkGo (i + 1) (j + 1) a b else if dist a (y :: b) + 1 = dist (x :: a) (y :: b) then walkGo (i + 1) j a (y :: b) else walkGo i (j + 1) (x :: a) b
def walkOf (a b : List Int) : List Change := madeOf (walkGo 0 0 a b) a.length b.length
theorem dist_drop (a b : List Int) (i j : Nat) (hi : i < a.length) (hj : j < b.length) :
    dist (a.drop i) (b.drop j) = if a[i] = b[j] then dist (a.drop (i + 1)) (b.drop (j + 1)) else 1 + min (dist (a.drop (i + 1)) (b.drop j)) (dist (a.drop i) (b.drop (j + 1))) := by
  rw [List.drop_eq_getElem_cons hi, List.drop_eq_getElem_cons hj]
  conv => lhs; rw [dist]
theorem walkGo_drop (a b : List Int) (i j : Nat) (hi : i < a.length) (hj : j < b.length) (p q : Int) :
    walkGo p q (a.drop i) (b.drop j) = if a[i] = b[j] then ⟨p, q⟩ :: walkGo (p + 1) (q + 1) (a.drop (i + 1)) (b.drop (j + 1)) else
      if dist (a.drop (i + 1)) (b.drop j) + 1 = dist (a.drop i) (b.drop j) then walkGo (p + 1) q (a.drop (i + 1)) (b.drop j) else walkGo p (q + 1) (a.drop i) (b.drop (j + 1)) := by
  rw [List.drop_eq_getElem_cons hi, List.drop_eq_getElem_cons hj]
  conv => lhs; rw [walkGo]
theorem walkGo_nil_left (p q : Int) (b : List Int) : walkGo p q [] b = [] := by simp [walkGo]
theorem walkGo_nil_right (p q : Int) (a : List Int) : walkGo p q a [] = [] := by cases a <;> simp [walkGo]
theorem walkGo_length (p q : Int) (a b : List Int) : (walkGo p q a b).length ≤ a.length := by
  induction a generalizing p q b with
  | nil => simp [walkGo]
  | cons x a iha =>
    induction b generalizing p q with
    | nil => simp [walkGo]
    | cons y b ihb =>
      unfold walkGo
      split
      · have := iha (p + 1) (q + 1) b; simp; omega
      · split
        · have := iha (p + 1) q (y :: b); simp; omega
        · exact ihb p (q + 1)
universe u
theorem range_set {α : Type u} (n k : Nat) (f g : Nat → α) (v : α) (hv : k < n → g k = v) (h : ∀ q, q < n → q ≠ k → g q = f q) : ((List.range n).map f).set k v = (List.range n).map g := by
  refine List.ext_getElem (by simp) fun q h1 h2 => ?_
  have hq : q < n := by simpa using h2
  rw [List.getElem_set]
  by_cases he : k = q
  · subst he; simp [hv hq]
  · rw [if_neg he]; simp [h q hq (Ne.symm he)]
theorem range_get {α : Type u} (n k : Nat) (f : Nat → α) (h : k < n) : ((List.range n).map f)[k]? = some (f k) := by simp [h]
def distRow (a b : List Int) (i q : Nat) : List Int := (List.range (b.length + 1)).map fun j => if q ≤ j then (dist (a.drop i) (b.drop j) : Int) else 0
def distRows (a b : List Int) (i : Nat) : List (List Int) := (List.range (a.length + 1)).map fun r => if i ≤ r then distRow a b r 0 else []
def distTable (a b : List Int) : List (List Int) := distRows a b 0
theorem distRow_length (a b : List Int) (i q : Nat) : (distRow a b i q).length = b.length + 1 := by simp [distRow]
theorem distRows_length (a b : List Int) (i : Nat) : (distRows a b i).length = a.length + 1 := by simp [distRows]
theorem distRow_full (a b : List Int) (i : Nat) : List.replicate (b.length + 1) 0 = distRow a b i (b.length + 1) := by
  refine List.ext_getElem (by simp [distRow]) fun q h1 h2 => ?_
  have : ¬ (b.length + 1 ≤ q) := by simp at h1; omega
  simp [distRow, this]
theorem distRows_full (a b : List Int) : List.replicate (a.length + 1) [] = distRows a b (a.length + 1) := by
  refine List.ext_getElem (by simp [distRows]) fun q h1 h2 => ?_
  have : ¬ (a.length + 1 ≤ q) := by simp at h1; omega
  simp [distRows, this]
theorem distRow_set (a b : List Int) (i j : Nat) : (distRow a b i (j + 1)).set j (dist (a.drop i) (b.drop j) : Int) = distRow a b i j := by
  unfold distRow
  refine range_set _ _ _ _ _ (fun _ => by simp) fun q hq hne => ?_
  by_cases h : j ≤ q
  · rw [if_pos h, if_pos (by omega)]
  · rw [if_neg h, if_neg (by omega)]
theorem distRow_get (a b : List Int) (i q j : Nat) (h : q ≤ j) (hj : j ≤ b.length) : (distRow a b i q)[j]? = some (dist (a.drop i) (b.drop j) : Int) := by
  unfold distRow
  rw [range_get _ _ _ (by omega), if_pos h]
theorem distRows_set (a b : List Int) (i : Nat) : (distRows a b (i + 1)).set i (distRow a b i 0) = distRows a b i := by
  unfold distRows
  refine range_set _ _ _ _ _ (fun _ => by simp) fun q hq hne => ?_
  by_cases h : i ≤ q
  · rw [if_pos h, if_pos (by omega)]
  · rw [if_neg h, if_neg (by omega)]
theorem distRows_get (a b : List Int) (i r : Nat) (h : i ≤ r) (hr : r ≤ a.length) : (distRows a b i)[r]? = some (distRow a b r 0) := by
  unfold distRows
  rw [range_get _ _ _ (by omega), if_pos h]
def Asc (m n : Int) : Int → Int → List Span → Prop
  | i, j, [] => i ≤ m ∧ j ≤ n
  | i, j, x :: r => i ≤ x.From ∧ j ≤ x.To ∧ Asc m n (x.From + 1) (x.To + 1) r
theorem Asc.le {m n : Int} : ∀ {p : List Span} {i j : Int}, Asc m n i j p → i ≤ m ∧ j ≤ n
  | [], i, j, h => h
  | x :: r, i, j, h => by have := Asc.le h.2.2; have := h.1; have := h.2.1; omega
theorem Asc.weaken {m n : Int} {p : List Span} {i j i' j' : Int} (h : Asc m n i j p) (hi : i' ≤ i) (hj : j' ≤ j) : Asc m n i' j' p := by
  cases p with
  | nil => exact ⟨by have := h.1; omega, by have := h.2; omega⟩
  | cons x r => exact ⟨by have := h.1; omega, by have := h.2.1; omega, h.2.2⟩
theorem walkGo_asc (a b : List Int) : ∀ (p q : Int), Asc (p + a.length) (q + b.length) p q (walkGo p q a b) := by
  induction a generalizing b with
  | nil => intro p q; rw [walkGo_nil_left]; simp only [Asc, List.length_nil]; omega
  | cons x a iha =>
    induction b with
    | nil => intro p q; rw [walkGo_nil_right]; simp only [Asc, List.length_nil]; omega
    | cons y b ihb =>
      intro p q
      rw [walkGo]
      split
      · have := iha b (p + 1) (q + 1)
        refine ⟨Int.le_refl _, Int.le_refl _, ?_⟩
        simp only [List.length_cons]
        rwa [show p + ((a.length + 1 : Nat) : Int) = p + 1 + a.length by omega, show q + ((b.length + 1 : Nat) : Int) = q + 1 + b.length by omega]
      · split
        · have := (iha (y :: b) (p + 1) q).weaken (i' := p) (j' := q) (by omega) (Int.le_refl _)
          rwa [show p + ((x :: a).length : Int) = p + 1 + a.length by simp; omega]
        · have := (ihb p (q + 1)).weaken (i' := p) (j' := q) (Int.le_refl _) (by omega)
          rwa [show q + ((y :: b).length : Int) = q + 1 + b.length by simp; omega]
theorem Asc.made {m n : Int} : ∀ {p : List Span} {i j : Int}, Asc m n i j p → ∀ c ∈ madeGo i j p m n, i ≤ c.Old ∧ j ≤ c.New ∧ 0 ≤ c.OldLen ∧ 0 ≤ c.NewLen ∧ c.Old + c.OldLen ≤ m ∧ c.New + c.NewLen ≤ n
  | [], i, j, h, c, hc => by
    unfold madeGo at hc
    split at hc
    · simp only [List.mem_singleton] at hc; subst hc
      have := h.1; have := h.2
      simp only; omega
    · cases hc
  | x :: r, i, j, h, c, hc => by
    unfold madeGo at hc
    obtain ⟨h1, h2, h3⟩ := h
    have h4 := h3.le
    rcases List.mem_append.1 hc with hc | hc
    · split at hc
      · simp only [List.mem_singleton] at hc; subst hc
        simp only; omega
      · cases hc
    · have := Asc.made h3 c hc; omega
end Go.AL
namespace Go.AL
open Go
theorem shr_eq (m c : Int) (b : Nat) (hc : 0 ≤ c ∧ c ≤ b) : m.fdiv (2 ^ (min c.toNat b)) = m / 2 ^ c.toNat := by
  rw [show min c.toNat b = c.toNat by omega, Int.fdiv_eq_ediv_of_nonneg _ (Int.pow_nonneg (by decide))]
end Go.AL
namespace Go.AL
open Go
abbrev Loom := List Int × (Nat → List (List Int))
structure LoomOk (Q : Int → Prop) (B lines n : Nat) (s : Loom) : Prop where
  len : s.1.length = lines
  marks : ∀ m ∈ s.1, 0 ≤ m ∧ m < 4294967296
  gaps : ∀ k, (s.2 k).length = n ∧ ∀ x ∈ s.2 k, x.length ≤ B ∧ ∀ v ∈ x, Q v
theorem placeOf_le (l : List Str) (s : Str) : ∀ k : Int, 0 ≤ k → s ∈ l → k ≤ placeOf l s k ∧ placeOf l s k < k + l.length := by
  induction l with
  | nil => intro k _ h; cases h
  | cons x r ih =>
    intro k hk h
    unfold placeOf
    by_cases hx : x = s
    · rw [if_pos hx]; simp; omega
    · rw [if_neg hx]
      have := ih (k + 1) (by omega) (by rcases List.mem_cons.1 h with rfl | h; exact absurd rfl hx; exact h)
      simp only [List.length_cons]; omega
theorem names_mem_foldl (l : List Str) : ∀ (out : List Str) (s : Str), s ∈ out ∨ s ∈ l → s ∈ l.foldl namesStep out := by
  induction l with
  | nil => intro out s h; rcases h with h | h; exact h; cases h
  | cons x r ih =>
    intro out s h
    apply ih
    rcases h with h | h
    · left; unfold namesStep; split; exact h; exact List.mem_append_left _ h
    · rcases List.mem_cons.1 h with rfl | h
      · left; unfold namesStep; split; assumption; simp
      · exact .inr h
theorem namesOf_mem (fs : List (List Str)) (s : Str) (f : List Str) (hf : f ∈ fs) (hs : s ∈ f) : s ∈ namesOf fs := names_mem_foldl _ _ _ (.inr (List.mem_flatten.2 ⟨f, hf, hs⟩))
end Go.AL
namespace Go.AL
open Go
theorem hasSuffix_lf (s : Str) : Lib.hasSuffix s [10] = ended s := by
  unfold Lib.hasSuffix ended
  rw [Bool.eq_iff_iff, List.isSuffixOf_iff_suffix, beq_iff_eq]
  constructor
  · rintro ⟨t, rfl⟩; simp
  · intro h
    obtain ⟨hne, h2⟩ := List.getLast?_eq_some_iff.1 h
    exact ⟨hne, h2.symm⟩
def bareOf (s : Str) : Str := if ended s then s.dropLast else s
theorem trimSuffix_lf (s : Str) : Lib.trimSuffix s [10] = bareOf s := by
  unfold Lib.trimSuffix bareOf
  rw [hasSuffix_lf, List.dropLast_eq_take]; rfl
theorem indexByte_first (c : UInt8) : ∀ l : Str, (c ∉ l ∧ Lib.indexByte l c = -1) ∨ ∃ a b, l = a ++ c :: b ∧ c ∉ a ∧ Lib.indexByte l c = a.length
  | [] => .inl ⟨by simp, rfl⟩
  | x :: l => by
    unfold Lib.indexByte
    by_cases hx : x = c
    · exact .inr ⟨[], l, by rw [hx]; rfl, by simp, by simp [hx]⟩
    · rcases indexByte_first c l with ⟨h1, h2⟩ | ⟨a, b, h1, h2, h3⟩
      · exact .inl ⟨by simp [h1, Ne.symm hx], by simp [hx, h2]⟩
      · refine .inr ⟨x :: a, b, by rw [h1]; rfl, by simp [h2, Ne.symm hx], ?_⟩
        have h4 : ¬ ((a.length : Int) = -1) := by omega
        simp [hx, h3, h4]
theorem indexByte_mem (c : UInt8) (l : Str) : 0 ≤ Lib.indexByte l c ↔ c ∈ l := by
  rcases indexByte_first c l with ⟨h1, h2⟩ | ⟨a, b, h1, h2, h3⟩
  · rw [h2]; simp [h1]
  · rw [h3, h1]; simp
theorem dropLast_app (a b : Str) (c : UInt8) (h : b ≠ []) : c ∈ (a ++ c :: b).dropLast := by
  rw [List.dropLast_append_of_ne_nil (by simp), List.dropLast_cons_of_ne_nil h]; simp
theorem indexByte_inner (l : Str) : (0 ≤ Lib.indexByte l 10 ∧ Lib.indexByte l 10 < (l.length : Int) - 1) ↔ 10 ∈ l.dropLast := by
  rcases indexByte_first 10 l with ⟨h1, h2⟩ | ⟨a, b, h1, h2, h3⟩
  · rw [h2]
    have : 10 ∉ l.dropLast := fun h => h1 (List.dropLast_subset l h)
    simp [this]
  · rw [h3]
    by_cases hb : b = []
    · subst hb
      have e : l.dropLast = a := by rw [h1]; simp
      rw [e, h1]; simp [h2]
    · have h4 := dropLast_app a b 10 hb
      rw [← h1] at h4
      have h5 : 0 < b.length := List.length_pos_iff.2 hb
      simp only [h4, iff_true]
      rw [h1]; simp only [List.length_append, List.length_cons]; omega
theorem lineOk_iff (s : Str) : lineOk s = true ↔ s ≠ [] ∧ 10 ∉ s.dropLast := by
  unfold lineOk
  rw [Bool.and_eq_true, List.all_eq_true]
  constructor
  · rintro ⟨h1, h2⟩
    exact ⟨by simpa using h2, fun h => by have := h1 10 h; simp at this⟩
  · rintro ⟨h1, h2⟩
    exact ⟨fun x hx => by simpa using fun e : x = 10 => h2 (e ▸ hx), by simpa using h1⟩
theorem mem_bare (s : Str) : 10 ∈ bareOf s ↔ 10 ∈ s.dropLast := by
  unfold bareOf
  split
  · exact Iff.rfl
  · rename_i h
    by_cases hs : s = []
    · subst hs; simp
    · constructor
      · intro h2
        have e := (List.dropLast_concat_getLast hs).symm
        rw [e] at h2
        rcases List.mem_append.1 h2 with h3 | h3
        · exact h3
        · exfalso
          refine h ?_
          unfold ended
          rw [List.getLast?_eq_some_getLast hs]
          simp at h3; simp [← h3]
      · exact fun h2 => List.dropLast_subset s h2
theorem single_eq (s : Str) : (if decide (s ≠ []) = true then !decide (0 ≤ Lib.indexByte (bareOf s) 10) else false) = lineOk s := by
  rw [Bool.eq_iff_iff, lineOk_iff]
  have h := mem_bare s
  have h2 := indexByte_mem 10 (bareOf s)
  by_cases hs : s = []
  · simp [hs]
  · simp [hs, h2, h]
theorem ended_idx (s : Str) (h : lineOk s = true) : ended s = true ↔ 0 ≤ Lib.indexByte s 10 := by
  obtain ⟨h1, h2⟩ := (lineOk_iff s).1 h
  rw [indexByte_mem]
  have e := (List.dropLast_concat_getLast h1).symm
  unfold ended
  rw [List.getLast?_eq_some_getLast h1]
  constructor
  · intro h3
    have : s.getLast h1 = 10 := by simpa using h3
    rw [← this]; exact List.getLast_mem h1
  · intro h3
    rw [e] at h3
    rcases List.mem_append.1 h3 with h3 | h3
    · exact absurd h3 h2
    · simp at h3; simp [← h3]
def badLine (l : Str) (last : Bool) : Prop := l = [] ∨ (0 ≤ Lib.indexByte l 10 ∧ Lib.indexByte l 10 < (l.length : Int) - 1) ∨ (Lib.indexByte l 10 < 0 ∧ last = false)
theorem badLine_iff (l : Str) (r : List Str) : badLine l r.isEmpty ↔ (lineOk l && (r.isEmpty || ended l)) = false := by
  unfold badLine
  rw [indexByte_inner]
  by_cases hl : lineOk l = true
  · obtain ⟨h1, h2⟩ := (lineOk_iff l).1 hl
    have h3 := ended_idx l hl
    cases hr : r.isEmpty
    · cases he : ended l
      · have : ¬ 0 ≤ Lib.indexByte l 10 := fun h => by rw [h3.2 h] at he; cases he
        simp [hl, h1, h2]; omega
      · have := h3.1 he
        simp [hl, h1, h2]; omega
    · simp [hl, h1, h2]
  · have : l = [] ∨ 10 ∈ l.dropLast := by
      by_cases h1 : l = []
      · exact .inl h1
      · exact .inr (Classical.byContradiction fun h2 => hl ((lineOk_iff l).2 ⟨h1, h2⟩))
    have hf : lineOk l = false := by simpa using hl
    rw [hf]
    constructor
    · intro _; rfl
    · intro _; rcases this with h | h
      · exact .inl h
      · exact .inr (.inl h)
theorem listOk_cons (s : Str) (r : List Str) : listOk (s :: r) = (lineOk s && (r.isEmpty || ended s) && listOk r) := rfl
theorem join_nil (l : List Str) : Lib.join l [] = l.flatten := by
  induction l with
  | nil => rfl
  | cons s r ih =>
    cases r with
    | nil => simp [Lib.join]
    | cons t r =>
      have e : List.intersperse ([] : Str) (s :: t :: r) = s :: [] :: List.intersperse [] (t :: r) := rfl
      simp only [Lib.join, List.intercalate, e, List.flatten_cons, List.nil_append] at ih ⊢
      rw [ih]
structure EndsAt (res : Bool) (par : Int) (bad : Int → Bool) : Prop where
  res : res = bad (-1)
  par : ∃ p : Nat, p < 4294967296 ∧ par = p ∧ ∀ c : Nat, c < 32 → p.testBit c = bad c
end Go.AL
namespace Go.AL
open Go
def plainB (c : UInt8) : Bool := decide (33 ≤ c.toNat ∧ c.toNat ≤ 126 ∧ c.toNat ≠ 34 ∧ c.toNat ≠ 92)
def digs8 : Str := [48, 49, 50, 51, 52, 53, 54, 55]
def digs10 : Str := [48, 49, 50, 51, 52, 53, 54, 55, 56, 57]
def octOf (c : UInt8) : Str := (digs8.drop (c.toNat / 64)).take 1 ++ (digs8.drop (c.toNat / 8 % 8)).take 1 ++ (digs8.drop (c.toNat % 8)).take 1
def escOf (c : UInt8) : Str := if c.toNat = 34 ∨ c.toNat = 92 then [92, c] else if c.toNat = 10 then [92, 110] else if c.toNat = 9 then [92, 116] else if c.toNat < 32 ∨ 126 < c.toNat then 92 :: octOf c else [c]
def quoteOf (s : Str) : Str := if s ≠ [] ∧ s.all plainB = true then s else 34 :: ((s.map escOf).flatten ++ [34])
theorem octOf_len (c : UInt8) : (octOf c).length ≤ 3 := by unfold octOf; simp only [List.length_append, List.length_take]; omega
theorem escOf_len (c : UInt8) : (escOf c).length ≤ 4 := by
  have := octOf_len c
  unfold escOf; split
  · simp
  · split
    · simp
    · split
      · simp
      · split
        · simp only [List.length_cons]; omega
        · simp
theorem esc_flat_len (s : Str) : ((s.map escOf).flatten).length ≤ 4 * s.length := by
  induction s with
  | nil => simp
  | cons c r ih => have := escOf_len c; simp only [List.map_cons, List.flatten_cons, List.length_append, List.length_cons]; omega
theorem quoteOf_len (s : Str) : (quoteOf s).length ≤ 4 * s.length + 2 := by
  unfold quoteOf; have := esc_flat_len s
  split
  · omega
  · simp only [List.length_cons, List.length_append, List.length_nil]; omega
def fmtOf (n : Int) : Str := if n < 0 ∨ 2147483647 < n then [] else Lib.itoa n
def rangeOf (a n : Int) : Str := if a < 0 ∨ n < 0 ∨ 2147483647 < a ∨ 2147483647 - a < n then [] else if n = 0 then fmtOf a ++ [44, 48] else if n = 1 then fmtOf (a + 1) else fmtOf (a + 1) ++ [44] ++ fmtOf n
theorem decDigits_len : ∀ (k u : Nat), u < 10 ^ (k + 1) → (Lib.decDigits u).length ≤ k + 1
  | 0, u, h => by rw [Lib.decDigits, dif_pos (by omega)]; simp
  | k + 1, u, h => by
    rw [Lib.decDigits]
    split
    · simp
    · have := decDigits_len k (u / 10) (by rw [Nat.div_lt_iff_lt_mul (by omega)]; rw [Nat.pow_succ] at h; omega)
      simp only [List.length_append, List.length_cons, List.length_nil]; omega
theorem fmtOf_len (n : Int) : (fmtOf n).length ≤ 10 := by
  unfold fmtOf; split
  · simp
  · unfold Lib.itoa
    rw [if_neg (by omega)]
    exact decDigits_len 9 n.toNat (by omega)
theorem rangeOf_len (a n : Int) : (rangeOf a n).length ≤ 21 := by
  have := fmtOf_len a; have := fmtOf_len (a + 1); have := fmtOf_len n
  unfold rangeOf
  split
  · simp
  · split
    · simp only [List.length_append, List.length_cons, List.length_nil]; omega
    · split
      · omega
      · simp only [List.length_append, List.length_cons, List.length_nil]; omega
theorem dig10 (k : Nat) (h : k < 10) : (digs10.drop k).take 1 = [UInt8.ofNat (48 + k)] := by
  have : ∀ k : Fin 10, (digs10.drop k.1).take 1 = [UInt8.ofNat (48 + k.1)] := by decide
  exact this ⟨k, h⟩
theorem fmt_small (n : Int) (h0 : 0 ≤ n) (h : n < 10) : fmtOf n = (digs10.drop n.toNat).take 1 := by
  unfold fmtOf Lib.itoa
  rw [if_neg (by omega), if_neg (by omega), dig10 _ (by omega), Lib.decDigits, dif_pos (by omega)]
theorem fmt_big (n : Int) (h0 : 10 ≤ n) (h : n ≤ 2147483647) : fmtOf n = fmtOf (n / 10) ++ (digs10.drop (n % 10).toNat).take 1 := by
  unfold fmtOf Lib.itoa
  rw [if_neg (by omega), if_neg (by omega), if_neg (by omega), if_neg (by omega), dig10 _ (by omega), Lib.decDigits, dif_neg (by omega)]
  have e1 : n.toNat / 10 = (n / 10).toNat := by omega
  have e2 : n.toNat % 10 = (n % 10).toNat := by omega
  rw [e1, e2]
theorem dig8 (k : Nat) (h : k < 8) : (digs8.drop k).take 1 = [UInt8.ofNat (48 + k)] := by
  have : ∀ k : Fin 8, (digs8.drop k.1).take 1 = [UInt8.ofNat (48 + k.1)] := by decide
  exact this ⟨k, h⟩
theorem octOf_bytes (c : UInt8) : octOf c = [UInt8.ofNat (48 + c.toNat / 64), UInt8.ofNat (48 + c.toNat / 8 % 8), UInt8.ofNat (48 + c.toNat % 8)] := by
  have := c.toNat_lt
  unfold octOf
  rw [dig8 _ (by omega), dig8 _ (by omega), dig8 _ (by omega)]; rfl
def escs (s : Str) (i : Nat) : Str := ((s.take i).map escOf).flatten
theorem escs_zero (s : Str) : escs s 0 = [] := rfl
theorem escs_succ (s : Str) (i : Nat) (h : i < s.length) : escs s (i + 1) = escs s i ++ escOf s[i] := by
  unfold escs; rw [List.take_succ_eq_append_getElem h, List.map_append, List.flatten_append]; simp only [List.map_cons, List.map_nil, List.flatten_cons, List.flatten_nil, List.append_nil]
theorem escs_len (s : Str) (i : Nat) (h : i ≤ s.length) : (escs s i).length ≤ 4 * i := by
  have := esc_flat_len (s.take i); unfold escs; rw [List.length_take] at this; omega
def plains (s : Str) (i : Nat) : Bool := decide (s ≠ []) && (s.take i).all plainB
theorem plains_zero (s : Str) : plains s 0 = decide (s ≠ []) := by simp [plains]
theorem plains_succ (s : Str) (i : Nat) (h : i < s.length) : plains s (i + 1) = (plains s i && plainB s[i]) := by
  unfold plains; rw [List.take_succ_eq_append_getElem h, List.all_append]; simp only [List.all_cons, List.all_nil, Bool.and_true, Bool.and_assoc]
theorem quoteOf_eq (s : Str) : quoteOf s = if plains s s.length = true then s else (34 :: escs s s.length) ++ [34] := by
  unfold quoteOf plains escs
  rw [List.take_length]
  simp only [Bool.and_eq_true, decide_eq_true_eq, List.cons_append]
end Go.AL
namespace Go.AL
open Go
def partsAux (cur : Str) : Str → List Str
  | [] => [cur]
  | c :: r => if c = 10 then (cur ++ [c]) :: partsAux [] r else partsAux (cur ++ [c]) r
def partsOf (b : Str) : List Str := partsAux [] b
theorem partsAux_none (a cur : Str) (h : (10 : UInt8) ∉ a) : partsAux cur a = [cur ++ a] := by
  induction a generalizing cur with
  | nil => simp [partsAux]
  | cons c r ih =>
    simp only [List.mem_cons, not_or] at h
    rw [partsAux, if_neg (fun e => h.1 e.symm), ih _ h.2]; simp
theorem partsAux_cut (a b cur : Str) (h : (10 : UInt8) ∉ a) : partsAux cur (a ++ 10 :: b) = (cur ++ a ++ [10]) :: partsAux [] b := by
  induction a generalizing cur with
  | nil => simp [partsAux]
  | cons c r ih =>
    simp only [List.mem_cons, not_or] at h
    rw [List.cons_append, partsAux, if_neg (fun e => h.1 e.symm), ih _ h.2]; simp
theorem partsAux_count (s cur : Str) : (partsAux cur s).length = s.count 10 + 1 := by
  induction s generalizing cur with
  | nil => rfl
  | cons c r ih =>
    by_cases hc : c = 10
    · subst hc; rw [partsAux, if_pos rfl, List.length_cons, ih, List.count_cons_self]
    · rw [partsAux, if_neg hc, ih, List.count_cons_of_ne hc]
theorem parts_lines (s cur : Str) : linesAux cur s = if (partsAux cur s).getLastD [] = [] then (partsAux cur s).dropLast else partsAux cur s := by
  induction s generalizing cur with
  | nil => by_cases h : cur = [] <;> simp [linesAux, partsAux, h]
  | cons c r ih =>
    rw [linesAux, partsAux]
    by_cases hc : c = 10
    · rw [if_pos hc, if_pos hc, ih]
      have hn : partsAux [] r ≠ [] := fun e => by have := partsAux_count r []; rw [e] at this; simp at this
      obtain ⟨x, y, hxy⟩ := List.exists_cons_of_ne_nil hn
      rw [hxy]
      have e1 : ((cur ++ [c]) :: x :: y).getLastD [] = (x :: y).getLastD [] := by cases y <;> simp [List.getLastD]
      rw [e1]
      split
      · rfl
      · rfl
    · rw [if_neg hc, if_neg hc, ih]
theorem linesAux_count (s cur : Str) : (linesAux cur s).length = s.count 10 + if s = [] then (if cur = [] then 0 else 1) else if ended s = true then 0 else 1 := by
  induction s generalizing cur with
  | nil => by_cases h : cur = [] <;> simp [linesAux, h]
  | cons c r ih =>
    have he : ended (c :: r) = if r = [] then c == 10 else ended r := by
      cases r with
      | nil => simp [ended]
      | cons d t => simp [ended, List.getLast?_cons_cons]
    rw [linesAux, if_neg (List.cons_ne_nil _ _), he]
    by_cases hc : c = 10
    · subst hc
      rw [if_pos rfl, List.length_cons, ih, List.count_cons_self]
      by_cases hr : r = [] <;> simp [hr]
      omega
    · rw [if_neg hc, ih, List.count_cons_of_ne hc]
      by_cases hr : r = [] <;> simp [hr, hc]
theorem linesOf_count (s : Str) : (linesOf s).length = s.count 10 + if s ≠ [] ∧ ended s = false then 1 else 0 := by
  unfold linesOf
  rw [linesAux_count]
  by_cases hs : s = [] <;> simp [hs]
  cases ended s <;> simp
theorem parts_step {P : List Str} {i : Nat} {r a b : Str} (h : P.drop i = partsOf r) (hr : r = a ++ 10 :: b) (ha : (10 : UInt8) ∉ a) : P[i]? = some (a ++ [10]) ∧ P.drop (i + 1) = partsOf b := by
  have e : partsOf r = (a ++ [10]) :: partsOf b := by rw [hr]; unfold partsOf; rw [partsAux_cut _ _ _ ha]; rfl
  rw [e] at h
  refine ⟨by rw [← List.head?_drop, h]; rfl, ?_⟩
  rw [← List.tail_drop, h]; rfl
theorem fill_step {α : Type} (P : List α) (z x : α) (i : Nat) (h : P[i]? = some x) : (P.take i ++ List.replicate (P.length - i) z).set i x = P.take (i + 1) ++ List.replicate (P.length - (i + 1)) z := by
  obtain ⟨hi, hx⟩ := List.getElem?_eq_some_iff.1 h
  have hl : (P.take i).length = i := by rw [List.length_take]; omega
  rw [List.set_append_right _ _ (by omega), hl, Nat.sub_self, show P.length - i = (P.length - (i + 1)) + 1 by omega, List.replicate_succ, List.set_cons_zero, List.take_succ_eq_append_getElem hi, hx, List.append_assoc]
  rfl
def splitOf (b : Str) : List Str × Int := if b.length > 1048576 ∨ (linesOf b).length > 4096 then ([], 1) else (linesOf b, 0)
theorem splitOf_len (b : Str) : (splitOf b).1.length ≤ 4096 := by
  unfold splitOf; split
  · simp
  · dsimp only; omega
end Go.AL
namespace Go.AL
open Go
def in81 (n : Int) : Prop := 0 ≤ n ∧ n ≤ 4096
instance (n : Int) : Decidable (in81 n) := by unfold in81; exact inferInstance
def badC (k : Nat) (i j : Int) (c : Change) : Prop := ((((((¬ in81 c.Old ∨ ¬ in81 c.OldLen) ∨ ¬ in81 c.New) ∨ ¬ in81 c.NewLen) ∨ c.OldLen + c.NewLen = 0) ∨ c.Old - i ≠ c.New - j) ∨ c.Old < i) ∨ (0 < (k : Int) ∧ c.Old = i)
instance (k : Nat) (i j : Int) (c : Change) : Decidable (badC k i j c) := by unfold badC; exact inferInstance
def scriptGo (k : Nat) (i j : Int) : List Change → Int → Int → Bool
  | [], m, n => decide (¬ (m - i ≠ n - j ∨ m < i))
  | c :: r, m, n => decide (¬ badC k i j c) && scriptGo (k + 1) (c.Old + c.OldLen) (c.New + c.NewLen) r m n
def check8 (l : List Change) (m n : Int) : Int := if ¬ in81 m ∨ ¬ in81 n then 80 else if scriptGo 0 0 0 l m n = true then 0 else 80
def ScOk (i j : Int) : List Change → Int → Int → Prop
  | [], m, n => i ≤ m ∧ j ≤ n
  | c :: r, m, n => in81 c.Old ∧ in81 c.OldLen ∧ in81 c.New ∧ in81 c.NewLen ∧ i ≤ c.Old ∧ j ≤ c.New ∧ ScOk (c.Old + c.OldLen) (c.New + c.NewLen) r m n
theorem scriptGo_ok : ∀ (l : List Change) (k : Nat) (i j m n : Int), scriptGo k i j l m n = true → ScOk i j l m n
  | [], k, i, j, m, n, h => by simp only [scriptGo, decide_eq_true_eq] at h; simp only [ScOk]; omega
  | c :: r, k, i, j, m, n, h => by
    simp only [scriptGo, Bool.and_eq_true, decide_eq_true_eq] at h
    obtain ⟨h1, h2⟩ := h
    unfold badC at h1
    refine ⟨?_, ?_, ?_, ?_, ?_, ?_, scriptGo_ok r _ _ _ m n h2⟩
    all_goals (by_cases a1 : in81 c.Old <;> by_cases a2 : in81 c.OldLen <;> by_cases a3 : in81 c.New <;> by_cases a4 : in81 c.NewLen <;> simp [a1, a2, a3, a4] at h1 ⊢ <;> omega)
theorem check8_ok {l : List Change} {m n : Int} (h : check8 l m n = 0) : in81 m ∧ in81 n ∧ ScOk 0 0 l m n := by
  unfold check8 at h
  split at h
  · omega
  · rename_i h1
    split at h
    · rename_i h2
      by_cases a1 : in81 m <;> by_cases a2 : in81 n <;> simp [a1, a2] at h1
      exact ⟨a1, a2, scriptGo_ok _ _ _ _ _ _ h2⟩
    · omega
def cAt (l : List Change) (k : Nat) : Change := l.getD k ⟨0, 0, 0, 0⟩
theorem cAt_get {l : List Change} {k : Nat} (h : k < l.length) : l[k]? = some (cAt l k) := by
  unfold cAt; rw [List.getD_eq_getElem?_getD, List.getElem?_eq_getElem h]; rfl
theorem ScOk.end_le : ∀ {l : List Change} {i j m n : Int}, ScOk i j l m n → i ≤ m ∧ j ≤ n
  | [], _, _, _, _, h => h
  | c :: r, i, j, m, n, ⟨h1, h2, h3, h4, h5, h6, h7⟩ => by have := h7.end_le; unfold in81 at *; omega
theorem ScOk.get : ∀ {l : List Change} {i j m n : Int} (k : Nat), ScOk i j l m n → k < l.length → in81 (cAt l k).Old ∧ in81 (cAt l k).OldLen ∧ in81 (cAt l k).New ∧ in81 (cAt l k).NewLen ∧ (cAt l k).Old + (cAt l k).OldLen ≤ m ∧ (cAt l k).New + (cAt l k).NewLen ≤ n
  | c :: r, i, j, m, n, 0, ⟨h1, h2, h3, h4, h5, h6, h7⟩, _ => by have := h7.end_le; exact ⟨h1, h2, h3, h4, this.1, this.2⟩
  | c :: r, i, j, m, n, k + 1, ⟨h1, h2, h3, h4, h5, h6, h7⟩, hk => by
    have := h7.get k (by simpa using hk)
    simpa [cAt] using this
theorem ScOk.next : ∀ {l : List Change} {i j m n : Int} (k : Nat), ScOk i j l m n → k + 1 < l.length → (cAt l k).Old + (cAt l k).OldLen ≤ (cAt l (k + 1)).Old
  | [c], _, _, _, _, _, _, hk => by simp at hk
  | c :: c2 :: r, i, j, m, n, 0, ⟨_, _, _, _, _, _, h7⟩, _ => by simpa [cAt] using h7.2.2.2.2.1
  | c :: c2 :: r, i, j, m, n, k + 1, ⟨_, _, _, _, _, _, h7⟩, hk => by
    have := h7.next k (by simpa using hk)
    simpa [cAt] using this
theorem ScOk.mono {l : List Change} {m n : Int} (h : ScOk 0 0 l m n) : ∀ (a b : Nat), a ≤ b → b < l.length → (cAt l a).Old ≤ (cAt l b).Old ∧ (cAt l a).Old + (cAt l a).OldLen ≤ (cAt l b).Old + (cAt l b).OldLen
  | a, 0, h1, h2 => by rw [show a = 0 by omega]; omega
  | a, b + 1, h1, h2 => by
    by_cases hab : a = b + 1
    · subst hab; omega
    · have h3 := h.mono a b (by omega) (by omega)
      have h4 := h.next b h2
      have h5 := h.get b (by omega)
      have h6 := h.get (b + 1) h2
      unfold in81 at *; omega
def minI (a b : Int) : Int := if b < a then b else a
def opens (l : List Change) (ctx : Int) (k : Nat) : Prop := k = 0 ∨ 2 * ctx < (cAt l k).Old - (cAt l (k - 1)).Old - (cAt l (k - 1)).OldLen
instance (l : List Change) (ctx : Int) (k : Nat) : Decidable (opens l ctx k) := by unfold opens; exact inferInstance
def hunk0 : Hunk := ⟨0, 0, ⟨0, 0⟩, ⟨0, 0⟩⟩
def hunkOpen (l : List Change) (ctx : Int) (k : Nat) : Hunk := ⟨k, 0, ⟨(cAt l k).Old - minI ctx (cAt l k).Old, 0⟩, ⟨(cAt l k).New - minI ctx (cAt l k).Old, 0⟩⟩
def hunkEnd (l : List Change) (m ctx : Int) (k : Nat) (h : Hunk) : Hunk :=
  let c := cAt l k
  let a := minI ctx (m - (c.Old + c.OldLen))
  ⟨h.First, k + 1, ⟨h.Old.From, c.Old + c.OldLen + a⟩, ⟨h.New.From, c.New + c.NewLen + a⟩⟩
def groupOpen (l : List Change) (ctx : Int) (k : Nat) (out : List Hunk) : List Hunk := if opens l ctx k then out ++ [hunkOpen l ctx k] else out
def groupTo (l : List Change) (m ctx : Int) : Nat → List Hunk
  | 0 => []
  | k + 1 => let out := groupOpen l ctx k (groupTo l m ctx k); out.set (out.length - 1) (hunkEnd l m ctx k (out.getD (out.length - 1) hunk0))
def groupOf (l : List Change) (m n ctx : Int) : List Hunk × Int := if ctx < 0 ∨ 1048576 < ctx then ([], 3) else if check8 l m n ≠ 0 then ([], check8 l m n) else (groupTo l m ctx l.length, 0)
theorem groupTo_len (l : List Change) (m ctx : Int) : ∀ k, (groupTo l m ctx k).length ≤ k ∧ (0 < k → 0 < (groupTo l m ctx k).length)
  | 0 => by simp [groupTo]
  | k + 1 => by
    have h := groupTo_len l m ctx k
    simp only [groupTo, List.length_set, groupOpen]
    split
    · simp only [List.length_append, List.length_cons, List.length_nil]; omega
    · rename_i ho
      have : k ≠ 0 := fun e => ho (.inl e)
      omega
def HunkOk (l : List Change) (m : Int) (k : Nat) (h : Hunk) : Prop :=
  ∃ a b : Nat, h.First = a ∧ h.Last = (b : Int) + 1 ∧ a ≤ b ∧ b < k ∧ 0 ≤ h.Old.From ∧ h.Old.From ≤ (cAt l a).Old ∧ (cAt l b).Old + (cAt l b).OldLen ≤ h.Old.To ∧ h.Old.To ≤ m ∧ -4096 ≤ h.New.From ∧ h.New.From ≤ 4096
theorem groupTo_ok {l : List Change} {m n ctx : Int} (hs : ScOk 0 0 l m n) (hc : 0 ≤ ctx) : ∀ k, k ≤ l.length → ∀ h ∈ groupTo l m ctx k, HunkOk l m k h
  | 0, _, h, hm => by simp [groupTo] at hm
  | k + 1, hk, h, hm => by
    have ih := groupTo_ok hs hc k (by omega)
    have hg := hs.get k (by omega)
    have hlen := groupTo_len l m ctx k
    simp only [groupTo] at hm
    obtain ⟨out, hout⟩ : ∃ out, out = groupOpen l ctx k (groupTo l m ctx k) := ⟨_, rfl⟩
    rw [← hout] at hm
    have hmin : ∀ x, 0 ≤ x → 0 ≤ minI ctx x ∧ minI ctx x ≤ x := fun x hx => by unfold minI; split <;> omega
    have h1 := hmin (cAt l k).Old hg.1.1
    have h2 := hmin (m - ((cAt l k).Old + (cAt l k).OldLen)) (by omega)
    obtain ⟨⟨g1, g2⟩, ⟨g3, g4⟩, ⟨g5, g6⟩, ⟨g7, g8⟩, g9, g10⟩ := hg
    have hend : ∀ h0 : Hunk, (∃ a : Nat, h0.First = a ∧ a ≤ k ∧ 0 ≤ h0.Old.From ∧ h0.Old.From ≤ (cAt l a).Old ∧ -4096 ≤ h0.New.From ∧ h0.New.From ≤ 4096) → HunkOk l m (k + 1) (hunkEnd l m ctx k h0) := by
      rintro h0 ⟨a, e1, e2, e3, e4, e5, e6⟩
      refine ⟨a, k, e1, rfl, e2, by omega, e3, e4, ?_, ?_, e5, e6⟩
      · show _ ≤ (cAt l k).Old + (cAt l k).OldLen + minI ctx (m - ((cAt l k).Old + (cAt l k).OldLen)); omega
      · show (cAt l k).Old + (cAt l k).OldLen + minI ctx (m - ((cAt l k).Old + (cAt l k).OldLen)) ≤ m; omega
    obtain ⟨p, hp, rfl⟩ := List.getElem_of_mem hm
    rw [List.length_set] at hp
    rw [List.getElem_set]
    split
    · rename_i hq
      refine hend _ ?_
      by_cases ho : opens l ctx k
      · have e : out = groupTo l m ctx k ++ [hunkOpen l ctx k] := by rw [hout, groupOpen, if_pos ho]
        have e2 : out.getD (out.length - 1) hunk0 = hunkOpen l ctx k := by rw [e]; simp
        rw [e2]
        refine ⟨k, rfl, Nat.le_refl _, ?_, ?_, ?_, ?_⟩
        · show 0 ≤ (cAt l k).Old - minI ctx (cAt l k).Old; omega
        · show (cAt l k).Old - minI ctx (cAt l k).Old ≤ _; omega
        · show -4096 ≤ (cAt l k).New - minI ctx (cAt l k).Old; omega
        · show (cAt l k).New - minI ctx (cAt l k).Old ≤ _; omega
      · have e : out = groupTo l m ctx k := by rw [hout, groupOpen, if_neg ho]
        have hlt : out.length - 1 < (groupTo l m ctx k).length := by rw [e] at hp ⊢; omega
        have e2 : out.getD (out.length - 1) hunk0 ∈ groupTo l m ctx k := by
          rw [e] at hlt ⊢
          rw [List.getD_eq_getElem?_getD, List.getElem?_eq_getElem hlt]
          exact List.getElem_mem hlt
        obtain ⟨a, b, e3, e4, e5, e6, e7, e8, e9, e10, e11, e12⟩ := ih _ e2
        exact ⟨a, e3, by omega, e7, e8, e11, e12⟩
    · rename_i hq
      have hin : out[p] ∈ groupTo l m ctx k := by
        by_cases ho : opens l ctx k
        · have e : out = groupTo l m ctx k ++ [hunkOpen l ctx k] := by rw [hout, groupOpen, if_pos ho]
          have hlt : p < (groupTo l m ctx k).length := by
            have : out.length = (groupTo l m ctx k).length + 1 := by rw [e]; simp
            omega
          have : out[p] = (groupTo l m ctx k)[p] := by simp only [e]; rw [List.getElem_append_left hlt]
          rw [this]; exact List.getElem_mem hlt
        · have e : out = groupTo l m ctx k := by rw [hout, groupOpen, if_neg ho]
          have : out[p] ∈ out := List.getElem_mem hp
          rw [← e]; exact this
      obtain ⟨a, b, e3, e4, e5, e6, e7⟩ := ih _ hin
      exact ⟨a, b, e3, e4, e5, by omega, e7⟩
end Go.AL
namespace Go.AL
open Go
def nameOk (s : Str) : Bool := decide (1 ≤ s.length ∧ s.length ≤ 200)
def linesNot (ls : List PatchLine) (k : UInt8) : List Str := (ls.filter (fun x => decide (x.Kind ≠ k))).map (·.Text)
def badLn (x : PatchLine) : Prop := ((x.Kind ≠ 32 ∧ x.Kind ≠ 45) ∧ x.Kind ≠ 43) ∨ lineOk x.Text = false
instance (x : PatchLine) : Decidable (badLn x) := by unfold badLn; exact inferInstance
def goodLn (x : PatchLine) : Bool := decide (¬ badLn x)
def someCh (ls : List PatchLine) : Bool := ls.any (fun x => decide (x.Kind ≠ 32))
def offPlace (some : Bool) (i j : Int) (h : PatchHunk) : Prop := ((((some = false ∨ h.Old < i) ∨ h.New < j) ∨ 4096 < h.Old) ∨ 4096 < h.New) ∨ h.Old - i ≠ h.New - j
instance (s : Bool) (i j : Int) (h : PatchHunk) : Decidable (offPlace s i j h) := by unfold offPlace; exact inferInstance
def oldN (h : PatchHunk) : Int := (linesNot h.Lines 43).length
def newN (h : PatchHunk) : Int := (linesNot h.Lines 45).length
def goodGo (i j : Int) : List PatchHunk → Bool
  | [] => true
  | h :: r => h.Lines.all goodLn && (decide (¬ offPlace (someCh h.Lines) i j h) && (decide (¬ (4096 < h.Old + oldN h ∨ 4096 < h.New + newN h)) && goodGo (h.Old + oldN h) (h.New + newN h) r))
def sideLines (hs : List PatchHunk) (k : UInt8) : List Str := (hs.map (fun h => linesNot h.Lines k)).flatten
def endedBut : List Str → Bool
  | [] => true
  | x :: r => (r.isEmpty || ended x) && endedBut r
def sideOk (hs : List PatchHunk) (k : UInt8) : Bool := endedBut (sideLines hs k)
def goodOf (hs : List PatchHunk) : Bool := goodGo 0 0 hs && (sideOk hs 43 && sideOk hs 45)
def markS : Str := [10, 92, 32, 78, 111, 32, 110, 101, 119, 108, 105, 110, 101, 32, 97, 116, 32, 101, 110, 100, 32, 111, 102, 32, 102, 105, 108, 101, 10]
def linePs (x : PatchLine) : List Str := if ended x.Text then [[x.Kind] ++ x.Text] else [[x.Kind] ++ x.Text, markS]
def headW (h : PatchHunk) : Str := [64, 64, 32, 45] ++ rangeOf h.Old (oldN h) ++ [32, 43] ++ rangeOf h.New (newN h) ++ [32, 64, 64, 10]
def hunkPs (h : PatchHunk) : List Str := headW h :: (h.Lines.map linePs).flatten
def namePs (p : Patch) : List Str := [[45, 45, 45, 32] ++ quoteOf p.OldName ++ [10], [43, 43, 43, 32] ++ quoteOf p.NewName ++ [10]]
def writePs (p : Patch) : List Str := namePs p ++ (p.Hunks.map hunkPs).flatten
def writeOf (p : Patch) : Str := (writePs p).flatten
def check12 (p : Patch) : Int := if nameOk p.OldName = false ∨ nameOk p.NewName = false then 120 else if goodOf p.Hunks = false then 121 else if 16777216 < (writeOf p).length then 1 else 0
def szL (x : PatchLine) : Nat := x.Text.length + 64
def szH (h : PatchHunk) : Nat := 64 + (h.Lines.map szL).sum
def szP (hs : List PatchHunk) : Nat := (hs.map szH).sum
structure PFit (p : Patch) : Prop where
  old : p.OldName.length ≤ 4194304
  new : p.NewName.length ≤ 4194304
  hunks : szP p.Hunks ≤ 268435456
theorem szL_take (ls : List PatchLine) (i : Nat) : ((ls.take i).map szL).sum ≤ (ls.map szL).sum := by
  conv => rhs; rw [← List.take_append_drop i ls, List.map_append, List.sum_append]
  omega
theorem szL_len (ls : List PatchLine) : 64 * ls.length ≤ (ls.map szL).sum := by
  induction ls with
  | nil => simp
  | cons x r ih => simp only [List.map_cons, List.sum_cons, List.length_cons, szL]; omega
theorem szL_mem {ls : List PatchLine} {x : PatchLine} (h : x ∈ ls) : x.Text.length + 64 ≤ (ls.map szL).sum := by
  induction ls with
  | nil => simp at h
  | cons y r ih =>
    simp only [List.map_cons, List.sum_cons]
    rcases List.mem_cons.1 h with rfl | h
    · unfold szL; omega
    · have := ih h; omega
theorem szP_mem {hs : List PatchHunk} {h : PatchHunk} (hm : h ∈ hs) : szH h ≤ szP hs := by
  unfold szP
  induction hs with
  | nil => simp at hm
  | cons y r ih =>
    simp only [List.map_cons, List.sum_cons]
    rcases List.mem_cons.1 hm with rfl | hm
    · omega
    · have := ih hm; omega
theorem szP_len (hs : List PatchHunk) : 64 * hs.length ≤ szP hs := by
  unfold szP
  induction hs with
  | nil => simp
  | cons x r ih => simp only [List.map_cons, List.sum_cons, List.length_cons, szH]; omega
theorem szP_take (hs : List PatchHunk) (i : Nat) : szP (hs.take i) ≤ szP hs := by
  unfold szP
  conv => rhs; rw [← List.take_append_drop i hs, List.map_append, List.sum_append]
  omega
theorem linesNot_len (ls : List PatchLine) (k : UInt8) : (linesNot ls k).length ≤ ls.length := by unfold linesNot; rw [List.length_map]; exact List.length_filter_le _ _
theorem linesNot_succ (ls : List PatchLine) (k : UInt8) (i : Nat) (h : i < ls.length) : linesNot (ls.take (i + 1)) k = if ls[i].Kind ≠ k then linesNot (ls.take i) k ++ [ls[i].Text] else linesNot (ls.take i) k := by
  unfold linesNot
  rw [List.take_succ_eq_append_getElem h, List.filter_append, List.map_append]
  by_cases hk : ls[i].Kind = k
  · rw [if_neg (by simp [hk])]; simp [hk]
  · rw [if_pos hk]; simp [hk]
theorem sideLines_succ (hs : List PatchHunk) (k : UInt8) (i : Nat) (h : i < hs.length) : sideLines (hs.take (i + 1)) k = sideLines (hs.take i) k ++ linesNot hs[i].Lines k := by
  unfold sideLines
  rw [List.take_succ_eq_append_getElem h, List.map_append, List.flatten_append]; simp only [List.map_cons, List.map_nil, List.flatten_cons, List.flatten_nil, List.append_nil]
theorem sideLines_len (hs : List PatchHunk) (k : UInt8) : 64 * (sideLines hs k).length ≤ szP hs := by
  induction hs with
  | nil => simp [sideLines]
  | cons h r ih =>
    have h1 := linesNot_len h.Lines k
    have h2 := szL_len h.Lines
    simp only [sideLines, List.map_cons, List.flatten_cons, List.length_append, szP, List.sum_cons, szH] at ih ⊢
    omega
theorem sideLines_mem {hs : List PatchHunk} {k : UInt8} {s : Str} (h : s ∈ sideLines hs k) : s.length ≤ szP hs := by
  unfold sideLines at h
  obtain ⟨l, hl, hs'⟩ := List.mem_flatten.1 h
  obtain ⟨hk, hhk, rfl⟩ := List.mem_map.1 hl
  unfold linesNot at hs'
  obtain ⟨x, hx, rfl⟩ := List.mem_map.1 hs'
  have h1 := szL_mem (List.mem_filter.1 hx).1
  have h2 := szP_mem hhk
  unfold szH at h2
  omega
theorem endedBut_drop (l : List Str) (i : Nat) (h : i + 1 < l.length) : endedBut (l.drop i) = (ended l[i] && endedBut (l.drop (i + 1))) := by
  rw [List.drop_eq_getElem_cons (by omega), endedBut]
  have : (l.drop (i + 1)).isEmpty = false := by
    rw [List.isEmpty_eq_false_iff]; intro e
    have := congrArg List.length e
    simp at this; omega
  rw [this]; rfl
theorem endedBut_last (l : List Str) (i : Nat) (h : l.length ≤ i + 1) : endedBut (l.drop i) = true := by
  rcases Nat.lt_or_ge i l.length with h' | h'
  · rw [List.drop_eq_getElem_cons h', List.drop_eq_nil_of_le h]; rfl
  · rw [List.drop_eq_nil_of_le h']; rfl
theorem linePs_len (x : PatchLine) : (linePs x).length ≤ 2 ∧ 1 ≤ (linePs x).length := by unfold linePs; split <;> simp
theorem linePs_flat (x : PatchLine) : (linePs x).flatten.length ≤ szL x := by
  unfold linePs szL markS; split <;> simp <;> omega
theorem linesPs_flat (ls : List PatchLine) : (ls.map linePs).flatten.flatten.length ≤ (ls.map szL).sum := by
  induction ls with
  | nil => simp
  | cons x r ih => have := linePs_flat x; simp only [List.map_cons, List.flatten_cons, List.flatten_append, List.length_append, List.sum_cons]; omega
theorem linesPs_len (ls : List PatchLine) : (ls.map linePs).flatten.length ≤ 2 * ls.length := by
  induction ls with
  | nil => simp
  | cons x r ih => have := linePs_len x; simp only [List.map_cons, List.flatten_cons, List.length_append, List.length_cons]; omega
theorem headW_len (h : PatchHunk) : (headW h).length ≤ 52 := by
  have h1 := rangeOf_len h.Old (oldN h)
  have h2 := rangeOf_len h.New (newN h)
  unfold headW
  simp only [List.length_append, List.length_cons, List.length_nil]; omega
theorem hunkPs_flat (h : PatchHunk) : (hunkPs h).flatten.length ≤ szH h := by
  have h1 := headW_len h
  have h2 := linesPs_flat h.Lines
  unfold hunkPs szH
  simp only [List.flatten_cons, List.length_append]; omega
theorem hunksPs_flat (hs : List PatchHunk) : (hs.map hunkPs).flatten.flatten.length ≤ szP hs := by
  unfold szP
  induction hs with
  | nil => simp
  | cons x r ih => have := hunkPs_flat x; simp only [List.map_cons, List.flatten_cons, List.flatten_append, List.length_append, List.sum_cons]; omega
theorem hunkPs_len (h : PatchHunk) : (hunkPs h).length ≤ szH h := by
  have h1 := linesPs_len h.Lines
  have h2 := szL_len h.Lines
  unfold hunkPs szH
  simp only [List.length_cons]; omega
theorem hunksPs_len (hs : List PatchHunk) : (hs.map hunkPs).flatten.length ≤ szP hs := by
  unfold szP
  induction hs with
  | nil => simp
  | cons x r ih => have := hunkPs_len x; simp only [List.map_cons, List.flatten_cons, List.length_append, List.sum_cons]; omega
theorem namePs_flat (p : Patch) : (namePs p).flatten.length ≤ 4 * p.OldName.length + 4 * p.NewName.length + 14 := by
  have h1 := quoteOf_len p.OldName
  have h2 := quoteOf_len p.NewName
  unfold namePs
  simp only [List.flatten_cons, List.flatten_nil, List.length_append, List.length_cons, List.length_nil]; omega
theorem hunkTo_succ (hs : List PatchHunk) (k : Nat) (h : k < hs.length) : ((hs.take (k + 1)).map hunkPs).flatten = ((hs.take k).map hunkPs).flatten ++ hunkPs hs[k] := by
  rw [List.take_succ_eq_append_getElem h, List.map_append, List.flatten_append]; simp only [List.map_cons, List.map_nil, List.flatten_cons, List.flatten_nil, List.append_nil]
theorem lineTo_succ (ls : List PatchLine) (k : Nat) (h : k < ls.length) : ((ls.take (k + 1)).map linePs).flatten = ((ls.take k).map linePs).flatten ++ linePs ls[k] := by
  rw [List.take_succ_eq_append_getElem h, List.map_append, List.flatten_append]; simp only [List.map_cons, List.map_nil, List.flatten_cons, List.flatten_nil, List.append_nil]
theorem goodGo_range : ∀ (hs : List PatchHunk) (i j : Int), goodGo i j hs = true → 0 ≤ i → 0 ≤ j → ∀ h ∈ hs, (0 ≤ h.Old ∧ h.Old ≤ 4096) ∧ (0 ≤ h.New ∧ h.New ≤ 4096)
  | [], _, _, _, _, _, h, hm => by simp at hm
  | x :: r, i, j, hg, hi, hj, h, hm => by
    simp only [goodGo, Bool.and_eq_true, decide_eq_true_eq] at hg
    obtain ⟨_, h1, h2, h3⟩ := hg
    unfold offPlace at h1
    have hx : (0 ≤ x.Old ∧ x.Old ≤ 4096) ∧ (0 ≤ x.New ∧ x.New ≤ 4096) := by omega
    rcases List.mem_cons.1 hm with rfl | hm
    · exact hx
    · exact goodGo_range r _ _ h3 (by unfold oldN; omega) (by unfold newN; omega) h hm
theorem goodOf_range {hs : List PatchHunk} (h : goodOf hs = true) : ∀ x ∈ hs, (0 ≤ x.Old ∧ x.Old ≤ 4096) ∧ (0 ≤ x.New ∧ x.New ≤ 4096) := by
  unfold goodOf at h
  rw [Bool.and_eq_true] at h
  exact goodGo_range hs 0 0 h.1 (by omega) (by omega)
end Go.AL
namespace Go.AL
open Go
def putOf (k : UInt8) (ts : List Str) : List PatchLine := ts.map fun t => ⟨k, t⟩
theorem putOf_succ (k : UInt8) (ts : List Str) (i : Nat) (h : i < ts.length) : putOf k (ts.take (i + 1)) = putOf k (ts.take i) ++ [⟨k, ts[i]⟩] := by
  unfold putOf; rw [List.take_succ_eq_append_getElem h, List.map_append]; rfl
theorem putOf_len (k : UInt8) (ts : List Str) : (putOf k ts).length = ts.length := by simp [putOf]
def sub (x : List Str) (a b : Int) : List Str := (x.drop a.toNat).take (b.toNat - a.toNat)
theorem sub_len (x : List Str) (a b : Int) : (sub x a b).length ≤ x.length := by unfold sub; rw [List.length_take, List.length_drop]; omega
def endC (c : Change) : Int := c.Old + c.OldLen
def posTo (l : List Change) (i0 : Int) (a t : Nat) : Int := if t = 0 then i0 else endC (cAt l (a + t - 1))
theorem posTo_succ (l : List Change) (i0 : Int) (a t : Nat) : posTo l i0 a (t + 1) = endC (cAt l (a + t)) := by
  unfold posTo; rw [if_neg (by omega)]; congr 2
def madeTo (l : List Change) (x y : List Str) (i0 : Int) (a : Nat) : Nat → List PatchLine
  | 0 => []
  | t + 1 => madeTo l x y i0 a t ++ putOf 32 (sub x (posTo l i0 a t) (cAt l (a + t)).Old) ++ putOf 45 (sub x (cAt l (a + t)).Old (endC (cAt l (a + t)))) ++ putOf 43 (sub y (cAt l (a + t)).New ((cAt l (a + t)).New + (cAt l (a + t)).NewLen))
def hunkOfG (l : List Change) (x y : List Str) (h : Hunk) : PatchHunk :=
  ⟨h.Old.From, h.New.From, madeTo l x y h.Old.From h.First.toNat (h.Last.toNat - h.First.toNat) ++ putOf 32 (sub x (posTo l h.Old.From h.First.toNat (h.Last.toNat - h.First.toNat)) h.Old.To)⟩
theorem madeTo_len (l : List Change) (x y : List Str) (i0 : Int) (a t : Nat) : (madeTo l x y i0 a t).length ≤ t * (2 * x.length + y.length) := by
  induction t with
  | zero => simp [madeTo]
  | succ t ih =>
    have h1 := sub_len x (posTo l i0 a t) (cAt l (a + t)).Old
    have h2 := sub_len x (cAt l (a + t)).Old (endC (cAt l (a + t)))
    have h3 := sub_len y (cAt l (a + t)).New ((cAt l (a + t)).New + (cAt l (a + t)).NewLen)
    simp only [madeTo, List.length_append, putOf_len]
    rw [Nat.succ_mul]; omega
def patch0 : Patch := ⟨[], [], []⟩
def scriptOf (x y : List Str) : List Change := walkOf (idsOf (namesOf [x, y]) x) (idsOf (namesOf [x, y]) y)
def madeHunks (x y : List Str) (ctx : Int) : List PatchHunk := (groupOf (scriptOf x y) x.length y.length ctx).1.map (hunkOfG (scriptOf x y) x y)
def make12 (on nn a b : Str) (ctx : Int) : Patch × Int :=
  if nameOk on = false ∨ nameOk nn = false then (patch0, 120)
  else if (splitOf a).2 ≠ 0 then (patch0, (splitOf a).2)
  else if (splitOf b).2 ≠ 0 then (patch0, (splitOf b).2)
  else if (groupOf (scriptOf (splitOf a).1 (splitOf b).1) (splitOf a).1.length (splitOf b).1.length ctx).2 ≠ 0 then (patch0, (groupOf (scriptOf (splitOf a).1 (splitOf b).1) (splitOf a).1.length (splitOf b).1.length ctx).2)
  else if check12 ⟨on, nn, madeHunks (splitOf a).1 (splitOf b).1 ctx⟩ ≠ 0 then (patch0, check12 ⟨on, nn, madeHunks (splitOf a).1 (splitOf b).1 ctx⟩)
  else (⟨on, nn, madeHunks (splitOf a).1 (splitOf b).1 ctx⟩, 0)
theorem scriptOf_len (x y : List Str) : (scriptOf x y).length ≤ x.length + 1 := by
  unfold scriptOf walkOf madeOf
  have h1 := madeGo_length (walkGo 0 0 (idsOf (namesOf [x, y]) x) (idsOf (namesOf [x, y]) y)) 0 0 ((idsOf (namesOf [x, y]) x).length) ((idsOf (namesOf [x, y]) y).length)
  have h2 := walkGo_length 0 0 (idsOf (namesOf [x, y]) x) (idsOf (namesOf [x, y]) y)
  have h3 : (idsOf (namesOf [x, y]) x).length = x.length := by simp [idsOf]
  omega
end Go.AL
namespace Go.AL
open Go
def fitsOf (h : PatchHunk) (lines : List Str) : Bool := if (lines.length : Int) < h.Old + oldN h then false else decide ((lines.drop h.Old.toNat).take (linesNot h.Lines 43).length = linesNot h.Lines 43)
def fitN : List PatchHunk → List Str → Nat
  | [], _ => 0
  | h :: r, x => if fitsOf h x = true then fitN r x + 1 else 0
theorem fitN_le (hs : List PatchHunk) (x : List Str) : fitN hs x ≤ hs.length := by
  induction hs with
  | nil => simp [fitN]
  | cons h r ih => simp only [fitN]; split <;> simp <;> omega
def fits14 (p : Patch) (blob : Str) : Int × Int := if check12 p ≠ 0 then (0, check12 p) else if (splitOf blob).2 ≠ 0 then (0, (splitOf blob).2) else (fitN p.Hunks (splitOf blob).1, 0)
def hAt (hs : List PatchHunk) (k : Nat) : PatchHunk := hs.getD k ⟨0, 0, []⟩
theorem hAt_get {hs : List PatchHunk} {k : Nat} (h : k < hs.length) : hs[k]? = some (hAt hs k) := by
  unfold hAt; rw [List.getD_eq_getElem?_getD, List.getElem?_eq_getElem h]; rfl
theorem hAt_mem {hs : List PatchHunk} {k : Nat} (h : k < hs.length) : hAt hs k ∈ hs := List.mem_of_getElem? (hAt_get h)
def atTo (hs : List PatchHunk) (k : Nat) : Int := if k = 0 then 0 else (hAt hs (k - 1)).Old + oldN (hAt hs (k - 1))
def outTo (hs : List PatchHunk) (x : List Str) : Nat → List Str
  | 0 => []
  | k + 1 => outTo hs x k ++ sub x (atTo hs k) (hAt hs k).Old ++ linesNot (hAt hs k).Lines 45
def applyOf (hs : List PatchHunk) (x : List Str) : Str × Int :=
  let out := outTo hs x hs.length ++ x.drop (atTo hs hs.length).toNat
  if listOk out = false then ([], 140) else joinOf out
def apply14 (p : Patch) (blob : Str) : Str × Int := if (fits14 p blob).2 ≠ 0 then ([], (fits14 p blob).2) else if (fits14 p blob).1 < p.Hunks.length then ([], 140) else applyOf p.Hunks (linesOf blob)
theorem fitN_all : ∀ (hs : List PatchHunk) (x : List Str), fitN hs x = hs.length → ∀ h ∈ hs, fitsOf h x = true
  | [], _, _, h, hm => by simp at hm
  | y :: r, x, he, h, hm => by
    simp only [fitN] at he
    split at he
    · rename_i hy
      rcases List.mem_cons.1 hm with rfl | hm
      · exact hy
      · exact fitN_all r x (by simpa using he) h hm
    · simp at he
theorem fitsOf_le {h : PatchHunk} {x : List Str} (hf : fitsOf h x = true) : h.Old + oldN h ≤ x.length := by
  unfold fitsOf at hf
  split at hf
  · cases hf
  · omega
theorem goodGo_order : ∀ (hs : List PatchHunk) (i j : Int), goodGo i j hs = true → ∀ k, k < hs.length → (if k = 0 then i else (hAt hs (k - 1)).Old + oldN (hAt hs (k - 1))) ≤ (hAt hs k).Old
  | [], _, _, _, k, hk => by simp at hk
  | y :: r, i, j, hg, k, hk => by
    simp only [goodGo, Bool.and_eq_true, decide_eq_true_eq] at hg
    obtain ⟨_, h1, _, h3⟩ := hg
    unfold offPlace at h1
    match k with
    | 0 => simp only [if_pos]; show i ≤ y.Old; omega
    | 1 =>
      have := goodGo_order r _ _ h3 0 (by simpa using hk)
      simpa [hAt] using this
    | k + 2 =>
      have := goodGo_order r _ _ h3 (k + 1) (by simp only [List.length_cons] at hk; omega)
      simpa [hAt] using this
theorem oldN_nn (h : PatchHunk) : 0 ≤ oldN h := by unfold oldN; omega
theorem sub_flat (x : List Str) (a b : Int) (_h0 : 0 ≤ a) (h1 : a ≤ b) : (x.take a.toNat).flatten.length + (sub x a b).flatten.length = (x.take b.toNat).flatten.length := by
  have e : x.take b.toNat = x.take a.toNat ++ sub x a b := by
    unfold sub
    rw [show b.toNat = a.toNat + (b.toNat - a.toNat) by omega, List.take_add]; congr 2; omega
  rw [e, List.flatten_append, List.length_append]
theorem szP_succ (hs : List PatchHunk) (k : Nat) (h : k < hs.length) : szP (hs.take (k + 1)) = szP (hs.take k) + szH (hAt hs k) := by
  have e : hs[k] = hAt hs k := by have := hAt_get h; rw [List.getElem?_eq_getElem h] at this; exact Option.some.inj this
  unfold szP
  rw [List.take_succ_eq_append_getElem h, List.map_append, List.sum_append, e]; simp
theorem linesNot_flat (ls : List PatchLine) (k : UInt8) : (linesNot ls k).flatten.length + (linesNot ls k).length ≤ (ls.map szL).sum := by
  unfold linesNot
  induction ls with
  | nil => simp
  | cons x r ih =>
    by_cases hx : x.Kind = k
    · simp [hx, szL] at ih ⊢; omega
    · simp [hx, szL] at ih ⊢; omega
end Go.AL
namespace Go.AL
open Go
def openGo (o n : Bool) : List PatchLine → Option (Bool × Bool)
  | [] => some (o, n)
  | x :: r =>
    if x.Kind ≠ 43 ∧ o = true then none
    else if x.Kind ≠ 45 ∧ n = true then none
    else openGo (if x.Kind ≠ 43 then !ended x.Text else o) (if x.Kind ≠ 45 then !ended x.Text else n) r
def closedB : Bool → List Str → Bool
  | _, [] => true
  | o, s :: r => !o && closedB (!ended s) r
def lastOpen (o : Bool) : List Str → Bool
  | [] => o
  | s :: r => lastOpen (!ended s) r
theorem closedB_append : ∀ (a b : List Str) (o : Bool), closedB o (a ++ b) = (closedB o a && closedB (lastOpen o a) b)
  | [], b, o => by simp [closedB, lastOpen]
  | s :: r, b, o => by simp only [List.cons_append, closedB, lastOpen, closedB_append r b]; cases o <;> simp
theorem closedB_ended : ∀ (l : List Str), closedB false l = endedBut l
  | [] => rfl
  | s :: r => by
    have ih := closedB_ended r
    simp only [closedB, endedBut]
    cases he : ended s
    · cases r with
      | nil => rfl
      | cons t u => simp [closedB]
    · rw [← ih]; cases r <;> simp [closedB]
theorem openGo_sides : ∀ (ls : List PatchLine) (o n : Bool), openGo o n ls = if closedB o (linesNot ls 43) && closedB n (linesNot ls 45) then some (lastOpen o (linesNot ls 43), lastOpen n (linesNot ls 45)) else none
  | [], o, n => by simp [openGo, linesNot, closedB, lastOpen]
  | x :: r, o, n => by
    have c1 : linesNot (x :: r) 43 = if x.Kind ≠ 43 then x.Text :: linesNot r 43 else linesNot r 43 := by
      unfold linesNot; by_cases h : x.Kind = 43 <;> simp [h]
    have c2 : linesNot (x :: r) 45 = if x.Kind ≠ 45 then x.Text :: linesNot r 45 else linesNot r 45 := by
      unfold linesNot; by_cases h : x.Kind = 45 <;> simp [h]
    rw [openGo, openGo_sides r, c1, c2]
    by_cases h1 : x.Kind = 43 <;> by_cases h2 : x.Kind = 45 <;> cases o <;> cases n <;> simp [h1, h2, closedB, lastOpen]
def badPlace (i j : Int) (h : PatchHunk) : Prop := ((((h.Old < 0 ∨ h.New < 0) ∨ 4096 < h.Old) ∨ 4096 < h.New) ∨ h.Old < i) ∨ h.Old - i ≠ h.New - j
instance (i j : Int) (h : PatchHunk) : Decidable (badPlace i j h) := by unfold badPlace; exact inferInstance
def wellGo (i j : Int) (o n : Bool) : List PatchHunk → Bool
  | [] => true
  | h :: r =>
    (h.Lines.all goodLn && someCh h.Lines) && (decide (¬ badPlace i j h) &&
      match openGo o n h.Lines with
      | none => false
      | some (o', n') => decide (h.Old + oldN h ≤ 4096 ∧ h.New + newN h ≤ 4096) && wellGo (h.Old + oldN h) (h.New + newN h) o' n' r)
theorem sideLines_cons (h : PatchHunk) (r : List PatchHunk) (k : UInt8) : sideLines (h :: r) k = linesNot h.Lines k ++ sideLines r k := rfl
theorem well_eq : ∀ (hs : List PatchHunk) (i j : Int) (o n : Bool), 0 ≤ i → 0 ≤ j → wellGo i j o n hs = (goodGo i j hs && (closedB o (sideLines hs 43) && closedB n (sideLines hs 45)))
  | [], i, j, o, n, _, _ => by simp [wellGo, goodGo, sideLines, closedB]
  | h :: r, i, j, o, n, hi, hj => by
    rw [wellGo, goodGo, sideLines_cons, sideLines_cons, closedB_append, closedB_append, openGo_sides]
    have a1 := oldN_nn h
    have a2 : 0 ≤ newN h := by unfold newN; omega
    cases e1 : h.Lines.all goodLn
    · simp
    cases e2 : someCh h.Lines
    · have : decide (¬ offPlace false i j h) = false := decide_eq_false (fun hh => hh (by unfold offPlace; simp))
      rw [this]; simp
    have e3 : decide (¬ badPlace i j h) = decide (¬ offPlace true i j h) := by
      apply decide_eq_decide.2
      unfold badPlace offPlace
      constructor <;> intro hh <;> simp only [not_or, Bool.true_eq_false, not_false_eq_true, true_and] at hh ⊢ <;> omega
    rw [e3]
    by_cases hp : offPlace true i j h
    · rw [decide_eq_false (fun hh => hh hp)]; simp
    rw [decide_eq_true hp]
    have hb : 0 ≤ h.Old ∧ 0 ≤ h.New := by unfold offPlace at hp; simp only [not_or] at hp; omega
    have e4 : decide (h.Old + oldN h ≤ 4096 ∧ h.New + newN h ≤ 4096) = decide (¬ (4096 < h.Old + oldN h ∨ 4096 < h.New + newN h)) := decide_eq_decide.2 (by omega)
    have ih := well_eq r (h.Old + oldN h) (h.New + newN h) (lastOpen o (linesNot h.Lines 43)) (lastOpen n (linesNot h.Lines 45)) (by omega) (by omega)
    cases e5 : closedB o (linesNot h.Lines 43) <;> cases e6 : closedB n (linesNot h.Lines 45) <;> simp [e4, ih, Bool.and_assoc]
theorem well_good (hs : List PatchHunk) : wellGo 0 0 false false hs = goodOf hs := by
  rw [well_eq hs 0 0 false false (by omega) (by omega), closedB_ended, closedB_ended]; rfl
end Go.AL
namespace Go.AL
open Go
theorem line_len (b s : Str) (h : s ∈ linesOf b) : s.length ≤ b.length := by
  have h1 : (linesOf b).flatten = b := by
    have key : ∀ (s cur : Str), (linesAux cur s).flatten = cur ++ s := by
      intro s
      induction s with
      | nil => intro cur; unfold linesAux; split <;> simp [*]
      | cons c r ih => intro cur; unfold linesAux; split <;> simp [ih]
    exact key b []
  have h2 : ∀ (l : List Str), s ∈ l → s.length ≤ l.flatten.length := by
    intro l
    induction l with
    | nil => intro h; cases h
    | cons x r ih =>
      intro h
      rcases List.mem_cons.1 h with rfl | h
      · simp
      · have := ih h; simp only [List.flatten_cons, List.length_append]; omega
  have := h2 _ h; rw [h1] at this; exact this
end Go.AL
namespace Go.AL
open Go
theorem outTo_lenK {hs : List PatchHunk} {x : List Str} :
    ∀ k, k ≤ hs.length → (∀ j, j < k → 0 ≤ atTo hs j ∧ atTo hs j ≤ (hAt hs j).Old ∧ (hAt hs j).Old + oldN (hAt hs j) ≤ x.length) → (outTo hs x k).length ≤ (atTo hs k).toNat + szP (hs.take k) ∧ (outTo hs x k).flatten.length ≤ (x.take (atTo hs k).toNat).flatten.length + szP (hs.take k)
  | 0, _, _ => by simp [outTo]
  | k + 1, hk, ho => by
    obtain ⟨h1, h2⟩ := outTo_lenK k (by omega) (fun j hj => ho j (by omega))
    obtain ⟨h3, h4, h5⟩ := ho k (by omega)
    have h6 := oldN_nn (hAt hs k)
    have e : atTo hs (k + 1) = (hAt hs k).Old + oldN (hAt hs k) := by unfold atTo; rw [if_neg (by omega)]; rfl
    have h7 := sub_flat x (atTo hs k) (hAt hs k).Old h3 h4
    have h8 := szP_succ hs k (by omega)
    have h9 := linesNot_flat (hAt hs k).Lines 45
    have h10 := sub_flat x (hAt hs k).Old ((hAt hs k).Old + oldN (hAt hs k)) (by omega) (by omega)
    have h11 : (sub x (atTo hs k) (hAt hs k).Old).length ≤ (hAt hs k).Old.toNat - (atTo hs k).toNat := by unfold sub; rw [List.length_take]; omega
    unfold szH at h8
    simp only [outTo, List.length_append, List.flatten_append, e]
    constructor <;> omega
theorem szL_le (ls : List PatchLine) (L : Nat) (h : ∀ x ∈ ls, x.Text.length ≤ L) : (ls.map szL).sum ≤ ls.length * (L + 64) := by
  induction ls with
  | nil => simp
  | cons x r ih =>
    have h1 := ih (fun y hy => h y (by simp [hy]))
    have h2 := h x (by simp)
    simp only [List.map_cons, List.sum_cons, List.length_cons, Nat.succ_mul]
    unfold szL at *; omega
theorem szP_le (hs : List PatchHunk) (B : Nat) (h : ∀ x ∈ hs, szH x ≤ B) : szP hs ≤ hs.length * B := by
  induction hs with
  | nil => simp [szP]
  | cons x r ih =>
    have h1 := ih (fun y hy => h y (by simp [hy]))
    have h2 := h x (by simp)
    simp only [szP, List.map_cons, List.sum_cons, List.length_cons, Nat.succ_mul] at *
    omega
theorem sub_mem {x : List Str} {a b : Int} {s : Str} (h : s ∈ sub x a b) : s ∈ x := by
  unfold sub at h
  exact List.mem_of_mem_drop (List.mem_of_mem_take h)
theorem putOf_mem {k : UInt8} {ts : List Str} {q : PatchLine} (h : q ∈ putOf k ts) : q.Text ∈ ts := by
  unfold putOf at h
  obtain ⟨t, ht, rfl⟩ := List.mem_map.1 h
  exact ht
theorem madeTo_mem (l : List Change) (x y : List Str) (i0 : Int) (a : Nat) : ∀ (t : Nat) (q : PatchLine), q ∈ madeTo l x y i0 a t → q.Text ∈ x ∨ q.Text ∈ y
  | 0, q, h => by simp [madeTo] at h
  | t + 1, q, h => by
    simp only [madeTo, List.mem_append] at h
    rcases h with ((h | h) | h) | h
    · exact madeTo_mem l x y i0 a t q h
    · exact .inl (sub_mem (putOf_mem h))
    · exact .inl (sub_mem (putOf_mem h))
    · exact .inr (sub_mem (putOf_mem h))
theorem hunkOfG_sz (l : List Change) (x y : List Str) (h : Hunk) (L T : Nat) (hx : ∀ s ∈ x, s.length ≤ L) (hy : ∀ s ∈ y, s.length ≤ L) (ht : h.Last.toNat - h.First.toNat ≤ T) :
    szH (hunkOfG l x y h) ≤ 64 + (T * (2 * x.length + y.length) + x.length) * (L + 64) := by
  unfold szH
  have h1 : ∀ q ∈ (hunkOfG l x y h).Lines, q.Text.length ≤ L := by
    intro q hq
    simp only [hunkOfG, List.mem_append] at hq
    rcases hq with hq | hq
    · rcases madeTo_mem _ _ _ _ _ _ _ hq with h | h
      · exact hx _ h
      · exact hy _ h
    · exact hx _ (sub_mem (putOf_mem hq))
  have h2 := szL_le _ L h1
  have h3 : (hunkOfG l x y h).Lines.length ≤ T * (2 * x.length + y.length) + x.length := by
    simp only [hunkOfG, List.length_append, putOf_len]
    have h4 := madeTo_len l x y h.Old.From h.First.toNat (h.Last.toNat - h.First.toNat)
    have h5 := sub_len x (posTo l h.Old.From h.First.toNat (h.Last.toNat - h.First.toNat)) h.Old.To
    have h6 : (h.Last.toNat - h.First.toNat) * (2 * x.length + y.length) ≤ T * (2 * x.length + y.length) := Nat.mul_le_mul_right _ ht
    omega
  have h4 : (hunkOfG l x y h).Lines.length * (L + 64) ≤ (T * (2 * x.length + y.length) + x.length) * (L + 64) := Nat.mul_le_mul_right _ h3
  omega
theorem groupOf_fit (l : List Change) (m n ctx : Int) : (groupOf l m n ctx).1.length ≤ l.length ∧ ∀ h ∈ (groupOf l m n ctx).1, h.Last.toNat - h.First.toNat ≤ l.length := by
  unfold groupOf
  by_cases c1 : ctx < 0 ∨ 1048576 < ctx
  · rw [if_pos c1]; simp
  rw [if_neg c1]
  by_cases c2 : check8 l m n ≠ 0
  · rw [if_pos c2]; simp
  rw [if_neg c2]
  obtain ⟨_, _, c3⟩ := check8_ok (Decidable.not_not.1 c2)
  refine ⟨(groupTo_len l m ctx l.length).1, fun h hh => ?_⟩
  have := groupTo_ok c3 (show 0 ≤ ctx by omega) l.length (Nat.le_refl _) h hh
  obtain ⟨a, b, e1, e2, e3, e4, _⟩ := this
  omega
theorem madeHunks_sz (x y : List Str) (ctx : Int) (L : Nat) (hx : ∀ s ∈ x, s.length ≤ L) (hy : ∀ s ∈ y, s.length ≤ L) :
    szP (madeHunks x y ctx) ≤ (x.length + 1) * (64 + ((x.length + 1) * (2 * x.length + y.length) + x.length) * (L + 64)) := by
  have h0 := scriptOf_len x y
  obtain ⟨h1, h2⟩ := groupOf_fit (scriptOf x y) x.length y.length ctx
  have h3 : ∀ q ∈ madeHunks x y ctx, szH q ≤ 64 + ((x.length + 1) * (2 * x.length + y.length) + x.length) * (L + 64) := by
    intro q hq
    unfold madeHunks at hq
    obtain ⟨h, hh, rfl⟩ := List.mem_map.1 hq
    exact hunkOfG_sz _ _ _ _ L (x.length + 1) hx hy (by have := h2 h hh; omega)
  have h4 := szP_le _ _ h3
  have h5 : (madeHunks x y ctx).length ≤ x.length + 1 := by unfold madeHunks; rw [List.length_map]; omega
  exact Nat.le_trans h4 (Nat.mul_le_mul_right _ h5)
theorem madeHunks_small (a b : Str) (ctx : Int) (ha : a.length ≤ 36) (hb : b.length ≤ 216) : szP (madeHunks (splitOf a).1 (splitOf b).1 ctx) ≤ 134217728 := by
  have hm : ∀ (s : Str), (splitOf s).1.length ≤ s.length ∧ ∀ t ∈ (splitOf s).1, t.length ≤ s.length := by
    intro s
    unfold splitOf
    split
    · simp
    · refine ⟨linesOf_length s, fun t ht => line_len s t ht⟩
  obtain ⟨ha1, ha2⟩ := hm a
  obtain ⟨hb1, hb2⟩ := hm b
  have h := madeHunks_sz (splitOf a).1 (splitOf b).1 ctx 216 (fun s hs => by have := ha2 s hs; omega) (fun s hs => by have := hb2 s hs; omega)
  refine Nat.le_trans h ?_
  have e1 : (splitOf a).1.length ≤ 36 := by omega
  have e2 : (splitOf b).1.length ≤ 216 := by omega
  refine Nat.le_trans (Nat.mul_le_mul (Nat.add_le_add_right e1 1) (Nat.add_le_add_left (Nat.mul_le_mul_right _ (Nat.add_le_add (Nat.mul_le_mul (Nat.add_le_add_right e1 1) (Nat.add_le_add (Nat.mul_le_mul_left 2 e1) e2)) e1)) 64)) ?_
  decide
end Go.AL
namespace Go.AL
open Go
def awakeP : Patch := ⟨[120], [120], [⟨0, 0, [⟨32, [97, 10]⟩, ⟨45, [98]⟩, ⟨43, [99, 10]⟩]⟩]⟩
theorem awake_script : scriptOf [[97, 10], [98]] [[97, 10], [99, 10]] = [⟨1, 1, 1, 1⟩] := by
  have e : namesOf [[[97, 10], [98]], [[97, 10], [99, 10]]] = [[97, 10], [98], [99, 10]] := by decide
  have e1 : idsOf [[97, 10], [98], [99, 10]] [[97, 10], [98]] = [0, 1] := by decide
  have e2 : idsOf [[97, 10], [98], [99, 10]] [[97, 10], [99, 10]] = [0, 2] := by decide
  unfold scriptOf
  rw [e, e1, e2]
  simp [walkOf, walkGo, dist, madeOf, madeGo]
theorem writeOf_le (p : Patch) : (writeOf p).length ≤ 4 * p.OldName.length + 4 * p.NewName.length + 14 + szP p.Hunks := by
  have h1 := namePs_flat p
  have h2 := hunksPs_flat p.Hunks
  unfold writeOf writePs
  rw [List.flatten_append, List.length_append]; omega
theorem awake_check : check12 awakeP = 0 := by
  have h1 := writeOf_le awakeP
  have h2 : 4 * awakeP.OldName.length + 4 * awakeP.NewName.length + 14 + szP awakeP.Hunks ≤ 1000 := by decide
  unfold check12
  rw [if_neg (by decide), if_neg (by decide), if_neg (by omega)]
theorem awake_make : make12 [120] [120] [97, 10, 98] [97, 10, 99, 10] 1 = (awakeP, 0) := by
  have e1 : splitOf [97, 10, 98] = ([[97, 10], [98]], 0) := by decide
  have e2 : splitOf [97, 10, 99, 10] = ([[97, 10], [99, 10]], 0) := by decide
  have e3 : groupOf [⟨1, 1, 1, 1⟩] 2 2 1 = ([⟨0, 1, ⟨0, 2⟩, ⟨0, 2⟩⟩], 0) := by decide
  have e4 : madeHunks [[97, 10], [98]] [[97, 10], [99, 10]] 1 = awakeP.Hunks := by
    unfold madeHunks
    rw [awake_script]
    show (groupOf [⟨1, 1, 1, 1⟩] 2 2 1).1.map _ = _
    rw [e3]; decide
  have e5 : check12 ⟨[120], [120], awakeP.Hunks⟩ = 0 := awake_check
  unfold make12
  rw [if_neg (by decide), e1, e2]
  dsimp only
  rw [awake_script, e4, e5]
  show (if (0 : Int) ≠ 0 then _ else if (0 : Int) ≠ 0 then _ else if (groupOf [⟨1, 1, 1, 1⟩] 2 2 1).2 ≠ 0 then _ else _) = _
  rw [e3]; rfl
theorem awake_apply : apply14 awakeP [97, 10, 98] = ([97, 10, 99, 10], 0) ∧ (apply14 awakeP [97, 10, 98, 10]) = ([], 140) := by
  unfold apply14 fits14
  rw [awake_check]
  constructor <;> decide
end Go.AL
namespace Go.AL
open Go
def endN (c : Change) : Int := c.New + c.NewLen
def eoI (i : Int) (l : List Change) (k : Nat) : Int := if k = 0 then i else endC (cAt l (k - 1))
def enI (j : Int) (l : List Change) (k : Nat) : Int := if k = 0 then j else endN (cAt l (k - 1))
theorem eoI_cons (i : Int) (c : Change) (r : List Change) (k : Nat) : eoI i (c :: r) (k + 1) = eoI (endC c) r k := by
  cases k <;> rfl
theorem enI_cons (j : Int) (c : Change) (r : List Change) (k : Nat) : enI j (c :: r) (k + 1) = enI (endN c) r k := by
  cases k <;> rfl
theorem eoI_succ (i : Int) (l : List Change) (k : Nat) : eoI i l (k + 1) = endC (cAt l k) := rfl
theorem enI_succ (j : Int) (l : List Change) (k : Nat) : enI j l (k + 1) = endN (cAt l k) := rfl
theorem cAt_cons (c : Change) (r : List Change) (k : Nat) : cAt (c :: r) (k + 1) = cAt r k := rfl
def EqRuns (x y : List Str) (i j : Int) : List Change → Prop
  | [] => sub x i x.length = sub y j y.length
  | c :: r => sub x i c.Old = sub y j c.New ∧ EqRuns x y (endC c) (endN c) r
theorem sc_get (m n : Int) : ∀ (l : List Change) (k0 : Nat) (i j : Int), scriptGo k0 i j l m n = true → ∀ k, k < l.length →
    in81 (cAt l k).Old ∧ in81 (cAt l k).OldLen ∧ in81 (cAt l k).New ∧ in81 (cAt l k).NewLen ∧ (cAt l k).OldLen + (cAt l k).NewLen ≠ 0 ∧ (cAt l k).Old - eoI i l k = (cAt l k).New - enI j l k ∧ eoI i l k ≤ (cAt l k).Old ∧ (0 < k0 + k → eoI i l k < (cAt l k).Old)
  | [], _, _, _, _, k, hk => by simp at hk
  | c :: r, k0, i, j, h, k, hk => by
    simp only [scriptGo, Bool.and_eq_true, decide_eq_true_eq] at h
    obtain ⟨h1, h2⟩ := h
    cases k with
    | zero =>
      unfold badC at h1
      show in81 c.Old ∧ in81 c.OldLen ∧ in81 c.New ∧ in81 c.NewLen ∧ c.OldLen + c.NewLen ≠ 0 ∧ c.Old - i = c.New - j ∧ i ≤ c.Old ∧ (0 < k0 + 0 → i < c.Old)
      have d1 : in81 c.Old := by by_cases q : in81 c.Old; exact q; exact absurd (.inl (.inl (.inl (.inl (.inl (.inl (.inl q))))))) h1
      have d2 : in81 c.OldLen := by by_cases q : in81 c.OldLen; exact q; exact absurd (.inl (.inl (.inl (.inl (.inl (.inl (.inr q))))))) h1
      have d3 : in81 c.New := by by_cases q : in81 c.New; exact q; exact absurd (.inl (.inl (.inl (.inl (.inl (.inr q)))))) h1
      have d4 : in81 c.NewLen := by by_cases q : in81 c.NewLen; exact q; exact absurd (.inl (.inl (.inl (.inl (.inr q))))) h1
      refine ⟨d1, d2, d3, d4, fun q => h1 (.inl (.inl (.inl (.inr q)))), ?_, ?_, fun h0 => ?_⟩
      · by_cases q : c.Old - i = c.New - j
        · exact q
        · exact absurd (.inl (.inl (.inr q))) h1
      · by_cases q : c.Old < i
        · exact absurd (.inl (.inr q)) h1
        · omega
      · by_cases q : c.Old < i
        · exact absurd (.inl (.inr q)) h1
        · by_cases q2 : c.Old = i
          · exact absurd (.inr ⟨by omega, q2⟩) h1
          · omega
    | succ k =>
      have := sc_get m n r (k0 + 1) _ _ h2 k (by simpa using hk)
      rw [cAt_cons, eoI_cons, enI_cons]
      obtain ⟨e1, e2, e3, e4, e5, e6, e7, e8⟩ := this
      exact ⟨e1, e2, e3, e4, e5, e6, e7, fun h0 => e8 (by omega)⟩
theorem sc_end (m n : Int) : ∀ (l : List Change) (k0 : Nat) (i j : Int), scriptGo k0 i j l m n = true → m - eoI i l l.length = n - enI j l l.length ∧ eoI i l l.length ≤ m
  | [], _, i, j, h => by
    simp only [scriptGo, decide_eq_true_eq] at h
    show m - i = n - j ∧ i ≤ m
    omega
  | c :: r, k0, i, j, h => by
    simp only [scriptGo, Bool.and_eq_true, decide_eq_true_eq] at h
    rw [List.length_cons, eoI_cons, enI_cons]
    exact sc_end m n r _ _ _ h.2
theorem eq_get (x y : List Str) : ∀ (l : List Change) (i j : Int), EqRuns x y i j l → ∀ k, k < l.length → sub x (eoI i l k) (cAt l k).Old = sub y (enI j l k) (cAt l k).New
  | [], _, _, _, k, hk => by simp at hk
  | c :: r, i, j, h, k, hk => by
    cases k with
    | zero => exact h.1
    | succ k => rw [eoI_cons, enI_cons, cAt_cons]; exact eq_get x y r _ _ h.2 k (by simpa using hk)
theorem eq_end (x y : List Str) : ∀ (l : List Change) (i j : Int), EqRuns x y i j l → sub x (eoI i l l.length) x.length = sub y (enI j l l.length) y.length
  | [], _, _, h => h
  | c :: r, i, j, h => by rw [List.length_cons, eoI_cons, enI_cons]; exact eq_end x y r _ _ h.2
def mkH (l : List Change) (m ctx : Int) (a b : Nat) : Hunk := hunkEnd l m ctx (b - 1) (hunkOpen l ctx a)
def GrOk (l : List Change) (m ctx : Int) : Nat → List Hunk → Nat → Prop
  | a, [], k => a = k
  | a, h :: r, k => ∃ b, a < b ∧ opens l ctx a ∧ h = mkH l m ctx a b ∧ GrOk l m ctx b r k
theorem GrOk.le {l : List Change} {m ctx : Int} : ∀ {hs : List Hunk} {a k : Nat}, GrOk l m ctx a hs k → a ≤ k
  | [], a, k, h => Nat.le_of_eq h
  | _ :: _, a, k, ⟨b, h1, _, _, h2⟩ => by have := GrOk.le h2; omega
theorem GrOk.snoc {l : List Change} {m ctx : Int} {k : Nat} (ho : opens l ctx k) : ∀ {hs : List Hunk} {a : Nat}, GrOk l m ctx a hs k → GrOk l m ctx a (hs ++ [mkH l m ctx k (k + 1)]) (k + 1)
  | [], a, h => by
    obtain rfl : a = k := h
    exact ⟨a + 1, by omega, ho, rfl, rfl⟩
  | _ :: _, a, ⟨b, h1, h2, h3, h4⟩ => ⟨b, h1, h2, h3, GrOk.snoc ho h4⟩
theorem GrOk.last {l : List Change} {m ctx : Int} {k : Nat} : ∀ {hs : List Hunk} {a : Nat}, GrOk l m ctx a hs k → hs ≠ [] → GrOk l m ctx a (hs.set (hs.length - 1) (hunkEnd l m ctx k (hs.getD (hs.length - 1) hunk0))) (k + 1)
  | [], _, _, h0 => absurd rfl h0
  | [h], a, ⟨b, h1, h2, h3, h4⟩, _ => by
    obtain rfl : b = k := h4
    subst h3
    exact ⟨b + 1, by omega, h2, rfl, rfl⟩
  | h :: h' :: r, a, ⟨b, h1, h2, h3, h4⟩, _ => by
    have ih := GrOk.last h4 (by simp)
    refine ⟨b, h1, h2, h3, ?_⟩
    simpa using ih
theorem groupTo_gr (l : List Change) (m ctx : Int) : ∀ k, GrOk l m ctx 0 (groupTo l m ctx k) k
  | 0 => rfl
  | k + 1 => by
    have ih := groupTo_gr l m ctx k
    have hne := (groupTo_len l m ctx k).2
    simp only [groupTo, groupOpen]
    by_cases ho : opens l ctx k
    · rw [if_pos ho]
      have e : (groupTo l m ctx k ++ [hunkOpen l ctx k]).set ((groupTo l m ctx k ++ [hunkOpen l ctx k]).length - 1) (hunkEnd l m ctx k ((groupTo l m ctx k ++ [hunkOpen l ctx k]).getD ((groupTo l m ctx k ++ [hunkOpen l ctx k]).length - 1) hunk0)) = groupTo l m ctx k ++ [mkH l m ctx k (k + 1)] := by
        simp [mkH]
      rw [e]
      exact ih.snoc ho
    · rw [if_neg ho]
      refine ih.last ?_
      have : k ≠ 0 := fun e => ho (.inl e)
      have := hne (by omega)
      intro e; rw [e] at this; simp at this
theorem sub_app (x : List Str) {a b c : Int} (h0 : 0 ≤ a) (h1 : a ≤ b) (h2 : b ≤ c) : sub x a b ++ sub x b c = sub x a c := by
  unfold sub
  obtain ⟨u, rfl⟩ : ∃ u : Nat, (u : Int) = a := ⟨a.toNat, by omega⟩
  obtain ⟨v, rfl⟩ : ∃ v : Nat, (v : Int) = b := ⟨b.toNat, by omega⟩
  obtain ⟨w, rfl⟩ : ∃ w : Nat, (w : Int) = c := ⟨c.toNat, by omega⟩
  simp only [Int.toNat_natCast]
  have h3 : x.drop v = (x.drop u).drop (v - u) := by rw [List.drop_drop]; congr 1; omega
  rw [h3, show w - u = (v - u) + (w - v) by omega, List.take_add]
theorem sub_nil (x : List Str) (a : Int) : sub x a a = [] := by simp [sub]
theorem sub_length (x : List Str) {a b : Int} (h0 : 0 ≤ a) (h1 : a ≤ b) (h2 : b ≤ x.length) : ((sub x a b).length : Int) = b - a := by
  unfold sub; rw [List.length_take, List.length_drop]; omega
theorem run_tail {x y : List Str} {p q p' q' e : Int} (h : sub x p q = sub y p' q') (h0 : 0 ≤ p) (h0' : 0 ≤ p') (he : 0 ≤ e) (h1 : e ≤ q - p) (h2 : q - p = q' - p') : sub x (q - e) q = sub y (q' - e) q' := by
  have key : ∀ (z : List Str) (a b : Int), 0 ≤ a → e ≤ b - a → sub z (b - e) b = (sub z a b).drop (b - a - e).toNat := by
    intro z a b ha hb
    unfold sub
    rw [List.drop_take, List.drop_drop]
    congr 1
    · omega
    · congr 1; omega
  rw [key x p q h0 h1, key y p' q' h0' (by omega), h, h2]
theorem run_head {x y : List Str} {p q p' q' e : Int} (h : sub x p q = sub y p' q') (h0 : 0 ≤ p) (h0' : 0 ≤ p') (he : 0 ≤ e) (h1 : e ≤ q - p) (h2 : q - p = q' - p') : sub x p (p + e) = sub y p' (p' + e) := by
  have key : ∀ (z : List Str) (a b : Int), 0 ≤ a → e ≤ b - a → sub z a (a + e) = (sub z a b).take e.toNat := by
    intro z a b ha hb
    unfold sub
    rw [List.take_take]
    congr 1
    omega
  rw [key x p q h0 h1, key y p' q' h0' (by omega), h]
theorem linesNot_app (p q : List PatchLine) (k : UInt8) : linesNot (p ++ q) k = linesNot p k ++ linesNot q k := by simp [linesNot]
theorem linesNot_put (k k' : UInt8) (ts : List Str) : linesNot (putOf k ts) k' = if k = k' then [] else ts := by
  unfold linesNot putOf
  by_cases h : k = k'
  · rw [if_pos h]; subst h
    simp [List.filter_eq_nil_iff]
  · rw [if_neg h]
    rw [List.filter_eq_self.2 (by simp [h])]
    simp [Function.comp_def]
structure ScFit (x y : List Str) (l : List Change) : Prop where
  lx : (x.length : Int) ≤ 4096
  ly : (y.length : Int) ≤ 4096
  sc : scriptGo 0 0 0 l x.length y.length = true
  eq : EqRuns x y 0 0 l
section
variable {x y : List Str} {l : List Change}
theorem ScFit.ok (h : ScFit x y l) : ScOk 0 0 l x.length y.length := scriptGo_ok _ _ _ _ _ _ h.sc
theorem ScFit.check (h : ScFit x y l) : check8 l x.length y.length = 0 := by
  have h1 := h.lx
  have h2 := h.ly
  unfold check8
  rw [if_neg (by unfold in81; omega), if_pos h.sc]
theorem ScFit.nn (h : ScFit x y l) (k : Nat) (hk : k ≤ l.length) : 0 ≤ eoI 0 l k ∧ 0 ≤ enI 0 l k ∧ eoI 0 l k ≤ x.length ∧ enI 0 l k ≤ y.length := by
  cases k with
  | zero => exact ⟨Int.le_refl _, Int.le_refl _, Int.natCast_nonneg _, Int.natCast_nonneg _⟩
  | succ k =>
    obtain ⟨⟨a1, a2⟩, ⟨b1, b2⟩, ⟨c1, c2⟩, ⟨d1, d2⟩, h5, h6⟩ := h.ok.get k (by omega)
    rw [eoI_succ, enI_succ]; unfold endC endN
    omega
def eA (l : List Change) (ctx : Int) (a : Nat) : Int := minI ctx (cAt l a).Old
def eB (l : List Change) (m ctx : Int) (b : Nat) : Int := minI ctx (m - eoI 0 l b)
theorem minI_le {a b : Int} (h : 0 ≤ a) (h' : 0 ≤ b) : 0 ≤ minI a b ∧ minI a b ≤ a ∧ minI a b ≤ b := by unfold minI; split <;> omega
theorem opens_gap {ctx : Int} {a : Nat} (ho : opens l ctx a) (ha : a ≠ 0) : 2 * ctx < (cAt l a).Old - eoI 0 l a := by
  rcases ho with h | h
  · exact absurd h ha
  · unfold eoI; rw [if_neg ha]; unfold endC; omega
theorem ScFit.before (h : ScFit x y l) {ctx : Int} (hc : 0 ≤ ctx) {a : Nat} (ha : a < l.length) (ho : opens l ctx a) :
    0 ≤ eA l ctx a ∧ eA l ctx a ≤ ctx ∧ eA l ctx a ≤ (cAt l a).Old - eoI 0 l a := by
  obtain ⟨⟨a1, a2⟩, _⟩ := h.ok.get a ha
  have h3 := minI_le hc a1
  unfold eA
  by_cases h0 : a = 0
  · subst h0
    show _ ∧ _ ∧ _ ≤ (cAt l 0).Old - 0
    omega
  · have := opens_gap ho h0; omega
theorem ScFit.after (h : ScFit x y l) {ctx : Int} (hc : 0 ≤ ctx) {b : Nat} (hb : b ≤ l.length) (ho : b < l.length → opens l ctx b) (hb0 : b ≠ 0) :
    0 ≤ eB l x.length ctx b ∧ eB l x.length ctx b ≤ ctx ∧ eoI 0 l b + eB l x.length ctx b ≤ x.length ∧ enI 0 l b + eB l x.length ctx b ≤ y.length ∧
      sub x (eoI 0 l b) (eoI 0 l b + eB l x.length ctx b) = sub y (enI 0 l b) (enI 0 l b + eB l x.length ctx b) := by
  obtain ⟨h1, h2, h3, h4⟩ := h.nn b hb
  have h5 := minI_le hc (show 0 ≤ (x.length : Int) - eoI 0 l b by omega)
  unfold eB
  rcases Nat.lt_or_ge b l.length with hlt | hge
  · obtain ⟨g1, g2, g3, g4, g5, g6, g7, g8⟩ := sc_get _ _ _ _ _ _ h.sc b hlt
    obtain ⟨⟨a1, a2⟩, ⟨b1, b2⟩, ⟨c1, c2⟩, ⟨d1, d2⟩, k5, k6⟩ := h.ok.get b hlt
    have hg := opens_gap (ho hlt) hb0
    refine ⟨h5.1, h5.2.1, by omega, by omega, run_head (eq_get x y l 0 0 h.eq b hlt) h1 h2 h5.1 (by omega) (by omega)⟩
  · have e : b = l.length := by omega
    subst e
    obtain ⟨g1, g2⟩ := sc_end _ _ _ _ _ _ h.sc
    refine ⟨h5.1, h5.2.1, by omega, by omega, run_head (eq_end x y l 0 0 h.eq) h1 h2 h5.1 (by omega) (by omega)⟩
def posN (l : List Change) (j0 : Int) (a t : Nat) : Int := if t = 0 then j0 else endN (cAt l (a + t - 1))
theorem posTo_eo (i0 : Int) (a t : Nat) (ht : t ≠ 0) : posTo l i0 a t = eoI 0 l (a + t) := by
  unfold posTo eoI; rw [if_neg ht, if_neg (by omega)]
theorem posN_en (j0 : Int) (a t : Nat) (ht : t ≠ 0) : posN l j0 a t = enI 0 l (a + t) := by
  unfold posN enI; rw [if_neg ht, if_neg (by omega)]
theorem ScFit.made (h : ScFit x y l) {ctx : Int} (hc : 0 ≤ ctx) {a : Nat} (ho : opens l ctx a) : ∀ t, a + t ≤ l.length → (t = 0 → a < l.length) →
    linesNot (madeTo l x y ((cAt l a).Old - eA l ctx a) a t) 43 = sub x ((cAt l a).Old - eA l ctx a) (posTo l ((cAt l a).Old - eA l ctx a) a t) ∧
    linesNot (madeTo l x y ((cAt l a).Old - eA l ctx a) a t) 45 = sub y ((cAt l a).New - eA l ctx a) (posN l ((cAt l a).New - eA l ctx a) a t)
  | 0, _, _ => by
    unfold posTo posN
    rw [if_pos rfl, if_pos rfl, sub_nil, sub_nil]
    exact ⟨rfl, rfl⟩
  | t + 1, hl, _ => by
    have hlt : a + t < l.length := by omega
    have hla : a < l.length := by omega
    obtain ⟨ih1, ih2⟩ := ScFit.made h hc ho t (by omega) (fun _ => hla)
    obtain ⟨q1, q2, q3⟩ := h.before hc hla ho
    obtain ⟨p1, p2, p3, p4⟩ := h.nn (a + t) (by omega)
    obtain ⟨r1, r2, r3, r4⟩ := h.nn a (by omega)
    obtain ⟨g1, g2, g3, g4, g5, g6, g7, g8⟩ := sc_get _ _ _ _ _ _ h.sc (a + t) hlt
    obtain ⟨k1, ⟨k2, k2'⟩, k3, ⟨k4, k4'⟩, k5, k6, k7, k8⟩ := sc_get _ _ _ _ _ _ h.sc a hla
    obtain ⟨⟨a1, a2⟩, ⟨b1, b2⟩, ⟨c1, c2⟩, ⟨d1, d2⟩, w5, w6⟩ := h.ok.get (a + t) hlt
    have hrun : sub x (posTo l ((cAt l a).Old - eA l ctx a) a t) (cAt l (a + t)).Old = sub y (posN l ((cAt l a).New - eA l ctx a) a t) (cAt l (a + t)).New ∧
        (cAt l a).Old - eA l ctx a ≤ posTo l ((cAt l a).Old - eA l ctx a) a t ∧ posTo l ((cAt l a).Old - eA l ctx a) a t ≤ (cAt l (a + t)).Old ∧
        (cAt l a).New - eA l ctx a ≤ posN l ((cAt l a).New - eA l ctx a) a t ∧ posN l ((cAt l a).New - eA l ctx a) a t ≤ (cAt l (a + t)).New := by
      have hrun := eq_get x y l 0 0 h.eq (a + t) hlt
      by_cases ht : t = 0
      · subst ht
        unfold posTo posN
        rw [if_pos rfl, if_pos rfl]
        rw [show a + 0 = a from rfl] at *
        exact ⟨run_tail hrun r1 r2 q1 (by omega) (by omega), by omega, by omega, by omega, by omega⟩
      · rw [posTo_eo _ _ _ ht, posN_en _ _ _ ht]
        have m1 := h.ok.mono a (a + t - 1) (by omega) (by omega)
        have m2 : eoI 0 l (a + t) = (cAt l (a + t - 1)).Old + (cAt l (a + t - 1)).OldLen := by unfold eoI; rw [if_neg (by omega)]; rfl
        have m4 : ∀ u, u ≤ t → (cAt l a).New ≤ enI 0 l (a + u) ∨ u = 0 := by
          intro u
          induction u with
          | zero => exact fun _ => .inr rfl
          | succ u ihu =>
            intro hu
            obtain ⟨e1, e2, ⟨e3, e3'⟩, ⟨e4, e4'⟩, e5, e6, e7, e8⟩ := sc_get _ _ _ _ _ _ h.sc (a + u) (by omega)
            have e9 : enI 0 l (a + (u + 1)) = (cAt l (a + u)).New + (cAt l (a + u)).NewLen := rfl
            rcases ihu (by omega) with h' | h'
            · left; omega
            · left; subst h'; rw [e9]; show (cAt l a).New ≤ (cAt l a).New + (cAt l a).NewLen; exact Int.le_add_of_nonneg_right e4
        have m5 := (m4 t (Nat.le_refl _)).resolve_right ht
        refine ⟨hrun, by omega, by omega, by omega, by omega⟩
    obtain ⟨hr1, hr2, hr3, hr4, hr5⟩ := hrun
    simp (decide := true) only [madeTo, linesNot_app, linesNot_put, ih1, ih2, if_true, if_false, List.append_nil]
    have e1 : posTo l ((cAt l a).Old - eA l ctx a) a (t + 1) = endC (cAt l (a + t)) := posTo_succ _ _ _ _
    have e2 : posN l ((cAt l a).New - eA l ctx a) a (t + 1) = endN (cAt l (a + t)) := rfl
    rw [e1, e2]
    have s0 : 0 ≤ (cAt l a).Old - eA l ctx a := by omega
    have s1 : 0 ≤ (cAt l a).New - eA l ctx a := by omega
    refine ⟨?_, ?_⟩
    · rw [sub_app x s0 hr2 hr3, sub_app x s0 (by omega) (by unfold endC; omega)]
    · rw [hr1, sub_app y s1 hr4 hr5]
      exact sub_app y s1 (by omega) (by omega)
end
end Go.AL
namespace Go.AL
open Go
section
variable {x y : List Str} {l : List Change}
structure HunkIs (x y : List Str) (l : List Change) (ctx : Int) (a b : Nat) (h : PatchHunk) : Prop where
  old : h.Old = (cAt l a).Old - eA l ctx a
  new : h.New = (cAt l a).New - eA l ctx a
  o0 : 0 ≤ h.Old
  n0 : 0 ≤ h.New
  oe : h.Old + oldN h = eoI 0 l b + eB l x.length ctx b
  ne : h.New + newN h = enI 0 l b + eB l x.length ctx b
  ox : h.Old + oldN h ≤ x.length
  ny : h.New + newN h ≤ y.length
  ol : linesNot h.Lines 43 = sub x h.Old (h.Old + oldN h)
  nl : linesNot h.Lines 45 = sub y h.New (h.New + newN h)
  ch : someCh h.Lines = true
  gl : (∀ s ∈ x, lineOk s = true) → (∀ s ∈ y, lineOk s = true) → h.Lines.all goodLn = true
theorem someCh_app (p q : List PatchLine) : someCh (p ++ q) = (someCh p || someCh q) := by simp [someCh]
theorem someCh_put {k : UInt8} {ts : List Str} (hk : k ≠ 32) (h : ts ≠ []) : someCh (putOf k ts) = true := by
  cases ts with
  | nil => exact absurd rfl h
  | cons t ts => simp [someCh, putOf, hk]
theorem goodLn_put {k : UInt8} {ts : List Str} (hk : k = 32 ∨ k = 45 ∨ k = 43) (h : ∀ t ∈ ts, lineOk t = true) : (putOf k ts).all goodLn = true := by
  rw [List.all_eq_true]
  intro q hq
  unfold putOf at hq
  obtain ⟨t, ht, rfl⟩ := List.mem_map.1 hq
  unfold goodLn
  refine decide_eq_true ?_
  rintro (⟨⟨h1, h2⟩, h3⟩ | h1)
  · rcases hk with e | e | e
    · exact h1 e
    · exact h2 e
    · exact h3 e
  · rw [show (PatchLine.mk k t).Text = t from rfl, h t ht] at h1; cases h1
theorem madeTo_good (hx : ∀ s ∈ x, lineOk s = true) (hy : ∀ s ∈ y, lineOk s = true) (i0 : Int) (a : Nat) : ∀ t, (madeTo l x y i0 a t).all goodLn = true
  | 0 => rfl
  | t + 1 => by
    simp only [madeTo, List.all_append, madeTo_good hx hy i0 a t, Bool.true_and, Bool.and_eq_true]
    exact ⟨⟨goodLn_put (.inl rfl) (fun s hs => hx s (sub_mem hs)), goodLn_put (.inr (.inl rfl)) (fun s hs => hx s (sub_mem hs))⟩, goodLn_put (.inr (.inr rfl)) (fun s hs => hy s (sub_mem hs))⟩
theorem ScFit.hunk (h : ScFit x y l) {ctx : Int} (hc : 0 ≤ ctx) {a b : Nat} (hab : a < b) (hb : b ≤ l.length) (ho : opens l ctx a) (hob : b < l.length → opens l ctx b) :
    HunkIs x y l ctx a b (hunkOfG l x y (mkH l x.length ctx a b)) := by
  have hla : a < l.length := by omega
  obtain ⟨q1, q2, q3⟩ := h.before hc hla ho
  obtain ⟨w1, w2, w3, w4, w5⟩ := h.after hc hb hob (by omega)
  obtain ⟨m1, m2⟩ := h.made hc ho (b - a) (by omega) (fun e => by omega)
  rw [posTo_eo _ _ _ (by omega)] at m1
  rw [posN_en _ _ _ (by omega)] at m2
  rw [show a + (b - a) = b by omega] at m1 m2
  obtain ⟨r1, r2, r3, r4⟩ := h.nn a (by omega)
  obtain ⟨s1, s2, s3, s4⟩ := h.nn b hb
  obtain ⟨k1, ⟨k2, k2'⟩, k3, ⟨k4, k4'⟩, k5, k6, k7, k8⟩ := sc_get _ _ _ _ _ _ h.sc a hla
  have hlb : b - 1 < l.length := by omega
  obtain ⟨g1, ⟨g2, g2'⟩, g3, ⟨g4, g4'⟩, g5, g6, g7, g8⟩ := sc_get _ _ _ _ _ _ h.sc (b - 1) hlb
  have eo : eoI 0 l b = (cAt l (b - 1)).Old + (cAt l (b - 1)).OldLen := by unfold eoI; rw [if_neg (by omega)]; rfl
  have en : enI 0 l b = (cAt l (b - 1)).New + (cAt l (b - 1)).NewLen := by unfold enI; rw [if_neg (by omega)]; rfl
  have mo := h.ok.mono a (b - 1) (by omega) (by omega)
  have mn : (cAt l a).New ≤ enI 0 l b := by
    have m4 : ∀ u, a + u ≤ l.length → (cAt l a).New ≤ enI 0 l (a + u) ∨ u = 0 := by
      intro u
      induction u with
      | zero => exact fun _ => .inr rfl
      | succ u ihu =>
        intro hu
        obtain ⟨e1, e2, ⟨e3, e3'⟩, ⟨e4, e4'⟩, e5, e6, e7, e8⟩ := sc_get _ _ _ _ _ _ h.sc (a + u) (by omega)
        have e9 : enI 0 l (a + (u + 1)) = (cAt l (a + u)).New + (cAt l (a + u)).NewLen := rfl
        rcases ihu (by omega) with h' | h'
        · left; omega
        · left; subst h'; rw [e9]; show (cAt l a).New ≤ (cAt l a).New + (cAt l a).NewLen; exact Int.le_add_of_nonneg_right e4
    have := (m4 (b - a) (by omega)).resolve_right (by omega)
    rwa [show a + (b - a) = b by omega] at this
  have hF : (mkH l x.length ctx a b).First.toNat = a := by show ((a : Int)).toNat = a; omega
  have hL : (mkH l x.length ctx a b).Last.toNat - (mkH l x.length ctx a b).First.toNat = b - a := by
    show (((b - 1 : Nat) : Int) + 1).toNat - ((a : Int)).toNat = b - a; omega
  have hOF : (mkH l x.length ctx a b).Old.From = (cAt l a).Old - eA l ctx a := rfl
  have hNF : (mkH l x.length ctx a b).New.From = (cAt l a).New - eA l ctx a := rfl
  have hOT : (mkH l x.length ctx a b).Old.To = eoI 0 l b + eB l x.length ctx b := by
    unfold eB; rw [eo]; rfl
  obtain ⟨P, hP⟩ : ∃ P, P = hunkOfG l x y (mkH l x.length ctx a b) := ⟨_, rfl⟩
  have hPl : P.Lines = madeTo l x y ((cAt l a).Old - eA l ctx a) a (b - a) ++ putOf 32 (sub x (eoI 0 l b) (eoI 0 l b + eB l x.length ctx b)) := by
    rw [hP]; unfold hunkOfG
    show madeTo l x y _ (mkH l x.length ctx a b).First.toNat ((mkH l x.length ctx a b).Last.toNat - (mkH l x.length ctx a b).First.toNat) ++ putOf 32 (sub x (posTo l _ (mkH l x.length ctx a b).First.toNat ((mkH l x.length ctx a b).Last.toNat - (mkH l x.length ctx a b).First.toNat)) _) = _
    rw [hL, hF, hOF, hOT, posTo_eo _ _ _ (by omega), show a + (b - a) = b by omega]
  have hPO : P.Old = (cAt l a).Old - eA l ctx a := by rw [hP]; rfl
  have hPN : P.New = (cAt l a).New - eA l ctx a := by rw [hP]; rfl
  have h43 : linesNot P.Lines 43 = sub x ((cAt l a).Old - eA l ctx a) (eoI 0 l b + eB l x.length ctx b) := by
    rw [hPl, linesNot_app, linesNot_put, if_neg (by decide), m1]
    exact sub_app x (by omega) (by omega) (by omega)
  have h45 : linesNot P.Lines 45 = sub y ((cAt l a).New - eA l ctx a) (enI 0 l b + eB l x.length ctx b) := by
    rw [hPl, linesNot_app, linesNot_put, if_neg (by decide), m2, w5]
    exact sub_app y (by omega) (by omega) (by omega)
  have hon : oldN P = eoI 0 l b + eB l x.length ctx b - ((cAt l a).Old - eA l ctx a) := by
    unfold oldN; rw [h43]; exact sub_length x (by omega) (by omega) (by omega)
  have hnn : newN P = enI 0 l b + eB l x.length ctx b - ((cAt l a).New - eA l ctx a) := by
    unfold newN; rw [h45]; exact sub_length y (by omega) (by omega) (by omega)
  rw [← hP]
  refine ⟨hPO, hPN, by omega, by omega, by omega, by omega, by omega, by omega, ?_, ?_, ?_, ?_⟩
  · rw [h43]; congr 1
    · exact hPO.symm
    · omega
  · rw [h45]; congr 1
    · exact hPN.symm
    · omega
  · rw [hPl, someCh_app]
    have e : madeTo l x y ((cAt l a).Old - eA l ctx a) a (b - a) = madeTo l x y ((cAt l a).Old - eA l ctx a) a (b - 1 - a + 1) := by congr 1; omega
    rw [e]
    simp only [madeTo, someCh_app]
    rw [show a + (b - 1 - a) = b - 1 by omega]
    have key : someCh (putOf 45 (sub x (cAt l (b - 1)).Old (endC (cAt l (b - 1))))) = true ∨ someCh (putOf 43 (sub y (cAt l (b - 1)).New ((cAt l (b - 1)).New + (cAt l (b - 1)).NewLen))) = true := by
      obtain ⟨g3a, g3b⟩ := g3
      obtain ⟨g1a, g1b⟩ := g1
      by_cases h0 : (cAt l (b - 1)).OldLen = 0
      · right
        refine someCh_put (by decide) fun e0 => ?_
        have := sub_length y (a := (cAt l (b - 1)).New) (b := (cAt l (b - 1)).New + (cAt l (b - 1)).NewLen) g3a (by omega) (by omega)
        rw [e0] at this; simp at this; omega
      · left
        refine someCh_put (by decide) fun e0 => ?_
        have := sub_length x (a := (cAt l (b - 1)).Old) (b := endC (cAt l (b - 1))) g1a (by unfold endC; omega) (by unfold endC; omega)
        rw [e0] at this; unfold endC at this; simp at this; omega
    rcases key with e1 | e1 <;> rw [e1] <;> simp
  · intro hx hy
    rw [hPl, List.all_append, madeTo_good hx hy, Bool.true_and]
    exact goodLn_put (.inl rfl) (fun s hs => hx s (sub_mem hs))
theorem ScFit.hunks (h : ScFit x y l) {ctx : Int} (hc : 0 ≤ ctx) (hx : ∀ s ∈ x, lineOk s = true) (hy : ∀ s ∈ y, lineOk s = true) : ∀ (hs : List Hunk) (a : Nat), GrOk l x.length ctx a hs l.length →
    ∀ (i j e : Int), i = eoI 0 l a + e → j = enI 0 l a + e → 0 ≤ e → e ≤ ctx → (a = 0 → e = 0) →
    goodGo i j (hs.map (hunkOfG l x y)) = true ∧ (sideLines (hs.map (hunkOfG l x y)) 43).Sublist (x.drop i.toNat) ∧ (sideLines (hs.map (hunkOfG l x y)) 45).Sublist (y.drop j.toNat) ∧
      ∀ p ∈ hs.map (hunkOfG l x y), (p.Old + oldN p ≤ x.length ∧ p.New + newN p ≤ y.length ∧ 0 ≤ p.Old ∧ 0 ≤ p.New) ∧ linesNot p.Lines 43 = sub x p.Old (p.Old + oldN p) ∧ linesNot p.Lines 45 = sub y p.New (p.New + newN p)
  | [], a, _, i, j, e, _, _, _, _, _ => ⟨rfl, by simp [sideLines], by simp [sideLines], by simp⟩
  | hk :: hs, a, ⟨b, hab, ho, hE, hr⟩, i, j, e, hi, hj, he, hec, he0 => by
    have hb := hr.le
    have hob : b < l.length → opens l ctx b := by
      intro hlt
      cases hs with
      | nil => exact absurd hr (by show ¬ b = l.length; omega)
      | cons h2 hs2 => obtain ⟨_, _, ho2, _⟩ := hr; exact ho2
    obtain ⟨w1, w2, w3, w4, w5⟩ := h.after hc hb hob (by omega)
    obtain ⟨q1, q2, q3⟩ := h.before hc (show a < l.length by omega) ho
    have H := h.hunk hc hab hb ho hob
    rw [← hE] at H
    obtain ⟨P, hP⟩ : ∃ P, P = hunkOfG l x y hk := ⟨_, rfl⟩
    rw [← hP] at H
    obtain ⟨i1, i2, i3, i4⟩ := ScFit.hunks h hc hx hy hs b hr (P.Old + oldN P) (P.New + newN P) (eB l x.length ctx b) H.oe H.ne w1 w2 (by omega)
    obtain ⟨k1, ⟨k2, k2'⟩, k3, ⟨k4, k4'⟩, k5, k6, k7, k8⟩ := sc_get _ _ _ _ _ _ h.sc a (show a < l.length by omega)
    have h1 := H.old
    have h2 := H.new
    have h3 := H.o0
    have h4 := H.n0
    have h5 := H.ox
    have h6 := H.ny
    have h7 := h.lx
    have h8 := h.ly
    have n1 : 0 ≤ oldN P := by unfold oldN; omega
    have n2 : 0 ≤ newN P := by unfold newN; omega
    have hgap : e + eA l ctx a ≤ (cAt l a).Old - eoI 0 l a := by
      by_cases h0 : a = 0
      · have := he0 h0; omega
      · have := opens_gap ho h0; omega
    obtain ⟨r1, r2, r3, r4⟩ := h.nn a (by omega)
    have hij : i ≤ P.Old ∧ j ≤ P.New ∧ P.Old - i = P.New - j ∧ 0 ≤ i ∧ 0 ≤ j := by omega
    have hsub : ∀ (z : List Str) (i f t : Int), 0 ≤ i → i ≤ f → f ≤ t → ∀ r : List Str, r.Sublist (z.drop t.toNat) → (sub z f t ++ r).Sublist (z.drop i.toNat) := by
      intro z i f t h0 h1 h2 r hr
      have e1 : z.drop f.toNat = sub z f t ++ z.drop t.toNat := by
        unfold sub
        rw [show t.toNat = f.toNat + (t.toNat - f.toNat) by omega, ← List.drop_drop, show f.toNat + (t.toNat - f.toNat) - f.toNat = t.toNat - f.toNat by omega, List.take_append_drop]
      have e2 : z.drop f.toNat = (z.drop i.toNat).drop (f.toNat - i.toNat) := by rw [List.drop_drop]; congr 1; omega
      refine List.Sublist.trans ?_ (List.drop_sublist (f.toNat - i.toNat) (z.drop i.toNat))
      rw [← e2, e1]
      exact List.Sublist.append_left hr _
    have key : ∀ (k : UInt8), sideLines ((hk :: hs).map (hunkOfG l x y)) k = linesNot P.Lines k ++ sideLines (hs.map (hunkOfG l x y)) k := by
      intro k; rw [hP]; simp [sideLines]
    refine ⟨?_, ?_, ?_, ?_⟩
    · rw [List.map_cons, ← hP]
      simp only [goodGo, H.gl hx hy, i1, Bool.and_true, Bool.true_and, Bool.and_eq_true, decide_eq_true_eq]
      refine ⟨?_, by omega⟩
      unfold offPlace
      rw [H.ch]
      rintro (((((e0 | e0) | e0) | e0) | e0) | e0)
      · cases e0
      all_goals omega
    · rw [key, H.ol]
      exact hsub x i P.Old (P.Old + oldN P) hij.2.2.2.1 hij.1 (by omega) _ i2
    · rw [key, H.nl]
      exact hsub y j P.New (P.New + newN P) hij.2.2.2.2 hij.2.1 (by omega) _ i3
    · rw [List.map_cons, ← hP]
      intro p hp
      rcases List.mem_cons.1 hp with rfl | hp
      · exact ⟨⟨h5, h6, h3, h4⟩, H.ol, H.nl⟩
      · exact i4 p hp
theorem endedBut_sub : ∀ {s z : List Str}, s.Sublist z → endedBut z = true → endedBut s = true := by
  intro s z hs
  induction hs with
  | slnil => exact fun h => h
  | cons a _ ih =>
    intro h
    simp only [endedBut, Bool.and_eq_true] at h
    exact ih h.2
  | cons_cons a hs2 ih =>
    intro h
    simp only [endedBut, Bool.and_eq_true, Bool.or_eq_true] at h ⊢
    refine ⟨?_, ih h.2⟩
    rcases h.1 with h1 | h1
    · left
      rw [List.isEmpty_iff] at h1 ⊢
      rw [h1] at hs2
      exact List.sublist_nil.1 hs2
    · exact .inr h1
def hunksOf (l : List Change) (x y : List Str) (ctx : Int) : List PatchHunk := (groupTo l x.length ctx l.length).map (hunkOfG l x y)
theorem ScFit.good (h : ScFit x y l) {ctx : Int} (hc : 0 ≤ ctx) (hx : ∀ s ∈ x, lineOk s = true) (hy : ∀ s ∈ y, lineOk s = true) (ex : endedBut x = true) (ey : endedBut y = true) : goodOf (hunksOf l x y ctx) = true := by
  obtain ⟨h1, h2, h3, _⟩ := h.hunks hc hx hy _ 0 (groupTo_gr l x.length ctx l.length) 0 0 0 rfl rfl (Int.le_refl _) hc (fun _ => rfl)
  unfold goodOf sideOk hunksOf
  rw [h1, endedBut_sub h2 (by simpa using ex), endedBut_sub h3 (by simpa using ey)]
  rfl
theorem ScFit.texts (h : ScFit x y l) {ctx : Int} (hc : 0 ≤ ctx) (hx : ∀ s ∈ x, lineOk s = true) (hy : ∀ s ∈ y, lineOk s = true) : ∀ p ∈ hunksOf l x y ctx, (p.Old + oldN p ≤ x.length ∧ p.New + newN p ≤ y.length ∧ 0 ≤ p.Old ∧ 0 ≤ p.New) ∧ linesNot p.Lines 43 = sub x p.Old (p.Old + oldN p) ∧ linesNot p.Lines 45 = sub y p.New (p.New + newN p) :=
  (h.hunks hc hx hy _ 0 (groupTo_gr l x.length ctx l.length) 0 0 0 rfl rfl (Int.le_refl _) hc (fun _ => rfl)).2.2.2
end
theorem lineOk_snoc (cur : Str) (c : UInt8) (h : ∀ z ∈ cur, z ≠ 10) : lineOk (cur ++ [c]) = true := by
  unfold lineOk
  simp only [List.dropLast_concat, Bool.and_eq_true]
  refine ⟨List.all_eq_true.2 fun z hz => by simpa using h z hz, by simp⟩
theorem linesAux_ok : ∀ (s cur : Str), (∀ z ∈ cur, z ≠ 10) → (∀ t ∈ linesAux cur s, lineOk t = true) ∧ endedBut (linesAux cur s) = true
  | [], cur, hc => by
    unfold linesAux
    split
    · exact ⟨by simp, rfl⟩
    · rename_i h
      refine ⟨fun t ht => ?_, rfl⟩
      obtain rfl : t = cur := by simpa using ht
      obtain ⟨d, r, e⟩ : ∃ d r, t = r ++ [d] := ⟨t.getLast h, t.dropLast, (List.dropLast_concat_getLast h).symm⟩
      rw [e]
      exact lineOk_snoc r d fun z hz => hc z (by rw [e]; simp [hz])
  | c :: r, cur, hc => by
    rw [linesAux_step]
    by_cases h : c = 10
    · rw [if_pos h]
      obtain ⟨h1, h2⟩ := linesAux_ok r [] (by simp)
      refine ⟨fun t ht => ?_, ?_⟩
      · rcases List.mem_cons.1 ht with rfl | ht
        · exact lineOk_snoc cur c hc
        · exact h1 t ht
      · simp only [endedBut, h2, Bool.and_true, Bool.or_eq_true]
        right; unfold ended; subst h; simp
    · rw [if_neg h]
      refine linesAux_ok r (cur ++ [c]) fun z hz => ?_
      rcases List.mem_append.1 hz with hz | hz
      · exact hc z hz
      · simp at hz; subst hz; exact h
theorem linesOf_ok (b : Str) : (∀ t ∈ linesOf b, lineOk t = true) ∧ endedBut (linesOf b) = true := linesAux_ok b [] (by simp)
end Go.AL
namespace Go.AL
open Go
theorem madeGo_sc {m n : Int} (hm : in81 m) (hn : in81 n) : ∀ (p : List Span) (i j i0 j0 : Int) (k0 : Nat), Asc m n i j p → 0 ≤ i0 → 0 ≤ j0 → i0 ≤ i → i - i0 = j - j0 → (0 < k0 → i0 < i) → scriptGo k0 i0 j0 (madeGo i j p m n) m n = true
  | [], i, j, i0, j0, k0, ha, h1, h2, h3, h4, h5 => by
    obtain ⟨a1, a2⟩ : i ≤ m ∧ j ≤ n := ha
    obtain ⟨m1, m2⟩ := hm
    obtain ⟨n1, n2⟩ := hn
    unfold madeGo
    split
    · rename_i hc
      simp only [scriptGo, Bool.and_eq_true, decide_eq_true_eq]
      refine ⟨?_, by omega⟩
      unfold badC in81
      show ¬ (((((((¬ (0 ≤ i ∧ i ≤ 4096) ∨ ¬ (0 ≤ m - i ∧ m - i ≤ 4096)) ∨ ¬ (0 ≤ j ∧ j ≤ 4096)) ∨ ¬ (0 ≤ n - j ∧ n - j ≤ 4096)) ∨ m - i + (n - j) = 0) ∨ i - i0 ≠ j - j0) ∨ i < i0) ∨ (0 < (k0 : Int) ∧ i = i0))
      omega
    · simp only [scriptGo, decide_eq_true_eq]; omega
  | x :: r, i, j, i0, j0, k0, ha, h1, h2, h3, h4, h5 => by
    obtain ⟨a1, a2, a3⟩ := ha
    have hle := a3.le
    unfold madeGo
    split
    · rename_i hc
      simp only [List.cons_append, List.nil_append, scriptGo, Bool.and_eq_true, decide_eq_true_eq]
      refine ⟨?_, ?_⟩
      · obtain ⟨m1, m2⟩ := hm
        obtain ⟨n1, n2⟩ := hn
        unfold badC in81
        show ¬ (((((((¬ (0 ≤ i ∧ i ≤ 4096) ∨ ¬ (0 ≤ x.From - i ∧ x.From - i ≤ 4096)) ∨ ¬ (0 ≤ j ∧ j ≤ 4096)) ∨ ¬ (0 ≤ x.To - j ∧ x.To - j ≤ 4096)) ∨ x.From - i + (x.To - j) = 0) ∨ i - i0 ≠ j - j0) ∨ i < i0) ∨ (0 < (k0 : Int) ∧ i = i0))
        omega
      · exact madeGo_sc hm hn r _ _ _ _ _ a3 (by omega) (by omega) (by omega) (by omega) (fun _ => by omega)
    · rw [List.nil_append]
      exact madeGo_sc hm hn r _ _ _ _ _ a3 h1 h2 (by omega) (by omega) (fun h => by omega)
def EqAt (X Y : List Str) (s : Span) : Prop := 0 ≤ s.From ∧ 0 ≤ s.To ∧ ∃ v, X[s.From.toNat]? = some v ∧ Y[s.To.toNat]? = some v
theorem sub_snoc {X : List Str} {a b : Int} {v : Str} (h0 : 0 ≤ a) (h1 : a ≤ b) (hv : X[b.toNat]? = some v) : sub X a (b + 1) = sub X a b ++ [v] := by
  rw [← sub_app X h0 h1 (by omega : b ≤ b + 1)]
  congr 1
  unfold sub
  obtain ⟨hl, e⟩ := List.getElem?_eq_some_iff.1 hv
  rw [List.drop_eq_getElem_cons hl, e, show (b + 1).toNat - b.toNat = 1 by omega]
  rfl
theorem madeGo_eq {X Y : List Str} : ∀ (p : List Span) (i j i0 j0 : Int), Asc X.length Y.length i j p → 0 ≤ i0 → 0 ≤ j0 → i0 ≤ i → j0 ≤ j → (∀ s ∈ p, EqAt X Y s) → sub X i0 i = sub Y j0 j → EqRuns X Y i0 j0 (madeGo i j p X.length Y.length)
  | [], i, j, i0, j0, ha, h1, h2, h3, h4, he, hs => by
    obtain ⟨a1, a2⟩ : i ≤ (X.length : Int) ∧ j ≤ (Y.length : Int) := ha
    unfold madeGo
    split
    · refine ⟨hs, ?_⟩
      show sub X (i + (X.length - i)) X.length = sub Y (j + (Y.length - j)) Y.length
      rw [show i + ((X.length : Int) - i) = X.length by omega, show j + ((Y.length : Int) - j) = Y.length by omega, sub_nil, sub_nil]
    · have e1 : (X.length : Int) = i := by omega
      have e2 : (Y.length : Int) = j := by omega
      show sub X i0 X.length = sub Y j0 Y.length
      rw [e1, e2]; exact hs
  | x :: r, i, j, i0, j0, ha, h1, h2, h3, h4, he, hs => by
    obtain ⟨a1, a2, a3⟩ := ha
    obtain ⟨_, _, v, v1, v2⟩ := he x (by simp)
    have hr : ∀ s ∈ r, EqAt X Y s := fun s hs => he s (by simp [hs])
    unfold madeGo
    split
    · refine ⟨hs, ?_⟩
      show EqRuns X Y (i + (x.From - i)) (j + (x.To - j)) (madeGo (x.From + 1) (x.To + 1) r X.length Y.length)
      rw [show i + (x.From - i) = x.From by omega, show j + (x.To - j) = x.To by omega]
      refine madeGo_eq r _ _ _ _ a3 (by omega) (by omega) (by omega) (by omega) hr ?_
      rw [sub_snoc (by omega) (Int.le_refl _) v1, sub_snoc (by omega) (Int.le_refl _) v2, sub_nil, sub_nil]
    · have e1 : x.From = i := by omega
      have e2 : x.To = j := by omega
      rw [List.nil_append]
      refine madeGo_eq r _ _ _ _ a3 h1 h2 (by omega) (by omega) hr ?_
      rw [sub_snoc h1 (by omega) v1, sub_snoc h2 (by omega) v2, e1, e2, hs]
theorem walkGo_eq : ∀ (a b : List Int) (p q : Int), ∀ s ∈ walkGo p q a b, p ≤ s.From ∧ q ≤ s.To ∧ ∃ v, a[(s.From - p).toNat]? = some v ∧ b[(s.To - q).toNat]? = some v := by
  intro a
  induction a with
  | nil => intro b p q s hs; simp [walkGo] at hs
  | cons x a iha =>
    intro b
    induction b with
    | nil => intro p q s hs; simp [walkGo] at hs
    | cons y b ihb =>
      intro p q s hs
      unfold walkGo at hs
      split at hs
      · rename_i e
        rcases List.mem_cons.1 hs with rfl | hs
        · exact ⟨Int.le_refl _, Int.le_refl _, x, by simp, by simp [e]⟩
        · obtain ⟨h1, h2, v, h3, h4⟩ := iha b (p + 1) (q + 1) s hs
          refine ⟨by omega, by omega, v, ?_, ?_⟩
          · rw [show (s.From - p).toNat = (s.From - (p + 1)).toNat + 1 by omega]; simpa using h3
          · rw [show (s.To - q).toNat = (s.To - (q + 1)).toNat + 1 by omega]; simpa using h4
      · split at hs
        · obtain ⟨h1, h2, v, h3, h4⟩ := iha (y :: b) (p + 1) q s hs
          refine ⟨by omega, by omega, v, ?_, h4⟩
          rw [show (s.From - p).toNat = (s.From - (p + 1)).toNat + 1 by omega]; simpa using h3
        · obtain ⟨h1, h2, v, h3, h4⟩ := ihb p (q + 1) s hs
          refine ⟨by omega, by omega, v, h3, ?_⟩
          rw [show (s.To - q).toNat = (s.To - (q + 1)).toNat + 1 by omega]; simpa using h4
theorem placeOf_inj : ∀ (l : List Str) (s t : Str) (k : Int), 0 ≤ k → s ∈ l → t ∈ l → placeOf l s k = placeOf l t k → s = t
  | [], _, _, _, _, h, _, _ => by simp at h
  | x :: r, s, t, k, hk, hs, ht, e => by
    unfold placeOf at e
    by_cases h1 : x = s
    · by_cases h2 : x = t
      · exact h1.symm.trans h2
      · rw [if_pos h1, if_neg h2] at e
        have ht' : t ∈ r := (List.mem_cons.1 ht).resolve_left (fun q => h2 q.symm)
        have := placeOf_le r t (k + 1) (by omega) ht'
        omega
    · have hs' : s ∈ r := (List.mem_cons.1 hs).resolve_left (fun q => h1 q.symm)
      by_cases h2 : x = t
      · rw [if_neg h1, if_pos h2] at e
        have := placeOf_le r s (k + 1) (by omega) hs'
        omega
      · rw [if_neg h1, if_neg h2] at e
        exact placeOf_inj r s t (k + 1) (by omega) hs' ((List.mem_cons.1 ht).resolve_left (fun q => h2 q.symm)) e
theorem idsOf_get {names f : List Str} {i : Nat} {v : Int} (h : (idsOf names f)[i]? = some v) : ∃ s, f[i]? = some s ∧ placeOf names s 0 = v := by
  unfold idsOf at h
  rw [List.getElem?_map] at h
  cases hf : f[i]? with
  | none => rw [hf] at h; cases h
  | some s => rw [hf] at h; exact ⟨s, rfl, Option.some.inj h⟩
theorem script_fit (x y : List Str) (hx : x.length ≤ 4096) (hy : y.length ≤ 4096) : ScFit x y (scriptOf x y) := by
  have l1 : (idsOf (namesOf [x, y]) x).length = x.length := by simp [idsOf]
  have l2 : (idsOf (namesOf [x, y]) y).length = y.length := by simp [idsOf]
  have hA := walkGo_asc (idsOf (namesOf [x, y]) x) (idsOf (namesOf [x, y]) y) 0 0
  rw [l1, l2, Int.zero_add, Int.zero_add] at hA
  refine ⟨by omega, by omega, ?_, ?_⟩
  · unfold scriptOf walkOf madeOf
    rw [l1, l2]
    exact madeGo_sc ⟨by omega, by omega⟩ ⟨by omega, by omega⟩ _ _ _ _ _ _ hA (Int.le_refl _) (Int.le_refl _) (Int.le_refl _) rfl (fun h => absurd h (by omega))
  · unfold scriptOf walkOf madeOf
    rw [l1, l2]
    refine madeGo_eq _ _ _ _ _ hA (Int.le_refl _) (Int.le_refl _) (Int.le_refl _) (Int.le_refl _) ?_ (by rw [sub_nil, sub_nil])
    intro s hs
    obtain ⟨h1, h2, v, h3, h4⟩ := walkGo_eq _ _ _ _ s hs
    rw [Int.sub_zero] at h3 h4
    obtain ⟨u, u1, u2⟩ := idsOf_get h3
    obtain ⟨w, w1, w2⟩ := idsOf_get h4
    have e : u = w := placeOf_inj (namesOf [x, y]) u w 0 (Int.le_refl _) (namesOf_mem _ _ x (by simp) (List.mem_of_getElem? u1)) (namesOf_mem _ _ y (by simp) (List.mem_of_getElem? w1)) (u2.trans w2.symm)
    subst e
    exact ⟨h1, h2, u, u1, w1⟩
theorem szL_sides : ∀ (ls : List PatchLine), ls.all goodLn = true → (ls.map szL).sum ≤ 64 * ((linesNot ls 43).length + (linesNot ls 45).length) + ((linesNot ls 43).flatten.length + (linesNot ls 45).flatten.length)
  | [], _ => by simp
  | q :: ls, h => by
    rw [List.all_cons, Bool.and_eq_true] at h
    have ih := szL_sides ls h.2
    have hk : q.Kind = 32 ∨ q.Kind = 45 ∨ q.Kind = 43 := by
      have hg := h.1
      unfold goodLn at hg
      have hg := of_decide_eq_true hg
      by_cases h1 : q.Kind = 32
      · exact .inl h1
      by_cases h2 : q.Kind = 45
      · exact .inr (.inl h2)
      by_cases h3 : q.Kind = 43
      · exact .inr (.inr h3)
      exact absurd (.inl ⟨⟨h1, h2⟩, h3⟩) hg
    have hd : ∀ k : UInt8, linesNot (q :: ls) k = if q.Kind ≠ k then q.Text :: linesNot ls k else linesNot ls k := by
      intro k
      unfold linesNot
      by_cases e : q.Kind = k
      · rw [if_neg (by simpa using e), List.filter_cons_of_neg (by simpa using e)]
      · rw [if_pos e, List.filter_cons_of_pos (by simpa using e)]; rfl
    rw [hd 43, hd 45, List.map_cons, List.sum_cons]
    have hz : szL q = q.Text.length + 64 := rfl
    rcases hk with e | e | e <;> rw [e] <;> simp (decide := true) only [if_true, if_false, ne_eq, not_true_eq_false, not_false_eq_true, List.length_cons, List.flatten_cons, List.length_append] <;> omega
theorem goodGo_lines : ∀ (hs : List PatchHunk) (i j : Int), goodGo i j hs = true → szP hs ≤ 128 * ((sideLines hs 43).length + (sideLines hs 45).length) + ((sideLines hs 43).flatten.length + (sideLines hs 45).flatten.length)
  | [], _, _, _ => by simp [szP]
  | h :: hs, i, j, hg => by
    simp only [goodGo, Bool.and_eq_true, decide_eq_true_eq] at hg
    obtain ⟨h1, h2, h3, h4⟩ := hg
    have ih := goodGo_lines hs _ _ h4
    have hl := szL_sides h.Lines h1
    have hne : 1 ≤ h.Lines.length := by
      cases hq : h.Lines with
      | nil => exact absurd (.inl (.inl (.inl (.inl (.inl (by rw [hq]; rfl)))))) h2
      | cons a b => simp
    have hcnt : h.Lines.length ≤ (linesNot h.Lines 43).length + (linesNot h.Lines 45).length := by
      have : 64 * h.Lines.length ≤ (h.Lines.map szL).sum := szL_len h.Lines
      have key : ∀ ls : List PatchLine, ls.length ≤ (linesNot ls 43).length + (linesNot ls 45).length := by
        intro ls
        induction ls with
        | nil => simp
        | cons q ls ih =>
          have hd : ∀ k : UInt8, (linesNot (q :: ls) k).length = if q.Kind ≠ k then (linesNot ls k).length + 1 else (linesNot ls k).length := by
            intro k
            unfold linesNot
            by_cases e : q.Kind = k
            · rw [if_neg (by simpa using e), List.filter_cons_of_neg (by simpa using e)]
            · rw [if_pos e, List.filter_cons_of_pos (by simpa using e)]; simp
          rw [hd 43, hd 45, List.length_cons]
          by_cases e : q.Kind = 43
          · have e2 : q.Kind ≠ 45 := by rw [e]; decide
            rw [if_pos e2]; split <;> omega
          · rw [if_pos e]; split <;> omega
      exact key h.Lines
    have hsz : szP (h :: hs) = szH h + szP hs := by simp [szP]
    have hszh : szH h = 64 + (h.Lines.map szL).sum := rfl
    have hs1 : ∀ k, sideLines (h :: hs) k = linesNot h.Lines k ++ sideLines hs k := by intro k; simp [sideLines]
    rw [hsz, hszh, hs1 43, hs1 45]
    simp only [List.length_append, List.flatten_append]
    omega
theorem flatten_sub : ∀ {s z : List Str}, s.Sublist z → s.flatten.length ≤ z.flatten.length := by
  intro s z hs
  induction hs with
  | slnil => exact Nat.le_refl _
  | cons a _ ih => simp only [List.flatten_cons, List.length_append]; omega
  | cons_cons a _ ih => simp only [List.flatten_cons, List.length_append]; omega
theorem ScFit.size {x y : List Str} {l : List Change} (h : ScFit x y l) {ctx : Int} (hc : 0 ≤ ctx) (hx : ∀ s ∈ x, lineOk s = true) (hy : ∀ s ∈ y, lineOk s = true) : szP (hunksOf l x y ctx) ≤ 128 * (x.length + y.length) + (x.flatten.length + y.flatten.length) := by
  obtain ⟨h1, h2, h3, _⟩ := h.hunks hc hx hy _ 0 (groupTo_gr l x.length ctx l.length) 0 0 0 rfl rfl (Int.le_refl _) hc (fun _ => rfl)
  have h4 := goodGo_lines _ _ _ h1
  have e : hunksOf l x y ctx = (groupTo l x.length ctx l.length).map (hunkOfG l x y) := rfl
  rw [← e] at h2 h3 h4
  have h2' : (sideLines (hunksOf l x y ctx) 43).Sublist x := by simpa using h2
  have h3' : (sideLines (hunksOf l x y ctx) 45).Sublist y := by simpa using h3
  have := h2'.length_le
  have := h3'.length_le
  have := flatten_sub h2'
  have := flatten_sub h3'
  omega
theorem linesAux_flat2 (s : Str) : ∀ cur : Str, (linesAux cur s).flatten = cur ++ s := by
  induction s with
  | nil => intro cur; unfold linesAux; split <;> simp [*]
  | cons c r ih => intro cur; rw [linesAux_step]; split <;> simp [ih]
theorem lines_flat (a : Str) : (linesOf a).flatten.length = a.length ∧ (linesOf a).length ≤ a.length := ⟨by unfold linesOf; rw [linesAux_flat2]; rfl, linesOf_length a⟩
theorem splitOf_small {a : Str} (h : a.length ≤ 4096) : splitOf a = (linesOf a, 0) := by
  have := linesOf_length a
  unfold splitOf; rw [if_neg (by omega)]
theorem make12_good (on nn a b : Str) (ctx : Int) (hn : nameOk on = true) (hn' : nameOk nn = true) (hc : 0 ≤ ctx) (hc' : ctx ≤ 1048576) (ha : a.length ≤ 4096) (hb : b.length ≤ 4096) :
    make12 on nn a b ctx = (⟨on, nn, hunksOf (scriptOf (linesOf a) (linesOf b)) (linesOf a) (linesOf b) ctx⟩, 0) ∧ check12 ⟨on, nn, hunksOf (scriptOf (linesOf a) (linesOf b)) (linesOf a) (linesOf b) ctx⟩ = 0 ∧ ScFit (linesOf a) (linesOf b) (scriptOf (linesOf a) (linesOf b)) := by
  obtain ⟨f1, f2⟩ := lines_flat a
  obtain ⟨f3, f4⟩ := lines_flat b
  have hfit := script_fit (linesOf a) (linesOf b) (by omega) (by omega)
  obtain ⟨a1, a2⟩ := linesOf_ok a
  obtain ⟨b1, b2⟩ := linesOf_ok b
  have hg := hfit.good hc a1 b1 a2 b2
  have hz := hfit.size hc a1 b1
  have hgr : groupOf (scriptOf (linesOf a) (linesOf b)) (linesOf a).length (linesOf b).length ctx = (groupTo (scriptOf (linesOf a) (linesOf b)) (linesOf a).length ctx (scriptOf (linesOf a) (linesOf b)).length, 0) := by
    unfold groupOf
    rw [if_neg (by omega), hfit.check, if_neg (by simp)]
  have hm : madeHunks (linesOf a) (linesOf b) ctx = hunksOf (scriptOf (linesOf a) (linesOf b)) (linesOf a) (linesOf b) ctx := by
    unfold madeHunks hunksOf; rw [hgr]
  have hch : check12 ⟨on, nn, hunksOf (scriptOf (linesOf a) (linesOf b)) (linesOf a) (linesOf b) ctx⟩ = 0 := by
    unfold check12
    have hw : (writeOf ⟨on, nn, hunksOf (scriptOf (linesOf a) (linesOf b)) (linesOf a) (linesOf b) ctx⟩).length ≤ 16777216 := by
      have h1 : (writeOf ⟨on, nn, hunksOf (scriptOf (linesOf a) (linesOf b)) (linesOf a) (linesOf b) ctx⟩).length ≤ (namePs ⟨on, nn, hunksOf (scriptOf (linesOf a) (linesOf b)) (linesOf a) (linesOf b) ctx⟩).flatten.length + szP (hunksOf (scriptOf (linesOf a) (linesOf b)) (linesOf a) (linesOf b) ctx) := by
        unfold writeOf writePs
        rw [List.flatten_append, List.length_append]
        have := hunksPs_flat (hunksOf (scriptOf (linesOf a) (linesOf b)) (linesOf a) (linesOf b) ctx)
        show _ + ((hunksOf (scriptOf (linesOf a) (linesOf b)) (linesOf a) (linesOf b) ctx).map hunkPs).flatten.flatten.length ≤ _
        omega
      have h2 := namePs_flat ⟨on, nn, hunksOf (scriptOf (linesOf a) (linesOf b)) (linesOf a) (linesOf b) ctx⟩
      have h3 : (namePs ⟨on, nn, hunksOf (scriptOf (linesOf a) (linesOf b)) (linesOf a) (linesOf b) ctx⟩).flatten.length ≤ 4 * on.length + 4 * nn.length + 14 := h2
      unfold nameOk at hn hn'
      have := of_decide_eq_true hn
      have := of_decide_eq_true hn'
      omega
    rw [if_neg (by rw [show (Patch.mk on nn (hunksOf (scriptOf (linesOf a) (linesOf b)) (linesOf a) (linesOf b) ctx)).OldName = on from rfl, show (Patch.mk on nn (hunksOf (scriptOf (linesOf a) (linesOf b)) (linesOf a) (linesOf b) ctx)).NewName = nn from rfl, hn, hn']; simp)]
    rw [if_neg (by rw [hg]; simp), if_neg (by omega)]
  refine ⟨?_, hch, hfit⟩
  unfold make12
  rw [splitOf_small ha, splitOf_small hb]
  rw [if_neg (by rw [hn, hn']; simp), if_neg (by simp), if_neg (by simp), hgr, if_neg (by simp), hm, hch, if_neg (by simp)]
end Go.AL
namespace Go.AL
open Go
def swapK (c : UInt8) : UInt8 := if c = 45 then 43 else if c = 43 then 45 else c
def revL (q : PatchLine) : PatchLine := ⟨swapK q.Kind, q.Text⟩
def revH (h : PatchHunk) : PatchHunk := ⟨h.New, h.Old, h.Lines.map revL⟩
def revP (p : Patch) : Patch := ⟨p.NewName, p.OldName, p.Hunks.map revH⟩
def reverse14 (p : Patch) : Patch × Int := if check12 p ≠ 0 then (patch0, check12 p) else (revP p, 0)
theorem swapK_spec (c : UInt8) : ((swapK c = 32 ↔ c = 32) ∧ (swapK c = 45 ↔ c = 43) ∧ (swapK c = 43 ↔ c = 45)) := by
  unfold swapK
  by_cases h1 : c = 45
  · subst h1; decide
  · by_cases h2 : c = 43
    · subst h2; decide
    · rw [if_neg h1, if_neg h2]; simp [h1, h2]
theorem linesNot_rev (ls : List PatchLine) : linesNot (ls.map revL) 43 = linesNot ls 45 ∧ linesNot (ls.map revL) 45 = linesNot ls 43 := by
  induction ls with
  | nil => exact ⟨rfl, rfl⟩
  | cons q ls ih =>
    have hd : ∀ (q : PatchLine) (ls : List PatchLine) (k : UInt8), linesNot (q :: ls) k = if q.Kind ≠ k then q.Text :: linesNot ls k else linesNot ls k := by
      intro q ls k
      unfold linesNot
      by_cases e : q.Kind = k
      · rw [if_neg (by simpa using e), List.filter_cons_of_neg (by simpa using e)]
      · rw [if_pos e, List.filter_cons_of_pos (by simpa using e)]; rfl
    obtain ⟨s1, s2, s3⟩ := swapK_spec q.Kind
    rw [List.map_cons, hd, hd, hd, hd, ih.1, ih.2]
    have e : (revL q).Kind = swapK q.Kind := rfl
    rw [e]
    refine ⟨?_, ?_⟩
    · by_cases h : q.Kind = 45
      · rw [if_neg (not_not_intro (s3.2 h)), if_neg (not_not_intro h)]
      · rw [if_pos (fun q => h (s3.1 q)), if_pos h]; rfl
    · by_cases h : q.Kind = 43
      · rw [if_neg (not_not_intro (s2.2 h)), if_neg (not_not_intro h)]
      · rw [if_pos (fun q => h (s2.1 q)), if_pos h]; rfl
theorem oldN_rev (h : PatchHunk) : oldN (revH h) = newN h ∧ newN (revH h) = oldN h := by
  unfold oldN newN revH
  simp only [(linesNot_rev h.Lines).1, (linesNot_rev h.Lines).2, and_self]
theorem goodLn_rev (q : PatchLine) : goodLn (revL q) = goodLn q := by
  obtain ⟨s1, s2, s3⟩ := swapK_spec q.Kind
  unfold goodLn badLn revL
  refine decide_eq_decide.2 (not_congr (or_congr ?_ Iff.rfl))
  simp only [ne_eq, s1, s2, s3]
  constructor
  · rintro ⟨⟨a, b⟩, c⟩; exact ⟨⟨a, c⟩, b⟩
  · rintro ⟨⟨a, b⟩, c⟩; exact ⟨⟨a, c⟩, b⟩
theorem someCh_rev (ls : List PatchLine) : someCh (ls.map revL) = someCh ls := by
  unfold someCh
  rw [List.any_map]
  congr 1
  funext q
  show decide (swapK q.Kind ≠ 32) = decide (q.Kind ≠ 32)
  rw [decide_eq_decide, ne_eq, ne_eq, (swapK_spec q.Kind).1]
theorem goodGo_rev : ∀ (hs : List PatchHunk) (i j : Int), goodGo j i (hs.map revH) = goodGo i j hs
  | [], _, _ => rfl
  | h :: hs, i, j => by
    obtain ⟨e1, e2⟩ := oldN_rev h
    have e3 : (revH h).Lines = h.Lines.map revL := rfl
    have e4 : (revH h).Old = h.New := rfl
    have e5 : (revH h).New = h.Old := rfl
    simp only [List.map_cons, goodGo, e1, e2, e3, e4, e5, someCh_rev, goodGo_rev hs]
    have e6 : (h.Lines.map revL).all goodLn = h.Lines.all goodLn := by
      rw [List.all_map]; congr 1; funext q; exact goodLn_rev q
    rw [e6]
    congr 1
    congr 1
    · rw [decide_eq_decide]
      refine not_congr ?_
      unfold offPlace
      rw [e4, e5]
      constructor
      · rintro (((((h' | h') | h') | h') | h') | h')
        · exact .inl (.inl (.inl (.inl (.inl h'))))
        · exact .inl (.inl (.inl (.inr h')))
        · exact .inl (.inl (.inl (.inl (.inr h'))))
        · exact .inl (.inr h')
        · exact .inl (.inl (.inr h'))
        · exact .inr (fun q => h' q.symm)
      · rintro (((((h' | h') | h') | h') | h') | h')
        · exact .inl (.inl (.inl (.inl (.inl h'))))
        · exact .inl (.inl (.inl (.inr h')))
        · exact .inl (.inl (.inl (.inl (.inr h'))))
        · exact .inl (.inr h')
        · exact .inl (.inl (.inr h'))
        · exact .inr (fun q => h' q.symm)
    · congr 1
      rw [decide_eq_decide]
      exact not_congr Or.comm
theorem sideLines_rev (hs : List PatchHunk) : sideLines (hs.map revH) 43 = sideLines hs 45 ∧ sideLines (hs.map revH) 45 = sideLines hs 43 := by
  unfold sideLines
  rw [List.map_map, List.map_map]
  refine ⟨?_, ?_⟩ <;> congr 1 <;> apply List.map_congr_left <;> intro h _
  · exact (linesNot_rev h.Lines).1
  · exact (linesNot_rev h.Lines).2
theorem goodOf_rev (hs : List PatchHunk) : goodOf (hs.map revH) = goodOf hs := by
  unfold goodOf sideOk
  rw [goodGo_rev, (sideLines_rev hs).1, (sideLines_rev hs).2, Bool.and_comm (endedBut (sideLines hs 45))]
theorem linePs_rev (q : PatchLine) : (linePs (revL q)).flatten.length = (linePs q).flatten.length := by
  unfold linePs
  show (if ended q.Text then _ else _ : List Str).flatten.length = _
  split <;> simp [revL]
theorem lines_rev (ls : List PatchLine) : ((ls.map revL).map linePs).flatten.flatten.length = (ls.map linePs).flatten.flatten.length := by
  induction ls with
  | nil => rfl
  | cons q ls ih =>
    simp only [List.map_cons, List.flatten_cons, List.flatten_append, List.length_append, linePs_rev, ih]
theorem head_rev (h : PatchHunk) : (headW (revH h)).length = (headW h).length := by
  obtain ⟨e1, e2⟩ := oldN_rev h
  unfold headW
  rw [e1, e2]
  show ([64, 64, 32, 45] ++ rangeOf h.New (newN h) ++ [32, 43] ++ rangeOf h.Old (oldN h) ++ [32, 64, 64, 10] : Str).length = _
  simp only [List.length_append, List.length_cons, List.length_nil]
  omega
theorem hunks_rev (hs : List PatchHunk) : ((hs.map revH).map hunkPs).flatten.flatten.length = (hs.map hunkPs).flatten.flatten.length := by
  induction hs with
  | nil => rfl
  | cons h hs ih =>
    simp only [List.map_cons, List.flatten_cons, List.flatten_append, List.length_append, ih]
    congr 1
    unfold hunkPs
    show (headW (revH h) :: ((h.Lines.map revL).map linePs).flatten).flatten.length = _
    simp only [List.flatten_cons, List.length_append, lines_rev, head_rev]
theorem writeOf_rev (p : Patch) : (writeOf (revP p)).length = (writeOf p).length := by
  unfold writeOf writePs
  simp only [List.flatten_append, List.length_append]
  have e : (revP p).Hunks = p.Hunks.map revH := rfl
  rw [e, hunks_rev]
  congr 1
  unfold namePs revP
  simp only [List.flatten_cons, List.flatten_nil, List.length_append, List.length_cons, List.length_nil]
  omega
theorem check12_rev (p : Patch) : check12 (revP p) = check12 p := by
  unfold check12
  rw [writeOf_rev]
  have e1 : (revP p).OldName = p.NewName := rfl
  have e2 : (revP p).NewName = p.OldName := rfl
  have e3 : (revP p).Hunks = p.Hunks.map revH := rfl
  rw [e1, e2, e3, goodOf_rev]
  by_cases h : nameOk p.OldName = false ∨ nameOk p.NewName = false
  · rw [if_pos h, if_pos (Or.comm.1 h)]
  · rw [if_neg h, if_neg (fun q => h (Or.comm.1 q))]
theorem szP_rev (hs : List PatchHunk) : szP (hs.map revH) = szP hs := by
  unfold szP
  rw [List.map_map]
  congr 1
  apply List.map_congr_left
  intro h _
  show 64 + ((h.Lines.map revL).map szL).sum = 64 + (h.Lines.map szL).sum
  rw [List.map_map]; rfl
theorem reverse14_sz (p : Patch) : szP (reverse14 p).1.Hunks ≤ szP p.Hunks := by
  unfold reverse14
  split
  · show szP [] ≤ _; simp [szP]
  · show szP (p.Hunks.map revH) ≤ _; rw [szP_rev]; exact Nat.le_refl _
end Go.AL
namespace Go.AL
open Go
def flat (a b : List Int) (done : Nat → Nat → Bool) : List Int :=
  (List.range ((a.length + 1) * (b.length + 1))).map fun p => if done (p / (b.length + 1)) (p % (b.length + 1)) = true then (dist (a.drop (p / (b.length + 1))) (b.drop (p % (b.length + 1))) : Int) else 0
end Go.AL
namespace Go.AL
open Go
def GrX (l : List Change) (m ctx : Int) : Nat → List Hunk → Nat → Prop
  | a, [], k => a = k
  | a, h :: r, k => ∃ b, a < b ∧ opens l ctx a ∧ (∀ c, a < c → c < b → ¬ opens l ctx c) ∧ h = mkH l m ctx a b ∧ GrX l m ctx b r k
theorem GrX.le {l : List Change} {m ctx : Int} : ∀ {hs : List Hunk} {a k : Nat}, GrX l m ctx a hs k → a ≤ k
  | [], a, k, h => Nat.le_of_eq h
  | _ :: _, a, k, ⟨b, h1, _, _, _, h2⟩ => by have := GrX.le h2; omega
theorem GrX.snoc {l : List Change} {m ctx : Int} {k n : Nat} (ho : opens l ctx k) (hk : k < n) (hno : ∀ c, k < c → c < n → ¬ opens l ctx c) : ∀ {hs : List Hunk} {a : Nat}, GrX l m ctx a hs k → GrX l m ctx a (hs ++ [mkH l m ctx k n]) n
  | [], a, h => by
    obtain rfl : a = k := h
    exact ⟨n, hk, ho, hno, rfl, rfl⟩
  | _ :: _, a, ⟨b, h1, h2, h3, h4, h5⟩ => ⟨b, h1, h2, h3, h4, GrX.snoc ho hk hno h5⟩
theorem GrX.last {l : List Change} {m ctx : Int} {k : Nat} (hno : ¬ opens l ctx k) : ∀ {hs : List Hunk} {a : Nat}, GrX l m ctx a hs k → hs ≠ [] → GrX l m ctx a (hs.set (hs.length - 1) (hunkEnd l m ctx k (hs.getD (hs.length - 1) hunk0))) (k + 1)
  | [], _, _, h0 => absurd rfl h0
  | [h], a, ⟨b, h1, h2, h3, h4, h5⟩, _ => by
    obtain rfl : b = k := h5
    subst h4
    refine ⟨b + 1, by omega, h2, fun c hc1 hc2 => ?_, rfl, rfl⟩
    by_cases hcb : c = b
    · rw [hcb]; exact hno
    · exact h3 c hc1 (by omega)
  | h :: h' :: r, a, ⟨b, h1, h2, h3, h4, h5⟩, _ => by
    have ih := GrX.last hno h5 (by simp)
    refine ⟨b, h1, h2, h3, h4, ?_⟩
    simpa using ih
theorem GrX.len {l : List Change} {m ctx : Int} : ∀ {hs : List Hunk} {a k : Nat}, GrX l m ctx a hs k → hs.length ≤ k - a
  | [], _, _, _ => Nat.zero_le _
  | _ :: _, a, k, ⟨b, h1, _, _, _, h2⟩ => by have := GrX.len h2; have := h2.le; simp only [List.length_cons]; omega
end Go.AL
namespace Go.AL
open Go
end Go.AL
namespace Go.AL
open Go
theorem sc_make (m n : Int) : ∀ (l : List Change) (k0 : Nat) (i j : Int), (∀ k, k < l.length → in81 (cAt l k).Old ∧ in81 (cAt l k).OldLen ∧ in81 (cAt l k).New ∧ in81 (cAt l k).NewLen ∧ (cAt l k).OldLen + (cAt l k).NewLen ≠ 0 ∧ (cAt l k).Old - eoI i l k = (cAt l k).New - enI j l k ∧ eoI i l k ≤ (cAt l k).Old ∧ (0 < k0 + k → eoI i l k < (cAt l k).Old)) →
    (m - eoI i l l.length = n - enI j l l.length ∧ eoI i l l.length ≤ m) → scriptGo k0 i j l m n = true
  | [], k0, i, j, _, h => by
    have h1 : m - i = n - j ∧ i ≤ m := h
    simp only [scriptGo, decide_eq_true_eq]; omega
  | c :: r, k0, i, j, h, he => by
    simp only [scriptGo, Bool.and_eq_true, decide_eq_true_eq]
    refine ⟨?_, sc_make m n r (k0 + 1) _ _ (fun k hk => ?_) ?_⟩
    · obtain ⟨h1, h2, h3, h4, h5, h6, h7, h8⟩ := h 0 (by simp)
      have h1 : in81 c.Old := h1
      have h2 : in81 c.OldLen := h2
      have h3 : in81 c.New := h3
      have h4 : in81 c.NewLen := h4
      have h5 : c.OldLen + c.NewLen ≠ 0 := h5
      have h6 : c.Old - i = c.New - j := h6
      have h7 : i ≤ c.Old := h7
      have h8 : 0 < k0 + 0 → i < c.Old := h8
      unfold badC
      rintro (((((((q | q) | q) | q) | q) | q) | q) | ⟨q, q2⟩)
      · exact q h1
      · exact q h2
      · exact q h3
      · exact q h4
      · exact h5 q
      · exact q h6
      · omega
      · have := h8 (by omega); omega
    · have := h (k + 1) (by simpa using hk)
      rw [cAt_cons, eoI_cons, enI_cons] at this
      obtain ⟨e1, e2, e3, e4, e5, e6, e7, e8⟩ := this
      exact ⟨e1, e2, e3, e4, e5, e6, e7, fun h0 => e8 (by omega)⟩
    · rw [List.length_cons, eoI_cons, enI_cons] at he; exact he
theorem eq_make (x y : List Str) : ∀ (l : List Change) (i j : Int), (∀ k, k < l.length → sub x (eoI i l k) (cAt l k).Old = sub y (enI j l k) (cAt l k).New) → sub x (eoI i l l.length) x.length = sub y (enI j l l.length) y.length → EqRuns x y i j l
  | [], _, _, _, h => h
  | c :: r, i, j, h, he => by
    refine ⟨h 0 (by simp), eq_make x y r _ _ (fun k hk => ?_) ?_⟩
    · have := h (k + 1) (by simpa using hk)
      rw [cAt_cons, eoI_cons, enI_cons] at this; exact this
    · rw [List.length_cons, eoI_cons, enI_cons] at he; exact he
theorem sub_get {x : List Str} {p q : Int} {t : Nat} (h0 : 0 ≤ p) (h : p + t < q) : (sub x p q)[t]? = x[(p + t).toNat]? := by
  unfold sub
  rw [List.getElem?_take, if_pos (by omega), List.getElem?_drop]
  congr 1; omega
theorem run_get {x y : List Str} {p q p' q' : Int} (h : sub x p q = sub y p' q') (h0 : 0 ≤ p) (h0' : 0 ≤ p') (hq : q ≤ x.length) (he : q - p = q' - p') {t : Nat} (ht : p + t < q) : ∃ v, x[(p + t).toNat]? = some v ∧ y[(p' + t).toNat]? = some v := by
  have h1 : x[(p + t).toNat]? = some x[(p + t).toNat] := List.getElem?_eq_getElem (by omega)
  refine ⟨_, h1, ?_⟩
  rw [← sub_get (q := q') h0' (by omega), ← h, sub_get h0 ht]; exact h1
theorem mem_spanRun {i j : Int} {n : Nat} {p : Span} (h : p ∈ spanRun i j n) : ∃ t : Nat, t < n ∧ p = ⟨i + t, j + t⟩ := by
  unfold spanRun at h
  obtain ⟨t, h1, h2⟩ := List.mem_map.1 h
  exact ⟨t, List.mem_range.1 h1, h2.symm⟩
theorem matched_eq {x y : List Str} : ∀ (l : List Change) (k0 : Nat) (i j : Int), scriptGo k0 i j l x.length y.length = true → EqRuns x y i j l → 0 ≤ i → 0 ≤ j → ∀ p ∈ matchedGo i j l x.length, EqAt x y p
  | [], k0, i, j, hs, he, hi, hj, p, hp => by
    simp only [scriptGo, decide_eq_true_eq] at hs
    unfold matchedGo at hp
    obtain ⟨t, ht, rfl⟩ := mem_spanRun hp
    have he : sub x i x.length = sub y j y.length := he
    exact ⟨by dsimp only; omega, by dsimp only; omega, run_get he hi hj (by omega) (by omega) (by omega)⟩
  | c :: r, k0, i, j, hs, he, hi, hj, p, hp => by
    have hok := scriptGo_ok _ _ _ _ _ _ hs
    have g := sc_get x.length y.length (c :: r) k0 i j hs 0 (by simp)
    obtain ⟨g1, g2, g3, g4, g5, g6, g7, _⟩ := g
    have g1 : in81 c.Old := g1
    have g2 : in81 c.OldLen := g2
    have g3 : in81 c.New := g3
    have g4 : in81 c.NewLen := g4
    have g6 : c.Old - i = c.New - j := g6
    have g7 : i ≤ c.Old := g7
    simp only [scriptGo, Bool.and_eq_true, decide_eq_true_eq] at hs
    unfold matchedGo at hp
    unfold in81 at g1 g2 g3 g4
    have hm := hok.2.2.2.2.2.2.end_le
    rcases List.mem_append.1 hp with hp | hp
    · obtain ⟨t, ht, rfl⟩ := mem_spanRun hp
      exact ⟨by dsimp only; omega, by dsimp only; omega, run_get he.1 hi hj (by omega) (by omega) (by omega)⟩
    · rw [show max i c.Old + c.OldLen = c.Old + c.OldLen by omega, show j + ((c.Old - i).toNat : Int) + c.NewLen = c.New + c.NewLen by omega] at hp
      exact matched_eq r (k0 + 1) _ _ hs.2 he.2 (by omega) (by omega) p hp
theorem ScFit.pairs {x y : List Str} {l : List Change} (h : ScFit x y l) : ∀ p ∈ matchedOf l x.length, EqAt x y p := matched_eq l 0 0 0 h.sc h.eq (Int.le_refl _) (Int.le_refl _)
def movedC (c : Change) : Change := ⟨c.Old + 1, c.OldLen, c.New + 1, c.NewLen⟩
def movedOf (l : List Change) (k : Nat) : List Change := l.set k (movedC (cAt l k))
def atI (t : List Int) (i : Int) : Int := t.getD i.toNat 0
def downT (l : List Change) (k : Nat) (t : List Int) (f n : Int) : Prop := (f + n < t.length ∧ atI t f = atI t (f + n)) ∧ (k + 1 = l.length ∨ (cAt l k).Old + (cAt l k).OldLen + 1 < (cAt l (k + 1)).Old)
instance (l : List Change) (k : Nat) (t : List Int) (f n : Int) : Decidable (downT l k t f n) := by unfold downT; exact inferInstance
def canDown (l : List Change) (a b : List Int) (k : Nat) : Bool :=
  if (cAt l k).NewLen = 0 then decide (downT l k a (cAt l k).Old (cAt l k).OldLen) else if (cAt l k).OldLen = 0 then decide (downT l k b (cAt l k).New (cAt l k).NewLen) else false
theorem movedOf_length (l : List Change) (k : Nat) : (movedOf l k).length = l.length := by simp [movedOf]
theorem cAt_moved (l : List Change) {k : Nat} (hk : k < l.length) (q : Nat) : cAt (movedOf l k) q = if q = k then movedC (cAt l k) else cAt l q := by
  unfold movedOf
  by_cases h : q = k
  · subst h
    have : ∀ z, cAt (l.set q z) q = z := fun z => by unfold cAt; simp [hk]
    rw [if_pos rfl, this]
  · rw [if_neg h]; unfold cAt
    simp only [List.getD_eq_getElem?_getD]
    rw [List.getElem?_set_ne (Ne.symm h)]
theorem eo_moved (l : List Change) {k : Nat} (hk : k < l.length) (q : Nat) : eoI 0 (movedOf l k) q = eoI 0 l q + (if q = k + 1 then 1 else 0) := by
  cases q with
  | zero => simp [eoI]
  | succ q =>
    rw [eoI_succ, eoI_succ, cAt_moved l hk]
    by_cases h : q = k
    · subst h; rw [if_pos rfl, if_pos rfl]; simp only [endC, movedC]; omega
    · rw [if_neg h, if_neg (by omega)]; omega
theorem en_moved (l : List Change) {k : Nat} (hk : k < l.length) (q : Nat) : enI 0 (movedOf l k) q = enI 0 l q + (if q = k + 1 then 1 else 0) := by
  cases q with
  | zero => simp [enI]
  | succ q =>
    rw [enI_succ, enI_succ, cAt_moved l hk]
    by_cases h : q = k
    · subst h; rw [if_pos rfl, if_pos rfl]; simp only [endN, movedC]; omega
    · rw [if_neg h, if_neg (by omega)]; omega
structure IdsOf (x : List Str) (a : List Int) : Prop where
  len : a.length = x.length
  inj : ∀ (i j : Nat) (u v : Str) (z : Int), x[i]? = some u → x[j]? = some v → a[i]? = some z → a[j]? = some z → u = v
theorem ScFit.down {x y : List Str} {l : List Change} {a b : List Int} (h : ScFit x y l) (ha : IdsOf x a) (hb : IdsOf y b) {k : Nat} (hk : k < l.length) (hd : canDown l a b k = true) : ScFit x y (movedOf l k) := by
  have hlx := h.lx
  have hly := h.ly
  have hg := sc_get _ _ _ 0 0 0 h.sc
  have hge := sc_end _ _ _ 0 0 0 h.sc
  have hq := eq_get _ _ _ _ _ h.eq
  have hqe := eq_end _ _ _ _ _ h.eq
  have hok := h.ok
  obtain ⟨c, hc⟩ : ∃ c, c = cAt l k := ⟨_, rfl⟩
  obtain ⟨g1, g2, g3, g4, g5, g6, g7, g8⟩ := hg k hk
  have hb4 := hok.get k hk
  rw [← hc] at g1 g2 g3 g4 g5 g6 g7 g8 hb4
  unfold in81 at g1 g2 g3 g4
  have eo1 : eoI 0 l (k + 1) = c.Old + c.OldLen := by rw [eoI_succ, ← hc]; rfl
  have en1 : enI 0 l (k + 1) = c.New + c.NewLen := by rw [enI_succ, ← hc]; rfl
  obtain ⟨E, E', hE1, hE2, hE3, hE4, hE5, hEn⟩ : ∃ E E' : Int, sub x (c.Old + c.OldLen) E = sub y (c.New + c.NewLen) E' ∧ E - (c.Old + c.OldLen) = E' - (c.New + c.NewLen) ∧ E ≤ x.length ∧ E' ≤ y.length ∧ (c.Old + c.OldLen < E) ∧ (k + 1 < l.length → E = (cAt l (k + 1)).Old ∧ E' = (cAt l (k + 1)).New ∧ c.Old + c.OldLen + 1 < E) := by
    by_cases hl : k + 1 = l.length
    · rw [← hl, eo1, en1] at hge hqe
      refine ⟨x.length, y.length, hqe, by omega, by omega, by omega, ?_, fun q => absurd hl (by omega)⟩
      unfold canDown at hd
      rw [← hc] at hd
      split at hd
      · have := (of_decide_eq_true hd).1.1; rw [ha.len] at this; omega
      · split at hd
        · have := (of_decide_eq_true hd).1.1; rw [hb.len] at this; omega
        · cases hd
    · have hl : k + 1 < l.length := by omega
      obtain ⟨f1, f2, f3, f4, f5, f6, f7, f8⟩ := hg (k + 1) hl
      have f9 := hq (k + 1) hl
      have f10 := hok.get (k + 1) hl
      rw [eo1, en1] at f6 f9
      rw [eo1] at f7
      unfold in81 at f2 f4
      have hroom : c.Old + c.OldLen + 1 < (cAt l (k + 1)).Old := by
        unfold canDown at hd
        rw [← hc] at hd
        split at hd
        · have := (of_decide_eq_true hd).2; rw [← hc] at this; omega
        · split at hd
          · have := (of_decide_eq_true hd).2; rw [← hc] at this; omega
          · cases hd
      exact ⟨_, _, f9, by omega, by omega, by omega, by omega, fun _ => ⟨rfl, rfl, hroom⟩⟩
  have hv : ∃ v, x[c.Old.toNat]? = some v ∧ y[c.New.toNat]? = some v := by
    obtain ⟨v, v1, v2⟩ := run_get (t := 0) hE1 (by omega) (by omega) (by omega) hE2 (by omega)
    simp only [Int.natCast_zero, Int.add_zero] at v1 v2
    unfold canDown at hd
    rw [← hc] at hd
    split at hd
    · rename_i hn
      have := (of_decide_eq_true hd).1.2
      rw [hn, Int.add_zero] at v2
      refine ⟨v, ?_, v2⟩
      have l1 : c.Old.toNat < a.length := by rw [ha.len]; omega
      have l2 : (c.Old + c.OldLen).toNat < a.length := by rw [ha.len]; omega
      have hx : x[c.Old.toNat]? = some x[c.Old.toNat] := List.getElem?_eq_getElem (by omega)
      have ea : a[c.Old.toNat]? = some (atI a c.Old) := by unfold atI; rw [List.getD_eq_getElem?_getD, List.getElem?_eq_getElem l1]; rfl
      have eb : a[(c.Old + c.OldLen).toNat]? = some (atI a (c.Old + c.OldLen)) := by unfold atI; rw [List.getD_eq_getElem?_getD, List.getElem?_eq_getElem l2]; rfl
      rw [← this] at eb
      have := ha.inj _ _ _ _ _ hx v1 ea eb
      rw [hx, this]
    · split at hd
      · rename_i _ hn
        have := (of_decide_eq_true hd).1.2
        rw [hn, Int.add_zero] at v1
        refine ⟨v, v1, ?_⟩
        have l1 : c.New.toNat < b.length := by rw [hb.len]; omega
        have l2 : (c.New + c.NewLen).toNat < b.length := by rw [hb.len]; omega
        have hx : y[c.New.toNat]? = some y[c.New.toNat] := List.getElem?_eq_getElem (by omega)
        have ea : b[c.New.toNat]? = some (atI b c.New) := by unfold atI; rw [List.getD_eq_getElem?_getD, List.getElem?_eq_getElem l1]; rfl
        have eb : b[(c.New + c.NewLen).toNat]? = some (atI b (c.New + c.NewLen)) := by unfold atI; rw [List.getD_eq_getElem?_getD, List.getElem?_eq_getElem l2]; rfl
        rw [← this] at eb
        have := hb.inj _ _ _ _ _ hx v2 ea eb
        rw [hx, this]
      · cases hd
  obtain ⟨v, v1, v2⟩ := hv
  have hen0 : 0 ≤ eoI 0 l k ∧ 0 ≤ enI 0 l k := by
    cases k with
    | zero => simp [eoI, enI]
    | succ k =>
      obtain ⟨f1, f2, f3, f4, _⟩ := hg k (by omega)
      unfold in81 at f1 f2 f3 f4
      rw [eoI_succ, enI_succ]; unfold endC endN; omega
  have htail : sub x (c.Old + c.OldLen + 1) E = sub y (c.New + c.NewLen + 1) E' := by
    have := run_tail (e := E - (c.Old + c.OldLen) - 1) hE1 (by omega) (by omega) (by omega) (by omega) hE2
    rw [show E - (E - (c.Old + c.OldLen) - 1) = c.Old + c.OldLen + 1 by omega, show E' - (E - (c.Old + c.OldLen) - 1) = c.New + c.NewLen + 1 by omega] at this
    exact this
  refine ⟨hlx, hly, sc_make _ _ _ 0 0 0 (fun q hql => ?_) ?_, eq_make _ _ _ 0 0 (fun q hql => ?_) ?_⟩
  · rw [movedOf_length] at hql
    rw [cAt_moved l hk, eo_moved l hk, en_moved l hk]
    by_cases e : q = k
    · rw [if_pos e, if_neg (show ¬ q = k + 1 by omega), e, ← hc]
      unfold in81
      simp only [movedC]
      refine ⟨by omega, g2, by omega, g4, g5, by omega, by omega, fun _ => by omega⟩
    · rw [if_neg e]
      obtain ⟨f1, f2, f3, f4, f5, f6, f7, f8⟩ := hg q hql
      refine ⟨f1, f2, f3, f4, f5, ?_, ?_, ?_⟩
      · by_cases e2 : q = k + 1
        · rw [if_pos e2]; omega
        · rw [if_neg e2]; omega
      · by_cases e2 : q = k + 1
        · rw [if_pos e2]; have := f8 (by omega); omega
        · rw [if_neg e2]; omega
      · intro h0
        by_cases e2 : q = k + 1
        · rw [if_pos e2, e2, eo1]
          have := (hEn (by omega))
          omega
        · rw [if_neg e2]; have := f8 h0; omega
  · rw [movedOf_length, eo_moved l hk, en_moved l hk]
    by_cases e2 : l.length = k + 1
    · rw [if_pos e2, e2, eo1, en1]
      rw [e2, eo1, en1] at hge
      have h1 : E ≤ x.length := hE3
      omega
    · rw [if_neg e2]; omega
  · rw [movedOf_length] at hql
    rw [cAt_moved l hk, eo_moved l hk, en_moved l hk]
    by_cases e : q = k
    · rw [if_pos e, if_neg (show ¬ q = k + 1 by omega), e, ← hc]
      simp only [movedC, Int.add_zero]
      have := hq k hk
      rw [← hc] at this
      rw [sub_snoc hen0.1 g7 v1, sub_snoc hen0.2 (by omega) v2, this]
    · rw [if_neg e]
      by_cases e2 : q = k + 1
      · rw [if_pos e2]
        subst e2
        obtain ⟨q1, q2, _⟩ := hEn hql
        rw [eo1, en1, ← q1, ← q2]; exact htail
      · rw [if_neg e2, Int.add_zero, Int.add_zero]
        exact hq q hql
  · rw [movedOf_length, eo_moved l hk, en_moved l hk]
    by_cases e2 : l.length = k + 1
    · rw [if_pos e2]
      rw [e2, eo1, en1] at hqe hge ⊢
      have := run_tail (e := x.length - (c.Old + c.OldLen) - 1) hqe (by omega) (by omega) (by omega) (by omega) (by omega)
      rw [show (x.length : Int) - (x.length - (c.Old + c.OldLen) - 1) = c.Old + c.OldLen + 1 by omega, show (y.length : Int) - (x.length - (c.Old + c.OldLen) - 1) = c.New + c.NewLen + 1 by omega] at this
      exact this
    · rw [if_neg e2, Int.add_zero, Int.add_zero]; exact hqe
def measK (l : List Change) (a b : List Int) (k : Nat) : Nat := ((a.length : Int) - (cAt l k).Old).toNat + ((b.length : Int) - (cAt l k).New).toNat
def slideK (a b : List Int) (k : Nat) : Nat → List Change → List Change
  | 0, l => l
  | f + 1, l => if canDown l a b k = true then slideK a b k f (movedOf l k) else l
def slideOne (a b : List Int) (l : List Change) (k : Nat) : List Change := slideK a b k (measK l a b k) l
def slideAll (a b : List Int) : Nat → List Change → List Change
  | 0, l => l
  | k + 1, l => slideAll a b k (slideOne a b l k)
def lensOf (l : List Change) : List (Int × Int) := l.map fun c => (c.OldLen, c.NewLen)
theorem lens_moved {l : List Change} {k : Nat} (hk : k < l.length) : lensOf (movedOf l k) = lensOf l := by
  unfold lensOf movedOf
  rw [List.map_set]
  have e : (movedC (cAt l k)).OldLen = l[k].OldLen ∧ (movedC (cAt l k)).NewLen = l[k].NewLen := by unfold cAt movedC; simp [hk]
  apply List.ext_getElem
  · simp
  · intro i h1 h2
    by_cases hi : k = i
    · subst hi; simp [e.1, e.2]
    · simp [hi]
section
variable {x y : List Str} {a b : List Int} (ha : IdsOf x a) (hb : IdsOf y b)
include ha hb
theorem slideK_fit {k : Nat} : ∀ (f : Nat) (l : List Change), ScFit x y l → k < l.length → ScFit x y (slideK a b k f l) ∧ lensOf (slideK a b k f l) = lensOf l
  | 0, l, h, _ => ⟨h, rfl⟩
  | f + 1, l, h, hk => by
    unfold slideK
    by_cases hd : canDown l a b k = true
    · rw [if_pos hd]
      have := slideK_fit f _ (h.down ha hb hk hd) (by rw [movedOf_length]; exact hk)
      rw [lens_moved hk] at this; exact this
    · rw [if_neg hd]; exact ⟨h, rfl⟩
theorem slideOne_fit {l : List Change} {k : Nat} (h : ScFit x y l) (hk : k < l.length) : ScFit x y (slideOne a b l k) ∧ lensOf (slideOne a b l k) = lensOf l := slideK_fit ha hb _ l h hk
omit ha hb in
theorem lens_len {l l' : List Change} (h : lensOf l = lensOf l') : l.length = l'.length := by
  have := congrArg List.length h
  simpa [lensOf] using this
theorem slideAll_fit : ∀ (k : Nat) (l : List Change), ScFit x y l → k ≤ l.length → ScFit x y (slideAll a b k l) ∧ lensOf (slideAll a b k l) = lensOf l
  | 0, l, h, _ => ⟨h, rfl⟩
  | k + 1, l, h, hk => by
    unfold slideAll
    obtain ⟨h1, h2⟩ := slideOne_fit ha hb h (k := k) (by omega)
    have h3 := slideAll_fit k _ h1 (by rw [lens_len h2]; omega)
    rw [h2] at h3; exact h3
end
theorem idsOf_ids {names x : List Str} (h : ∀ s ∈ x, s ∈ names) : IdsOf x (idsOf names x) := by
  refine ⟨by simp [idsOf], fun i j u v z h1 h2 h3 h4 => ?_⟩
  obtain ⟨s, s1, s2⟩ := idsOf_get h3
  obtain ⟨t, t1, t2⟩ := idsOf_get h4
  rw [h1] at s1; cases s1
  rw [h2] at t1; cases t1
  exact placeOf_inj names u v 0 (Int.le_refl _) (h u (List.mem_of_getElem? h1)) (h v (List.mem_of_getElem? h2)) (s2.trans t2.symm)
def downOf (l : List Change) (a b : List Int) : List Change := slideAll a b l.length l
end Go.AL
namespace Go.AL
open Go
def scriptD (x y : List Str) (d : Bool) : List Change := if d = true then downOf (scriptOf x y) (idsOf (namesOf [x, y]) x) (idsOf (namesOf [x, y]) y) else scriptOf x y
def made12 (on nn a b : Str) (ctx : Int) (d : Bool) : Patch × Int :=
  if nameOk on = false ∨ nameOk nn = false then (patch0, 120)
  else if ctx < 0 ∨ 1048576 < ctx then (patch0, 3)
  else (⟨on, nn, hunksOf (scriptD (linesOf a) (linesOf b) d) (linesOf a) (linesOf b) ctx⟩, 0)
theorem scriptD_fit (x y : List Str) (d : Bool) (hx : x.length ≤ 4096) (hy : y.length ≤ 4096) : ScFit x y (scriptD x y d) ∧ lensOf (scriptD x y d) = lensOf (scriptOf x y) := by
  have h := script_fit x y hx hy
  unfold scriptD
  cases d
  · exact ⟨h, rfl⟩
  · rw [if_pos rfl]
    exact slideAll_fit (idsOf_ids fun s hs => namesOf_mem _ _ x (by simp) hs) (idsOf_ids fun s hs => namesOf_mem _ _ y (by simp) hs) _ _ h (Nat.le_refl _)
theorem scriptD_len (x y : List Str) (d : Bool) (hx : x.length ≤ 4096) (hy : y.length ≤ 4096) : (scriptD x y d).length ≤ x.length + 1 := by
  rw [lens_len (scriptD_fit x y d hx hy).2]; exact scriptOf_len x y
theorem group_fit {x y : List Str} {l : List Change} (h : ScFit x y l) {ctx : Int} (hc : ¬ (ctx < 0 ∨ 1048576 < ctx)) : groupOf l x.length y.length ctx = (groupTo l x.length ctx l.length, 0) := by
  unfold groupOf
  rw [if_neg hc, h.check, if_neg (by simp)]
structure Made12 (on nn a b : Str) (l : List Change) (ctx : Int) : Prop where
  chk : check12 ⟨on, nn, hunksOf l (linesOf a) (linesOf b) ctx⟩ = 0
  wr : (writeOf ⟨on, nn, hunksOf l (linesOf a) (linesOf b) ctx⟩).length ≤ 16777216
  fit : PFit ⟨on, nn, hunksOf l (linesOf a) (linesOf b) ctx⟩
  rg : ∀ h ∈ hunksOf l (linesOf a) (linesOf b) ctx, (-4611686018427387904 ≤ h.Old ∧ h.Old ≤ 4611686018427387904) ∧ (-4611686018427387904 ≤ h.New ∧ h.New ≤ 4611686018427387904)
  sz : szP (hunksOf l (linesOf a) (linesOf b) ctx) ≤ 268435456
def Few (a : Str) : Prop := a.length ≤ 1048576 ∧ (linesOf a).length ≤ 4096
theorem few_of {a : Str} (h : a.length ≤ 4096) : Few a := ⟨by omega, Nat.le_trans (linesOf_length a) h⟩
theorem splitOf_few {a : Str} (h : Few a) : splitOf a = (linesOf a, 0) := by
  obtain ⟨h1, h2⟩ := h
  unfold splitOf; rw [if_neg (by omega)]
theorem made12_isL (on nn a b : Str) (l : List Change) (ctx : Int) (hn : nameOk on = true) (hn' : nameOk nn = true) (hc : ¬ (ctx < 0 ∨ 1048576 < ctx)) (ha : Few a) (hb : Few b) (hfit : ScFit (linesOf a) (linesOf b) l) : Made12 on nn a b l ctx := by
  obtain ⟨ha, ha2⟩ := ha
  obtain ⟨hb, hb2⟩ := hb
  obtain ⟨f1, f2⟩ := lines_flat a
  obtain ⟨f3, f4⟩ := lines_flat b
  obtain ⟨a1, a2⟩ := linesOf_ok a
  obtain ⟨b1, b2⟩ := linesOf_ok b
  have hc0 : 0 ≤ ctx := by omega
  have hg := hfit.good hc0 a1 b1 a2 b2
  have hz := hfit.size hc0 a1 b1
  have ht := hfit.texts hc0 a1 b1
  have hxl := hfit.lx
  have hyl := hfit.ly
  obtain ⟨hs, hhs⟩ : ∃ hs, hs = hunksOf l (linesOf a) (linesOf b) ctx := ⟨_, rfl⟩
  rw [← hhs] at hg hz ht
  have hon := hn
  have hnn := hn'
  unfold nameOk at hon hnn
  have o1 := of_decide_eq_true hon
  have o2 := of_decide_eq_true hnn
  have hw : (writeOf ⟨on, nn, hs⟩).length ≤ 16777216 := by
    have h1 : (writeOf ⟨on, nn, hs⟩).length ≤ (namePs ⟨on, nn, hs⟩).flatten.length + szP hs := by
      unfold writeOf writePs
      rw [List.flatten_append, List.length_append]
      have := hunksPs_flat hs
      show _ + ((hs).map hunkPs).flatten.flatten.length ≤ _
      omega
    have h2 := namePs_flat ⟨on, nn, hs⟩
    have h3 : (namePs ⟨on, nn, hs⟩).flatten.length ≤ 4 * on.length + 4 * nn.length + 14 := h2
    omega
  refine ⟨?_, by rw [← hhs]; exact hw, ⟨by dsimp only; omega, by dsimp only; omega, by rw [← hhs]; dsimp only; omega⟩, fun h hm => ?_, by rw [← hhs]; omega⟩
  · rw [← hhs]
    unfold check12
    rw [if_neg (by rw [show (Patch.mk on nn hs).OldName = on from rfl, show (Patch.mk on nn hs).NewName = nn from rfl, hn, hn']; simp)]
    rw [if_neg (by rw [hg]; simp), if_neg (by omega)]
  · rw [← hhs] at hm
    obtain ⟨⟨q1, q2, q3, q4⟩, _⟩ := ht h hm
    unfold oldN at q1
    unfold newN at q2
    omega
theorem made12_is (on nn a b : Str) (l : List Change) (ctx : Int) (hn : nameOk on = true) (hn' : nameOk nn = true) (hc : ¬ (ctx < 0 ∨ 1048576 < ctx)) (ha : a.length ≤ 4096) (hb : b.length ≤ 4096) (hfit : ScFit (linesOf a) (linesOf b) l) : Made12 on nn a b l ctx := made12_isL on nn a b l ctx hn hn' hc (few_of ha) (few_of hb) hfit
end Go.AL
namespace Go.AL
open Go
section
variable {x y : List Str} {l : List Change}
end
end Go.AL
namespace Go.AL
open Go
def ChainH (x y : List Str) (i j : Int) : List PatchHunk → Prop
  | [] => sub x i x.length = sub y j y.length ∧ 0 ≤ i ∧ 0 ≤ j ∧ i ≤ x.length ∧ j ≤ y.length
  | h :: r => (sub x i h.Old = sub y j h.New ∧ linesNot h.Lines 43 = sub x h.Old (h.Old + oldN h) ∧ linesNot h.Lines 45 = sub y h.New (h.New + newN h)) ∧ (0 ≤ i ∧ 0 ≤ j ∧ i ≤ h.Old ∧ j ≤ h.New ∧ h.Old + oldN h ≤ x.length ∧ h.New + newN h ≤ y.length) ∧ ChainH x y (h.Old + oldN h) (h.New + newN h) r
theorem chain_rev {x y : List Str} : ∀ {hs : List PatchHunk} {i j : Int}, ChainH x y i j hs → ChainH y x j i (hs.map revH)
  | [], i, j, ⟨h1, h2, h3, h4, h5⟩ => ⟨h1.symm, h3, h2, h5, h4⟩
  | h :: r, i, j, ⟨⟨h1, h2, h3⟩, ⟨g1, g2, g3, g4, g5, g6⟩, h4⟩ => by
    have e := oldN_rev h
    have l := linesNot_rev h.Lines
    have ih := chain_rev h4
    rw [List.map_cons]
    refine ⟨⟨h1.symm, ?_, ?_⟩, ⟨g2, g1, g4, g3, ?_, ?_⟩, ?_⟩
    · rw [e.1]; exact l.1.trans h3
    · rw [e.2]; exact l.2.trans h2
    · rw [e.1]; exact g6
    · rw [e.2]; exact g5
    · rw [e.1, e.2]; exact ih
def aT (i : Int) (hs : List PatchHunk) (k : Nat) : Int := if k = 0 then i else (hAt hs (k - 1)).Old + oldN (hAt hs (k - 1))
def bT (j : Int) (hs : List PatchHunk) (k : Nat) : Int := if k = 0 then j else (hAt hs (k - 1)).New + newN (hAt hs (k - 1))
theorem aT_cons (i : Int) (h : PatchHunk) (r : List PatchHunk) (k : Nat) : aT i (h :: r) (k + 1) = aT (h.Old + oldN h) r k := by cases k <;> rfl
theorem bT_cons (i : Int) (h : PatchHunk) (r : List PatchHunk) (k : Nat) : bT i (h :: r) (k + 1) = bT (h.New + newN h) r k := by cases k <;> rfl
theorem chain_get {x y : List Str} : ∀ {hs : List PatchHunk} {i j : Int}, ChainH x y i j hs → ∀ k, k < hs.length →
    (sub x (aT i hs k) (hAt hs k).Old = sub y (bT j hs k) (hAt hs k).New ∧ linesNot (hAt hs k).Lines 43 = sub x (hAt hs k).Old ((hAt hs k).Old + oldN (hAt hs k)) ∧ linesNot (hAt hs k).Lines 45 = sub y (hAt hs k).New ((hAt hs k).New + newN (hAt hs k))) ∧
      (0 ≤ aT i hs k ∧ 0 ≤ bT j hs k ∧ aT i hs k ≤ (hAt hs k).Old ∧ bT j hs k ≤ (hAt hs k).New ∧ (hAt hs k).Old + oldN (hAt hs k) ≤ x.length ∧ (hAt hs k).New + newN (hAt hs k) ≤ y.length)
  | [], _, _, _, k, hk => by simp at hk
  | h :: r, i, j, ⟨h1, h2, h3⟩, 0, _ => ⟨h1, h2⟩
  | h :: r, i, j, ⟨h1, h2, h3⟩, k + 1, hk => by
    rw [aT_cons, bT_cons]
    exact chain_get h3 k (by simpa using hk)
theorem chain_end {x y : List Str} : ∀ {hs : List PatchHunk} {i j : Int}, ChainH x y i j hs → sub x (aT i hs hs.length) x.length = sub y (bT j hs hs.length) y.length ∧ 0 ≤ aT i hs hs.length ∧ 0 ≤ bT j hs hs.length ∧ aT i hs hs.length ≤ x.length ∧ bT j hs hs.length ≤ y.length
  | [], _, _, h => h
  | h :: r, i, j, ⟨_, _, h3⟩ => by rw [List.length_cons, aT_cons, bT_cons]; exact chain_end h3
theorem chain_out {x y : List Str} {hs : List PatchHunk} (h : ChainH x y 0 0 hs) : ∀ k, k ≤ hs.length → outTo hs x k = sub y 0 (bT 0 hs k)
  | 0, _ => by simp [outTo, bT, sub]
  | k + 1, hk => by
    obtain ⟨⟨g1, g2, g3⟩, q1, q2, q3, q4, q5, q6⟩ := chain_get h k (by omega)
    have n2 : 0 ≤ newN (hAt hs k) := by unfold newN; omega
    have ih := chain_out h k (by omega)
    have e1 : atTo hs k = aT 0 hs k := rfl
    have e2 : bT 0 hs (k + 1) = (hAt hs k).New + newN (hAt hs k) := rfl
    simp only [outTo]
    rw [ih, e1, g1, g3, e2, sub_app y (by omega) q2 q4, sub_app y (by omega) (by omega) (by omega)]
theorem sub_all (x : List Str) (i : Int) : sub x i x.length = x.drop i.toNat := by
  unfold sub
  rw [List.take_of_length_le (by rw [List.length_drop]; omega)]
theorem chain_apply {x y : List Str} {hs : List PatchHunk} (h : ChainH x y 0 0 hs) : outTo hs x hs.length ++ x.drop (atTo hs hs.length).toNat = y := by
  obtain ⟨h1, h2, h3, h4, h5⟩ := chain_end h
  rw [chain_out h hs.length (Nat.le_refl _), show atTo hs hs.length = aT 0 hs hs.length from rfl, ← sub_all, h1, sub_app y (by omega) h3 h5, sub_all]
  simp
theorem chain_fits {x y : List Str} : ∀ {hs : List PatchHunk} {i j : Int}, ChainH x y i j hs → fitN hs x = hs.length
  | [], _, _, _ => rfl
  | h :: r, i, j, ⟨⟨h1, h2, h3⟩, ⟨g1, g2, g3, g4, g5, g6⟩, h4⟩ => by
    have ih := chain_fits h4
    have hf : fitsOf h x = true := by
      unfold fitsOf
      rw [if_neg (by omega)]
      refine decide_eq_true ?_
      have e : ((linesNot h.Lines 43).length : Int) = oldN h := rfl
      conv => rhs; rw [h2]
      unfold sub
      congr 1
      omega
    simp only [fitN]
    rw [if_pos hf, ih, List.length_cons]
theorem ScFit.chain {x y : List Str} {l : List Change} (h : ScFit x y l) {ctx : Int} (hc : 0 ≤ ctx) : ∀ (hs : List Hunk) (a : Nat), GrOk l x.length ctx a hs l.length →
    ∀ (i j e : Int), i = eoI 0 l a + e → j = enI 0 l a + e → 0 ≤ e → e ≤ ctx → (a = 0 → e = 0) → i ≤ x.length → j ≤ y.length → ChainH x y i j (hs.map (hunkOfG l x y))
  | [], a, hr, i, j, e, hi, hj, he, _, _, hix, hjy => by
    have hr : a = l.length := hr
    have hq := eq_end _ _ _ _ _ h.eq
    have hge := sc_end _ _ _ 0 0 0 h.sc
    obtain ⟨r1, r2, r3, r4⟩ := h.nn a (by omega)
    rw [← hr] at hq hge
    refine ⟨?_, by omega, by omega, hix, hjy⟩
    have := run_tail (e := x.length - i) hq r1 r2 (by omega) (by omega) (by omega)
    rw [show (x.length : Int) - (x.length - i) = i by omega, show (y.length : Int) - (x.length - i) = j by omega] at this
    exact this
  | hk :: hs, a, ⟨b, hab, ho, hE, hr⟩, i, j, e, hi, hj, he, hec, he0, hix, hjy => by
    have hb := hr.le
    have hob : b < l.length → opens l ctx b := by
      intro hlt
      cases hs with
      | nil => exact absurd hr (by show ¬ b = l.length; omega)
      | cons h2 hs2 => obtain ⟨_, _, ho2, _⟩ := hr; exact ho2
    obtain ⟨w1, w2, w3, w4, w5⟩ := h.after hc hb hob (by omega)
    obtain ⟨q1, q2, q3⟩ := h.before hc (show a < l.length by omega) ho
    have H := h.hunk hc hab hb ho hob
    rw [← hE] at H
    obtain ⟨P, hP⟩ : ∃ P, P = hunkOfG l x y hk := ⟨_, rfl⟩
    rw [← hP] at H
    have ih := ScFit.chain h hc hs b hr (P.Old + oldN P) (P.New + newN P) (eB l x.length ctx b) H.oe H.ne w1 w2 (by omega) H.ox H.ny
    obtain ⟨k1, ⟨k2, k2'⟩, k3, ⟨k4, k4'⟩, k5, k6, k7, k8⟩ := sc_get _ _ _ _ _ _ h.sc a (show a < l.length by omega)
    have h1 := H.old
    have h2 := H.new
    have h3 := H.o0
    have h4 := H.n0
    have hgap : e + eA l ctx a ≤ (cAt l a).Old - eoI 0 l a := by
      by_cases h0 : a = 0
      · have := he0 h0; omega
      · have := opens_gap ho h0; omega
    obtain ⟨r1, r2, r3, r4⟩ := h.nn a (by omega)
    have hij : i ≤ P.Old ∧ j ≤ P.New ∧ P.Old - i = P.New - j ∧ 0 ≤ i ∧ 0 ≤ j := by omega
    have hrun := eq_get _ _ _ _ _ h.eq a (show a < l.length by omega)
    have t1 := run_tail (e := (cAt l a).Old - i) hrun r1 r2 (by omega) (by omega) (by omega)
    rw [show (cAt l a).Old - ((cAt l a).Old - i) = i by omega, show (cAt l a).New - ((cAt l a).Old - i) = j by omega] at t1
    have t2 := run_head (e := P.Old - i) t1 (by omega) (by omega) (by omega) (by omega) (by omega)
    rw [show i + (P.Old - i) = P.Old by omega, show j + (P.Old - i) = P.New by omega] at t2
    rw [List.map_cons, ← hP]
    exact ⟨⟨t2, H.ol, H.nl⟩, ⟨by omega, by omega, hij.1, hij.2.1, H.ox, H.ny⟩, ih⟩
theorem listOk_lines : ∀ (y : List Str), (∀ s ∈ y, lineOk s = true) → endedBut y = true → listOk y = true
  | [], _, _ => rfl
  | s :: r, h, he => by
    simp only [endedBut, Bool.and_eq_true] at he
    simp only [listOk, Bool.and_eq_true]
    exact ⟨⟨h s (List.mem_cons_self ..), he.1⟩, listOk_lines r (fun t ht => h t (List.mem_cons_of_mem _ ht)) he.2⟩
theorem apply14_chainF {p : Patch} {a b : Str} (hc : check12 p = 0) (ha : Few a) (hb : Few b) (h : ChainH (linesOf a) (linesOf b) 0 0 p.Hunks) : apply14 p a = (b, 0) := by
  have hf : fits14 p a = ((p.Hunks.length : Int), 0) := by
    unfold fits14
    rw [hc, if_neg (by simp), splitOf_few ha, if_neg (by simp), chain_fits h]
  obtain ⟨b1, b2⟩ := linesOf_ok b
  obtain ⟨f1, f2⟩ := lines_flat b
  have hfl : (linesOf b).flatten = b := by have := linesAux_flat2 b []; simpa [linesOf] using this
  have hok := listOk_lines (linesOf b) b1 b2
  unfold apply14
  rw [hf, if_neg (by simp), if_neg (by simp)]
  unfold applyOf
  rw [chain_apply h]
  dsimp only
  rw [hok, if_neg (by decide)]
  unfold joinOf
  have hb1 := hb.1
  have hb2 := hb.2
  rw [hok, if_neg (by decide), if_neg (by omega), hfl]
end Go.AL
namespace Go.AL
open Go
theorem linesAux_all (a cur : Str) (h : (10 : UInt8) ∉ a) (hne : cur ++ a ≠ []) : linesAux cur a = [cur ++ a] := by
  induction a generalizing cur with
  | nil => simp only [List.append_nil] at hne ⊢; exact linesAux_end cur hne
  | cons c r ih =>
    simp only [List.mem_cons, not_or] at h
    rw [linesAux_step, if_neg (fun e => h.1 e.symm), ih _ h.2 (by simp)]; simp
theorem linesAux_cut2 (a b cur : Str) (h : (10 : UInt8) ∉ a) : linesAux cur (a ++ 10 :: b) = (cur ++ a ++ [10]) :: linesAux [] b := by
  induction a generalizing cur with
  | nil => simp [linesAux]
  | cons c r ih =>
    simp only [List.mem_cons, not_or] at h
    rw [List.cons_append, linesAux_step, if_neg (fun e => h.1 e.symm), ih _ h.2]; simp
theorem linesOf_flat : ∀ (l : List Str), listOk l = true → linesOf l.flatten = l
  | [], _ => rfl
  | s :: r, h => by
    rw [listOk_cons] at h
    simp only [Bool.and_eq_true, Bool.or_eq_true] at h
    obtain ⟨⟨h1, h2⟩, h3⟩ := h
    have ih := linesOf_flat r h3
    unfold lineOk at h1
    simp only [Bool.and_eq_true] at h1
    have hd : (10 : UInt8) ∉ s.dropLast := fun hm => by have := List.all_eq_true.1 h1.1 _ hm; simp at this
    have hne : s ≠ [] := by simpa using h1.2
    have hs := List.dropLast_concat_getLast hne
    unfold linesOf at ih ⊢
    by_cases hl : s.getLast hne = 10
    · rw [hl] at hs
      rw [List.flatten_cons, ← hs, show s.dropLast ++ [10] ++ r.flatten = s.dropLast ++ 10 :: r.flatten by simp, linesAux_cut2 _ _ _ hd, ih]; simp
    · have he : ended s = false := by
        unfold ended
        rw [List.getLast?_eq_some_getLast hne]
        simpa using hl
      rcases h2 with h2 | h2
      · have hr : r = [] := by simpa using h2
        subst hr
        have hm : (10 : UInt8) ∉ s := by
          rw [← hs]
          simp only [List.mem_append, List.mem_cons, List.not_mem_nil, or_false, not_or]
          exact ⟨hd, fun e => hl e.symm⟩
        simp only [List.flatten_cons, List.flatten_nil, List.append_nil]
        rw [linesAux_all s [] hm (by simpa using hne)]; simp
      · rw [he] at h2; cases h2
def outGo (x : List Str) (i : Int) : List PatchHunk → List Str
  | [] => x.drop i.toNat
  | h :: r => sub x i h.Old ++ (linesNot h.Lines 45 ++ outGo x (h.Old + oldN h) r)
theorem out_go (x : List Str) (hs : List PatchHunk) : ∀ k, k ≤ hs.length → outGo x 0 hs = outTo hs x k ++ outGo x (atTo hs k) (hs.drop k)
  | 0, _ => rfl
  | k + 1, hk => by
    rw [out_go x hs k (by omega), List.drop_eq_getElem_cons (show k < hs.length by omega)]
    have e : hs[k]'(by omega) = hAt hs k := by have := hAt_get (hs := hs) (k := k) (by omega); rw [List.getElem?_eq_getElem (by omega)] at this; exact Option.some.inj this
    rw [e]
    have e2 : atTo hs (k + 1) = (hAt hs k).Old + oldN (hAt hs k) := by unfold atTo; rw [if_neg (by omega)]; rfl
    rw [e2]
    simp only [outGo, outTo, List.append_assoc]
theorem sub_pre {pre a b : List Str} {i j : Int} (hp : (pre.length : Int) = i) (hj : j = i + a.length) : sub (pre ++ (a ++ b)) i j = a := by
  have h1 : i.toNat = pre.length := by omega
  have h2 : j.toNat - i.toNat = a.length := by omega
  unfold sub
  rw [h2, h1, List.drop_left, List.take_left]
theorem sub_len2 {x : List Str} {i j : Int} (h0 : 0 ≤ i) (h1 : i ≤ j) (h2 : j ≤ x.length) : ((sub x i j).length : Int) = j - i := by
  unfold sub; rw [List.length_take, List.length_drop]; omega
theorem chain_go (x : List Str) : ∀ (hs : List PatchHunk) (i j : Int) (pre : List Str), goodGo i j hs = true → (∀ h ∈ hs, fitsOf h x = true) → 0 ≤ i → i ≤ x.length → (pre.length : Int) = j → ChainH x (pre ++ outGo x i hs) i j hs
  | [], i, j, pre, _, _, hi, hix, hp => by
    have e : sub (pre ++ x.drop i.toNat) j ((pre ++ x.drop i.toNat).length : Nat) = x.drop i.toNat := by
      have := sub_pre (pre := pre) (a := x.drop i.toNat) (b := []) (i := j) (j := ((pre ++ x.drop i.toNat).length : Nat)) hp (by rw [List.length_append]; omega)
      simpa using this
    refine ⟨?_, hi, by omega, hix, ?_⟩
    · show sub x i x.length = sub (pre ++ x.drop i.toNat) j ((pre ++ x.drop i.toNat).length : Nat)
      rw [e, sub_all]
    · show j ≤ ((pre ++ x.drop i.toNat).length : Nat)
      rw [List.length_append]; omega
  | h :: r, i, j, pre, hg, hf, hi, hix, hp => by
    simp only [goodGo, Bool.and_eq_true, decide_eq_true_eq] at hg
    obtain ⟨g1, g2, g3, g4⟩ := hg
    unfold offPlace at g2
    have hfh := hf h (by simp)
    have hle := fitsOf_le hfh
    have hon := oldN_nn h
    have hnn : newN h = ((linesNot h.Lines 45).length : Int) := rfl
    obtain ⟨A, hA⟩ : ∃ A, A = sub x i h.Old := ⟨_, rfl⟩
    have hAl : (A.length : Int) = h.Old - i := by rw [hA]; exact sub_len2 hi (by omega) (by omega)
    have ih := chain_go x r (h.Old + oldN h) (h.New + newN h) (pre ++ (A ++ linesNot h.Lines 45)) g4 (fun y hy => hf y (by simp [hy])) (by omega) (by omega) (by simp only [List.length_append]; omega)
    have e : pre ++ outGo x i (h :: r) = pre ++ (A ++ linesNot h.Lines 45) ++ outGo x (h.Old + oldN h) r := by simp only [outGo, hA, List.append_assoc]
    rw [e]
    obtain ⟨Z, hZ⟩ : ∃ Z, Z = outGo x (h.Old + oldN h) r := ⟨_, rfl⟩
    rw [← hZ] at ih ⊢
    have e1 : sub (pre ++ (A ++ linesNot h.Lines 45) ++ Z) j h.New = A := by
      have := sub_pre (pre := pre) (a := A) (b := linesNot h.Lines 45 ++ Z) (i := j) (j := h.New) hp (by omega)
      simpa using this
    have e2 : sub (pre ++ (A ++ linesNot h.Lines 45) ++ Z) h.New (h.New + newN h) = linesNot h.Lines 45 := by
      have := sub_pre (pre := pre ++ A) (a := linesNot h.Lines 45) (b := Z) (i := h.New) (j := h.New + newN h) (by rw [List.length_append]; omega) (by omega)
      simpa using this
    have e3 : linesNot h.Lines 43 = sub x h.Old (h.Old + oldN h) := by
      unfold fitsOf at hfh
      rw [if_neg (by omega)] at hfh
      have := of_decide_eq_true hfh
      have hn : oldN h = ((linesNot h.Lines 43).length : Int) := rfl
      unfold sub
      rw [show (h.Old + oldN h).toNat - h.Old.toNat = (linesNot h.Lines 43).length by omega, this]
    refine ⟨⟨by rw [e1, hA], e3, e2.symm⟩, ⟨hi, by omega, by omega, by omega, by omega, ?_⟩, ih⟩
    simp only [List.length_append]; omega
theorem apply_chain {p : Patch} {a y : Str} (h : apply14 p a = (y, 0)) : check12 p = 0 ∧ ChainH (linesOf a) (linesOf y) 0 0 p.Hunks := by
  unfold apply14 at h
  split at h
  · rename_i h1
    have := congrArg Prod.snd h
    exact absurd this h1
  · rename_i h1
    have h1 : (fits14 p a).2 = 0 := Decidable.not_not.1 h1
    split at h
    · cases h
    · rename_i h2
      unfold fits14 at h1 h2
      by_cases hc : check12 p = 0
      · have hc' : ¬ check12 p ≠ 0 := fun hh => hh hc
        rw [if_neg hc'] at h1 h2
        by_cases hs : (splitOf a).2 = 0
        · have hs' : ¬ (splitOf a).2 ≠ 0 := fun hh => hh hs
          rw [if_neg hs'] at h2
          have hsp : (splitOf a).1 = linesOf a := by
            unfold splitOf at hs ⊢
            split
            · rename_i hq; rw [if_pos hq] at hs; cases hs
            · rfl
          rw [hsp] at h2
          have hle := fitN_le p.Hunks (linesOf a)
          have hfit := fitN_all p.Hunks (linesOf a) (by dsimp only at h2; omega)
          have hgood : goodGo 0 0 p.Hunks = true := by
            unfold check12 at hc
            split at hc
            · cases hc
            · split at hc
              · cases hc
              · rename_i hq
                have hq : goodOf p.Hunks = true := by simpa using hq
                unfold goodOf at hq
                rw [Bool.and_eq_true] at hq
                exact hq.1
          have hch := chain_go (linesOf a) p.Hunks 0 0 [] hgood hfit (by omega) (by omega) rfl
          have hout : outGo (linesOf a) 0 p.Hunks = outTo p.Hunks (linesOf a) p.Hunks.length ++ (linesOf a).drop (atTo p.Hunks p.Hunks.length).toNat := by
            rw [out_go (linesOf a) p.Hunks p.Hunks.length (Nat.le_refl _), List.drop_length]; rfl
          unfold applyOf at h
          rw [← hout] at h
          dsimp only at h
          split at h
          · cases h
          · rename_i hok
            have hok : listOk (outGo (linesOf a) 0 p.Hunks) = true := by simpa using hok
            unfold joinOf at h
            rw [if_neg (by rw [hok]; decide)] at h
            split at h
            · cases h
            · have hy : (outGo (linesOf a) 0 p.Hunks).flatten = y := congrArg Prod.fst h
              refine ⟨hc, ?_⟩
              rw [← hy, linesOf_flat _ hok]
              simpa using hch
        · rw [if_pos hs] at h1
          exact absurd h1 hs
      · rw [if_pos hc] at h1
        exact absurd h1 hc
theorem apply_revF {p : Patch} {a y : Str} (h : apply14 p a = (y, 0)) (ha : Few a) (hy : Few y) : reverse14 p = (revP p, 0) ∧ apply14 (revP p) y = (a, 0) := by
  obtain ⟨hc, hch⟩ := apply_chain h
  refine ⟨?_, ?_⟩
  · unfold reverse14; rw [if_neg (by simp [hc])]
  · exact apply14_chainF (by rw [check12_rev]; exact hc) hy ha (chain_rev hch)
theorem joinOf_few {l : List Str} : Few (joinOf l).1 := by
  unfold joinOf
  by_cases h : listOk l = false
  · rw [if_pos h]; exact few_of (by simp)
  · rw [if_neg h]
    by_cases h2 : l.flatten.length > 1048576 ∨ l.length > 4096
    · rw [if_pos h2]; exact few_of (by simp)
    · rw [if_neg h2]
      refine ⟨by dsimp only; omega, ?_⟩
      dsimp only
      rw [linesOf_flat l (by simpa using h)]; omega
theorem apply14_few (p : Patch) (a : Str) : Few (apply14 p a).1 := by
  unfold apply14
  split
  · exact few_of (by simp)
  · split
    · exact few_of (by simp)
    · unfold applyOf
      dsimp only
      split
      · exact few_of (by simp)
      · exact joinOf_few
end Go.AL
