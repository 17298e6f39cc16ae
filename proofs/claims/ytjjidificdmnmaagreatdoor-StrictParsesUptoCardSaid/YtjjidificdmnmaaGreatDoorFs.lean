/- Plain facts about data; no project text. -/
import Derived.Test.YtjjidificdmnmaaGreatDoorD
import Derived.Lib.Strings
import Derived.Lib.Bytealg
import Derived.Lib.Join
import Derived.Lib.ItoaNum
import Derived.Test.YtjjidificdmnmaaGreatDoorAn
namespace Go.AL
open Go
theorem u8_lf (c : UInt8) : ((c.toNat : Int) = 10) ↔ c = 10 := by
 constructor
 ·intro h
  have : c.toNat = 10 := by omega
  exact UInt8.toNat_inj.1 (by simpa using this)
 ·rintro rfl; rfl
def G2 (cur : Str) : Str → List Str
 | [] => if cur = [] then [] else [cur]
 | c :: r => if c = 10 then (cur ++ [c]) :: G2 [] r else G2 (cur ++ [c]) r
def D9 (b : Str) : List Str := G2 [] b
theorem linesAux_length (cur : Str) (s : Str) : (G2 cur s).length ≤ s.length + 1 := by
 induction s generalizing cur with
 | nil => unfold G2; split <;> simp
 | cons c r ih => unfold G2; split <;> simp <;> (have := ih []; have := ih (cur ++ [c]); omega)
theorem linesAux_nil_length (s : Str) : (G2 [] s).length ≤ s.length := by
 have key : ∀ (s cur : Str), cur ≠ [] → (G2 cur s).length ≤ s.length + 1 := fun s cur _ => linesAux_length cur s
 induction s with
 | nil => simp [G2]
 | cons c r ih => unfold G2; split <;> simp <;> (have := linesAux_length ([] ++ [c]) r; simp at this; omega)
theorem W4 (b : Str) : (D9 b).length ≤ b.length := linesAux_nil_length b
theorem R3 (cur r : Str) (c : UInt8) : G2 cur (c :: r) = if c = 10 then (cur ++ [c]) :: G2 [] r else G2 (cur ++ [c]) r := rfl
theorem linesAux_end (cur : Str) (h : cur ≠ []) : G2 cur [] = [cur] := by simp [G2, h]
theorem or_pick {p q : Prop} [Decidable p] [Decidable q] : (if decide p = true then true else decide q) = decide (p ∨ q) := by by_cases p <;> simp [*]
theorem H2 {p q : Prop} [Decidable p] [Decidable q] : (if decide p = true then decide q else false) = decide (p ∧ q) := by by_cases p <;> simp [*]
theorem V5 {α : Type} (l : List (List α)) (i : Nat) (h : i < l.length) : (l.take (i + 1)).flatten = (l.take i).flatten ++ l[i] := by
 rw [List.take_add_one, List.getElem?_eq_getElem h, Option.toList_some, List.flatten_append]; simp
theorem U4 {α : Type} (l : List (List α)) (i : Nat) : (l.take i).flatten.length ≤ l.flatten.length := by
 conv => rhs; rw [← List.take_append_drop i l, List.flatten_append, List.length_append]
 omega
theorem toNat_succ (i : Nat) : ((i : Int) + 1).toNat = i + 1 := by omega
theorem part_snoc {α : Type} (b : List α) (f i : Nat) (hf : f ≤ i) (hi : i < b.length) : (b.drop f).take (i - f) ++ [b[i]] = (b.drop f).take (i + 1 - f) := by
 rw [show i + 1 - f = (i - f) + 1 by omega, List.take_add_one, List.getElem?_drop, show f + (i - f) = i by omega, List.getElem?_eq_getElem hi]
 rfl
def ended (s : Str) : Bool := s.getLast? == some 10
theorem ended_eq (s : Str) : ended s = (if decide (s ≠ []) = true then decide (((s.getLastD 0).toNat : Int) = 10) else false) := by
 unfold ended
 by_cases h : s = []
 ·simp [h]
 ·rw [List.getLast?_eq_some_getLast h, List.getLastD_eq_getLast?, List.getLast?_eq_some_getLast h]
  simp only [ne_eq, h, not_false_eq_true, decide_true, if_true, Option.getD_some, u8_lf]
  rfl
def N5 : List Str → Str → Int → Int
 | [], _, _ => -1
 | x :: r, s, i => if x = s then i else N5 r s (i + 1)
theorem placeOf_drop (l : List Str) (s : Str) (k : Nat) (h : k < l.length) : N5 (l.drop k) s k = if l[k] = s then (k : Int) else N5 (l.drop (k + 1)) s ((k : Int) + 1) := by
 rw [List.drop_eq_getElem_cons h]
 simp [N5]
theorem placeOf_neg (l : List Str) (s : Str) : ∀ (k : Int), 0 ≤ k → ((N5 l s k < 0) ↔ s ∉ l) := by
 induction l with
 | nil => intro k _; simp [N5]
 | cons x r ih =>
  intro k hk
  unfold N5
  by_cases h : x = s
  ·simp [h]; omega
  ·have := ih (k + 1) (by omega)
   simp [h, this, Ne.symm h]
def L5 (s : Str) : Bool := s.dropLast.all (· ≠ 10) && s != []
def listOk : List Str → Bool
 | [] => true
 | s :: r => L5 s && (r.isEmpty || ended s) && listOk r
def checkOf (b : Str) : Int := if b.length > 1048576 ∨ (D9 b).length > 4096 then 1 else 0
def joinOf (l : List Str) : Str × Int := if listOk l = false then ([], 2) else if l.flatten.length > 1048576 ∨ l.length > 4096 then ([], 1) else (l.flatten, 0)
def L1 (out : List Str) (s : Str) : List Str := if s ∈ out then out else out ++ [s]
def E4 (files : List (List Str)) : List Str := files.flatten.foldl L1 []
def G9 (names : List Str) (file : List Str) : List Int := file.map (fun s => N5 names s 0)
theorem namesStep_length (out : List Str) (s : Str) : (L1 out s).length ≤ out.length + 1 := by unfold L1; split <;> simp
theorem x4 (l out : List Str) : (l.foldl L1 out).length ≤ out.length + l.length := by
 induction l generalizing out with
 | nil => simp
 | cons s r ih => have h1 := ih (L1 out s); have h2 := namesStep_length out s; simp only [List.foldl_cons, List.length_cons]; omega
theorem namesOf_length (fs : List (List Str)) : (E4 fs).length ≤ fs.flatten.length := by have := x4 fs.flatten []; simpa [E4] using this
end Go.AL
namespace Go.AL
open Go
def T9 (i j : Int) : List Span → Int → Int → List Change
 | [], m, n => if m > i ∨ n > j then [⟨i, m - i, j, n - j⟩] else []
 | x :: r, m, n => (if x.From > i ∨ x.To > j then [⟨i, x.From - i, j, x.To - j⟩] else []) ++ T9 (x.From + 1) (x.To + 1) r m n
def madeOf (p : List Span) (m n : Int) : List Change := T9 0 0 p m n
theorem madeGo_length (p : List Span) (i j m n : Int) : (T9 i j p m n).length ≤ p.length + 1 := by
 induction p generalizing i j with
 | nil => unfold T9; split <;> simp
 | cons x r ih => unfold T9; have := ih (x.From + 1) (x.To + 1); split <;> simp <;> omega
def U0 (i j : Int) (n : Nat) : List Span := (List.range n).map fun (t : Nat) => ⟨i + (t : Int), j + (t : Int)⟩
theorem i6 (i j : Int) (n : Nat) : (U0 i j n).length = n := by simp [U0]
def S5 (i j : Int) : List Change → Int → List Span
 | [], m => U0 i j (m - i).toNat
 | c :: r, m => U0 i j (c.Old - i).toNat ++ S5 (max i c.Old + c.OldLen) (j + (c.Old - i).toNat + c.NewLen) r m
def U8 (l : List Change) (m : Int) : List Span := S5 0 0 l m
def dist : List Int → List Int → Nat
 | [], b => b.length
 | x :: a, [] => (x :: a).length
 | x :: a, y :: b => if x = y then dist a b else 1 + min (dist a (y :: b)) (dist (x :: a) b)
theorem dist_nil (a : List Int) : dist a [] = a.length := by cases a <;> simp [dist]
theorem dist_le (a b : List Int) : dist a b ≤ a.length + b.length := by
 induction a generalizing b with
 | nil => simp [dist]
 | cons x a iha =>
  induction b with
  | nil => simp [dist]
  | cons y b ihb =>
   unfold dist
   split
   ·have := iha b; simp; omega
   ·have := iha (y :: b); have := ihb; simp only [List.length_cons] at *; omega
def J9 (i j : Int) : List Int → List Int → List Span
 | [], _ => []
 | _ :: _, [] => []
 | x :: a, y :: b => if x = y then ⟨i, j⟩ :: J9 (i + 1) (j + 1) a b else if dist a (y :: b) + 1 = dist (x :: a) (y :: b) then J9 (i + 1) j a (y :: b) else J9 i (j + 1) (x :: a) b
def walkOf (a b : List Int) : List Change := madeOf (J9 0 0 a b) a.length b.length
theorem dist_drop (a b : List Int) (i j : Nat) (hi : i < a.length) (hj : j < b.length) :
  dist (a.drop i) (b.drop j) = if a[i] = b[j] then dist (a.drop (i + 1)) (b.drop (j + 1)) else 1 + min (dist (a.drop (i + 1)) (b.drop j)) (dist (a.drop i) (b.drop (j + 1))) := by
 rw [List.drop_eq_getElem_cons hi, List.drop_eq_getElem_cons hj]
 conv => lhs; rw [dist]
theorem walkGo_drop (a b : List Int) (i j : Nat) (hi : i < a.length) (hj : j < b.length) (p q : Int) :
  J9 p q (a.drop i) (b.drop j) = if a[i] = b[j] then ⟨p, q⟩ :: J9 (p + 1) (q + 1) (a.drop (i + 1)) (b.drop (j + 1)) else
   if dist (a.drop (i + 1)) (b.drop j) + 1 = dist (a.drop i) (b.drop j) then J9 (p + 1) q (a.drop (i + 1)) (b.drop j) else J9 p (q + 1) (a.drop i) (b.drop (j + 1)) := by
 rw [List.drop_eq_getElem_cons hi, List.drop_eq_getElem_cons hj]
 conv => lhs; rw [J9]
theorem walkGo_nil_left (p q : Int) (b : List Int) : J9 p q [] b = [] := by simp [J9]
theorem walkGo_nil_right (p q : Int) (a : List Int) : J9 p q a [] = [] := by cases a <;> simp [J9]
theorem walkGo_length (p q : Int) (a b : List Int) : (J9 p q a b).length ≤ a.length := by
 induction a generalizing p q b with
 | nil => simp [J9]
 | cons x a iha =>
  induction b generalizing p q with
  | nil => simp [J9]
  | cons y b ihb =>
   unfold J9
   split
   ·have := iha (p + 1) (q + 1) b; simp; omega
   ·split
    ·have := iha (p + 1) q (y :: b); simp; omega
    ·exact ihb p (q + 1)
universe u
theorem range_set {α : Type u} (n k : Nat) (f g : Nat → α) (v : α) (hv : k < n → g k = v) (h : ∀ q, q < n → q ≠ k → g q = f q) : ((List.range n).map f).set k v = (List.range n).map g := by
 refine List.ext_getElem (by simp) fun q h1 h2 => ?_
 have hq : q < n := by simpa using h2
 rw [List.getElem_set]
 by_cases he : k = q
 ·subst he; simp [hv hq]
 ·rw [if_neg he]; simp [h q hq (Ne.symm he)]
theorem range_get {α : Type u} (n k : Nat) (f : Nat → α) (h : k < n) : ((List.range n).map f)[k]? = some (f k) := by simp [h]
def O2 (a b : List Int) (i q : Nat) : List Int := (List.range (b.length + 1)).map fun j => if q ≤ j then (dist (a.drop i) (b.drop j) : Int) else 0
def M5 (a b : List Int) (i : Nat) : List (List Int) := (List.range (a.length + 1)).map fun r => if i ≤ r then O2 a b r 0 else []
def distTable (a b : List Int) : List (List Int) := M5 a b 0
theorem distRow_length (a b : List Int) (i q : Nat) : (O2 a b i q).length = b.length + 1 := by simp [O2]
theorem r8 (a b : List Int) (i : Nat) : (M5 a b i).length = a.length + 1 := by simp [M5]
theorem distRow_full (a b : List Int) (i : Nat) : List.replicate (b.length + 1) 0 = O2 a b i (b.length + 1) := by
 refine List.ext_getElem (by simp [O2]) fun q h1 h2 => ?_
 have : ¬ (b.length + 1 ≤ q) := by simp at h1; omega
 simp [O2, this]
theorem distRows_full (a b : List Int) : List.replicate (a.length + 1) [] = M5 a b (a.length + 1) := by
 refine List.ext_getElem (by simp [M5]) fun q h1 h2 => ?_
 have : ¬ (a.length + 1 ≤ q) := by simp at h1; omega
 simp [M5, this]
theorem distRow_set (a b : List Int) (i j : Nat) : (O2 a b i (j + 1)).set j (dist (a.drop i) (b.drop j) : Int) = O2 a b i j := by
 unfold O2
 refine range_set _ _ _ _ _ (fun _ => by simp) fun q hq hne => ?_
 by_cases h : j ≤ q
 ·rw [if_pos h, if_pos (by omega)]
 ·rw [if_neg h, if_neg (by omega)]
theorem o7 (a b : List Int) (i q j : Nat) (h : q ≤ j) (hj : j ≤ b.length) : (O2 a b i q)[j]? = some (dist (a.drop i) (b.drop j) : Int) := by
 unfold O2
 rw [range_get _ _ _ (by omega), if_pos h]
theorem distRows_set (a b : List Int) (i : Nat) : (M5 a b (i + 1)).set i (O2 a b i 0) = M5 a b i := by
 unfold M5
 refine range_set _ _ _ _ _ (fun _ => by simp) fun q hq hne => ?_
 by_cases h : i ≤ q
 ·rw [if_pos h, if_pos (by omega)]
 ·rw [if_neg h, if_neg (by omega)]
theorem distRows_get (a b : List Int) (i r : Nat) (h : i ≤ r) (hr : r ≤ a.length) : (M5 a b i)[r]? = some (O2 a b r 0) := by
 unfold M5
 rw [range_get _ _ _ (by omega), if_pos h]
theorem matchedGo_length (l : List Change) (i j m : Int) (hi : 0 ≤ i) (B : Nat) (hm : m ≤ B) (hl : ∀ c ∈ l, c.Old ≤ B ∧ 0 ≤ c.OldLen) : ((S5 i j l m).length : Int) ≤ max 0 (B - i) := by
 induction l generalizing i j with
 | nil => simp only [S5, i6]; omega
 | cons c r ih =>
  have hc := hl c (List.mem_cons_self ..)
  have := ih (max i c.Old + c.OldLen) (j + (c.Old - i).toNat + c.NewLen) (by omega) (fun d hd => hl d (List.mem_cons_of_mem _ hd))
  simp only [S5, List.length_append, i6]
  omega
theorem spanRun_zero (i j : Int) : U0 i j 0 = [] := rfl
theorem spanRun_snoc (i j : Int) (n : Nat) : U0 i j (n + 1) = U0 i j n ++ [⟨i + n, j + n⟩] := by simp [U0, List.range_succ]
def Asc (m n : Int) : Int → Int → List Span → Prop
 | i, j, [] => i ≤ m ∧ j ≤ n
 | i, j, x :: r => i ≤ x.From ∧ j ≤ x.To ∧ Asc m n (x.From + 1) (x.To + 1) r
theorem Asc.le {m n : Int} : ∀ {p : List Span} {i j : Int}, Asc m n i j p → i ≤ m ∧ j ≤ n
 | [], i, j, h => h
 | x :: r, i, j, h => by have := Asc.le h.2.2; have := h.1; have := h.2.1; omega
theorem Asc.weaken {m n : Int} {p : List Span} {i j i' j' : Int} (h : Asc m n i j p) (hi : i' ≤ i) (hj : j' ≤ j) : Asc m n i' j' p := by
 cases p with
 | nil => exact ⟨by have := h.1; omega, by have := h.2; omega⟩
 | cons x r => exact ⟨by have := h.1; omega, by have := h.2.1; omega, h.2.2⟩
theorem walkGo_asc (a b : List Int) : ∀ (p q : Int), Asc (p + a.length) (q + b.length) p q (J9 p q a b) := by
 induction a generalizing b with
 | nil => intro p q; rw [walkGo_nil_left]; simp only [Asc, List.length_nil]; omega
 | cons x a iha =>
  induction b with
  | nil => intro p q; rw [walkGo_nil_right]; simp only [Asc, List.length_nil]; omega
  | cons y b ihb =>
   intro p q
   rw [J9]
   split
   ·have := iha b (p + 1) (q + 1)
    refine ⟨Int.le_refl _, Int.le_refl _, ?_⟩
    simp only [List.length_cons]
    rwa [show p + ((a.length + 1 : Nat) : Int) = p + 1 + a.length by omega, show q + ((b.length + 1 : Nat) : Int) = q + 1 + b.length by omega]
   ·split
    ·have := (iha (y :: b) (p + 1) q).weaken (i' := p) (j' := q) (by omega) (Int.le_refl _)
     rwa [show p + ((x :: a).length : Int) = p + 1 + a.length by simp; omega]
    ·have := (ihb p (q + 1)).weaken (i' := p) (j' := q) (Int.le_refl _) (by omega)
     rwa [show q + ((y :: b).length : Int) = q + 1 + b.length by simp; omega]
theorem Asc.made {m n : Int} : ∀ {p : List Span} {i j : Int}, Asc m n i j p → ∀ c ∈ T9 i j p m n, i ≤ c.Old ∧ j ≤ c.New ∧ 0 ≤ c.OldLen ∧ 0 ≤ c.NewLen ∧ c.Old + c.OldLen ≤ m ∧ c.New + c.NewLen ≤ n
 | [], i, j, h, c, hc => by
  unfold T9 at hc
  split at hc
  ·simp only [List.mem_singleton] at hc; subst hc
   have := h.1; have := h.2
   simp only; omega
  ·cases hc
 | x :: r, i, j, h, c, hc => by
  unfold T9 at hc
  obtain ⟨h1, h2, h3⟩ := h
  have h4 := h3.le
  rcases List.mem_append.1 hc with hc | hc
  ·split at hc
   ·simp only [List.mem_singleton] at hc; subst hc
    simp only; omega
   ·cases hc
  ·have := Asc.made h3 c hc; omega
end Go.AL
namespace Go.AL
open Go
theorem shr_eq (m c : Int) (b : Nat) (hc : 0 ≤ c ∧ c ≤ b) : m.fdiv (2 ^ (min c.toNat b)) = m / 2 ^ c.toNat := by
 rw [show min c.toNat b = c.toNat by omega, Int.fdiv_eq_ediv_of_nonneg _ (Int.pow_nonneg (by decide))]
end Go.AL
namespace Go.AL
open Go
abbrev Loom := List Int × (Nat → List (List Int))
structure LoomOk (Q : Int → Prop) (B lines n : Nat) (s : Loom) : Prop where
 len : s.1.length = lines
 marks : ∀ m ∈ s.1, 0 ≤ m ∧ m < 4294967296
 gaps : ∀ k, (s.2 k).length = n ∧ ∀ x ∈ s.2 k, x.length ≤ B ∧ ∀ v ∈ x, Q v
theorem placeOf_le (l : List Str) (s : Str) : ∀ k : Int, 0 ≤ k → s ∈ l → k ≤ N5 l s k ∧ N5 l s k < k + l.length := by
 induction l with
 | nil => intro k _ h; cases h
 | cons x r ih =>
  intro k hk h
  unfold N5
  by_cases hx : x = s
  ·rw [if_pos hx]; simp; omega
  ·rw [if_neg hx]
   have := ih (k + 1) (by omega) (by rcases List.mem_cons.1 h with rfl | h; exact absurd rfl hx; exact h)
   simp only [List.length_cons]; omega
theorem names_mem_foldl (l : List Str) : ∀ (out : List Str) (s : Str), s ∈ out ∨ s ∈ l → s ∈ l.foldl L1 out := by
 induction l with
 | nil => intro out s h; rcases h with h | h; exact h; cases h
 | cons x r ih =>
  intro out s h
  apply ih
  rcases h with h | h
  ·left; unfold L1; split; exact h; exact List.mem_append_left _ h
  ·rcases List.mem_cons.1 h with rfl | h
   ·left; unfold L1; split; assumption; simp
   ·exact .inr h
theorem a6 (fs : List (List Str)) (s : Str) (f : List Str) (hf : f ∈ fs) (hs : s ∈ f) : s ∈ E4 fs := names_mem_foldl _ _ _ (.inr (List.mem_flatten.2 ⟨f, hf, hs⟩))
end Go.AL
namespace Go.AL
open Go
theorem hasSuffix_lf (s : Str) : Lib.hasSuffix s [10] = ended s := by
 unfold Lib.hasSuffix ended
 rw [Bool.eq_iff_iff, List.isSuffixOf_iff_suffix, beq_iff_eq]
 constructor
 ·rintro ⟨t, rfl⟩; simp
 ·intro h
  obtain ⟨hne, h2⟩ := List.getLast?_eq_some_iff.1 h
  exact ⟨hne, h2.symm⟩
def bareOf (s : Str) : Str := if ended s then s.dropLast else s
theorem trimSuffix_lf (s : Str) : Lib.trimSuffix s [10] = bareOf s := by
 unfold Lib.trimSuffix bareOf
 rw [hasSuffix_lf, List.dropLast_eq_take]; rfl
theorem r9 (c : UInt8) : ∀ l : Str, (c ∉ l ∧ Lib.indexByte l c = -1) ∨ ∃ a b, l = a ++ c :: b ∧ c ∉ a ∧ Lib.indexByte l c = a.length
 | [] => .inl ⟨by simp, rfl⟩
 | x :: l => by
  unfold Lib.indexByte
  by_cases hx : x = c
  ·exact .inr ⟨[], l, by rw [hx]; rfl, by simp, by simp [hx]⟩
  ·rcases r9 c l with ⟨h1, h2⟩ | ⟨a, b, h1, h2, h3⟩
   ·exact .inl ⟨by simp [h1, Ne.symm hx], by simp [hx, h2]⟩
   ·refine .inr ⟨x :: a, b, by rw [h1]; rfl, by simp [h2, Ne.symm hx], ?_⟩
    have h4 : ¬ ((a.length : Int) = -1) := by omega
    simp [hx, h3, h4]
theorem indexByte_mem (c : UInt8) (l : Str) : 0 ≤ Lib.indexByte l c ↔ c ∈ l := by
 rcases r9 c l with ⟨h1, h2⟩ | ⟨a, b, h1, h2, h3⟩
 ·rw [h2]; simp [h1]
 ·rw [h3, h1]; simp
theorem lineOk_iff (s : Str) : L5 s = true ↔ s ≠ [] ∧ 10 ∉ s.dropLast := by
 unfold L5
 rw [Bool.and_eq_true, List.all_eq_true]
 constructor
 ·rintro ⟨h1, h2⟩
  exact ⟨by simpa using h2, fun h => by have := h1 10 h; simp at this⟩
 ·rintro ⟨h1, h2⟩
  exact ⟨fun x hx => by simpa using fun e : x = 10 => h2 (e ▸ hx), by simpa using h1⟩
theorem mem_bare (s : Str) : 10 ∈ bareOf s ↔ 10 ∈ s.dropLast := by
 unfold bareOf
 split
 ·exact Iff.rfl
 ·rename_i h
  by_cases hs : s = []
  ·subst hs; simp
  ·constructor
   ·intro h2
    have e := (List.dropLast_concat_getLast hs).symm
    rw [e] at h2
    rcases List.mem_append.1 h2 with h3 | h3
    ·exact h3
    ·exfalso
     refine h ?_
     unfold ended
     rw [List.getLast?_eq_some_getLast hs]
     simp at h3; simp [← h3]
   ·exact fun h2 => List.dropLast_subset s h2
theorem single_eq (s : Str) : (if decide (s ≠ []) = true then !decide (0 ≤ Lib.indexByte (bareOf s) 10) else false) = L5 s := by
 rw [Bool.eq_iff_iff, lineOk_iff]
 have h := mem_bare s
 have h2 := indexByte_mem 10 (bareOf s)
 by_cases hs : s = []
 ·simp [hs]
 ·simp [hs, h2, h]
structure EndsAt (res : Bool) (par : Int) (bad : Int → Bool) : Prop where
 res : res = bad (-1)
 par : ∃ p : Nat, p < 4294967296 ∧ par = p ∧ ∀ c : Nat, c < 32 → p.testBit c = bad c
end Go.AL
namespace Go.AL
open Go
def M6 (c : UInt8) : Bool := decide (33 ≤ c.toNat ∧ c.toNat ≤ 126 ∧ c.toNat ≠ 34 ∧ c.toNat ≠ 92)
def digs8 : Str := [48, 49, 50, 51, 52, 53, 54, 55]
def digs10 : Str := [48, 49, 50, 51, 52, 53, 54, 55, 56, 57]
def octOf (c : UInt8) : Str := (digs8.drop (c.toNat / 64)).take 1 ++ (digs8.drop (c.toNat / 8 % 8)).take 1 ++ (digs8.drop (c.toNat % 8)).take 1
def N1 (c : UInt8) : Str := if c.toNat = 34 ∨ c.toNat = 92 then [92, c] else if c.toNat = 10 then [92, 110] else if c.toNat = 9 then [92, 116] else if c.toNat < 32 ∨ 126 < c.toNat then 92 :: octOf c else [c]
def I4 (s : Str) : Str := if s ≠ [] ∧ s.all M6 = true then s else 34 :: ((s.map N1).flatten ++ [34])
theorem octOf_len (c : UInt8) : (octOf c).length ≤ 3 := by unfold octOf; simp only [List.length_append, List.length_take]; omega
theorem escOf_len (c : UInt8) : (N1 c).length ≤ 4 := by
 have := octOf_len c
 unfold N1; split
 ·simp
 ·split
  ·simp
  ·split
   ·simp
   ·split
    ·simp only [List.length_cons]; omega
    ·simp
theorem esc_flat_len (s : Str) : ((s.map N1).flatten).length ≤ 4 * s.length := by
 induction s with
 | nil => simp
 | cons c r ih => have := escOf_len c; simp only [List.map_cons, List.flatten_cons, List.length_append, List.length_cons]; omega
theorem a7 (s : Str) : (I4 s).length ≤ 4 * s.length + 2 := by
 unfold I4; have := esc_flat_len s
 split
 ·omega
 ·simp only [List.length_cons, List.length_append, List.length_nil]; omega
def K2 (n : Int) : Str := if n < 0 ∨ 2147483647 < n then [] else Lib.itoa n
def G5 (a n : Int) : Str := if a < 0 ∨ n < 0 ∨ 2147483647 < a ∨ 2147483647 - a < n then [] else if n = 0 then K2 a ++ [44, 48] else if n = 1 then K2 (a + 1) else K2 (a + 1) ++ [44] ++ K2 n
theorem decDigits_len : ∀ (k u : Nat), u < 10 ^ (k + 1) → (Lib.decDigits u).length ≤ k + 1
 | 0, u, h => by rw [Lib.decDigits, dif_pos (by omega)]; simp
 | k + 1, u, h => by
  rw [Lib.decDigits]
  split
  ·simp
  ·have := decDigits_len k (u / 10) (by rw [Nat.div_lt_iff_lt_mul (by omega)]; rw [Nat.pow_succ] at h; omega)
   simp only [List.length_append, List.length_cons, List.length_nil]; omega
theorem U9 (n : Int) : (K2 n).length ≤ 10 := by
 unfold K2; split
 ·simp
 ·unfold Lib.itoa
  rw [if_neg (by omega)]
  exact decDigits_len 9 n.toNat (by omega)
theorem a8 (a n : Int) : (G5 a n).length ≤ 21 := by
 have := U9 a; have := U9 (a + 1); have := U9 n
 unfold G5
 split
 ·simp
 ·split
  ·simp only [List.length_append, List.length_cons, List.length_nil]; omega
  ·split
   ·omega
   ·simp only [List.length_append, List.length_cons, List.length_nil]; omega
theorem dig10 (k : Nat) (h : k < 10) : (digs10.drop k).take 1 = [UInt8.ofNat (48 + k)] := by
 have : ∀ k : Fin 10, (digs10.drop k.1).take 1 = [UInt8.ofNat (48 + k.1)] := by decide
 exact this ⟨k, h⟩
theorem fmt_small (n : Int) (h0 : 0 ≤ n) (h : n < 10) : K2 n = (digs10.drop n.toNat).take 1 := by
 unfold K2 Lib.itoa
 rw [if_neg (by omega), if_neg (by omega), dig10 _ (by omega), Lib.decDigits, dif_pos (by omega)]
theorem fmt_big (n : Int) (h0 : 10 ≤ n) (h : n ≤ 2147483647) : K2 n = K2 (n / 10) ++ (digs10.drop (n % 10).toNat).take 1 := by
 unfold K2 Lib.itoa
 rw [if_neg (by omega), if_neg (by omega), if_neg (by omega), if_neg (by omega), dig10 _ (by omega), Lib.decDigits, dif_neg (by omega)]
 have e1 : n.toNat / 10 = (n / 10).toNat := by omega
 have e2 : n.toNat % 10 = (n % 10).toNat := by omega
 rw [e1, e2]
theorem dig8 (k : Nat) (h : k < 8) : (digs8.drop k).take 1 = [UInt8.ofNat (48 + k)] := by
 have : ∀ k : Fin 8, (digs8.drop k.1).take 1 = [UInt8.ofNat (48 + k.1)] := by decide
 exact this ⟨k, h⟩
theorem y8 (c : UInt8) : octOf c = [UInt8.ofNat (48 + c.toNat / 64), UInt8.ofNat (48 + c.toNat / 8 % 8), UInt8.ofNat (48 + c.toNat % 8)] := by
 have := c.toNat_lt
 unfold octOf
 rw [dig8 _ (by omega), dig8 _ (by omega), dig8 _ (by omega)]; rfl
def escs (s : Str) (i : Nat) : Str := ((s.take i).map N1).flatten
theorem escs_zero (s : Str) : escs s 0 = [] := rfl
theorem escs_succ (s : Str) (i : Nat) (h : i < s.length) : escs s (i + 1) = escs s i ++ N1 s[i] := by
 unfold escs; rw [List.take_succ_eq_append_getElem h, List.map_append, List.flatten_append]; simp only [List.map_cons, List.map_nil, List.flatten_cons, List.flatten_nil, List.append_nil]
theorem escs_len (s : Str) (i : Nat) (h : i ≤ s.length) : (escs s i).length ≤ 4 * i := by
 have := esc_flat_len (s.take i); unfold escs; rw [List.length_take] at this; omega
def plains (s : Str) (i : Nat) : Bool := decide (s ≠ []) && (s.take i).all M6
theorem plains_zero (s : Str) : plains s 0 = decide (s ≠ []) := by simp [plains]
theorem plains_succ (s : Str) (i : Nat) (h : i < s.length) : plains s (i + 1) = (plains s i && M6 s[i]) := by
 unfold plains; rw [List.take_succ_eq_append_getElem h, List.all_append]; simp only [List.all_cons, List.all_nil, Bool.and_true, Bool.and_assoc]
theorem quoteOf_eq (s : Str) : I4 s = if plains s s.length = true then s else (34 :: escs s s.length) ++ [34] := by
 unfold I4 plains escs
 rw [List.take_length]
 simp only [Bool.and_eq_true, decide_eq_true_eq, List.cons_append]
end Go.AL
namespace Go.AL
open Go
theorem linesAux_count (s cur : Str) : (G2 cur s).length = s.count 10 + if s = [] then (if cur = [] then 0 else 1) else if ended s = true then 0 else 1 := by
 induction s generalizing cur with
 | nil => by_cases h : cur = [] <;> simp [G2, h]
 | cons c r ih =>
  have he : ended (c :: r) = if r = [] then c == 10 else ended r := by
   cases r with
   | nil => simp [ended]
   | cons d t => simp [ended, List.getLast?_cons_cons]
  rw [G2, if_neg (List.cons_ne_nil _ _), he]
  by_cases hc : c = 10
  ·subst hc
   rw [if_pos rfl, List.length_cons, ih, List.count_cons_self]
   by_cases hr : r = [] <;> simp [hr]
   omega
  ·rw [if_neg hc, ih, List.count_cons_of_ne hc]
   by_cases hr : r = [] <;> simp [hr, hc]
theorem linesOf_count (s : Str) : (D9 s).length = s.count 10 + if s ≠ [] ∧ ended s = false then 1 else 0 := by
 unfold D9
 rw [linesAux_count]
 by_cases hs : s = [] <;> simp [hs]
 cases ended s <;> simp
theorem fill_step {α : Type} (P : List α) (z x : α) (i : Nat) (h : P[i]? = some x) : (P.take i ++ List.replicate (P.length - i) z).set i x = P.take (i + 1) ++ List.replicate (P.length - (i + 1)) z := by
 obtain ⟨hi, hx⟩ := List.getElem?_eq_some_iff.1 h
 have hl : (P.take i).length = i := by rw [List.length_take]; omega
 rw [List.set_append_right _ _ (by omega), hl, Nat.sub_self, show P.length - i = (P.length - (i + 1)) + 1 by omega, List.replicate_succ, List.set_cons_zero, List.take_succ_eq_append_getElem hi, hx, List.append_assoc]
 rfl
def u4 (b : Str) : List Str × Int := if b.length > 1048576 ∨ (D9 b).length > 4096 then ([], 1) else (D9 b, 0)
end Go.AL
namespace Go.AL
open Go
def I8 (n : Int) : Prop := 0 ≤ n ∧ n ≤ 4096
instance (n : Int) : Decidable (I8 n) := by unfold I8; exact inferInstance
def badC (k : Nat) (i j : Int) (c : Change) : Prop := ((((((¬ I8 c.Old ∨ ¬ I8 c.OldLen) ∨ ¬ I8 c.New) ∨ ¬ I8 c.NewLen) ∨ c.OldLen + c.NewLen = 0) ∨ c.Old - i ≠ c.New - j) ∨ c.Old < i) ∨ (0 < (k : Int) ∧ c.Old = i)
instance (k : Nat) (i j : Int) (c : Change) : Decidable (badC k i j c) := by unfold badC; exact inferInstance
def J4 (k : Nat) (i j : Int) : List Change → Int → Int → Bool
 | [], m, n => decide (¬ (m - i ≠ n - j ∨ m < i))
 | c :: r, m, n => decide (¬ badC k i j c) && J4 (k + 1) (c.Old + c.OldLen) (c.New + c.NewLen) r m n
def Z1 (l : List Change) (m n : Int) : Int := if ¬ I8 m ∨ ¬ I8 n then 80 else if J4 0 0 0 l m n = true then 0 else 80
def ScOk (i j : Int) : List Change → Int → Int → Prop
 | [], m, n => i ≤ m ∧ j ≤ n
 | c :: r, m, n => I8 c.Old ∧ I8 c.OldLen ∧ I8 c.New ∧ I8 c.NewLen ∧ i ≤ c.Old ∧ j ≤ c.New ∧ ScOk (c.Old + c.OldLen) (c.New + c.NewLen) r m n
theorem y9 : ∀ (l : List Change) (k : Nat) (i j m n : Int), J4 k i j l m n = true → ScOk i j l m n
 | [], k, i, j, m, n, h => by simp only [J4, decide_eq_true_eq] at h; simp only [ScOk]; omega
 | c :: r, k, i, j, m, n, h => by
  simp only [J4, Bool.and_eq_true, decide_eq_true_eq] at h
  obtain ⟨h1, h2⟩ := h
  unfold badC at h1
  refine ⟨?_, ?_, ?_, ?_, ?_, ?_, y9 r _ _ _ m n h2⟩
  all_goals (by_cases a1 : I8 c.Old <;> by_cases a2 : I8 c.OldLen <;> by_cases a3 : I8 c.New <;> by_cases a4 : I8 c.NewLen <;> simp [a1, a2, a3, a4] at h1 ⊢ <;> omega)
theorem check8_ok {l : List Change} {m n : Int} (h : Z1 l m n = 0) : I8 m ∧ I8 n ∧ ScOk 0 0 l m n := by
 unfold Z1 at h
 split at h
 ·omega
 ·rename_i h1
  split at h
  ·rename_i h2
   by_cases a1 : I8 m <;> by_cases a2 : I8 n <;> simp [a1, a2] at h1
   exact ⟨a1, a2, y9 _ _ _ _ _ _ h2⟩
  ·omega
def cAt (l : List Change) (k : Nat) : Change := l.getD k ⟨0, 0, 0, 0⟩
theorem cAt_get {l : List Change} {k : Nat} (h : k < l.length) : l[k]? = some (cAt l k) := by
 unfold cAt; rw [List.getD_eq_getElem?_getD, List.getElem?_eq_getElem h]; rfl
theorem ScOk.end_le : ∀ {l : List Change} {i j m n : Int}, ScOk i j l m n → i ≤ m ∧ j ≤ n
 | [], _, _, _, _, h => h
 | c :: r, i, j, m, n, ⟨h1, h2, h3, h4, h5, h6, h7⟩ => by have := h7.end_le; unfold I8 at *; omega
theorem ScOk.get : ∀ {l : List Change} {i j m n : Int} (k : Nat), ScOk i j l m n → k < l.length → I8 (cAt l k).Old ∧ I8 (cAt l k).OldLen ∧ I8 (cAt l k).New ∧ I8 (cAt l k).NewLen ∧ (cAt l k).Old + (cAt l k).OldLen ≤ m ∧ (cAt l k).New + (cAt l k).NewLen ≤ n
 | c :: r, i, j, m, n, 0, ⟨h1, h2, h3, h4, h5, h6, h7⟩, _ => by have := h7.end_le; exact ⟨h1, h2, h3, h4, this.1, this.2⟩
 | c :: r, i, j, m, n, k + 1, ⟨h1, h2, h3, h4, h5, h6, h7⟩, hk => by
  have := h7.get k (by simpa using hk)
  simpa [cAt] using this
theorem ScOk.next : ∀ {l : List Change} {i j m n : Int} (k : Nat), ScOk i j l m n → k + 1 < l.length → (cAt l k).Old + (cAt l k).OldLen ≤ (cAt l (k + 1)).Old
 | [c], _, _, _, _, _, _, hk => by simp at hk
 | c :: c2 :: r, i, j, m, n, 0, ⟨_, _, _, _, _, _, h7⟩, _ => by simpa [cAt] using h7.2.2.2.2.1
 | c :: c2 :: r, i, j, m, n, k + 1, ⟨_, _, _, _, _, _, h7⟩, hk => by
  have := h7.next k (by simpa using hk)
  simpa [cAt] using this
theorem ScOk.mono {l : List Change} {m n : Int} (h : ScOk 0 0 l m n) : ∀ (a b : Nat), a ≤ b → b < l.length → (cAt l a).Old ≤ (cAt l b).Old ∧ (cAt l a).Old + (cAt l a).OldLen ≤ (cAt l b).Old + (cAt l b).OldLen
 | a, 0, h1, h2 => by rw [show a = 0 by omega]; omega
 | a, b + 1, h1, h2 => by
  by_cases hab : a = b + 1
  ·subst hab; omega
  ·have h3 := h.mono a b (by omega) (by omega)
   have h4 := h.next b h2
   have h5 := h.get b (by omega)
   have h6 := h.get (b + 1) h2
   unfold I8 at *; omega
def c7 (a b : Int) : Int := if b < a then b else a
def opens (l : List Change) (ctx : Int) (k : Nat) : Prop := k = 0 ∨ 2 * ctx < (cAt l k).Old - (cAt l (k - 1)).Old - (cAt l (k - 1)).OldLen
instance (l : List Change) (ctx : Int) (k : Nat) : Decidable (opens l ctx k) := by unfold opens; exact inferInstance
def hunk0 : Hunk := ⟨0, 0, ⟨0, 0⟩, ⟨0, 0⟩⟩
def Y2 (l : List Change) (ctx : Int) (k : Nat) : Hunk := ⟨k, 0, ⟨(cAt l k).Old - c7 ctx (cAt l k).Old, 0⟩, ⟨(cAt l k).New - c7 ctx (cAt l k).Old, 0⟩⟩
def hunkEnd (l : List Change) (m ctx : Int) (k : Nat) (h : Hunk) : Hunk :=
 let c := cAt l k
 let a := c7 ctx (m - (c.Old + c.OldLen))
 ⟨h.First, k + 1, ⟨h.Old.From, c.Old + c.OldLen + a⟩, ⟨h.New.From, c.New + c.NewLen + a⟩⟩
def P8 (l : List Change) (ctx : Int) (k : Nat) (out : List Hunk) : List Hunk := if opens l ctx k then out ++ [Y2 l ctx k] else out
def H8 (l : List Change) (m ctx : Int) : Nat → List Hunk
 | 0 => []
 | k + 1 => let out := P8 l ctx k (H8 l m ctx k); out.set (out.length - 1) (hunkEnd l m ctx k (out.getD (out.length - 1) hunk0))
def u5 (l : List Change) (m n ctx : Int) : List Hunk × Int := if ctx < 0 ∨ 1048576 < ctx then ([], 3) else if Z1 l m n ≠ 0 then ([], Z1 l m n) else (H8 l m ctx l.length, 0)
theorem o8 (l : List Change) (m ctx : Int) : ∀ k, (H8 l m ctx k).length ≤ k ∧ (0 < k → 0 < (H8 l m ctx k).length)
 | 0 => by simp [H8]
 | k + 1 => by
  have h := o8 l m ctx k
  simp only [H8, List.length_set, P8]
  split
  ·simp only [List.length_append, List.length_cons, List.length_nil]; omega
  ·rename_i ho
   have : k ≠ 0 := fun e => ho (.inl e)
   omega
def HunkOk (l : List Change) (m : Int) (k : Nat) (h : Hunk) : Prop :=
 ∃ a b : Nat, h.First = a ∧ h.Last = (b : Int) + 1 ∧ a ≤ b ∧ b < k ∧ 0 ≤ h.Old.From ∧ h.Old.From ≤ (cAt l a).Old ∧ (cAt l b).Old + (cAt l b).OldLen ≤ h.Old.To ∧ h.Old.To ≤ m ∧ -4096 ≤ h.New.From ∧ h.New.From ≤ 4096
theorem groupTo_ok {l : List Change} {m n ctx : Int} (hs : ScOk 0 0 l m n) (hc : 0 ≤ ctx) : ∀ k, k ≤ l.length → ∀ h ∈ H8 l m ctx k, HunkOk l m k h
 | 0, _, h, hm => by simp [H8] at hm
 | k + 1, hk, h, hm => by
  have ih := groupTo_ok hs hc k (by omega)
  have hg := hs.get k (by omega)
  have hlen := o8 l m ctx k
  simp only [H8] at hm
  obtain ⟨out, hout⟩ : ∃ out, out = P8 l ctx k (H8 l m ctx k) := ⟨_, rfl⟩
  rw [← hout] at hm
  have hmin : ∀ x, 0 ≤ x → 0 ≤ c7 ctx x ∧ c7 ctx x ≤ x := fun x hx => by unfold c7; split <;> omega
  have h1 := hmin (cAt l k).Old hg.1.1
  have h2 := hmin (m - ((cAt l k).Old + (cAt l k).OldLen)) (by omega)
  obtain ⟨⟨g1, g2⟩, ⟨g3, g4⟩, ⟨g5, g6⟩, ⟨g7, g8⟩, g9, g10⟩ := hg
  have hend : ∀ h0 : Hunk, (∃ a : Nat, h0.First = a ∧ a ≤ k ∧ 0 ≤ h0.Old.From ∧ h0.Old.From ≤ (cAt l a).Old ∧ -4096 ≤ h0.New.From ∧ h0.New.From ≤ 4096) → HunkOk l m (k + 1) (hunkEnd l m ctx k h0) := by
   rintro h0 ⟨a, e1, e2, e3, e4, e5, e6⟩
   refine ⟨a, k, e1, rfl, e2, by omega, e3, e4, ?_, ?_, e5, e6⟩
   ·show _ ≤ (cAt l k).Old + (cAt l k).OldLen + c7 ctx (m - ((cAt l k).Old + (cAt l k).OldLen)); omega
   ·show (cAt l k).Old + (cAt l k).OldLen + c7 ctx (m - ((cAt l k).Old + (cAt l k).OldLen)) ≤ m; omega
  obtain ⟨p, hp, rfl⟩ := List.getElem_of_mem hm
  rw [List.length_set] at hp
  rw [List.getElem_set]
  split
  ·rename_i hq
   refine hend _ ?_
   by_cases ho : opens l ctx k
   ·have e : out = H8 l m ctx k ++ [Y2 l ctx k] := by rw [hout, P8, if_pos ho]
    have e2 : out.getD (out.length - 1) hunk0 = Y2 l ctx k := by rw [e]; simp
    rw [e2]
    refine ⟨k, rfl, Nat.le_refl _, ?_, ?_, ?_, ?_⟩
    ·show 0 ≤ (cAt l k).Old - c7 ctx (cAt l k).Old; omega
    ·show (cAt l k).Old - c7 ctx (cAt l k).Old ≤ _; omega
    ·show -4096 ≤ (cAt l k).New - c7 ctx (cAt l k).Old; omega
    ·show (cAt l k).New - c7 ctx (cAt l k).Old ≤ _; omega
   ·have e : out = H8 l m ctx k := by rw [hout, P8, if_neg ho]
    have hlt : out.length - 1 < (H8 l m ctx k).length := by rw [e] at hp ⊢; omega
    have e2 : out.getD (out.length - 1) hunk0 ∈ H8 l m ctx k := by
     rw [e] at hlt ⊢
     rw [List.getD_eq_getElem?_getD, List.getElem?_eq_getElem hlt]
     exact List.getElem_mem hlt
    obtain ⟨a, b, e3, e4, e5, e6, e7, e8, e9, e10, e11, e12⟩ := ih _ e2
    exact ⟨a, e3, by omega, e7, e8, e11, e12⟩
  ·rename_i hq
   have hin : out[p] ∈ H8 l m ctx k := by
    by_cases ho : opens l ctx k
    ·have e : out = H8 l m ctx k ++ [Y2 l ctx k] := by rw [hout, P8, if_pos ho]
     have hlt : p < (H8 l m ctx k).length := by
      have : out.length = (H8 l m ctx k).length + 1 := by rw [e]; simp
      omega
     have : out[p] = (H8 l m ctx k)[p] := by simp only [e]; rw [List.getElem_append_left hlt]
     rw [this]; exact List.getElem_mem hlt
    ·have e : out = H8 l m ctx k := by rw [hout, P8, if_neg ho]
     have : out[p] ∈ out := List.getElem_mem hp
     rw [← e]; exact this
   obtain ⟨a, b, e3, e4, e5, e6, e7⟩ := ih _ hin
   exact ⟨a, b, e3, e4, e5, by omega, e7⟩
end Go.AL
namespace Go.AL
open Go
def I9 (s : Str) : Bool := decide (1 ≤ s.length ∧ s.length ≤ 200)
def C1 (ls : List PatchLine) (k : UInt8) : List Str := (ls.filter (fun x => decide (x.Kind ≠ k))).map (·.Text)
def badLn (x : PatchLine) : Prop := ((x.Kind ≠ 32 ∧ x.Kind ≠ 45) ∧ x.Kind ≠ 43) ∨ L5 x.Text = false
instance (x : PatchLine) : Decidable (badLn x) := by unfold badLn; exact inferInstance
def L7 (x : PatchLine) : Bool := decide (¬ badLn x)
def R4 (ls : List PatchLine) : Bool := ls.any (fun x => decide (x.Kind ≠ 32))
def P0 (some : Bool) (i j : Int) (h : PatchHunk) : Prop := ((((some = false ∨ h.Old < i) ∨ h.New < j) ∨ 4096 < h.Old) ∨ 4096 < h.New) ∨ h.Old - i ≠ h.New - j
instance (s : Bool) (i j : Int) (h : PatchHunk) : Decidable (P0 s i j h) := by unfold P0; exact inferInstance
def J0 (h : PatchHunk) : Int := (C1 h.Lines 43).length
def J5 (h : PatchHunk) : Int := (C1 h.Lines 45).length
def S6 (i j : Int) : List PatchHunk → Bool
 | [] => true
 | h :: r => h.Lines.all L7 && (decide (¬ P0 (R4 h.Lines) i j h) && (decide (¬ (4096 < h.Old + J0 h ∨ 4096 < h.New + J5 h)) && S6 (h.Old + J0 h) (h.New + J5 h) r))
def F7 (hs : List PatchHunk) (k : UInt8) : List Str := (hs.map (fun h => C1 h.Lines k)).flatten
def K3 : List Str → Bool
 | [] => true
 | x :: r => (r.isEmpty || ended x) && K3 r
def sideOk (hs : List PatchHunk) (k : UInt8) : Bool := K3 (F7 hs k)
def N8 (hs : List PatchHunk) : Bool := S6 0 0 hs && (sideOk hs 43 && sideOk hs 45)
def markS : Str := [10, 92, 32, 78, 111, 32, 110, 101, 119, 108, 105, 110, 101, 32, 97, 116, 32, 101, 110, 100, 32, 111, 102, 32, 102, 105, 108, 101, 10]
def N9 (x : PatchLine) : List Str := if ended x.Text then [[x.Kind] ++ x.Text] else [[x.Kind] ++ x.Text, markS]
def S7 (h : PatchHunk) : Str := [64, 64, 32, 45] ++ G5 h.Old (J0 h) ++ [32, 43] ++ G5 h.New (J5 h) ++ [32, 64, 64, 10]
def Q2 (h : PatchHunk) : List Str := S7 h :: (h.Lines.map N9).flatten
def W5 (p : Patch) : List Str := [[45, 45, 45, 32] ++ I4 p.OldName ++ [10], [43, 43, 43, 32] ++ I4 p.NewName ++ [10]]
def writePs (p : Patch) : List Str := W5 p ++ (p.Hunks.map Q2).flatten
def H0 (p : Patch) : Str := (writePs p).flatten
def G1 (p : Patch) : Int := if I9 p.OldName = false ∨ I9 p.NewName = false then 120 else if N8 p.Hunks = false then 121 else if 16777216 < (H0 p).length then 1 else 0
def szL (x : PatchLine) : Nat := x.Text.length + 64
def szH (h : PatchHunk) : Nat := 64 + (h.Lines.map szL).sum
def szP (hs : List PatchHunk) : Nat := (hs.map szH).sum
structure PFit (p : Patch) : Prop where
 old : p.OldName.length ≤ 4194304
 new : p.NewName.length ≤ 4194304
 hunks : szP p.Hunks ≤ 268435456
theorem szL_take (ls : List PatchLine) (i : Nat) : ((ls.take i).map szL).sum ≤ (ls.map szL).sum := by
 conv => rhs; rw [← List.take_append_drop i ls, List.map_append, List.sum_append]
 omega
theorem V6 (ls : List PatchLine) : 64 * ls.length ≤ (ls.map szL).sum := by
 induction ls with
 | nil => simp
 | cons x r ih => simp only [List.map_cons, List.sum_cons, List.length_cons, szL]; omega
theorem z6 {ls : List PatchLine} {x : PatchLine} (h : x ∈ ls) : x.Text.length + 64 ≤ (ls.map szL).sum := by
 induction ls with
 | nil => simp at h
 | cons y r ih =>
  simp only [List.map_cons, List.sum_cons]
  rcases List.mem_cons.1 h with rfl | h
  ·unfold szL; omega
  ·have := ih h; omega
theorem n5 {hs : List PatchHunk} {h : PatchHunk} (hm : h ∈ hs) : szH h ≤ szP hs := by
 unfold szP
 induction hs with
 | nil => simp at hm
 | cons y r ih =>
  simp only [List.map_cons, List.sum_cons]
  rcases List.mem_cons.1 hm with rfl | hm
  ·omega
  ·have := ih hm; omega
theorem z7 (hs : List PatchHunk) : 64 * hs.length ≤ szP hs := by
 unfold szP
 induction hs with
 | nil => simp
 | cons x r ih => simp only [List.map_cons, List.sum_cons, List.length_cons, szH]; omega
theorem szP_take (hs : List PatchHunk) (i : Nat) : szP (hs.take i) ≤ szP hs := by
 unfold szP
 conv => rhs; rw [← List.take_append_drop i hs, List.map_append, List.sum_append]
 omega
theorem K7 (ls : List PatchLine) (k : UInt8) : (C1 ls k).length ≤ ls.length := by unfold C1; rw [List.length_map]; exact List.length_filter_le _ _
theorem linesNot_succ (ls : List PatchLine) (k : UInt8) (i : Nat) (h : i < ls.length) : C1 (ls.take (i + 1)) k = if ls[i].Kind ≠ k then C1 (ls.take i) k ++ [ls[i].Text] else C1 (ls.take i) k := by
 unfold C1
 rw [List.take_succ_eq_append_getElem h, List.filter_append, List.map_append]
 by_cases hk : ls[i].Kind = k
 ·rw [if_neg (by simp [hk])]; simp [hk]
 ·rw [if_pos hk]; simp [hk]
theorem sideLines_succ (hs : List PatchHunk) (k : UInt8) (i : Nat) (h : i < hs.length) : F7 (hs.take (i + 1)) k = F7 (hs.take i) k ++ C1 hs[i].Lines k := by
 unfold F7
 rw [List.take_succ_eq_append_getElem h, List.map_append, List.flatten_append]; simp only [List.map_cons, List.map_nil, List.flatten_cons, List.flatten_nil, List.append_nil]
theorem sideLines_len (hs : List PatchHunk) (k : UInt8) : 64 * (F7 hs k).length ≤ szP hs := by
 induction hs with
 | nil => simp [F7]
 | cons h r ih =>
  have h1 := K7 h.Lines k
  have h2 := V6 h.Lines
  simp only [F7, List.map_cons, List.flatten_cons, List.length_append, szP, List.sum_cons, szH] at ih ⊢
  omega
theorem sideLines_mem {hs : List PatchHunk} {k : UInt8} {s : Str} (h : s ∈ F7 hs k) : s.length ≤ szP hs := by
 unfold F7 at h
 obtain ⟨l, hl, hs'⟩ := List.mem_flatten.1 h
 obtain ⟨hk, hhk, rfl⟩ := List.mem_map.1 hl
 unfold C1 at hs'
 obtain ⟨x, hx, rfl⟩ := List.mem_map.1 hs'
 have h1 := z6 (List.mem_filter.1 hx).1
 have h2 := n5 hhk
 unfold szH at h2
 omega
theorem endedBut_drop (l : List Str) (i : Nat) (h : i + 1 < l.length) : K3 (l.drop i) = (ended l[i] && K3 (l.drop (i + 1))) := by
 rw [List.drop_eq_getElem_cons (by omega), K3]
 have : (l.drop (i + 1)).isEmpty = false := by
  rw [List.isEmpty_eq_false_iff]; intro e
  have := congrArg List.length e
  simp at this; omega
 rw [this]; rfl
theorem endedBut_last (l : List Str) (i : Nat) (h : l.length ≤ i + 1) : K3 (l.drop i) = true := by
 rcases Nat.lt_or_ge i l.length with h' | h'
 ·rw [List.drop_eq_getElem_cons h', List.drop_eq_nil_of_le h]; rfl
 ·rw [List.drop_eq_nil_of_le h']; rfl
theorem linePs_len (x : PatchLine) : (N9 x).length ≤ 2 ∧ 1 ≤ (N9 x).length := by unfold N9; split <;> simp
theorem linePs_flat (x : PatchLine) : (N9 x).flatten.length ≤ szL x := by
 unfold N9 szL markS; split <;> simp <;> omega
theorem linesPs_flat (ls : List PatchLine) : (ls.map N9).flatten.flatten.length ≤ (ls.map szL).sum := by
 induction ls with
 | nil => simp
 | cons x r ih => have := linePs_flat x; simp only [List.map_cons, List.flatten_cons, List.flatten_append, List.length_append, List.sum_cons]; omega
theorem linesPs_len (ls : List PatchLine) : (ls.map N9).flatten.length ≤ 2 * ls.length := by
 induction ls with
 | nil => simp
 | cons x r ih => have := linePs_len x; simp only [List.map_cons, List.flatten_cons, List.length_append, List.length_cons]; omega
theorem headW_len (h : PatchHunk) : (S7 h).length ≤ 52 := by
 have h1 := a8 h.Old (J0 h)
 have h2 := a8 h.New (J5 h)
 unfold S7
 simp only [List.length_append, List.length_cons, List.length_nil]; omega
theorem hunkPs_flat (h : PatchHunk) : (Q2 h).flatten.length ≤ szH h := by
 have h1 := headW_len h
 have h2 := linesPs_flat h.Lines
 unfold Q2 szH
 simp only [List.flatten_cons, List.length_append]; omega
theorem i7 (hs : List PatchHunk) : (hs.map Q2).flatten.flatten.length ≤ szP hs := by
 unfold szP
 induction hs with
 | nil => simp
 | cons x r ih => have := hunkPs_flat x; simp only [List.map_cons, List.flatten_cons, List.flatten_append, List.length_append, List.sum_cons]; omega
theorem hunkPs_len (h : PatchHunk) : (Q2 h).length ≤ szH h := by
 have h1 := linesPs_len h.Lines
 have h2 := V6 h.Lines
 unfold Q2 szH
 simp only [List.length_cons]; omega
theorem hunksPs_len (hs : List PatchHunk) : (hs.map Q2).flatten.length ≤ szP hs := by
 unfold szP
 induction hs with
 | nil => simp
 | cons x r ih => have := hunkPs_len x; simp only [List.map_cons, List.flatten_cons, List.length_append, List.sum_cons]; omega
theorem o9 (p : Patch) : (W5 p).flatten.length ≤ 4 * p.OldName.length + 4 * p.NewName.length + 14 := by
 have h1 := a7 p.OldName
 have h2 := a7 p.NewName
 unfold W5
 simp only [List.flatten_cons, List.flatten_nil, List.length_append, List.length_cons, List.length_nil]; omega
theorem hunkTo_succ (hs : List PatchHunk) (k : Nat) (h : k < hs.length) : ((hs.take (k + 1)).map Q2).flatten = ((hs.take k).map Q2).flatten ++ Q2 hs[k] := by
 rw [List.take_succ_eq_append_getElem h, List.map_append, List.flatten_append]; simp only [List.map_cons, List.map_nil, List.flatten_cons, List.flatten_nil, List.append_nil]
theorem lineTo_succ (ls : List PatchLine) (k : Nat) (h : k < ls.length) : ((ls.take (k + 1)).map N9).flatten = ((ls.take k).map N9).flatten ++ N9 ls[k] := by
 rw [List.take_succ_eq_append_getElem h, List.map_append, List.flatten_append]; simp only [List.map_cons, List.map_nil, List.flatten_cons, List.flatten_nil, List.append_nil]
theorem u6 : ∀ (hs : List PatchHunk) (i j : Int), S6 i j hs = true → 0 ≤ i → 0 ≤ j → ∀ h ∈ hs, (0 ≤ h.Old ∧ h.Old ≤ 4096) ∧ (0 ≤ h.New ∧ h.New ≤ 4096)
 | [], _, _, _, _, _, h, hm => by simp at hm
 | x :: r, i, j, hg, hi, hj, h, hm => by
  simp only [S6, Bool.and_eq_true, decide_eq_true_eq] at hg
  obtain ⟨_, h1, h2, h3⟩ := hg
  unfold P0 at h1
  have hx : (0 ≤ x.Old ∧ x.Old ≤ 4096) ∧ (0 ≤ x.New ∧ x.New ≤ 4096) := by omega
  rcases List.mem_cons.1 hm with rfl | hm
  ·exact hx
  ·exact u6 r _ _ h3 (by unfold J0; omega) (by unfold J5; omega) h hm
theorem i8 {hs : List PatchHunk} (h : N8 hs = true) : ∀ x ∈ hs, (0 ≤ x.Old ∧ x.Old ≤ 4096) ∧ (0 ≤ x.New ∧ x.New ≤ 4096) := by
 unfold N8 at h
 rw [Bool.and_eq_true] at h
 exact u6 hs 0 0 h.1 (by omega) (by omega)
end Go.AL
namespace Go.AL
open Go
def Q6 (k : UInt8) (ts : List Str) : List PatchLine := ts.map fun t => ⟨k, t⟩
theorem putOf_succ (k : UInt8) (ts : List Str) (i : Nat) (h : i < ts.length) : Q6 k (ts.take (i + 1)) = Q6 k (ts.take i) ++ [⟨k, ts[i]⟩] := by
 unfold Q6; rw [List.take_succ_eq_append_getElem h, List.map_append]; rfl
theorem putOf_len (k : UInt8) (ts : List Str) : (Q6 k ts).length = ts.length := by simp [Q6]
def sub (x : List Str) (a b : Int) : List Str := (x.drop a.toNat).take (b.toNat - a.toNat)
theorem sub_len (x : List Str) (a b : Int) : (sub x a b).length ≤ x.length := by unfold sub; rw [List.length_take, List.length_drop]; omega
def j8 (c : Change) : Int := c.Old + c.OldLen
def X4 (l : List Change) (i0 : Int) (a t : Nat) : Int := if t = 0 then i0 else j8 (cAt l (a + t - 1))
theorem posTo_succ (l : List Change) (i0 : Int) (a t : Nat) : X4 l i0 a (t + 1) = j8 (cAt l (a + t)) := by
 unfold X4; rw [if_neg (by omega)]; congr 2
def R5 (l : List Change) (x y : List Str) (i0 : Int) (a : Nat) : Nat → List PatchLine
 | 0 => []
 | t + 1 => R5 l x y i0 a t ++ Q6 32 (sub x (X4 l i0 a t) (cAt l (a + t)).Old) ++ Q6 45 (sub x (cAt l (a + t)).Old (j8 (cAt l (a + t)))) ++ Q6 43 (sub y (cAt l (a + t)).New ((cAt l (a + t)).New + (cAt l (a + t)).NewLen))
def M7 (l : List Change) (x y : List Str) (h : Hunk) : PatchHunk :=
 ⟨h.Old.From, h.New.From, R5 l x y h.Old.From h.First.toNat (h.Last.toNat - h.First.toNat) ++ Q6 32 (sub x (X4 l h.Old.From h.First.toNat (h.Last.toNat - h.First.toNat)) h.Old.To)⟩
theorem madeTo_len (l : List Change) (x y : List Str) (i0 : Int) (a t : Nat) : (R5 l x y i0 a t).length ≤ t * (2 * x.length + y.length) := by
 induction t with
 | zero => simp [R5]
 | succ t ih =>
  have h1 := sub_len x (X4 l i0 a t) (cAt l (a + t)).Old
  have h2 := sub_len x (cAt l (a + t)).Old (j8 (cAt l (a + t)))
  have h3 := sub_len y (cAt l (a + t)).New ((cAt l (a + t)).New + (cAt l (a + t)).NewLen)
  simp only [R5, List.length_append, putOf_len]
  rw [Nat.succ_mul]; omega
def patch0 : Patch := ⟨[], [], []⟩
def S8 (x y : List Str) : List Change := walkOf (G9 (E4 [x, y]) x) (G9 (E4 [x, y]) y)
theorem scriptOf_len (x y : List Str) : (S8 x y).length ≤ x.length + 1 := by
 unfold S8 walkOf madeOf
 have h1 := madeGo_length (J9 0 0 (G9 (E4 [x, y]) x) (G9 (E4 [x, y]) y)) 0 0 ((G9 (E4 [x, y]) x).length) ((G9 (E4 [x, y]) y).length)
 have h2 := walkGo_length 0 0 (G9 (E4 [x, y]) x) (G9 (E4 [x, y]) y)
 have h3 : (G9 (E4 [x, y]) x).length = x.length := by simp [G9]
 omega
end Go.AL
namespace Go.AL
open Go
def fitsOf (h : PatchHunk) (lines : List Str) : Bool := if (lines.length : Int) < h.Old + J0 h then false else decide ((lines.drop h.Old.toNat).take (C1 h.Lines 43).length = C1 h.Lines 43)
def fitN : List PatchHunk → List Str → Nat
 | [], _ => 0
 | h :: r, x => if fitsOf h x = true then fitN r x + 1 else 0
def fits14 (p : Patch) (blob : Str) : Int × Int := if G1 p ≠ 0 then (0, G1 p) else if (u4 blob).2 ≠ 0 then (0, (u4 blob).2) else (fitN p.Hunks (u4 blob).1, 0)
def hAt (hs : List PatchHunk) (k : Nat) : PatchHunk := hs.getD k ⟨0, 0, []⟩
def atTo (hs : List PatchHunk) (k : Nat) : Int := if k = 0 then 0 else (hAt hs (k - 1)).Old + J0 (hAt hs (k - 1))
def outTo (hs : List PatchHunk) (x : List Str) : Nat → List Str
 | 0 => []
 | k + 1 => outTo hs x k ++ sub x (atTo hs k) (hAt hs k).Old ++ C1 (hAt hs k).Lines 45
def applyOf (hs : List PatchHunk) (x : List Str) : Str × Int :=
 let out := outTo hs x hs.length ++ x.drop (atTo hs hs.length).toNat
 if listOk out = false then ([], 140) else joinOf out
def apply14 (p : Patch) (blob : Str) : Str × Int := if (fits14 p blob).2 ≠ 0 then ([], (fits14 p blob).2) else if (fits14 p blob).1 < p.Hunks.length then ([], 140) else applyOf p.Hunks (D9 blob)
theorem oldN_nn (h : PatchHunk) : 0 ≤ J0 h := by unfold J0; omega
end Go.AL
namespace Go.AL
open Go
def j3 (o n : Bool) : List PatchLine → Option (Bool × Bool)
 | [] => some (o, n)
 | x :: r =>
  if x.Kind ≠ 43 ∧ o = true then none
  else if x.Kind ≠ 45 ∧ n = true then none
  else j3 (if x.Kind ≠ 43 then !ended x.Text else o) (if x.Kind ≠ 45 then !ended x.Text else n) r
def P3 : Bool → List Str → Bool
 | _, [] => true
 | o, s :: r => !o && P3 (!ended s) r
def Y3 (o : Bool) : List Str → Bool
 | [] => o
 | s :: r => Y3 (!ended s) r
theorem x5 : ∀ (a b : List Str) (o : Bool), P3 o (a ++ b) = (P3 o a && P3 (Y3 o a) b)
 | [], b, o => by simp [P3, Y3]
 | s :: r, b, o => by simp only [List.cons_append, P3, Y3, x5 r b]; cases o <;> simp
theorem closedB_ended : ∀ (l : List Str), P3 false l = K3 l
 | [] => rfl
 | s :: r => by
  have ih := closedB_ended r
  simp only [P3, K3]
  cases he : ended s
  ·cases r with
   | nil => rfl
   | cons t u => simp [P3]
  ·rw [← ih]; cases r <;> simp [P3]
theorem openGo_sides : ∀ (ls : List PatchLine) (o n : Bool), j3 o n ls = if P3 o (C1 ls 43) && P3 n (C1 ls 45) then some (Y3 o (C1 ls 43), Y3 n (C1 ls 45)) else none
 | [], o, n => by simp [j3, C1, P3, Y3]
 | x :: r, o, n => by
  have c1 : C1 (x :: r) 43 = if x.Kind ≠ 43 then x.Text :: C1 r 43 else C1 r 43 := by
   unfold C1; by_cases h : x.Kind = 43 <;> simp [h]
  have c2 : C1 (x :: r) 45 = if x.Kind ≠ 45 then x.Text :: C1 r 45 else C1 r 45 := by
   unfold C1; by_cases h : x.Kind = 45 <;> simp [h]
  rw [j3, openGo_sides r, c1, c2]
  by_cases h1 : x.Kind = 43 <;> by_cases h2 : x.Kind = 45 <;> cases o <;> cases n <;> simp [h1, h2, P3, Y3]
def S9 (i j : Int) (h : PatchHunk) : Prop := ((((h.Old < 0 ∨ h.New < 0) ∨ 4096 < h.Old) ∨ 4096 < h.New) ∨ h.Old < i) ∨ h.Old - i ≠ h.New - j
instance (i j : Int) (h : PatchHunk) : Decidable (S9 i j h) := by unfold S9; exact inferInstance
def wellGo (i j : Int) (o n : Bool) : List PatchHunk → Bool
 | [] => true
 | h :: r =>
  (h.Lines.all L7 && R4 h.Lines) && (decide (¬ S9 i j h) &&
   match j3 o n h.Lines with
   | none => false
   | some (o', n') => decide (h.Old + J0 h ≤ 4096 ∧ h.New + J5 h ≤ 4096) && wellGo (h.Old + J0 h) (h.New + J5 h) o' n' r)
theorem sideLines_cons (h : PatchHunk) (r : List PatchHunk) (k : UInt8) : F7 (h :: r) k = C1 h.Lines k ++ F7 r k := rfl
theorem well_eq : ∀ (hs : List PatchHunk) (i j : Int) (o n : Bool), 0 ≤ i → 0 ≤ j → wellGo i j o n hs = (S6 i j hs && (P3 o (F7 hs 43) && P3 n (F7 hs 45)))
 | [], i, j, o, n, _, _ => by simp [wellGo, S6, F7, P3]
 | h :: r, i, j, o, n, hi, hj => by
  rw [wellGo, S6, sideLines_cons, sideLines_cons, x5, x5, openGo_sides]
  have a1 := oldN_nn h
  have a2 : 0 ≤ J5 h := by unfold J5; omega
  cases e1 : h.Lines.all L7
  ·simp
  cases e2 : R4 h.Lines
  ·have : decide (¬ P0 false i j h) = false := decide_eq_false (fun hh => hh (by unfold P0; simp))
   rw [this]; simp
  have e3 : decide (¬ S9 i j h) = decide (¬ P0 true i j h) := by
   apply decide_eq_decide.2
   unfold S9 P0
   constructor <;> intro hh <;> simp only [not_or, Bool.true_eq_false, not_false_eq_true, true_and] at hh ⊢ <;> omega
  rw [e3]
  by_cases hp : P0 true i j h
  ·rw [decide_eq_false (fun hh => hh hp)]; simp
  rw [decide_eq_true hp]
  have hb : 0 ≤ h.Old ∧ 0 ≤ h.New := by unfold P0 at hp; simp only [not_or] at hp; omega
  have e4 : decide (h.Old + J0 h ≤ 4096 ∧ h.New + J5 h ≤ 4096) = decide (¬ (4096 < h.Old + J0 h ∨ 4096 < h.New + J5 h)) := decide_eq_decide.2 (by omega)
  have ih := well_eq r (h.Old + J0 h) (h.New + J5 h) (Y3 o (C1 h.Lines 43)) (Y3 n (C1 h.Lines 45)) (by omega) (by omega)
  cases e5 : P3 o (C1 h.Lines 43) <;> cases e6 : P3 n (C1 h.Lines 45) <;> simp [e4, ih, Bool.and_assoc]
theorem well_good (hs : List PatchHunk) : wellGo 0 0 false false hs = N8 hs := by
 rw [well_eq hs 0 0 false false (by omega) (by omega), closedB_ended, closedB_ended]; rfl
end Go.AL
namespace Go.AL
open Go
end Go.AL
namespace Go.AL
open Go
theorem sub_mem {x : List Str} {a b : Int} {s : Str} (h : s ∈ sub x a b) : s ∈ x := by
 unfold sub at h
 exact List.mem_of_mem_drop (List.mem_of_mem_take h)
end Go.AL
namespace Go.AL
open Go
def endN (c : Change) : Int := c.New + c.NewLen
def eoI (i : Int) (l : List Change) (k : Nat) : Int := if k = 0 then i else j8 (cAt l (k - 1))
def enI (j : Int) (l : List Change) (k : Nat) : Int := if k = 0 then j else endN (cAt l (k - 1))
theorem p5 (i : Int) (c : Change) (r : List Change) (k : Nat) : eoI i (c :: r) (k + 1) = eoI (j8 c) r k := by
 cases k <;> rfl
theorem p6 (j : Int) (c : Change) (r : List Change) (k : Nat) : enI j (c :: r) (k + 1) = enI (endN c) r k := by
 cases k <;> rfl
theorem eoI_succ (i : Int) (l : List Change) (k : Nat) : eoI i l (k + 1) = j8 (cAt l k) := rfl
theorem enI_succ (j : Int) (l : List Change) (k : Nat) : enI j l (k + 1) = endN (cAt l k) := rfl
theorem cAt_cons (c : Change) (r : List Change) (k : Nat) : cAt (c :: r) (k + 1) = cAt r k := rfl
def EqRuns (x y : List Str) (i j : Int) : List Change → Prop
 | [] => sub x i x.length = sub y j y.length
 | c :: r => sub x i c.Old = sub y j c.New ∧ EqRuns x y (j8 c) (endN c) r
theorem s5 (m n : Int) : ∀ (l : List Change) (k0 : Nat) (i j : Int), J4 k0 i j l m n = true → ∀ k, k < l.length →
  I8 (cAt l k).Old ∧ I8 (cAt l k).OldLen ∧ I8 (cAt l k).New ∧ I8 (cAt l k).NewLen ∧ (cAt l k).OldLen + (cAt l k).NewLen ≠ 0 ∧ (cAt l k).Old - eoI i l k = (cAt l k).New - enI j l k ∧ eoI i l k ≤ (cAt l k).Old ∧ (0 < k0 + k → eoI i l k < (cAt l k).Old)
 | [], _, _, _, _, k, hk => by simp at hk
 | c :: r, k0, i, j, h, k, hk => by
  simp only [J4, Bool.and_eq_true, decide_eq_true_eq] at h
  obtain ⟨h1, h2⟩ := h
  cases k with
  | zero =>
   unfold badC at h1
   show I8 c.Old ∧ I8 c.OldLen ∧ I8 c.New ∧ I8 c.NewLen ∧ c.OldLen + c.NewLen ≠ 0 ∧ c.Old - i = c.New - j ∧ i ≤ c.Old ∧ (0 < k0 + 0 → i < c.Old)
   have d1 : I8 c.Old := by by_cases q : I8 c.Old; exact q; exact absurd (.inl (.inl (.inl (.inl (.inl (.inl (.inl q))))))) h1
   have d2 : I8 c.OldLen := by by_cases q : I8 c.OldLen; exact q; exact absurd (.inl (.inl (.inl (.inl (.inl (.inl (.inr q))))))) h1
   have d3 : I8 c.New := by by_cases q : I8 c.New; exact q; exact absurd (.inl (.inl (.inl (.inl (.inl (.inr q)))))) h1
   have d4 : I8 c.NewLen := by by_cases q : I8 c.NewLen; exact q; exact absurd (.inl (.inl (.inl (.inl (.inr q))))) h1
   refine ⟨d1, d2, d3, d4, fun q => h1 (.inl (.inl (.inl (.inr q)))), ?_, ?_, fun h0 => ?_⟩
   ·by_cases q : c.Old - i = c.New - j
    ·exact q
    ·exact absurd (.inl (.inl (.inr q))) h1
   ·by_cases q : c.Old < i
    ·exact absurd (.inl (.inr q)) h1
    ·omega
   ·by_cases q : c.Old < i
    ·exact absurd (.inl (.inr q)) h1
    ·by_cases q2 : c.Old = i
     ·exact absurd (.inr ⟨by omega, q2⟩) h1
     ·omega
  | succ k =>
   have := s5 m n r (k0 + 1) _ _ h2 k (by simpa using hk)
   rw [cAt_cons, p5, p6]
   obtain ⟨e1, e2, e3, e4, e5, e6, e7, e8⟩ := this
   exact ⟨e1, e2, e3, e4, e5, e6, e7, fun h0 => e8 (by omega)⟩
theorem sc_end (m n : Int) : ∀ (l : List Change) (k0 : Nat) (i j : Int), J4 k0 i j l m n = true → m - eoI i l l.length = n - enI j l l.length ∧ eoI i l l.length ≤ m
 | [], _, i, j, h => by
  simp only [J4, decide_eq_true_eq] at h
  show m - i = n - j ∧ i ≤ m
  omega
 | c :: r, k0, i, j, h => by
  simp only [J4, Bool.and_eq_true, decide_eq_true_eq] at h
  rw [List.length_cons, p5, p6]
  exact sc_end m n r _ _ _ h.2
theorem eq_get (x y : List Str) : ∀ (l : List Change) (i j : Int), EqRuns x y i j l → ∀ k, k < l.length → sub x (eoI i l k) (cAt l k).Old = sub y (enI j l k) (cAt l k).New
 | [], _, _, _, k, hk => by simp at hk
 | c :: r, i, j, h, k, hk => by
  cases k with
  | zero => exact h.1
  | succ k => rw [p5, p6, cAt_cons]; exact eq_get x y r _ _ h.2 k (by simpa using hk)
theorem eq_end (x y : List Str) : ∀ (l : List Change) (i j : Int), EqRuns x y i j l → sub x (eoI i l l.length) x.length = sub y (enI j l l.length) y.length
 | [], _, _, h => h
 | c :: r, i, j, h => by rw [List.length_cons, p5, p6]; exact eq_end x y r _ _ h.2
def mkH (l : List Change) (m ctx : Int) (a b : Nat) : Hunk := hunkEnd l m ctx (b - 1) (Y2 l ctx a)
def GrOk (l : List Change) (m ctx : Int) : Nat → List Hunk → Nat → Prop
 | a, [], k => a = k
 | a, h :: r, k => ∃ b, a < b ∧ opens l ctx a ∧ h = mkH l m ctx a b ∧ GrOk l m ctx b r k
theorem GrOk.le {l : List Change} {m ctx : Int} : ∀ {hs : List Hunk} {a k : Nat}, GrOk l m ctx a hs k → a ≤ k
 | [], a, k, h => Nat.le_of_eq h
 | _ :: _, a, k, ⟨b, h1, _, _, h2⟩ => by have := GrOk.le h2; omega
theorem GrOk.snoc {l : List Change} {m ctx : Int} {k : Nat} (ho : opens l ctx k) : ∀ {hs : List Hunk} {a : Nat}, GrOk l m ctx a hs k → GrOk l m ctx a (hs ++ [mkH l m ctx k (k + 1)]) (k + 1)
 | [], a, h => by
  obtain rfl : a = k := h
  exact ⟨a + 1, by omega, ho, rfl, rfl⟩
 | _ :: _, a, ⟨b, h1, h2, h3, h4⟩ => ⟨b, h1, h2, h3, GrOk.snoc ho h4⟩
theorem GrOk.last {l : List Change} {m ctx : Int} {k : Nat} : ∀ {hs : List Hunk} {a : Nat}, GrOk l m ctx a hs k → hs ≠ [] → GrOk l m ctx a (hs.set (hs.length - 1) (hunkEnd l m ctx k (hs.getD (hs.length - 1) hunk0))) (k + 1)
 | [], _, _, h0 => absurd rfl h0
 | [h], a, ⟨b, h1, h2, h3, h4⟩, _ => by
  obtain rfl : b = k := h4
  subst h3
  exact ⟨b + 1, by omega, h2, rfl, rfl⟩
 | h :: h' :: r, a, ⟨b, h1, h2, h3, h4⟩, _ => by
  have ih := GrOk.last h4 (by simp)
  refine ⟨b, h1, h2, h3, ?_⟩
  simpa using ih
theorem x6 (l : List Change) (m ctx : Int) : ∀ k, GrOk l m ctx 0 (H8 l m ctx k) k
 | 0 => rfl
 | k + 1 => by
  have ih := x6 l m ctx k
  have hne := (o8 l m ctx k).2
  simp only [H8, P8]
  by_cases ho : opens l ctx k
  ·rw [if_pos ho]
   have e : (H8 l m ctx k ++ [Y2 l ctx k]).set ((H8 l m ctx k ++ [Y2 l ctx k]).length - 1) (hunkEnd l m ctx k ((H8 l m ctx k ++ [Y2 l ctx k]).getD ((H8 l m ctx k ++ [Y2 l ctx k]).length - 1) hunk0)) = H8 l m ctx k ++ [mkH l m ctx k (k + 1)] := by
    simp [mkH]
   rw [e]
   exact ih.snoc ho
  ·rw [if_neg ho]
   refine ih.last ?_
   have : k ≠ 0 := fun e => ho (.inl e)
   have := hne (by omega)
   intro e; rw [e] at this; simp at this
theorem n6 (x : List Str) {a b c : Int} (h0 : 0 ≤ a) (h1 : a ≤ b) (h2 : b ≤ c) : sub x a b ++ sub x b c = sub x a c := by
 unfold sub
 obtain ⟨u, rfl⟩ : ∃ u : Nat, (u : Int) = a := ⟨a.toNat, by omega⟩
 obtain ⟨v, rfl⟩ : ∃ v : Nat, (v : Int) = b := ⟨b.toNat, by omega⟩
 obtain ⟨w, rfl⟩ : ∃ w : Nat, (w : Int) = c := ⟨c.toNat, by omega⟩
 simp only [Int.toNat_natCast]
 have h3 : x.drop v = (x.drop u).drop (v - u) := by rw [List.drop_drop]; congr 1; omega
 rw [h3, show w - u = (v - u) + (w - v) by omega, List.take_add]
theorem z8 (x : List Str) (a : Int) : sub x a a = [] := by simp [sub]
theorem sub_length (x : List Str) {a b : Int} (h0 : 0 ≤ a) (h1 : a ≤ b) (h2 : b ≤ x.length) : ((sub x a b).length : Int) = b - a := by
 unfold sub; rw [List.length_take, List.length_drop]; omega
theorem run_tail {x y : List Str} {p q p' q' e : Int} (h : sub x p q = sub y p' q') (h0 : 0 ≤ p) (h0' : 0 ≤ p') (he : 0 ≤ e) (h1 : e ≤ q - p) (h2 : q - p = q' - p') : sub x (q - e) q = sub y (q' - e) q' := by
 have key : ∀ (z : List Str) (a b : Int), 0 ≤ a → e ≤ b - a → sub z (b - e) b = (sub z a b).drop (b - a - e).toNat := by
  intro z a b ha hb
  unfold sub
  rw [List.drop_take, List.drop_drop]
  congr 1
  ·omega
  ·congr 1; omega
 rw [key x p q h0 h1, key y p' q' h0' (by omega), h, h2]
theorem run_head {x y : List Str} {p q p' q' e : Int} (h : sub x p q = sub y p' q') (h0 : 0 ≤ p) (h0' : 0 ≤ p') (he : 0 ≤ e) (h1 : e ≤ q - p) (h2 : q - p = q' - p') : sub x p (p + e) = sub y p' (p' + e) := by
 have key : ∀ (z : List Str) (a b : Int), 0 ≤ a → e ≤ b - a → sub z a (a + e) = (sub z a b).take e.toNat := by
  intro z a b ha hb
  unfold sub
  rw [List.take_take]
  congr 1
  omega
 rw [key x p q h0 h1, key y p' q' h0' (by omega), h]
theorem linesNot_app (p q : List PatchLine) (k : UInt8) : C1 (p ++ q) k = C1 p k ++ C1 q k := by simp [C1]
theorem linesNot_put (k k' : UInt8) (ts : List Str) : C1 (Q6 k ts) k' = if k = k' then [] else ts := by
 unfold C1 Q6
 by_cases h : k = k'
 ·rw [if_pos h]; subst h
  simp [List.filter_eq_nil_iff]
 ·rw [if_neg h]
  rw [List.filter_eq_self.2 (by simp [h])]
  simp [Function.comp_def]
structure ScFit (x y : List Str) (l : List Change) : Prop where
 lx : (x.length : Int) ≤ 4096
 ly : (y.length : Int) ≤ 4096
 sc : J4 0 0 0 l x.length y.length = true
 eq : EqRuns x y 0 0 l
section
variable {x y : List Str} {l : List Change}
theorem ScFit.ok (h : ScFit x y l) : ScOk 0 0 l x.length y.length := y9 _ _ _ _ _ _ h.sc
theorem ScFit.check (h : ScFit x y l) : Z1 l x.length y.length = 0 := by
 have h1 := h.lx
 have h2 := h.ly
 unfold Z1
 rw [if_neg (by unfold I8; omega), if_pos h.sc]
theorem ScFit.nn (h : ScFit x y l) (k : Nat) (hk : k ≤ l.length) : 0 ≤ eoI 0 l k ∧ 0 ≤ enI 0 l k ∧ eoI 0 l k ≤ x.length ∧ enI 0 l k ≤ y.length := by
 cases k with
 | zero => exact ⟨Int.le_refl _, Int.le_refl _, Int.natCast_nonneg _, Int.natCast_nonneg _⟩
 | succ k =>
  obtain ⟨⟨a1, a2⟩, ⟨b1, b2⟩, ⟨c1, c2⟩, ⟨d1, d2⟩, h5, h6⟩ := h.ok.get k (by omega)
  rw [eoI_succ, enI_succ]; unfold j8 endN
  omega
def eA (l : List Change) (ctx : Int) (a : Nat) : Int := c7 ctx (cAt l a).Old
def eB (l : List Change) (m ctx : Int) (b : Nat) : Int := c7 ctx (m - eoI 0 l b)
theorem minI_le {a b : Int} (h : 0 ≤ a) (h' : 0 ≤ b) : 0 ≤ c7 a b ∧ c7 a b ≤ a ∧ c7 a b ≤ b := by unfold c7; split <;> omega
theorem opens_gap {ctx : Int} {a : Nat} (ho : opens l ctx a) (ha : a ≠ 0) : 2 * ctx < (cAt l a).Old - eoI 0 l a := by
 rcases ho with h | h
 ·exact absurd h ha
 ·unfold eoI; rw [if_neg ha]; unfold j8; omega
theorem ScFit.before (h : ScFit x y l) {ctx : Int} (hc : 0 ≤ ctx) {a : Nat} (ha : a < l.length) (ho : opens l ctx a) :
  0 ≤ eA l ctx a ∧ eA l ctx a ≤ ctx ∧ eA l ctx a ≤ (cAt l a).Old - eoI 0 l a := by
 obtain ⟨⟨a1, a2⟩, _⟩ := h.ok.get a ha
 have h3 := minI_le hc a1
 unfold eA
 by_cases h0 : a = 0
 ·subst h0
  show _ ∧ _ ∧ _ ≤ (cAt l 0).Old - 0
  omega
 ·have := opens_gap ho h0; omega
theorem ScFit.after (h : ScFit x y l) {ctx : Int} (hc : 0 ≤ ctx) {b : Nat} (hb : b ≤ l.length) (ho : b < l.length → opens l ctx b) (hb0 : b ≠ 0) :
  0 ≤ eB l x.length ctx b ∧ eB l x.length ctx b ≤ ctx ∧ eoI 0 l b + eB l x.length ctx b ≤ x.length ∧ enI 0 l b + eB l x.length ctx b ≤ y.length ∧
   sub x (eoI 0 l b) (eoI 0 l b + eB l x.length ctx b) = sub y (enI 0 l b) (enI 0 l b + eB l x.length ctx b) := by
 obtain ⟨h1, h2, h3, h4⟩ := h.nn b hb
 have h5 := minI_le hc (show 0 ≤ (x.length : Int) - eoI 0 l b by omega)
 unfold eB
 rcases Nat.lt_or_ge b l.length with hlt | hge
 ·obtain ⟨g1, g2, g3, g4, g5, g6, g7, g8⟩ := s5 _ _ _ _ _ _ h.sc b hlt
  obtain ⟨⟨a1, a2⟩, ⟨b1, b2⟩, ⟨c1, c2⟩, ⟨d1, d2⟩, k5, k6⟩ := h.ok.get b hlt
  have hg := opens_gap (ho hlt) hb0
  refine ⟨h5.1, h5.2.1, by omega, by omega, run_head (eq_get x y l 0 0 h.eq b hlt) h1 h2 h5.1 (by omega) (by omega)⟩
 ·have e : b = l.length := by omega
  subst e
  obtain ⟨g1, g2⟩ := sc_end _ _ _ _ _ _ h.sc
  refine ⟨h5.1, h5.2.1, by omega, by omega, run_head (eq_end x y l 0 0 h.eq) h1 h2 h5.1 (by omega) (by omega)⟩
def posN (l : List Change) (j0 : Int) (a t : Nat) : Int := if t = 0 then j0 else endN (cAt l (a + t - 1))
theorem posTo_eo (i0 : Int) (a t : Nat) (ht : t ≠ 0) : X4 l i0 a t = eoI 0 l (a + t) := by
 unfold X4 eoI; rw [if_neg ht, if_neg (by omega)]
theorem posN_en (j0 : Int) (a t : Nat) (ht : t ≠ 0) : posN l j0 a t = enI 0 l (a + t) := by
 unfold posN enI; rw [if_neg ht, if_neg (by omega)]
theorem ScFit.made (h : ScFit x y l) {ctx : Int} (hc : 0 ≤ ctx) {a : Nat} (ho : opens l ctx a) : ∀ t, a + t ≤ l.length → (t = 0 → a < l.length) →
  C1 (R5 l x y ((cAt l a).Old - eA l ctx a) a t) 43 = sub x ((cAt l a).Old - eA l ctx a) (X4 l ((cAt l a).Old - eA l ctx a) a t) ∧
  C1 (R5 l x y ((cAt l a).Old - eA l ctx a) a t) 45 = sub y ((cAt l a).New - eA l ctx a) (posN l ((cAt l a).New - eA l ctx a) a t)
 | 0, _, _ => by
  unfold X4 posN
  rw [if_pos rfl, if_pos rfl, z8, z8]
  exact ⟨rfl, rfl⟩
 | t + 1, hl, _ => by
  have hlt : a + t < l.length := by omega
  have hla : a < l.length := by omega
  obtain ⟨ih1, ih2⟩ := ScFit.made h hc ho t (by omega) (fun _ => hla)
  obtain ⟨q1, q2, q3⟩ := h.before hc hla ho
  obtain ⟨p1, p2, p3, p4⟩ := h.nn (a + t) (by omega)
  obtain ⟨r1, r2, r3, r4⟩ := h.nn a (by omega)
  obtain ⟨g1, g2, g3, g4, g5, g6, g7, g8⟩ := s5 _ _ _ _ _ _ h.sc (a + t) hlt
  obtain ⟨k1, ⟨k2, k2'⟩, k3, ⟨k4, k4'⟩, k5, k6, k7, k8⟩ := s5 _ _ _ _ _ _ h.sc a hla
  obtain ⟨⟨a1, a2⟩, ⟨b1, b2⟩, ⟨c1, c2⟩, ⟨d1, d2⟩, w5, w6⟩ := h.ok.get (a + t) hlt
  have hrun : sub x (X4 l ((cAt l a).Old - eA l ctx a) a t) (cAt l (a + t)).Old = sub y (posN l ((cAt l a).New - eA l ctx a) a t) (cAt l (a + t)).New ∧
    (cAt l a).Old - eA l ctx a ≤ X4 l ((cAt l a).Old - eA l ctx a) a t ∧ X4 l ((cAt l a).Old - eA l ctx a) a t ≤ (cAt l (a + t)).Old ∧
    (cAt l a).New - eA l ctx a ≤ posN l ((cAt l a).New - eA l ctx a) a t ∧ posN l ((cAt l a).New - eA l ctx a) a t ≤ (cAt l (a + t)).New := by
   have hrun := eq_get x y l 0 0 h.eq (a + t) hlt
   by_cases ht : t = 0
   ·subst ht
    unfold X4 posN
    rw [if_pos rfl, if_pos rfl]
    rw [show a + 0 = a from rfl] at *
    exact ⟨run_tail hrun r1 r2 q1 (by omega) (by omega), by omega, by omega, by omega, by omega⟩
   ·rw [posTo_eo _ _ _ ht, posN_en _ _ _ ht]
    have m1 := h.ok.mono a (a + t - 1) (by omega) (by omega)
    have m2 : eoI 0 l (a + t) = (cAt l (a + t - 1)).Old + (cAt l (a + t - 1)).OldLen := by unfold eoI; rw [if_neg (by omega)]; rfl
    have m4 : ∀ u, u ≤ t → (cAt l a).New ≤ enI 0 l (a + u) ∨ u = 0 := by
     intro u
     induction u with
     | zero => exact fun _ => .inr rfl
     | succ u ihu =>
      intro hu
      obtain ⟨e1, e2, ⟨e3, e3'⟩, ⟨e4, e4'⟩, e5, e6, e7, e8⟩ := s5 _ _ _ _ _ _ h.sc (a + u) (by omega)
      have e9 : enI 0 l (a + (u + 1)) = (cAt l (a + u)).New + (cAt l (a + u)).NewLen := rfl
      rcases ihu (by omega) with h' | h'
      ·left; omega
      ·left; subst h'; rw [e9]; show (cAt l a).New ≤ (cAt l a).New + (cAt l a).NewLen; exact Int.le_add_of_nonneg_right e4
    have m5 := (m4 t (Nat.le_refl _)).resolve_right ht
    refine ⟨hrun, by omega, by omega, by omega, by omega⟩
  obtain ⟨hr1, hr2, hr3, hr4, hr5⟩ := hrun
  simp (decide := true) only [R5, linesNot_app, linesNot_put, ih1, ih2, if_true, if_false, List.append_nil]
  have e1 : X4 l ((cAt l a).Old - eA l ctx a) a (t + 1) = j8 (cAt l (a + t)) := posTo_succ _ _ _ _
  have e2 : posN l ((cAt l a).New - eA l ctx a) a (t + 1) = endN (cAt l (a + t)) := rfl
  rw [e1, e2]
  have s0 : 0 ≤ (cAt l a).Old - eA l ctx a := by omega
  have s1 : 0 ≤ (cAt l a).New - eA l ctx a := by omega
  refine ⟨?_, ?_⟩
  ·rw [n6 x s0 hr2 hr3, n6 x s0 (by omega) (by unfold j8; omega)]
  ·rw [hr1, n6 y s1 hr4 hr5]
   exact n6 y s1 (by omega) (by omega)
end
end Go.AL
namespace Go.AL
open Go
section
variable {x y : List Str} {l : List Change}
structure HunkIs (x y : List Str) (l : List Change) (ctx : Int) (a b : Nat) (h : PatchHunk) : Prop where
 old : h.Old = (cAt l a).Old - eA l ctx a
 new : h.New = (cAt l a).New - eA l ctx a
 o0 : 0 ≤ h.Old
 n0 : 0 ≤ h.New
 oe : h.Old + J0 h = eoI 0 l b + eB l x.length ctx b
 ne : h.New + J5 h = enI 0 l b + eB l x.length ctx b
 ox : h.Old + J0 h ≤ x.length
 ny : h.New + J5 h ≤ y.length
 ol : C1 h.Lines 43 = sub x h.Old (h.Old + J0 h)
 nl : C1 h.Lines 45 = sub y h.New (h.New + J5 h)
 ch : R4 h.Lines = true
 gl : (∀ s ∈ x, L5 s = true) → (∀ s ∈ y, L5 s = true) → h.Lines.all L7 = true
theorem someCh_app (p q : List PatchLine) : R4 (p ++ q) = (R4 p || R4 q) := by simp [R4]
theorem someCh_put {k : UInt8} {ts : List Str} (hk : k ≠ 32) (h : ts ≠ []) : R4 (Q6 k ts) = true := by
 cases ts with
 | nil => exact absurd rfl h
 | cons t ts => simp [R4, Q6, hk]
theorem goodLn_put {k : UInt8} {ts : List Str} (hk : k = 32 ∨ k = 45 ∨ k = 43) (h : ∀ t ∈ ts, L5 t = true) : (Q6 k ts).all L7 = true := by
 rw [List.all_eq_true]
 intro q hq
 unfold Q6 at hq
 obtain ⟨t, ht, rfl⟩ := List.mem_map.1 hq
 unfold L7
 refine decide_eq_true ?_
 rintro (⟨⟨h1, h2⟩, h3⟩ | h1)
 ·rcases hk with e | e | e
  ·exact h1 e
  ·exact h2 e
  ·exact h3 e
 ·rw [show (PatchLine.mk k t).Text = t from rfl, h t ht] at h1; cases h1
theorem madeTo_good (hx : ∀ s ∈ x, L5 s = true) (hy : ∀ s ∈ y, L5 s = true) (i0 : Int) (a : Nat) : ∀ t, (R5 l x y i0 a t).all L7 = true
 | 0 => rfl
 | t + 1 => by
  simp only [R5, List.all_append, madeTo_good hx hy i0 a t, Bool.true_and, Bool.and_eq_true]
  exact ⟨⟨goodLn_put (.inl rfl) (fun s hs => hx s (sub_mem hs)), goodLn_put (.inr (.inl rfl)) (fun s hs => hx s (sub_mem hs))⟩, goodLn_put (.inr (.inr rfl)) (fun s hs => hy s (sub_mem hs))⟩
theorem ScFit.hunk (h : ScFit x y l) {ctx : Int} (hc : 0 ≤ ctx) {a b : Nat} (hab : a < b) (hb : b ≤ l.length) (ho : opens l ctx a) (hob : b < l.length → opens l ctx b) :
  HunkIs x y l ctx a b (M7 l x y (mkH l x.length ctx a b)) := by
 have hla : a < l.length := by omega
 obtain ⟨q1, q2, q3⟩ := h.before hc hla ho
 obtain ⟨w1, w2, w3, w4, w5⟩ := h.after hc hb hob (by omega)
 obtain ⟨m1, m2⟩ := h.made hc ho (b - a) (by omega) (fun e => by omega)
 rw [posTo_eo _ _ _ (by omega)] at m1
 rw [posN_en _ _ _ (by omega)] at m2
 rw [show a + (b - a) = b by omega] at m1 m2
 obtain ⟨r1, r2, r3, r4⟩ := h.nn a (by omega)
 obtain ⟨s1, s2, s3, s4⟩ := h.nn b hb
 obtain ⟨k1, ⟨k2, k2'⟩, k3, ⟨k4, k4'⟩, k5, k6, k7, k8⟩ := s5 _ _ _ _ _ _ h.sc a hla
 have hlb : b - 1 < l.length := by omega
 obtain ⟨g1, ⟨g2, g2'⟩, g3, ⟨g4, g4'⟩, g5, g6, g7, g8⟩ := s5 _ _ _ _ _ _ h.sc (b - 1) hlb
 have eo : eoI 0 l b = (cAt l (b - 1)).Old + (cAt l (b - 1)).OldLen := by unfold eoI; rw [if_neg (by omega)]; rfl
 have en : enI 0 l b = (cAt l (b - 1)).New + (cAt l (b - 1)).NewLen := by unfold enI; rw [if_neg (by omega)]; rfl
 have mo := h.ok.mono a (b - 1) (by omega) (by omega)
 have mn : (cAt l a).New ≤ enI 0 l b := by
  have m4 : ∀ u, a + u ≤ l.length → (cAt l a).New ≤ enI 0 l (a + u) ∨ u = 0 := by
   intro u
   induction u with
   | zero => exact fun _ => .inr rfl
   | succ u ihu =>
    intro hu
    obtain ⟨e1, e2, ⟨e3, e3'⟩, ⟨e4, e4'⟩, e5, e6, e7, e8⟩ := s5 _ _ _ _ _ _ h.sc (a + u) (by omega)
    have e9 : enI 0 l (a + (u + 1)) = (cAt l (a + u)).New + (cAt l (a + u)).NewLen := rfl
    rcases ihu (by omega) with h' | h'
    ·left; omega
    ·left; subst h'; rw [e9]; show (cAt l a).New ≤ (cAt l a).New + (cAt l a).NewLen; exact Int.le_add_of_nonneg_right e4
  have := (m4 (b - a) (by omega)).resolve_right (by omega)
  rwa [show a + (b - a) = b by omega] at this
 have hF : (mkH l x.length ctx a b).First.toNat = a := by show ((a : Int)).toNat = a; omega
 have hL : (mkH l x.length ctx a b).Last.toNat - (mkH l x.length ctx a b).First.toNat = b - a := by
  show (((b - 1 : Nat) : Int) + 1).toNat - ((a : Int)).toNat = b - a; omega
 have hOF : (mkH l x.length ctx a b).Old.From = (cAt l a).Old - eA l ctx a := rfl
 have hNF : (mkH l x.length ctx a b).New.From = (cAt l a).New - eA l ctx a := rfl
 have hOT : (mkH l x.length ctx a b).Old.To = eoI 0 l b + eB l x.length ctx b := by
  unfold eB; rw [eo]; rfl
 obtain ⟨P, hP⟩ : ∃ P, P = M7 l x y (mkH l x.length ctx a b) := ⟨_, rfl⟩
 have hPl : P.Lines = R5 l x y ((cAt l a).Old - eA l ctx a) a (b - a) ++ Q6 32 (sub x (eoI 0 l b) (eoI 0 l b + eB l x.length ctx b)) := by
  rw [hP]; unfold M7
  show R5 l x y _ (mkH l x.length ctx a b).First.toNat ((mkH l x.length ctx a b).Last.toNat - (mkH l x.length ctx a b).First.toNat) ++ Q6 32 (sub x (X4 l _ (mkH l x.length ctx a b).First.toNat ((mkH l x.length ctx a b).Last.toNat - (mkH l x.length ctx a b).First.toNat)) _) = _
  rw [hL, hF, hOF, hOT, posTo_eo _ _ _ (by omega), show a + (b - a) = b by omega]
 have hPO : P.Old = (cAt l a).Old - eA l ctx a := by rw [hP]; rfl
 have hPN : P.New = (cAt l a).New - eA l ctx a := by rw [hP]; rfl
 have h43 : C1 P.Lines 43 = sub x ((cAt l a).Old - eA l ctx a) (eoI 0 l b + eB l x.length ctx b) := by
  rw [hPl, linesNot_app, linesNot_put, if_neg (by decide), m1]
  exact n6 x (by omega) (by omega) (by omega)
 have h45 : C1 P.Lines 45 = sub y ((cAt l a).New - eA l ctx a) (enI 0 l b + eB l x.length ctx b) := by
  rw [hPl, linesNot_app, linesNot_put, if_neg (by decide), m2, w5]
  exact n6 y (by omega) (by omega) (by omega)
 have hon : J0 P = eoI 0 l b + eB l x.length ctx b - ((cAt l a).Old - eA l ctx a) := by
  unfold J0; rw [h43]; exact sub_length x (by omega) (by omega) (by omega)
 have hnn : J5 P = enI 0 l b + eB l x.length ctx b - ((cAt l a).New - eA l ctx a) := by
  unfold J5; rw [h45]; exact sub_length y (by omega) (by omega) (by omega)
 rw [← hP]
 refine ⟨hPO, hPN, by omega, by omega, by omega, by omega, by omega, by omega, ?_, ?_, ?_, ?_⟩
 ·rw [h43]; congr 1
  ·exact hPO.symm
  ·omega
 ·rw [h45]; congr 1
  ·exact hPN.symm
  ·omega
 ·rw [hPl, someCh_app]
  have e : R5 l x y ((cAt l a).Old - eA l ctx a) a (b - a) = R5 l x y ((cAt l a).Old - eA l ctx a) a (b - 1 - a + 1) := by congr 1; omega
  rw [e]
  simp only [R5, someCh_app]
  rw [show a + (b - 1 - a) = b - 1 by omega]
  have key : R4 (Q6 45 (sub x (cAt l (b - 1)).Old (j8 (cAt l (b - 1))))) = true ∨ R4 (Q6 43 (sub y (cAt l (b - 1)).New ((cAt l (b - 1)).New + (cAt l (b - 1)).NewLen))) = true := by
   obtain ⟨g3a, g3b⟩ := g3
   obtain ⟨g1a, g1b⟩ := g1
   by_cases h0 : (cAt l (b - 1)).OldLen = 0
   ·right
    refine someCh_put (by decide) fun e0 => ?_
    have := sub_length y (a := (cAt l (b - 1)).New) (b := (cAt l (b - 1)).New + (cAt l (b - 1)).NewLen) g3a (by omega) (by omega)
    rw [e0] at this; simp at this; omega
   ·left
    refine someCh_put (by decide) fun e0 => ?_
    have := sub_length x (a := (cAt l (b - 1)).Old) (b := j8 (cAt l (b - 1))) g1a (by unfold j8; omega) (by unfold j8; omega)
    rw [e0] at this; unfold j8 at this; simp at this; omega
  rcases key with e1 | e1 <;> rw [e1] <;> simp
 ·intro hx hy
  rw [hPl, List.all_append, madeTo_good hx hy, Bool.true_and]
  exact goodLn_put (.inl rfl) (fun s hs => hx s (sub_mem hs))
theorem ScFit.hunks (h : ScFit x y l) {ctx : Int} (hc : 0 ≤ ctx) (hx : ∀ s ∈ x, L5 s = true) (hy : ∀ s ∈ y, L5 s = true) : ∀ (hs : List Hunk) (a : Nat), GrOk l x.length ctx a hs l.length →
  ∀ (i j e : Int), i = eoI 0 l a + e → j = enI 0 l a + e → 0 ≤ e → e ≤ ctx → (a = 0 → e = 0) →
  S6 i j (hs.map (M7 l x y)) = true ∧ (F7 (hs.map (M7 l x y)) 43).Sublist (x.drop i.toNat) ∧ (F7 (hs.map (M7 l x y)) 45).Sublist (y.drop j.toNat) ∧
   ∀ p ∈ hs.map (M7 l x y), (p.Old + J0 p ≤ x.length ∧ p.New + J5 p ≤ y.length ∧ 0 ≤ p.Old ∧ 0 ≤ p.New) ∧ C1 p.Lines 43 = sub x p.Old (p.Old + J0 p) ∧ C1 p.Lines 45 = sub y p.New (p.New + J5 p)
 | [], a, _, i, j, e, _, _, _, _, _ => ⟨rfl, by simp [F7], by simp [F7], by simp⟩
 | hk :: hs, a, ⟨b, hab, ho, hE, hr⟩, i, j, e, hi, hj, he, hec, he0 => by
  have hb := hr.le
  have hob : b < l.length → opens l ctx b := by
   intro hlt
   cases hs with
   | nil => exact absurd hr (by show ¬ b = l.length; omega)
   | cons h2 hs2 => obtain ⟨_, _, ho2, _⟩ := hr; exact ho2
  obtain ⟨w1, w2, w3, w4, w5⟩ := h.after hc hb hob (by omega)
  obtain ⟨q1, q2, q3⟩ := h.before hc (show a < l.length by omega) ho
  have H := h.hunk hc hab hb ho hob
  rw [← hE] at H
  obtain ⟨P, hP⟩ : ∃ P, P = M7 l x y hk := ⟨_, rfl⟩
  rw [← hP] at H
  obtain ⟨i1, i2, i3, i4⟩ := ScFit.hunks h hc hx hy hs b hr (P.Old + J0 P) (P.New + J5 P) (eB l x.length ctx b) H.oe H.ne w1 w2 (by omega)
  obtain ⟨k1, ⟨k2, k2'⟩, k3, ⟨k4, k4'⟩, k5, k6, k7, k8⟩ := s5 _ _ _ _ _ _ h.sc a (show a < l.length by omega)
  have h1 := H.old
  have h2 := H.new
  have h3 := H.o0
  have h4 := H.n0
  have h5 := H.ox
  have h6 := H.ny
  have h7 := h.lx
  have h8 := h.ly
  have n1 : 0 ≤ J0 P := by unfold J0; omega
  have n2 : 0 ≤ J5 P := by unfold J5; omega
  have hgap : e + eA l ctx a ≤ (cAt l a).Old - eoI 0 l a := by
   by_cases h0 : a = 0
   ·have := he0 h0; omega
   ·have := opens_gap ho h0; omega
  obtain ⟨r1, r2, r3, r4⟩ := h.nn a (by omega)
  have hij : i ≤ P.Old ∧ j ≤ P.New ∧ P.Old - i = P.New - j ∧ 0 ≤ i ∧ 0 ≤ j := by omega
  have hsub : ∀ (z : List Str) (i f t : Int), 0 ≤ i → i ≤ f → f ≤ t → ∀ r : List Str, r.Sublist (z.drop t.toNat) → (sub z f t ++ r).Sublist (z.drop i.toNat) := by
   intro z i f t h0 h1 h2 r hr
   have e1 : z.drop f.toNat = sub z f t ++ z.drop t.toNat := by
    unfold sub
    rw [show t.toNat = f.toNat + (t.toNat - f.toNat) by omega, ← List.drop_drop, show f.toNat + (t.toNat - f.toNat) - f.toNat = t.toNat - f.toNat by omega, List.take_append_drop]
   have e2 : z.drop f.toNat = (z.drop i.toNat).drop (f.toNat - i.toNat) := by rw [List.drop_drop]; congr 1; omega
   refine List.Sublist.trans ?_ (List.drop_sublist (f.toNat - i.toNat) (z.drop i.toNat))
   rw [← e2, e1]
   exact List.Sublist.append_left hr _
  have key : ∀ (k : UInt8), F7 ((hk :: hs).map (M7 l x y)) k = C1 P.Lines k ++ F7 (hs.map (M7 l x y)) k := by
   intro k; rw [hP]; simp [F7]
  refine ⟨?_, ?_, ?_, ?_⟩
  ·rw [List.map_cons, ← hP]
   simp only [S6, H.gl hx hy, i1, Bool.and_true, Bool.true_and, Bool.and_eq_true, decide_eq_true_eq]
   refine ⟨?_, by omega⟩
   unfold P0
   rw [H.ch]
   rintro (((((e0 | e0) | e0) | e0) | e0) | e0)
   ·cases e0
   all_goals omega
  ·rw [key, H.ol]
   exact hsub x i P.Old (P.Old + J0 P) hij.2.2.2.1 hij.1 (by omega) _ i2
  ·rw [key, H.nl]
   exact hsub y j P.New (P.New + J5 P) hij.2.2.2.2 hij.2.1 (by omega) _ i3
  ·rw [List.map_cons, ← hP]
   intro p hp
   rcases List.mem_cons.1 hp with rfl | hp
   ·exact ⟨⟨h5, h6, h3, h4⟩, H.ol, H.nl⟩
   ·exact i4 p hp
theorem endedBut_sub : ∀ {s z : List Str}, s.Sublist z → K3 z = true → K3 s = true := by
 intro s z hs
 induction hs with
 | slnil => exact fun h => h
 | cons a _ ih =>
  intro h
  simp only [K3, Bool.and_eq_true] at h
  exact ih h.2
 | cons_cons a hs2 ih =>
  intro h
  simp only [K3, Bool.and_eq_true, Bool.or_eq_true] at h ⊢
  refine ⟨?_, ih h.2⟩
  rcases h.1 with h1 | h1
  ·left
   rw [List.isEmpty_iff] at h1 ⊢
   rw [h1] at hs2
   exact List.sublist_nil.1 hs2
  ·exact .inr h1
def O3 (l : List Change) (x y : List Str) (ctx : Int) : List PatchHunk := (H8 l x.length ctx l.length).map (M7 l x y)
theorem ScFit.good (h : ScFit x y l) {ctx : Int} (hc : 0 ≤ ctx) (hx : ∀ s ∈ x, L5 s = true) (hy : ∀ s ∈ y, L5 s = true) (ex : K3 x = true) (ey : K3 y = true) : N8 (O3 l x y ctx) = true := by
 obtain ⟨h1, h2, h3, _⟩ := h.hunks hc hx hy _ 0 (x6 l x.length ctx l.length) 0 0 0 rfl rfl (Int.le_refl _) hc (fun _ => rfl)
 unfold N8 sideOk O3
 rw [h1, endedBut_sub h2 (by simpa using ex), endedBut_sub h3 (by simpa using ey)]
 rfl
theorem ScFit.texts (h : ScFit x y l) {ctx : Int} (hc : 0 ≤ ctx) (hx : ∀ s ∈ x, L5 s = true) (hy : ∀ s ∈ y, L5 s = true) : ∀ p ∈ O3 l x y ctx, (p.Old + J0 p ≤ x.length ∧ p.New + J5 p ≤ y.length ∧ 0 ≤ p.Old ∧ 0 ≤ p.New) ∧ C1 p.Lines 43 = sub x p.Old (p.Old + J0 p) ∧ C1 p.Lines 45 = sub y p.New (p.New + J5 p) :=
 (h.hunks hc hx hy _ 0 (x6 l x.length ctx l.length) 0 0 0 rfl rfl (Int.le_refl _) hc (fun _ => rfl)).2.2.2
end
theorem lineOk_snoc (cur : Str) (c : UInt8) (h : ∀ z ∈ cur, z ≠ 10) : L5 (cur ++ [c]) = true := by
 unfold L5
 simp only [List.dropLast_concat, Bool.and_eq_true]
 refine ⟨List.all_eq_true.2 fun z hz => by simpa using h z hz, by simp⟩
theorem linesAux_ok : ∀ (s cur : Str), (∀ z ∈ cur, z ≠ 10) → (∀ t ∈ G2 cur s, L5 t = true) ∧ K3 (G2 cur s) = true
 | [], cur, hc => by
  unfold G2
  split
  ·exact ⟨by simp, rfl⟩
  ·rename_i h
   refine ⟨fun t ht => ?_, rfl⟩
   obtain rfl : t = cur := by simpa using ht
   obtain ⟨d, r, e⟩ : ∃ d r, t = r ++ [d] := ⟨t.getLast h, t.dropLast, (List.dropLast_concat_getLast h).symm⟩
   rw [e]
   exact lineOk_snoc r d fun z hz => hc z (by rw [e]; simp [hz])
 | c :: r, cur, hc => by
  rw [R3]
  by_cases h : c = 10
  ·rw [if_pos h]
   obtain ⟨h1, h2⟩ := linesAux_ok r [] (by simp)
   refine ⟨fun t ht => ?_, ?_⟩
   ·rcases List.mem_cons.1 ht with rfl | ht
    ·exact lineOk_snoc cur c hc
    ·exact h1 t ht
   ·simp only [K3, h2, Bool.and_true, Bool.or_eq_true]
    right; unfold ended; subst h; simp
  ·rw [if_neg h]
   refine linesAux_ok r (cur ++ [c]) fun z hz => ?_
   rcases List.mem_append.1 hz with hz | hz
   ·exact hc z hz
   ·simp at hz; subst hz; exact h
theorem Z2 (b : Str) : (∀ t ∈ D9 b, L5 t = true) ∧ K3 (D9 b) = true := linesAux_ok b [] (by simp)
end Go.AL
namespace Go.AL
open Go
theorem madeGo_sc {m n : Int} (hm : I8 m) (hn : I8 n) : ∀ (p : List Span) (i j i0 j0 : Int) (k0 : Nat), Asc m n i j p → 0 ≤ i0 → 0 ≤ j0 → i0 ≤ i → i - i0 = j - j0 → (0 < k0 → i0 < i) → J4 k0 i0 j0 (T9 i j p m n) m n = true
 | [], i, j, i0, j0, k0, ha, h1, h2, h3, h4, h5 => by
  obtain ⟨a1, a2⟩ : i ≤ m ∧ j ≤ n := ha
  obtain ⟨m1, m2⟩ := hm
  obtain ⟨n1, n2⟩ := hn
  unfold T9
  split
  ·rename_i hc
   simp only [J4, Bool.and_eq_true, decide_eq_true_eq]
   refine ⟨?_, by omega⟩
   unfold badC I8
   show ¬ (((((((¬ (0 ≤ i ∧ i ≤ 4096) ∨ ¬ (0 ≤ m - i ∧ m - i ≤ 4096)) ∨ ¬ (0 ≤ j ∧ j ≤ 4096)) ∨ ¬ (0 ≤ n - j ∧ n - j ≤ 4096)) ∨ m - i + (n - j) = 0) ∨ i - i0 ≠ j - j0) ∨ i < i0) ∨ (0 < (k0 : Int) ∧ i = i0))
   omega
  ·simp only [J4, decide_eq_true_eq]; omega
 | x :: r, i, j, i0, j0, k0, ha, h1, h2, h3, h4, h5 => by
  obtain ⟨a1, a2, a3⟩ := ha
  have hle := a3.le
  unfold T9
  split
  ·rename_i hc
   simp only [List.cons_append, List.nil_append, J4, Bool.and_eq_true, decide_eq_true_eq]
   refine ⟨?_, ?_⟩
   ·obtain ⟨m1, m2⟩ := hm
    obtain ⟨n1, n2⟩ := hn
    unfold badC I8
    show ¬ (((((((¬ (0 ≤ i ∧ i ≤ 4096) ∨ ¬ (0 ≤ x.From - i ∧ x.From - i ≤ 4096)) ∨ ¬ (0 ≤ j ∧ j ≤ 4096)) ∨ ¬ (0 ≤ x.To - j ∧ x.To - j ≤ 4096)) ∨ x.From - i + (x.To - j) = 0) ∨ i - i0 ≠ j - j0) ∨ i < i0) ∨ (0 < (k0 : Int) ∧ i = i0))
    omega
   ·exact madeGo_sc hm hn r _ _ _ _ _ a3 (by omega) (by omega) (by omega) (by omega) (fun _ => by omega)
  ·rw [List.nil_append]
   exact madeGo_sc hm hn r _ _ _ _ _ a3 h1 h2 (by omega) (by omega) (fun h => by omega)
def EqAt (X Y : List Str) (s : Span) : Prop := 0 ≤ s.From ∧ 0 ≤ s.To ∧ ∃ v, X[s.From.toNat]? = some v ∧ Y[s.To.toNat]? = some v
theorem sub_snoc {X : List Str} {a b : Int} {v : Str} (h0 : 0 ≤ a) (h1 : a ≤ b) (hv : X[b.toNat]? = some v) : sub X a (b + 1) = sub X a b ++ [v] := by
 rw [← n6 X h0 h1 (by omega : b ≤ b + 1)]
 congr 1
 unfold sub
 obtain ⟨hl, e⟩ := List.getElem?_eq_some_iff.1 hv
 rw [List.drop_eq_getElem_cons hl, e, show (b + 1).toNat - b.toNat = 1 by omega]
 rfl
theorem madeGo_eq {X Y : List Str} : ∀ (p : List Span) (i j i0 j0 : Int), Asc X.length Y.length i j p → 0 ≤ i0 → 0 ≤ j0 → i0 ≤ i → j0 ≤ j → (∀ s ∈ p, EqAt X Y s) → sub X i0 i = sub Y j0 j → EqRuns X Y i0 j0 (T9 i j p X.length Y.length)
 | [], i, j, i0, j0, ha, h1, h2, h3, h4, he, hs => by
  obtain ⟨a1, a2⟩ : i ≤ (X.length : Int) ∧ j ≤ (Y.length : Int) := ha
  unfold T9
  split
  ·refine ⟨hs, ?_⟩
   show sub X (i + (X.length - i)) X.length = sub Y (j + (Y.length - j)) Y.length
   rw [show i + ((X.length : Int) - i) = X.length by omega, show j + ((Y.length : Int) - j) = Y.length by omega, z8, z8]
  ·have e1 : (X.length : Int) = i := by omega
   have e2 : (Y.length : Int) = j := by omega
   show sub X i0 X.length = sub Y j0 Y.length
   rw [e1, e2]; exact hs
 | x :: r, i, j, i0, j0, ha, h1, h2, h3, h4, he, hs => by
  obtain ⟨a1, a2, a3⟩ := ha
  obtain ⟨_, _, v, v1, v2⟩ := he x (by simp)
  have hr : ∀ s ∈ r, EqAt X Y s := fun s hs => he s (by simp [hs])
  unfold T9
  split
  ·refine ⟨hs, ?_⟩
   show EqRuns X Y (i + (x.From - i)) (j + (x.To - j)) (T9 (x.From + 1) (x.To + 1) r X.length Y.length)
   rw [show i + (x.From - i) = x.From by omega, show j + (x.To - j) = x.To by omega]
   refine madeGo_eq r _ _ _ _ a3 (by omega) (by omega) (by omega) (by omega) hr ?_
   rw [sub_snoc (by omega) (Int.le_refl _) v1, sub_snoc (by omega) (Int.le_refl _) v2, z8, z8]
  ·have e1 : x.From = i := by omega
   have e2 : x.To = j := by omega
   rw [List.nil_append]
   refine madeGo_eq r _ _ _ _ a3 h1 h2 (by omega) (by omega) hr ?_
   rw [sub_snoc h1 (by omega) v1, sub_snoc h2 (by omega) v2, e1, e2, hs]
theorem walkGo_eq : ∀ (a b : List Int) (p q : Int), ∀ s ∈ J9 p q a b, p ≤ s.From ∧ q ≤ s.To ∧ ∃ v, a[(s.From - p).toNat]? = some v ∧ b[(s.To - q).toNat]? = some v := by
 intro a
 induction a with
 | nil => intro b p q s hs; simp [J9] at hs
 | cons x a iha =>
  intro b
  induction b with
  | nil => intro p q s hs; simp [J9] at hs
  | cons y b ihb =>
   intro p q s hs
   unfold J9 at hs
   split at hs
   ·rename_i e
    rcases List.mem_cons.1 hs with rfl | hs
    ·exact ⟨Int.le_refl _, Int.le_refl _, x, by simp, by simp [e]⟩
    ·obtain ⟨h1, h2, v, h3, h4⟩ := iha b (p + 1) (q + 1) s hs
     refine ⟨by omega, by omega, v, ?_, ?_⟩
     ·rw [show (s.From - p).toNat = (s.From - (p + 1)).toNat + 1 by omega]; simpa using h3
     ·rw [show (s.To - q).toNat = (s.To - (q + 1)).toNat + 1 by omega]; simpa using h4
   ·split at hs
    ·obtain ⟨h1, h2, v, h3, h4⟩ := iha (y :: b) (p + 1) q s hs
     refine ⟨by omega, by omega, v, ?_, h4⟩
     rw [show (s.From - p).toNat = (s.From - (p + 1)).toNat + 1 by omega]; simpa using h3
    ·obtain ⟨h1, h2, v, h3, h4⟩ := ihb p (q + 1) s hs
     refine ⟨by omega, by omega, v, h3, ?_⟩
     rw [show (s.To - q).toNat = (s.To - (q + 1)).toNat + 1 by omega]; simpa using h4
theorem placeOf_inj : ∀ (l : List Str) (s t : Str) (k : Int), 0 ≤ k → s ∈ l → t ∈ l → N5 l s k = N5 l t k → s = t
 | [], _, _, _, _, h, _, _ => by simp at h
 | x :: r, s, t, k, hk, hs, ht, e => by
  unfold N5 at e
  by_cases h1 : x = s
  ·by_cases h2 : x = t
   ·exact h1.symm.trans h2
   ·rw [if_pos h1, if_neg h2] at e
    have ht' : t ∈ r := (List.mem_cons.1 ht).resolve_left (fun q => h2 q.symm)
    have := placeOf_le r t (k + 1) (by omega) ht'
    omega
  ·have hs' : s ∈ r := (List.mem_cons.1 hs).resolve_left (fun q => h1 q.symm)
   by_cases h2 : x = t
   ·rw [if_neg h1, if_pos h2] at e
    have := placeOf_le r s (k + 1) (by omega) hs'
    omega
   ·rw [if_neg h1, if_neg h2] at e
    exact placeOf_inj r s t (k + 1) (by omega) hs' ((List.mem_cons.1 ht).resolve_left (fun q => h2 q.symm)) e
theorem idsOf_get {names f : List Str} {i : Nat} {v : Int} (h : (G9 names f)[i]? = some v) : ∃ s, f[i]? = some s ∧ N5 names s 0 = v := by
 unfold G9 at h
 rw [List.getElem?_map] at h
 cases hf : f[i]? with
 | none => rw [hf] at h; cases h
 | some s => rw [hf] at h; exact ⟨s, rfl, Option.some.inj h⟩
theorem script_fit (x y : List Str) (hx : x.length ≤ 4096) (hy : y.length ≤ 4096) : ScFit x y (S8 x y) := by
 have l1 : (G9 (E4 [x, y]) x).length = x.length := by simp [G9]
 have l2 : (G9 (E4 [x, y]) y).length = y.length := by simp [G9]
 have hA := walkGo_asc (G9 (E4 [x, y]) x) (G9 (E4 [x, y]) y) 0 0
 rw [l1, l2, Int.zero_add, Int.zero_add] at hA
 refine ⟨by omega, by omega, ?_, ?_⟩
 ·unfold S8 walkOf madeOf
  rw [l1, l2]
  exact madeGo_sc ⟨by omega, by omega⟩ ⟨by omega, by omega⟩ _ _ _ _ _ _ hA (Int.le_refl _) (Int.le_refl _) (Int.le_refl _) rfl (fun h => absurd h (by omega))
 ·unfold S8 walkOf madeOf
  rw [l1, l2]
  refine madeGo_eq _ _ _ _ _ hA (Int.le_refl _) (Int.le_refl _) (Int.le_refl _) (Int.le_refl _) ?_ (by rw [z8, z8])
  intro s hs
  obtain ⟨h1, h2, v, h3, h4⟩ := walkGo_eq _ _ _ _ s hs
  rw [Int.sub_zero] at h3 h4
  obtain ⟨u, u1, u2⟩ := idsOf_get h3
  obtain ⟨w, w1, w2⟩ := idsOf_get h4
  have e : u = w := placeOf_inj (E4 [x, y]) u w 0 (Int.le_refl _) (a6 _ _ x (by simp) (List.mem_of_getElem? u1)) (a6 _ _ y (by simp) (List.mem_of_getElem? w1)) (u2.trans w2.symm)
  subst e
  exact ⟨h1, h2, u, u1, w1⟩
theorem szL_sides : ∀ (ls : List PatchLine), ls.all L7 = true → (ls.map szL).sum ≤ 64 * ((C1 ls 43).length + (C1 ls 45).length) + ((C1 ls 43).flatten.length + (C1 ls 45).flatten.length)
 | [], _ => by simp
 | q :: ls, h => by
  rw [List.all_cons, Bool.and_eq_true] at h
  have ih := szL_sides ls h.2
  have hk : q.Kind = 32 ∨ q.Kind = 45 ∨ q.Kind = 43 := by
   have hg := h.1
   unfold L7 at hg
   have hg := A0 hg
   by_cases h1 : q.Kind = 32
   ·exact .inl h1
   by_cases h2 : q.Kind = 45
   ·exact .inr (.inl h2)
   by_cases h3 : q.Kind = 43
   ·exact .inr (.inr h3)
   exact absurd (.inl ⟨⟨h1, h2⟩, h3⟩) hg
  have hd : ∀ k : UInt8, C1 (q :: ls) k = if q.Kind ≠ k then q.Text :: C1 ls k else C1 ls k := by
   intro k
   unfold C1
   by_cases e : q.Kind = k
   ·rw [if_neg (by simpa using e), List.filter_cons_of_neg (by simpa using e)]
   ·rw [if_pos e, List.filter_cons_of_pos (by simpa using e)]; rfl
  rw [hd 43, hd 45, List.map_cons, List.sum_cons]
  have hz : szL q = q.Text.length + 64 := rfl
  rcases hk with e | e | e <;> rw [e] <;> simp (decide := true) only [if_true, if_false, ne_eq, not_true_eq_false, not_false_eq_true, List.length_cons, List.flatten_cons, List.length_append] <;> omega
theorem goodGo_lines : ∀ (hs : List PatchHunk) (i j : Int), S6 i j hs = true → szP hs ≤ 128 * ((F7 hs 43).length + (F7 hs 45).length) + ((F7 hs 43).flatten.length + (F7 hs 45).flatten.length)
 | [], _, _, _ => by simp [szP]
 | h :: hs, i, j, hg => by
  simp only [S6, Bool.and_eq_true, decide_eq_true_eq] at hg
  obtain ⟨h1, h2, h3, h4⟩ := hg
  have ih := goodGo_lines hs _ _ h4
  have hl := szL_sides h.Lines h1
  have hne : 1 ≤ h.Lines.length := by
   cases hq : h.Lines with
   | nil => exact absurd (.inl (.inl (.inl (.inl (.inl (by rw [hq]; rfl)))))) h2
   | cons a b => simp
  have hcnt : h.Lines.length ≤ (C1 h.Lines 43).length + (C1 h.Lines 45).length := by
   have : 64 * h.Lines.length ≤ (h.Lines.map szL).sum := V6 h.Lines
   have key : ∀ ls : List PatchLine, ls.length ≤ (C1 ls 43).length + (C1 ls 45).length := by
    intro ls
    induction ls with
    | nil => simp
    | cons q ls ih =>
     have hd : ∀ k : UInt8, (C1 (q :: ls) k).length = if q.Kind ≠ k then (C1 ls k).length + 1 else (C1 ls k).length := by
      intro k
      unfold C1
      by_cases e : q.Kind = k
      ·rw [if_neg (by simpa using e), List.filter_cons_of_neg (by simpa using e)]
      ·rw [if_pos e, List.filter_cons_of_pos (by simpa using e)]; simp
     rw [hd 43, hd 45, List.length_cons]
     by_cases e : q.Kind = 43
     ·have e2 : q.Kind ≠ 45 := by rw [e]; decide
      rw [if_pos e2]; split <;> omega
     ·rw [if_pos e]; split <;> omega
   exact key h.Lines
  have hsz : szP (h :: hs) = szH h + szP hs := by simp [szP]
  have hszh : szH h = 64 + (h.Lines.map szL).sum := rfl
  have hs1 : ∀ k, F7 (h :: hs) k = C1 h.Lines k ++ F7 hs k := by intro k; simp [F7]
  rw [hsz, hszh, hs1 43, hs1 45]
  simp only [List.length_append, List.flatten_append]
  omega
theorem flatten_sub : ∀ {s z : List Str}, s.Sublist z → s.flatten.length ≤ z.flatten.length := by
 intro s z hs
 induction hs with
 | slnil => exact Nat.le_refl _
 | cons a _ ih => simp only [List.flatten_cons, List.length_append]; omega
 | cons_cons a _ ih => simp only [List.flatten_cons, List.length_append]; omega
theorem ScFit.size {x y : List Str} {l : List Change} (h : ScFit x y l) {ctx : Int} (hc : 0 ≤ ctx) (hx : ∀ s ∈ x, L5 s = true) (hy : ∀ s ∈ y, L5 s = true) : szP (O3 l x y ctx) ≤ 128 * (x.length + y.length) + (x.flatten.length + y.flatten.length) := by
 obtain ⟨h1, h2, h3, _⟩ := h.hunks hc hx hy _ 0 (x6 l x.length ctx l.length) 0 0 0 rfl rfl (Int.le_refl _) hc (fun _ => rfl)
 have h4 := goodGo_lines _ _ _ h1
 have e : O3 l x y ctx = (H8 l x.length ctx l.length).map (M7 l x y) := rfl
 rw [← e] at h2 h3 h4
 have h2' : (F7 (O3 l x y ctx) 43).Sublist x := by simpa using h2
 have h3' : (F7 (O3 l x y ctx) 45).Sublist y := by simpa using h3
 have := h2'.length_le
 have := h3'.length_le
 have := flatten_sub h2'
 have := flatten_sub h3'
 omega
theorem x7 (s : Str) : ∀ cur : Str, (G2 cur s).flatten = cur ++ s := by
 induction s with
 | nil => intro cur; unfold G2; split <;> simp [*]
 | cons c r ih => intro cur; rw [R3]; split <;> simp [ih]
theorem U1 (a : Str) : (D9 a).flatten.length = a.length ∧ (D9 a).length ≤ a.length := ⟨by unfold D9; rw [x7]; rfl, W4 a⟩
theorem splitOf_small {a : Str} (h : a.length ≤ 4096) : u4 a = (D9 a, 0) := by
 have := W4 a
 unfold u4; rw [if_neg (by omega)]
end Go.AL
namespace Go.AL
open Go
end Go.AL
namespace Go.AL
open Go
def flat (a b : List Int) (done : Nat → Nat → Bool) : List Int :=
 (List.range ((a.length + 1) * (b.length + 1))).map fun p => if done (p / (b.length + 1)) (p % (b.length + 1)) = true then (dist (a.drop (p / (b.length + 1))) (b.drop (p % (b.length + 1))) : Int) else 0
end Go.AL
namespace Go.AL
open Go
def GrX (l : List Change) (m ctx : Int) : Nat → List Hunk → Nat → Prop
 | a, [], k => a = k
 | a, h :: r, k => ∃ b, a < b ∧ opens l ctx a ∧ (∀ c, a < c → c < b → ¬ opens l ctx c) ∧ h = mkH l m ctx a b ∧ GrX l m ctx b r k
theorem GrX.le {l : List Change} {m ctx : Int} : ∀ {hs : List Hunk} {a k : Nat}, GrX l m ctx a hs k → a ≤ k
 | [], a, k, h => Nat.le_of_eq h
 | _ :: _, a, k, ⟨b, h1, _, _, _, h2⟩ => by have := GrX.le h2; omega
theorem GrX.snoc {l : List Change} {m ctx : Int} {k n : Nat} (ho : opens l ctx k) (hk : k < n) (hno : ∀ c, k < c → c < n → ¬ opens l ctx c) : ∀ {hs : List Hunk} {a : Nat}, GrX l m ctx a hs k → GrX l m ctx a (hs ++ [mkH l m ctx k n]) n
 | [], a, h => by
  obtain rfl : a = k := h
  exact ⟨n, hk, ho, hno, rfl, rfl⟩
 | _ :: _, a, ⟨b, h1, h2, h3, h4, h5⟩ => ⟨b, h1, h2, h3, h4, GrX.snoc ho hk hno h5⟩
theorem GrX.last {l : List Change} {m ctx : Int} {k : Nat} (hno : ¬ opens l ctx k) : ∀ {hs : List Hunk} {a : Nat}, GrX l m ctx a hs k → hs ≠ [] → GrX l m ctx a (hs.set (hs.length - 1) (hunkEnd l m ctx k (hs.getD (hs.length - 1) hunk0))) (k + 1)
 | [], _, _, h0 => absurd rfl h0
 | [h], a, ⟨b, h1, h2, h3, h4, h5⟩, _ => by
  obtain rfl : b = k := h5
  subst h4
  refine ⟨b + 1, by omega, h2, fun c hc1 hc2 => ?_, rfl, rfl⟩
  by_cases hcb : c = b
  ·rw [hcb]; exact hno
  ·exact h3 c hc1 (by omega)
 | h :: h' :: r, a, ⟨b, h1, h2, h3, h4, h5⟩, _ => by
  have ih := GrX.last hno h5 (by simp)
  refine ⟨b, h1, h2, h3, h4, ?_⟩
  simpa using ih
theorem GrX.len {l : List Change} {m ctx : Int} : ∀ {hs : List Hunk} {a k : Nat}, GrX l m ctx a hs k → hs.length ≤ k - a
 | [], _, _, _ => Nat.zero_le _
 | _ :: _, a, k, ⟨b, h1, _, _, _, h2⟩ => by have := GrX.len h2; have := h2.le; simp only [List.length_cons]; omega
end Go.AL
namespace Go.AL
open Go
end Go.AL
namespace Go.AL
open Go
theorem sc_make (m n : Int) : ∀ (l : List Change) (k0 : Nat) (i j : Int), (∀ k, k < l.length → I8 (cAt l k).Old ∧ I8 (cAt l k).OldLen ∧ I8 (cAt l k).New ∧ I8 (cAt l k).NewLen ∧ (cAt l k).OldLen + (cAt l k).NewLen ≠ 0 ∧ (cAt l k).Old - eoI i l k = (cAt l k).New - enI j l k ∧ eoI i l k ≤ (cAt l k).Old ∧ (0 < k0 + k → eoI i l k < (cAt l k).Old)) →
  (m - eoI i l l.length = n - enI j l l.length ∧ eoI i l l.length ≤ m) → J4 k0 i j l m n = true
 | [], k0, i, j, _, h => by
  have h1 : m - i = n - j ∧ i ≤ m := h
  simp only [J4, decide_eq_true_eq]; omega
 | c :: r, k0, i, j, h, he => by
  simp only [J4, Bool.and_eq_true, decide_eq_true_eq]
  refine ⟨?_, sc_make m n r (k0 + 1) _ _ (fun k hk => ?_) ?_⟩
  ·obtain ⟨h1, h2, h3, h4, h5, h6, h7, h8⟩ := h 0 (by simp)
   have h1 : I8 c.Old := h1
   have h2 : I8 c.OldLen := h2
   have h3 : I8 c.New := h3
   have h4 : I8 c.NewLen := h4
   have h5 : c.OldLen + c.NewLen ≠ 0 := h5
   have h6 : c.Old - i = c.New - j := h6
   have h7 : i ≤ c.Old := h7
   have h8 : 0 < k0 + 0 → i < c.Old := h8
   unfold badC
   rintro (((((((q | q) | q) | q) | q) | q) | q) | ⟨q, q2⟩)
   ·exact q h1
   ·exact q h2
   ·exact q h3
   ·exact q h4
   ·exact h5 q
   ·exact q h6
   ·omega
   ·have := h8 (by omega); omega
  ·have := h (k + 1) (by simpa using hk)
   rw [cAt_cons, p5, p6] at this
   obtain ⟨e1, e2, e3, e4, e5, e6, e7, e8⟩ := this
   exact ⟨e1, e2, e3, e4, e5, e6, e7, fun h0 => e8 (by omega)⟩
  ·rw [List.length_cons, p5, p6] at he; exact he
theorem eq_make (x y : List Str) : ∀ (l : List Change) (i j : Int), (∀ k, k < l.length → sub x (eoI i l k) (cAt l k).Old = sub y (enI j l k) (cAt l k).New) → sub x (eoI i l l.length) x.length = sub y (enI j l l.length) y.length → EqRuns x y i j l
 | [], _, _, _, h => h
 | c :: r, i, j, h, he => by
  refine ⟨h 0 (by simp), eq_make x y r _ _ (fun k hk => ?_) ?_⟩
  ·have := h (k + 1) (by simpa using hk)
   rw [cAt_cons, p5, p6] at this; exact this
  ·rw [List.length_cons, p5, p6] at he; exact he
theorem sub_get {x : List Str} {p q : Int} {t : Nat} (h0 : 0 ≤ p) (h : p + t < q) : (sub x p q)[t]? = x[(p + t).toNat]? := by
 unfold sub
 rw [List.getElem?_take, if_pos (by omega), List.getElem?_drop]
 congr 1; omega
theorem run_get {x y : List Str} {p q p' q' : Int} (h : sub x p q = sub y p' q') (h0 : 0 ≤ p) (h0' : 0 ≤ p') (hq : q ≤ x.length) (he : q - p = q' - p') {t : Nat} (ht : p + t < q) : ∃ v, x[(p + t).toNat]? = some v ∧ y[(p' + t).toNat]? = some v := by
 have h1 : x[(p + t).toNat]? = some x[(p + t).toNat] := List.getElem?_eq_getElem (by omega)
 refine ⟨_, h1, ?_⟩
 rw [← sub_get (q := q') h0' (by omega), ← h, sub_get h0 ht]; exact h1
theorem mem_spanRun {i j : Int} {n : Nat} {p : Span} (h : p ∈ U0 i j n) : ∃ t : Nat, t < n ∧ p = ⟨i + t, j + t⟩ := by
 unfold U0 at h
 obtain ⟨t, h1, h2⟩ := List.mem_map.1 h
 exact ⟨t, List.mem_range.1 h1, h2.symm⟩
theorem matched_eq {x y : List Str} : ∀ (l : List Change) (k0 : Nat) (i j : Int), J4 k0 i j l x.length y.length = true → EqRuns x y i j l → 0 ≤ i → 0 ≤ j → ∀ p ∈ S5 i j l x.length, EqAt x y p
 | [], k0, i, j, hs, he, hi, hj, p, hp => by
  simp only [J4, decide_eq_true_eq] at hs
  unfold S5 at hp
  obtain ⟨t, ht, rfl⟩ := mem_spanRun hp
  have he : sub x i x.length = sub y j y.length := he
  exact ⟨by dsimp only; omega, by dsimp only; omega, run_get he hi hj (by omega) (by omega) (by omega)⟩
 | c :: r, k0, i, j, hs, he, hi, hj, p, hp => by
  have hok := y9 _ _ _ _ _ _ hs
  have g := s5 x.length y.length (c :: r) k0 i j hs 0 (by simp)
  obtain ⟨g1, g2, g3, g4, g5, g6, g7, _⟩ := g
  have g1 : I8 c.Old := g1
  have g2 : I8 c.OldLen := g2
  have g3 : I8 c.New := g3
  have g4 : I8 c.NewLen := g4
  have g6 : c.Old - i = c.New - j := g6
  have g7 : i ≤ c.Old := g7
  simp only [J4, Bool.and_eq_true, decide_eq_true_eq] at hs
  unfold S5 at hp
  unfold I8 at g1 g2 g3 g4
  have hm := hok.2.2.2.2.2.2.end_le
  rcases List.mem_append.1 hp with hp | hp
  ·obtain ⟨t, ht, rfl⟩ := mem_spanRun hp
   exact ⟨by dsimp only; omega, by dsimp only; omega, run_get he.1 hi hj (by omega) (by omega) (by omega)⟩
  ·rw [show max i c.Old + c.OldLen = c.Old + c.OldLen by omega, show j + ((c.Old - i).toNat : Int) + c.NewLen = c.New + c.NewLen by omega] at hp
   exact matched_eq r (k0 + 1) _ _ hs.2 he.2 (by omega) (by omega) p hp
theorem ScFit.pairs {x y : List Str} {l : List Change} (h : ScFit x y l) : ∀ p ∈ U8 l x.length, EqAt x y p := matched_eq l 0 0 0 h.sc h.eq (Int.le_refl _) (Int.le_refl _)
def movedC (c : Change) : Change := ⟨c.Old + 1, c.OldLen, c.New + 1, c.NewLen⟩
def R9 (l : List Change) (k : Nat) : List Change := l.set k (movedC (cAt l k))
def atI (t : List Int) (i : Int) : Int := t.getD i.toNat 0
def downT (l : List Change) (k : Nat) (t : List Int) (f n : Int) : Prop := (f + n < t.length ∧ atI t f = atI t (f + n)) ∧ (k + 1 = l.length ∨ (cAt l k).Old + (cAt l k).OldLen + 1 < (cAt l (k + 1)).Old)
instance (l : List Change) (k : Nat) (t : List Int) (f n : Int) : Decidable (downT l k t f n) := by unfold downT; exact inferInstance
def Q9 (l : List Change) (a b : List Int) (k : Nat) : Bool :=
 if (cAt l k).NewLen = 0 then decide (downT l k a (cAt l k).Old (cAt l k).OldLen) else if (cAt l k).OldLen = 0 then decide (downT l k b (cAt l k).New (cAt l k).NewLen) else false
theorem M8 (l : List Change) (k : Nat) : (R9 l k).length = l.length := by simp [R9]
theorem cAt_moved (l : List Change) {k : Nat} (hk : k < l.length) (q : Nat) : cAt (R9 l k) q = if q = k then movedC (cAt l k) else cAt l q := by
 unfold R9
 by_cases h : q = k
 ·subst h
  have : ∀ z, cAt (l.set q z) q = z := fun z => by unfold cAt; simp [hk]
  rw [if_pos rfl, this]
 ·rw [if_neg h]; unfold cAt
  simp only [List.getD_eq_getElem?_getD]
  rw [List.getElem?_set_ne (Ne.symm h)]
theorem eo_moved (l : List Change) {k : Nat} (hk : k < l.length) (q : Nat) : eoI 0 (R9 l k) q = eoI 0 l q + (if q = k + 1 then 1 else 0) := by
 cases q with
 | zero => simp [eoI]
 | succ q =>
  rw [eoI_succ, eoI_succ, cAt_moved l hk]
  by_cases h : q = k
  ·subst h; rw [if_pos rfl, if_pos rfl]; simp only [j8, movedC]; omega
  ·rw [if_neg h, if_neg (by omega)]; omega
theorem en_moved (l : List Change) {k : Nat} (hk : k < l.length) (q : Nat) : enI 0 (R9 l k) q = enI 0 l q + (if q = k + 1 then 1 else 0) := by
 cases q with
 | zero => simp [enI]
 | succ q =>
  rw [enI_succ, enI_succ, cAt_moved l hk]
  by_cases h : q = k
  ·subst h; rw [if_pos rfl, if_pos rfl]; simp only [endN, movedC]; omega
  ·rw [if_neg h, if_neg (by omega)]; omega
structure IdsOf (x : List Str) (a : List Int) : Prop where
 len : a.length = x.length
 inj : ∀ (i j : Nat) (u v : Str) (z : Int), x[i]? = some u → x[j]? = some v → a[i]? = some z → a[j]? = some z → u = v
theorem ScFit.down {x y : List Str} {l : List Change} {a b : List Int} (h : ScFit x y l) (ha : IdsOf x a) (hb : IdsOf y b) {k : Nat} (hk : k < l.length) (hd : Q9 l a b k = true) : ScFit x y (R9 l k) := by
 have hlx := h.lx
 have hly := h.ly
 have hg := s5 _ _ _ 0 0 0 h.sc
 have hge := sc_end _ _ _ 0 0 0 h.sc
 have hq := eq_get _ _ _ _ _ h.eq
 have hqe := eq_end _ _ _ _ _ h.eq
 have hok := h.ok
 obtain ⟨c, hc⟩ : ∃ c, c = cAt l k := ⟨_, rfl⟩
 obtain ⟨g1, g2, g3, g4, g5, g6, g7, g8⟩ := hg k hk
 have hb4 := hok.get k hk
 rw [← hc] at g1 g2 g3 g4 g5 g6 g7 g8 hb4
 unfold I8 at g1 g2 g3 g4
 have eo1 : eoI 0 l (k + 1) = c.Old + c.OldLen := by rw [eoI_succ, ← hc]; rfl
 have en1 : enI 0 l (k + 1) = c.New + c.NewLen := by rw [enI_succ, ← hc]; rfl
 obtain ⟨E, E', hE1, hE2, hE3, hE4, hE5, hEn⟩ : ∃ E E' : Int, sub x (c.Old + c.OldLen) E = sub y (c.New + c.NewLen) E' ∧ E - (c.Old + c.OldLen) = E' - (c.New + c.NewLen) ∧ E ≤ x.length ∧ E' ≤ y.length ∧ (c.Old + c.OldLen < E) ∧ (k + 1 < l.length → E = (cAt l (k + 1)).Old ∧ E' = (cAt l (k + 1)).New ∧ c.Old + c.OldLen + 1 < E) := by
  by_cases hl : k + 1 = l.length
  ·rw [← hl, eo1, en1] at hge hqe
   refine ⟨x.length, y.length, hqe, by omega, by omega, by omega, ?_, fun q => absurd hl (by omega)⟩
   unfold Q9 at hd
   rw [← hc] at hd
   split at hd
   ·have := (A0 hd).1.1; rw [ha.len] at this; omega
   ·split at hd
    ·have := (A0 hd).1.1; rw [hb.len] at this; omega
    ·cases hd
  ·have hl : k + 1 < l.length := by omega
   obtain ⟨f1, f2, f3, f4, f5, f6, f7, f8⟩ := hg (k + 1) hl
   have f9 := hq (k + 1) hl
   have f10 := hok.get (k + 1) hl
   rw [eo1, en1] at f6 f9
   rw [eo1] at f7
   unfold I8 at f2 f4
   have hroom : c.Old + c.OldLen + 1 < (cAt l (k + 1)).Old := by
    unfold Q9 at hd
    rw [← hc] at hd
    split at hd
    ·have := (A0 hd).2; rw [← hc] at this; omega
    ·split at hd
     ·have := (A0 hd).2; rw [← hc] at this; omega
     ·cases hd
   exact ⟨_, _, f9, by omega, by omega, by omega, by omega, fun _ => ⟨rfl, rfl, hroom⟩⟩
 have hv : ∃ v, x[c.Old.toNat]? = some v ∧ y[c.New.toNat]? = some v := by
  obtain ⟨v, v1, v2⟩ := run_get (t := 0) hE1 (by omega) (by omega) (by omega) hE2 (by omega)
  simp only [Int.natCast_zero, Int.add_zero] at v1 v2
  unfold Q9 at hd
  rw [← hc] at hd
  split at hd
  ·rename_i hn
   have := (A0 hd).1.2
   rw [hn, Int.add_zero] at v2
   refine ⟨v, ?_, v2⟩
   have l1 : c.Old.toNat < a.length := by rw [ha.len]; omega
   have l2 : (c.Old + c.OldLen).toNat < a.length := by rw [ha.len]; omega
   have hx : x[c.Old.toNat]? = some x[c.Old.toNat] := List.getElem?_eq_getElem (by omega)
   have ea : a[c.Old.toNat]? = some (atI a c.Old) := by unfold atI; rw [List.getD_eq_getElem?_getD, List.getElem?_eq_getElem l1]; rfl
   have eb : a[(c.Old + c.OldLen).toNat]? = some (atI a (c.Old + c.OldLen)) := by unfold atI; rw [List.getD_eq_getElem?_getD, List.getElem?_eq_getElem l2]; rfl
   rw [← this] at eb
   have := ha.inj _ _ _ _ _ hx v1 ea eb
   rw [hx, this]
  ·split at hd
   ·rename_i _ hn
    have := (A0 hd).1.2
    rw [hn, Int.add_zero] at v1
    refine ⟨v, v1, ?_⟩
    have l1 : c.New.toNat < b.length := by rw [hb.len]; omega
    have l2 : (c.New + c.NewLen).toNat < b.length := by rw [hb.len]; omega
    have hx : y[c.New.toNat]? = some y[c.New.toNat] := List.getElem?_eq_getElem (by omega)
    have ea : b[c.New.toNat]? = some (atI b c.New) := by unfold atI; rw [List.getD_eq_getElem?_getD, List.getElem?_eq_getElem l1]; rfl
    have eb : b[(c.New + c.NewLen).toNat]? = some (atI b (c.New + c.NewLen)) := by unfold atI; rw [List.getD_eq_getElem?_getD, List.getElem?_eq_getElem l2]; rfl
    rw [← this] at eb
    have := hb.inj _ _ _ _ _ hx v2 ea eb
    rw [hx, this]
   ·cases hd
 obtain ⟨v, v1, v2⟩ := hv
 have hen0 : 0 ≤ eoI 0 l k ∧ 0 ≤ enI 0 l k := by
  cases k with
  | zero => simp [eoI, enI]
  | succ k =>
   obtain ⟨f1, f2, f3, f4, _⟩ := hg k (by omega)
   unfold I8 at f1 f2 f3 f4
   rw [eoI_succ, enI_succ]; unfold j8 endN; omega
 have htail : sub x (c.Old + c.OldLen + 1) E = sub y (c.New + c.NewLen + 1) E' := by
  have := run_tail (e := E - (c.Old + c.OldLen) - 1) hE1 (by omega) (by omega) (by omega) (by omega) hE2
  rw [show E - (E - (c.Old + c.OldLen) - 1) = c.Old + c.OldLen + 1 by omega, show E' - (E - (c.Old + c.OldLen) - 1) = c.New + c.NewLen + 1 by omega] at this
  exact this
 refine ⟨hlx, hly, sc_make _ _ _ 0 0 0 (fun q hql => ?_) ?_, eq_make _ _ _ 0 0 (fun q hql => ?_) ?_⟩
 ·rw [M8] at hql
  rw [cAt_moved l hk, eo_moved l hk, en_moved l hk]
  by_cases e : q = k
  ·rw [if_pos e, if_neg (show ¬ q = k + 1 by omega), e, ← hc]
   unfold I8
   simp only [movedC]
   refine ⟨by omega, g2, by omega, g4, g5, by omega, by omega, fun _ => by omega⟩
  ·rw [if_neg e]
   obtain ⟨f1, f2, f3, f4, f5, f6, f7, f8⟩ := hg q hql
   refine ⟨f1, f2, f3, f4, f5, ?_, ?_, ?_⟩
   ·by_cases e2 : q = k + 1
    ·rw [if_pos e2]; omega
    ·rw [if_neg e2]; omega
   ·by_cases e2 : q = k + 1
    ·rw [if_pos e2]; have := f8 (by omega); omega
    ·rw [if_neg e2]; omega
   ·intro h0
    by_cases e2 : q = k + 1
    ·rw [if_pos e2, e2, eo1]
     have := (hEn (by omega))
     omega
    ·rw [if_neg e2]; have := f8 h0; omega
 ·rw [M8, eo_moved l hk, en_moved l hk]
  by_cases e2 : l.length = k + 1
  ·rw [if_pos e2, e2, eo1, en1]
   rw [e2, eo1, en1] at hge
   have h1 : E ≤ x.length := hE3
   omega
  ·rw [if_neg e2]; omega
 ·rw [M8] at hql
  rw [cAt_moved l hk, eo_moved l hk, en_moved l hk]
  by_cases e : q = k
  ·rw [if_pos e, if_neg (show ¬ q = k + 1 by omega), e, ← hc]
   simp only [movedC, Int.add_zero]
   have := hq k hk
   rw [← hc] at this
   rw [sub_snoc hen0.1 g7 v1, sub_snoc hen0.2 (by omega) v2, this]
  ·rw [if_neg e]
   by_cases e2 : q = k + 1
   ·rw [if_pos e2]
    subst e2
    obtain ⟨q1, q2, _⟩ := hEn hql
    rw [eo1, en1, ← q1, ← q2]; exact htail
   ·rw [if_neg e2, Int.add_zero, Int.add_zero]
    exact hq q hql
 ·rw [M8, eo_moved l hk, en_moved l hk]
  by_cases e2 : l.length = k + 1
  ·rw [if_pos e2]
   rw [e2, eo1, en1] at hqe hge ⊢
   have := run_tail (e := x.length - (c.Old + c.OldLen) - 1) hqe (by omega) (by omega) (by omega) (by omega) (by omega)
   rw [show (x.length : Int) - (x.length - (c.Old + c.OldLen) - 1) = c.Old + c.OldLen + 1 by omega, show (y.length : Int) - (x.length - (c.Old + c.OldLen) - 1) = c.New + c.NewLen + 1 by omega] at this
   exact this
  ·rw [if_neg e2, Int.add_zero, Int.add_zero]; exact hqe
def measK (l : List Change) (a b : List Int) (k : Nat) : Nat := ((a.length : Int) - (cAt l k).Old).toNat + ((b.length : Int) - (cAt l k).New).toNat
def s6 (a b : List Int) (k : Nat) : Nat → List Change → List Change
 | 0, l => l
 | f + 1, l => if Q9 l a b k = true then s6 a b k f (R9 l k) else l
def Y4 (a b : List Int) (l : List Change) (k : Nat) : List Change := s6 a b k (measK l a b k) l
def p7 (a b : List Int) : Nat → List Change → List Change
 | 0, l => l
 | k + 1, l => p7 a b k (Y4 a b l k)
def j4 (l : List Change) : List (Int × Int) := l.map fun c => (c.OldLen, c.NewLen)
theorem lens_moved {l : List Change} {k : Nat} (hk : k < l.length) : j4 (R9 l k) = j4 l := by
 unfold j4 R9
 rw [List.map_set]
 have e : (movedC (cAt l k)).OldLen = l[k].OldLen ∧ (movedC (cAt l k)).NewLen = l[k].NewLen := by unfold cAt movedC; simp [hk]
 apply List.ext_getElem
 ·simp
 ·intro i h1 h2
  by_cases hi : k = i
  ·subst hi; simp [e.1, e.2]
  ·simp [hi]
section
variable {x y : List Str} {a b : List Int} (ha : IdsOf x a) (hb : IdsOf y b)
include ha hb
theorem meas_down {l : List Change} {k : Nat} (h : ScFit x y l) (hk : k < l.length) (hd : Q9 l a b k = true) : measK (R9 l k) a b k < measK l a b k := by
 have h' := (h.down ha hb hk hd).ok.get k (by rw [M8]; exact hk)
 unfold measK
 rw [cAt_moved l hk, if_pos rfl] at h' ⊢
 obtain ⟨⟨h1, _⟩, ⟨h2, _⟩, ⟨h3, _⟩, ⟨h4, _⟩, h5, h6⟩ := h'
 have e1 := ha.len
 have e2 := hb.len
 simp only [movedC] at h1 h2 h3 h4 h5 h6 ⊢
 omega
theorem slideK_stable {k : Nat} : ∀ (f g : Nat) (l : List Change), ScFit x y l → k < l.length → measK l a b k ≤ f → measK l a b k ≤ g → s6 a b k f l = s6 a b k g l
 | 0, 0, l, _, _, _, _ => rfl
 | 0, g + 1, l, h, hk, h1, _ => by
  unfold s6
  by_cases hd : Q9 l a b k = true
  ·have := meas_down ha hb h hk hd; omega
  ·rw [if_neg hd]
 | f + 1, 0, l, h, hk, _, h1 => by
  unfold s6
  by_cases hd : Q9 l a b k = true
  ·have := meas_down ha hb h hk hd; omega
  ·rw [if_neg hd]
 | f + 1, g + 1, l, h, hk, h1, h2 => by
  unfold s6
  by_cases hd : Q9 l a b k = true
  ·have := meas_down ha hb h hk hd
   rw [if_pos hd, if_pos hd]
   exact slideK_stable f g _ (h.down ha hb hk hd) (by rw [M8]; exact hk) (by omega) (by omega)
  ·rw [if_neg hd, if_neg hd]
theorem slideOne_down {l : List Change} {k : Nat} (h : ScFit x y l) (hk : k < l.length) (hd : Q9 l a b k = true) : Y4 a b l k = Y4 a b (R9 l k) k := by
 have hm := meas_down ha hb h hk hd
 unfold Y4
 obtain ⟨g, hg⟩ : ∃ g, measK l a b k = g + 1 := ⟨measK l a b k - 1, by omega⟩
 rw [hg]
 conv => lhs; unfold s6
 rw [if_pos hd]
 exact slideK_stable ha hb _ _ _ (h.down ha hb hk hd) (by rw [M8]; exact hk) (by omega) (Nat.le_refl _)
omit ha hb in
theorem slideOne_stop {l : List Change} {k : Nat} (hd : Q9 l a b k = false) : Y4 a b l k = l := by
 unfold Y4
 cases measK l a b k with
 | zero => rfl
 | succ n => unfold s6; rw [hd]; rfl
theorem slideK_fit {k : Nat} : ∀ (f : Nat) (l : List Change), ScFit x y l → k < l.length → ScFit x y (s6 a b k f l) ∧ j4 (s6 a b k f l) = j4 l
 | 0, l, h, _ => ⟨h, rfl⟩
 | f + 1, l, h, hk => by
  unfold s6
  by_cases hd : Q9 l a b k = true
  ·rw [if_pos hd]
   have := slideK_fit f _ (h.down ha hb hk hd) (by rw [M8]; exact hk)
   rw [lens_moved hk] at this; exact this
  ·rw [if_neg hd]; exact ⟨h, rfl⟩
theorem slideOne_fit {l : List Change} {k : Nat} (h : ScFit x y l) (hk : k < l.length) : ScFit x y (Y4 a b l k) ∧ j4 (Y4 a b l k) = j4 l := slideK_fit ha hb _ l h hk
omit ha hb in
theorem lens_len {l l' : List Change} (h : j4 l = j4 l') : l.length = l'.length := by
 have := congrArg List.length h
 simpa [j4] using this
theorem slideAll_fit : ∀ (k : Nat) (l : List Change), ScFit x y l → k ≤ l.length → ScFit x y (p7 a b k l) ∧ j4 (p7 a b k l) = j4 l
 | 0, l, h, _ => ⟨h, rfl⟩
 | k + 1, l, h, hk => by
  unfold p7
  obtain ⟨h1, h2⟩ := slideOne_fit ha hb h (k := k) (by omega)
  have h3 := slideAll_fit k _ h1 (by rw [lens_len h2]; omega)
  rw [h2] at h3; exact h3
end
theorem idsOf_ids {names x : List Str} (h : ∀ s ∈ x, s ∈ names) : IdsOf x (G9 names x) := by
 refine ⟨by simp [G9], fun i j u v z h1 h2 h3 h4 => ?_⟩
 obtain ⟨s, s1, s2⟩ := idsOf_get h3
 obtain ⟨t, t1, t2⟩ := idsOf_get h4
 rw [h1] at s1; cases s1
 rw [h2] at t1; cases t1
 exact placeOf_inj names u v 0 (Int.le_refl _) (h u (List.mem_of_getElem? h1)) (h v (List.mem_of_getElem? h2)) (s2.trans t2.symm)
def downOf (l : List Change) (a b : List Int) : List Change := p7 a b l.length l
end Go.AL
namespace Go.AL
open Go
def scriptD (x y : List Str) (d : Bool) : List Change := if d = true then downOf (S8 x y) (G9 (E4 [x, y]) x) (G9 (E4 [x, y]) y) else S8 x y
def made12 (on nn a b : Str) (ctx : Int) (d : Bool) : Patch × Int :=
 if I9 on = false ∨ I9 nn = false then (patch0, 120)
 else if ctx < 0 ∨ 1048576 < ctx then (patch0, 3)
 else (⟨on, nn, O3 (scriptD (D9 a) (D9 b) d) (D9 a) (D9 b) ctx⟩, 0)
theorem scriptD_fit (x y : List Str) (d : Bool) (hx : x.length ≤ 4096) (hy : y.length ≤ 4096) : ScFit x y (scriptD x y d) ∧ j4 (scriptD x y d) = j4 (S8 x y) := by
 have h := script_fit x y hx hy
 unfold scriptD
 cases d
 ·exact ⟨h, rfl⟩
 ·rw [if_pos rfl]
  exact slideAll_fit (idsOf_ids fun s hs => a6 _ _ x (by simp) hs) (idsOf_ids fun s hs => a6 _ _ y (by simp) hs) _ _ h (Nat.le_refl _)
theorem scriptD_len (x y : List Str) (d : Bool) (hx : x.length ≤ 4096) (hy : y.length ≤ 4096) : (scriptD x y d).length ≤ x.length + 1 := by
 rw [lens_len (scriptD_fit x y d hx hy).2]; exact scriptOf_len x y
theorem group_err {l : List Change} {m n ctx : Int} (h : ctx < 0 ∨ 1048576 < ctx) : u5 l m n ctx = ([], 3) := by unfold u5; rw [if_pos h]
theorem group_fit {x y : List Str} {l : List Change} (h : ScFit x y l) {ctx : Int} (hc : ¬ (ctx < 0 ∨ 1048576 < ctx)) : u5 l x.length y.length ctx = (H8 l x.length ctx l.length, 0) := by
 unfold u5
 rw [if_neg hc, h.check, if_neg (by simp)]
structure Made12 (on nn a b : Str) (l : List Change) (ctx : Int) : Prop where
 chk : G1 ⟨on, nn, O3 l (D9 a) (D9 b) ctx⟩ = 0
 wr : (H0 ⟨on, nn, O3 l (D9 a) (D9 b) ctx⟩).length ≤ 16777216
 fit : PFit ⟨on, nn, O3 l (D9 a) (D9 b) ctx⟩
 rg : ∀ h ∈ O3 l (D9 a) (D9 b) ctx, (-4611686018427387904 ≤ h.Old ∧ h.Old ≤ 4611686018427387904) ∧ (-4611686018427387904 ≤ h.New ∧ h.New ≤ 4611686018427387904)
 sz : szP (O3 l (D9 a) (D9 b) ctx) ≤ 268435456
theorem made12_is (on nn a b : Str) (l : List Change) (ctx : Int) (hn : I9 on = true) (hn' : I9 nn = true) (hc : ¬ (ctx < 0 ∨ 1048576 < ctx)) (ha : a.length ≤ 4096) (hb : b.length ≤ 4096) (hfit : ScFit (D9 a) (D9 b) l) : Made12 on nn a b l ctx := by
 obtain ⟨f1, f2⟩ := U1 a
 obtain ⟨f3, f4⟩ := U1 b
 obtain ⟨a1, a2⟩ := Z2 a
 obtain ⟨b1, b2⟩ := Z2 b
 have hc0 : 0 ≤ ctx := by omega
 have hg := hfit.good hc0 a1 b1 a2 b2
 have hz := hfit.size hc0 a1 b1
 have ht := hfit.texts hc0 a1 b1
 have hxl := hfit.lx
 have hyl := hfit.ly
 obtain ⟨hs, hhs⟩ : ∃ hs, hs = O3 l (D9 a) (D9 b) ctx := ⟨_, rfl⟩
 rw [← hhs] at hg hz ht
 have hon := hn
 have hnn := hn'
 unfold I9 at hon hnn
 have o1 := A0 hon
 have o2 := A0 hnn
 have hw : (H0 ⟨on, nn, hs⟩).length ≤ 16777216 := by
  have h1 : (H0 ⟨on, nn, hs⟩).length ≤ (W5 ⟨on, nn, hs⟩).flatten.length + szP hs := by
   unfold H0 writePs
   rw [List.flatten_append, List.length_append]
   have := i7 hs
   show _ + ((hs).map Q2).flatten.flatten.length ≤ _
   omega
  have h2 := o9 ⟨on, nn, hs⟩
  have h3 : (W5 ⟨on, nn, hs⟩).flatten.length ≤ 4 * on.length + 4 * nn.length + 14 := h2
  omega
 refine ⟨?_, by rw [← hhs]; exact hw, ⟨by dsimp only; omega, by dsimp only; omega, by rw [← hhs]; dsimp only; omega⟩, fun h hm => ?_, by rw [← hhs]; omega⟩
 ·rw [← hhs]
  unfold G1
  rw [if_neg (by rw [show (Patch.mk on nn hs).OldName = on from rfl, show (Patch.mk on nn hs).NewName = nn from rfl, hn, hn']; simp)]
  rw [if_neg (by rw [hg]; simp), if_neg (by omega)]
 ·rw [← hhs] at hm
  obtain ⟨⟨q1, q2, q3, q4⟩, _⟩ := ht h hm
  unfold J0 at q1
  unfold J5 at q2
  omega
end Go.AL
namespace Go.AL
open Go
section
variable {x y : List Str} {l : List Change}
end
end Go.AL
namespace Go.AL
open Go
def ChainH (x y : List Str) (i j : Int) : List PatchHunk → Prop
 | [] => sub x i x.length = sub y j y.length ∧ 0 ≤ i ∧ 0 ≤ j ∧ i ≤ x.length ∧ j ≤ y.length
 | h :: r => (sub x i h.Old = sub y j h.New ∧ C1 h.Lines 43 = sub x h.Old (h.Old + J0 h) ∧ C1 h.Lines 45 = sub y h.New (h.New + J5 h)) ∧ (0 ≤ i ∧ 0 ≤ j ∧ i ≤ h.Old ∧ j ≤ h.New ∧ h.Old + J0 h ≤ x.length ∧ h.New + J5 h ≤ y.length) ∧ ChainH x y (h.Old + J0 h) (h.New + J5 h) r
def aT (i : Int) (hs : List PatchHunk) (k : Nat) : Int := if k = 0 then i else (hAt hs (k - 1)).Old + J0 (hAt hs (k - 1))
def bT (j : Int) (hs : List PatchHunk) (k : Nat) : Int := if k = 0 then j else (hAt hs (k - 1)).New + J5 (hAt hs (k - 1))
theorem aT_cons (i : Int) (h : PatchHunk) (r : List PatchHunk) (k : Nat) : aT i (h :: r) (k + 1) = aT (h.Old + J0 h) r k := by cases k <;> rfl
theorem bT_cons (i : Int) (h : PatchHunk) (r : List PatchHunk) (k : Nat) : bT i (h :: r) (k + 1) = bT (h.New + J5 h) r k := by cases k <;> rfl
theorem chain_get {x y : List Str} : ∀ {hs : List PatchHunk} {i j : Int}, ChainH x y i j hs → ∀ k, k < hs.length →
  (sub x (aT i hs k) (hAt hs k).Old = sub y (bT j hs k) (hAt hs k).New ∧ C1 (hAt hs k).Lines 43 = sub x (hAt hs k).Old ((hAt hs k).Old + J0 (hAt hs k)) ∧ C1 (hAt hs k).Lines 45 = sub y (hAt hs k).New ((hAt hs k).New + J5 (hAt hs k))) ∧
   (0 ≤ aT i hs k ∧ 0 ≤ bT j hs k ∧ aT i hs k ≤ (hAt hs k).Old ∧ bT j hs k ≤ (hAt hs k).New ∧ (hAt hs k).Old + J0 (hAt hs k) ≤ x.length ∧ (hAt hs k).New + J5 (hAt hs k) ≤ y.length)
 | [], _, _, _, k, hk => by simp at hk
 | h :: r, i, j, ⟨h1, h2, h3⟩, 0, _ => ⟨h1, h2⟩
 | h :: r, i, j, ⟨h1, h2, h3⟩, k + 1, hk => by
  rw [aT_cons, bT_cons]
  exact chain_get h3 k (by simpa using hk)
theorem chain_end {x y : List Str} : ∀ {hs : List PatchHunk} {i j : Int}, ChainH x y i j hs → sub x (aT i hs hs.length) x.length = sub y (bT j hs hs.length) y.length ∧ 0 ≤ aT i hs hs.length ∧ 0 ≤ bT j hs hs.length ∧ aT i hs hs.length ≤ x.length ∧ bT j hs hs.length ≤ y.length
 | [], _, _, h => h
 | h :: r, i, j, ⟨_, _, h3⟩ => by rw [List.length_cons, aT_cons, bT_cons]; exact chain_end h3
theorem chain_out {x y : List Str} {hs : List PatchHunk} (h : ChainH x y 0 0 hs) : ∀ k, k ≤ hs.length → outTo hs x k = sub y 0 (bT 0 hs k)
 | 0, _ => by simp [outTo, bT, sub]
 | k + 1, hk => by
  obtain ⟨⟨g1, g2, g3⟩, q1, q2, q3, q4, q5, q6⟩ := chain_get h k (by omega)
  have n2 : 0 ≤ J5 (hAt hs k) := by unfold J5; omega
  have ih := chain_out h k (by omega)
  have e1 : atTo hs k = aT 0 hs k := rfl
  have e2 : bT 0 hs (k + 1) = (hAt hs k).New + J5 (hAt hs k) := rfl
  simp only [outTo]
  rw [ih, e1, g1, g3, e2, n6 y (by omega) q2 q4, n6 y (by omega) (by omega) (by omega)]
theorem sub_all (x : List Str) (i : Int) : sub x i x.length = x.drop i.toNat := by
 unfold sub
 rw [List.take_of_length_le (by rw [List.length_drop]; omega)]
theorem chain_apply {x y : List Str} {hs : List PatchHunk} (h : ChainH x y 0 0 hs) : outTo hs x hs.length ++ x.drop (atTo hs hs.length).toNat = y := by
 obtain ⟨h1, h2, h3, h4, h5⟩ := chain_end h
 rw [chain_out h hs.length (Nat.le_refl _), show atTo hs hs.length = aT 0 hs hs.length from rfl, ← sub_all, h1, n6 y (by omega) h3 h5, sub_all]
 simp
theorem chain_fits {x y : List Str} : ∀ {hs : List PatchHunk} {i j : Int}, ChainH x y i j hs → fitN hs x = hs.length
 | [], _, _, _ => rfl
 | h :: r, i, j, ⟨⟨h1, h2, h3⟩, ⟨g1, g2, g3, g4, g5, g6⟩, h4⟩ => by
  have ih := chain_fits h4
  have hf : fitsOf h x = true := by
   unfold fitsOf
   rw [if_neg (by omega)]
   refine decide_eq_true ?_
   have e : ((C1 h.Lines 43).length : Int) = J0 h := rfl
   conv => rhs; rw [h2]
   unfold sub
   congr 1
   omega
  simp only [fitN]
  rw [if_pos hf, ih, List.length_cons]
theorem ScFit.chain {x y : List Str} {l : List Change} (h : ScFit x y l) {ctx : Int} (hc : 0 ≤ ctx) : ∀ (hs : List Hunk) (a : Nat), GrOk l x.length ctx a hs l.length →
  ∀ (i j e : Int), i = eoI 0 l a + e → j = enI 0 l a + e → 0 ≤ e → e ≤ ctx → (a = 0 → e = 0) → i ≤ x.length → j ≤ y.length → ChainH x y i j (hs.map (M7 l x y))
 | [], a, hr, i, j, e, hi, hj, he, _, _, hix, hjy => by
  have hr : a = l.length := hr
  have hq := eq_end _ _ _ _ _ h.eq
  have hge := sc_end _ _ _ 0 0 0 h.sc
  obtain ⟨r1, r2, r3, r4⟩ := h.nn a (by omega)
  rw [← hr] at hq hge
  refine ⟨?_, by omega, by omega, hix, hjy⟩
  have := run_tail (e := x.length - i) hq r1 r2 (by omega) (by omega) (by omega)
  rw [show (x.length : Int) - (x.length - i) = i by omega, show (y.length : Int) - (x.length - i) = j by omega] at this
  exact this
 | hk :: hs, a, ⟨b, hab, ho, hE, hr⟩, i, j, e, hi, hj, he, hec, he0, hix, hjy => by
  have hb := hr.le
  have hob : b < l.length → opens l ctx b := by
   intro hlt
   cases hs with
   | nil => exact absurd hr (by show ¬ b = l.length; omega)
   | cons h2 hs2 => obtain ⟨_, _, ho2, _⟩ := hr; exact ho2
  obtain ⟨w1, w2, w3, w4, w5⟩ := h.after hc hb hob (by omega)
  obtain ⟨q1, q2, q3⟩ := h.before hc (show a < l.length by omega) ho
  have H := h.hunk hc hab hb ho hob
  rw [← hE] at H
  obtain ⟨P, hP⟩ : ∃ P, P = M7 l x y hk := ⟨_, rfl⟩
  rw [← hP] at H
  have ih := ScFit.chain h hc hs b hr (P.Old + J0 P) (P.New + J5 P) (eB l x.length ctx b) H.oe H.ne w1 w2 (by omega) H.ox H.ny
  obtain ⟨k1, ⟨k2, k2'⟩, k3, ⟨k4, k4'⟩, k5, k6, k7, k8⟩ := s5 _ _ _ _ _ _ h.sc a (show a < l.length by omega)
  have h1 := H.old
  have h2 := H.new
  have h3 := H.o0
  have h4 := H.n0
  have hgap : e + eA l ctx a ≤ (cAt l a).Old - eoI 0 l a := by
   by_cases h0 : a = 0
   ·have := he0 h0; omega
   ·have := opens_gap ho h0; omega
  obtain ⟨r1, r2, r3, r4⟩ := h.nn a (by omega)
  have hij : i ≤ P.Old ∧ j ≤ P.New ∧ P.Old - i = P.New - j ∧ 0 ≤ i ∧ 0 ≤ j := by omega
  have hrun := eq_get _ _ _ _ _ h.eq a (show a < l.length by omega)
  have t1 := run_tail (e := (cAt l a).Old - i) hrun r1 r2 (by omega) (by omega) (by omega)
  rw [show (cAt l a).Old - ((cAt l a).Old - i) = i by omega, show (cAt l a).New - ((cAt l a).Old - i) = j by omega] at t1
  have t2 := run_head (e := P.Old - i) t1 (by omega) (by omega) (by omega) (by omega) (by omega)
  rw [show i + (P.Old - i) = P.Old by omega, show j + (P.Old - i) = P.New by omega] at t2
  rw [List.map_cons, ← hP]
  exact ⟨⟨t2, H.ol, H.nl⟩, ⟨by omega, by omega, hij.1, hij.2.1, H.ox, H.ny⟩, ih⟩
theorem ScFit.chain0 {x y : List Str} {l : List Change} (h : ScFit x y l) {ctx : Int} (hc : 0 ≤ ctx) : ChainH x y 0 0 (O3 l x y ctx) :=
 h.chain hc _ 0 (x6 l x.length ctx l.length) 0 0 0 rfl rfl (Int.le_refl _) hc (fun _ => rfl) (by omega) (by omega)
theorem listOk_lines : ∀ (y : List Str), (∀ s ∈ y, L5 s = true) → K3 y = true → listOk y = true
 | [], _, _ => rfl
 | s :: r, h, he => by
  simp only [K3, Bool.and_eq_true] at he
  simp only [listOk, Bool.and_eq_true]
  exact ⟨⟨h s (List.mem_cons_self ..), he.1⟩, listOk_lines r (fun t ht => h t (List.mem_cons_of_mem _ ht)) he.2⟩
theorem apply14_chain {p : Patch} {a b : Str} (hc : G1 p = 0) (ha : a.length ≤ 4096) (hb : b.length ≤ 4096) (h : ChainH (D9 a) (D9 b) 0 0 p.Hunks) : apply14 p a = (b, 0) := by
 have hf : fits14 p a = ((p.Hunks.length : Int), 0) := by
  unfold fits14
  rw [hc, if_neg (by simp), splitOf_small ha, if_neg (by simp), chain_fits h]
 obtain ⟨b1, b2⟩ := Z2 b
 obtain ⟨f1, f2⟩ := U1 b
 have hfl : (D9 b).flatten = b := by have := x7 b []; simpa [D9] using this
 have hok := listOk_lines (D9 b) b1 b2
 unfold apply14
 rw [hf, if_neg (by simp), if_neg (by simp)]
 unfold applyOf
 rw [chain_apply h]
 dsimp only
 rw [hok, if_neg (by decide)]
 unfold joinOf
 rw [hok, if_neg (by decide), if_neg (by omega), hfl]
end Go.AL
namespace Go.AL
open Go
def X6 (c : UInt8) : Bool := decide (48 ≤ c.toNat ∧ c.toNat ≤ 57)
def K4 (s : Str) : Str := s.takeWhile X6
def Y5 (ds : Str) : Nat := ds.foldl (fun n c => 10 * n + (c.toNat - 48)) 0
def R7 (s : Str) : Option (Nat × Nat) :=
 if K4 s = [] ∨ (s.head? = some 48 ∧ 1 < (K4 s).length) ∨ 2147483647 < Y5 (K4 s) then none else some (Y5 (K4 s), (K4 s).length)
theorem decV_snoc (ds : Str) (c : UInt8) : Y5 (ds ++ [c]) = 10 * Y5 ds + (c.toNat - 48) := by
 unfold Y5; rw [List.foldl_append]; rfl
theorem m8 (k : Nat) (h : k < 10) : (UInt8.ofNat (48 + k)).toNat = 48 + k := by
 rw [UInt8.toNat_ofNat']; omega
theorem dec_digits (u : Nat) : (∀ c ∈ Lib.decDigits u, X6 c = true) ∧ Y5 (Lib.decDigits u) = u ∧ Lib.decDigits u ≠ [] ∧ ((Lib.decDigits u).head? = some 48 → u = 0) ∧ (1 < (Lib.decDigits u).length → 10 ≤ u) := by
 induction u using Nat.strongRecOn with
 | _ u ih =>
  rw [Lib.decDigits]
  split
  ·rename_i h
   refine ⟨?_, ?_, by simp, ?_, by simp⟩
   ·intro c hc
    simp only [List.mem_cons, List.not_mem_nil, or_false] at hc
    subst hc; unfold X6; rw [m8 u h]; simp; omega
   ·unfold Y5; simp only [List.foldl_cons, List.foldl_nil]; rw [m8 u h]; omega
   ·intro h1
    simp only [List.head?_cons, Option.some.injEq] at h1
    have := congrArg UInt8.toNat h1
    rw [m8 u h] at this
    have e : (48 : UInt8).toNat = 48 := rfl
    omega
  ·rename_i h
   obtain ⟨h1, h2, h3, h4, h5⟩ := ih (u / 10) (by omega)
   have h6 : u % 10 < 10 := Nat.mod_lt _ (by omega)
   refine ⟨?_, ?_, by simp, ?_, fun _ => by omega⟩
   ·intro c hc
    rcases List.mem_append.1 hc with hc | hc
    ·exact h1 c hc
    ·simp only [List.mem_cons, List.not_mem_nil, or_false] at hc
     subst hc; unfold X6; rw [m8 _ h6]; simp; omega
   ·rw [decV_snoc, h2, m8 _ h6]; omega
   ·intro h7
    rw [List.head?_append] at h7
    cases hd : (Lib.decDigits (u / 10)).head? with
    | none => exact absurd (List.head?_eq_none_iff.1 hd) h3
    | some x =>
     rw [hd] at h7
     have h7 : x = 48 := by simpa using h7
     have := h4 (by rw [hd, h7])
     omega
theorem digs_app {ds t : Str} (h : ∀ c ∈ ds, X6 c = true) (ht : ∀ c, t.head? = some c → X6 c = false) : K4 (ds ++ t) = ds := by
 unfold K4
 rw [List.takeWhile_append_of_pos h]
 cases t with
 | nil => simp
 | cons c r => rw [List.takeWhile_cons, ht c rfl]; simp
theorem fmt_dec {n : Int} (h0 : 0 ≤ n) (h1 : n ≤ 2147483647) : K2 n = Lib.decDigits n.toNat := by
 unfold K2 Lib.itoa; rw [if_neg (by omega), if_neg (by omega)]
theorem num_fmt {n : Int} {t : Str} (h0 : 0 ≤ n) (h1 : n ≤ 2147483647) (ht : ∀ c, t.head? = some c → X6 c = false) : R7 (K2 n ++ t) = some (n.toNat, (K2 n).length) := by
 rw [fmt_dec h0 h1]
 obtain ⟨h2, h3, h4, h5, h6⟩ := dec_digits n.toNat
 have e := digs_app h2 ht
 unfold R7
 rw [e, h3]
 rw [if_neg]
 rintro (h | ⟨h, h'⟩ | h)
 ·exact h4 h
 ·have h7 : (Lib.decDigits n.toNat).head? = some 48 := by
   rw [List.head?_append] at h
   cases hd : (Lib.decDigits n.toNat).head? with
   | none => exact absurd (List.head?_eq_none_iff.1 hd) h4
   | some x => rw [hd] at h; simpa using h
  have := h5 h7; have := h6 h'; omega
 ·omega
def s7 (s : Str) (a c : Nat) (e : Nat) : Option (Int × Int × Nat) :=
 if G5 (if 0 < c then (a : Int) - 1 else a) c = s.take e then some ((if 0 < c then (a : Int) - 1 else a), (c : Int), e) else none
def Q3 (s : Str) : Option (Int × Int × Nat) :=
 match R7 s with
 | none => none
 | some (a, k) => if s[k]? = some 44 then (match R7 (s.drop (k + 1)) with | none => none | some (c, k2) => s7 s a c (k + 1 + k2)) else s7 s a 1 k
theorem rngFin_ok {s : Str} {a c e : Nat} {st : Int} (hst : st = if 0 < c then (a : Int) - 1 else a) (h : G5 st c = s.take e) : s7 s a c e = some (st, (c : Int), e) := by
 unfold s7; rw [← hst, if_pos h]
theorem rng_range {a n : Int} {t : Str} (h0 : 0 ≤ a) (h1 : 0 ≤ n) (h2 : a ≤ 2147483647) (h3 : n ≤ 2147483647 - a) (ht : ∀ c, t.head? = some c → X6 c = false ∧ c ≠ 44) : Q3 (G5 a n ++ t) = some (a, n, (G5 a n).length) := by
 have hr : G5 a n = if n = 0 then K2 a ++ [44, 48] else if n = 1 then K2 (a + 1) else K2 (a + 1) ++ [44] ++ K2 n := by
  unfold G5; rw [if_neg (by omega)]
 have hf0 : K2 0 = [48] := by rw [fmt_dec (by omega) (by omega)]; rw [Lib.decDigits]; rfl
 have hd44 : X6 44 = false := by decide
 have hT : (G5 a n ++ t).take (G5 a n).length = G5 a n := List.take_left
 by_cases hn0 : n = 0
 ·subst hn0
  rw [if_pos rfl] at hr
  have e1 : G5 a 0 ++ t = K2 a ++ (44 :: (K2 0 ++ t)) := by rw [hr, hf0]; simp
  have ed : (K2 a ++ (44 :: (K2 0 ++ t))).drop ((K2 a).length + 1) = K2 0 ++ t := by rw [List.drop_append]; simp
  have el : (K2 a).length + 1 + (K2 0).length = (G5 a 0).length := by rw [hr, hf0]; simp
  rw [e1] at hT ⊢
  unfold Q3
  rw [num_fmt h0 h2 (by intro c hc; cases hc; exact hd44)]
  dsimp only
  rw [if_pos (by simp), ed, num_fmt (n := 0) (by omega) (by omega) (fun c hc => (ht c hc).1)]
  dsimp only
  rw [el]
  exact rngFin_ok (st := a) (c := 0) (by simp; omega) hT.symm
 ·by_cases hn1 : n = 1
  ·subst hn1
   rw [if_neg (by omega), if_pos rfl] at hr
   rw [hr] at hT ⊢
   unfold Q3
   rw [num_fmt (by omega) (by omega) (fun c hc => (ht c hc).1)]
   dsimp only
   rw [if_neg]
   ·exact rngFin_ok (st := a) (c := 1) (by simp; omega) (by rw [hT]; exact hr)
   ·rw [List.getElem?_append_right (Nat.le_refl _), Nat.sub_self]
    cases t with
    | nil => simp
    | cons c r => simp; exact fun e => (ht c rfl).2 e
  ·rw [if_neg hn0, if_neg hn1] at hr
   have e1 : G5 a n ++ t = K2 (a + 1) ++ (44 :: (K2 n ++ t)) := by rw [hr]; simp
   have ed : (K2 (a + 1) ++ (44 :: (K2 n ++ t))).drop ((K2 (a + 1)).length + 1) = K2 n ++ t := by rw [List.drop_append]; simp
   have el : (K2 (a + 1)).length + 1 + (K2 n).length = (G5 a n).length := by rw [hr]; simp; omega
   have e4 : ((n.toNat : Nat) : Int) = n := by omega
   rw [e1] at hT ⊢
   unfold Q3
   rw [num_fmt (by omega) (by omega) (by intro c hc; cases hc; exact hd44)]
   dsimp only
   rw [if_pos (by simp), ed, num_fmt (n := n) (by omega) (by omega) (fun c hc => (ht c hc).1)]
   dsimp only
   rw [el]
   have := rngFin_ok (s := K2 (a + 1) ++ (44 :: (K2 n ++ t))) (a := (a + 1).toNat) (c := n.toNat) (e := (G5 a n).length) (st := a) (by rw [if_pos (by omega)]; omega) (by rw [hT, e4])
   rw [this, e4]
def octV (a b c : UInt8) : Option UInt8 :=
 if ((((((a.toNat < 48 ∨ 55 < a.toNat) ∨ b.toNat < 48) ∨ 55 < b.toNat) ∨ c.toNat < 48) ∨ 55 < c.toNat) ∨ 256 ≤ 64 * (a.toNat - 48) + 8 * (b.toNat - 48) + (c.toNat - 48)) then none
 else some (UInt8.ofNat (64 * (a.toNat - 48) + 8 * (b.toNat - 48) + (c.toNat - 48)))
def escAt : Str → Option (UInt8 × Nat)
 | [] => none
 | d :: r => if d.toNat = 34 ∨ d.toNat = 92 then some (d, 1) else if d.toNat = 110 then some (10, 1) else if d.toNat = 116 then some (9, 1) else match r with
  | e :: f :: _ => (octV d e f).map fun x => (x, 3)
  | _ => none
theorem escAt_pos {s : Str} {x : UInt8} {k : Nat} (h : escAt s = some (x, k)) : 1 ≤ k ∧ k ≤ s.length := by
 cases s with
 | nil => cases h
 | cons d r =>
  simp only [escAt] at h
  split at h
  ·cases h; simp
  ·split at h
   ·cases h; simp
   ·split at h
    ·cases h; simp
    ·split at h
     ·simp only [Option.map_eq_some_iff] at h
      obtain ⟨_, _, h⟩ := h
      cases h; simp
     ·cases h
def H6 (s : Str) (i : Nat) (acc : Str) : Option (Str × Nat) :=
 if h : i < s.length then
  if s[i].toNat = 34 then some (acc, i + 1)
  else if s[i].toNat = 92 then (match he : escAt (s.drop (i + 1)) with | none => none | some (x, k) => H6 s (i + 1 + k) (acc ++ [x]))
  else H6 s (i + 1) (acc ++ [s[i]])
 else none
termination_by s.length - i
decreasing_by all_goals omega
def R6 (s : Str) : Option (Str × Nat) :=
 if s.head? = some 34 then (match H6 s 1 [] with | none => none | some (w, k) => if I4 w = s.take k then some (w, k) else none)
 else if s.takeWhile M6 = [] then none else some (s.takeWhile M6, (s.takeWhile M6).length)
theorem wordGo_pos {s : Str} (n : Nat) : ∀ {i : Nat} {acc w : Str} {k : Nat}, s.length - i ≤ n → H6 s i acc = some (w, k) → i < k ∧ k ≤ s.length ∧ w.length + i ≤ acc.length + k := by
 induction n with
 | zero =>
  intro i acc w k hn h
  rw [H6, dif_neg (by omega)] at h; cases h
 | succ n ih =>
  intro i acc w k hn h
  rw [H6] at h
  split at h
  ·rename_i hi
   split at h
   ·cases h; omega
   ·split at h
    ·split at h
     ·cases h
     ·rename_i x k' he
      have h1 := escAt_pos he
      rw [List.length_drop] at h1
      have := ih (by omega) h
      rw [List.length_append] at this; simp only [List.length_cons, List.length_nil] at this; omega
    ·have := ih (by omega) h
     rw [List.length_append] at this; simp only [List.length_cons, List.length_nil] at this; omega
  ·cases h
theorem esc_step (c : UInt8) (pre r acc : Str) : H6 (pre ++ (N1 c ++ (r ++ [34]))) pre.length acc = H6 (pre ++ (N1 c ++ (r ++ [34]))) (pre.length + (N1 c).length) (acc ++ [c]) := by
 have hc := c.toNat_lt
 have hget : ∀ (d : UInt8) (l : Str), (pre ++ d :: l)[pre.length]? = some d := by intro d l; rw [List.getElem?_append_right (Nat.le_refl _), Nat.sub_self]; rfl
 have hdrop : ∀ (d : UInt8) (l : Str), (pre ++ d :: l).drop (pre.length + 1) = l := by intro d l; rw [List.drop_append]; simp
 have e92 : (92 : UInt8).toNat = 92 := rfl
 have e110 : (110 : UInt8).toNat = 110 := rfl
 have e116 : (116 : UInt8).toNat = 116 := rfl
 have key : ∀ (l : Str) (k : Nat), escAt (l ++ (r ++ [34])) = some (c, k) → k = l.length → H6 (pre ++ ((92 :: l) ++ (r ++ [34]))) pre.length acc = H6 (pre ++ ((92 :: l) ++ (r ++ [34]))) (pre.length + (92 :: l).length) (acc ++ [c]) := by
  intro l k hl hk
  subst hk
  rw [H6, dif_pos (by simp)]
  have hg : (pre ++ ((92 :: l) ++ (r ++ [34])))[pre.length]'(by simp) = 92 := by
   have := hget 92 (l ++ (r ++ [34]))
   rw [List.getElem?_eq_getElem (by simp)] at this
   exact Option.some.inj this
  rw [hg, if_neg (by decide), if_pos e92]
  have hd : (pre ++ ((92 :: l) ++ (r ++ [34]))).drop (pre.length + 1) = l ++ (r ++ [34]) := hdrop 92 _
  split
  ·rename_i he; rw [hd, hl] at he; cases he
  ·rename_i x k' he
   rw [hd, hl] at he; cases he
   rw [List.length_cons, show pre.length + 1 + l.length = pre.length + (l.length + 1) by omega]
 unfold N1
 split
 ·rename_i h
  refine key [c] 1 ?_ rfl
  simp only [List.cons_append, List.nil_append, escAt]
  rw [if_pos h]
 ·rename_i h
  split
  ·rename_i h1
   refine key [110] 1 ?_ rfl
   simp only [List.cons_append, List.nil_append, escAt]
   rw [if_neg (by decide), if_pos (by decide)]
   have : c = 10 := UInt8.toNat_inj.1 h1
   rw [this]
  ·rename_i h1
   split
   ·rename_i h2
    refine key [116] 1 ?_ rfl
    simp only [List.cons_append, List.nil_append, escAt]
    rw [if_neg (by decide), if_neg (by decide), if_pos (by decide)]
    have : c = 9 := UInt8.toNat_inj.1 h2
    rw [this]
   ·rename_i h2
    split
    ·rename_i h3
     refine key (octOf c) 3 ?_ (by rw [y8]; rfl)
     rw [y8]
     have t : ∀ k, k < 8 → (UInt8.ofNat (48 + k)).toNat = 48 + k := fun k hk => m8 k (by omega)
     have t1 := t (c.toNat / 64) (by omega)
     have t2 := t (c.toNat / 8 % 8) (by omega)
     have t3 := t (c.toNat % 8) (by omega)
     simp only [List.cons_append, List.nil_append, escAt]
     rw [t1, if_neg (by omega), if_neg (by omega), if_neg (by omega)]
     unfold octV
     rw [t1, t2, t3, if_neg (by omega)]
     simp only [Option.map_some, Option.some.injEq, Prod.mk.injEq, and_true]
     apply UInt8.toNat_inj.1
     rw [UInt8.toNat_ofNat']; omega
    ·rw [H6, dif_pos (by simp)]
     have hg : (pre ++ ([c] ++ (r ++ [34])))[pre.length]'(by simp) = c := by
      have := hget c (r ++ [34])
      rw [List.getElem?_eq_getElem (by simp)] at this
      exact Option.some.inj this
     rw [hg, if_neg (by omega), if_neg (by omega)]
     rfl
theorem word_go (w : Str) : ∀ (pre acc : Str), H6 (pre ++ ((w.map N1).flatten ++ [34])) pre.length acc = some (acc ++ w, (pre ++ ((w.map N1).flatten ++ [34])).length) := by
 induction w with
 | nil =>
  intro pre acc
  rw [H6, dif_pos (by simp)]
  have hg : (pre ++ ((([] : Str).map N1).flatten ++ [34]))[pre.length]'(by simp) = 34 := by simp
  rw [hg, if_pos (show (34 : UInt8).toNat = 34 from rfl)]; simp
 | cons c r ih =>
  intro pre acc
  have e : (((c :: r).map N1).flatten ++ [34]) = N1 c ++ ((r.map N1).flatten ++ [34]) := by simp
  rw [e, esc_step]
  have h1 := ih (pre ++ N1 c) (acc ++ [c])
  rw [List.append_assoc, List.length_append, List.append_assoc acc] at h1
  exact h1
theorem takeWhile_all {p : UInt8 → Bool} : ∀ {w : Str}, w.all p = true → w.takeWhile p = w
 | [], _ => rfl
 | c :: r, h => by
  simp only [List.all_cons, Bool.and_eq_true] at h
  rw [List.takeWhile_cons, if_pos h.1, takeWhile_all h.2]
theorem word_quote (w : Str) : R6 (I4 w) = some (w, (I4 w).length) := by
 unfold R6
 by_cases h : w ≠ [] ∧ w.all M6 = true
 ·have e : I4 w = w := by unfold I4; rw [if_pos h]
  rw [e]
  have e2 : w.takeWhile M6 = w := by
   exact takeWhile_all h.2
  rw [e2, if_neg, if_neg h.1]
  intro h34
  cases w with
  | nil => exact h.1 rfl
  | cons c r =>
   simp only [List.head?_cons, Option.some.injEq] at h34
   subst h34
   have := h.2
   simp only [List.all_cons, Bool.and_eq_true] at this
   exact absurd this.1 (by decide)
 ·have e : I4 w = [34] ++ ((w.map N1).flatten ++ [34]) := by unfold I4; rw [if_neg h]; rfl
  have e2 := word_go w [34] []
  rw [← e] at e2
  rw [if_pos (by rw [e]; rfl), show H6 (I4 w) 1 [] = _ from e2]
  dsimp only
  rw [List.nil_append, List.take_length, if_pos rfl]
end Go.AL
namespace Go.AL
open Go
def j5 (s : Str) : Option (List Str) := if s = [] then some [] else if ended s = true then some ((D9 s).map List.dropLast) else none
theorem linesAux_cut (a b cur : Str) (h : (10 : UInt8) ∉ a) : G2 cur (a ++ 10 :: b) = (cur ++ a ++ [10]) :: G2 [] b := by
 induction a generalizing cur with
 | nil => simp [G2]
 | cons c r ih =>
  simp only [List.mem_cons, not_or] at h
  rw [List.cons_append, R3, if_neg (fun e => h.1 e.symm), ih _ h.2]; simp
def P4 (ts : List Str) : Str := (ts.map fun t => t ++ [10]).flatten
theorem lines_withLf : ∀ (ts : List Str), (∀ t ∈ ts, (10 : UInt8) ∉ t) → D9 (P4 ts) = ts.map fun t => t ++ [10]
 | [], _ => rfl
 | t :: r, h => by
  have ih := lines_withLf r (fun x hx => h x (by simp [hx]))
  have e : P4 (t :: r) = t ++ 10 :: P4 r := by unfold P4; simp
  have h1 := linesAux_cut t (P4 r) [] (h t (by simp))
  unfold D9 at ih ⊢
  rw [e, h1, ih]; simp
theorem ended_app (a : Str) : ended (a ++ [10]) = true := by unfold ended; simp
theorem ended_iff {s : Str} : ended s = true ↔ ∃ a, s = a ++ [10] := by
 constructor
 ·intro h
  unfold ended at h
  have h : s.getLast? = some 10 := by simpa using h
  obtain ⟨ys, hy⟩ := List.getLast?_eq_some_iff.1 h
  exact ⟨ys, hy⟩
 ·rintro ⟨a, rfl⟩; exact ended_app a
theorem withLf_ended {ts : List Str} (h : ts ≠ []) : ended (P4 ts) = true := by
 have hl := List.dropLast_concat_getLast h
 rw [ended_iff]
 refine ⟨P4 ts.dropLast ++ ts.getLast h, ?_⟩
 conv => lhs; rw [← hl]
 unfold P4; simp
theorem linesS_with (ts : List Str) (h : ∀ t ∈ ts, (10 : UInt8) ∉ t) : j5 (P4 ts) = some ts := by
 unfold j5
 by_cases hn : ts = []
 ·subst hn; rfl
 ·have he := withLf_ended hn
  have h0 : P4 ts ≠ [] := fun e => by rw [e] at he; cases he
  rw [if_neg h0, if_pos he, lines_withLf ts h, List.map_map]
  congr 1
  conv => rhs; rw [← List.map_id ts]
  refine List.map_congr_left fun t _ => ?_
  simp
def p8 : Str := [92, 32, 78, 111, 32, 110, 101, 119, 108, 105, 110, 101, 32, 97, 116, 32, 101, 110, 100, 32, 111, 102, 32, 102, 105, 108, 101]
theorem markS_eq : markS = [10] ++ p8 ++ [10] := rfl
def O8 (x : PatchLine) : List Str := if ended x.Text = true then [x.Kind :: x.Text.dropLast] else [x.Kind :: x.Text, p8]
def T0 (h : PatchHunk) : Str := [64, 64, 32, 45] ++ G5 h.Old (J0 h) ++ [32, 43] ++ G5 h.New (J5 h) ++ [32, 64, 64]
def Z3 (h : PatchHunk) : List Str := T0 h :: (h.Lines.map O8).flatten
def Y7 (p : Patch) : List Str := ([45, 45, 45, 32] ++ I4 p.OldName) :: ([43, 43, 43, 32] ++ I4 p.NewName) :: (p.Hunks.map Z3).flatten
theorem withLf_app (a b : List Str) : P4 (a ++ b) = P4 a ++ P4 b := by unfold P4; simp
theorem withLf_cons (a : Str) (b : List Str) : P4 (a :: b) = a ++ [10] ++ P4 b := by unfold P4; simp
theorem lineLs_flat (x : PatchLine) : P4 (O8 x) = (N9 x).flatten := by
 unfold O8 N9
 by_cases h : ended x.Text = true
 ·rw [if_pos h, if_pos h]
  obtain ⟨a, ha⟩ := ended_iff.1 h
  rw [ha]; unfold P4; simp
 ·rw [if_neg h, if_neg h, markS_eq]; unfold P4; simp
theorem linesLs_flat (ls : List PatchLine) : P4 ((ls.map O8).flatten) = ((ls.map N9).flatten).flatten := by
 induction ls with
 | nil => rfl
 | cons x r ih => simp only [List.map_cons, List.flatten_cons, withLf_app, ih, lineLs_flat, List.flatten_append]
theorem hunkLs_flat (h : PatchHunk) : P4 (Z3 h) = (Q2 h).flatten := by
 unfold Z3 Q2
 rw [withLf_cons, linesLs_flat, List.flatten_cons]
 unfold T0 S7; simp
theorem patchLs_flat (p : Patch) : P4 (Y7 p) = H0 p := by
 unfold Y7 H0 writePs W5
 rw [withLf_cons, withLf_cons]
 have h : ∀ hs : List PatchHunk, P4 ((hs.map Z3).flatten) = ((hs.map Q2).flatten).flatten := by
  intro hs
  induction hs with
  | nil => rfl
  | cons x r ih => simp only [List.map_cons, List.flatten_cons, withLf_app, ih, hunkLs_flat, List.flatten_append]
 rw [h]; simp
theorem digs_noLf {n : Int} (h0 : 0 ≤ n) (h1 : n ≤ 2147483647) : (10 : UInt8) ∉ K2 n := by
 rw [fmt_dec h0 h1]
 intro h
 have := (dec_digits n.toNat).1 _ h
 revert this; decide
theorem fmt_noLf (n : Int) : (10 : UInt8) ∉ K2 n := by
 by_cases h : n < 0 ∨ 2147483647 < n
 ·unfold K2; rw [if_pos h]; simp
 ·exact digs_noLf (by omega) (by omega)
theorem range_noLf (a n : Int) : (10 : UInt8) ∉ G5 a n := by
 have h1 := fmt_noLf a; have h2 := fmt_noLf (a + 1); have h3 := fmt_noLf n
 unfold G5
 split
 ·simp
 ·split
  ·simp [h1]
  ·split
   ·exact h2
   ·simp [h2, h3]
theorem esc_noLf (c : UInt8) : (10 : UInt8) ∉ N1 c := by
 have hc := c.toNat_lt
 have hn : ∀ {d : UInt8}, d.toNat ≠ 10 → (10 : UInt8) ≠ d := fun h e => h (by rw [← e]; rfl)
 unfold N1
 split
 ·rename_i h; simp only [List.mem_cons, List.not_mem_nil, or_false, not_or]; exact ⟨by decide, hn (by omega)⟩
 ·split
  ·decide
  ·split
   ·decide
   ·split
    ·rw [y8]
     have t : ∀ k, k < 8 → (10 : UInt8) ≠ UInt8.ofNat (48 + k) := fun k hk => hn (by rw [m8 k (by omega)]; omega)
     simp only [List.mem_cons, List.not_mem_nil, or_false, not_or]
     exact ⟨by decide, t _ (by omega), t _ (by omega), t _ (by omega)⟩
    ·simp only [List.mem_cons, List.not_mem_nil, or_false]; exact hn (by omega)
theorem quote_noLf (w : Str) : (10 : UInt8) ∉ I4 w := by
 unfold I4
 split
 ·rename_i h
  intro hm
  have := List.all_eq_true.1 h.2 _ hm
  revert this; decide
 ·simp only [List.mem_cons, List.mem_append, List.mem_flatten, List.mem_map, List.not_mem_nil, or_false, not_or, not_exists, not_and]
  refine ⟨by decide, ?_, by decide⟩
  rintro l ⟨x, _, rfl⟩
  exact esc_noLf x
theorem line_noLf {x : PatchLine} (hg : L7 x = true) : ∀ t ∈ O8 x, (10 : UInt8) ∉ t := by
 unfold L7 at hg
 have hg := A0 hg
 unfold badLn at hg
 have hk : x.Kind ≠ 10 := fun e => by rw [e] at hg; exact hg (.inl ⟨⟨by decide, by decide⟩, by decide⟩)
 have hl : L5 x.Text = true := by cases h : L5 x.Text <;> simp [h] at hg ⊢
 unfold L5 at hl
 simp only [Bool.and_eq_true] at hl
 have hd : (10 : UInt8) ∉ x.Text.dropLast := fun hm => by have := List.all_eq_true.1 hl.1 _ hm; simp at this
 intro t ht
 unfold O8 at ht
 split at ht
 ·simp only [List.mem_cons, List.not_mem_nil, or_false] at ht
  subst ht
  simp only [List.mem_cons, not_or]; exact ⟨fun e => hk e.symm, hd⟩
 ·rename_i he
  simp only [List.mem_cons, List.not_mem_nil, or_false] at ht
  rcases ht with rfl | rfl
  ·simp only [List.mem_cons, not_or]
   refine ⟨fun e => hk e.symm, fun hm => ?_⟩
   have hne : x.Text ≠ [] := by intro e; rw [e] at hm; cases hm
   rw [← List.dropLast_concat_getLast hne] at hm
   rcases List.mem_append.1 hm with hm | hm
   ·exact hd hm
   ·simp only [List.mem_cons, List.not_mem_nil, or_false] at hm
    refine he (ended_iff.2 ⟨x.Text.dropLast, ?_⟩)
    conv => lhs; rw [← List.dropLast_concat_getLast hne]
    rw [hm]
  ·decide
theorem patch_noLf {p : Patch} (hg : N8 p.Hunks = true) : ∀ t ∈ Y7 p, (10 : UInt8) ∉ t := by
 have hl : ∀ (hs : List PatchHunk) (i j : Int), S6 i j hs = true → ∀ h ∈ hs, h.Lines.all L7 = true := by
  intro hs
  induction hs with
  | nil => intro i j _ h hm; cases hm
  | cons x r ih =>
   intro i j hg h hm
   simp only [S6, Bool.and_eq_true] at hg
   rcases List.mem_cons.1 hm with rfl | hm
   ·exact hg.1
   ·exact ih _ _ hg.2.2.2 h hm
 unfold N8 at hg
 rw [Bool.and_eq_true] at hg
 have hl := hl p.Hunks 0 0 hg.1
 intro t ht
 unfold Y7 at ht
 rcases List.mem_cons.1 ht with rfl | ht
 ·have := quote_noLf p.OldName; simp [this]
 ·rcases List.mem_cons.1 ht with rfl | ht
  ·have := quote_noLf p.NewName; simp [this]
  ·obtain ⟨l, hl1, hl2⟩ := List.mem_flatten.1 ht
   obtain ⟨h, hh, rfl⟩ := List.mem_map.1 hl1
   unfold Z3 at hl2
   rcases List.mem_cons.1 hl2 with rfl | hl2
   ·have h1 := range_noLf h.Old (J0 h); have h2 := range_noLf h.New (J5 h)
    unfold T0; simp [h1, h2]
   ·obtain ⟨l2, h3, h4⟩ := List.mem_flatten.1 hl2
    obtain ⟨x, hx, rfl⟩ := List.mem_map.1 h3
    exact line_noLf (List.all_eq_true.1 (hl h hh) x hx) t h4
def J7 (l pre : Str) : Option Str := if l.take pre.length = pre then (match R6 (l.drop pre.length) with | some (w, k) => if k = (l.drop pre.length).length then some w else none | none => none) else none
def K5 (l : Str) (i : Nat) (pre : Str) : Option (Int × Int × Nat) := if (l.drop i).take pre.length = pre then (match Q3 (l.drop (i + pre.length)) with | none => none | some (a, n, e) => some (a, n, i + pre.length + e)) else none
def L4 (l : Str) : Option (Int × Int × Int × Int) :=
 match K5 l 0 [64, 64, 32, 45] with
 | none => none
 | some (a, m, i) => match K5 l i [32, 43] with
  | none => none
  | some (b, n, j) => if l.drop j = [32, 64, 64] then some (a, m, b, n) else none
theorem name_back (w pre : Str) : J7 (pre ++ I4 w) pre = some w := by
 unfold J7
 rw [if_pos List.take_left, List.drop_left, word_quote]
 dsimp only
 rw [if_pos rfl]
theorem head_back (h : PatchHunk) (h1 : 0 ≤ h.Old ∧ h.Old ≤ 4096) (h2 : 0 ≤ h.New ∧ h.New ≤ 4096) (h3 : J0 h ≤ 4096) (h4 : J5 h ≤ 4096) : L4 (T0 h) = some (h.Old, J0 h, h.New, J5 h) := by
 have p1 : 0 ≤ J0 h := by unfold J0; omega
 have p2 : 0 ≤ J5 h := by unfold J5; omega
 have r1 := rng_range (a := h.Old) (n := J0 h) (t := [32, 43] ++ G5 h.New (J5 h) ++ [32, 64, 64]) (by omega) p1 (by omega) (by omega) (by intro c hc; cases hc; exact ⟨by decide, by decide⟩)
 have r2 := rng_range (a := h.New) (n := J5 h) (t := [32, 64, 64]) (by omega) p2 (by omega) (by omega) (by intro c hc; cases hc; exact ⟨by decide, by decide⟩)
 obtain ⟨x, hx⟩ : ∃ x, x = G5 h.Old (J0 h) := ⟨_, rfl⟩
 obtain ⟨y, hy⟩ : ∃ y, y = G5 h.New (J5 h) := ⟨_, rfl⟩
 have e : T0 h = [64, 64, 32, 45] ++ (x ++ ([32, 43] ++ (y ++ [32, 64, 64]))) := by unfold T0; rw [hx, hy]; simp
 rw [← hx, ← hy] at r1
 rw [← hy] at r2
 have t0 : ((T0 h).drop 0).take 4 = [64, 64, 32, 45] := by rw [e]; rfl
 have d0 : (T0 h).drop 4 = x ++ ([32, 43] ++ y ++ [32, 64, 64]) := by rw [e]; simp
 have s1 : K5 (T0 h) 0 [64, 64, 32, 45] = some (h.Old, J0 h, 4 + x.length) := by
  simp only [K5, List.length_cons, List.length_nil, Nat.zero_add, Nat.reduceAdd]
  rw [if_pos t0, d0, r1]
 have d1 : (T0 h).drop (4 + x.length) = [32, 43] ++ (y ++ [32, 64, 64]) := by
  rw [e, show 4 + x.length = (([64, 64, 32, 45] : Str) ++ x).length by simp; omega, ← List.append_assoc, List.drop_left]
 have t1 : ((T0 h).drop (4 + x.length)).take 2 = [32, 43] := by rw [d1]; rfl
 have d3 : (T0 h).drop (4 + x.length + 2) = y ++ [32, 64, 64] := by rw [← List.drop_drop, d1]; rfl
 have s2 : K5 (T0 h) (4 + x.length) [32, 43] = some (h.New, J5 h, 4 + x.length + 2 + y.length) := by
  simp only [K5, List.length_cons, List.length_nil, Nat.zero_add, Nat.reduceAdd]
  rw [if_pos t1, d3, r2]
 have d2 : (T0 h).drop (4 + x.length + 2 + y.length) = [32, 64, 64] := by
  rw [show 4 + x.length + 2 + y.length = 4 + x.length + (2 + y.length) by omega, ← List.drop_drop, d1, show 2 + y.length = (([32, 43] : Str) ++ y).length by simp; omega, ← List.append_assoc, List.drop_left]
 unfold L4
 rw [s1]; dsimp only
 rw [s2]; dsimp only
 rw [if_pos d2]
def j6 (t : Str) : Str := if ended t = true then t.dropLast else t
def addLine (hs : List PatchHunk) (x : PatchLine) : Option (List PatchHunk) := match hs.getLast? with
 | none => none
 | some h => some (hs.dropLast ++ [⟨h.Old, h.New, h.Lines ++ [x]⟩])
def cutLine (hs : List PatchHunk) (l : Str) : Option (List PatchHunk) := match hs.getLast? with
 | none => none
 | some h => match h.Lines.getLast? with
  | none => none
  | some x => if l = p8 then some (hs.dropLast ++ [⟨h.Old, h.New, h.Lines.dropLast ++ [⟨x.Kind, j6 x.Text⟩]⟩]) else none
def stepP (hs : List PatchHunk) (l : Str) : Option (List PatchHunk) := match l with
 | [] => none
 | c :: r => if c = 64 then (match L4 l with | none => none | some (a, _, b, _) => some (hs ++ [⟨a, b, []⟩]))
  else if c = 32 ∨ c = 45 ∨ c = 43 then addLine hs ⟨c, r ++ [10]⟩
  else if c = 92 then cutLine hs l else none
def P1 (hs : List PatchHunk) : List Str → Option (List PatchHunk)
 | [] => some hs
 | x :: r => match stepP hs x with
  | none => none
  | some hs' => P1 hs' r
def N4 (l : List Str) : Option Patch := match l with
 | a :: b :: r => (match J7 a [45, 45, 45, 32], J7 b [43, 43, 43, 32] with
  | some o, some n => (match P1 [] r with | some hs => some ⟨o, n, hs⟩ | none => none)
  | _, _ => none)
 | _ => none
theorem step_line (hs : List PatchHunk) (o n : Int) (ls : List PatchLine) (x : PatchLine) (rest : List Str) (hg : L7 x = true) : P1 (hs ++ [⟨o, n, ls⟩]) (O8 x ++ rest) = P1 (hs ++ [⟨o, n, ls ++ [x]⟩]) rest := by
 unfold L7 at hg
 have hg := A0 hg
 unfold badLn at hg
 have hk : x.Kind = 32 ∨ x.Kind = 45 ∨ x.Kind = 43 := by
  by_cases h1 : x.Kind = 32
  ·exact .inl h1
  ·by_cases h2 : x.Kind = 45
   ·exact .inr (.inl h2)
   ·by_cases h3 : x.Kind = 43
    ·exact .inr (.inr h3)
    ·exact absurd (.inl ⟨⟨h1, h2⟩, h3⟩) hg
 have h64 : x.Kind ≠ 64 := by rcases hk with h | h | h <;> rw [h] <;> decide
 have hadd : ∀ t : Str, stepP (hs ++ [⟨o, n, ls⟩]) (x.Kind :: t) = some (hs ++ [⟨o, n, ls ++ [⟨x.Kind, t ++ [10]⟩]⟩]) := by
  intro t
  simp only [stepP]
  rw [if_neg h64, if_pos hk]
  unfold addLine; simp
 unfold O8
 split
 ·rename_i he
  obtain ⟨a, ha⟩ := ended_iff.1 he
  rw [List.cons_append, List.nil_append, P1, hadd]
  dsimp only
  rw [ha, List.dropLast_concat, ← ha]
 ·rename_i he
  rw [List.cons_append, P1, hadd]
  dsimp only
  have h2 : stepP (hs ++ [⟨o, n, ls ++ [⟨x.Kind, x.Text ++ [10]⟩]⟩]) p8 = some (hs ++ [⟨o, n, ls ++ [x]⟩]) := by
   have : p8 = 92 :: [32, 78, 111, 32, 110, 101, 119, 108, 105, 110, 101, 32, 97, 116, 32, 101, 110, 100, 32, 111, 102, 32, 102, 105, 108, 101] := rfl
   rw [this]
   simp only [stepP]
   rw [if_neg (by decide), if_neg (by decide), if_pos (by decide)]
   unfold cutLine
   simp only [List.getLast?_append, List.getLast?_singleton, Option.some_or, List.dropLast_concat]
   rw [if_pos this.symm]
   unfold j6
   rw [if_pos (ended_app _), List.dropLast_concat]
  rw [List.cons_append, List.nil_append, P1, h2]
theorem step_lines (hs : List PatchHunk) (o n : Int) : ∀ (xs ls : List PatchLine) (rest : List Str), xs.all L7 = true → P1 (hs ++ [⟨o, n, ls⟩]) ((xs.map O8).flatten ++ rest) = P1 (hs ++ [⟨o, n, ls ++ xs⟩]) rest
 | [], ls, rest, _ => by simp
 | x :: r, ls, rest, hg => by
  simp only [List.all_cons, Bool.and_eq_true] at hg
  rw [List.map_cons, List.flatten_cons, List.append_assoc, step_line _ _ _ _ _ _ hg.1, step_lines hs o n r _ _ hg.2, List.append_assoc]; rfl
def HRead (h : PatchHunk) : Prop := h.Lines.all L7 = true ∧ (0 ≤ h.Old ∧ h.Old ≤ 4096) ∧ (0 ≤ h.New ∧ h.New ≤ 4096) ∧ J0 h ≤ 4096 ∧ J5 h ≤ 4096
theorem good_read : ∀ (hs : List PatchHunk) (i j : Int), S6 i j hs = true → 0 ≤ i → 0 ≤ j → ∀ h ∈ hs, HRead h
 | [], _, _, _, _, _, h, hm => by cases hm
 | x :: r, i, j, hg, hi, hj, h, hm => by
  have hr := u6 (x :: r) i j hg hi hj h hm
  simp only [S6, Bool.and_eq_true, decide_eq_true_eq] at hg
  obtain ⟨g1, g2, g3, g4⟩ := hg
  unfold P0 at g2
  have hx := u6 (x :: r) i j (by simp only [S6, Bool.and_eq_true, decide_eq_true_eq]; exact ⟨g1, by unfold P0; exact g2, g3, g4⟩) hi hj x (by simp)
  rcases List.mem_cons.1 hm with rfl | hm
  ·exact ⟨g1, hr.1, hr.2, by omega, by omega⟩
  ·exact good_read r _ _ g4 (by unfold J0; omega) (by unfold J5; omega) h hm
theorem fold_hunks : ∀ (xs hs : List PatchHunk), (∀ h ∈ xs, HRead h) → P1 hs ((xs.map Z3).flatten) = some (hs ++ xs)
 | [], hs, _ => by simp [P1]
 | h :: r, hs, hg => by
  obtain ⟨g1, g2, g3, g4, g5⟩ := hg h (by simp)
  have e : ((h :: r).map Z3).flatten = T0 h :: ((h.Lines.map O8).flatten ++ (r.map Z3).flatten) := by simp [Z3]
  have hh := head_back h g2 g3 g4 g5
  have hs1 : stepP hs (T0 h) = some (hs ++ [⟨h.Old, h.New, []⟩]) := by
   have : T0 h = 64 :: ([64, 32, 45] ++ G5 h.Old (J0 h) ++ [32, 43] ++ G5 h.New (J5 h) ++ [32, 64, 64]) := rfl
   rw [this] at hh ⊢
   simp only [stepP]
   rw [if_pos trivial, hh]
  rw [e, P1, hs1]
  dsimp only
  rw [step_lines _ _ _ _ _ _ g1, List.nil_append, fold_hunks r _ (fun x hx => hg x (by simp [hx])), List.append_assoc]; rfl
theorem parseP_back {p : Patch} (hg : N8 p.Hunks = true) : N4 (Y7 p) = some p := by
 unfold N8 at hg
 rw [Bool.and_eq_true] at hg
 unfold N4 Y7
 simp only [name_back]
 rw [fold_hunks p.Hunks [] (good_read p.Hunks 0 0 hg.1 (by omega) (by omega))]
 rfl
def R0 (l : List Str) (i : Nat) (m n : Int) (acc : List PatchLine) : Option (List PatchLine × Nat) :=
 if 0 < m ∨ 0 < n then
  if h : i < l.length then
   match l[i] with
   | [] => none
   | c :: t => if l[i + 1]? = some p8 then R0 l (i + 2) (if c = 43 then m else m - 1) (if c = 45 then n else n - 1) (acc ++ [⟨c, t⟩])
    else R0 l (i + 1) (if c = 43 then m else m - 1) (if c = 45 then n else n - 1) (acc ++ [⟨c, t ++ [10]⟩])
  else none
 else some (acc, i)
termination_by l.length - i
decreasing_by all_goals omega
def T3 (l : List Str) (i : Nat) (hs : List PatchHunk) : Option (List PatchHunk) :=
 if h : i < l.length then
  match L4 l[i] with
  | none => none
  | some (a, m, b, n) => match R0 l (i + 1) m n [] with
   | none => none
   | some (ls, j) => T3 l (max j (i + 1)) (hs ++ [⟨a, b, ls⟩])
 else some hs
termination_by l.length - i
decreasing_by all_goals omega
def p9 (l : List Str) : Option Patch := match J7 (l.getD 0 []) [45, 45, 45, 32], J7 (l.getD 1 []) [43, 43, 43, 32] with
 | some o, some n => (match T3 l 2 [] with | some hs => some ⟨o, n, hs⟩ | none => none)
 | _, _ => none
theorem body_back (l : List Str) : ∀ (xs acc : List PatchLine) (i : Nat) (rest : List Str), xs.all L7 = true → l.drop i = (xs.map O8).flatten ++ rest → (∀ t, rest.head? = some t → t ≠ p8) →
  R0 l i (C1 xs 43).length (C1 xs 45).length acc = some (acc ++ xs, i + ((xs.map O8).flatten).length)
 | [], acc, i, rest, _, _, _ => by rw [R0, if_neg (by simp [C1])]; simp
 | x :: r, acc, i, rest, hg, hd, hr => by
  simp only [List.all_cons, Bool.and_eq_true] at hg
  obtain ⟨hgx, hgr⟩ := hg
  have hgx2 := hgx
  unfold L7 at hgx2
  have hgx2 := A0 hgx2
  unfold badLn at hgx2
  have hk : x.Kind = 32 ∨ x.Kind = 45 ∨ x.Kind = 43 := by
   by_cases h1 : x.Kind = 32
   ·exact .inl h1
   ·by_cases h2 : x.Kind = 45
    ·exact .inr (.inl h2)
    ·by_cases h3 : x.Kind = 43
     ·exact .inr (.inr h3)
     ·exact absurd (.inl ⟨⟨h1, h2⟩, h3⟩) hgx2
  have hk10 : ∀ (y : PatchLine) (t : Str) (_ : L7 y = true), (y.Kind :: t) ≠ p8 := by
   intro y t hy e
   unfold L7 at hy
   have hy := A0 hy
   unfold badLn at hy
   have : y.Kind = 92 := by injection e
   rw [this] at hy
   exact hy (.inl ⟨⟨by decide, by decide⟩, by decide⟩)
  have c43 : ((C1 (x :: r) 43).length : Int) = (if x.Kind = 43 then ((C1 r 43).length : Int) else (C1 r 43).length + 1) := by
   unfold C1; by_cases h : x.Kind = 43 <;> simp [h]
  have c45 : ((C1 (x :: r) 45).length : Int) = (if x.Kind = 45 then ((C1 r 45).length : Int) else (C1 r 45).length + 1) := by
   unfold C1; by_cases h : x.Kind = 45 <;> simp [h]
  have hpos : 0 < ((C1 (x :: r) 43).length : Int) ∨ 0 < ((C1 (x :: r) 45).length : Int) := by
   rw [c43, c45]
   by_cases h : x.Kind = 43
   ·have : x.Kind ≠ 45 := by rw [h]; decide
    rw [if_neg this]; omega
   ·rw [if_neg h]; omega
  have m43 : (if x.Kind = 43 then ((C1 (x :: r) 43).length : Int) else ((C1 (x :: r) 43).length : Int) - 1) = (C1 r 43).length := by rw [c43]; by_cases h : x.Kind = 43 <;> simp [h] <;> omega
  have m45 : (if x.Kind = 45 then ((C1 (x :: r) 45).length : Int) else ((C1 (x :: r) 45).length : Int) - 1) = (C1 r 45).length := by rw [c45]; by_cases h : x.Kind = 45 <;> simp [h] <;> omega
  have hd2 : l.drop i = O8 x ++ ((r.map O8).flatten ++ rest) := by rw [hd]; simp
  have hnext : ∀ t, ((r.map O8).flatten ++ rest).head? = some t → t ≠ p8 := by
   intro t ht
   cases r with
   | nil => exact hr t (by simpa using ht)
   | cons y r' =>
    simp only [List.all_cons, Bool.and_eq_true] at hgr
    have : ∃ s, t = y.Kind :: s := by
     simp only [List.map_cons, List.flatten_cons] at ht
     unfold O8 at ht
     split at ht
     ·simp at ht; exact ⟨_, ht.symm⟩
     ·simp at ht; exact ⟨_, ht.symm⟩
    obtain ⟨s, rfl⟩ := this
    exact hk10 y s hgr.1
  have hlen : ∀ j : Nat, (l.drop i)[j]? = l[i + j]? := fun j => by rw [List.getElem?_drop]
  rw [R0, if_pos hpos]
  by_cases he : ended x.Text = true
  ·obtain ⟨a, ha⟩ := ended_iff.1 he
   have hL : O8 x = [x.Kind :: a] := by unfold O8; rw [if_pos he, ha, List.dropLast_concat]
   have h0 : l[i]? = some (x.Kind :: a) := by have := hlen 0; rw [hd2, hL] at this; simpa using this.symm
   have h1 : l[i + 1]? ≠ some p8 := by
    have := hlen 1
    rw [hd2, hL] at this
    intro e
    rw [e] at this
    have h2 : ((r.map O8).flatten ++ rest).head? = some p8 := by rw [List.head?_eq_getElem?]; simpa using this
    exact hnext _ h2 rfl
   obtain ⟨hi, h0'⟩ := List.getElem?_eq_some_iff.1 h0
   rw [dif_pos hi, h0']
   dsimp only
   rw [if_neg h1, m43, m45]
   have ih := body_back l r (acc ++ [⟨x.Kind, a ++ [10]⟩]) (i + 1) rest hgr (by rw [← List.drop_drop, hd2, hL]; rfl) hr
   rw [ih]
   have ex : (⟨x.Kind, a ++ [10]⟩ : PatchLine) = x := by rw [← ha]
   rw [ex, List.map_cons, List.flatten_cons, hL]
   simp; omega
  ·have hL : O8 x = [x.Kind :: x.Text, p8] := by unfold O8; rw [if_neg he]
   have h0 : l[i]? = some (x.Kind :: x.Text) := by have := hlen 0; rw [hd2, hL] at this; simpa using this.symm
   have h1 : l[i + 1]? = some p8 := by have := hlen 1; rw [hd2, hL] at this; simpa using this.symm
   obtain ⟨hi, h0'⟩ := List.getElem?_eq_some_iff.1 h0
   rw [dif_pos hi, h0']
   dsimp only
   rw [if_pos h1, m43, m45]
   have ih := body_back l r (acc ++ [⟨x.Kind, x.Text⟩]) (i + 2) rest hgr (by rw [← List.drop_drop, hd2, hL]; rfl) hr
   rw [ih, List.map_cons, List.flatten_cons, hL]
   simp; omega
theorem hunksR_back (l : List Str) : ∀ (xs hs : List PatchHunk) (i : Nat), (∀ h ∈ xs, HRead h) → l.drop i = (xs.map Z3).flatten → T3 l i hs = some (hs ++ xs)
 | [], hs, i, _, hd => by
  have : l.length ≤ i := by have := congrArg List.length hd; simp at this; omega
  rw [T3, dif_neg (by omega)]; simp
 | h :: r, hs, i, hg, hd => by
  obtain ⟨g1, g2, g3, g4, g5⟩ := hg h (by simp)
  have hd2 : l.drop i = T0 h :: ((h.Lines.map O8).flatten ++ (r.map Z3).flatten) := by rw [hd]; simp [Z3]
  have h0 : l[i]? = some (T0 h) := by rw [← Nat.add_zero i, ← List.getElem?_drop, hd2]; rfl
  obtain ⟨hi, h0'⟩ := List.getElem?_eq_some_iff.1 h0
  have hdr : l.drop (i + 1) = (h.Lines.map O8).flatten ++ (r.map Z3).flatten := by rw [← List.drop_drop, hd2]; rfl
  have hb := body_back l h.Lines [] (i + 1) ((r.map Z3).flatten) g1 hdr (by
   intro t ht
   cases r with
   | nil => simp at ht
   | cons y r' =>
    simp [Z3] at ht
    rw [← ht]
    intro e
    have : (64 : UInt8) = 92 := by have h2 := congrArg List.head? e; simp [T0, p8] at h2
    revert this; decide)
  rw [T3, dif_pos hi, h0', head_back h g2 g3 g4 g5]
  dsimp only
  rw [show J0 h = ((C1 h.Lines 43).length : Int) from rfl, show J5 h = ((C1 h.Lines 45).length : Int) from rfl, hb]
  dsimp only
  rw [show max (i + 1 + ((h.Lines.map O8).flatten).length) (i + 1) = i + 1 + ((h.Lines.map O8).flatten).length by omega]
  rw [hunksR_back l r _ _ (fun x hx => hg x (by simp [hx])) (by rw [← List.drop_drop, hdr, List.drop_left])]
  rw [List.append_assoc]; rfl
theorem readR_back {p : Patch} (hg : N8 p.Hunks = true) : p9 (Y7 p) = some p := by
 unfold N8 at hg
 rw [Bool.and_eq_true] at hg
 have h := hunksR_back (Y7 p) p.Hunks [] 2 (good_read p.Hunks 0 0 hg.1 (by omega) (by omega)) rfl
 unfold p9
 rw [show (Y7 p).getD 0 [] = [45, 45, 45, 32] ++ I4 p.OldName from rfl, show (Y7 p).getD 1 [] = [43, 43, 43, 32] ++ I4 p.NewName from rfl, name_back, name_back]
 dsimp only
 rw [h]; rfl
def H9 (f : List Str → Option Patch) (s : Str) : Patch × Int :=
 if 16777216 < s.length then (patch0, 1) else match j5 s with
 | none => (patch0, 4)
 | some l => match f l with
  | none => (patch0, 4)
  | some p => if G1 p ≠ 0 ∨ H0 p ≠ s then (patch0, 4) else (p, 0)
theorem check12_good {p : Patch} (h : G1 p = 0) : N8 p.Hunks = true := by
 unfold G1 at h
 split at h
 ·cases h
 ·split at h
  ·cases h
  ·rename_i h1; simpa using h1
theorem strictBy_of {f : List Str → Option Patch} (hf : ∀ p : Patch, N8 p.Hunks = true → f (Y7 p) = some p) {p : Patch} (hc : G1 p = 0) : H9 f (H0 p) = (p, 0) := by
 have hg := check12_good hc
 have hl : j5 (H0 p) = some (Y7 p) := by rw [← patchLs_flat]; exact linesS_with _ (patch_noLf hg)
 have hs : ¬ 16777216 < (H0 p).length := by
  intro h; unfold G1 at hc
  split at hc
  ·cases hc
  ·split at hc
   ·cases hc
   ·first | (rw [if_pos h] at hc; cases hc) | (simp at hc)
 unfold H9
 rw [if_neg hs, hl]
 dsimp only
 rw [hf p hg]
 dsimp only
 rw [if_neg]
 simp [hc]
theorem strictBy_ok {f : List Str → Option Patch} {s : Str} (h : (H9 f s).2 = 0) : G1 (H9 f s).1 = 0 ∧ H0 (H9 f s).1 = s := by
 unfold H9 at h ⊢
 split at h
 ·cases h
 ·rename_i h1
  rw [if_neg h1]
  split at h
  ·cases h
  ·rename_i l hl
   split at h
   ·cases h
   ·rename_i p hp
    split at h
    ·cases h
    ·rename_i h2
     rw [if_neg h2]
     by_cases a : G1 p = 0 <;> by_cases b : H0 p = s <;> simp [a, b] at h2 ⊢
theorem strictBy_err {f : List Str → Option Patch} {s : Str} (h : (H9 f s).2 ≠ 0) : H9 f s = if 16777216 < s.length then (patch0, 1) else (patch0, 4) := by
 unfold H9 at h ⊢
 by_cases h1 : 16777216 < s.length
 ·rw [if_pos h1, if_pos h1]
 ·rw [if_neg h1] at h ⊢
  rw [if_neg h1]
  split
  ·rfl
  ·rename_i l hl
   rw [hl] at h
   dsimp only at h
   split
   ·rfl
   ·rename_i p hp
    rw [hp] at h
    dsimp only at h
    split
    ·rfl
    ·rename_i h2; rw [if_neg h2] at h; exact absurd rfl h
theorem strict_same (s : Str) : H9 N4 s = H9 p9 s := by
 by_cases h1 : (H9 N4 s).2 = 0
 ·obtain ⟨h2, h3⟩ := strictBy_ok h1
  have h4 := strictBy_of (fun p hg => readR_back hg) h2
  rw [h3] at h4
  rw [h4]
  exact Prod.ext rfl h1
 ·by_cases h2 : (H9 p9 s).2 = 0
  ·obtain ⟨h3, h4⟩ := strictBy_ok h2
   have h5 := strictBy_of (fun p hg => parseP_back hg) h3
   rw [h4] at h5
   rw [h5] at h1
   exact absurd rfl h1
  ·rw [strictBy_err h1, strictBy_err h2]
end Go.AL
namespace Go.AL
open Go
end Go.AL
