/- Plain facts about data; no project text. -/
import Derived.Test.YtgejaedjnbjpoaaGreatDoorD
import Derived.Lib.Strings
import Derived.Lib.Bytealg
import Derived.Lib.Join
import Derived.Lib.ItoaNum
import Derived.Test.YtgejaedjnbjpoaaGreatDoorAn
namespace Go.AL
open Go
theorem u8_lf (c : UInt8) : ((c.toNat : Int) = 10) ↔ c = 10 := by
 constructor
 ·intro h
  have : c.toNat = 10 := by omega
  exact UInt8.toNat_inj.1 (by simpa using this)
 ·rintro rfl; rfl
def G4 (cur : Str) : Str → List Str
 | [] => if cur = [] then [] else [cur]
 | c :: r => if c = 10 then (cur ++ [c]) :: G4 [] r else G4 (cur ++ [c]) r
def D8 (b : Str) : List Str := G4 [] b
theorem linesAux_length (cur : Str) (s : Str) : (G4 cur s).length ≤ s.length + 1 := by
 induction s generalizing cur with
 | nil => unfold G4; split <;> simp
 | cons c r ih => unfold G4; split <;> simp <;> (have := ih []; have := ih (cur ++ [c]); omega)
theorem linesAux_nil_length (s : Str) : (G4 [] s).length ≤ s.length := by
 have key : ∀ (s cur : Str), cur ≠ [] → (G4 cur s).length ≤ s.length + 1 := fun s cur _ => linesAux_length cur s
 induction s with
 | nil => simp [G4]
 | cons c r ih => unfold G4; split <;> simp <;> (have := linesAux_length ([] ++ [c]) r; simp at this; omega)
theorem U7 (b : Str) : (D8 b).length ≤ b.length := linesAux_nil_length b
theorem c9 (cur r : Str) (c : UInt8) : G4 cur (c :: r) = if c = 10 then (cur ++ [c]) :: G4 [] r else G4 (cur ++ [c]) r := rfl
theorem linesAux_end (cur : Str) (h : cur ≠ []) : G4 cur [] = [cur] := by simp [G4, h]
theorem or_pick {p q : Prop} [Decidable p] [Decidable q] : (if decide p = true then true else decide q) = decide (p ∨ q) := by by_cases p <;> simp [*]
theorem G2 {p q : Prop} [Decidable p] [Decidable q] : (if decide p = true then decide q else false) = decide (p ∧ q) := by by_cases p <;> simp [*]
theorem P5 {α : Type} (l : List (List α)) (i : Nat) (h : i < l.length) : (l.take (i + 1)).flatten = (l.take i).flatten ++ l[i] := by
 rw [List.take_add_one, List.getElem?_eq_getElem h, Option.toList_some, List.flatten_append]; simp
theorem Q2 {α : Type} (l : List (List α)) (i : Nat) : (l.take i).flatten.length ≤ l.flatten.length := by
 conv => rhs; rw [← List.take_append_drop i l, List.flatten_append, List.length_append]
 omega
theorem toNat_succ (i : Nat) : ((i : Int) + 1).toNat = i + 1 := by omega
theorem part_snoc {α : Type} (b : List α) (f i : Nat) (hf : f ≤ i) (hi : i < b.length) : (b.drop f).take (i - f) ++ [b[i]] = (b.drop f).take (i + 1 - f) := by
 rw [show i + 1 - f = (i - f) + 1 by omega, List.take_add_one, List.getElem?_drop, show f + (i - f) = i by omega, List.getElem?_eq_getElem hi]
 rfl
def ended (s : Str) : Bool := s.getLast? == some 10
theorem ended_eq (s : Str) : ended s = (if decide (s ≠ []) = true then decide (((s.getLastD 0).toNat : Int) = 10) else false) := by
 unfold ended
 by_cases h : s = []
 ·simp [h]
 ·rw [List.getLast?_eq_some_getLast h, List.getLastD_eq_getLast?, List.getLast?_eq_some_getLast h]
  simp only [ne_eq, h, not_false_eq_true, decide_true, if_true, Option.getD_some, u8_lf]
  rfl
def I7 : List Str → Str → Int → Int
 | [], _, _ => -1
 | x :: r, s, i => if x = s then i else I7 r s (i + 1)
theorem placeOf_drop (l : List Str) (s : Str) (k : Nat) (h : k < l.length) : I7 (l.drop k) s k = if l[k] = s then (k : Int) else I7 (l.drop (k + 1)) s ((k : Int) + 1) := by
 rw [List.drop_eq_getElem_cons h]
 simp [I7]
theorem placeOf_neg (l : List Str) (s : Str) : ∀ (k : Int), 0 ≤ k → ((I7 l s k < 0) ↔ s ∉ l) := by
 induction l with
 | nil => intro k _; simp [I7]
 | cons x r ih =>
  intro k hk
  unfold I7
  by_cases h : x = s
  ·simp [h]; omega
  ·have := ih (k + 1) (by omega)
   simp [h, this, Ne.symm h]
def K8 (s : Str) : Bool := s.dropLast.all (· ≠ 10) && s != []
def p8 : List Str → Bool
 | [] => true
 | s :: r => K8 s && (r.isEmpty || ended s) && p8 r
def V7 (b : Str) : Int := if b.length > 1048576 ∨ (D8 b).length > 4096 then 1 else 0
def j1 (l : List Str) : Str × Int := if p8 l = false then ([], 2) else if l.flatten.length > 1048576 ∨ l.length > 4096 then ([], 1) else (l.flatten, 0)
def I4 (out : List Str) (s : Str) : List Str := if s ∈ out then out else out ++ [s]
def D1 (files : List (List Str)) : List Str := files.flatten.foldl I4 []
def F2 (names : List Str) (file : List Str) : List Int := file.map (fun s => I7 names s 0)
theorem namesStep_length (out : List Str) (s : Str) : (I4 out s).length ≤ out.length + 1 := by unfold I4; split <;> simp
theorem foldl_names_length (l out : List Str) : (l.foldl I4 out).length ≤ out.length + l.length := by
 induction l generalizing out with
 | nil => simp
 | cons s r ih => have h1 := ih (I4 out s); have h2 := namesStep_length out s; simp only [List.foldl_cons, List.length_cons]; omega
theorem namesOf_length (fs : List (List Str)) : (D1 fs).length ≤ fs.flatten.length := by have := foldl_names_length fs.flatten []; simpa [D1] using this
end Go.AL
namespace Go.AL
open Go
def S0 (i j : Int) : List Span → Int → Int → List Change
 | [], m, n => if m > i ∨ n > j then [⟨i, m - i, j, n - j⟩] else []
 | x :: r, m, n => (if x.From > i ∨ x.To > j then [⟨i, x.From - i, j, x.To - j⟩] else []) ++ S0 (x.From + 1) (x.To + 1) r m n
def p9 (p : List Span) (m n : Int) : List Change := S0 0 0 p m n
theorem madeGo_length (p : List Span) (i j m n : Int) : (S0 i j p m n).length ≤ p.length + 1 := by
 induction p generalizing i j with
 | nil => unfold S0; split <;> simp
 | cons x r ih => unfold S0; have := ih (x.From + 1) (x.To + 1); split <;> simp <;> omega
def N1 (i j : Int) (n : Nat) : List Span := (List.range n).map fun (t : Nat) => ⟨i + (t : Int), j + (t : Int)⟩
theorem Y1 (i j : Int) (n : Nat) : (N1 i j n).length = n := by simp [N1]
theorem spanRun_succ (i j : Int) (n : Nat) : N1 i j (n + 1) = ⟨i, j⟩ :: N1 (i + 1) (j + 1) n := by
 unfold N1
 rw [List.range_succ_eq_map, List.map_cons, List.map_map]
 congr 1
 ·simp
 ·refine List.map_congr_left fun t _ => ?_
  simp only [Function.comp, Span.mk.injEq]
  omega
def U8 (i j : Int) : List Change → Int → List Span
 | [], m => N1 i j (m - i).toNat
 | c :: r, m => N1 i j (c.Old - i).toNat ++ U8 (max i c.Old + c.OldLen) (j + (c.Old - i).toNat + c.NewLen) r m
def W3 (l : List Change) (m : Int) : List Span := U8 0 0 l m
def dist : List Int → List Int → Nat
 | [], b => b.length
 | x :: a, [] => (x :: a).length
 | x :: a, y :: b => if x = y then dist a b else 1 + min (dist a (y :: b)) (dist (x :: a) b)
theorem dist_nil (a : List Int) : dist a [] = a.length := by cases a <;> simp [dist]
theorem dist_le (a b : List Int) : dist a b ≤ a.length + b.length := by
 induction a generalizing b with
 | nil => simp [dist]
 | cons x a iha =>
  induction b with
  | nil => simp [dist]
  | cons y b ihb =>
   unfold dist
   split
   ·have := iha b; simp; omega
   ·have := iha (y :: b); have := ihb; simp only [List.length_cons] at *; omega
def H8 (i j : Int) : List Int → List Int → List Span
 | [], _ => []
 | _ :: _, [] => []
 | x :: a, y :: b => if x = y then ⟨i, j⟩ :: H8 (i + 1) (j + 1) a b else if dist a (y :: b) + 1 = dist (x :: a) (y :: b) then H8 (i + 1) j a (y :: b) else H8 i (j + 1) (x :: a) b
def walkOf (a b : List Int) : List Change := p9 (H8 0 0 a b) a.length b.length
theorem dist_drop (a b : List Int) (i j : Nat) (hi : i < a.length) (hj : j < b.length) :
  dist (a.drop i) (b.drop j) = if a[i] = b[j] then dist (a.drop (i + 1)) (b.drop (j + 1)) else 1 + min (dist (a.drop (i + 1)) (b.drop j)) (dist (a.drop i) (b.drop (j + 1))) := by
 rw [List.drop_eq_getElem_cons hi, List.drop_eq_getElem_cons hj]
 conv => lhs; rw [dist]
theorem v6 (a b : List Int) (i j : Nat) (hi : i < a.length) (hj : j < b.length) (p q : Int) :
  H8 p q (a.drop i) (b.drop j) = if a[i] = b[j] then ⟨p, q⟩ :: H8 (p + 1) (q + 1) (a.drop (i + 1)) (b.drop (j + 1)) else
   if dist (a.drop (i + 1)) (b.drop j) + 1 = dist (a.drop i) (b.drop j) then H8 (p + 1) q (a.drop (i + 1)) (b.drop j) else H8 p (q + 1) (a.drop i) (b.drop (j + 1)) := by
 rw [List.drop_eq_getElem_cons hi, List.drop_eq_getElem_cons hj]
 conv => lhs; rw [H8]
theorem W1 (p q : Int) (b : List Int) : H8 p q [] b = [] := by simp [H8]
theorem Z2 (p q : Int) (a : List Int) : H8 p q a [] = [] := by cases a <;> simp [H8]
theorem walkGo_length (p q : Int) (a b : List Int) : (H8 p q a b).length ≤ a.length := by
 induction a generalizing p q b with
 | nil => simp [H8]
 | cons x a iha =>
  induction b generalizing p q with
  | nil => simp [H8]
  | cons y b ihb =>
   unfold H8
   split
   ·have := iha (p + 1) (q + 1) b; simp; omega
   ·split
    ·have := iha (p + 1) q (y :: b); simp; omega
    ·exact ihb p (q + 1)
universe u
theorem range_set {α : Type u} (n k : Nat) (f g : Nat → α) (v : α) (hv : k < n → g k = v) (h : ∀ q, q < n → q ≠ k → g q = f q) : ((List.range n).map f).set k v = (List.range n).map g := by
 refine List.ext_getElem (by simp) fun q h1 h2 => ?_
 have hq : q < n := by simpa using h2
 rw [List.getElem_set]
 by_cases he : k = q
 ·subst he; simp [hv hq]
 ·rw [if_neg he]; simp [h q hq (Ne.symm he)]
theorem range_get {α : Type u} (n k : Nat) (f : Nat → α) (h : k < n) : ((List.range n).map f)[k]? = some (f k) := by simp [h]
def P6 (a b : List Int) (i q : Nat) : List Int := (List.range (b.length + 1)).map fun j => if q ≤ j then (dist (a.drop i) (b.drop j) : Int) else 0
def N7 (a b : List Int) (i : Nat) : List (List Int) := (List.range (a.length + 1)).map fun r => if i ≤ r then P6 a b r 0 else []
def distTable (a b : List Int) : List (List Int) := N7 a b 0
theorem distRow_length (a b : List Int) (i q : Nat) : (P6 a b i q).length = b.length + 1 := by simp [P6]
theorem x2 (a b : List Int) (i : Nat) : (N7 a b i).length = a.length + 1 := by simp [N7]
theorem distRow_full (a b : List Int) (i : Nat) : List.replicate (b.length + 1) 0 = P6 a b i (b.length + 1) := by
 refine List.ext_getElem (by simp [P6]) fun q h1 h2 => ?_
 have : ¬ (b.length + 1 ≤ q) := by simp at h1; omega
 simp [P6, this]
theorem distRows_full (a b : List Int) : List.replicate (a.length + 1) [] = N7 a b (a.length + 1) := by
 refine List.ext_getElem (by simp [N7]) fun q h1 h2 => ?_
 have : ¬ (a.length + 1 ≤ q) := by simp at h1; omega
 simp [N7, this]
theorem distRow_set (a b : List Int) (i j : Nat) : (P6 a b i (j + 1)).set j (dist (a.drop i) (b.drop j) : Int) = P6 a b i j := by
 unfold P6
 refine range_set _ _ _ _ _ (fun _ => by simp) fun q hq hne => ?_
 by_cases h : j ≤ q
 ·rw [if_pos h, if_pos (by omega)]
 ·rw [if_neg h, if_neg (by omega)]
theorem v7 (a b : List Int) (i q j : Nat) (h : q ≤ j) (hj : j ≤ b.length) : (P6 a b i q)[j]? = some (dist (a.drop i) (b.drop j) : Int) := by
 unfold P6
 rw [range_get _ _ _ (by omega), if_pos h]
theorem distRows_set (a b : List Int) (i : Nat) : (N7 a b (i + 1)).set i (P6 a b i 0) = N7 a b i := by
 unfold N7
 refine range_set _ _ _ _ _ (fun _ => by simp) fun q hq hne => ?_
 by_cases h : i ≤ q
 ·rw [if_pos h, if_pos (by omega)]
 ·rw [if_neg h, if_neg (by omega)]
theorem distRows_get (a b : List Int) (i r : Nat) (h : i ≤ r) (hr : r ≤ a.length) : (N7 a b i)[r]? = some (P6 a b r 0) := by
 unfold N7
 rw [range_get _ _ _ (by omega), if_pos h]
theorem matchedGo_length (l : List Change) (i j m : Int) (hi : 0 ≤ i) (B : Nat) (hm : m ≤ B) (hl : ∀ c ∈ l, c.Old ≤ B ∧ 0 ≤ c.OldLen) : ((U8 i j l m).length : Int) ≤ max 0 (B - i) := by
 induction l generalizing i j with
 | nil => simp only [U8, Y1]; omega
 | cons c r ih =>
  have hc := hl c (List.mem_cons_self ..)
  have := ih (max i c.Old + c.OldLen) (j + (c.Old - i).toNat + c.NewLen) (by omega) (fun d hd => hl d (List.mem_cons_of_mem _ hd))
  simp only [U8, List.length_append, Y1]
  omega
theorem x8 (i j : Int) : N1 i j 0 = [] := rfl
theorem spanRun_snoc (i j : Int) (n : Nat) : N1 i j (n + 1) = N1 i j n ++ [⟨i + n, j + n⟩] := by simp [N1, List.range_succ]
def Asc (m n : Int) : Int → Int → List Span → Prop
 | i, j, [] => i ≤ m ∧ j ≤ n
 | i, j, x :: r => i ≤ x.From ∧ j ≤ x.To ∧ Asc m n (x.From + 1) (x.To + 1) r
theorem Asc.le {m n : Int} : ∀ {p : List Span} {i j : Int}, Asc m n i j p → i ≤ m ∧ j ≤ n
 | [], i, j, h => h
 | x :: r, i, j, h => by have := Asc.le h.2.2; have := h.1; have := h.2.1; omega
theorem Asc.weaken {m n : Int} {p : List Span} {i j i' j' : Int} (h : Asc m n i j p) (hi : i' ≤ i) (hj : j' ≤ j) : Asc m n i' j' p := by
 cases p with
 | nil => exact ⟨by have := h.1; omega, by have := h.2; omega⟩
 | cons x r => exact ⟨by have := h.1; omega, by have := h.2.1; omega, h.2.2⟩
theorem walkGo_asc (a b : List Int) : ∀ (p q : Int), Asc (p + a.length) (q + b.length) p q (H8 p q a b) := by
 induction a generalizing b with
 | nil => intro p q; rw [W1]; simp only [Asc, List.length_nil]; omega
 | cons x a iha =>
  induction b with
  | nil => intro p q; rw [Z2]; simp only [Asc, List.length_nil]; omega
  | cons y b ihb =>
   intro p q
   rw [H8]
   split
   ·have := iha b (p + 1) (q + 1)
    refine ⟨Int.le_refl _, Int.le_refl _, ?_⟩
    simp only [List.length_cons]
    rwa [show p + ((a.length + 1 : Nat) : Int) = p + 1 + a.length by omega, show q + ((b.length + 1 : Nat) : Int) = q + 1 + b.length by omega]
   ·split
    ·have := (iha (y :: b) (p + 1) q).weaken (i' := p) (j' := q) (by omega) (Int.le_refl _)
     rwa [show p + ((x :: a).length : Int) = p + 1 + a.length by simp; omega]
    ·have := (ihb p (q + 1)).weaken (i' := p) (j' := q) (Int.le_refl _) (by omega)
     rwa [show q + ((y :: b).length : Int) = q + 1 + b.length by simp; omega]
theorem Asc.made {m n : Int} : ∀ {p : List Span} {i j : Int}, Asc m n i j p → ∀ c ∈ S0 i j p m n, i ≤ c.Old ∧ j ≤ c.New ∧ 0 ≤ c.OldLen ∧ 0 ≤ c.NewLen ∧ c.Old + c.OldLen ≤ m ∧ c.New + c.NewLen ≤ n
 | [], i, j, h, c, hc => by
  unfold S0 at hc
  split at hc
  ·simp only [List.mem_singleton] at hc; subst hc
   have := h.1; have := h.2
   simp only; omega
  ·cases hc
 | x :: r, i, j, h, c, hc => by
  unfold S0 at hc
  obtain ⟨h1, h2, h3⟩ := h
  have h4 := h3.le
  rcases List.mem_append.1 hc with hc | hc
  ·split at hc
   ·simp only [List.mem_singleton] at hc; subst hc
    simp only; omega
   ·cases hc
  ·have := Asc.made h3 c hc; omega
end Go.AL
namespace Go.AL
open Go
theorem shr_eq (m c : Int) (b : Nat) (hc : 0 ≤ c ∧ c ≤ b) : m.fdiv (2 ^ (min c.toNat b)) = m / 2 ^ c.toNat := by
 rw [show min c.toNat b = c.toNat by omega, Int.fdiv_eq_ediv_of_nonneg _ (Int.pow_nonneg (by decide))]
end Go.AL
namespace Go.AL
open Go
abbrev Loom := List Int × (Nat → List (List Int))
structure LoomOk (Q : Int → Prop) (B lines n : Nat) (s : Loom) : Prop where
 len : s.1.length = lines
 marks : ∀ m ∈ s.1, 0 ≤ m ∧ m < 4294967296
 gaps : ∀ k, (s.2 k).length = n ∧ ∀ x ∈ s.2 k, x.length ≤ B ∧ ∀ v ∈ x, Q v
theorem placeOf_le (l : List Str) (s : Str) : ∀ k : Int, 0 ≤ k → s ∈ l → k ≤ I7 l s k ∧ I7 l s k < k + l.length := by
 induction l with
 | nil => intro k _ h; cases h
 | cons x r ih =>
  intro k hk h
  unfold I7
  by_cases hx : x = s
  ·rw [if_pos hx]; simp; omega
  ·rw [if_neg hx]
   have := ih (k + 1) (by omega) (by rcases List.mem_cons.1 h with rfl | h; exact absurd rfl hx; exact h)
   simp only [List.length_cons]; omega
theorem names_mem_foldl (l : List Str) : ∀ (out : List Str) (s : Str), s ∈ out ∨ s ∈ l → s ∈ l.foldl I4 out := by
 induction l with
 | nil => intro out s h; rcases h with h | h; exact h; cases h
 | cons x r ih =>
  intro out s h
  apply ih
  rcases h with h | h
  ·left; unfold I4; split; exact h; exact List.mem_append_left _ h
  ·rcases List.mem_cons.1 h with rfl | h
   ·left; unfold I4; split; assumption; simp
   ·exact .inr h
theorem j7 (fs : List (List Str)) (s : Str) (f : List Str) (hf : f ∈ fs) (hs : s ∈ f) : s ∈ D1 fs := names_mem_foldl _ _ _ (.inr (List.mem_flatten.2 ⟨f, hf, hs⟩))
end Go.AL
namespace Go.AL
open Go
theorem hasSuffix_lf (s : Str) : Lib.hasSuffix s [10] = ended s := by
 unfold Lib.hasSuffix ended
 rw [Bool.eq_iff_iff, List.isSuffixOf_iff_suffix, beq_iff_eq]
 constructor
 ·rintro ⟨t, rfl⟩; simp
 ·intro h
  obtain ⟨hne, h2⟩ := List.getLast?_eq_some_iff.1 h
  exact ⟨hne, h2.symm⟩
def bareOf (s : Str) : Str := if ended s then s.dropLast else s
theorem trimSuffix_lf (s : Str) : Lib.trimSuffix s [10] = bareOf s := by
 unfold Lib.trimSuffix bareOf
 rw [hasSuffix_lf, List.dropLast_eq_take]; rfl
theorem W2 (c : UInt8) : ∀ l : Str, (c ∉ l ∧ Lib.indexByte l c = -1) ∨ ∃ a b, l = a ++ c :: b ∧ c ∉ a ∧ Lib.indexByte l c = a.length
 | [] => .inl ⟨by simp, rfl⟩
 | x :: l => by
  unfold Lib.indexByte
  by_cases hx : x = c
  ·exact .inr ⟨[], l, by rw [hx]; rfl, by simp, by simp [hx]⟩
  ·rcases W2 c l with ⟨h1, h2⟩ | ⟨a, b, h1, h2, h3⟩
   ·exact .inl ⟨by simp [h1, Ne.symm hx], by simp [hx, h2]⟩
   ·refine .inr ⟨x :: a, b, by rw [h1]; rfl, by simp [h2, Ne.symm hx], ?_⟩
    have h4 : ¬ ((a.length : Int) = -1) := by omega
    simp [hx, h3, h4]
theorem indexByte_mem (c : UInt8) (l : Str) : 0 ≤ Lib.indexByte l c ↔ c ∈ l := by
 rcases W2 c l with ⟨h1, h2⟩ | ⟨a, b, h1, h2, h3⟩
 ·rw [h2]; simp [h1]
 ·rw [h3, h1]; simp
theorem dropLast_app (a b : Str) (c : UInt8) (h : b ≠ []) : c ∈ (a ++ c :: b).dropLast := by
 rw [List.dropLast_append_of_ne_nil (by simp), List.dropLast_cons_of_ne_nil h]; simp
theorem indexByte_inner (l : Str) : (0 ≤ Lib.indexByte l 10 ∧ Lib.indexByte l 10 < (l.length : Int) - 1) ↔ 10 ∈ l.dropLast := by
 rcases W2 10 l with ⟨h1, h2⟩ | ⟨a, b, h1, h2, h3⟩
 ·rw [h2]
  have : 10 ∉ l.dropLast := fun h => h1 (List.dropLast_subset l h)
  simp [this]
 ·rw [h3]
  by_cases hb : b = []
  ·subst hb
   have e : l.dropLast = a := by rw [h1]; simp
   rw [e, h1]; simp [h2]
  ·have h4 := dropLast_app a b 10 hb
   rw [← h1] at h4
   have h5 : 0 < b.length := List.length_pos_iff.2 hb
   simp only [h4, iff_true]
   rw [h1]; simp only [List.length_append, List.length_cons]; omega
theorem lineOk_iff (s : Str) : K8 s = true ↔ s ≠ [] ∧ 10 ∉ s.dropLast := by
 unfold K8
 rw [Bool.and_eq_true, List.all_eq_true]
 constructor
 ·rintro ⟨h1, h2⟩
  exact ⟨by simpa using h2, fun h => by have := h1 10 h; simp at this⟩
 ·rintro ⟨h1, h2⟩
  exact ⟨fun x hx => by simpa using fun e : x = 10 => h2 (e ▸ hx), by simpa using h1⟩
theorem mem_bare (s : Str) : 10 ∈ bareOf s ↔ 10 ∈ s.dropLast := by
 unfold bareOf
 split
 ·exact Iff.rfl
 ·rename_i h
  by_cases hs : s = []
  ·subst hs; simp
  ·constructor
   ·intro h2
    have e := (List.dropLast_concat_getLast hs).symm
    rw [e] at h2
    rcases List.mem_append.1 h2 with h3 | h3
    ·exact h3
    ·exfalso
     refine h ?_
     unfold ended
     rw [List.getLast?_eq_some_getLast hs]
     simp at h3; simp [← h3]
   ·exact fun h2 => List.dropLast_subset s h2
theorem single_eq (s : Str) : (if decide (s ≠ []) = true then !decide (0 ≤ Lib.indexByte (bareOf s) 10) else false) = K8 s := by
 rw [Bool.eq_iff_iff, lineOk_iff]
 have h := mem_bare s
 have h2 := indexByte_mem 10 (bareOf s)
 by_cases hs : s = []
 ·simp [hs]
 ·simp [hs, h2, h]
theorem ended_idx (s : Str) (h : K8 s = true) : ended s = true ↔ 0 ≤ Lib.indexByte s 10 := by
 obtain ⟨h1, h2⟩ := (lineOk_iff s).1 h
 rw [indexByte_mem]
 have e := (List.dropLast_concat_getLast h1).symm
 unfold ended
 rw [List.getLast?_eq_some_getLast h1]
 constructor
 ·intro h3
  have : s.getLast h1 = 10 := by simpa using h3
  rw [← this]; exact List.getLast_mem h1
 ·intro h3
  rw [e] at h3
  rcases List.mem_append.1 h3 with h3 | h3
  ·exact absurd h3 h2
  ·simp at h3; simp [← h3]
def badLine (l : Str) (last : Bool) : Prop := l = [] ∨ (0 ≤ Lib.indexByte l 10 ∧ Lib.indexByte l 10 < (l.length : Int) - 1) ∨ (Lib.indexByte l 10 < 0 ∧ last = false)
theorem badLine_iff (l : Str) (r : List Str) : badLine l r.isEmpty ↔ (K8 l && (r.isEmpty || ended l)) = false := by
 unfold badLine
 rw [indexByte_inner]
 by_cases hl : K8 l = true
 ·obtain ⟨h1, h2⟩ := (lineOk_iff l).1 hl
  have h3 := ended_idx l hl
  cases hr : r.isEmpty
  ·cases he : ended l
   ·have : ¬ 0 ≤ Lib.indexByte l 10 := fun h => by rw [h3.2 h] at he; cases he
    simp [hl, h1, h2]; omega
   ·have := h3.1 he
    simp [hl, h1, h2]; omega
  ·simp [hl, h1, h2]
 ·have : l = [] ∨ 10 ∈ l.dropLast := by
   by_cases h1 : l = []
   ·exact .inl h1
   ·exact .inr (Classical.byContradiction fun h2 => hl ((lineOk_iff l).2 ⟨h1, h2⟩))
  have hf : K8 l = false := by simpa using hl
  rw [hf]
  constructor
  ·intro _; rfl
  ·intro _; rcases this with h | h
   ·exact .inl h
   ·exact .inr (.inl h)
theorem listOk_cons (s : Str) (r : List Str) : p8 (s :: r) = (K8 s && (r.isEmpty || ended s) && p8 r) := rfl
theorem join_nil (l : List Str) : Lib.join l [] = l.flatten := by
 induction l with
 | nil => rfl
 | cons s r ih =>
  cases r with
  | nil => simp [Lib.join]
  | cons t r =>
   have e : List.intersperse ([] : Str) (s :: t :: r) = s :: [] :: List.intersperse [] (t :: r) := rfl
   simp only [Lib.join, List.intercalate, e, List.flatten_cons, List.nil_append] at ih ⊢
   rw [ih]
structure EndsAt (res : Bool) (par : Int) (bad : Int → Bool) : Prop where
 res : res = bad (-1)
 par : ∃ p : Nat, p < 4294967296 ∧ par = p ∧ ∀ c : Nat, c < 32 → p.testBit c = bad c
end Go.AL
namespace Go.AL
open Go
def Q3 (c : UInt8) : Bool := decide (33 ≤ c.toNat ∧ c.toNat ≤ 126 ∧ c.toNat ≠ 34 ∧ c.toNat ≠ 92)
def digs8 : Str := [48, 49, 50, 51, 52, 53, 54, 55]
def digs10 : Str := [48, 49, 50, 51, 52, 53, 54, 55, 56, 57]
def octOf (c : UInt8) : Str := (digs8.drop (c.toNat / 64)).take 1 ++ (digs8.drop (c.toNat / 8 % 8)).take 1 ++ (digs8.drop (c.toNat % 8)).take 1
def O4 (c : UInt8) : Str := if c.toNat = 34 ∨ c.toNat = 92 then [92, c] else if c.toNat = 10 then [92, 110] else if c.toNat = 9 then [92, 116] else if c.toNat < 32 ∨ 126 < c.toNat then 92 :: octOf c else [c]
def L5 (s : Str) : Str := if s ≠ [] ∧ s.all Q3 = true then s else 34 :: ((s.map O4).flatten ++ [34])
theorem octOf_len (c : UInt8) : (octOf c).length ≤ 3 := by unfold octOf; simp only [List.length_append, List.length_take]; omega
theorem escOf_len (c : UInt8) : (O4 c).length ≤ 4 := by
 have := octOf_len c
 unfold O4; split
 ·simp
 ·split
  ·simp
  ·split
   ·simp
   ·split
    ·simp only [List.length_cons]; omega
    ·simp
theorem esc_flat_len (s : Str) : ((s.map O4).flatten).length ≤ 4 * s.length := by
 induction s with
 | nil => simp
 | cons c r ih => have := escOf_len c; simp only [List.map_cons, List.flatten_cons, List.length_append, List.length_cons]; omega
theorem j8 (s : Str) : (L5 s).length ≤ 4 * s.length + 2 := by
 unfold L5; have := esc_flat_len s
 split
 ·omega
 ·simp only [List.length_cons, List.length_append, List.length_nil]; omega
def L9 (n : Int) : Str := if n < 0 ∨ 2147483647 < n then [] else Lib.itoa n
def I0 (a n : Int) : Str := if a < 0 ∨ n < 0 ∨ 2147483647 < a ∨ 2147483647 - a < n then [] else if n = 0 then L9 a ++ [44, 48] else if n = 1 then L9 (a + 1) else L9 (a + 1) ++ [44] ++ L9 n
theorem decDigits_len : ∀ (k u : Nat), u < 10 ^ (k + 1) → (Lib.decDigits u).length ≤ k + 1
 | 0, u, h => by rw [Lib.decDigits, dif_pos (by omega)]; simp
 | k + 1, u, h => by
  rw [Lib.decDigits]
  split
  ·simp
  ·have := decDigits_len k (u / 10) (by rw [Nat.div_lt_iff_lt_mul (by omega)]; rw [Nat.pow_succ] at h; omega)
   simp only [List.length_append, List.length_cons, List.length_nil]; omega
theorem W4 (n : Int) : (L9 n).length ≤ 10 := by
 unfold L9; split
 ·simp
 ·unfold Lib.itoa
  rw [if_neg (by omega)]
  exact decDigits_len 9 n.toNat (by omega)
theorem j9 (a n : Int) : (I0 a n).length ≤ 21 := by
 have := W4 a; have := W4 (a + 1); have := W4 n
 unfold I0
 split
 ·simp
 ·split
  ·simp only [List.length_append, List.length_cons, List.length_nil]; omega
  ·split
   ·omega
   ·simp only [List.length_append, List.length_cons, List.length_nil]; omega
theorem dig10 (k : Nat) (h : k < 10) : (digs10.drop k).take 1 = [UInt8.ofNat (48 + k)] := by
 have : ∀ k : Fin 10, (digs10.drop k.1).take 1 = [UInt8.ofNat (48 + k.1)] := by decide
 exact this ⟨k, h⟩
theorem fmt_small (n : Int) (h0 : 0 ≤ n) (h : n < 10) : L9 n = (digs10.drop n.toNat).take 1 := by
 unfold L9 Lib.itoa
 rw [if_neg (by omega), if_neg (by omega), dig10 _ (by omega), Lib.decDigits, dif_pos (by omega)]
theorem fmt_big (n : Int) (h0 : 10 ≤ n) (h : n ≤ 2147483647) : L9 n = L9 (n / 10) ++ (digs10.drop (n % 10).toNat).take 1 := by
 unfold L9 Lib.itoa
 rw [if_neg (by omega), if_neg (by omega), if_neg (by omega), if_neg (by omega), dig10 _ (by omega), Lib.decDigits, dif_neg (by omega)]
 have e1 : n.toNat / 10 = (n / 10).toNat := by omega
 have e2 : n.toNat % 10 = (n % 10).toNat := by omega
 rw [e1, e2]
theorem dig8 (k : Nat) (h : k < 8) : (digs8.drop k).take 1 = [UInt8.ofNat (48 + k)] := by
 have : ∀ k : Fin 8, (digs8.drop k.1).take 1 = [UInt8.ofNat (48 + k.1)] := by decide
 exact this ⟨k, h⟩
theorem octOf_bytes (c : UInt8) : octOf c = [UInt8.ofNat (48 + c.toNat / 64), UInt8.ofNat (48 + c.toNat / 8 % 8), UInt8.ofNat (48 + c.toNat % 8)] := by
 have := c.toNat_lt
 unfold octOf
 rw [dig8 _ (by omega), dig8 _ (by omega), dig8 _ (by omega)]; rfl
def escs (s : Str) (i : Nat) : Str := ((s.take i).map O4).flatten
theorem escs_zero (s : Str) : escs s 0 = [] := rfl
theorem escs_succ (s : Str) (i : Nat) (h : i < s.length) : escs s (i + 1) = escs s i ++ O4 s[i] := by
 unfold escs; rw [List.take_succ_eq_append_getElem h, List.map_append, List.flatten_append]; simp only [List.map_cons, List.map_nil, List.flatten_cons, List.flatten_nil, List.append_nil]
theorem escs_len (s : Str) (i : Nat) (h : i ≤ s.length) : (escs s i).length ≤ 4 * i := by
 have := esc_flat_len (s.take i); unfold escs; rw [List.length_take] at this; omega
def plains (s : Str) (i : Nat) : Bool := decide (s ≠ []) && (s.take i).all Q3
theorem plains_zero (s : Str) : plains s 0 = decide (s ≠ []) := by simp [plains]
theorem plains_succ (s : Str) (i : Nat) (h : i < s.length) : plains s (i + 1) = (plains s i && Q3 s[i]) := by
 unfold plains; rw [List.take_succ_eq_append_getElem h, List.all_append]; simp only [List.all_cons, List.all_nil, Bool.and_true, Bool.and_assoc]
theorem quoteOf_eq (s : Str) : L5 s = if plains s s.length = true then s else (34 :: escs s s.length) ++ [34] := by
 unfold L5 plains escs
 rw [List.take_length]
 simp only [Bool.and_eq_true, decide_eq_true_eq, List.cons_append]
end Go.AL
namespace Go.AL
open Go
def N8 (cur : Str) : Str → List Str
 | [] => [cur]
 | c :: r => if c = 10 then (cur ++ [c]) :: N8 [] r else N8 (cur ++ [c]) r
def Q8 (b : Str) : List Str := N8 [] b
theorem partsAux_none (a cur : Str) (h : (10 : UInt8) ∉ a) : N8 cur a = [cur ++ a] := by
 induction a generalizing cur with
 | nil => simp [N8]
 | cons c r ih =>
  simp only [List.mem_cons, not_or] at h
  rw [N8, if_neg (fun e => h.1 e.symm), ih _ h.2]; simp
theorem partsAux_cut (a b cur : Str) (h : (10 : UInt8) ∉ a) : N8 cur (a ++ 10 :: b) = (cur ++ a ++ [10]) :: N8 [] b := by
 induction a generalizing cur with
 | nil => simp [N8]
 | cons c r ih =>
  simp only [List.mem_cons, not_or] at h
  rw [List.cons_append, N8, if_neg (fun e => h.1 e.symm), ih _ h.2]; simp
theorem Y2 (s cur : Str) : (N8 cur s).length = s.count 10 + 1 := by
 induction s generalizing cur with
 | nil => rfl
 | cons c r ih =>
  by_cases hc : c = 10
  ·subst hc; rw [N8, if_pos rfl, List.length_cons, ih, List.count_cons_self]
  ·rw [N8, if_neg hc, ih, List.count_cons_of_ne hc]
theorem parts_lines (s cur : Str) : G4 cur s = if (N8 cur s).getLastD [] = [] then (N8 cur s).dropLast else N8 cur s := by
 induction s generalizing cur with
 | nil => by_cases h : cur = [] <;> simp [G4, N8, h]
 | cons c r ih =>
  rw [G4, N8]
  by_cases hc : c = 10
  ·rw [if_pos hc, if_pos hc, ih]
   have hn : N8 [] r ≠ [] := fun e => by have := Y2 r []; rw [e] at this; simp at this
   obtain ⟨x, y, hxy⟩ := List.exists_cons_of_ne_nil hn
   rw [hxy]
   have e1 : ((cur ++ [c]) :: x :: y).getLastD [] = (x :: y).getLastD [] := by cases y <;> simp [List.getLastD]
   rw [e1]
   split
   ·rfl
   ·rfl
  ·rw [if_neg hc, if_neg hc, ih]
theorem linesAux_count (s cur : Str) : (G4 cur s).length = s.count 10 + if s = [] then (if cur = [] then 0 else 1) else if ended s = true then 0 else 1 := by
 induction s generalizing cur with
 | nil => by_cases h : cur = [] <;> simp [G4, h]
 | cons c r ih =>
  have he : ended (c :: r) = if r = [] then c == 10 else ended r := by
   cases r with
   | nil => simp [ended]
   | cons d t => simp [ended, List.getLast?_cons_cons]
  rw [G4, if_neg (List.cons_ne_nil _ _), he]
  by_cases hc : c = 10
  ·subst hc
   rw [if_pos rfl, List.length_cons, ih, List.count_cons_self]
   by_cases hr : r = [] <;> simp [hr]
   omega
  ·rw [if_neg hc, ih, List.count_cons_of_ne hc]
   by_cases hr : r = [] <;> simp [hr, hc]
theorem linesOf_count (s : Str) : (D8 s).length = s.count 10 + if s ≠ [] ∧ ended s = false then 1 else 0 := by
 unfold D8
 rw [linesAux_count]
 by_cases hs : s = [] <;> simp [hs]
 cases ended s <;> simp
theorem parts_step {P : List Str} {i : Nat} {r a b : Str} (h : P.drop i = Q8 r) (hr : r = a ++ 10 :: b) (ha : (10 : UInt8) ∉ a) : P[i]? = some (a ++ [10]) ∧ P.drop (i + 1) = Q8 b := by
 have e : Q8 r = (a ++ [10]) :: Q8 b := by rw [hr]; unfold Q8; rw [partsAux_cut _ _ _ ha]; rfl
 rw [e] at h
 refine ⟨by rw [← List.head?_drop, h]; rfl, ?_⟩
 rw [← List.tail_drop, h]; rfl
theorem fill_step {α : Type} (P : List α) (z x : α) (i : Nat) (h : P[i]? = some x) : (P.take i ++ List.replicate (P.length - i) z).set i x = P.take (i + 1) ++ List.replicate (P.length - (i + 1)) z := by
 obtain ⟨hi, hx⟩ := List.getElem?_eq_some_iff.1 h
 have hl : (P.take i).length = i := by rw [List.length_take]; omega
 rw [List.set_append_right _ _ (by omega), hl, Nat.sub_self, show P.length - i = (P.length - (i + 1)) + 1 by omega, List.replicate_succ, List.set_cons_zero, List.take_succ_eq_append_getElem hi, hx, List.append_assoc]
 rfl
def F1 (b : Str) : List Str × Int := if b.length > 1048576 ∨ (D8 b).length > 4096 then ([], 1) else (D8 b, 0)
theorem splitOf_len (b : Str) : (F1 b).1.length ≤ 4096 := by
 unfold F1; split
 ·simp
 ·dsimp only; omega
end Go.AL
namespace Go.AL
open Go
def G7 (n : Int) : Prop := 0 ≤ n ∧ n ≤ 4096
instance (n : Int) : Decidable (G7 n) := by unfold G7; exact inferInstance
def badC (k : Nat) (i j : Int) (c : Change) : Prop := ((((((¬ G7 c.Old ∨ ¬ G7 c.OldLen) ∨ ¬ G7 c.New) ∨ ¬ G7 c.NewLen) ∨ c.OldLen + c.NewLen = 0) ∨ c.Old - i ≠ c.New - j) ∨ c.Old < i) ∨ (0 < (k : Int) ∧ c.Old = i)
instance (k : Nat) (i j : Int) (c : Change) : Decidable (badC k i j c) := by unfold badC; exact inferInstance
def J3 (k : Nat) (i j : Int) : List Change → Int → Int → Bool
 | [], m, n => decide (¬ (m - i ≠ n - j ∨ m < i))
 | c :: r, m, n => decide (¬ badC k i j c) && J3 (k + 1) (c.Old + c.OldLen) (c.New + c.NewLen) r m n
def Q4 (l : List Change) (m n : Int) : Int := if ¬ G7 m ∨ ¬ G7 n then 80 else if J3 0 0 0 l m n = true then 0 else 80
def ScOk (i j : Int) : List Change → Int → Int → Prop
 | [], m, n => i ≤ m ∧ j ≤ n
 | c :: r, m, n => G7 c.Old ∧ G7 c.OldLen ∧ G7 c.New ∧ G7 c.NewLen ∧ i ≤ c.Old ∧ j ≤ c.New ∧ ScOk (c.Old + c.OldLen) (c.New + c.NewLen) r m n
theorem l4 : ∀ (l : List Change) (k : Nat) (i j m n : Int), J3 k i j l m n = true → ScOk i j l m n
 | [], k, i, j, m, n, h => by simp only [J3, decide_eq_true_eq] at h; simp only [ScOk]; omega
 | c :: r, k, i, j, m, n, h => by
  simp only [J3, Bool.and_eq_true, decide_eq_true_eq] at h
  obtain ⟨h1, h2⟩ := h
  unfold badC at h1
  refine ⟨?_, ?_, ?_, ?_, ?_, ?_, l4 r _ _ _ m n h2⟩
  all_goals (by_cases a1 : G7 c.Old <;> by_cases a2 : G7 c.OldLen <;> by_cases a3 : G7 c.New <;> by_cases a4 : G7 c.NewLen <;> simp [a1, a2, a3, a4] at h1 ⊢ <;> omega)
theorem check8_ok {l : List Change} {m n : Int} (h : Q4 l m n = 0) : G7 m ∧ G7 n ∧ ScOk 0 0 l m n := by
 unfold Q4 at h
 split at h
 ·omega
 ·rename_i h1
  split at h
  ·rename_i h2
   by_cases a1 : G7 m <;> by_cases a2 : G7 n <;> simp [a1, a2] at h1
   exact ⟨a1, a2, l4 _ _ _ _ _ _ h2⟩
  ·omega
def cAt (l : List Change) (k : Nat) : Change := l.getD k ⟨0, 0, 0, 0⟩
theorem i6 {l : List Change} {k : Nat} (h : k < l.length) : l[k]? = some (cAt l k) := by
 unfold cAt; rw [List.getD_eq_getElem?_getD, List.getElem?_eq_getElem h]; rfl
theorem ScOk.end_le : ∀ {l : List Change} {i j m n : Int}, ScOk i j l m n → i ≤ m ∧ j ≤ n
 | [], _, _, _, _, h => h
 | c :: r, i, j, m, n, ⟨h1, h2, h3, h4, h5, h6, h7⟩ => by have := h7.end_le; unfold G7 at *; omega
theorem ScOk.get : ∀ {l : List Change} {i j m n : Int} (k : Nat), ScOk i j l m n → k < l.length → G7 (cAt l k).Old ∧ G7 (cAt l k).OldLen ∧ G7 (cAt l k).New ∧ G7 (cAt l k).NewLen ∧ (cAt l k).Old + (cAt l k).OldLen ≤ m ∧ (cAt l k).New + (cAt l k).NewLen ≤ n
 | c :: r, i, j, m, n, 0, ⟨h1, h2, h3, h4, h5, h6, h7⟩, _ => by have := h7.end_le; exact ⟨h1, h2, h3, h4, this.1, this.2⟩
 | c :: r, i, j, m, n, k + 1, ⟨h1, h2, h3, h4, h5, h6, h7⟩, hk => by
  have := h7.get k (by simpa using hk)
  simpa [cAt] using this
theorem ScOk.next : ∀ {l : List Change} {i j m n : Int} (k : Nat), ScOk i j l m n → k + 1 < l.length → (cAt l k).Old + (cAt l k).OldLen ≤ (cAt l (k + 1)).Old
 | [c], _, _, _, _, _, _, hk => by simp at hk
 | c :: c2 :: r, i, j, m, n, 0, ⟨_, _, _, _, _, _, h7⟩, _ => by simpa [cAt] using h7.2.2.2.2.1
 | c :: c2 :: r, i, j, m, n, k + 1, ⟨_, _, _, _, _, _, h7⟩, hk => by
  have := h7.next k (by simpa using hk)
  simpa [cAt] using this
theorem ScOk.mono {l : List Change} {m n : Int} (h : ScOk 0 0 l m n) : ∀ (a b : Nat), a ≤ b → b < l.length → (cAt l a).Old ≤ (cAt l b).Old ∧ (cAt l a).Old + (cAt l a).OldLen ≤ (cAt l b).Old + (cAt l b).OldLen
 | a, 0, h1, h2 => by rw [show a = 0 by omega]; omega
 | a, b + 1, h1, h2 => by
  by_cases hab : a = b + 1
  ·subst hab; omega
  ·have h3 := h.mono a b (by omega) (by omega)
   have h4 := h.next b h2
   have h5 := h.get b (by omega)
   have h6 := h.get (b + 1) h2
   unfold G7 at *; omega
def U3 (a b : Int) : Int := if b < a then b else a
def opens (l : List Change) (ctx : Int) (k : Nat) : Prop := k = 0 ∨ 2 * ctx < (cAt l k).Old - (cAt l (k - 1)).Old - (cAt l (k - 1)).OldLen
instance (l : List Change) (ctx : Int) (k : Nat) : Decidable (opens l ctx k) := by unfold opens; exact inferInstance
def hunk0 : Hunk := ⟨0, 0, ⟨0, 0⟩, ⟨0, 0⟩⟩
def S2 (l : List Change) (ctx : Int) (k : Nat) : Hunk := ⟨k, 0, ⟨(cAt l k).Old - U3 ctx (cAt l k).Old, 0⟩, ⟨(cAt l k).New - U3 ctx (cAt l k).Old, 0⟩⟩
def x9 (l : List Change) (m ctx : Int) (k : Nat) (h : Hunk) : Hunk :=
 let c := cAt l k
 let a := U3 ctx (m - (c.Old + c.OldLen))
 ⟨h.First, k + 1, ⟨h.Old.From, c.Old + c.OldLen + a⟩, ⟨h.New.From, c.New + c.NewLen + a⟩⟩
def P7 (l : List Change) (ctx : Int) (k : Nat) (out : List Hunk) : List Hunk := if opens l ctx k then out ++ [S2 l ctx k] else out
def H0 (l : List Change) (m ctx : Int) : Nat → List Hunk
 | 0 => []
 | k + 1 => let out := P7 l ctx k (H0 l m ctx k); out.set (out.length - 1) (x9 l m ctx k (out.getD (out.length - 1) hunk0))
def M3 (l : List Change) (m n ctx : Int) : List Hunk × Int := if ctx < 0 ∨ 1048576 < ctx then ([], 3) else if Q4 l m n ≠ 0 then ([], Q4 l m n) else (H0 l m ctx l.length, 0)
theorem V2 (l : List Change) (m ctx : Int) : ∀ k, (H0 l m ctx k).length ≤ k ∧ (0 < k → 0 < (H0 l m ctx k).length)
 | 0 => by simp [H0]
 | k + 1 => by
  have h := V2 l m ctx k
  simp only [H0, List.length_set, P7]
  split
  ·simp only [List.length_append, List.length_cons, List.length_nil]; omega
  ·rename_i ho
   have : k ≠ 0 := fun e => ho (.inl e)
   omega
def HunkOk (l : List Change) (m : Int) (k : Nat) (h : Hunk) : Prop :=
 ∃ a b : Nat, h.First = a ∧ h.Last = (b : Int) + 1 ∧ a ≤ b ∧ b < k ∧ 0 ≤ h.Old.From ∧ h.Old.From ≤ (cAt l a).Old ∧ (cAt l b).Old + (cAt l b).OldLen ≤ h.Old.To ∧ h.Old.To ≤ m ∧ -4096 ≤ h.New.From ∧ h.New.From ≤ 4096
theorem groupTo_ok {l : List Change} {m n ctx : Int} (hs : ScOk 0 0 l m n) (hc : 0 ≤ ctx) : ∀ k, k ≤ l.length → ∀ h ∈ H0 l m ctx k, HunkOk l m k h
 | 0, _, h, hm => by simp [H0] at hm
 | k + 1, hk, h, hm => by
  have ih := groupTo_ok hs hc k (by omega)
  have hg := hs.get k (by omega)
  have hlen := V2 l m ctx k
  simp only [H0] at hm
  obtain ⟨out, hout⟩ : ∃ out, out = P7 l ctx k (H0 l m ctx k) := ⟨_, rfl⟩
  rw [← hout] at hm
  have hmin : ∀ x, 0 ≤ x → 0 ≤ U3 ctx x ∧ U3 ctx x ≤ x := fun x hx => by unfold U3; split <;> omega
  have h1 := hmin (cAt l k).Old hg.1.1
  have h2 := hmin (m - ((cAt l k).Old + (cAt l k).OldLen)) (by omega)
  obtain ⟨⟨g1, g2⟩, ⟨g3, g4⟩, ⟨g5, g6⟩, ⟨g7, g8⟩, g9, g10⟩ := hg
  have hend : ∀ h0 : Hunk, (∃ a : Nat, h0.First = a ∧ a ≤ k ∧ 0 ≤ h0.Old.From ∧ h0.Old.From ≤ (cAt l a).Old ∧ -4096 ≤ h0.New.From ∧ h0.New.From ≤ 4096) → HunkOk l m (k + 1) (x9 l m ctx k h0) := by
   rintro h0 ⟨a, e1, e2, e3, e4, e5, e6⟩
   refine ⟨a, k, e1, rfl, e2, by omega, e3, e4, ?_, ?_, e5, e6⟩
   ·show _ ≤ (cAt l k).Old + (cAt l k).OldLen + U3 ctx (m - ((cAt l k).Old + (cAt l k).OldLen)); omega
   ·show (cAt l k).Old + (cAt l k).OldLen + U3 ctx (m - ((cAt l k).Old + (cAt l k).OldLen)) ≤ m; omega
  obtain ⟨p, hp, rfl⟩ := List.getElem_of_mem hm
  rw [List.length_set] at hp
  rw [List.getElem_set]
  split
  ·rename_i hq
   refine hend _ ?_
   by_cases ho : opens l ctx k
   ·have e : out = H0 l m ctx k ++ [S2 l ctx k] := by rw [hout, P7, if_pos ho]
    have e2 : out.getD (out.length - 1) hunk0 = S2 l ctx k := by rw [e]; simp
    rw [e2]
    refine ⟨k, rfl, Nat.le_refl _, ?_, ?_, ?_, ?_⟩
    ·show 0 ≤ (cAt l k).Old - U3 ctx (cAt l k).Old; omega
    ·show (cAt l k).Old - U3 ctx (cAt l k).Old ≤ _; omega
    ·show -4096 ≤ (cAt l k).New - U3 ctx (cAt l k).Old; omega
    ·show (cAt l k).New - U3 ctx (cAt l k).Old ≤ _; omega
   ·have e : out = H0 l m ctx k := by rw [hout, P7, if_neg ho]
    have hlt : out.length - 1 < (H0 l m ctx k).length := by rw [e] at hp ⊢; omega
    have e2 : out.getD (out.length - 1) hunk0 ∈ H0 l m ctx k := by
     rw [e] at hlt ⊢
     rw [List.getD_eq_getElem?_getD, List.getElem?_eq_getElem hlt]
     exact List.getElem_mem hlt
    obtain ⟨a, b, e3, e4, e5, e6, e7, e8, e9, e10, e11, e12⟩ := ih _ e2
    exact ⟨a, e3, by omega, e7, e8, e11, e12⟩
  ·rename_i hq
   have hin : out[p] ∈ H0 l m ctx k := by
    by_cases ho : opens l ctx k
    ·have e : out = H0 l m ctx k ++ [S2 l ctx k] := by rw [hout, P7, if_pos ho]
     have hlt : p < (H0 l m ctx k).length := by
      have : out.length = (H0 l m ctx k).length + 1 := by rw [e]; simp
      omega
     have : out[p] = (H0 l m ctx k)[p] := by simp only [e]; rw [List.getElem_append_left hlt]
     rw [this]; exact List.getElem_mem hlt
    ·have e : out = H0 l m ctx k := by rw [hout, P7, if_neg ho]
     have : out[p] ∈ out := List.getElem_mem hp
     rw [← e]; exact this
   obtain ⟨a, b, e3, e4, e5, e6, e7⟩ := ih _ hin
   exact ⟨a, b, e3, e4, e5, by omega, e7⟩
end Go.AL
namespace Go.AL
open Go
def L2 (s : Str) : Bool := decide (1 ≤ s.length ∧ s.length ≤ 200)
def C4 (ls : List PatchLine) (k : UInt8) : List Str := (ls.filter (fun x => decide (x.Kind ≠ k))).map (·.Text)
def badLn (x : PatchLine) : Prop := ((x.Kind ≠ 32 ∧ x.Kind ≠ 45) ∧ x.Kind ≠ 43) ∨ K8 x.Text = false
instance (x : PatchLine) : Decidable (badLn x) := by unfold badLn; exact inferInstance
def O9 (x : PatchLine) : Bool := decide (¬ badLn x)
def U2 (ls : List PatchLine) : Bool := ls.any (fun x => decide (x.Kind ≠ 32))
def P0 (some : Bool) (i j : Int) (h : PatchHunk) : Prop := ((((some = false ∨ h.Old < i) ∨ h.New < j) ∨ 4096 < h.Old) ∨ 4096 < h.New) ∨ h.Old - i ≠ h.New - j
instance (s : Bool) (i j : Int) (h : PatchHunk) : Decidable (P0 s i j h) := by unfold P0; exact inferInstance
def J5 (h : PatchHunk) : Int := (C4 h.Lines 43).length
def L1 (h : PatchHunk) : Int := (C4 h.Lines 45).length
def S7 (i j : Int) : List PatchHunk → Bool
 | [] => true
 | h :: r => h.Lines.all O9 && (decide (¬ P0 (U2 h.Lines) i j h) && (decide (¬ (4096 < h.Old + J5 h ∨ 4096 < h.New + L1 h)) && S7 (h.Old + J5 h) (h.New + L1 h) r))
def G5 (hs : List PatchHunk) (k : UInt8) : List Str := (hs.map (fun h => C4 h.Lines k)).flatten
def M9 : List Str → Bool
 | [] => true
 | x :: r => (r.isEmpty || ended x) && M9 r
def sideOk (hs : List PatchHunk) (k : UInt8) : Bool := M9 (G5 hs k)
def P1 (hs : List PatchHunk) : Bool := S7 0 0 hs && (sideOk hs 43 && sideOk hs 45)
def markS : Str := [10, 92, 32, 78, 111, 32, 110, 101, 119, 108, 105, 110, 101, 32, 97, 116, 32, 101, 110, 100, 32, 111, 102, 32, 102, 105, 108, 101, 10]
def P2 (x : PatchLine) : List Str := if ended x.Text then [[x.Kind] ++ x.Text] else [[x.Kind] ++ x.Text, markS]
def U9 (h : PatchHunk) : Str := [64, 64, 32, 45] ++ I0 h.Old (J5 h) ++ [32, 43] ++ I0 h.New (L1 h) ++ [32, 64, 64, 10]
def S3 (h : PatchHunk) : List Str := U9 h :: (h.Lines.map P2).flatten
def Y3 (p : Patch) : List Str := [[45, 45, 45, 32] ++ L5 p.OldName ++ [10], [43, 43, 43, 32] ++ L5 p.NewName ++ [10]]
def writePs (p : Patch) : List Str := Y3 p ++ (p.Hunks.map S3).flatten
def J6 (p : Patch) : Str := (writePs p).flatten
def F7 (p : Patch) : Int := if L2 p.OldName = false ∨ L2 p.NewName = false then 120 else if P1 p.Hunks = false then 121 else if 16777216 < (J6 p).length then 1 else 0
def szL (x : PatchLine) : Nat := x.Text.length + 64
def szH (h : PatchHunk) : Nat := 64 + (h.Lines.map szL).sum
def szP (hs : List PatchHunk) : Nat := (hs.map szH).sum
structure PFit (p : Patch) : Prop where
 old : p.OldName.length ≤ 4194304
 new : p.NewName.length ≤ 4194304
 hunks : szP p.Hunks ≤ 268435456
theorem szL_take (ls : List PatchLine) (i : Nat) : ((ls.take i).map szL).sum ≤ (ls.map szL).sum := by
 conv => rhs; rw [← List.take_append_drop i ls, List.map_append, List.sum_append]
 omega
theorem X2 (ls : List PatchLine) : 64 * ls.length ≤ (ls.map szL).sum := by
 induction ls with
 | nil => simp
 | cons x r ih => simp only [List.map_cons, List.sum_cons, List.length_cons, szL]; omega
theorem szL_mem {ls : List PatchLine} {x : PatchLine} (h : x ∈ ls) : x.Text.length + 64 ≤ (ls.map szL).sum := by
 induction ls with
 | nil => simp at h
 | cons y r ih =>
  simp only [List.map_cons, List.sum_cons]
  rcases List.mem_cons.1 h with rfl | h
  ·unfold szL; omega
  ·have := ih h; omega
theorem s6 {hs : List PatchHunk} {h : PatchHunk} (hm : h ∈ hs) : szH h ≤ szP hs := by
 unfold szP
 induction hs with
 | nil => simp at hm
 | cons y r ih =>
  simp only [List.map_cons, List.sum_cons]
  rcases List.mem_cons.1 hm with rfl | hm
  ·omega
  ·have := ih hm; omega
theorem szP_len (hs : List PatchHunk) : 64 * hs.length ≤ szP hs := by
 unfold szP
 induction hs with
 | nil => simp
 | cons x r ih => simp only [List.map_cons, List.sum_cons, List.length_cons, szH]; omega
theorem szP_take (hs : List PatchHunk) (i : Nat) : szP (hs.take i) ≤ szP hs := by
 unfold szP
 conv => rhs; rw [← List.take_append_drop i hs, List.map_append, List.sum_append]
 omega
theorem J1 (ls : List PatchLine) (k : UInt8) : (C4 ls k).length ≤ ls.length := by unfold C4; rw [List.length_map]; exact List.length_filter_le _ _
theorem d5 (ls : List PatchLine) (k : UInt8) (i : Nat) (h : i < ls.length) : C4 (ls.take (i + 1)) k = if ls[i].Kind ≠ k then C4 (ls.take i) k ++ [ls[i].Text] else C4 (ls.take i) k := by
 unfold C4
 rw [List.take_succ_eq_append_getElem h, List.filter_append, List.map_append]
 by_cases hk : ls[i].Kind = k
 ·rw [if_neg (by simp [hk])]; simp [hk]
 ·rw [if_pos hk]; simp [hk]
theorem sideLines_succ (hs : List PatchHunk) (k : UInt8) (i : Nat) (h : i < hs.length) : G5 (hs.take (i + 1)) k = G5 (hs.take i) k ++ C4 hs[i].Lines k := by
 unfold G5
 rw [List.take_succ_eq_append_getElem h, List.map_append, List.flatten_append]; simp only [List.map_cons, List.map_nil, List.flatten_cons, List.flatten_nil, List.append_nil]
theorem sideLines_len (hs : List PatchHunk) (k : UInt8) : 64 * (G5 hs k).length ≤ szP hs := by
 induction hs with
 | nil => simp [G5]
 | cons h r ih =>
  have h1 := J1 h.Lines k
  have h2 := X2 h.Lines
  simp only [G5, List.map_cons, List.flatten_cons, List.length_append, szP, List.sum_cons, szH] at ih ⊢
  omega
theorem sideLines_mem {hs : List PatchHunk} {k : UInt8} {s : Str} (h : s ∈ G5 hs k) : s.length ≤ szP hs := by
 unfold G5 at h
 obtain ⟨l, hl, hs'⟩ := List.mem_flatten.1 h
 obtain ⟨hk, hhk, rfl⟩ := List.mem_map.1 hl
 unfold C4 at hs'
 obtain ⟨x, hx, rfl⟩ := List.mem_map.1 hs'
 have h1 := szL_mem (List.mem_filter.1 hx).1
 have h2 := s6 hhk
 unfold szH at h2
 omega
theorem endedBut_drop (l : List Str) (i : Nat) (h : i + 1 < l.length) : M9 (l.drop i) = (ended l[i] && M9 (l.drop (i + 1))) := by
 rw [List.drop_eq_getElem_cons (by omega), M9]
 have : (l.drop (i + 1)).isEmpty = false := by
  rw [List.isEmpty_eq_false_iff]; intro e
  have := congrArg List.length e
  simp at this; omega
 rw [this]; rfl
theorem endedBut_last (l : List Str) (i : Nat) (h : l.length ≤ i + 1) : M9 (l.drop i) = true := by
 rcases Nat.lt_or_ge i l.length with h' | h'
 ·rw [List.drop_eq_getElem_cons h', List.drop_eq_nil_of_le h]; rfl
 ·rw [List.drop_eq_nil_of_le h']; rfl
theorem linePs_len (x : PatchLine) : (P2 x).length ≤ 2 ∧ 1 ≤ (P2 x).length := by unfold P2; split <;> simp
theorem linePs_flat (x : PatchLine) : (P2 x).flatten.length ≤ szL x := by
 unfold P2 szL markS; split <;> simp <;> omega
theorem linesPs_flat (ls : List PatchLine) : (ls.map P2).flatten.flatten.length ≤ (ls.map szL).sum := by
 induction ls with
 | nil => simp
 | cons x r ih => have := linePs_flat x; simp only [List.map_cons, List.flatten_cons, List.flatten_append, List.length_append, List.sum_cons]; omega
theorem linesPs_len (ls : List PatchLine) : (ls.map P2).flatten.length ≤ 2 * ls.length := by
 induction ls with
 | nil => simp
 | cons x r ih => have := linePs_len x; simp only [List.map_cons, List.flatten_cons, List.length_append, List.length_cons]; omega
theorem headW_len (h : PatchHunk) : (U9 h).length ≤ 52 := by
 have h1 := j9 h.Old (J5 h)
 have h2 := j9 h.New (L1 h)
 unfold U9
 simp only [List.length_append, List.length_cons, List.length_nil]; omega
theorem hunkPs_flat (h : PatchHunk) : (S3 h).flatten.length ≤ szH h := by
 have h1 := headW_len h
 have h2 := linesPs_flat h.Lines
 unfold S3 szH
 simp only [List.flatten_cons, List.length_append]; omega
theorem Z3 (hs : List PatchHunk) : (hs.map S3).flatten.flatten.length ≤ szP hs := by
 unfold szP
 induction hs with
 | nil => simp
 | cons x r ih => have := hunkPs_flat x; simp only [List.map_cons, List.flatten_cons, List.flatten_append, List.length_append, List.sum_cons]; omega
theorem hunkPs_len (h : PatchHunk) : (S3 h).length ≤ szH h := by
 have h1 := linesPs_len h.Lines
 have h2 := X2 h.Lines
 unfold S3 szH
 simp only [List.length_cons]; omega
theorem hunksPs_len (hs : List PatchHunk) : (hs.map S3).flatten.length ≤ szP hs := by
 unfold szP
 induction hs with
 | nil => simp
 | cons x r ih => have := hunkPs_len x; simp only [List.map_cons, List.flatten_cons, List.length_append, List.sum_cons]; omega
theorem l5 (p : Patch) : (Y3 p).flatten.length ≤ 4 * p.OldName.length + 4 * p.NewName.length + 14 := by
 have h1 := j8 p.OldName
 have h2 := j8 p.NewName
 unfold Y3
 simp only [List.flatten_cons, List.flatten_nil, List.length_append, List.length_cons, List.length_nil]; omega
theorem hunkTo_succ (hs : List PatchHunk) (k : Nat) (h : k < hs.length) : ((hs.take (k + 1)).map S3).flatten = ((hs.take k).map S3).flatten ++ S3 hs[k] := by
 rw [List.take_succ_eq_append_getElem h, List.map_append, List.flatten_append]; simp only [List.map_cons, List.map_nil, List.flatten_cons, List.flatten_nil, List.append_nil]
theorem lineTo_succ (ls : List PatchLine) (k : Nat) (h : k < ls.length) : ((ls.take (k + 1)).map P2).flatten = ((ls.take k).map P2).flatten ++ P2 ls[k] := by
 rw [List.take_succ_eq_append_getElem h, List.map_append, List.flatten_append]; simp only [List.map_cons, List.map_nil, List.flatten_cons, List.flatten_nil, List.append_nil]
theorem y1 : ∀ (hs : List PatchHunk) (i j : Int), S7 i j hs = true → 0 ≤ i → 0 ≤ j → ∀ h ∈ hs, (0 ≤ h.Old ∧ h.Old ≤ 4096) ∧ (0 ≤ h.New ∧ h.New ≤ 4096)
 | [], _, _, _, _, _, h, hm => by simp at hm
 | x :: r, i, j, hg, hi, hj, h, hm => by
  simp only [S7, Bool.and_eq_true, decide_eq_true_eq] at hg
  obtain ⟨_, h1, h2, h3⟩ := hg
  unfold P0 at h1
  have hx : (0 ≤ x.Old ∧ x.Old ≤ 4096) ∧ (0 ≤ x.New ∧ x.New ≤ 4096) := by omega
  rcases List.mem_cons.1 hm with rfl | hm
  ·exact hx
  ·exact y1 r _ _ h3 (by unfold J5; omega) (by unfold L1; omega) h hm
theorem y2 {hs : List PatchHunk} (h : P1 hs = true) : ∀ x ∈ hs, (0 ≤ x.Old ∧ x.Old ≤ 4096) ∧ (0 ≤ x.New ∧ x.New ≤ 4096) := by
 unfold P1 at h
 rw [Bool.and_eq_true] at h
 exact y1 hs 0 0 h.1 (by omega) (by omega)
end Go.AL
namespace Go.AL
open Go
def N0 (k : UInt8) (ts : List Str) : List PatchLine := ts.map fun t => ⟨k, t⟩
theorem putOf_succ (k : UInt8) (ts : List Str) (i : Nat) (h : i < ts.length) : N0 k (ts.take (i + 1)) = N0 k (ts.take i) ++ [⟨k, ts[i]⟩] := by
 unfold N0; rw [List.take_succ_eq_append_getElem h, List.map_append]; rfl
theorem l6 (k : UInt8) (ts : List Str) : (N0 k ts).length = ts.length := by simp [N0]
def sub (x : List Str) (a b : Int) : List Str := (x.drop a.toNat).take (b.toNat - a.toNat)
theorem Z4 (x : List Str) (a b : Int) : (sub x a b).length ≤ x.length := by unfold sub; rw [List.length_take, List.length_drop]; omega
def V8 (c : Change) : Int := c.Old + c.OldLen
def S6 (l : List Change) (i0 : Int) (a t : Nat) : Int := if t = 0 then i0 else V8 (cAt l (a + t - 1))
theorem posTo_succ (l : List Change) (i0 : Int) (a t : Nat) : S6 l i0 a (t + 1) = V8 (cAt l (a + t)) := by
 unfold S6; rw [if_neg (by omega)]; congr 2
def N3 (l : List Change) (x y : List Str) (i0 : Int) (a : Nat) : Nat → List PatchLine
 | 0 => []
 | t + 1 => N3 l x y i0 a t ++ N0 32 (sub x (S6 l i0 a t) (cAt l (a + t)).Old) ++ N0 45 (sub x (cAt l (a + t)).Old (V8 (cAt l (a + t)))) ++ N0 43 (sub y (cAt l (a + t)).New ((cAt l (a + t)).New + (cAt l (a + t)).NewLen))
def H5 (l : List Change) (x y : List Str) (h : Hunk) : PatchHunk :=
 ⟨h.Old.From, h.New.From, N3 l x y h.Old.From h.First.toNat (h.Last.toNat - h.First.toNat) ++ N0 32 (sub x (S6 l h.Old.From h.First.toNat (h.Last.toNat - h.First.toNat)) h.Old.To)⟩
theorem madeTo_len (l : List Change) (x y : List Str) (i0 : Int) (a t : Nat) : (N3 l x y i0 a t).length ≤ t * (2 * x.length + y.length) := by
 induction t with
 | zero => simp [N3]
 | succ t ih =>
  have h1 := Z4 x (S6 l i0 a t) (cAt l (a + t)).Old
  have h2 := Z4 x (cAt l (a + t)).Old (V8 (cAt l (a + t)))
  have h3 := Z4 y (cAt l (a + t)).New ((cAt l (a + t)).New + (cAt l (a + t)).NewLen)
  simp only [N3, List.length_append, l6]
  rw [Nat.succ_mul]; omega
def K3 : Patch := ⟨[], [], []⟩
def L4 (x y : List Str) : List Change := walkOf (F2 (D1 [x, y]) x) (F2 (D1 [x, y]) y)
def K6 (x y : List Str) (ctx : Int) : List PatchHunk := (M3 (L4 x y) x.length y.length ctx).1.map (H5 (L4 x y) x y)
def make12 (on nn a b : Str) (ctx : Int) : Patch × Int :=
 if L2 on = false ∨ L2 nn = false then (K3, 120)
 else if (F1 a).2 ≠ 0 then (K3, (F1 a).2)
 else if (F1 b).2 ≠ 0 then (K3, (F1 b).2)
 else if (M3 (L4 (F1 a).1 (F1 b).1) (F1 a).1.length (F1 b).1.length ctx).2 ≠ 0 then (K3, (M3 (L4 (F1 a).1 (F1 b).1) (F1 a).1.length (F1 b).1.length ctx).2)
 else if F7 ⟨on, nn, K6 (F1 a).1 (F1 b).1 ctx⟩ ≠ 0 then (K3, F7 ⟨on, nn, K6 (F1 a).1 (F1 b).1 ctx⟩)
 else (⟨on, nn, K6 (F1 a).1 (F1 b).1 ctx⟩, 0)
theorem y3 (x y : List Str) : (L4 x y).length ≤ x.length + 1 := by
 unfold L4 walkOf p9
 have h1 := madeGo_length (H8 0 0 (F2 (D1 [x, y]) x) (F2 (D1 [x, y]) y)) 0 0 ((F2 (D1 [x, y]) x).length) ((F2 (D1 [x, y]) y).length)
 have h2 := walkGo_length 0 0 (F2 (D1 [x, y]) x) (F2 (D1 [x, y]) y)
 have h3 : (F2 (D1 [x, y]) x).length = x.length := by simp [F2]
 omega
end Go.AL
namespace Go.AL
open Go
def fitsOf (h : PatchHunk) (lines : List Str) : Bool := if (lines.length : Int) < h.Old + J5 h then false else decide ((lines.drop h.Old.toNat).take (C4 h.Lines 43).length = C4 h.Lines 43)
def fitN : List PatchHunk → List Str → Nat
 | [], _ => 0
 | h :: r, x => if fitsOf h x = true then fitN r x + 1 else 0
def fits14 (p : Patch) (blob : Str) : Int × Int := if F7 p ≠ 0 then (0, F7 p) else if (F1 blob).2 ≠ 0 then (0, (F1 blob).2) else (fitN p.Hunks (F1 blob).1, 0)
def hAt (hs : List PatchHunk) (k : Nat) : PatchHunk := hs.getD k ⟨0, 0, []⟩
theorem hAt_get {hs : List PatchHunk} {k : Nat} (h : k < hs.length) : hs[k]? = some (hAt hs k) := by
 unfold hAt; rw [List.getD_eq_getElem?_getD, List.getElem?_eq_getElem h]; rfl
theorem hAt_mem {hs : List PatchHunk} {k : Nat} (h : k < hs.length) : hAt hs k ∈ hs := List.mem_of_getElem? (hAt_get h)
def d6 (hs : List PatchHunk) (k : Nat) : Int := if k = 0 then 0 else (hAt hs (k - 1)).Old + J5 (hAt hs (k - 1))
def n6 (hs : List PatchHunk) (x : List Str) : Nat → List Str
 | 0 => []
 | k + 1 => n6 hs x k ++ sub x (d6 hs k) (hAt hs k).Old ++ C4 (hAt hs k).Lines 45
def applyOf (hs : List PatchHunk) (x : List Str) : Str × Int :=
 let out := n6 hs x hs.length ++ x.drop (d6 hs hs.length).toNat
 if p8 out = false then ([], 140) else j1 out
def s7 (p : Patch) (blob : Str) : Str × Int := if (fits14 p blob).2 ≠ 0 then ([], (fits14 p blob).2) else if (fits14 p blob).1 < p.Hunks.length then ([], 140) else applyOf p.Hunks (D8 blob)
theorem fitsOf_le {h : PatchHunk} {x : List Str} (hf : fitsOf h x = true) : h.Old + J5 h ≤ x.length := by
 unfold fitsOf at hf
 split at hf
 ·cases hf
 ·omega
theorem goodGo_order : ∀ (hs : List PatchHunk) (i j : Int), S7 i j hs = true → ∀ k, k < hs.length → (if k = 0 then i else (hAt hs (k - 1)).Old + J5 (hAt hs (k - 1))) ≤ (hAt hs k).Old
 | [], _, _, _, k, hk => by simp at hk
 | y :: r, i, j, hg, k, hk => by
  simp only [S7, Bool.and_eq_true, decide_eq_true_eq] at hg
  obtain ⟨_, h1, _, h3⟩ := hg
  unfold P0 at h1
  match k with
  | 0 => simp only [if_pos]; show i ≤ y.Old; omega
  | 1 =>
   have := goodGo_order r _ _ h3 0 (by simpa using hk)
   simpa [hAt] using this
  | k + 2 =>
   have := goodGo_order r _ _ h3 (k + 1) (by simp only [List.length_cons] at hk; omega)
   simpa [hAt] using this
theorem oldN_nn (h : PatchHunk) : 0 ≤ J5 h := by unfold J5; omega
theorem sub_flat (x : List Str) (a b : Int) (_h0 : 0 ≤ a) (h1 : a ≤ b) : (x.take a.toNat).flatten.length + (sub x a b).flatten.length = (x.take b.toNat).flatten.length := by
 have e : x.take b.toNat = x.take a.toNat ++ sub x a b := by
  unfold sub
  rw [show b.toNat = a.toNat + (b.toNat - a.toNat) by omega, List.take_add]; congr 2; omega
 rw [e, List.flatten_append, List.length_append]
theorem szP_succ (hs : List PatchHunk) (k : Nat) (h : k < hs.length) : szP (hs.take (k + 1)) = szP (hs.take k) + szH (hAt hs k) := by
 have e : hs[k] = hAt hs k := by have := hAt_get h; rw [List.getElem?_eq_getElem h] at this; exact Option.some.inj this
 unfold szP
 rw [List.take_succ_eq_append_getElem h, List.map_append, List.sum_append, e]; simp
theorem linesNot_flat (ls : List PatchLine) (k : UInt8) : (C4 ls k).flatten.length + (C4 ls k).length ≤ (ls.map szL).sum := by
 unfold C4
 induction ls with
 | nil => simp
 | cons x r ih =>
  by_cases hx : x.Kind = k
  ·simp [hx, szL] at ih ⊢; omega
  ·simp [hx, szL] at ih ⊢; omega
end Go.AL
namespace Go.AL
open Go
def n7 (o n : Bool) : List PatchLine → Option (Bool × Bool)
 | [] => some (o, n)
 | x :: r =>
  if x.Kind ≠ 43 ∧ o = true then none
  else if x.Kind ≠ 45 ∧ n = true then none
  else n7 (if x.Kind ≠ 43 then !ended x.Text else o) (if x.Kind ≠ 45 then !ended x.Text else n) r
def Q9 : Bool → List Str → Bool
 | _, [] => true
 | o, s :: r => !o && Q9 (!ended s) r
def d7 (o : Bool) : List Str → Bool
 | [] => o
 | s :: r => d7 (!ended s) r
theorem closedB_append : ∀ (a b : List Str) (o : Bool), Q9 o (a ++ b) = (Q9 o a && Q9 (d7 o a) b)
 | [], b, o => by simp [Q9, d7]
 | s :: r, b, o => by simp only [List.cons_append, Q9, d7, closedB_append r b]; cases o <;> simp
theorem closedB_ended : ∀ (l : List Str), Q9 false l = M9 l
 | [] => rfl
 | s :: r => by
  have ih := closedB_ended r
  simp only [Q9, M9]
  cases he : ended s
  ·cases r with
   | nil => rfl
   | cons t u => simp [Q9]
  ·rw [← ih]; cases r <;> simp [Q9]
theorem openGo_sides : ∀ (ls : List PatchLine) (o n : Bool), n7 o n ls = if Q9 o (C4 ls 43) && Q9 n (C4 ls 45) then some (d7 o (C4 ls 43), d7 n (C4 ls 45)) else none
 | [], o, n => by simp [n7, C4, Q9, d7]
 | x :: r, o, n => by
  have c1 : C4 (x :: r) 43 = if x.Kind ≠ 43 then x.Text :: C4 r 43 else C4 r 43 := by
   unfold C4; by_cases h : x.Kind = 43 <;> simp [h]
  have c2 : C4 (x :: r) 45 = if x.Kind ≠ 45 then x.Text :: C4 r 45 else C4 r 45 := by
   unfold C4; by_cases h : x.Kind = 45 <;> simp [h]
  rw [n7, openGo_sides r, c1, c2]
  by_cases h1 : x.Kind = 43 <;> by_cases h2 : x.Kind = 45 <;> cases o <;> cases n <;> simp [h1, h2, Q9, d7]
def V0 (i j : Int) (h : PatchHunk) : Prop := ((((h.Old < 0 ∨ h.New < 0) ∨ 4096 < h.Old) ∨ 4096 < h.New) ∨ h.Old < i) ∨ h.Old - i ≠ h.New - j
instance (i j : Int) (h : PatchHunk) : Decidable (V0 i j h) := by unfold V0; exact inferInstance
def wellGo (i j : Int) (o n : Bool) : List PatchHunk → Bool
 | [] => true
 | h :: r =>
  (h.Lines.all O9 && U2 h.Lines) && (decide (¬ V0 i j h) &&
   match n7 o n h.Lines with
   | none => false
   | some (o', n') => decide (h.Old + J5 h ≤ 4096 ∧ h.New + L1 h ≤ 4096) && wellGo (h.Old + J5 h) (h.New + L1 h) o' n' r)
theorem sideLines_cons (h : PatchHunk) (r : List PatchHunk) (k : UInt8) : G5 (h :: r) k = C4 h.Lines k ++ G5 r k := rfl
theorem well_eq : ∀ (hs : List PatchHunk) (i j : Int) (o n : Bool), 0 ≤ i → 0 ≤ j → wellGo i j o n hs = (S7 i j hs && (Q9 o (G5 hs 43) && Q9 n (G5 hs 45)))
 | [], i, j, o, n, _, _ => by simp [wellGo, S7, G5, Q9]
 | h :: r, i, j, o, n, hi, hj => by
  rw [wellGo, S7, sideLines_cons, sideLines_cons, closedB_append, closedB_append, openGo_sides]
  have a1 := oldN_nn h
  have a2 : 0 ≤ L1 h := by unfold L1; omega
  cases e1 : h.Lines.all O9
  ·simp
  cases e2 : U2 h.Lines
  ·have : decide (¬ P0 false i j h) = false := decide_eq_false (fun hh => hh (by unfold P0; simp))
   rw [this]; simp
  have e3 : decide (¬ V0 i j h) = decide (¬ P0 true i j h) := by
   apply decide_eq_decide.2
   unfold V0 P0
   constructor <;> intro hh <;> simp only [not_or, Bool.true_eq_false, not_false_eq_true, true_and] at hh ⊢ <;> omega
  rw [e3]
  by_cases hp : P0 true i j h
  ·rw [decide_eq_false (fun hh => hh hp)]; simp
  rw [decide_eq_true hp]
  have hb : 0 ≤ h.Old ∧ 0 ≤ h.New := by unfold P0 at hp; simp only [not_or] at hp; omega
  have e4 : decide (h.Old + J5 h ≤ 4096 ∧ h.New + L1 h ≤ 4096) = decide (¬ (4096 < h.Old + J5 h ∨ 4096 < h.New + L1 h)) := decide_eq_decide.2 (by omega)
  have ih := well_eq r (h.Old + J5 h) (h.New + L1 h) (d7 o (C4 h.Lines 43)) (d7 n (C4 h.Lines 45)) (by omega) (by omega)
  cases e5 : Q9 o (C4 h.Lines 43) <;> cases e6 : Q9 n (C4 h.Lines 45) <;> simp [e4, ih, Bool.and_assoc]
theorem well_good (hs : List PatchHunk) : wellGo 0 0 false false hs = P1 hs := by
 rw [well_eq hs 0 0 false false (by omega) (by omega), closedB_ended, closedB_ended]; rfl
end Go.AL
namespace Go.AL
open Go
theorem line_len (b s : Str) (h : s ∈ D8 b) : s.length ≤ b.length := by
 have h1 : (D8 b).flatten = b := by
  have key : ∀ (s cur : Str), (G4 cur s).flatten = cur ++ s := by
   intro s
   induction s with
   | nil => intro cur; unfold G4; split <;> simp [*]
   | cons c r ih => intro cur; unfold G4; split <;> simp [ih]
  exact key b []
 have h2 : ∀ (l : List Str), s ∈ l → s.length ≤ l.flatten.length := by
  intro l
  induction l with
  | nil => intro h; cases h
  | cons x r ih =>
   intro h
   rcases List.mem_cons.1 h with rfl | h
   ·simp
   ·have := ih h; simp only [List.flatten_cons, List.length_append]; omega
 have := h2 _ h; rw [h1] at this; exact this
end Go.AL
namespace Go.AL
open Go
theorem outTo_lenK {hs : List PatchHunk} {x : List Str} :
  ∀ k, k ≤ hs.length → (∀ j, j < k → 0 ≤ d6 hs j ∧ d6 hs j ≤ (hAt hs j).Old ∧ (hAt hs j).Old + J5 (hAt hs j) ≤ x.length) → (n6 hs x k).length ≤ (d6 hs k).toNat + szP (hs.take k) ∧ (n6 hs x k).flatten.length ≤ (x.take (d6 hs k).toNat).flatten.length + szP (hs.take k)
 | 0, _, _ => by simp [n6]
 | k + 1, hk, ho => by
  obtain ⟨h1, h2⟩ := outTo_lenK k (by omega) (fun j hj => ho j (by omega))
  obtain ⟨h3, h4, h5⟩ := ho k (by omega)
  have h6 := oldN_nn (hAt hs k)
  have e : d6 hs (k + 1) = (hAt hs k).Old + J5 (hAt hs k) := by unfold d6; rw [if_neg (by omega)]; rfl
  have h7 := sub_flat x (d6 hs k) (hAt hs k).Old h3 h4
  have h8 := szP_succ hs k (by omega)
  have h9 := linesNot_flat (hAt hs k).Lines 45
  have h10 := sub_flat x (hAt hs k).Old ((hAt hs k).Old + J5 (hAt hs k)) (by omega) (by omega)
  have h11 : (sub x (d6 hs k) (hAt hs k).Old).length ≤ (hAt hs k).Old.toNat - (d6 hs k).toNat := by unfold sub; rw [List.length_take]; omega
  unfold szH at h8
  simp only [n6, List.length_append, List.flatten_append, e]
  constructor <;> omega
theorem szL_le (ls : List PatchLine) (L : Nat) (h : ∀ x ∈ ls, x.Text.length ≤ L) : (ls.map szL).sum ≤ ls.length * (L + 64) := by
 induction ls with
 | nil => simp
 | cons x r ih =>
  have h1 := ih (fun y hy => h y (by simp [hy]))
  have h2 := h x (by simp)
  simp only [List.map_cons, List.sum_cons, List.length_cons, Nat.succ_mul]
  unfold szL at *; omega
theorem szP_le (hs : List PatchHunk) (B : Nat) (h : ∀ x ∈ hs, szH x ≤ B) : szP hs ≤ hs.length * B := by
 induction hs with
 | nil => simp [szP]
 | cons x r ih =>
  have h1 := ih (fun y hy => h y (by simp [hy]))
  have h2 := h x (by simp)
  simp only [szP, List.map_cons, List.sum_cons, List.length_cons, Nat.succ_mul] at *
  omega
theorem sub_mem {x : List Str} {a b : Int} {s : Str} (h : s ∈ sub x a b) : s ∈ x := by
 unfold sub at h
 exact List.mem_of_mem_drop (List.mem_of_mem_take h)
theorem putOf_mem {k : UInt8} {ts : List Str} {q : PatchLine} (h : q ∈ N0 k ts) : q.Text ∈ ts := by
 unfold N0 at h
 obtain ⟨t, ht, rfl⟩ := List.mem_map.1 h
 exact ht
theorem madeTo_mem (l : List Change) (x y : List Str) (i0 : Int) (a : Nat) : ∀ (t : Nat) (q : PatchLine), q ∈ N3 l x y i0 a t → q.Text ∈ x ∨ q.Text ∈ y
 | 0, q, h => by simp [N3] at h
 | t + 1, q, h => by
  simp only [N3, List.mem_append] at h
  rcases h with ((h | h) | h) | h
  ·exact madeTo_mem l x y i0 a t q h
  ·exact .inl (sub_mem (putOf_mem h))
  ·exact .inl (sub_mem (putOf_mem h))
  ·exact .inr (sub_mem (putOf_mem h))
theorem hunkOfG_sz (l : List Change) (x y : List Str) (h : Hunk) (L T : Nat) (hx : ∀ s ∈ x, s.length ≤ L) (hy : ∀ s ∈ y, s.length ≤ L) (ht : h.Last.toNat - h.First.toNat ≤ T) :
  szH (H5 l x y h) ≤ 64 + (T * (2 * x.length + y.length) + x.length) * (L + 64) := by
 unfold szH
 have h1 : ∀ q ∈ (H5 l x y h).Lines, q.Text.length ≤ L := by
  intro q hq
  simp only [H5, List.mem_append] at hq
  rcases hq with hq | hq
  ·rcases madeTo_mem _ _ _ _ _ _ _ hq with h | h
   ·exact hx _ h
   ·exact hy _ h
  ·exact hx _ (sub_mem (putOf_mem hq))
 have h2 := szL_le _ L h1
 have h3 : (H5 l x y h).Lines.length ≤ T * (2 * x.length + y.length) + x.length := by
  simp only [H5, List.length_append, l6]
  have h4 := madeTo_len l x y h.Old.From h.First.toNat (h.Last.toNat - h.First.toNat)
  have h5 := Z4 x (S6 l h.Old.From h.First.toNat (h.Last.toNat - h.First.toNat)) h.Old.To
  have h6 : (h.Last.toNat - h.First.toNat) * (2 * x.length + y.length) ≤ T * (2 * x.length + y.length) := Nat.mul_le_mul_right _ ht
  omega
 have h4 : (H5 l x y h).Lines.length * (L + 64) ≤ (T * (2 * x.length + y.length) + x.length) * (L + 64) := Nat.mul_le_mul_right _ h3
 omega
theorem groupOf_fit (l : List Change) (m n ctx : Int) : (M3 l m n ctx).1.length ≤ l.length ∧ ∀ h ∈ (M3 l m n ctx).1, h.Last.toNat - h.First.toNat ≤ l.length := by
 unfold M3
 by_cases c1 : ctx < 0 ∨ 1048576 < ctx
 ·rw [if_pos c1]; simp
 rw [if_neg c1]
 by_cases c2 : Q4 l m n ≠ 0
 ·rw [if_pos c2]; simp
 rw [if_neg c2]
 obtain ⟨_, _, c3⟩ := check8_ok (Decidable.not_not.1 c2)
 refine ⟨(V2 l m ctx l.length).1, fun h hh => ?_⟩
 have := groupTo_ok c3 (show 0 ≤ ctx by omega) l.length (Nat.le_refl _) h hh
 obtain ⟨a, b, e1, e2, e3, e4, _⟩ := this
 omega
theorem madeHunks_sz (x y : List Str) (ctx : Int) (L : Nat) (hx : ∀ s ∈ x, s.length ≤ L) (hy : ∀ s ∈ y, s.length ≤ L) :
  szP (K6 x y ctx) ≤ (x.length + 1) * (64 + ((x.length + 1) * (2 * x.length + y.length) + x.length) * (L + 64)) := by
 have h0 := y3 x y
 obtain ⟨h1, h2⟩ := groupOf_fit (L4 x y) x.length y.length ctx
 have h3 : ∀ q ∈ K6 x y ctx, szH q ≤ 64 + ((x.length + 1) * (2 * x.length + y.length) + x.length) * (L + 64) := by
  intro q hq
  unfold K6 at hq
  obtain ⟨h, hh, rfl⟩ := List.mem_map.1 hq
  exact hunkOfG_sz _ _ _ _ L (x.length + 1) hx hy (by have := h2 h hh; omega)
 have h4 := szP_le _ _ h3
 have h5 : (K6 x y ctx).length ≤ x.length + 1 := by unfold K6; rw [List.length_map]; omega
 exact Nat.le_trans h4 (Nat.mul_le_mul_right _ h5)
theorem madeHunks_small (a b : Str) (ctx : Int) (ha : a.length ≤ 36) (hb : b.length ≤ 216) : szP (K6 (F1 a).1 (F1 b).1 ctx) ≤ 134217728 := by
 have hm : ∀ (s : Str), (F1 s).1.length ≤ s.length ∧ ∀ t ∈ (F1 s).1, t.length ≤ s.length := by
  intro s
  unfold F1
  split
  ·simp
  ·refine ⟨U7 s, fun t ht => line_len s t ht⟩
 obtain ⟨ha1, ha2⟩ := hm a
 obtain ⟨hb1, hb2⟩ := hm b
 have h := madeHunks_sz (F1 a).1 (F1 b).1 ctx 216 (fun s hs => by have := ha2 s hs; omega) (fun s hs => by have := hb2 s hs; omega)
 refine Nat.le_trans h ?_
 have e1 : (F1 a).1.length ≤ 36 := by omega
 have e2 : (F1 b).1.length ≤ 216 := by omega
 refine Nat.le_trans (Nat.mul_le_mul (Nat.add_le_add_right e1 1) (Nat.add_le_add_left (Nat.mul_le_mul_right _ (Nat.add_le_add (Nat.mul_le_mul (Nat.add_le_add_right e1 1) (Nat.add_le_add (Nat.mul_le_mul_left 2 e1) e2)) e1)) 64)) ?_
 decide
end Go.AL
namespace Go.AL
open Go
def endN (c : Change) : Int := c.New + c.NewLen
def eoI (i : Int) (l : List Change) (k : Nat) : Int := if k = 0 then i else V8 (cAt l (k - 1))
def enI (j : Int) (l : List Change) (k : Nat) : Int := if k = 0 then j else endN (cAt l (k - 1))
theorem v8 (i : Int) (c : Change) (r : List Change) (k : Nat) : eoI i (c :: r) (k + 1) = eoI (V8 c) r k := by
 cases k <;> rfl
theorem w7 (j : Int) (c : Change) (r : List Change) (k : Nat) : enI j (c :: r) (k + 1) = enI (endN c) r k := by
 cases k <;> rfl
theorem eoI_succ (i : Int) (l : List Change) (k : Nat) : eoI i l (k + 1) = V8 (cAt l k) := rfl
theorem enI_succ (j : Int) (l : List Change) (k : Nat) : enI j l (k + 1) = endN (cAt l k) := rfl
theorem cAt_cons (c : Change) (r : List Change) (k : Nat) : cAt (c :: r) (k + 1) = cAt r k := rfl
def EqRuns (x y : List Str) (i j : Int) : List Change → Prop
 | [] => sub x i x.length = sub y j y.length
 | c :: r => sub x i c.Old = sub y j c.New ∧ EqRuns x y (V8 c) (endN c) r
theorem r7 (m n : Int) : ∀ (l : List Change) (k0 : Nat) (i j : Int), J3 k0 i j l m n = true → ∀ k, k < l.length →
  G7 (cAt l k).Old ∧ G7 (cAt l k).OldLen ∧ G7 (cAt l k).New ∧ G7 (cAt l k).NewLen ∧ (cAt l k).OldLen + (cAt l k).NewLen ≠ 0 ∧ (cAt l k).Old - eoI i l k = (cAt l k).New - enI j l k ∧ eoI i l k ≤ (cAt l k).Old ∧ (0 < k0 + k → eoI i l k < (cAt l k).Old)
 | [], _, _, _, _, k, hk => by simp at hk
 | c :: r, k0, i, j, h, k, hk => by
  simp only [J3, Bool.and_eq_true, decide_eq_true_eq] at h
  obtain ⟨h1, h2⟩ := h
  cases k with
  | zero =>
   unfold badC at h1
   show G7 c.Old ∧ G7 c.OldLen ∧ G7 c.New ∧ G7 c.NewLen ∧ c.OldLen + c.NewLen ≠ 0 ∧ c.Old - i = c.New - j ∧ i ≤ c.Old ∧ (0 < k0 + 0 → i < c.Old)
   have d1 : G7 c.Old := by by_cases q : G7 c.Old; exact q; exact absurd (.inl (.inl (.inl (.inl (.inl (.inl (.inl q))))))) h1
   have d2 : G7 c.OldLen := by by_cases q : G7 c.OldLen; exact q; exact absurd (.inl (.inl (.inl (.inl (.inl (.inl (.inr q))))))) h1
   have d3 : G7 c.New := by by_cases q : G7 c.New; exact q; exact absurd (.inl (.inl (.inl (.inl (.inl (.inr q)))))) h1
   have d4 : G7 c.NewLen := by by_cases q : G7 c.NewLen; exact q; exact absurd (.inl (.inl (.inl (.inl (.inr q))))) h1
   refine ⟨d1, d2, d3, d4, fun q => h1 (.inl (.inl (.inl (.inr q)))), ?_, ?_, fun h0 => ?_⟩
   ·by_cases q : c.Old - i = c.New - j
    ·exact q
    ·exact absurd (.inl (.inl (.inr q))) h1
   ·by_cases q : c.Old < i
    ·exact absurd (.inl (.inr q)) h1
    ·omega
   ·by_cases q : c.Old < i
    ·exact absurd (.inl (.inr q)) h1
    ·by_cases q2 : c.Old = i
     ·exact absurd (.inr ⟨by omega, q2⟩) h1
     ·omega
  | succ k =>
   have := r7 m n r (k0 + 1) _ _ h2 k (by simpa using hk)
   rw [cAt_cons, v8, w7]
   obtain ⟨e1, e2, e3, e4, e5, e6, e7, e8⟩ := this
   exact ⟨e1, e2, e3, e4, e5, e6, e7, fun h0 => e8 (by omega)⟩
theorem sc_end (m n : Int) : ∀ (l : List Change) (k0 : Nat) (i j : Int), J3 k0 i j l m n = true → m - eoI i l l.length = n - enI j l l.length ∧ eoI i l l.length ≤ m
 | [], _, i, j, h => by
  simp only [J3, decide_eq_true_eq] at h
  show m - i = n - j ∧ i ≤ m
  omega
 | c :: r, k0, i, j, h => by
  simp only [J3, Bool.and_eq_true, decide_eq_true_eq] at h
  rw [List.length_cons, v8, w7]
  exact sc_end m n r _ _ _ h.2
theorem eq_get (x y : List Str) : ∀ (l : List Change) (i j : Int), EqRuns x y i j l → ∀ k, k < l.length → sub x (eoI i l k) (cAt l k).Old = sub y (enI j l k) (cAt l k).New
 | [], _, _, _, k, hk => by simp at hk
 | c :: r, i, j, h, k, hk => by
  cases k with
  | zero => exact h.1
  | succ k => rw [v8, w7, cAt_cons]; exact eq_get x y r _ _ h.2 k (by simpa using hk)
theorem eq_end (x y : List Str) : ∀ (l : List Change) (i j : Int), EqRuns x y i j l → sub x (eoI i l l.length) x.length = sub y (enI j l l.length) y.length
 | [], _, _, h => h
 | c :: r, i, j, h => by rw [List.length_cons, v8, w7]; exact eq_end x y r _ _ h.2
def mkH (l : List Change) (m ctx : Int) (a b : Nat) : Hunk := x9 l m ctx (b - 1) (S2 l ctx a)
def GrOk (l : List Change) (m ctx : Int) : Nat → List Hunk → Nat → Prop
 | a, [], k => a = k
 | a, h :: r, k => ∃ b, a < b ∧ opens l ctx a ∧ h = mkH l m ctx a b ∧ GrOk l m ctx b r k
theorem GrOk.le {l : List Change} {m ctx : Int} : ∀ {hs : List Hunk} {a k : Nat}, GrOk l m ctx a hs k → a ≤ k
 | [], a, k, h => Nat.le_of_eq h
 | _ :: _, a, k, ⟨b, h1, _, _, h2⟩ => by have := GrOk.le h2; omega
theorem GrOk.snoc {l : List Change} {m ctx : Int} {k : Nat} (ho : opens l ctx k) : ∀ {hs : List Hunk} {a : Nat}, GrOk l m ctx a hs k → GrOk l m ctx a (hs ++ [mkH l m ctx k (k + 1)]) (k + 1)
 | [], a, h => by
  obtain rfl : a = k := h
  exact ⟨a + 1, by omega, ho, rfl, rfl⟩
 | _ :: _, a, ⟨b, h1, h2, h3, h4⟩ => ⟨b, h1, h2, h3, GrOk.snoc ho h4⟩
theorem GrOk.last {l : List Change} {m ctx : Int} {k : Nat} : ∀ {hs : List Hunk} {a : Nat}, GrOk l m ctx a hs k → hs ≠ [] → GrOk l m ctx a (hs.set (hs.length - 1) (x9 l m ctx k (hs.getD (hs.length - 1) hunk0))) (k + 1)
 | [], _, _, h0 => absurd rfl h0
 | [h], a, ⟨b, h1, h2, h3, h4⟩, _ => by
  obtain rfl : b = k := h4
  subst h3
  exact ⟨b + 1, by omega, h2, rfl, rfl⟩
 | h :: h' :: r, a, ⟨b, h1, h2, h3, h4⟩, _ => by
  have ih := GrOk.last h4 (by simp)
  refine ⟨b, h1, h2, h3, ?_⟩
  simpa using ih
theorem groupTo_gr (l : List Change) (m ctx : Int) : ∀ k, GrOk l m ctx 0 (H0 l m ctx k) k
 | 0 => rfl
 | k + 1 => by
  have ih := groupTo_gr l m ctx k
  have hne := (V2 l m ctx k).2
  simp only [H0, P7]
  by_cases ho : opens l ctx k
  ·rw [if_pos ho]
   have e : (H0 l m ctx k ++ [S2 l ctx k]).set ((H0 l m ctx k ++ [S2 l ctx k]).length - 1) (x9 l m ctx k ((H0 l m ctx k ++ [S2 l ctx k]).getD ((H0 l m ctx k ++ [S2 l ctx k]).length - 1) hunk0)) = H0 l m ctx k ++ [mkH l m ctx k (k + 1)] := by
    simp [mkH]
   rw [e]
   exact ih.snoc ho
  ·rw [if_neg ho]
   refine ih.last ?_
   have : k ≠ 0 := fun e => ho (.inl e)
   have := hne (by omega)
   intro e; rw [e] at this; simp at this
theorem s8 (x : List Str) {a b c : Int} (h0 : 0 ≤ a) (h1 : a ≤ b) (h2 : b ≤ c) : sub x a b ++ sub x b c = sub x a c := by
 unfold sub
 obtain ⟨u, rfl⟩ : ∃ u : Nat, (u : Int) = a := ⟨a.toNat, by omega⟩
 obtain ⟨v, rfl⟩ : ∃ v : Nat, (v : Int) = b := ⟨b.toNat, by omega⟩
 obtain ⟨w, rfl⟩ : ∃ w : Nat, (w : Int) = c := ⟨c.toNat, by omega⟩
 simp only [Int.toNat_natCast]
 have h3 : x.drop v = (x.drop u).drop (v - u) := by rw [List.drop_drop]; congr 1; omega
 rw [h3, show w - u = (v - u) + (w - v) by omega, List.take_add]
theorem sub_nil (x : List Str) (a : Int) : sub x a a = [] := by simp [sub]
theorem sub_length (x : List Str) {a b : Int} (h0 : 0 ≤ a) (h1 : a ≤ b) (h2 : b ≤ x.length) : ((sub x a b).length : Int) = b - a := by
 unfold sub; rw [List.length_take, List.length_drop]; omega
theorem run_tail {x y : List Str} {p q p' q' e : Int} (h : sub x p q = sub y p' q') (h0 : 0 ≤ p) (h0' : 0 ≤ p') (he : 0 ≤ e) (h1 : e ≤ q - p) (h2 : q - p = q' - p') : sub x (q - e) q = sub y (q' - e) q' := by
 have key : ∀ (z : List Str) (a b : Int), 0 ≤ a → e ≤ b - a → sub z (b - e) b = (sub z a b).drop (b - a - e).toNat := by
  intro z a b ha hb
  unfold sub
  rw [List.drop_take, List.drop_drop]
  congr 1
  ·omega
  ·congr 1; omega
 rw [key x p q h0 h1, key y p' q' h0' (by omega), h, h2]
theorem run_head {x y : List Str} {p q p' q' e : Int} (h : sub x p q = sub y p' q') (h0 : 0 ≤ p) (h0' : 0 ≤ p') (he : 0 ≤ e) (h1 : e ≤ q - p) (h2 : q - p = q' - p') : sub x p (p + e) = sub y p' (p' + e) := by
 have key : ∀ (z : List Str) (a b : Int), 0 ≤ a → e ≤ b - a → sub z a (a + e) = (sub z a b).take e.toNat := by
  intro z a b ha hb
  unfold sub
  rw [List.take_take]
  congr 1
  omega
 rw [key x p q h0 h1, key y p' q' h0' (by omega), h]
theorem linesNot_app (p q : List PatchLine) (k : UInt8) : C4 (p ++ q) k = C4 p k ++ C4 q k := by simp [C4]
theorem linesNot_put (k k' : UInt8) (ts : List Str) : C4 (N0 k ts) k' = if k = k' then [] else ts := by
 unfold C4 N0
 by_cases h : k = k'
 ·rw [if_pos h]; subst h
  simp [List.filter_eq_nil_iff]
 ·rw [if_neg h]
  rw [List.filter_eq_self.2 (by simp [h])]
  simp [Function.comp_def]
structure ScFit (x y : List Str) (l : List Change) : Prop where
 lx : (x.length : Int) ≤ 4096
 ly : (y.length : Int) ≤ 4096
 sc : J3 0 0 0 l x.length y.length = true
 eq : EqRuns x y 0 0 l
section
variable {x y : List Str} {l : List Change}
theorem ScFit.ok (h : ScFit x y l) : ScOk 0 0 l x.length y.length := l4 _ _ _ _ _ _ h.sc
theorem ScFit.check (h : ScFit x y l) : Q4 l x.length y.length = 0 := by
 have h1 := h.lx
 have h2 := h.ly
 unfold Q4
 rw [if_neg (by unfold G7; omega), if_pos h.sc]
theorem ScFit.nn (h : ScFit x y l) (k : Nat) (hk : k ≤ l.length) : 0 ≤ eoI 0 l k ∧ 0 ≤ enI 0 l k ∧ eoI 0 l k ≤ x.length ∧ enI 0 l k ≤ y.length := by
 cases k with
 | zero => exact ⟨Int.le_refl _, Int.le_refl _, Int.natCast_nonneg _, Int.natCast_nonneg _⟩
 | succ k =>
  obtain ⟨⟨a1, a2⟩, ⟨b1, b2⟩, ⟨c1, c2⟩, ⟨d1, d2⟩, h5, h6⟩ := h.ok.get k (by omega)
  rw [eoI_succ, enI_succ]; unfold V8 endN
  omega
def eA (l : List Change) (ctx : Int) (a : Nat) : Int := U3 ctx (cAt l a).Old
def eB (l : List Change) (m ctx : Int) (b : Nat) : Int := U3 ctx (m - eoI 0 l b)
theorem minI_le {a b : Int} (h : 0 ≤ a) (h' : 0 ≤ b) : 0 ≤ U3 a b ∧ U3 a b ≤ a ∧ U3 a b ≤ b := by unfold U3; split <;> omega
theorem opens_gap {ctx : Int} {a : Nat} (ho : opens l ctx a) (ha : a ≠ 0) : 2 * ctx < (cAt l a).Old - eoI 0 l a := by
 rcases ho with h | h
 ·exact absurd h ha
 ·unfold eoI; rw [if_neg ha]; unfold V8; omega
theorem ScFit.before (h : ScFit x y l) {ctx : Int} (hc : 0 ≤ ctx) {a : Nat} (ha : a < l.length) (ho : opens l ctx a) :
  0 ≤ eA l ctx a ∧ eA l ctx a ≤ ctx ∧ eA l ctx a ≤ (cAt l a).Old - eoI 0 l a := by
 obtain ⟨⟨a1, a2⟩, _⟩ := h.ok.get a ha
 have h3 := minI_le hc a1
 unfold eA
 by_cases h0 : a = 0
 ·subst h0
  show _ ∧ _ ∧ _ ≤ (cAt l 0).Old - 0
  omega
 ·have := opens_gap ho h0; omega
theorem ScFit.after (h : ScFit x y l) {ctx : Int} (hc : 0 ≤ ctx) {b : Nat} (hb : b ≤ l.length) (ho : b < l.length → opens l ctx b) (hb0 : b ≠ 0) :
  0 ≤ eB l x.length ctx b ∧ eB l x.length ctx b ≤ ctx ∧ eoI 0 l b + eB l x.length ctx b ≤ x.length ∧ enI 0 l b + eB l x.length ctx b ≤ y.length ∧
   sub x (eoI 0 l b) (eoI 0 l b + eB l x.length ctx b) = sub y (enI 0 l b) (enI 0 l b + eB l x.length ctx b) := by
 obtain ⟨h1, h2, h3, h4⟩ := h.nn b hb
 have h5 := minI_le hc (show 0 ≤ (x.length : Int) - eoI 0 l b by omega)
 unfold eB
 rcases Nat.lt_or_ge b l.length with hlt | hge
 ·obtain ⟨g1, g2, g3, g4, g5, g6, g7, g8⟩ := r7 _ _ _ _ _ _ h.sc b hlt
  obtain ⟨⟨a1, a2⟩, ⟨b1, b2⟩, ⟨c1, c2⟩, ⟨d1, d2⟩, k5, k6⟩ := h.ok.get b hlt
  have hg := opens_gap (ho hlt) hb0
  refine ⟨h5.1, h5.2.1, by omega, by omega, run_head (eq_get x y l 0 0 h.eq b hlt) h1 h2 h5.1 (by omega) (by omega)⟩
 ·have e : b = l.length := by omega
  subst e
  obtain ⟨g1, g2⟩ := sc_end _ _ _ _ _ _ h.sc
  refine ⟨h5.1, h5.2.1, by omega, by omega, run_head (eq_end x y l 0 0 h.eq) h1 h2 h5.1 (by omega) (by omega)⟩
def posN (l : List Change) (j0 : Int) (a t : Nat) : Int := if t = 0 then j0 else endN (cAt l (a + t - 1))
theorem posTo_eo (i0 : Int) (a t : Nat) (ht : t ≠ 0) : S6 l i0 a t = eoI 0 l (a + t) := by
 unfold S6 eoI; rw [if_neg ht, if_neg (by omega)]
theorem posN_en (j0 : Int) (a t : Nat) (ht : t ≠ 0) : posN l j0 a t = enI 0 l (a + t) := by
 unfold posN enI; rw [if_neg ht, if_neg (by omega)]
theorem ScFit.made (h : ScFit x y l) {ctx : Int} (hc : 0 ≤ ctx) {a : Nat} (ho : opens l ctx a) : ∀ t, a + t ≤ l.length → (t = 0 → a < l.length) →
  C4 (N3 l x y ((cAt l a).Old - eA l ctx a) a t) 43 = sub x ((cAt l a).Old - eA l ctx a) (S6 l ((cAt l a).Old - eA l ctx a) a t) ∧
  C4 (N3 l x y ((cAt l a).Old - eA l ctx a) a t) 45 = sub y ((cAt l a).New - eA l ctx a) (posN l ((cAt l a).New - eA l ctx a) a t)
 | 0, _, _ => by
  unfold S6 posN
  rw [if_pos rfl, if_pos rfl, sub_nil, sub_nil]
  exact ⟨rfl, rfl⟩
 | t + 1, hl, _ => by
  have hlt : a + t < l.length := by omega
  have hla : a < l.length := by omega
  obtain ⟨ih1, ih2⟩ := ScFit.made h hc ho t (by omega) (fun _ => hla)
  obtain ⟨q1, q2, q3⟩ := h.before hc hla ho
  obtain ⟨p1, p2, p3, p4⟩ := h.nn (a + t) (by omega)
  obtain ⟨r1, r2, r3, r4⟩ := h.nn a (by omega)
  obtain ⟨g1, g2, g3, g4, g5, g6, g7, g8⟩ := r7 _ _ _ _ _ _ h.sc (a + t) hlt
  obtain ⟨k1, ⟨k2, k2'⟩, k3, ⟨k4, k4'⟩, k5, k6, k7, k8⟩ := r7 _ _ _ _ _ _ h.sc a hla
  obtain ⟨⟨a1, a2⟩, ⟨b1, b2⟩, ⟨c1, c2⟩, ⟨d1, d2⟩, w5, w6⟩ := h.ok.get (a + t) hlt
  have hrun : sub x (S6 l ((cAt l a).Old - eA l ctx a) a t) (cAt l (a + t)).Old = sub y (posN l ((cAt l a).New - eA l ctx a) a t) (cAt l (a + t)).New ∧
    (cAt l a).Old - eA l ctx a ≤ S6 l ((cAt l a).Old - eA l ctx a) a t ∧ S6 l ((cAt l a).Old - eA l ctx a) a t ≤ (cAt l (a + t)).Old ∧
    (cAt l a).New - eA l ctx a ≤ posN l ((cAt l a).New - eA l ctx a) a t ∧ posN l ((cAt l a).New - eA l ctx a) a t ≤ (cAt l (a + t)).New := by
   have hrun := eq_get x y l 0 0 h.eq (a + t) hlt
   by_cases ht : t = 0
   ·subst ht
    unfold S6 posN
    rw [if_pos rfl, if_pos rfl]
    rw [show a + 0 = a from rfl] at *
    exact ⟨run_tail hrun r1 r2 q1 (by omega) (by omega), by omega, by omega, by omega, by omega⟩
   ·rw [posTo_eo _ _ _ ht, posN_en _ _ _ ht]
    have m1 := h.ok.mono a (a + t - 1) (by omega) (by omega)
    have m2 : eoI 0 l (a + t) = (cAt l (a + t - 1)).Old + (cAt l (a + t - 1)).OldLen := by unfold eoI; rw [if_neg (by omega)]; rfl
    have m4 : ∀ u, u ≤ t → (cAt l a).New ≤ enI 0 l (a + u) ∨ u = 0 := by
     intro u
     induction u with
     | zero => exact fun _ => .inr rfl
     | succ u ihu =>
      intro hu
      obtain ⟨e1, e2, ⟨e3, e3'⟩, ⟨e4, e4'⟩, e5, e6, e7, e8⟩ := r7 _ _ _ _ _ _ h.sc (a + u) (by omega)
      have e9 : enI 0 l (a + (u + 1)) = (cAt l (a + u)).New + (cAt l (a + u)).NewLen := rfl
      rcases ihu (by omega) with h' | h'
      ·left; omega
      ·left; subst h'; rw [e9]; show (cAt l a).New ≤ (cAt l a).New + (cAt l a).NewLen; exact Int.le_add_of_nonneg_right e4
    have m5 := (m4 t (Nat.le_refl _)).resolve_right ht
    refine ⟨hrun, by omega, by omega, by omega, by omega⟩
  obtain ⟨hr1, hr2, hr3, hr4, hr5⟩ := hrun
  simp (decide := true) only [N3, linesNot_app, linesNot_put, ih1, ih2, if_true, if_false, List.append_nil]
  have e1 : S6 l ((cAt l a).Old - eA l ctx a) a (t + 1) = V8 (cAt l (a + t)) := posTo_succ _ _ _ _
  have e2 : posN l ((cAt l a).New - eA l ctx a) a (t + 1) = endN (cAt l (a + t)) := rfl
  rw [e1, e2]
  have s0 : 0 ≤ (cAt l a).Old - eA l ctx a := by omega
  have s1 : 0 ≤ (cAt l a).New - eA l ctx a := by omega
  refine ⟨?_, ?_⟩
  ·rw [s8 x s0 hr2 hr3, s8 x s0 (by omega) (by unfold V8; omega)]
  ·rw [hr1, s8 y s1 hr4 hr5]
   exact s8 y s1 (by omega) (by omega)
end
end Go.AL
namespace Go.AL
open Go
section
variable {x y : List Str} {l : List Change}
structure HunkIs (x y : List Str) (l : List Change) (ctx : Int) (a b : Nat) (h : PatchHunk) : Prop where
 old : h.Old = (cAt l a).Old - eA l ctx a
 new : h.New = (cAt l a).New - eA l ctx a
 o0 : 0 ≤ h.Old
 n0 : 0 ≤ h.New
 oe : h.Old + J5 h = eoI 0 l b + eB l x.length ctx b
 ne : h.New + L1 h = enI 0 l b + eB l x.length ctx b
 ox : h.Old + J5 h ≤ x.length
 ny : h.New + L1 h ≤ y.length
 ol : C4 h.Lines 43 = sub x h.Old (h.Old + J5 h)
 nl : C4 h.Lines 45 = sub y h.New (h.New + L1 h)
 ch : U2 h.Lines = true
 gl : (∀ s ∈ x, K8 s = true) → (∀ s ∈ y, K8 s = true) → h.Lines.all O9 = true
theorem someCh_app (p q : List PatchLine) : U2 (p ++ q) = (U2 p || U2 q) := by simp [U2]
theorem someCh_put {k : UInt8} {ts : List Str} (hk : k ≠ 32) (h : ts ≠ []) : U2 (N0 k ts) = true := by
 cases ts with
 | nil => exact absurd rfl h
 | cons t ts => simp [U2, N0, hk]
theorem goodLn_put {k : UInt8} {ts : List Str} (hk : k = 32 ∨ k = 45 ∨ k = 43) (h : ∀ t ∈ ts, K8 t = true) : (N0 k ts).all O9 = true := by
 rw [List.all_eq_true]
 intro q hq
 unfold N0 at hq
 obtain ⟨t, ht, rfl⟩ := List.mem_map.1 hq
 unfold O9
 refine decide_eq_true ?_
 rintro (⟨⟨h1, h2⟩, h3⟩ | h1)
 ·rcases hk with e | e | e
  ·exact h1 e
  ·exact h2 e
  ·exact h3 e
 ·rw [show (PatchLine.mk k t).Text = t from rfl, h t ht] at h1; cases h1
theorem madeTo_good (hx : ∀ s ∈ x, K8 s = true) (hy : ∀ s ∈ y, K8 s = true) (i0 : Int) (a : Nat) : ∀ t, (N3 l x y i0 a t).all O9 = true
 | 0 => rfl
 | t + 1 => by
  simp only [N3, List.all_append, madeTo_good hx hy i0 a t, Bool.true_and, Bool.and_eq_true]
  exact ⟨⟨goodLn_put (.inl rfl) (fun s hs => hx s (sub_mem hs)), goodLn_put (.inr (.inl rfl)) (fun s hs => hx s (sub_mem hs))⟩, goodLn_put (.inr (.inr rfl)) (fun s hs => hy s (sub_mem hs))⟩
theorem ScFit.hunk (h : ScFit x y l) {ctx : Int} (hc : 0 ≤ ctx) {a b : Nat} (hab : a < b) (hb : b ≤ l.length) (ho : opens l ctx a) (hob : b < l.length → opens l ctx b) :
  HunkIs x y l ctx a b (H5 l x y (mkH l x.length ctx a b)) := by
 have hla : a < l.length := by omega
 obtain ⟨q1, q2, q3⟩ := h.before hc hla ho
 obtain ⟨w1, w2, w3, w4, w5⟩ := h.after hc hb hob (by omega)
 obtain ⟨m1, m2⟩ := h.made hc ho (b - a) (by omega) (fun e => by omega)
 rw [posTo_eo _ _ _ (by omega)] at m1
 rw [posN_en _ _ _ (by omega)] at m2
 rw [show a + (b - a) = b by omega] at m1 m2
 obtain ⟨r1, r2, r3, r4⟩ := h.nn a (by omega)
 obtain ⟨s1, s2, s3, s4⟩ := h.nn b hb
 obtain ⟨k1, ⟨k2, k2'⟩, k3, ⟨k4, k4'⟩, k5, k6, k7, k8⟩ := r7 _ _ _ _ _ _ h.sc a hla
 have hlb : b - 1 < l.length := by omega
 obtain ⟨g1, ⟨g2, g2'⟩, g3, ⟨g4, g4'⟩, g5, g6, g7, g8⟩ := r7 _ _ _ _ _ _ h.sc (b - 1) hlb
 have eo : eoI 0 l b = (cAt l (b - 1)).Old + (cAt l (b - 1)).OldLen := by unfold eoI; rw [if_neg (by omega)]; rfl
 have en : enI 0 l b = (cAt l (b - 1)).New + (cAt l (b - 1)).NewLen := by unfold enI; rw [if_neg (by omega)]; rfl
 have mo := h.ok.mono a (b - 1) (by omega) (by omega)
 have mn : (cAt l a).New ≤ enI 0 l b := by
  have m4 : ∀ u, a + u ≤ l.length → (cAt l a).New ≤ enI 0 l (a + u) ∨ u = 0 := by
   intro u
   induction u with
   | zero => exact fun _ => .inr rfl
   | succ u ihu =>
    intro hu
    obtain ⟨e1, e2, ⟨e3, e3'⟩, ⟨e4, e4'⟩, e5, e6, e7, e8⟩ := r7 _ _ _ _ _ _ h.sc (a + u) (by omega)
    have e9 : enI 0 l (a + (u + 1)) = (cAt l (a + u)).New + (cAt l (a + u)).NewLen := rfl
    rcases ihu (by omega) with h' | h'
    ·left; omega
    ·left; subst h'; rw [e9]; show (cAt l a).New ≤ (cAt l a).New + (cAt l a).NewLen; exact Int.le_add_of_nonneg_right e4
  have := (m4 (b - a) (by omega)).resolve_right (by omega)
  rwa [show a + (b - a) = b by omega] at this
 have hF : (mkH l x.length ctx a b).First.toNat = a := by show ((a : Int)).toNat = a; omega
 have hL : (mkH l x.length ctx a b).Last.toNat - (mkH l x.length ctx a b).First.toNat = b - a := by
  show (((b - 1 : Nat) : Int) + 1).toNat - ((a : Int)).toNat = b - a; omega
 have hOF : (mkH l x.length ctx a b).Old.From = (cAt l a).Old - eA l ctx a := rfl
 have hNF : (mkH l x.length ctx a b).New.From = (cAt l a).New - eA l ctx a := rfl
 have hOT : (mkH l x.length ctx a b).Old.To = eoI 0 l b + eB l x.length ctx b := by
  unfold eB; rw [eo]; rfl
 obtain ⟨P, hP⟩ : ∃ P, P = H5 l x y (mkH l x.length ctx a b) := ⟨_, rfl⟩
 have hPl : P.Lines = N3 l x y ((cAt l a).Old - eA l ctx a) a (b - a) ++ N0 32 (sub x (eoI 0 l b) (eoI 0 l b + eB l x.length ctx b)) := by
  rw [hP]; unfold H5
  show N3 l x y _ (mkH l x.length ctx a b).First.toNat ((mkH l x.length ctx a b).Last.toNat - (mkH l x.length ctx a b).First.toNat) ++ N0 32 (sub x (S6 l _ (mkH l x.length ctx a b).First.toNat ((mkH l x.length ctx a b).Last.toNat - (mkH l x.length ctx a b).First.toNat)) _) = _
  rw [hL, hF, hOF, hOT, posTo_eo _ _ _ (by omega), show a + (b - a) = b by omega]
 have hPO : P.Old = (cAt l a).Old - eA l ctx a := by rw [hP]; rfl
 have hPN : P.New = (cAt l a).New - eA l ctx a := by rw [hP]; rfl
 have h43 : C4 P.Lines 43 = sub x ((cAt l a).Old - eA l ctx a) (eoI 0 l b + eB l x.length ctx b) := by
  rw [hPl, linesNot_app, linesNot_put, if_neg (by decide), m1]
  exact s8 x (by omega) (by omega) (by omega)
 have h45 : C4 P.Lines 45 = sub y ((cAt l a).New - eA l ctx a) (enI 0 l b + eB l x.length ctx b) := by
  rw [hPl, linesNot_app, linesNot_put, if_neg (by decide), m2, w5]
  exact s8 y (by omega) (by omega) (by omega)
 have hon : J5 P = eoI 0 l b + eB l x.length ctx b - ((cAt l a).Old - eA l ctx a) := by
  unfold J5; rw [h43]; exact sub_length x (by omega) (by omega) (by omega)
 have hnn : L1 P = enI 0 l b + eB l x.length ctx b - ((cAt l a).New - eA l ctx a) := by
  unfold L1; rw [h45]; exact sub_length y (by omega) (by omega) (by omega)
 rw [← hP]
 refine ⟨hPO, hPN, by omega, by omega, by omega, by omega, by omega, by omega, ?_, ?_, ?_, ?_⟩
 ·rw [h43]; congr 1
  ·exact hPO.symm
  ·omega
 ·rw [h45]; congr 1
  ·exact hPN.symm
  ·omega
 ·rw [hPl, someCh_app]
  have e : N3 l x y ((cAt l a).Old - eA l ctx a) a (b - a) = N3 l x y ((cAt l a).Old - eA l ctx a) a (b - 1 - a + 1) := by congr 1; omega
  rw [e]
  simp only [N3, someCh_app]
  rw [show a + (b - 1 - a) = b - 1 by omega]
  have key : U2 (N0 45 (sub x (cAt l (b - 1)).Old (V8 (cAt l (b - 1))))) = true ∨ U2 (N0 43 (sub y (cAt l (b - 1)).New ((cAt l (b - 1)).New + (cAt l (b - 1)).NewLen))) = true := by
   obtain ⟨g3a, g3b⟩ := g3
   obtain ⟨g1a, g1b⟩ := g1
   by_cases h0 : (cAt l (b - 1)).OldLen = 0
   ·right
    refine someCh_put (by decide) fun e0 => ?_
    have := sub_length y (a := (cAt l (b - 1)).New) (b := (cAt l (b - 1)).New + (cAt l (b - 1)).NewLen) g3a (by omega) (by omega)
    rw [e0] at this; simp at this; omega
   ·left
    refine someCh_put (by decide) fun e0 => ?_
    have := sub_length x (a := (cAt l (b - 1)).Old) (b := V8 (cAt l (b - 1))) g1a (by unfold V8; omega) (by unfold V8; omega)
    rw [e0] at this; unfold V8 at this; simp at this; omega
  rcases key with e1 | e1 <;> rw [e1] <;> simp
 ·intro hx hy
  rw [hPl, List.all_append, madeTo_good hx hy, Bool.true_and]
  exact goodLn_put (.inl rfl) (fun s hs => hx s (sub_mem hs))
theorem ScFit.hunks (h : ScFit x y l) {ctx : Int} (hc : 0 ≤ ctx) (hx : ∀ s ∈ x, K8 s = true) (hy : ∀ s ∈ y, K8 s = true) : ∀ (hs : List Hunk) (a : Nat), GrOk l x.length ctx a hs l.length →
  ∀ (i j e : Int), i = eoI 0 l a + e → j = enI 0 l a + e → 0 ≤ e → e ≤ ctx → (a = 0 → e = 0) →
  S7 i j (hs.map (H5 l x y)) = true ∧ (G5 (hs.map (H5 l x y)) 43).Sublist (x.drop i.toNat) ∧ (G5 (hs.map (H5 l x y)) 45).Sublist (y.drop j.toNat) ∧
   ∀ p ∈ hs.map (H5 l x y), (p.Old + J5 p ≤ x.length ∧ p.New + L1 p ≤ y.length ∧ 0 ≤ p.Old ∧ 0 ≤ p.New) ∧ C4 p.Lines 43 = sub x p.Old (p.Old + J5 p) ∧ C4 p.Lines 45 = sub y p.New (p.New + L1 p)
 | [], a, _, i, j, e, _, _, _, _, _ => ⟨rfl, by simp [G5], by simp [G5], by simp⟩
 | hk :: hs, a, ⟨b, hab, ho, hE, hr⟩, i, j, e, hi, hj, he, hec, he0 => by
  have hb := hr.le
  have hob : b < l.length → opens l ctx b := by
   intro hlt
   cases hs with
   | nil => exact absurd hr (by show ¬ b = l.length; omega)
   | cons h2 hs2 => obtain ⟨_, _, ho2, _⟩ := hr; exact ho2
  obtain ⟨w1, w2, w3, w4, w5⟩ := h.after hc hb hob (by omega)
  obtain ⟨q1, q2, q3⟩ := h.before hc (show a < l.length by omega) ho
  have H := h.hunk hc hab hb ho hob
  rw [← hE] at H
  obtain ⟨P, hP⟩ : ∃ P, P = H5 l x y hk := ⟨_, rfl⟩
  rw [← hP] at H
  obtain ⟨i1, i2, i3, i4⟩ := ScFit.hunks h hc hx hy hs b hr (P.Old + J5 P) (P.New + L1 P) (eB l x.length ctx b) H.oe H.ne w1 w2 (by omega)
  obtain ⟨k1, ⟨k2, k2'⟩, k3, ⟨k4, k4'⟩, k5, k6, k7, k8⟩ := r7 _ _ _ _ _ _ h.sc a (show a < l.length by omega)
  have h1 := H.old
  have h2 := H.new
  have h3 := H.o0
  have h4 := H.n0
  have h5 := H.ox
  have h6 := H.ny
  have h7 := h.lx
  have h8 := h.ly
  have n1 : 0 ≤ J5 P := by unfold J5; omega
  have n2 : 0 ≤ L1 P := by unfold L1; omega
  have hgap : e + eA l ctx a ≤ (cAt l a).Old - eoI 0 l a := by
   by_cases h0 : a = 0
   ·have := he0 h0; omega
   ·have := opens_gap ho h0; omega
  obtain ⟨r1, r2, r3, r4⟩ := h.nn a (by omega)
  have hij : i ≤ P.Old ∧ j ≤ P.New ∧ P.Old - i = P.New - j ∧ 0 ≤ i ∧ 0 ≤ j := by omega
  have hsub : ∀ (z : List Str) (i f t : Int), 0 ≤ i → i ≤ f → f ≤ t → ∀ r : List Str, r.Sublist (z.drop t.toNat) → (sub z f t ++ r).Sublist (z.drop i.toNat) := by
   intro z i f t h0 h1 h2 r hr
   have e1 : z.drop f.toNat = sub z f t ++ z.drop t.toNat := by
    unfold sub
    rw [show t.toNat = f.toNat + (t.toNat - f.toNat) by omega, ← List.drop_drop, show f.toNat + (t.toNat - f.toNat) - f.toNat = t.toNat - f.toNat by omega, List.take_append_drop]
   have e2 : z.drop f.toNat = (z.drop i.toNat).drop (f.toNat - i.toNat) := by rw [List.drop_drop]; congr 1; omega
   refine List.Sublist.trans ?_ (List.drop_sublist (f.toNat - i.toNat) (z.drop i.toNat))
   rw [← e2, e1]
   exact List.Sublist.append_left hr _
  have key : ∀ (k : UInt8), G5 ((hk :: hs).map (H5 l x y)) k = C4 P.Lines k ++ G5 (hs.map (H5 l x y)) k := by
   intro k; rw [hP]; simp [G5]
  refine ⟨?_, ?_, ?_, ?_⟩
  ·rw [List.map_cons, ← hP]
   simp only [S7, H.gl hx hy, i1, Bool.and_true, Bool.true_and, Bool.and_eq_true, decide_eq_true_eq]
   refine ⟨?_, by omega⟩
   unfold P0
   rw [H.ch]
   rintro (((((e0 | e0) | e0) | e0) | e0) | e0)
   ·cases e0
   all_goals omega
  ·rw [key, H.ol]
   exact hsub x i P.Old (P.Old + J5 P) hij.2.2.2.1 hij.1 (by omega) _ i2
  ·rw [key, H.nl]
   exact hsub y j P.New (P.New + L1 P) hij.2.2.2.2 hij.2.1 (by omega) _ i3
  ·rw [List.map_cons, ← hP]
   intro p hp
   rcases List.mem_cons.1 hp with rfl | hp
   ·exact ⟨⟨h5, h6, h3, h4⟩, H.ol, H.nl⟩
   ·exact i4 p hp
theorem endedBut_sub : ∀ {s z : List Str}, s.Sublist z → M9 z = true → M9 s = true := by
 intro s z hs
 induction hs with
 | slnil => exact fun h => h
 | cons a _ ih =>
  intro h
  simp only [M9, Bool.and_eq_true] at h
  exact ih h.2
 | cons_cons a hs2 ih =>
  intro h
  simp only [M9, Bool.and_eq_true, Bool.or_eq_true] at h ⊢
  refine ⟨?_, ih h.2⟩
  rcases h.1 with h1 | h1
  ·left
   rw [List.isEmpty_iff] at h1 ⊢
   rw [h1] at hs2
   exact List.sublist_nil.1 hs2
  ·exact .inr h1
def P8 (l : List Change) (x y : List Str) (ctx : Int) : List PatchHunk := (H0 l x.length ctx l.length).map (H5 l x y)
theorem ScFit.good (h : ScFit x y l) {ctx : Int} (hc : 0 ≤ ctx) (hx : ∀ s ∈ x, K8 s = true) (hy : ∀ s ∈ y, K8 s = true) (ex : M9 x = true) (ey : M9 y = true) : P1 (P8 l x y ctx) = true := by
 obtain ⟨h1, h2, h3, _⟩ := h.hunks hc hx hy _ 0 (groupTo_gr l x.length ctx l.length) 0 0 0 rfl rfl (Int.le_refl _) hc (fun _ => rfl)
 unfold P1 sideOk P8
 rw [h1, endedBut_sub h2 (by simpa using ex), endedBut_sub h3 (by simpa using ey)]
 rfl
theorem ScFit.texts (h : ScFit x y l) {ctx : Int} (hc : 0 ≤ ctx) (hx : ∀ s ∈ x, K8 s = true) (hy : ∀ s ∈ y, K8 s = true) : ∀ p ∈ P8 l x y ctx, (p.Old + J5 p ≤ x.length ∧ p.New + L1 p ≤ y.length ∧ 0 ≤ p.Old ∧ 0 ≤ p.New) ∧ C4 p.Lines 43 = sub x p.Old (p.Old + J5 p) ∧ C4 p.Lines 45 = sub y p.New (p.New + L1 p) :=
 (h.hunks hc hx hy _ 0 (groupTo_gr l x.length ctx l.length) 0 0 0 rfl rfl (Int.le_refl _) hc (fun _ => rfl)).2.2.2
end
theorem lineOk_snoc (cur : Str) (c : UInt8) (h : ∀ z ∈ cur, z ≠ 10) : K8 (cur ++ [c]) = true := by
 unfold K8
 simp only [List.dropLast_concat, Bool.and_eq_true]
 refine ⟨List.all_eq_true.2 fun z hz => by simpa using h z hz, by simp⟩
theorem linesAux_ok : ∀ (s cur : Str), (∀ z ∈ cur, z ≠ 10) → (∀ t ∈ G4 cur s, K8 t = true) ∧ M9 (G4 cur s) = true
 | [], cur, hc => by
  unfold G4
  split
  ·exact ⟨by simp, rfl⟩
  ·rename_i h
   refine ⟨fun t ht => ?_, rfl⟩
   obtain rfl : t = cur := by simpa using ht
   obtain ⟨d, r, e⟩ : ∃ d r, t = r ++ [d] := ⟨t.getLast h, t.dropLast, (List.dropLast_concat_getLast h).symm⟩
   rw [e]
   exact lineOk_snoc r d fun z hz => hc z (by rw [e]; simp [hz])
 | c :: r, cur, hc => by
  rw [c9]
  by_cases h : c = 10
  ·rw [if_pos h]
   obtain ⟨h1, h2⟩ := linesAux_ok r [] (by simp)
   refine ⟨fun t ht => ?_, ?_⟩
   ·rcases List.mem_cons.1 ht with rfl | ht
    ·exact lineOk_snoc cur c hc
    ·exact h1 t ht
   ·simp only [M9, h2, Bool.and_true, Bool.or_eq_true]
    right; unfold ended; subst h; simp
  ·rw [if_neg h]
   refine linesAux_ok r (cur ++ [c]) fun z hz => ?_
   rcases List.mem_append.1 hz with hz | hz
   ·exact hc z hz
   ·simp at hz; subst hz; exact h
theorem linesOf_ok (b : Str) : (∀ t ∈ D8 b, K8 t = true) ∧ M9 (D8 b) = true := linesAux_ok b [] (by simp)
end Go.AL
namespace Go.AL
open Go
theorem madeGo_sc {m n : Int} (hm : G7 m) (hn : G7 n) : ∀ (p : List Span) (i j i0 j0 : Int) (k0 : Nat), Asc m n i j p → 0 ≤ i0 → 0 ≤ j0 → i0 ≤ i → i - i0 = j - j0 → (0 < k0 → i0 < i) → J3 k0 i0 j0 (S0 i j p m n) m n = true
 | [], i, j, i0, j0, k0, ha, h1, h2, h3, h4, h5 => by
  obtain ⟨a1, a2⟩ : i ≤ m ∧ j ≤ n := ha
  obtain ⟨m1, m2⟩ := hm
  obtain ⟨n1, n2⟩ := hn
  unfold S0
  split
  ·rename_i hc
   simp only [J3, Bool.and_eq_true, decide_eq_true_eq]
   refine ⟨?_, by omega⟩
   unfold badC G7
   show ¬ (((((((¬ (0 ≤ i ∧ i ≤ 4096) ∨ ¬ (0 ≤ m - i ∧ m - i ≤ 4096)) ∨ ¬ (0 ≤ j ∧ j ≤ 4096)) ∨ ¬ (0 ≤ n - j ∧ n - j ≤ 4096)) ∨ m - i + (n - j) = 0) ∨ i - i0 ≠ j - j0) ∨ i < i0) ∨ (0 < (k0 : Int) ∧ i = i0))
   omega
  ·simp only [J3, decide_eq_true_eq]; omega
 | x :: r, i, j, i0, j0, k0, ha, h1, h2, h3, h4, h5 => by
  obtain ⟨a1, a2, a3⟩ := ha
  have hle := a3.le
  unfold S0
  split
  ·rename_i hc
   simp only [List.cons_append, List.nil_append, J3, Bool.and_eq_true, decide_eq_true_eq]
   refine ⟨?_, ?_⟩
   ·obtain ⟨m1, m2⟩ := hm
    obtain ⟨n1, n2⟩ := hn
    unfold badC G7
    show ¬ (((((((¬ (0 ≤ i ∧ i ≤ 4096) ∨ ¬ (0 ≤ x.From - i ∧ x.From - i ≤ 4096)) ∨ ¬ (0 ≤ j ∧ j ≤ 4096)) ∨ ¬ (0 ≤ x.To - j ∧ x.To - j ≤ 4096)) ∨ x.From - i + (x.To - j) = 0) ∨ i - i0 ≠ j - j0) ∨ i < i0) ∨ (0 < (k0 : Int) ∧ i = i0))
    omega
   ·exact madeGo_sc hm hn r _ _ _ _ _ a3 (by omega) (by omega) (by omega) (by omega) (fun _ => by omega)
  ·rw [List.nil_append]
   exact madeGo_sc hm hn r _ _ _ _ _ a3 h1 h2 (by omega) (by omega) (fun h => by omega)
def EqAt (X Y : List Str) (s : Span) : Prop := 0 ≤ s.From ∧ 0 ≤ s.To ∧ ∃ v, X[s.From.toNat]? = some v ∧ Y[s.To.toNat]? = some v
theorem sub_snoc {X : List Str} {a b : Int} {v : Str} (h0 : 0 ≤ a) (h1 : a ≤ b) (hv : X[b.toNat]? = some v) : sub X a (b + 1) = sub X a b ++ [v] := by
 rw [← s8 X h0 h1 (by omega : b ≤ b + 1)]
 congr 1
 unfold sub
 obtain ⟨hl, e⟩ := List.getElem?_eq_some_iff.1 hv
 rw [List.drop_eq_getElem_cons hl, e, show (b + 1).toNat - b.toNat = 1 by omega]
 rfl
theorem madeGo_eq {X Y : List Str} : ∀ (p : List Span) (i j i0 j0 : Int), Asc X.length Y.length i j p → 0 ≤ i0 → 0 ≤ j0 → i0 ≤ i → j0 ≤ j → (∀ s ∈ p, EqAt X Y s) → sub X i0 i = sub Y j0 j → EqRuns X Y i0 j0 (S0 i j p X.length Y.length)
 | [], i, j, i0, j0, ha, h1, h2, h3, h4, he, hs => by
  obtain ⟨a1, a2⟩ : i ≤ (X.length : Int) ∧ j ≤ (Y.length : Int) := ha
  unfold S0
  split
  ·refine ⟨hs, ?_⟩
   show sub X (i + (X.length - i)) X.length = sub Y (j + (Y.length - j)) Y.length
   rw [show i + ((X.length : Int) - i) = X.length by omega, show j + ((Y.length : Int) - j) = Y.length by omega, sub_nil, sub_nil]
  ·have e1 : (X.length : Int) = i := by omega
   have e2 : (Y.length : Int) = j := by omega
   show sub X i0 X.length = sub Y j0 Y.length
   rw [e1, e2]; exact hs
 | x :: r, i, j, i0, j0, ha, h1, h2, h3, h4, he, hs => by
  obtain ⟨a1, a2, a3⟩ := ha
  obtain ⟨_, _, v, v1, v2⟩ := he x (by simp)
  have hr : ∀ s ∈ r, EqAt X Y s := fun s hs => he s (by simp [hs])
  unfold S0
  split
  ·refine ⟨hs, ?_⟩
   show EqRuns X Y (i + (x.From - i)) (j + (x.To - j)) (S0 (x.From + 1) (x.To + 1) r X.length Y.length)
   rw [show i + (x.From - i) = x.From by omega, show j + (x.To - j) = x.To by omega]
   refine madeGo_eq r _ _ _ _ a3 (by omega) (by omega) (by omega) (by omega) hr ?_
   rw [sub_snoc (by omega) (Int.le_refl _) v1, sub_snoc (by omega) (Int.le_refl _) v2, sub_nil, sub_nil]
  ·have e1 : x.From = i := by omega
   have e2 : x.To = j := by omega
   rw [List.nil_append]
   refine madeGo_eq r _ _ _ _ a3 h1 h2 (by omega) (by omega) hr ?_
   rw [sub_snoc h1 (by omega) v1, sub_snoc h2 (by omega) v2, e1, e2, hs]
theorem walkGo_eq : ∀ (a b : List Int) (p q : Int), ∀ s ∈ H8 p q a b, p ≤ s.From ∧ q ≤ s.To ∧ ∃ v, a[(s.From - p).toNat]? = some v ∧ b[(s.To - q).toNat]? = some v := by
 intro a
 induction a with
 | nil => intro b p q s hs; simp [H8] at hs
 | cons x a iha =>
  intro b
  induction b with
  | nil => intro p q s hs; simp [H8] at hs
  | cons y b ihb =>
   intro p q s hs
   unfold H8 at hs
   split at hs
   ·rename_i e
    rcases List.mem_cons.1 hs with rfl | hs
    ·exact ⟨Int.le_refl _, Int.le_refl _, x, by simp, by simp [e]⟩
    ·obtain ⟨h1, h2, v, h3, h4⟩ := iha b (p + 1) (q + 1) s hs
     refine ⟨by omega, by omega, v, ?_, ?_⟩
     ·rw [show (s.From - p).toNat = (s.From - (p + 1)).toNat + 1 by omega]; simpa using h3
     ·rw [show (s.To - q).toNat = (s.To - (q + 1)).toNat + 1 by omega]; simpa using h4
   ·split at hs
    ·obtain ⟨h1, h2, v, h3, h4⟩ := iha (y :: b) (p + 1) q s hs
     refine ⟨by omega, by omega, v, ?_, h4⟩
     rw [show (s.From - p).toNat = (s.From - (p + 1)).toNat + 1 by omega]; simpa using h3
    ·obtain ⟨h1, h2, v, h3, h4⟩ := ihb p (q + 1) s hs
     refine ⟨by omega, by omega, v, h3, ?_⟩
     rw [show (s.To - q).toNat = (s.To - (q + 1)).toNat + 1 by omega]; simpa using h4
theorem placeOf_inj : ∀ (l : List Str) (s t : Str) (k : Int), 0 ≤ k → s ∈ l → t ∈ l → I7 l s k = I7 l t k → s = t
 | [], _, _, _, _, h, _, _ => by simp at h
 | x :: r, s, t, k, hk, hs, ht, e => by
  unfold I7 at e
  by_cases h1 : x = s
  ·by_cases h2 : x = t
   ·exact h1.symm.trans h2
   ·rw [if_pos h1, if_neg h2] at e
    have ht' : t ∈ r := (List.mem_cons.1 ht).resolve_left (fun q => h2 q.symm)
    have := placeOf_le r t (k + 1) (by omega) ht'
    omega
  ·have hs' : s ∈ r := (List.mem_cons.1 hs).resolve_left (fun q => h1 q.symm)
   by_cases h2 : x = t
   ·rw [if_neg h1, if_pos h2] at e
    have := placeOf_le r s (k + 1) (by omega) hs'
    omega
   ·rw [if_neg h1, if_neg h2] at e
    exact placeOf_inj r s t (k + 1) (by omega) hs' ((List.mem_cons.1 ht).resolve_left (fun q => h2 q.symm)) e
theorem idsOf_get {names f : List Str} {i : Nat} {v : Int} (h : (F2 names f)[i]? = some v) : ∃ s, f[i]? = some s ∧ I7 names s 0 = v := by
 unfold F2 at h
 rw [List.getElem?_map] at h
 cases hf : f[i]? with
 | none => rw [hf] at h; cases h
 | some s => rw [hf] at h; exact ⟨s, rfl, Option.some.inj h⟩
theorem script_fit (x y : List Str) (hx : x.length ≤ 4096) (hy : y.length ≤ 4096) : ScFit x y (L4 x y) := by
 have l1 : (F2 (D1 [x, y]) x).length = x.length := by simp [F2]
 have l2 : (F2 (D1 [x, y]) y).length = y.length := by simp [F2]
 have hA := walkGo_asc (F2 (D1 [x, y]) x) (F2 (D1 [x, y]) y) 0 0
 rw [l1, l2, Int.zero_add, Int.zero_add] at hA
 refine ⟨by omega, by omega, ?_, ?_⟩
 ·unfold L4 walkOf p9
  rw [l1, l2]
  exact madeGo_sc ⟨by omega, by omega⟩ ⟨by omega, by omega⟩ _ _ _ _ _ _ hA (Int.le_refl _) (Int.le_refl _) (Int.le_refl _) rfl (fun h => absurd h (by omega))
 ·unfold L4 walkOf p9
  rw [l1, l2]
  refine madeGo_eq _ _ _ _ _ hA (Int.le_refl _) (Int.le_refl _) (Int.le_refl _) (Int.le_refl _) ?_ (by rw [sub_nil, sub_nil])
  intro s hs
  obtain ⟨h1, h2, v, h3, h4⟩ := walkGo_eq _ _ _ _ s hs
  rw [Int.sub_zero] at h3 h4
  obtain ⟨u, u1, u2⟩ := idsOf_get h3
  obtain ⟨w, w1, w2⟩ := idsOf_get h4
  have e : u = w := placeOf_inj (D1 [x, y]) u w 0 (Int.le_refl _) (j7 _ _ x (by simp) (List.mem_of_getElem? u1)) (j7 _ _ y (by simp) (List.mem_of_getElem? w1)) (u2.trans w2.symm)
  subst e
  exact ⟨h1, h2, u, u1, w1⟩
theorem szL_sides : ∀ (ls : List PatchLine), ls.all O9 = true → (ls.map szL).sum ≤ 64 * ((C4 ls 43).length + (C4 ls 45).length) + ((C4 ls 43).flatten.length + (C4 ls 45).flatten.length)
 | [], _ => by simp
 | q :: ls, h => by
  rw [List.all_cons, Bool.and_eq_true] at h
  have ih := szL_sides ls h.2
  have hk : q.Kind = 32 ∨ q.Kind = 45 ∨ q.Kind = 43 := by
   have hg := h.1
   unfold O9 at hg
   have hg := A0 hg
   by_cases h1 : q.Kind = 32
   ·exact .inl h1
   by_cases h2 : q.Kind = 45
   ·exact .inr (.inl h2)
   by_cases h3 : q.Kind = 43
   ·exact .inr (.inr h3)
   exact absurd (.inl ⟨⟨h1, h2⟩, h3⟩) hg
  have hd : ∀ k : UInt8, C4 (q :: ls) k = if q.Kind ≠ k then q.Text :: C4 ls k else C4 ls k := by
   intro k
   unfold C4
   by_cases e : q.Kind = k
   ·rw [if_neg (by simpa using e), List.filter_cons_of_neg (by simpa using e)]
   ·rw [if_pos e, List.filter_cons_of_pos (by simpa using e)]; rfl
  rw [hd 43, hd 45, List.map_cons, List.sum_cons]
  have hz : szL q = q.Text.length + 64 := rfl
  rcases hk with e | e | e <;> rw [e] <;> simp (decide := true) only [if_true, if_false, ne_eq, not_true_eq_false, not_false_eq_true, List.length_cons, List.flatten_cons, List.length_append] <;> omega
theorem goodGo_lines : ∀ (hs : List PatchHunk) (i j : Int), S7 i j hs = true → szP hs ≤ 128 * ((G5 hs 43).length + (G5 hs 45).length) + ((G5 hs 43).flatten.length + (G5 hs 45).flatten.length)
 | [], _, _, _ => by simp [szP]
 | h :: hs, i, j, hg => by
  simp only [S7, Bool.and_eq_true, decide_eq_true_eq] at hg
  obtain ⟨h1, h2, h3, h4⟩ := hg
  have ih := goodGo_lines hs _ _ h4
  have hl := szL_sides h.Lines h1
  have hne : 1 ≤ h.Lines.length := by
   cases hq : h.Lines with
   | nil => exact absurd (.inl (.inl (.inl (.inl (.inl (by rw [hq]; rfl)))))) h2
   | cons a b => simp
  have hcnt : h.Lines.length ≤ (C4 h.Lines 43).length + (C4 h.Lines 45).length := by
   have : 64 * h.Lines.length ≤ (h.Lines.map szL).sum := X2 h.Lines
   have key : ∀ ls : List PatchLine, ls.length ≤ (C4 ls 43).length + (C4 ls 45).length := by
    intro ls
    induction ls with
    | nil => simp
    | cons q ls ih =>
     have hd : ∀ k : UInt8, (C4 (q :: ls) k).length = if q.Kind ≠ k then (C4 ls k).length + 1 else (C4 ls k).length := by
      intro k
      unfold C4
      by_cases e : q.Kind = k
      ·rw [if_neg (by simpa using e), List.filter_cons_of_neg (by simpa using e)]
      ·rw [if_pos e, List.filter_cons_of_pos (by simpa using e)]; simp
     rw [hd 43, hd 45, List.length_cons]
     by_cases e : q.Kind = 43
     ·have e2 : q.Kind ≠ 45 := by rw [e]; decide
      rw [if_pos e2]; split <;> omega
     ·rw [if_pos e]; split <;> omega
   exact key h.Lines
  have hsz : szP (h :: hs) = szH h + szP hs := by simp [szP]
  have hszh : szH h = 64 + (h.Lines.map szL).sum := rfl
  have hs1 : ∀ k, G5 (h :: hs) k = C4 h.Lines k ++ G5 hs k := by intro k; simp [G5]
  rw [hsz, hszh, hs1 43, hs1 45]
  simp only [List.length_append, List.flatten_append]
  omega
theorem flatten_sub : ∀ {s z : List Str}, s.Sublist z → s.flatten.length ≤ z.flatten.length := by
 intro s z hs
 induction hs with
 | slnil => exact Nat.le_refl _
 | cons a _ ih => simp only [List.flatten_cons, List.length_append]; omega
 | cons_cons a _ ih => simp only [List.flatten_cons, List.length_append]; omega
theorem ScFit.size {x y : List Str} {l : List Change} (h : ScFit x y l) {ctx : Int} (hc : 0 ≤ ctx) (hx : ∀ s ∈ x, K8 s = true) (hy : ∀ s ∈ y, K8 s = true) : szP (P8 l x y ctx) ≤ 128 * (x.length + y.length) + (x.flatten.length + y.flatten.length) := by
 obtain ⟨h1, h2, h3, _⟩ := h.hunks hc hx hy _ 0 (groupTo_gr l x.length ctx l.length) 0 0 0 rfl rfl (Int.le_refl _) hc (fun _ => rfl)
 have h4 := goodGo_lines _ _ _ h1
 have e : P8 l x y ctx = (H0 l x.length ctx l.length).map (H5 l x y) := rfl
 rw [← e] at h2 h3 h4
 have h2' : (G5 (P8 l x y ctx) 43).Sublist x := by simpa using h2
 have h3' : (G5 (P8 l x y ctx) 45).Sublist y := by simpa using h3
 have := h2'.length_le
 have := h3'.length_le
 have := flatten_sub h2'
 have := flatten_sub h3'
 omega
theorem linesAux_flat2 (s : Str) : ∀ cur : Str, (G4 cur s).flatten = cur ++ s := by
 induction s with
 | nil => intro cur; unfold G4; split <;> simp [*]
 | cons c r ih => intro cur; rw [c9]; split <;> simp [ih]
theorem Y4 (a : Str) : (D8 a).flatten.length = a.length ∧ (D8 a).length ≤ a.length := ⟨by unfold D8; rw [linesAux_flat2]; rfl, U7 a⟩
theorem splitOf_small {a : Str} (h : a.length ≤ 4096) : F1 a = (D8 a, 0) := by
 have := U7 a
 unfold F1; rw [if_neg (by omega)]
end Go.AL
namespace Go.AL
open Go
end Go.AL
namespace Go.AL
open Go
abbrev u16C : Int → Nat → Cell := fun x _ => .v (.int .u16 x)
abbrev pU16s (l : List Int) : PV := .one (.list Int 1 u16C l)
theorem u16_in (n : Int) (h : 0 ≤ n ∧ n < 65536) : IntKind.u16.wrap n = n := by
 simp [IntKind.wrap, IntKind.signed, IntKind.bits]; omega
def flat (a b : List Int) (done : Nat → Nat → Bool) : List Int :=
 (List.range ((a.length + 1) * (b.length + 1))).map fun p => if done (p / (b.length + 1)) (p % (b.length + 1)) = true then (dist (a.drop (p / (b.length + 1))) (b.drop (p % (b.length + 1))) : Int) else 0
theorem flat_length (a b : List Int) (done : Nat → Nat → Bool) : (flat a b done).length = (a.length + 1) * (b.length + 1) := by simp [flat]
theorem flat_at {a b : List Int} {i j : Nat} (hi : i ≤ a.length) (hj : j ≤ b.length) : i * (b.length + 1) + j < (a.length + 1) * (b.length + 1) ∧ (i * (b.length + 1) + j) / (b.length + 1) = i ∧ (i * (b.length + 1) + j) % (b.length + 1) = j := by
 refine ⟨?_, ?_, ?_⟩
 ·have : (i + 1) * (b.length + 1) ≤ (a.length + 1) * (b.length + 1) := Nat.mul_le_mul_right _ (by omega)
  rw [Nat.add_mul, Nat.one_mul] at this; omega
 ·rw [Nat.mul_comm, Nat.mul_add_div (by omega), Nat.div_eq_of_lt (by omega), Nat.add_zero]
 ·rw [Nat.mul_comm, Nat.mul_add_mod, Nat.mod_eq_of_lt (by omega)]
theorem flat_get {a b : List Int} {done : Nat → Nat → Bool} {i j : Nat} (hi : i ≤ a.length) (hj : j ≤ b.length) : (flat a b done)[i * (b.length + 1) + j]? = some (if done i j = true then (dist (a.drop i) (b.drop j) : Int) else 0) := by
 obtain ⟨h1, h2, h3⟩ := flat_at hi hj
 unfold flat
 rw [range_get _ _ _ h1, h2, h3]
theorem flat_set {a b : List Int} {done done' : Nat → Nat → Bool} {i j : Nat} {v : Int} (hi : i ≤ a.length) (hj : j ≤ b.length) (hv : v = (dist (a.drop i) (b.drop j) : Int)) (hd : done' i j = true)
  (ho : ∀ r q, r ≤ a.length → q ≤ b.length → ¬ (r = i ∧ q = j) → done' r q = done r q) : (flat a b done).set (i * (b.length + 1) + j) v = flat a b done' := by
 obtain ⟨h1, h2, h3⟩ := flat_at hi hj
 unfold flat
 refine range_set _ _ _ _ _ (fun _ => ?_) (fun q hq hne => ?_)
 ·rw [h2, h3, if_pos hd, hv]
 ·have hW : 0 < b.length + 1 := by omega
  have e := Nat.div_add_mod q (b.length + 1)
  have hr : q / (b.length + 1) ≤ a.length := by
   have := (Nat.div_lt_iff_lt_mul hW).2 hq
   omega
  have hm := Nat.mod_lt q hW
  rw [ho _ _ hr (by omega) (fun ⟨e1, e2⟩ => hne (by rw [e1, e2, Nat.mul_comm] at e; exact e.symm))]
theorem flat_zero (a b : List Int) : List.replicate ((a.length + 1) * (b.length + 1)) 0 = flat a b (fun _ _ => false) := by
 unfold flat
 simp only [Bool.false_eq_true, if_false]
 rw [List.map_const', List.length_range]
theorem flat_congr {a b : List Int} {done done' : Nat → Nat → Bool} (h : ∀ r q, r ≤ a.length → q ≤ b.length → (done r q = done' r q ∨ dist (a.drop r) (b.drop q) = 0)) : flat a b done = flat a b done' := by
 unfold flat
 apply List.map_congr_left
 intro p hp
 have hp := List.mem_range.1 hp
 have hW : 0 < b.length + 1 := by omega
 have hr : p / (b.length + 1) ≤ a.length := by have := (Nat.div_lt_iff_lt_mul hW).2 hp; omega
 have hm := Nat.mod_lt p hW
 rcases h (p / (b.length + 1)) (p % (b.length + 1)) hr (by omega) with e | e
 ·rw [e]
 ·rw [e]; simp
def V3 : List Int → List Int → Nat
 | x :: a, y :: b => if x = y then V3 a b + 1 else 0
 | _, _ => 0
theorem begOf_le : ∀ (a b : List Int), V3 a b ≤ a.length ∧ V3 a b ≤ b.length
 | [], _ => by simp [V3]
 | _ :: _, [] => by simp [V3]
 | x :: a, y :: b => by
  have := begOf_le a b
  unfold V3
  simp only [List.length_cons]
  split <;> omega
theorem begOf_drop (a b : List Int) (k : Nat) (hk : k < a.length) (hk' : k < b.length) : V3 (a.drop k) (b.drop k) = if a[k] = b[k] then V3 (a.drop (k + 1)) (b.drop (k + 1)) + 1 else 0 := by
 rw [List.drop_eq_getElem_cons hk, List.drop_eq_getElem_cons hk']; rfl
theorem begOf_end (a b : List Int) (k : Nat) (h : ¬ (k < a.length ∧ k < b.length)) : V3 (a.drop k) (b.drop k) = 0 := by
 by_cases h1 : k < a.length
 ·rw [List.drop_eq_nil_of_le (as := b) (by omega)]
  cases a.drop k <;> rfl
 ·rw [List.drop_eq_nil_of_le (as := a) (by omega)]; rfl
theorem walkGo_beg : ∀ (a b : List Int) (p q : Int), H8 p q a b = N1 p q (V3 a b) ++ H8 (p + V3 a b) (q + V3 a b) (a.drop (V3 a b)) (b.drop (V3 a b))
 | [], b, p, q => by simp [V3, x8]
 | x :: a, [], p, q => by simp [V3, x8]
 | x :: a, y :: b, p, q => by
  unfold V3
  by_cases h : x = y
  ·rw [if_pos h]
   conv => lhs; unfold H8
   rw [if_pos h, walkGo_beg a b (p + 1) (q + 1), spanRun_succ]
   simp only [List.drop_succ_cons, List.cons_append]
   rw [show p + 1 + (V3 a b : Int) = p + ((V3 a b + 1 : Nat) : Int) by omega, show q + 1 + (V3 a b : Int) = q + ((V3 a b + 1 : Nat) : Int) by omega]
  ·rw [if_neg h]
   simp [x8]
end Go.AL
namespace Go.AL
open Go
def GrX (l : List Change) (m ctx : Int) : Nat → List Hunk → Nat → Prop
 | a, [], k => a = k
 | a, h :: r, k => ∃ b, a < b ∧ opens l ctx a ∧ (∀ c, a < c → c < b → ¬ opens l ctx c) ∧ h = mkH l m ctx a b ∧ GrX l m ctx b r k
theorem GrX.le {l : List Change} {m ctx : Int} : ∀ {hs : List Hunk} {a k : Nat}, GrX l m ctx a hs k → a ≤ k
 | [], a, k, h => Nat.le_of_eq h
 | _ :: _, a, k, ⟨b, h1, _, _, _, h2⟩ => by have := GrX.le h2; omega
theorem GrX.unique {l : List Change} {m ctx : Int} : ∀ {hs hs' : List Hunk} {a k : Nat}, GrX l m ctx a hs k → GrX l m ctx a hs' k → hs = hs'
 | [], [], _, _, _, _ => rfl
 | [], _ :: _, a, k, h, ⟨b, h1, _, _, _, h2⟩ => by have := h2.le; have : a = k := h; omega
 | _ :: _, [], a, k, ⟨b, h1, _, _, _, h2⟩, h => by have := h2.le; have : a = k := h; omega
 | x :: r, x' :: r', a, k, ⟨b, h1, h2, h3, h4, h5⟩, ⟨b', h1', h2', h3', h4', h5'⟩ => by
  have hopen : ∀ {r : List Hunk} {b : Nat}, GrX l m ctx b r k → b < k → opens l ctx b := by
   intro r b h hlt
   cases r with
   | nil => have : b = k := h; omega
   | cons y r => obtain ⟨_, _, ho, _⟩ := h; exact ho
  have hb : b = b' := by
   have l1 := h5.le
   have l2 := h5'.le
   rcases Nat.lt_trichotomy b b' with hlt | rfl | hlt
   ·exact absurd (hopen h5 (by omega)) (h3' b h1 hlt)
   ·rfl
   ·exact absurd (hopen h5' (by omega)) (h3 b' h1' hlt)
  subst hb
  rw [h4, h4', GrX.unique h5 h5']
theorem GrX.snoc {l : List Change} {m ctx : Int} {k n : Nat} (ho : opens l ctx k) (hk : k < n) (hno : ∀ c, k < c → c < n → ¬ opens l ctx c) : ∀ {hs : List Hunk} {a : Nat}, GrX l m ctx a hs k → GrX l m ctx a (hs ++ [mkH l m ctx k n]) n
 | [], a, h => by
  obtain rfl : a = k := h
  exact ⟨n, hk, ho, hno, rfl, rfl⟩
 | _ :: _, a, ⟨b, h1, h2, h3, h4, h5⟩ => ⟨b, h1, h2, h3, h4, GrX.snoc ho hk hno h5⟩
theorem GrX.last {l : List Change} {m ctx : Int} {k : Nat} (hno : ¬ opens l ctx k) : ∀ {hs : List Hunk} {a : Nat}, GrX l m ctx a hs k → hs ≠ [] → GrX l m ctx a (hs.set (hs.length - 1) (x9 l m ctx k (hs.getD (hs.length - 1) hunk0))) (k + 1)
 | [], _, _, h0 => absurd rfl h0
 | [h], a, ⟨b, h1, h2, h3, h4, h5⟩, _ => by
  obtain rfl : b = k := h5
  subst h4
  refine ⟨b + 1, by omega, h2, fun c hc1 hc2 => ?_, rfl, rfl⟩
  by_cases hcb : c = b
  ·rw [hcb]; exact hno
  ·exact h3 c hc1 (by omega)
 | h :: h' :: r, a, ⟨b, h1, h2, h3, h4, h5⟩, _ => by
  have ih := GrX.last hno h5 (by simp)
  refine ⟨b, h1, h2, h3, h4, ?_⟩
  simpa using ih
theorem groupTo_grx (l : List Change) (m ctx : Int) : ∀ k, GrX l m ctx 0 (H0 l m ctx k) k
 | 0 => rfl
 | k + 1 => by
  have ih := groupTo_grx l m ctx k
  have hne := (V2 l m ctx k).2
  simp only [H0, P7]
  by_cases ho : opens l ctx k
  ·rw [if_pos ho]
   have e : (H0 l m ctx k ++ [S2 l ctx k]).set ((H0 l m ctx k ++ [S2 l ctx k]).length - 1) (x9 l m ctx k ((H0 l m ctx k ++ [S2 l ctx k]).getD ((H0 l m ctx k ++ [S2 l ctx k]).length - 1) hunk0)) = H0 l m ctx k ++ [mkH l m ctx k (k + 1)] := by
    simp [mkH]
   rw [e]
   exact ih.snoc ho (by omega) (fun c h1 h2 => by omega)
  ·rw [if_neg ho]
   refine ih.last ho ?_
   have : k ≠ 0 := fun e => ho (.inl e)
   have := hne (by omega)
   intro e; rw [e] at this; simp at this
theorem GrX.len {l : List Change} {m ctx : Int} : ∀ {hs : List Hunk} {a k : Nat}, GrX l m ctx a hs k → hs.length ≤ k - a
 | [], _, _, _ => Nat.zero_le _
 | _ :: _, a, k, ⟨b, h1, _, _, _, h2⟩ => by have := GrX.len h2; have := h2.le; simp only [List.length_cons]; omega
end Go.AL
namespace Go.AL
open Go
def y4 : List Str → Int → List (Str × Cell)
 | [], _ => []
 | s :: r, i => (s, .v (.int .i64 i)) :: y4 r (i + 1)
theorem kvOf_snoc (s : Str) : ∀ (l : List Str) (i : Int), y4 (l ++ [s]) i = y4 l i ++ [(s, .v (.int .i64 (i + l.length)))]
 | [], i => by simp [y4]
 | x :: r, i => by
  simp only [List.cons_append, y4, kvOf_snoc s r, List.length_cons]
  rw [show i + 1 + (r.length : Int) = i + ((r.length + 1 : Nat) : Int) by omega]
theorem kv_get_in (s : Str) : ∀ (l : List Str) (i : Int), s ∈ l → w9 (y4 l i) s = some (.v (.int .i64 (I7 l s i)))
 | [], _, h => by simp at h
 | x :: r, i, h => by
  simp only [y4, w9, I7]
  by_cases he : x = s
  ·rw [if_pos he, if_pos he]
  ·rw [if_neg he, if_neg he]
   exact kv_get_in s r (i + 1) ((List.mem_cons.1 h).resolve_left (fun q => he q.symm))
theorem kv_get_out (s : Str) : ∀ (l : List Str) (i : Int), s ∉ l → w9 (y4 l i) s = none
 | [], _, _ => rfl
 | x :: r, i, h => by
  simp only [y4, w9]
  rw [if_neg (fun q => h (by simp [q]))]
  exact kv_get_out s r (i + 1) (fun q => h (by simp [q]))
theorem placeOf_app (s : Str) (r : List Str) : ∀ (l : List Str) (i : Int), s ∈ l → I7 (l ++ r) s i = I7 l s i
 | [], _, h => by simp at h
 | x :: l, i, h => by
  simp only [List.cons_append, I7]
  by_cases he : x = s
  ·rw [if_pos he, if_pos he]
  ·rw [if_neg he, if_neg he]
   exact placeOf_app s r l (i + 1) ((List.mem_cons.1 h).resolve_left (fun q => he q.symm))
theorem placeOf_new (s : Str) : ∀ (l : List Str) (i : Int), s ∉ l → I7 (l ++ [s]) s i = i + l.length
 | [], i, _ => by simp [I7]
 | x :: l, i, h => by
  simp only [List.cons_append, I7, List.length_cons]
  rw [if_neg (fun q => h (by simp [q])), placeOf_new s l (i + 1) (fun q => h (by simp [q]))]
  omega
theorem names_prefix : ∀ (l out : List Str), ∃ r, l.foldl I4 out = out ++ r
 | [], out => ⟨[], by simp⟩
 | s :: l, out => by
  obtain ⟨r, hr⟩ := names_prefix l (I4 out s)
  rw [List.foldl_cons, hr]
  unfold I4
  split
  ·exact ⟨r, rfl⟩
  ·exact ⟨s :: r, by simp⟩
def N2 (files : List (List Str)) (k j : Nat) : List Str := ((files.take k).flatten ++ (files.getD k []).take j).foldl I4 []
theorem namesTo_row (files : List (List Str)) (k : Nat) : N2 files (k + 1) 0 = N2 files k (files.getD k []).length := by
 unfold N2
 rw [List.take_zero, List.append_nil, List.take_length]
 by_cases h : k < files.length
 ·rw [P5 files k h]
  congr 2
  simp [h]
 ·rw [List.take_of_length_le (by omega), List.take_of_length_le (by omega)]
  have : files.getD k [] = [] := by simp [show files.length ≤ k by omega]
  rw [this, List.append_nil]
theorem namesTo_step (files : List (List Str)) (k j : Nat) (s : Str) (h : (files.getD k [])[j]? = some s) : N2 files k (j + 1) = I4 (N2 files k j) s := by
 unfold N2
 have hj : j < (files.getD k []).length := (List.getElem?_eq_some_iff.1 h).1
 have he := (List.getElem?_eq_some_iff.1 h).2
 rw [List.take_succ_eq_append_getElem hj, he, ← List.append_assoc, List.foldl_append]
 rfl
theorem namesTo_all (files : List (List Str)) : N2 files files.length 0 = D1 files := by
 unfold N2 D1
 rw [List.take_length]; simp
theorem namesTo_sub (files : List (List Str)) (k j : Nat) : ∃ r, D1 files = N2 files k j ++ r := by
 have h : ∃ m, files.flatten = ((files.take k).flatten ++ (files.getD k []).take j) ++ m := by
  refine ⟨(files.getD k []).drop j ++ (files.drop (k + 1)).flatten, ?_⟩
  by_cases hk : k < files.length
  ·have e : files = files.take k ++ files.getD k [] :: files.drop (k + 1) := by
    have : files.getD k [] = files[k] := by simp [hk]
    rw [this, List.getElem_cons_drop, List.take_append_drop]
   conv => lhs; rw [e]
   rw [List.flatten_append, List.flatten_cons, List.append_assoc]
   congr 1
   rw [← List.append_assoc, List.take_append_drop]
  ·have : files.getD k [] = [] := by simp [show files.length ≤ k by omega]
   rw [this, List.take_of_length_le (by omega : files.length ≤ k), List.drop_eq_nil_of_le (by omega : files.length ≤ k + 1)]
   simp
 obtain ⟨m, hm⟩ := h
 unfold D1 N2
 rw [hm, List.foldl_append]
 obtain ⟨r, hr⟩ := names_prefix m (((files.take k).flatten ++ (files.getD k []).take j).foldl I4 [])
 exact ⟨r, hr⟩
theorem namesTo_length (files : List (List Str)) (k j : Nat) : (N2 files k j).length ≤ files.flatten.length := by
 obtain ⟨r, hr⟩ := namesTo_sub files k j
 have := namesOf_length files
 rw [hr, List.length_append] at this; omega
def O3 (files : List (List Str)) (k : Nat) : List TC := (List.range files.length).map fun r => if r < k then .p (.list Int 1 K5 (F2 (D1 files) (files.getD r []))) else .p (.v (.slice none 0 0))
theorem rowsN_get {files : List (List Str)} {k : Nat} (h : k < files.length) : (O3 files k)[k]? = some (.p (.v (.slice none 0 0))) := by
 simp [O3, h]
theorem rowsN_forget (files : List (List Str)) (k m : Nat) (_h : k < files.length) : ((O3 files k).set k (.buf m Int 1 K5 (F2 (D1 files) (files.getD k [])))).map (TC.forget m) = O3 files (k + 1) := by
 have e1 : (O3 files k).map (TC.forget m) = O3 files k := by
  unfold O3
  rw [List.map_map]
  apply List.map_congr_left
  intro r _
  simp only [Function.comp]
  split <;> rfl
 rw [List.map_set, e1]
 have e2 : (TC.buf m Int 1 K5 (F2 (D1 files) (files.getD k []))).forget m = .p (.list Int 1 K5 (F2 (D1 files) (files.getD k []))) := by simp [TC.forget]
 rw [e2]
 unfold O3
 refine range_set _ _ _ _ _ (fun _ => by simp) (fun q hq hne => ?_)
 simp only [show (q < k + 1) = (q < k) from propext ⟨fun h => by omega, fun h => by omega⟩]
theorem rowsN_zero (files : List (List Str)) : List.replicate files.length (TC.p (.v (.slice none 0 0))) = O3 files 0 := by
 unfold O3
 simp only [Nat.not_lt_zero, if_false, List.map_const', List.length_range]
theorem rowsN_full (files : List (List Str)) : O3 files files.length = (files.map (F2 (D1 files))).map fun x => TC.p (intsC x 0) := by
 unfold O3
 apply List.ext_getElem
 ·simp
 ·intro i h1 h2
  have hi : i < files.length := by simpa using h1
  simp [hi, intsC]
end Go.AL
namespace Go.AL
open Go
theorem sc_make (m n : Int) : ∀ (l : List Change) (k0 : Nat) (i j : Int), (∀ k, k < l.length → G7 (cAt l k).Old ∧ G7 (cAt l k).OldLen ∧ G7 (cAt l k).New ∧ G7 (cAt l k).NewLen ∧ (cAt l k).OldLen + (cAt l k).NewLen ≠ 0 ∧ (cAt l k).Old - eoI i l k = (cAt l k).New - enI j l k ∧ eoI i l k ≤ (cAt l k).Old ∧ (0 < k0 + k → eoI i l k < (cAt l k).Old)) →
  (m - eoI i l l.length = n - enI j l l.length ∧ eoI i l l.length ≤ m) → J3 k0 i j l m n = true
 | [], k0, i, j, _, h => by
  have h1 : m - i = n - j ∧ i ≤ m := h
  simp only [J3, decide_eq_true_eq]; omega
 | c :: r, k0, i, j, h, he => by
  simp only [J3, Bool.and_eq_true, decide_eq_true_eq]
  refine ⟨?_, sc_make m n r (k0 + 1) _ _ (fun k hk => ?_) ?_⟩
  ·obtain ⟨h1, h2, h3, h4, h5, h6, h7, h8⟩ := h 0 (by simp)
   have h1 : G7 c.Old := h1
   have h2 : G7 c.OldLen := h2
   have h3 : G7 c.New := h3
   have h4 : G7 c.NewLen := h4
   have h5 : c.OldLen + c.NewLen ≠ 0 := h5
   have h6 : c.Old - i = c.New - j := h6
   have h7 : i ≤ c.Old := h7
   have h8 : 0 < k0 + 0 → i < c.Old := h8
   unfold badC
   rintro (((((((q | q) | q) | q) | q) | q) | q) | ⟨q, q2⟩)
   ·exact q h1
   ·exact q h2
   ·exact q h3
   ·exact q h4
   ·exact h5 q
   ·exact q h6
   ·omega
   ·have := h8 (by omega); omega
  ·have := h (k + 1) (by simpa using hk)
   rw [cAt_cons, v8, w7] at this
   obtain ⟨e1, e2, e3, e4, e5, e6, e7, e8⟩ := this
   exact ⟨e1, e2, e3, e4, e5, e6, e7, fun h0 => e8 (by omega)⟩
  ·rw [List.length_cons, v8, w7] at he; exact he
theorem eq_make (x y : List Str) : ∀ (l : List Change) (i j : Int), (∀ k, k < l.length → sub x (eoI i l k) (cAt l k).Old = sub y (enI j l k) (cAt l k).New) → sub x (eoI i l l.length) x.length = sub y (enI j l l.length) y.length → EqRuns x y i j l
 | [], _, _, _, h => h
 | c :: r, i, j, h, he => by
  refine ⟨h 0 (by simp), eq_make x y r _ _ (fun k hk => ?_) ?_⟩
  ·have := h (k + 1) (by simpa using hk)
   rw [cAt_cons, v8, w7] at this; exact this
  ·rw [List.length_cons, v8, w7] at he; exact he
theorem sub_get {x : List Str} {p q : Int} {t : Nat} (h0 : 0 ≤ p) (h : p + t < q) : (sub x p q)[t]? = x[(p + t).toNat]? := by
 unfold sub
 rw [List.getElem?_take, if_pos (by omega), List.getElem?_drop]
 congr 1; omega
theorem run_get {x y : List Str} {p q p' q' : Int} (h : sub x p q = sub y p' q') (h0 : 0 ≤ p) (h0' : 0 ≤ p') (hq : q ≤ x.length) (he : q - p = q' - p') {t : Nat} (ht : p + t < q) : ∃ v, x[(p + t).toNat]? = some v ∧ y[(p' + t).toNat]? = some v := by
 have h1 : x[(p + t).toNat]? = some x[(p + t).toNat] := List.getElem?_eq_getElem (by omega)
 refine ⟨_, h1, ?_⟩
 rw [← sub_get (q := q') h0' (by omega), ← h, sub_get h0 ht]; exact h1
theorem mem_spanRun {i j : Int} {n : Nat} {p : Span} (h : p ∈ N1 i j n) : ∃ t : Nat, t < n ∧ p = ⟨i + t, j + t⟩ := by
 unfold N1 at h
 obtain ⟨t, h1, h2⟩ := List.mem_map.1 h
 exact ⟨t, List.mem_range.1 h1, h2.symm⟩
theorem matched_eq {x y : List Str} : ∀ (l : List Change) (k0 : Nat) (i j : Int), J3 k0 i j l x.length y.length = true → EqRuns x y i j l → 0 ≤ i → 0 ≤ j → ∀ p ∈ U8 i j l x.length, EqAt x y p
 | [], k0, i, j, hs, he, hi, hj, p, hp => by
  simp only [J3, decide_eq_true_eq] at hs
  unfold U8 at hp
  obtain ⟨t, ht, rfl⟩ := mem_spanRun hp
  have he : sub x i x.length = sub y j y.length := he
  exact ⟨by dsimp only; omega, by dsimp only; omega, run_get he hi hj (by omega) (by omega) (by omega)⟩
 | c :: r, k0, i, j, hs, he, hi, hj, p, hp => by
  have hok := l4 _ _ _ _ _ _ hs
  have g := r7 x.length y.length (c :: r) k0 i j hs 0 (by simp)
  obtain ⟨g1, g2, g3, g4, g5, g6, g7, _⟩ := g
  have g1 : G7 c.Old := g1
  have g2 : G7 c.OldLen := g2
  have g3 : G7 c.New := g3
  have g4 : G7 c.NewLen := g4
  have g6 : c.Old - i = c.New - j := g6
  have g7 : i ≤ c.Old := g7
  simp only [J3, Bool.and_eq_true, decide_eq_true_eq] at hs
  unfold U8 at hp
  unfold G7 at g1 g2 g3 g4
  have hm := hok.2.2.2.2.2.2.end_le
  rcases List.mem_append.1 hp with hp | hp
  ·obtain ⟨t, ht, rfl⟩ := mem_spanRun hp
   exact ⟨by dsimp only; omega, by dsimp only; omega, run_get he.1 hi hj (by omega) (by omega) (by omega)⟩
  ·rw [show max i c.Old + c.OldLen = c.Old + c.OldLen by omega, show j + ((c.Old - i).toNat : Int) + c.NewLen = c.New + c.NewLen by omega] at hp
   exact matched_eq r (k0 + 1) _ _ hs.2 he.2 (by omega) (by omega) p hp
theorem ScFit.pairs {x y : List Str} {l : List Change} (h : ScFit x y l) : ∀ p ∈ W3 l x.length, EqAt x y p := matched_eq l 0 0 0 h.sc h.eq (Int.le_refl _) (Int.le_refl _)
def movedC (c : Change) : Change := ⟨c.Old + 1, c.OldLen, c.New + 1, c.NewLen⟩
def R0 (l : List Change) (k : Nat) : List Change := l.set k (movedC (cAt l k))
def atI (t : List Int) (i : Int) : Int := t.getD i.toNat 0
def downT (l : List Change) (k : Nat) (t : List Int) (f n : Int) : Prop := (f + n < t.length ∧ atI t f = atI t (f + n)) ∧ (k + 1 = l.length ∨ (cAt l k).Old + (cAt l k).OldLen + 1 < (cAt l (k + 1)).Old)
instance (l : List Change) (k : Nat) (t : List Int) (f n : Int) : Decidable (downT l k t f n) := by unfold downT; exact inferInstance
def S4 (l : List Change) (a b : List Int) (k : Nat) : Bool :=
 if (cAt l k).NewLen = 0 then decide (downT l k a (cAt l k).Old (cAt l k).OldLen) else if (cAt l k).OldLen = 0 then decide (downT l k b (cAt l k).New (cAt l k).NewLen) else false
theorem N9 (l : List Change) (k : Nat) : (R0 l k).length = l.length := by simp [R0]
theorem cAt_moved (l : List Change) {k : Nat} (hk : k < l.length) (q : Nat) : cAt (R0 l k) q = if q = k then movedC (cAt l k) else cAt l q := by
 unfold R0
 by_cases h : q = k
 ·subst h
  have : ∀ z, cAt (l.set q z) q = z := fun z => by unfold cAt; simp [hk]
  rw [if_pos rfl, this]
 ·rw [if_neg h]; unfold cAt
  simp only [List.getD_eq_getElem?_getD]
  rw [List.getElem?_set_ne (Ne.symm h)]
theorem eo_moved (l : List Change) {k : Nat} (hk : k < l.length) (q : Nat) : eoI 0 (R0 l k) q = eoI 0 l q + (if q = k + 1 then 1 else 0) := by
 cases q with
 | zero => simp [eoI]
 | succ q =>
  rw [eoI_succ, eoI_succ, cAt_moved l hk]
  by_cases h : q = k
  ·subst h; rw [if_pos rfl, if_pos rfl]; simp only [V8, movedC]; omega
  ·rw [if_neg h, if_neg (by omega)]; omega
theorem en_moved (l : List Change) {k : Nat} (hk : k < l.length) (q : Nat) : enI 0 (R0 l k) q = enI 0 l q + (if q = k + 1 then 1 else 0) := by
 cases q with
 | zero => simp [enI]
 | succ q =>
  rw [enI_succ, enI_succ, cAt_moved l hk]
  by_cases h : q = k
  ·subst h; rw [if_pos rfl, if_pos rfl]; simp only [endN, movedC]; omega
  ·rw [if_neg h, if_neg (by omega)]; omega
structure IdsOf (x : List Str) (a : List Int) : Prop where
 len : a.length = x.length
 inj : ∀ (i j : Nat) (u v : Str) (z : Int), x[i]? = some u → x[j]? = some v → a[i]? = some z → a[j]? = some z → u = v
theorem ScFit.down {x y : List Str} {l : List Change} {a b : List Int} (h : ScFit x y l) (ha : IdsOf x a) (hb : IdsOf y b) {k : Nat} (hk : k < l.length) (hd : S4 l a b k = true) : ScFit x y (R0 l k) := by
 have hlx := h.lx
 have hly := h.ly
 have hg := r7 _ _ _ 0 0 0 h.sc
 have hge := sc_end _ _ _ 0 0 0 h.sc
 have hq := eq_get _ _ _ _ _ h.eq
 have hqe := eq_end _ _ _ _ _ h.eq
 have hok := h.ok
 obtain ⟨c, hc⟩ : ∃ c, c = cAt l k := ⟨_, rfl⟩
 obtain ⟨g1, g2, g3, g4, g5, g6, g7, g8⟩ := hg k hk
 have hb4 := hok.get k hk
 rw [← hc] at g1 g2 g3 g4 g5 g6 g7 g8 hb4
 unfold G7 at g1 g2 g3 g4
 have eo1 : eoI 0 l (k + 1) = c.Old + c.OldLen := by rw [eoI_succ, ← hc]; rfl
 have en1 : enI 0 l (k + 1) = c.New + c.NewLen := by rw [enI_succ, ← hc]; rfl
 obtain ⟨E, E', hE1, hE2, hE3, hE4, hE5, hEn⟩ : ∃ E E' : Int, sub x (c.Old + c.OldLen) E = sub y (c.New + c.NewLen) E' ∧ E - (c.Old + c.OldLen) = E' - (c.New + c.NewLen) ∧ E ≤ x.length ∧ E' ≤ y.length ∧ (c.Old + c.OldLen < E) ∧ (k + 1 < l.length → E = (cAt l (k + 1)).Old ∧ E' = (cAt l (k + 1)).New ∧ c.Old + c.OldLen + 1 < E) := by
  by_cases hl : k + 1 = l.length
  ·rw [← hl, eo1, en1] at hge hqe
   refine ⟨x.length, y.length, hqe, by omega, by omega, by omega, ?_, fun q => absurd hl (by omega)⟩
   unfold S4 at hd
   rw [← hc] at hd
   split at hd
   ·have := (A0 hd).1.1; rw [ha.len] at this; omega
   ·split at hd
    ·have := (A0 hd).1.1; rw [hb.len] at this; omega
    ·cases hd
  ·have hl : k + 1 < l.length := by omega
   obtain ⟨f1, f2, f3, f4, f5, f6, f7, f8⟩ := hg (k + 1) hl
   have f9 := hq (k + 1) hl
   have f10 := hok.get (k + 1) hl
   rw [eo1, en1] at f6 f9
   rw [eo1] at f7
   unfold G7 at f2 f4
   have hroom : c.Old + c.OldLen + 1 < (cAt l (k + 1)).Old := by
    unfold S4 at hd
    rw [← hc] at hd
    split at hd
    ·have := (A0 hd).2; rw [← hc] at this; omega
    ·split at hd
     ·have := (A0 hd).2; rw [← hc] at this; omega
     ·cases hd
   exact ⟨_, _, f9, by omega, by omega, by omega, by omega, fun _ => ⟨rfl, rfl, hroom⟩⟩
 have hv : ∃ v, x[c.Old.toNat]? = some v ∧ y[c.New.toNat]? = some v := by
  obtain ⟨v, v1, v2⟩ := run_get (t := 0) hE1 (by omega) (by omega) (by omega) hE2 (by omega)
  simp only [Int.natCast_zero, Int.add_zero] at v1 v2
  unfold S4 at hd
  rw [← hc] at hd
  split at hd
  ·rename_i hn
   have := (A0 hd).1.2
   rw [hn, Int.add_zero] at v2
   refine ⟨v, ?_, v2⟩
   have l1 : c.Old.toNat < a.length := by rw [ha.len]; omega
   have l2 : (c.Old + c.OldLen).toNat < a.length := by rw [ha.len]; omega
   have hx : x[c.Old.toNat]? = some x[c.Old.toNat] := List.getElem?_eq_getElem (by omega)
   have ea : a[c.Old.toNat]? = some (atI a c.Old) := by unfold atI; rw [List.getD_eq_getElem?_getD, List.getElem?_eq_getElem l1]; rfl
   have eb : a[(c.Old + c.OldLen).toNat]? = some (atI a (c.Old + c.OldLen)) := by unfold atI; rw [List.getD_eq_getElem?_getD, List.getElem?_eq_getElem l2]; rfl
   rw [← this] at eb
   have := ha.inj _ _ _ _ _ hx v1 ea eb
   rw [hx, this]
  ·split at hd
   ·rename_i _ hn
    have := (A0 hd).1.2
    rw [hn, Int.add_zero] at v1
    refine ⟨v, v1, ?_⟩
    have l1 : c.New.toNat < b.length := by rw [hb.len]; omega
    have l2 : (c.New + c.NewLen).toNat < b.length := by rw [hb.len]; omega
    have hx : y[c.New.toNat]? = some y[c.New.toNat] := List.getElem?_eq_getElem (by omega)
    have ea : b[c.New.toNat]? = some (atI b c.New) := by unfold atI; rw [List.getD_eq_getElem?_getD, List.getElem?_eq_getElem l1]; rfl
    have eb : b[(c.New + c.NewLen).toNat]? = some (atI b (c.New + c.NewLen)) := by unfold atI; rw [List.getD_eq_getElem?_getD, List.getElem?_eq_getElem l2]; rfl
    rw [← this] at eb
    have := hb.inj _ _ _ _ _ hx v2 ea eb
    rw [hx, this]
   ·cases hd
 obtain ⟨v, v1, v2⟩ := hv
 have hen0 : 0 ≤ eoI 0 l k ∧ 0 ≤ enI 0 l k := by
  cases k with
  | zero => simp [eoI, enI]
  | succ k =>
   obtain ⟨f1, f2, f3, f4, _⟩ := hg k (by omega)
   unfold G7 at f1 f2 f3 f4
   rw [eoI_succ, enI_succ]; unfold V8 endN; omega
 have htail : sub x (c.Old + c.OldLen + 1) E = sub y (c.New + c.NewLen + 1) E' := by
  have := run_tail (e := E - (c.Old + c.OldLen) - 1) hE1 (by omega) (by omega) (by omega) (by omega) hE2
  rw [show E - (E - (c.Old + c.OldLen) - 1) = c.Old + c.OldLen + 1 by omega, show E' - (E - (c.Old + c.OldLen) - 1) = c.New + c.NewLen + 1 by omega] at this
  exact this
 refine ⟨hlx, hly, sc_make _ _ _ 0 0 0 (fun q hql => ?_) ?_, eq_make _ _ _ 0 0 (fun q hql => ?_) ?_⟩
 ·rw [N9] at hql
  rw [cAt_moved l hk, eo_moved l hk, en_moved l hk]
  by_cases e : q = k
  ·rw [if_pos e, if_neg (show ¬ q = k + 1 by omega), e, ← hc]
   unfold G7
   simp only [movedC]
   refine ⟨by omega, g2, by omega, g4, g5, by omega, by omega, fun _ => by omega⟩
  ·rw [if_neg e]
   obtain ⟨f1, f2, f3, f4, f5, f6, f7, f8⟩ := hg q hql
   refine ⟨f1, f2, f3, f4, f5, ?_, ?_, ?_⟩
   ·by_cases e2 : q = k + 1
    ·rw [if_pos e2]; omega
    ·rw [if_neg e2]; omega
   ·by_cases e2 : q = k + 1
    ·rw [if_pos e2]; have := f8 (by omega); omega
    ·rw [if_neg e2]; omega
   ·intro h0
    by_cases e2 : q = k + 1
    ·rw [if_pos e2, e2, eo1]
     have := (hEn (by omega))
     omega
    ·rw [if_neg e2]; have := f8 h0; omega
 ·rw [N9, eo_moved l hk, en_moved l hk]
  by_cases e2 : l.length = k + 1
  ·rw [if_pos e2, e2, eo1, en1]
   rw [e2, eo1, en1] at hge
   have h1 : E ≤ x.length := hE3
   omega
  ·rw [if_neg e2]; omega
 ·rw [N9] at hql
  rw [cAt_moved l hk, eo_moved l hk, en_moved l hk]
  by_cases e : q = k
  ·rw [if_pos e, if_neg (show ¬ q = k + 1 by omega), e, ← hc]
   simp only [movedC, Int.add_zero]
   have := hq k hk
   rw [← hc] at this
   rw [sub_snoc hen0.1 g7 v1, sub_snoc hen0.2 (by omega) v2, this]
  ·rw [if_neg e]
   by_cases e2 : q = k + 1
   ·rw [if_pos e2]
    subst e2
    obtain ⟨q1, q2, _⟩ := hEn hql
    rw [eo1, en1, ← q1, ← q2]; exact htail
   ·rw [if_neg e2, Int.add_zero, Int.add_zero]
    exact hq q hql
 ·rw [N9, eo_moved l hk, en_moved l hk]
  by_cases e2 : l.length = k + 1
  ·rw [if_pos e2]
   rw [e2, eo1, en1] at hqe hge ⊢
   have := run_tail (e := x.length - (c.Old + c.OldLen) - 1) hqe (by omega) (by omega) (by omega) (by omega) (by omega)
   rw [show (x.length : Int) - (x.length - (c.Old + c.OldLen) - 1) = c.Old + c.OldLen + 1 by omega, show (y.length : Int) - (x.length - (c.Old + c.OldLen) - 1) = c.New + c.NewLen + 1 by omega] at this
   exact this
  ·rw [if_neg e2, Int.add_zero, Int.add_zero]; exact hqe
def measK (l : List Change) (a b : List Int) (k : Nat) : Nat := ((a.length : Int) - (cAt l k).Old).toNat + ((b.length : Int) - (cAt l k).New).toNat
def x3 (a b : List Int) (k : Nat) : Nat → List Change → List Change
 | 0, l => l
 | f + 1, l => if S4 l a b k = true then x3 a b k f (R0 l k) else l
def T7 (a b : List Int) (l : List Change) (k : Nat) : List Change := x3 a b k (measK l a b k) l
def slideAll (a b : List Int) : Nat → List Change → List Change
 | 0, l => l
 | k + 1, l => slideAll a b k (T7 a b l k)
def n8 (l : List Change) : List (Int × Int) := l.map fun c => (c.OldLen, c.NewLen)
theorem lens_moved {l : List Change} {k : Nat} (hk : k < l.length) : n8 (R0 l k) = n8 l := by
 unfold n8 R0
 rw [List.map_set]
 have e : (movedC (cAt l k)).OldLen = l[k].OldLen ∧ (movedC (cAt l k)).NewLen = l[k].NewLen := by unfold cAt movedC; simp [hk]
 apply List.ext_getElem
 ·simp
 ·intro i h1 h2
  by_cases hi : k = i
  ·subst hi; simp [e.1, e.2]
  ·simp [hi]
section
variable {x y : List Str} {a b : List Int} (ha : IdsOf x a) (hb : IdsOf y b)
include ha hb
theorem meas_down {l : List Change} {k : Nat} (h : ScFit x y l) (hk : k < l.length) (hd : S4 l a b k = true) : measK (R0 l k) a b k < measK l a b k := by
 have h' := (h.down ha hb hk hd).ok.get k (by rw [N9]; exact hk)
 unfold measK
 rw [cAt_moved l hk, if_pos rfl] at h' ⊢
 obtain ⟨⟨h1, _⟩, ⟨h2, _⟩, ⟨h3, _⟩, ⟨h4, _⟩, h5, h6⟩ := h'
 have e1 := ha.len
 have e2 := hb.len
 simp only [movedC] at h1 h2 h3 h4 h5 h6 ⊢
 omega
theorem slideK_stable {k : Nat} : ∀ (f g : Nat) (l : List Change), ScFit x y l → k < l.length → measK l a b k ≤ f → measK l a b k ≤ g → x3 a b k f l = x3 a b k g l
 | 0, 0, l, _, _, _, _ => rfl
 | 0, g + 1, l, h, hk, h1, _ => by
  unfold x3
  by_cases hd : S4 l a b k = true
  ·have := meas_down ha hb h hk hd; omega
  ·rw [if_neg hd]
 | f + 1, 0, l, h, hk, _, h1 => by
  unfold x3
  by_cases hd : S4 l a b k = true
  ·have := meas_down ha hb h hk hd; omega
  ·rw [if_neg hd]
 | f + 1, g + 1, l, h, hk, h1, h2 => by
  unfold x3
  by_cases hd : S4 l a b k = true
  ·have := meas_down ha hb h hk hd
   rw [if_pos hd, if_pos hd]
   exact slideK_stable f g _ (h.down ha hb hk hd) (by rw [N9]; exact hk) (by omega) (by omega)
  ·rw [if_neg hd, if_neg hd]
theorem slideOne_down {l : List Change} {k : Nat} (h : ScFit x y l) (hk : k < l.length) (hd : S4 l a b k = true) : T7 a b l k = T7 a b (R0 l k) k := by
 have hm := meas_down ha hb h hk hd
 unfold T7
 obtain ⟨g, hg⟩ : ∃ g, measK l a b k = g + 1 := ⟨measK l a b k - 1, by omega⟩
 rw [hg]
 conv => lhs; unfold x3
 rw [if_pos hd]
 exact slideK_stable ha hb _ _ _ (h.down ha hb hk hd) (by rw [N9]; exact hk) (by omega) (Nat.le_refl _)
omit ha hb in
theorem slideOne_stop {l : List Change} {k : Nat} (hd : S4 l a b k = false) : T7 a b l k = l := by
 unfold T7
 cases measK l a b k with
 | zero => rfl
 | succ n => unfold x3; rw [hd]; rfl
theorem slideK_fit {k : Nat} : ∀ (f : Nat) (l : List Change), ScFit x y l → k < l.length → ScFit x y (x3 a b k f l) ∧ n8 (x3 a b k f l) = n8 l
 | 0, l, h, _ => ⟨h, rfl⟩
 | f + 1, l, h, hk => by
  unfold x3
  by_cases hd : S4 l a b k = true
  ·rw [if_pos hd]
   have := slideK_fit f _ (h.down ha hb hk hd) (by rw [N9]; exact hk)
   rw [lens_moved hk] at this; exact this
  ·rw [if_neg hd]; exact ⟨h, rfl⟩
theorem slideOne_fit {l : List Change} {k : Nat} (h : ScFit x y l) (hk : k < l.length) : ScFit x y (T7 a b l k) ∧ n8 (T7 a b l k) = n8 l := slideK_fit ha hb _ l h hk
omit ha hb in
theorem lens_len {l l' : List Change} (h : n8 l = n8 l') : l.length = l'.length := by
 have := congrArg List.length h
 simpa [n8] using this
theorem slideAll_fit : ∀ (k : Nat) (l : List Change), ScFit x y l → k ≤ l.length → ScFit x y (slideAll a b k l) ∧ n8 (slideAll a b k l) = n8 l
 | 0, l, h, _ => ⟨h, rfl⟩
 | k + 1, l, h, hk => by
  unfold slideAll
  obtain ⟨h1, h2⟩ := slideOne_fit ha hb h (k := k) (by omega)
  have h3 := slideAll_fit k _ h1 (by rw [lens_len h2]; omega)
  rw [h2] at h3; exact h3
end
theorem idsOf_ids {names x : List Str} (h : ∀ s ∈ x, s ∈ names) : IdsOf x (F2 names x) := by
 refine ⟨by simp [F2], fun i j u v z h1 h2 h3 h4 => ?_⟩
 obtain ⟨s, s1, s2⟩ := idsOf_get h3
 obtain ⟨t, t1, t2⟩ := idsOf_get h4
 rw [h1] at s1; cases s1
 rw [h2] at t1; cases t1
 exact placeOf_inj names u v 0 (Int.le_refl _) (h u (List.mem_of_getElem? h1)) (h v (List.mem_of_getElem? h2)) (s2.trans t2.symm)
def downOf (l : List Change) (a b : List Int) : List Change := slideAll a b l.length l
end Go.AL
namespace Go.AL
open Go
def scriptD (x y : List Str) (d : Bool) : List Change := if d = true then downOf (L4 x y) (F2 (D1 [x, y]) x) (F2 (D1 [x, y]) y) else L4 x y
def made12 (on nn a b : Str) (ctx : Int) (d : Bool) : Patch × Int :=
 if L2 on = false ∨ L2 nn = false then (K3, 120)
 else if ctx < 0 ∨ 1048576 < ctx then (K3, 3)
 else (⟨on, nn, P8 (scriptD (D8 a) (D8 b) d) (D8 a) (D8 b) ctx⟩, 0)
theorem scriptD_fit (x y : List Str) (d : Bool) (hx : x.length ≤ 4096) (hy : y.length ≤ 4096) : ScFit x y (scriptD x y d) ∧ n8 (scriptD x y d) = n8 (L4 x y) := by
 have h := script_fit x y hx hy
 unfold scriptD
 cases d
 ·exact ⟨h, rfl⟩
 ·rw [if_pos rfl]
  exact slideAll_fit (idsOf_ids fun s hs => j7 _ _ x (by simp) hs) (idsOf_ids fun s hs => j7 _ _ y (by simp) hs) _ _ h (Nat.le_refl _)
theorem scriptD_len (x y : List Str) (d : Bool) (hx : x.length ≤ 4096) (hy : y.length ≤ 4096) : (scriptD x y d).length ≤ x.length + 1 := by
 rw [lens_len (scriptD_fit x y d hx hy).2]; exact y3 x y
theorem group_err {l : List Change} {m n ctx : Int} (h : ctx < 0 ∨ 1048576 < ctx) : M3 l m n ctx = ([], 3) := by unfold M3; rw [if_pos h]
theorem group_fit {x y : List Str} {l : List Change} (h : ScFit x y l) {ctx : Int} (hc : ¬ (ctx < 0 ∨ 1048576 < ctx)) : M3 l x.length y.length ctx = (H0 l x.length ctx l.length, 0) := by
 unfold M3
 rw [if_neg hc, h.check, if_neg (by simp)]
structure Made12 (on nn a b : Str) (l : List Change) (ctx : Int) : Prop where
 chk : F7 ⟨on, nn, P8 l (D8 a) (D8 b) ctx⟩ = 0
 wr : (J6 ⟨on, nn, P8 l (D8 a) (D8 b) ctx⟩).length ≤ 16777216
 fit : PFit ⟨on, nn, P8 l (D8 a) (D8 b) ctx⟩
 rg : ∀ h ∈ P8 l (D8 a) (D8 b) ctx, (-4611686018427387904 ≤ h.Old ∧ h.Old ≤ 4611686018427387904) ∧ (-4611686018427387904 ≤ h.New ∧ h.New ≤ 4611686018427387904)
 sz : szP (P8 l (D8 a) (D8 b) ctx) ≤ 268435456
theorem made12_is (on nn a b : Str) (l : List Change) (ctx : Int) (hn : L2 on = true) (hn' : L2 nn = true) (hc : ¬ (ctx < 0 ∨ 1048576 < ctx)) (ha : a.length ≤ 4096) (hb : b.length ≤ 4096) (hfit : ScFit (D8 a) (D8 b) l) : Made12 on nn a b l ctx := by
 obtain ⟨f1, f2⟩ := Y4 a
 obtain ⟨f3, f4⟩ := Y4 b
 obtain ⟨a1, a2⟩ := linesOf_ok a
 obtain ⟨b1, b2⟩ := linesOf_ok b
 have hc0 : 0 ≤ ctx := by omega
 have hg := hfit.good hc0 a1 b1 a2 b2
 have hz := hfit.size hc0 a1 b1
 have ht := hfit.texts hc0 a1 b1
 have hxl := hfit.lx
 have hyl := hfit.ly
 obtain ⟨hs, hhs⟩ : ∃ hs, hs = P8 l (D8 a) (D8 b) ctx := ⟨_, rfl⟩
 rw [← hhs] at hg hz ht
 have hon := hn
 have hnn := hn'
 unfold L2 at hon hnn
 have o1 := A0 hon
 have o2 := A0 hnn
 have hw : (J6 ⟨on, nn, hs⟩).length ≤ 16777216 := by
  have h1 : (J6 ⟨on, nn, hs⟩).length ≤ (Y3 ⟨on, nn, hs⟩).flatten.length + szP hs := by
   unfold J6 writePs
   rw [List.flatten_append, List.length_append]
   have := Z3 hs
   show _ + ((hs).map S3).flatten.flatten.length ≤ _
   omega
  have h2 := l5 ⟨on, nn, hs⟩
  have h3 : (Y3 ⟨on, nn, hs⟩).flatten.length ≤ 4 * on.length + 4 * nn.length + 14 := h2
  omega
 refine ⟨?_, by rw [← hhs]; exact hw, ⟨by dsimp only; omega, by dsimp only; omega, by rw [← hhs]; dsimp only; omega⟩, fun h hm => ?_, by rw [← hhs]; omega⟩
 ·rw [← hhs]
  unfold F7
  rw [if_neg (by rw [show (Patch.mk on nn hs).OldName = on from rfl, show (Patch.mk on nn hs).NewName = nn from rfl, hn, hn']; simp)]
  rw [if_neg (by rw [hg]; simp), if_neg (by omega)]
 ·rw [← hhs] at hm
  obtain ⟨⟨q1, q2, q3, q4⟩, _⟩ := ht h hm
  unfold J5 at q1
  unfold L1 at q2
  omega
end Go.AL
namespace Go.AL
open Go
section
variable {x y : List Str} {l : List Change}
end
end Go.AL
namespace Go.AL
open Go
def ChainH (x y : List Str) (i j : Int) : List PatchHunk → Prop
 | [] => sub x i x.length = sub y j y.length ∧ 0 ≤ i ∧ 0 ≤ j ∧ i ≤ x.length ∧ j ≤ y.length
 | h :: r => (sub x i h.Old = sub y j h.New ∧ C4 h.Lines 43 = sub x h.Old (h.Old + J5 h) ∧ C4 h.Lines 45 = sub y h.New (h.New + L1 h)) ∧ (0 ≤ i ∧ 0 ≤ j ∧ i ≤ h.Old ∧ j ≤ h.New ∧ h.Old + J5 h ≤ x.length ∧ h.New + L1 h ≤ y.length) ∧ ChainH x y (h.Old + J5 h) (h.New + L1 h) r
def aT (i : Int) (hs : List PatchHunk) (k : Nat) : Int := if k = 0 then i else (hAt hs (k - 1)).Old + J5 (hAt hs (k - 1))
def bT (j : Int) (hs : List PatchHunk) (k : Nat) : Int := if k = 0 then j else (hAt hs (k - 1)).New + L1 (hAt hs (k - 1))
theorem aT_cons (i : Int) (h : PatchHunk) (r : List PatchHunk) (k : Nat) : aT i (h :: r) (k + 1) = aT (h.Old + J5 h) r k := by cases k <;> rfl
theorem bT_cons (i : Int) (h : PatchHunk) (r : List PatchHunk) (k : Nat) : bT i (h :: r) (k + 1) = bT (h.New + L1 h) r k := by cases k <;> rfl
theorem chain_get {x y : List Str} : ∀ {hs : List PatchHunk} {i j : Int}, ChainH x y i j hs → ∀ k, k < hs.length →
  (sub x (aT i hs k) (hAt hs k).Old = sub y (bT j hs k) (hAt hs k).New ∧ C4 (hAt hs k).Lines 43 = sub x (hAt hs k).Old ((hAt hs k).Old + J5 (hAt hs k)) ∧ C4 (hAt hs k).Lines 45 = sub y (hAt hs k).New ((hAt hs k).New + L1 (hAt hs k))) ∧
   (0 ≤ aT i hs k ∧ 0 ≤ bT j hs k ∧ aT i hs k ≤ (hAt hs k).Old ∧ bT j hs k ≤ (hAt hs k).New ∧ (hAt hs k).Old + J5 (hAt hs k) ≤ x.length ∧ (hAt hs k).New + L1 (hAt hs k) ≤ y.length)
 | [], _, _, _, k, hk => by simp at hk
 | h :: r, i, j, ⟨h1, h2, h3⟩, 0, _ => ⟨h1, h2⟩
 | h :: r, i, j, ⟨h1, h2, h3⟩, k + 1, hk => by
  rw [aT_cons, bT_cons]
  exact chain_get h3 k (by simpa using hk)
theorem chain_end {x y : List Str} : ∀ {hs : List PatchHunk} {i j : Int}, ChainH x y i j hs → sub x (aT i hs hs.length) x.length = sub y (bT j hs hs.length) y.length ∧ 0 ≤ aT i hs hs.length ∧ 0 ≤ bT j hs hs.length ∧ aT i hs hs.length ≤ x.length ∧ bT j hs hs.length ≤ y.length
 | [], _, _, h => h
 | h :: r, i, j, ⟨_, _, h3⟩ => by rw [List.length_cons, aT_cons, bT_cons]; exact chain_end h3
theorem chain_out {x y : List Str} {hs : List PatchHunk} (h : ChainH x y 0 0 hs) : ∀ k, k ≤ hs.length → n6 hs x k = sub y 0 (bT 0 hs k)
 | 0, _ => by simp [n6, bT, sub]
 | k + 1, hk => by
  obtain ⟨⟨g1, g2, g3⟩, q1, q2, q3, q4, q5, q6⟩ := chain_get h k (by omega)
  have n2 : 0 ≤ L1 (hAt hs k) := by unfold L1; omega
  have ih := chain_out h k (by omega)
  have e1 : d6 hs k = aT 0 hs k := rfl
  have e2 : bT 0 hs (k + 1) = (hAt hs k).New + L1 (hAt hs k) := rfl
  simp only [n6]
  rw [ih, e1, g1, g3, e2, s8 y (by omega) q2 q4, s8 y (by omega) (by omega) (by omega)]
theorem sub_all (x : List Str) (i : Int) : sub x i x.length = x.drop i.toNat := by
 unfold sub
 rw [List.take_of_length_le (by rw [List.length_drop]; omega)]
theorem chain_apply {x y : List Str} {hs : List PatchHunk} (h : ChainH x y 0 0 hs) : n6 hs x hs.length ++ x.drop (d6 hs hs.length).toNat = y := by
 obtain ⟨h1, h2, h3, h4, h5⟩ := chain_end h
 rw [chain_out h hs.length (Nat.le_refl _), show d6 hs hs.length = aT 0 hs hs.length from rfl, ← sub_all, h1, s8 y (by omega) h3 h5, sub_all]
 simp
theorem chain_fits {x y : List Str} : ∀ {hs : List PatchHunk} {i j : Int}, ChainH x y i j hs → fitN hs x = hs.length
 | [], _, _, _ => rfl
 | h :: r, i, j, ⟨⟨h1, h2, h3⟩, ⟨g1, g2, g3, g4, g5, g6⟩, h4⟩ => by
  have ih := chain_fits h4
  have hf : fitsOf h x = true := by
   unfold fitsOf
   rw [if_neg (by omega)]
   refine decide_eq_true ?_
   have e : ((C4 h.Lines 43).length : Int) = J5 h := rfl
   conv => rhs; rw [h2]
   unfold sub
   congr 1
   omega
  simp only [fitN]
  rw [if_pos hf, ih, List.length_cons]
theorem ScFit.chain {x y : List Str} {l : List Change} (h : ScFit x y l) {ctx : Int} (hc : 0 ≤ ctx) : ∀ (hs : List Hunk) (a : Nat), GrOk l x.length ctx a hs l.length →
  ∀ (i j e : Int), i = eoI 0 l a + e → j = enI 0 l a + e → 0 ≤ e → e ≤ ctx → (a = 0 → e = 0) → i ≤ x.length → j ≤ y.length → ChainH x y i j (hs.map (H5 l x y))
 | [], a, hr, i, j, e, hi, hj, he, _, _, hix, hjy => by
  have hr : a = l.length := hr
  have hq := eq_end _ _ _ _ _ h.eq
  have hge := sc_end _ _ _ 0 0 0 h.sc
  obtain ⟨r1, r2, r3, r4⟩ := h.nn a (by omega)
  rw [← hr] at hq hge
  refine ⟨?_, by omega, by omega, hix, hjy⟩
  have := run_tail (e := x.length - i) hq r1 r2 (by omega) (by omega) (by omega)
  rw [show (x.length : Int) - (x.length - i) = i by omega, show (y.length : Int) - (x.length - i) = j by omega] at this
  exact this
 | hk :: hs, a, ⟨b, hab, ho, hE, hr⟩, i, j, e, hi, hj, he, hec, he0, hix, hjy => by
  have hb := hr.le
  have hob : b < l.length → opens l ctx b := by
   intro hlt
   cases hs with
   | nil => exact absurd hr (by show ¬ b = l.length; omega)
   | cons h2 hs2 => obtain ⟨_, _, ho2, _⟩ := hr; exact ho2
  obtain ⟨w1, w2, w3, w4, w5⟩ := h.after hc hb hob (by omega)
  obtain ⟨q1, q2, q3⟩ := h.before hc (show a < l.length by omega) ho
  have H := h.hunk hc hab hb ho hob
  rw [← hE] at H
  obtain ⟨P, hP⟩ : ∃ P, P = H5 l x y hk := ⟨_, rfl⟩
  rw [← hP] at H
  have ih := ScFit.chain h hc hs b hr (P.Old + J5 P) (P.New + L1 P) (eB l x.length ctx b) H.oe H.ne w1 w2 (by omega) H.ox H.ny
  obtain ⟨k1, ⟨k2, k2'⟩, k3, ⟨k4, k4'⟩, k5, k6, k7, k8⟩ := r7 _ _ _ _ _ _ h.sc a (show a < l.length by omega)
  have h1 := H.old
  have h2 := H.new
  have h3 := H.o0
  have h4 := H.n0
  have hgap : e + eA l ctx a ≤ (cAt l a).Old - eoI 0 l a := by
   by_cases h0 : a = 0
   ·have := he0 h0; omega
   ·have := opens_gap ho h0; omega
  obtain ⟨r1, r2, r3, r4⟩ := h.nn a (by omega)
  have hij : i ≤ P.Old ∧ j ≤ P.New ∧ P.Old - i = P.New - j ∧ 0 ≤ i ∧ 0 ≤ j := by omega
  have hrun := eq_get _ _ _ _ _ h.eq a (show a < l.length by omega)
  have t1 := run_tail (e := (cAt l a).Old - i) hrun r1 r2 (by omega) (by omega) (by omega)
  rw [show (cAt l a).Old - ((cAt l a).Old - i) = i by omega, show (cAt l a).New - ((cAt l a).Old - i) = j by omega] at t1
  have t2 := run_head (e := P.Old - i) t1 (by omega) (by omega) (by omega) (by omega) (by omega)
  rw [show i + (P.Old - i) = P.Old by omega, show j + (P.Old - i) = P.New by omega] at t2
  rw [List.map_cons, ← hP]
  exact ⟨⟨t2, H.ol, H.nl⟩, ⟨by omega, by omega, hij.1, hij.2.1, H.ox, H.ny⟩, ih⟩
theorem ScFit.chain0 {x y : List Str} {l : List Change} (h : ScFit x y l) {ctx : Int} (hc : 0 ≤ ctx) : ChainH x y 0 0 (P8 l x y ctx) :=
 h.chain hc _ 0 (groupTo_gr l x.length ctx l.length) 0 0 0 rfl rfl (Int.le_refl _) hc (fun _ => rfl) (by omega) (by omega)
theorem listOk_lines : ∀ (y : List Str), (∀ s ∈ y, K8 s = true) → M9 y = true → p8 y = true
 | [], _, _ => rfl
 | s :: r, h, he => by
  simp only [M9, Bool.and_eq_true] at he
  simp only [p8, Bool.and_eq_true]
  exact ⟨⟨h s (List.mem_cons_self ..), he.1⟩, listOk_lines r (fun t ht => h t (List.mem_cons_of_mem _ ht)) he.2⟩
theorem apply14_chain {p : Patch} {a b : Str} (hc : F7 p = 0) (ha : a.length ≤ 4096) (hb : b.length ≤ 4096) (h : ChainH (D8 a) (D8 b) 0 0 p.Hunks) : s7 p a = (b, 0) := by
 have hf : fits14 p a = ((p.Hunks.length : Int), 0) := by
  unfold fits14
  rw [hc, if_neg (by simp), splitOf_small ha, if_neg (by simp), chain_fits h]
 obtain ⟨b1, b2⟩ := linesOf_ok b
 obtain ⟨f1, f2⟩ := Y4 b
 have hfl : (D8 b).flatten = b := by have := linesAux_flat2 b []; simpa [D8] using this
 have hok := listOk_lines (D8 b) b1 b2
 unfold s7
 rw [hf, if_neg (by simp), if_neg (by simp)]
 unfold applyOf
 rw [chain_apply h]
 dsimp only
 rw [hok, if_neg (by decide)]
 unfold j1
 rw [hok, if_neg (by decide), if_neg (by omega), hfl]
end Go.AL
namespace Go.AL
open Go
def b9 (c : UInt8) : Bool := decide (48 ≤ c.toNat ∧ c.toNat ≤ 57)
def M4 (s : Str) : Str := s.takeWhile b9
def decV (ds : Str) : Nat := ds.foldl (fun n c => 10 * n + (c.toNat - 48)) 0
def o7 (s : Str) : Option (Nat × Nat) :=
 if M4 s = [] ∨ (s.head? = some 48 ∧ 1 < (M4 s).length) ∨ 2147483647 < decV (M4 s) then none else some (decV (M4 s), (M4 s).length)
theorem decV_snoc (ds : Str) (c : UInt8) : decV (ds ++ [c]) = 10 * decV ds + (c.toNat - 48) := by
 unfold decV; rw [List.foldl_append]; rfl
theorem r8 (k : Nat) (h : k < 10) : (UInt8.ofNat (48 + k)).toNat = 48 + k := by
 rw [UInt8.toNat_ofNat']; omega
theorem dec_digits (u : Nat) : (∀ c ∈ Lib.decDigits u, b9 c = true) ∧ decV (Lib.decDigits u) = u ∧ Lib.decDigits u ≠ [] ∧ ((Lib.decDigits u).head? = some 48 → u = 0) ∧ (1 < (Lib.decDigits u).length → 10 ≤ u) := by
 induction u using Nat.strongRecOn with
 | _ u ih =>
  rw [Lib.decDigits]
  split
  ·rename_i h
   refine ⟨?_, ?_, by simp, ?_, by simp⟩
   ·intro c hc
    simp only [List.mem_cons, List.not_mem_nil, or_false] at hc
    subst hc; unfold b9; rw [r8 u h]; simp; omega
   ·unfold decV; simp only [List.foldl_cons, List.foldl_nil]; rw [r8 u h]; omega
   ·intro h1
    simp only [List.head?_cons, Option.some.injEq] at h1
    have := congrArg UInt8.toNat h1
    rw [r8 u h] at this
    have e : (48 : UInt8).toNat = 48 := rfl
    omega
  ·rename_i h
   obtain ⟨h1, h2, h3, h4, h5⟩ := ih (u / 10) (by omega)
   have h6 : u % 10 < 10 := Nat.mod_lt _ (by omega)
   refine ⟨?_, ?_, by simp, ?_, fun _ => by omega⟩
   ·intro c hc
    rcases List.mem_append.1 hc with hc | hc
    ·exact h1 c hc
    ·simp only [List.mem_cons, List.not_mem_nil, or_false] at hc
     subst hc; unfold b9; rw [r8 _ h6]; simp; omega
   ·rw [decV_snoc, h2, r8 _ h6]; omega
   ·intro h7
    rw [List.head?_append] at h7
    cases hd : (Lib.decDigits (u / 10)).head? with
    | none => exact absurd (List.head?_eq_none_iff.1 hd) h3
    | some x =>
     rw [hd] at h7
     have h7 : x = 48 := by simpa using h7
     have := h4 (by rw [hd, h7])
     omega
theorem digs_app {ds t : Str} (h : ∀ c ∈ ds, b9 c = true) (ht : ∀ c, t.head? = some c → b9 c = false) : M4 (ds ++ t) = ds := by
 unfold M4
 rw [List.takeWhile_append_of_pos h]
 cases t with
 | nil => simp
 | cons c r => rw [List.takeWhile_cons, ht c rfl]; simp
theorem fmt_dec {n : Int} (h0 : 0 ≤ n) (h1 : n ≤ 2147483647) : L9 n = Lib.decDigits n.toNat := by
 unfold L9 Lib.itoa; rw [if_neg (by omega), if_neg (by omega)]
theorem num_fmt {n : Int} {t : Str} (h0 : 0 ≤ n) (h1 : n ≤ 2147483647) (ht : ∀ c, t.head? = some c → b9 c = false) : o7 (L9 n ++ t) = some (n.toNat, (L9 n).length) := by
 rw [fmt_dec h0 h1]
 obtain ⟨h2, h3, h4, h5, h6⟩ := dec_digits n.toNat
 have e := digs_app h2 ht
 unfold o7
 rw [e, h3]
 rw [if_neg]
 rintro (h | ⟨h, h'⟩ | h)
 ·exact h4 h
 ·have h7 : (Lib.decDigits n.toNat).head? = some 48 := by
   rw [List.head?_append] at h
   cases hd : (Lib.decDigits n.toNat).head? with
   | none => exact absurd (List.head?_eq_none_iff.1 hd) h4
   | some x => rw [hd] at h; simpa using h
  have := h5 h7; have := h6 h'; omega
 ·omega
def rngFin (s : Str) (a c : Nat) (e : Nat) : Option (Int × Int × Nat) :=
 if I0 (if 0 < c then (a : Int) - 1 else a) c = s.take e then some ((if 0 < c then (a : Int) - 1 else a), (c : Int), e) else none
def rngAt (s : Str) : Option (Int × Int × Nat) :=
 match o7 s with
 | none => none
 | some (a, k) => if s[k]? = some 44 then (match o7 (s.drop (k + 1)) with | none => none | some (c, k2) => rngFin s a c (k + 1 + k2)) else rngFin s a 1 k
theorem rngFin_ok {s : Str} {a c e : Nat} {st : Int} (hst : st = if 0 < c then (a : Int) - 1 else a) (h : I0 st c = s.take e) : rngFin s a c e = some (st, (c : Int), e) := by
 unfold rngFin; rw [← hst, if_pos h]
theorem rng_range {a n : Int} {t : Str} (h0 : 0 ≤ a) (h1 : 0 ≤ n) (h2 : a ≤ 2147483647) (h3 : n ≤ 2147483647 - a) (ht : ∀ c, t.head? = some c → b9 c = false ∧ c ≠ 44) : rngAt (I0 a n ++ t) = some (a, n, (I0 a n).length) := by
 have hr : I0 a n = if n = 0 then L9 a ++ [44, 48] else if n = 1 then L9 (a + 1) else L9 (a + 1) ++ [44] ++ L9 n := by
  unfold I0; rw [if_neg (by omega)]
 have hf0 : L9 0 = [48] := by rw [fmt_dec (by omega) (by omega)]; rw [Lib.decDigits]; rfl
 have hd44 : b9 44 = false := by decide
 have hT : (I0 a n ++ t).take (I0 a n).length = I0 a n := List.take_left
 by_cases hn0 : n = 0
 ·subst hn0
  rw [if_pos rfl] at hr
  have e1 : I0 a 0 ++ t = L9 a ++ (44 :: (L9 0 ++ t)) := by rw [hr, hf0]; simp
  have ed : (L9 a ++ (44 :: (L9 0 ++ t))).drop ((L9 a).length + 1) = L9 0 ++ t := by rw [List.drop_append]; simp
  have el : (L9 a).length + 1 + (L9 0).length = (I0 a 0).length := by rw [hr, hf0]; simp
  rw [e1] at hT ⊢
  unfold rngAt
  rw [num_fmt h0 h2 (by intro c hc; cases hc; exact hd44)]
  dsimp only
  rw [if_pos (by simp), ed, num_fmt (n := 0) (by omega) (by omega) (fun c hc => (ht c hc).1)]
  dsimp only
  rw [el]
  exact rngFin_ok (st := a) (c := 0) (by simp; omega) hT.symm
 ·by_cases hn1 : n = 1
  ·subst hn1
   rw [if_neg (by omega), if_pos rfl] at hr
   rw [hr] at hT ⊢
   unfold rngAt
   rw [num_fmt (by omega) (by omega) (fun c hc => (ht c hc).1)]
   dsimp only
   rw [if_neg]
   ·exact rngFin_ok (st := a) (c := 1) (by simp; omega) (by rw [hT]; exact hr)
   ·rw [List.getElem?_append_right (Nat.le_refl _), Nat.sub_self]
    cases t with
    | nil => simp
    | cons c r => simp; exact fun e => (ht c rfl).2 e
  ·rw [if_neg hn0, if_neg hn1] at hr
   have e1 : I0 a n ++ t = L9 (a + 1) ++ (44 :: (L9 n ++ t)) := by rw [hr]; simp
   have ed : (L9 (a + 1) ++ (44 :: (L9 n ++ t))).drop ((L9 (a + 1)).length + 1) = L9 n ++ t := by rw [List.drop_append]; simp
   have el : (L9 (a + 1)).length + 1 + (L9 n).length = (I0 a n).length := by rw [hr]; simp; omega
   have e4 : ((n.toNat : Nat) : Int) = n := by omega
   rw [e1] at hT ⊢
   unfold rngAt
   rw [num_fmt (by omega) (by omega) (by intro c hc; cases hc; exact hd44)]
   dsimp only
   rw [if_pos (by simp), ed, num_fmt (n := n) (by omega) (by omega) (fun c hc => (ht c hc).1)]
   dsimp only
   rw [el]
   have := rngFin_ok (s := L9 (a + 1) ++ (44 :: (L9 n ++ t))) (a := (a + 1).toNat) (c := n.toNat) (e := (I0 a n).length) (st := a) (by rw [if_pos (by omega)]; omega) (by rw [hT, e4])
   rw [this, e4]
def octV (a b c : UInt8) : Option UInt8 :=
 if ((((((a.toNat < 48 ∨ 55 < a.toNat) ∨ b.toNat < 48) ∨ 55 < b.toNat) ∨ c.toNat < 48) ∨ 55 < c.toNat) ∨ 256 ≤ 64 * (a.toNat - 48) + 8 * (b.toNat - 48) + (c.toNat - 48)) then none
 else some (UInt8.ofNat (64 * (a.toNat - 48) + 8 * (b.toNat - 48) + (c.toNat - 48)))
def escAt : Str → Option (UInt8 × Nat)
 | [] => none
 | d :: r => if d.toNat = 34 ∨ d.toNat = 92 then some (d, 1) else if d.toNat = 110 then some (10, 1) else if d.toNat = 116 then some (9, 1) else match r with
  | e :: f :: _ => (octV d e f).map fun x => (x, 3)
  | _ => none
theorem escAt_pos {s : Str} {x : UInt8} {k : Nat} (h : escAt s = some (x, k)) : 1 ≤ k ∧ k ≤ s.length := by
 cases s with
 | nil => cases h
 | cons d r =>
  simp only [escAt] at h
  split at h
  ·cases h; simp
  ·split at h
   ·cases h; simp
   ·split at h
    ·cases h; simp
    ·split at h
     ·simp only [Option.map_eq_some_iff] at h
      obtain ⟨_, _, h⟩ := h
      cases h; simp
     ·cases h
def M5 (s : Str) (i : Nat) (acc : Str) : Option (Str × Nat) :=
 if h : i < s.length then
  if s[i].toNat = 34 then some (acc, i + 1)
  else if s[i].toNat = 92 then (match he : escAt (s.drop (i + 1)) with | none => none | some (x, k) => M5 s (i + 1 + k) (acc ++ [x]))
  else M5 s (i + 1) (acc ++ [s[i]])
 else none
termination_by s.length - i
decreasing_by all_goals omega
def n9 (s : Str) : Option (Str × Nat) :=
 if s.head? = some 34 then (match M5 s 1 [] with | none => none | some (w, k) => if L5 w = s.take k then some (w, k) else none)
 else if s.takeWhile Q3 = [] then none else some (s.takeWhile Q3, (s.takeWhile Q3).length)
theorem wordGo_pos {s : Str} (n : Nat) : ∀ {i : Nat} {acc w : Str} {k : Nat}, s.length - i ≤ n → M5 s i acc = some (w, k) → i < k ∧ k ≤ s.length ∧ w.length + i ≤ acc.length + k := by
 induction n with
 | zero =>
  intro i acc w k hn h
  rw [M5, dif_neg (by omega)] at h; cases h
 | succ n ih =>
  intro i acc w k hn h
  rw [M5] at h
  split at h
  ·rename_i hi
   split at h
   ·cases h; omega
   ·split at h
    ·split at h
     ·cases h
     ·rename_i x k' he
      have h1 := escAt_pos he
      rw [List.length_drop] at h1
      have := ih (by omega) h
      rw [List.length_append] at this; simp only [List.length_cons, List.length_nil] at this; omega
    ·have := ih (by omega) h
     rw [List.length_append] at this; simp only [List.length_cons, List.length_nil] at this; omega
  ·cases h
theorem esc_step (c : UInt8) (pre r acc : Str) : M5 (pre ++ (O4 c ++ (r ++ [34]))) pre.length acc = M5 (pre ++ (O4 c ++ (r ++ [34]))) (pre.length + (O4 c).length) (acc ++ [c]) := by
 have hc := c.toNat_lt
 have hget : ∀ (d : UInt8) (l : Str), (pre ++ d :: l)[pre.length]? = some d := by intro d l; rw [List.getElem?_append_right (Nat.le_refl _), Nat.sub_self]; rfl
 have hdrop : ∀ (d : UInt8) (l : Str), (pre ++ d :: l).drop (pre.length + 1) = l := by intro d l; rw [List.drop_append]; simp
 have e92 : (92 : UInt8).toNat = 92 := rfl
 have e110 : (110 : UInt8).toNat = 110 := rfl
 have e116 : (116 : UInt8).toNat = 116 := rfl
 have key : ∀ (l : Str) (k : Nat), escAt (l ++ (r ++ [34])) = some (c, k) → k = l.length → M5 (pre ++ ((92 :: l) ++ (r ++ [34]))) pre.length acc = M5 (pre ++ ((92 :: l) ++ (r ++ [34]))) (pre.length + (92 :: l).length) (acc ++ [c]) := by
  intro l k hl hk
  subst hk
  rw [M5, dif_pos (by simp)]
  have hg : (pre ++ ((92 :: l) ++ (r ++ [34])))[pre.length]'(by simp) = 92 := by
   have := hget 92 (l ++ (r ++ [34]))
   rw [List.getElem?_eq_getElem (by simp)] at this
   exact Option.some.inj this
  rw [hg, if_neg (by decide), if_pos e92]
  have hd : (pre ++ ((92 :: l) ++ (r ++ [34]))).drop (pre.length + 1) = l ++ (r ++ [34]) := hdrop 92 _
  split
  ·rename_i he; rw [hd, hl] at he; cases he
  ·rename_i x k' he
   rw [hd, hl] at he; cases he
   rw [List.length_cons, show pre.length + 1 + l.length = pre.length + (l.length + 1) by omega]
 unfold O4
 split
 ·rename_i h
  refine key [c] 1 ?_ rfl
  simp only [List.cons_append, List.nil_append, escAt]
  rw [if_pos h]
 ·rename_i h
  split
  ·rename_i h1
   refine key [110] 1 ?_ rfl
   simp only [List.cons_append, List.nil_append, escAt]
   rw [if_neg (by decide), if_pos (by decide)]
   have : c = 10 := UInt8.toNat_inj.1 h1
   rw [this]
  ·rename_i h1
   split
   ·rename_i h2
    refine key [116] 1 ?_ rfl
    simp only [List.cons_append, List.nil_append, escAt]
    rw [if_neg (by decide), if_neg (by decide), if_pos (by decide)]
    have : c = 9 := UInt8.toNat_inj.1 h2
    rw [this]
   ·rename_i h2
    split
    ·rename_i h3
     refine key (octOf c) 3 ?_ (by rw [octOf_bytes]; rfl)
     rw [octOf_bytes]
     have t : ∀ k, k < 8 → (UInt8.ofNat (48 + k)).toNat = 48 + k := fun k hk => r8 k (by omega)
     have t1 := t (c.toNat / 64) (by omega)
     have t2 := t (c.toNat / 8 % 8) (by omega)
     have t3 := t (c.toNat % 8) (by omega)
     simp only [List.cons_append, List.nil_append, escAt]
     rw [t1, if_neg (by omega), if_neg (by omega), if_neg (by omega)]
     unfold octV
     rw [t1, t2, t3, if_neg (by omega)]
     simp only [Option.map_some, Option.some.injEq, Prod.mk.injEq, and_true]
     apply UInt8.toNat_inj.1
     rw [UInt8.toNat_ofNat']; omega
    ·rw [M5, dif_pos (by simp)]
     have hg : (pre ++ ([c] ++ (r ++ [34])))[pre.length]'(by simp) = c := by
      have := hget c (r ++ [34])
      rw [List.getElem?_eq_getElem (by simp)] at this
      exact Option.some.inj this
     rw [hg, if_neg (by omega), if_neg (by omega)]
     rfl
theorem word_go (w : Str) : ∀ (pre acc : Str), M5 (pre ++ ((w.map O4).flatten ++ [34])) pre.length acc = some (acc ++ w, (pre ++ ((w.map O4).flatten ++ [34])).length) := by
 induction w with
 | nil =>
  intro pre acc
  rw [M5, dif_pos (by simp)]
  have hg : (pre ++ ((([] : Str).map O4).flatten ++ [34]))[pre.length]'(by simp) = 34 := by simp
  rw [hg, if_pos (show (34 : UInt8).toNat = 34 from rfl)]; simp
 | cons c r ih =>
  intro pre acc
  have e : (((c :: r).map O4).flatten ++ [34]) = O4 c ++ ((r.map O4).flatten ++ [34]) := by simp
  rw [e, esc_step]
  have h1 := ih (pre ++ O4 c) (acc ++ [c])
  rw [List.append_assoc, List.length_append, List.append_assoc acc] at h1
  exact h1
theorem takeWhile_all {p : UInt8 → Bool} : ∀ {w : Str}, w.all p = true → w.takeWhile p = w
 | [], _ => rfl
 | c :: r, h => by
  simp only [List.all_cons, Bool.and_eq_true] at h
  rw [List.takeWhile_cons, if_pos h.1, takeWhile_all h.2]
theorem word_quote (w : Str) : n9 (L5 w) = some (w, (L5 w).length) := by
 unfold n9
 by_cases h : w ≠ [] ∧ w.all Q3 = true
 ·have e : L5 w = w := by unfold L5; rw [if_pos h]
  rw [e]
  have e2 : w.takeWhile Q3 = w := by
   exact takeWhile_all h.2
  rw [e2, if_neg, if_neg h.1]
  intro h34
  cases w with
  | nil => exact h.1 rfl
  | cons c r =>
   simp only [List.head?_cons, Option.some.injEq] at h34
   subst h34
   have := h.2
   simp only [List.all_cons, Bool.and_eq_true] at this
   exact absurd this.1 (by decide)
 ·have e : L5 w = [34] ++ ((w.map O4).flatten ++ [34]) := by unfold L5; rw [if_neg h]; rfl
  have e2 := word_go w [34] []
  rw [← e] at e2
  rw [if_pos (by rw [e]; rfl), show M5 (L5 w) 1 [] = _ from e2]
  dsimp only
  rw [List.nil_append, List.take_length, if_pos rfl]
end Go.AL
namespace Go.AL
open Go
def linesS (s : Str) : Option (List Str) := if s = [] then some [] else if ended s = true then some ((D8 s).map List.dropLast) else none
theorem linesAux_cut (a b cur : Str) (h : (10 : UInt8) ∉ a) : G4 cur (a ++ 10 :: b) = (cur ++ a ++ [10]) :: G4 [] b := by
 induction a generalizing cur with
 | nil => simp [G4]
 | cons c r ih =>
  simp only [List.mem_cons, not_or] at h
  rw [List.cons_append, c9, if_neg (fun e => h.1 e.symm), ih _ h.2]; simp
def R1 (ts : List Str) : Str := (ts.map fun t => t ++ [10]).flatten
theorem lines_withLf : ∀ (ts : List Str), (∀ t ∈ ts, (10 : UInt8) ∉ t) → D8 (R1 ts) = ts.map fun t => t ++ [10]
 | [], _ => rfl
 | t :: r, h => by
  have ih := lines_withLf r (fun x hx => h x (by simp [hx]))
  have e : R1 (t :: r) = t ++ 10 :: R1 r := by unfold R1; simp
  have h1 := linesAux_cut t (R1 r) [] (h t (by simp))
  unfold D8 at ih ⊢
  rw [e, h1, ih]; simp
theorem ended_app (a : Str) : ended (a ++ [10]) = true := by unfold ended; simp
theorem ended_iff {s : Str} : ended s = true ↔ ∃ a, s = a ++ [10] := by
 constructor
 ·intro h
  unfold ended at h
  have h : s.getLast? = some 10 := by simpa using h
  obtain ⟨ys, hy⟩ := List.getLast?_eq_some_iff.1 h
  exact ⟨ys, hy⟩
 ·rintro ⟨a, rfl⟩; exact ended_app a
theorem withLf_ended {ts : List Str} (h : ts ≠ []) : ended (R1 ts) = true := by
 have hl := List.dropLast_concat_getLast h
 rw [ended_iff]
 refine ⟨R1 ts.dropLast ++ ts.getLast h, ?_⟩
 conv => lhs; rw [← hl]
 unfold R1; simp
theorem linesS_with (ts : List Str) (h : ∀ t ∈ ts, (10 : UInt8) ∉ t) : linesS (R1 ts) = some ts := by
 unfold linesS
 by_cases hn : ts = []
 ·subst hn; rfl
 ·have he := withLf_ended hn
  have h0 : R1 ts ≠ [] := fun e => by rw [e] at he; cases he
  rw [if_neg h0, if_pos he, lines_withLf ts h, List.map_map]
  congr 1
  conv => rhs; rw [← List.map_id ts]
  refine List.map_congr_left fun t _ => ?_
  simp
def noNl : Str := [92, 32, 78, 111, 32, 110, 101, 119, 108, 105, 110, 101, 32, 97, 116, 32, 101, 110, 100, 32, 111, 102, 32, 102, 105, 108, 101]
theorem markS_eq : markS = [10] ++ noNl ++ [10] := rfl
def lineLs (x : PatchLine) : List Str := if ended x.Text = true then [x.Kind :: x.Text.dropLast] else [x.Kind :: x.Text, noNl]
def Y5 (h : PatchHunk) : Str := [64, 64, 32, 45] ++ I0 h.Old (J5 h) ++ [32, 43] ++ I0 h.New (L1 h) ++ [32, 64, 64]
def hunkLs (h : PatchHunk) : List Str := Y5 h :: (h.Lines.map lineLs).flatten
def patchLs (p : Patch) : List Str := ([45, 45, 45, 32] ++ L5 p.OldName) :: ([43, 43, 43, 32] ++ L5 p.NewName) :: (p.Hunks.map hunkLs).flatten
theorem withLf_app (a b : List Str) : R1 (a ++ b) = R1 a ++ R1 b := by unfold R1; simp
theorem withLf_cons (a : Str) (b : List Str) : R1 (a :: b) = a ++ [10] ++ R1 b := by unfold R1; simp
theorem lineLs_flat (x : PatchLine) : R1 (lineLs x) = (P2 x).flatten := by
 unfold lineLs P2
 by_cases h : ended x.Text = true
 ·rw [if_pos h, if_pos h]
  obtain ⟨a, ha⟩ := ended_iff.1 h
  rw [ha]; unfold R1; simp
 ·rw [if_neg h, if_neg h, markS_eq]; unfold R1; simp
theorem linesLs_flat (ls : List PatchLine) : R1 ((ls.map lineLs).flatten) = ((ls.map P2).flatten).flatten := by
 induction ls with
 | nil => rfl
 | cons x r ih => simp only [List.map_cons, List.flatten_cons, withLf_app, ih, lineLs_flat, List.flatten_append]
theorem hunkLs_flat (h : PatchHunk) : R1 (hunkLs h) = (S3 h).flatten := by
 unfold hunkLs S3
 rw [withLf_cons, linesLs_flat, List.flatten_cons]
 unfold Y5 U9; simp
theorem patchLs_flat (p : Patch) : R1 (patchLs p) = J6 p := by
 unfold patchLs J6 writePs Y3
 rw [withLf_cons, withLf_cons]
 have h : ∀ hs : List PatchHunk, R1 ((hs.map hunkLs).flatten) = ((hs.map S3).flatten).flatten := by
  intro hs
  induction hs with
  | nil => rfl
  | cons x r ih => simp only [List.map_cons, List.flatten_cons, withLf_app, ih, hunkLs_flat, List.flatten_append]
 rw [h]; simp
theorem digs_noLf {n : Int} (h0 : 0 ≤ n) (h1 : n ≤ 2147483647) : (10 : UInt8) ∉ L9 n := by
 rw [fmt_dec h0 h1]
 intro h
 have := (dec_digits n.toNat).1 _ h
 revert this; decide
theorem fmt_noLf (n : Int) : (10 : UInt8) ∉ L9 n := by
 by_cases h : n < 0 ∨ 2147483647 < n
 ·unfold L9; rw [if_pos h]; simp
 ·exact digs_noLf (by omega) (by omega)
theorem range_noLf (a n : Int) : (10 : UInt8) ∉ I0 a n := by
 have h1 := fmt_noLf a; have h2 := fmt_noLf (a + 1); have h3 := fmt_noLf n
 unfold I0
 split
 ·simp
 ·split
  ·simp [h1]
  ·split
   ·exact h2
   ·simp [h2, h3]
theorem esc_noLf (c : UInt8) : (10 : UInt8) ∉ O4 c := by
 have hc := c.toNat_lt
 have hn : ∀ {d : UInt8}, d.toNat ≠ 10 → (10 : UInt8) ≠ d := fun h e => h (by rw [← e]; rfl)
 unfold O4
 split
 ·rename_i h; simp only [List.mem_cons, List.not_mem_nil, or_false, not_or]; exact ⟨by decide, hn (by omega)⟩
 ·split
  ·decide
  ·split
   ·decide
   ·split
    ·rw [octOf_bytes]
     have t : ∀ k, k < 8 → (10 : UInt8) ≠ UInt8.ofNat (48 + k) := fun k hk => hn (by rw [r8 k (by omega)]; omega)
     simp only [List.mem_cons, List.not_mem_nil, or_false, not_or]
     exact ⟨by decide, t _ (by omega), t _ (by omega), t _ (by omega)⟩
    ·simp only [List.mem_cons, List.not_mem_nil, or_false]; exact hn (by omega)
theorem quote_noLf (w : Str) : (10 : UInt8) ∉ L5 w := by
 unfold L5
 split
 ·rename_i h
  intro hm
  have := List.all_eq_true.1 h.2 _ hm
  revert this; decide
 ·simp only [List.mem_cons, List.mem_append, List.mem_flatten, List.mem_map, List.not_mem_nil, or_false, not_or, not_exists, not_and]
  refine ⟨by decide, ?_, by decide⟩
  rintro l ⟨x, _, rfl⟩
  exact esc_noLf x
theorem line_noLf {x : PatchLine} (hg : O9 x = true) : ∀ t ∈ lineLs x, (10 : UInt8) ∉ t := by
 unfold O9 at hg
 have hg := A0 hg
 unfold badLn at hg
 have hk : x.Kind ≠ 10 := fun e => by rw [e] at hg; exact hg (.inl ⟨⟨by decide, by decide⟩, by decide⟩)
 have hl : K8 x.Text = true := by cases h : K8 x.Text <;> simp [h] at hg ⊢
 unfold K8 at hl
 simp only [Bool.and_eq_true] at hl
 have hd : (10 : UInt8) ∉ x.Text.dropLast := fun hm => by have := List.all_eq_true.1 hl.1 _ hm; simp at this
 intro t ht
 unfold lineLs at ht
 split at ht
 ·simp only [List.mem_cons, List.not_mem_nil, or_false] at ht
  subst ht
  simp only [List.mem_cons, not_or]; exact ⟨fun e => hk e.symm, hd⟩
 ·rename_i he
  simp only [List.mem_cons, List.not_mem_nil, or_false] at ht
  rcases ht with rfl | rfl
  ·simp only [List.mem_cons, not_or]
   refine ⟨fun e => hk e.symm, fun hm => ?_⟩
   have hne : x.Text ≠ [] := by intro e; rw [e] at hm; cases hm
   rw [← List.dropLast_concat_getLast hne] at hm
   rcases List.mem_append.1 hm with hm | hm
   ·exact hd hm
   ·simp only [List.mem_cons, List.not_mem_nil, or_false] at hm
    refine he (ended_iff.2 ⟨x.Text.dropLast, ?_⟩)
    conv => lhs; rw [← List.dropLast_concat_getLast hne]
    rw [hm]
  ·decide
theorem patch_noLf {p : Patch} (hg : P1 p.Hunks = true) : ∀ t ∈ patchLs p, (10 : UInt8) ∉ t := by
 have hl : ∀ (hs : List PatchHunk) (i j : Int), S7 i j hs = true → ∀ h ∈ hs, h.Lines.all O9 = true := by
  intro hs
  induction hs with
  | nil => intro i j _ h hm; cases hm
  | cons x r ih =>
   intro i j hg h hm
   simp only [S7, Bool.and_eq_true] at hg
   rcases List.mem_cons.1 hm with rfl | hm
   ·exact hg.1
   ·exact ih _ _ hg.2.2.2 h hm
 unfold P1 at hg
 rw [Bool.and_eq_true] at hg
 have hl := hl p.Hunks 0 0 hg.1
 intro t ht
 unfold patchLs at ht
 rcases List.mem_cons.1 ht with rfl | ht
 ·have := quote_noLf p.OldName; simp [this]
 ·rcases List.mem_cons.1 ht with rfl | ht
  ·have := quote_noLf p.NewName; simp [this]
  ·obtain ⟨l, hl1, hl2⟩ := List.mem_flatten.1 ht
   obtain ⟨h, hh, rfl⟩ := List.mem_map.1 hl1
   unfold hunkLs at hl2
   rcases List.mem_cons.1 hl2 with rfl | hl2
   ·have h1 := range_noLf h.Old (J5 h); have h2 := range_noLf h.New (L1 h)
    unfold Y5; simp [h1, h2]
   ·obtain ⟨l2, h3, h4⟩ := List.mem_flatten.1 hl2
    obtain ⟨x, hx, rfl⟩ := List.mem_map.1 h3
    exact line_noLf (List.all_eq_true.1 (hl h hh) x hx) t h4
def S8 (l pre : Str) : Option Str := if l.take pre.length = pre then (match n9 (l.drop pre.length) with | some (w, k) => if k = (l.drop pre.length).length then some w else none | none => none) else none
def Y6 (l : Str) (i : Nat) (pre : Str) : Option (Int × Int × Nat) := if (l.drop i).take pre.length = pre then (match rngAt (l.drop (i + pre.length)) with | none => none | some (a, n, e) => some (a, n, i + pre.length + e)) else none
def r9 (l : Str) : Option (Int × Int × Int × Int) :=
 match Y6 l 0 [64, 64, 32, 45] with
 | none => none
 | some (a, m, i) => match Y6 l i [32, 43] with
  | none => none
  | some (b, n, j) => if l.drop j = [32, 64, 64] then some (a, m, b, n) else none
theorem name_back (w pre : Str) : S8 (pre ++ L5 w) pre = some w := by
 unfold S8
 rw [if_pos List.take_left, List.drop_left, word_quote]
 dsimp only
 rw [if_pos rfl]
theorem head_back (h : PatchHunk) (h1 : 0 ≤ h.Old ∧ h.Old ≤ 4096) (h2 : 0 ≤ h.New ∧ h.New ≤ 4096) (h3 : J5 h ≤ 4096) (h4 : L1 h ≤ 4096) : r9 (Y5 h) = some (h.Old, J5 h, h.New, L1 h) := by
 have p1 : 0 ≤ J5 h := by unfold J5; omega
 have p2 : 0 ≤ L1 h := by unfold L1; omega
 have r1 := rng_range (a := h.Old) (n := J5 h) (t := [32, 43] ++ I0 h.New (L1 h) ++ [32, 64, 64]) (by omega) p1 (by omega) (by omega) (by intro c hc; cases hc; exact ⟨by decide, by decide⟩)
 have r2 := rng_range (a := h.New) (n := L1 h) (t := [32, 64, 64]) (by omega) p2 (by omega) (by omega) (by intro c hc; cases hc; exact ⟨by decide, by decide⟩)
 obtain ⟨x, hx⟩ : ∃ x, x = I0 h.Old (J5 h) := ⟨_, rfl⟩
 obtain ⟨y, hy⟩ : ∃ y, y = I0 h.New (L1 h) := ⟨_, rfl⟩
 have e : Y5 h = [64, 64, 32, 45] ++ (x ++ ([32, 43] ++ (y ++ [32, 64, 64]))) := by unfold Y5; rw [hx, hy]; simp
 rw [← hx, ← hy] at r1
 rw [← hy] at r2
 have t0 : ((Y5 h).drop 0).take 4 = [64, 64, 32, 45] := by rw [e]; rfl
 have d0 : (Y5 h).drop 4 = x ++ ([32, 43] ++ y ++ [32, 64, 64]) := by rw [e]; simp
 have s1 : Y6 (Y5 h) 0 [64, 64, 32, 45] = some (h.Old, J5 h, 4 + x.length) := by
  simp only [Y6, List.length_cons, List.length_nil, Nat.zero_add, Nat.reduceAdd]
  rw [if_pos t0, d0, r1]
 have d1 : (Y5 h).drop (4 + x.length) = [32, 43] ++ (y ++ [32, 64, 64]) := by
  rw [e, show 4 + x.length = (([64, 64, 32, 45] : Str) ++ x).length by simp; omega, ← List.append_assoc, List.drop_left]
 have t1 : ((Y5 h).drop (4 + x.length)).take 2 = [32, 43] := by rw [d1]; rfl
 have d3 : (Y5 h).drop (4 + x.length + 2) = y ++ [32, 64, 64] := by rw [← List.drop_drop, d1]; rfl
 have s2 : Y6 (Y5 h) (4 + x.length) [32, 43] = some (h.New, L1 h, 4 + x.length + 2 + y.length) := by
  simp only [Y6, List.length_cons, List.length_nil, Nat.zero_add, Nat.reduceAdd]
  rw [if_pos t1, d3, r2]
 have d2 : (Y5 h).drop (4 + x.length + 2 + y.length) = [32, 64, 64] := by
  rw [show 4 + x.length + 2 + y.length = 4 + x.length + (2 + y.length) by omega, ← List.drop_drop, d1, show 2 + y.length = (([32, 43] : Str) ++ y).length by simp; omega, ← List.append_assoc, List.drop_left]
 unfold r9
 rw [s1]; dsimp only
 rw [s2]; dsimp only
 rw [if_pos d2]
def trimS (t : Str) : Str := if ended t = true then t.dropLast else t
def addLine (hs : List PatchHunk) (x : PatchLine) : Option (List PatchHunk) := match hs.getLast? with
 | none => none
 | some h => some (hs.dropLast ++ [⟨h.Old, h.New, h.Lines ++ [x]⟩])
def cutLine (hs : List PatchHunk) (l : Str) : Option (List PatchHunk) := match hs.getLast? with
 | none => none
 | some h => match h.Lines.getLast? with
  | none => none
  | some x => if l = noNl then some (hs.dropLast ++ [⟨h.Old, h.New, h.Lines.dropLast ++ [⟨x.Kind, trimS x.Text⟩]⟩]) else none
def stepP (hs : List PatchHunk) (l : Str) : Option (List PatchHunk) := match l with
 | [] => none
 | c :: r => if c = 64 then (match r9 l with | none => none | some (a, _, b, _) => some (hs ++ [⟨a, b, []⟩]))
  else if c = 32 ∨ c = 45 ∨ c = 43 then addLine hs ⟨c, r ++ [10]⟩
  else if c = 92 then cutLine hs l else none
def Q5 (hs : List PatchHunk) : List Str → Option (List PatchHunk)
 | [] => some hs
 | x :: r => match stepP hs x with
  | none => none
  | some hs' => Q5 hs' r
def V9 (l : List Str) : Option Patch := match l with
 | a :: b :: r => (match S8 a [45, 45, 45, 32], S8 b [43, 43, 43, 32] with
  | some o, some n => (match Q5 [] r with | some hs => some ⟨o, n, hs⟩ | none => none)
  | _, _ => none)
 | _ => none
theorem step_line (hs : List PatchHunk) (o n : Int) (ls : List PatchLine) (x : PatchLine) (rest : List Str) (hg : O9 x = true) : Q5 (hs ++ [⟨o, n, ls⟩]) (lineLs x ++ rest) = Q5 (hs ++ [⟨o, n, ls ++ [x]⟩]) rest := by
 unfold O9 at hg
 have hg := A0 hg
 unfold badLn at hg
 have hk : x.Kind = 32 ∨ x.Kind = 45 ∨ x.Kind = 43 := by
  by_cases h1 : x.Kind = 32
  ·exact .inl h1
  ·by_cases h2 : x.Kind = 45
   ·exact .inr (.inl h2)
   ·by_cases h3 : x.Kind = 43
    ·exact .inr (.inr h3)
    ·exact absurd (.inl ⟨⟨h1, h2⟩, h3⟩) hg
 have h64 : x.Kind ≠ 64 := by rcases hk with h | h | h <;> rw [h] <;> decide
 have hadd : ∀ t : Str, stepP (hs ++ [⟨o, n, ls⟩]) (x.Kind :: t) = some (hs ++ [⟨o, n, ls ++ [⟨x.Kind, t ++ [10]⟩]⟩]) := by
  intro t
  simp only [stepP]
  rw [if_neg h64, if_pos hk]
  unfold addLine; simp
 unfold lineLs
 split
 ·rename_i he
  obtain ⟨a, ha⟩ := ended_iff.1 he
  rw [List.cons_append, List.nil_append, Q5, hadd]
  dsimp only
  rw [ha, List.dropLast_concat, ← ha]
 ·rename_i he
  rw [List.cons_append, Q5, hadd]
  dsimp only
  have h2 : stepP (hs ++ [⟨o, n, ls ++ [⟨x.Kind, x.Text ++ [10]⟩]⟩]) noNl = some (hs ++ [⟨o, n, ls ++ [x]⟩]) := by
   have : noNl = 92 :: [32, 78, 111, 32, 110, 101, 119, 108, 105, 110, 101, 32, 97, 116, 32, 101, 110, 100, 32, 111, 102, 32, 102, 105, 108, 101] := rfl
   rw [this]
   simp only [stepP]
   rw [if_neg (by decide), if_neg (by decide), if_pos (by decide)]
   unfold cutLine
   simp only [List.getLast?_append, List.getLast?_singleton, Option.some_or, List.dropLast_concat]
   rw [if_pos this.symm]
   unfold trimS
   rw [if_pos (ended_app _), List.dropLast_concat]
  rw [List.cons_append, List.nil_append, Q5, h2]
theorem step_lines (hs : List PatchHunk) (o n : Int) : ∀ (xs ls : List PatchLine) (rest : List Str), xs.all O9 = true → Q5 (hs ++ [⟨o, n, ls⟩]) ((xs.map lineLs).flatten ++ rest) = Q5 (hs ++ [⟨o, n, ls ++ xs⟩]) rest
 | [], ls, rest, _ => by simp
 | x :: r, ls, rest, hg => by
  simp only [List.all_cons, Bool.and_eq_true] at hg
  rw [List.map_cons, List.flatten_cons, List.append_assoc, step_line _ _ _ _ _ _ hg.1, step_lines hs o n r _ _ hg.2, List.append_assoc]; rfl
def HRead (h : PatchHunk) : Prop := h.Lines.all O9 = true ∧ (0 ≤ h.Old ∧ h.Old ≤ 4096) ∧ (0 ≤ h.New ∧ h.New ≤ 4096) ∧ J5 h ≤ 4096 ∧ L1 h ≤ 4096
theorem good_read : ∀ (hs : List PatchHunk) (i j : Int), S7 i j hs = true → 0 ≤ i → 0 ≤ j → ∀ h ∈ hs, HRead h
 | [], _, _, _, _, _, h, hm => by cases hm
 | x :: r, i, j, hg, hi, hj, h, hm => by
  have hr := y1 (x :: r) i j hg hi hj h hm
  simp only [S7, Bool.and_eq_true, decide_eq_true_eq] at hg
  obtain ⟨g1, g2, g3, g4⟩ := hg
  unfold P0 at g2
  have hx := y1 (x :: r) i j (by simp only [S7, Bool.and_eq_true, decide_eq_true_eq]; exact ⟨g1, by unfold P0; exact g2, g3, g4⟩) hi hj x (by simp)
  rcases List.mem_cons.1 hm with rfl | hm
  ·exact ⟨g1, hr.1, hr.2, by omega, by omega⟩
  ·exact good_read r _ _ g4 (by unfold J5; omega) (by unfold L1; omega) h hm
theorem fold_hunks : ∀ (xs hs : List PatchHunk), (∀ h ∈ xs, HRead h) → Q5 hs ((xs.map hunkLs).flatten) = some (hs ++ xs)
 | [], hs, _ => by simp [Q5]
 | h :: r, hs, hg => by
  obtain ⟨g1, g2, g3, g4, g5⟩ := hg h (by simp)
  have e : ((h :: r).map hunkLs).flatten = Y5 h :: ((h.Lines.map lineLs).flatten ++ (r.map hunkLs).flatten) := by simp [hunkLs]
  have hh := head_back h g2 g3 g4 g5
  have hs1 : stepP hs (Y5 h) = some (hs ++ [⟨h.Old, h.New, []⟩]) := by
   have : Y5 h = 64 :: ([64, 32, 45] ++ I0 h.Old (J5 h) ++ [32, 43] ++ I0 h.New (L1 h) ++ [32, 64, 64]) := rfl
   rw [this] at hh ⊢
   simp only [stepP]
   rw [if_pos trivial, hh]
  rw [e, Q5, hs1]
  dsimp only
  rw [step_lines _ _ _ _ _ _ g1, List.nil_append, fold_hunks r _ (fun x hx => hg x (by simp [hx])), List.append_assoc]; rfl
theorem parseP_back {p : Patch} (hg : P1 p.Hunks = true) : V9 (patchLs p) = some p := by
 unfold P1 at hg
 rw [Bool.and_eq_true] at hg
 unfold V9 patchLs
 simp only [name_back]
 rw [fold_hunks p.Hunks [] (good_read p.Hunks 0 0 hg.1 (by omega) (by omega))]
 rfl
def o4 (f : List Str → Option Patch) (s : Str) : Patch × Int :=
 if 16777216 < s.length then (K3, 1) else match linesS s with
 | none => (K3, 4)
 | some l => match f l with
  | none => (K3, 4)
  | some p => if F7 p ≠ 0 ∨ J6 p ≠ s then (K3, 4) else (p, 0)
theorem check12_good {p : Patch} (h : F7 p = 0) : P1 p.Hunks = true := by
 unfold F7 at h
 split at h
 ·cases h
 ·split at h
  ·cases h
  ·rename_i h1; simpa using h1
theorem strictBy_of {f : List Str → Option Patch} (hf : ∀ p : Patch, P1 p.Hunks = true → f (patchLs p) = some p) {p : Patch} (hc : F7 p = 0) : o4 f (J6 p) = (p, 0) := by
 have hg := check12_good hc
 have hl : linesS (J6 p) = some (patchLs p) := by rw [← patchLs_flat]; exact linesS_with _ (patch_noLf hg)
 have hs : ¬ 16777216 < (J6 p).length := by
  intro h; unfold F7 at hc
  split at hc
  ·cases hc
  ·split at hc
   ·cases hc
   ·first | (rw [if_pos h] at hc; cases hc) | (simp at hc)
 unfold o4
 rw [if_neg hs, hl]
 dsimp only
 rw [hf p hg]
 dsimp only
 rw [if_neg]
 simp [hc]
end Go.AL
namespace Go.AL
open Go
def awakeP : Patch := ⟨[120], [120], [⟨0, 0, [⟨32, [97, 10]⟩, ⟨45, [98]⟩, ⟨43, [99, 10]⟩]⟩]⟩
theorem awake_script : L4 [[97, 10], [98]] [[97, 10], [99, 10]] = [⟨1, 1, 1, 1⟩] := by
 have e : D1 [[[97, 10], [98]], [[97, 10], [99, 10]]] = [[97, 10], [98], [99, 10]] := by decide
 have e1 : F2 [[97, 10], [98], [99, 10]] [[97, 10], [98]] = [0, 1] := by decide
 have e2 : F2 [[97, 10], [98], [99, 10]] [[97, 10], [99, 10]] = [0, 2] := by decide
 unfold L4
 rw [e, e1, e2]
 simp [walkOf, H8, dist, p9, S0]
theorem writeOf_le (p : Patch) : (J6 p).length ≤ 4 * p.OldName.length + 4 * p.NewName.length + 14 + szP p.Hunks := by
 have h1 := l5 p
 have h2 := Z3 p.Hunks
 unfold J6 writePs
 rw [List.flatten_append, List.length_append]; omega
theorem awake_check : F7 awakeP = 0 := by
 have h1 := writeOf_le awakeP
 have h2 : 4 * awakeP.OldName.length + 4 * awakeP.NewName.length + 14 + szP awakeP.Hunks ≤ 1000 := by decide
 unfold F7
 rw [if_neg (by decide), if_neg (by decide), if_neg (by omega)]
theorem awake_make : make12 [120] [120] [97, 10, 98] [97, 10, 99, 10] 1 = (awakeP, 0) := by
 have e1 : F1 [97, 10, 98] = ([[97, 10], [98]], 0) := by decide
 have e2 : F1 [97, 10, 99, 10] = ([[97, 10], [99, 10]], 0) := by decide
 have e3 : M3 [⟨1, 1, 1, 1⟩] 2 2 1 = ([⟨0, 1, ⟨0, 2⟩, ⟨0, 2⟩⟩], 0) := by decide
 have e4 : K6 [[97, 10], [98]] [[97, 10], [99, 10]] 1 = awakeP.Hunks := by
  unfold K6
  rw [awake_script]
  show (M3 [⟨1, 1, 1, 1⟩] 2 2 1).1.map _ = _
  rw [e3]; decide
 have e5 : F7 ⟨[120], [120], awakeP.Hunks⟩ = 0 := awake_check
 unfold make12
 rw [if_neg (by decide), e1, e2]
 dsimp only
 rw [awake_script, e4, e5]
 show (if (0 : Int) ≠ 0 then _ else if (0 : Int) ≠ 0 then _ else if (M3 [⟨1, 1, 1, 1⟩] 2 2 1).2 ≠ 0 then _ else _) = _
 rw [e3]; rfl
theorem awake_apply : s7 awakeP [97, 10, 98] = ([97, 10, 99, 10], 0) ∧ (s7 awakeP [97, 10, 98, 10]) = ([], 140) := by
 unfold s7 fits14
 rw [awake_check]
 constructor <;> decide
end Go.AL
