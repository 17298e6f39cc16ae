/- Plain facts about data; no project text. -/
import Derived.Test.YtgejaedjnbjpoaaDoorD
import Derived.Lib.Strings
import Derived.Lib.Bytealg
import Derived.Lib.Join
import Derived.Lib.ItoaNum
import Derived.Test.YtgejaedjnbjpoaaDoorAn
namespace Go.AL
open Go
def linesAux (cur : Str) : Str → List Str
  | [] => if cur = [] then [] else [cur]
  | c :: r => if c = 10 then (cur ++ [c]) :: linesAux [] r else linesAux (cur ++ [c]) r
def linesOf (b : Str) : List Str := linesAux [] b
theorem linesAux_length (cur : Str) (s : Str) : (linesAux cur s).length ≤ s.length + 1 := by
  induction s generalizing cur with
  | nil => unfold linesAux; split <;> simp
  | cons c r ih => unfold linesAux; split <;> simp <;> (have := ih []; have := ih (cur ++ [c]); omega)
theorem linesAux_nil_length (s : Str) : (linesAux [] s).length ≤ s.length := by
  have key : ∀ (s cur : Str), cur ≠ [] → (linesAux cur s).length ≤ s.length + 1 := fun s cur _ => linesAux_length cur s
  induction s with
  | nil => simp [linesAux]
  | cons c r ih => unfold linesAux; split <;> simp <;> (have := linesAux_length ([] ++ [c]) r; simp at this; omega)
theorem linesOf_length (b : Str) : (linesOf b).length ≤ b.length := linesAux_nil_length b
theorem linesAux_step (cur r : Str) (c : UInt8) : linesAux cur (c :: r) = if c = 10 then (cur ++ [c]) :: linesAux [] r else linesAux (cur ++ [c]) r := rfl
theorem or_pick {p q : Prop} [Decidable p] [Decidable q] : (if decide p = true then true else decide q) = decide (p ∨ q) := by by_cases p <;> simp [*]
theorem and_pick {p q : Prop} [Decidable p] [Decidable q] : (if decide p = true then decide q else false) = decide (p ∧ q) := by by_cases p <;> simp [*]
def ended (s : Str) : Bool := s.getLast? == some 10
def lineOk (s : Str) : Bool := s.dropLast.all (· ≠ 10) && s != []
def listOk : List Str → Bool
  | [] => true
  | s :: r => lineOk s && (r.isEmpty || ended s) && listOk r
end Go.AL
namespace Go.AL
open Go
def madeGo (i j : Int) : List Span → Int → Int → List Change
  | [], m, n => if m > i ∨ n > j then [⟨i, m - i, j, n - j⟩] else []
  | x :: r, m, n => (if x.From > i ∨ x.To > j then [⟨i, x.From - i, j, x.To - j⟩] else []) ++ madeGo (x.From + 1) (x.To + 1) r m n
def spanRun (i j : Int) (n : Nat) : List Span := (List.range n).map fun (t : Nat) => ⟨i + (t : Int), j + (t : Int)⟩
def matchedGo (i j : Int) : List Change → Int → List Span
  | [], m => spanRun i j (m - i).toNat
  | c :: r, m => spanRun i j (c.Old - i).toNat ++ matchedGo (max i c.Old + c.OldLen) (j + (c.Old - i).toNat + c.NewLen) r m
def matchedOf (l : List Change) (m : Int) : List Span := matchedGo 0 0 l m
def dist : List Int → List Int → Nat
  | [], b => b.length
  | x :: a, [] => (x :: a).length
  | x :: a, y :: b => if x = y then dist a b else 1 + min (dist a (y :: b)) (dist (x :: a) b)
universe u
def Asc (m n : Int) : Int → Int → List Span → Prop
  | i, j, [] => i ≤ m ∧ j ≤ n
  | i, j, x :: r => i ≤ x.From ∧ j ≤ x.To ∧ Asc m n (x.From + 1) (x.To + 1) r
theorem Asc.le {m n : Int} : ∀ {p : List Span} {i j : Int}, Asc m n i j p → i ≤ m ∧ j ≤ n
  | [], i, j, h => h
  | x :: r, i, j, h => by have := Asc.le h.2.2; have := h.1; have := h.2.1; omega
theorem Asc.weaken {m n : Int} {p : List Span} {i j i' j' : Int} (h : Asc m n i j p) (hi : i' ≤ i) (hj : j' ≤ j) : Asc m n i' j' p := by
  cases p with
  | nil => exact ⟨by have := h.1; omega, by have := h.2; omega⟩
  | cons x r => exact ⟨by have := h.1; omega, by have := h.2.1; omega, h.2.2⟩
theorem Asc.made {m n : Int} : ∀ {p : List Span} {i j : Int}, Asc m n i j p → ∀ c ∈ madeGo i j p m n, i ≤ c.Old ∧ j ≤ c.New ∧ 0 ≤ c.OldLen ∧ 0 ≤ c.NewLen ∧ c.Old + c.OldLen ≤ m ∧ c.New + c.NewLen ≤ n
  | [], i, j, h, c, hc => by
    unfold madeGo at hc
    split at hc
    · simp only [List.mem_singleton] at hc; subst hc
      have := h.1; have := h.2
      simp only; omega
    · cases hc
  | x :: r, i, j, h, c, hc => by
    unfold madeGo at hc
    obtain ⟨h1, h2, h3⟩ := h
    have h4 := h3.le
    rcases List.mem_append.1 hc with hc | hc
    · split at hc
      · simp only [List.mem_singleton] at hc; subst hc
        simp only; omega
      · cases hc
    · have := Asc.made h3 c hc; omega
def orBit (a b : Int) : Int := IntKind.u32.wrap ((BitVec.ofInt IntKind.u32.bits a ||| BitVec.ofInt IntKind.u32.bits b).toNat : Int)
end Go.AL
namespace Go.AL
open Go
def bitAt (m : Int) (c : Nat) : Bool := m / 2 ^ c % 2 == 1
def visB (r : Row) (c : Int) : Bool := if c = -1 then !r.Lost else if c < -1 ∨ 32 ≤ c then false else bitAt r.Marks c.toNat == r.Lost
def colOf (rows : List Row) (c : Int) : List Str := (rows.filter (visB · c)).map (·.Text)
def markOk (n : Nat) (r : Row) : Bool := r.Marks / 2 ^ n == 0 && !(r.Lost && r.Marks == 0)
def marksOk (rows : List Row) (n : Nat) : Bool := rows.all (markOk n)
def textsOk (rows : List Row) (n : Nat) : Bool := rows.all (fun r => lineOk r.Text) && (List.range (n + 1)).all fun k => listOk (colOf rows ((k : Int) - 1))
theorem marksOk_cons (r : Row) (rs : List Row) (n : Nat) : marksOk (r :: rs) n = (markOk n r && marksOk rs n) := rfl
def rowsIn (rows : List Row) : Prop := ∀ r ∈ rows, 0 ≤ r.Marks ∧ r.Marks < 4294967296
def textsLen (rows : List Row) : Nat := (rows.map (·.Text)).flatten.length
theorem colOf_len (rows : List Row) (c : Int) : (colOf rows c).length ≤ rows.length := by unfold colOf; rw [List.length_map]; exact List.length_filter_le _ _
theorem text_len (rows : List Row) : ∀ r ∈ rows, r.Text.length ≤ textsLen rows := by
  intro r hr
  unfold textsLen
  exact (List.sublist_flatten_of_mem (List.mem_map_of_mem hr)).length_le
theorem and1_u32 (x : Int) (h : 0 ≤ x ∧ x < 4294967296) : IntKind.u32.wrap ((BitVec.ofInt IntKind.u32.bits x &&& BitVec.ofInt IntKind.u32.bits 1).toNat : Int) = x % 2 := by
  have h1 : (BitVec.ofInt IntKind.u32.bits x &&& BitVec.ofInt IntKind.u32.bits 1).toNat = x.toNat % 2 := by
    rw [BitVec.toNat_and, BitVec.toNat_ofInt, BitVec.toNat_ofInt]
    have e1 : (x % ((2 ^ IntKind.u32.bits : Nat) : Int)).toNat = x.toNat := by
      rw [show ((2 ^ IntKind.u32.bits : Nat) : Int) = 4294967296 by rfl]; omega
    have e2 : ((1 : Int) % ((2 ^ IntKind.u32.bits : Nat) : Int)).toNat = 1 := by rfl
    rw [e1, e2, Nat.and_one_is_mod]
  rw [h1]
  have h2 : IntKind.u32.wrap ((x.toNat % 2 : Nat) : Int) = ((x.toNat % 2 : Nat) : Int) := by
    simp [IntKind.wrap, IntKind.signed, IntKind.bits]; omega
  rw [h2]; omega
theorem shr32 (m c : Int) (hc : 0 ≤ c ∧ c ≤ 32) : m.fdiv (2 ^ (min c.toNat IntKind.u32.bits)) = m / 2 ^ c.toNat := by
  rw [show min c.toNat IntKind.u32.bits = c.toNat from Nat.min_eq_left (by show c.toNat ≤ 32; omega), Int.fdiv_eq_ediv_of_nonneg _ (Int.pow_nonneg (by decide))]
theorem shr_eq (m c : Int) (b : Nat) (hc : 0 ≤ c ∧ c ≤ b) : m.fdiv (2 ^ (min c.toNat b)) = m / 2 ^ c.toNat := by
  rw [show min c.toNat b = c.toNat by omega, Int.fdiv_eq_ediv_of_nonneg _ (Int.pow_nonneg (by decide))]
end Go.AL
namespace Go.AL
open Go
abbrev Loom := List Int × (Nat → List (List Int))
structure LoomOk (Q : Int → Prop) (B lines n : Nat) (s : Loom) : Prop where
  len : s.1.length = lines
  marks : ∀ m ∈ s.1, 0 ≤ m ∧ m < 4294967296
  gaps : ∀ k, (s.2 k).length = n ∧ ∀ x ∈ s.2 k, x.length ≤ B ∧ ∀ v ∈ x, Q v
end Go.AL
namespace Go.AL
open Go
theorem hasSuffix_lf (s : Str) : Lib.hasSuffix s [10] = ended s := by
  unfold Lib.hasSuffix ended
  rw [Bool.eq_iff_iff, List.isSuffixOf_iff_suffix, beq_iff_eq]
  constructor
  · rintro ⟨t, rfl⟩; simp
  · intro h
    obtain ⟨hne, h2⟩ := List.getLast?_eq_some_iff.1 h
    exact ⟨hne, h2.symm⟩
def bareOf (s : Str) : Str := if ended s then s.dropLast else s
theorem trimSuffix_lf (s : Str) : Lib.trimSuffix s [10] = bareOf s := by
  unfold Lib.trimSuffix bareOf
  rw [hasSuffix_lf, List.dropLast_eq_take]; rfl
theorem indexByte_first (c : UInt8) : ∀ l : Str, (c ∉ l ∧ Lib.indexByte l c = -1) ∨ ∃ a b, l = a ++ c :: b ∧ c ∉ a ∧ Lib.indexByte l c = a.length
  | [] => .inl ⟨by simp, rfl⟩
  | x :: l => by
    unfold Lib.indexByte
    by_cases hx : x = c
    · exact .inr ⟨[], l, by rw [hx]; rfl, by simp, by simp [hx]⟩
    · rcases indexByte_first c l with ⟨h1, h2⟩ | ⟨a, b, h1, h2, h3⟩
      · exact .inl ⟨by simp [h1, Ne.symm hx], by simp [hx, h2]⟩
      · refine .inr ⟨x :: a, b, by rw [h1]; rfl, by simp [h2, Ne.symm hx], ?_⟩
        have h4 : ¬ ((a.length : Int) = -1) := by omega
        simp [hx, h3, h4]
theorem indexByte_mem (c : UInt8) (l : Str) : 0 ≤ Lib.indexByte l c ↔ c ∈ l := by
  rcases indexByte_first c l with ⟨h1, h2⟩ | ⟨a, b, h1, h2, h3⟩
  · rw [h2]; simp [h1]
  · rw [h3, h1]; simp
theorem lineOk_iff (s : Str) : lineOk s = true ↔ s ≠ [] ∧ 10 ∉ s.dropLast := by
  unfold lineOk
  rw [Bool.and_eq_true, List.all_eq_true]
  constructor
  · rintro ⟨h1, h2⟩
    exact ⟨by simpa using h2, fun h => by have := h1 10 h; simp at this⟩
  · rintro ⟨h1, h2⟩
    exact ⟨fun x hx => by simpa using fun e : x = 10 => h2 (e ▸ hx), by simpa using h1⟩
theorem mem_bare (s : Str) : 10 ∈ bareOf s ↔ 10 ∈ s.dropLast := by
  unfold bareOf
  split
  · exact Iff.rfl
  · rename_i h
    by_cases hs : s = []
    · subst hs; simp
    · constructor
      · intro h2
        have e := (List.dropLast_concat_getLast hs).symm
        rw [e] at h2
        rcases List.mem_append.1 h2 with h3 | h3
        · exact h3
        · exfalso
          refine h ?_
          unfold ended
          rw [List.getLast?_eq_some_getLast hs]
          simp at h3; simp [← h3]
      · exact fun h2 => List.dropLast_subset s h2
theorem single_eq (s : Str) : (if decide (s ≠ []) = true then !decide (0 ≤ Lib.indexByte (bareOf s) 10) else false) = lineOk s := by
  rw [Bool.eq_iff_iff, lineOk_iff]
  have h := mem_bare s
  have h2 := indexByte_mem 10 (bareOf s)
  by_cases hs : s = []
  · simp [hs]
  · simp [hs, h2, h]
theorem listOk_cons (s : Str) (r : List Str) : listOk (s :: r) = (lineOk s && (r.isEmpty || ended s) && listOk r) := rfl
def and32 (a b : Int) : Int := IntKind.u32.wrap ((BitVec.ofInt IntKind.u32.bits a &&& BitVec.ofInt IntKind.u32.bits b).toNat : Int)
def not32 (a : Int) : Int := IntKind.u32.wrap ((BitVec.ofInt IntKind.u32.bits IntKind.u32.max ^^^ BitVec.ofInt IntKind.u32.bits a).toNat : Int)
theorem bitAt_nat (n c : Nat) : bitAt (n : Int) c = n.testBit c := by
  unfold bitAt
  rw [Nat.testBit_eq_decide_div_mod_eq]
  have : ((n : Int) / 2 ^ c % 2 == 1) = decide (n / 2 ^ c % 2 = 1) := by
    rw [Bool.eq_iff_iff, beq_iff_eq, decide_eq_true_iff]
    have e : (n : Int) / 2 ^ c % 2 = ((n / 2 ^ c % 2 : Nat) : Int) := by simp
    rw [e]; omega
  exact this
theorem u32_nat (n : Nat) (h : n < 4294967296) : IntKind.u32.wrap (n : Int) = n := by simp [IntKind.wrap, IntKind.signed, IntKind.bits]; omega
theorem bv_nat (n : Nat) : BitVec.ofInt IntKind.u32.bits (n : Int) = BitVec.ofNat 32 n := BitVec.ofInt_natCast 32 n
theorem and32_nat (n m : Nat) (hn : n < 4294967296) (hm : m < 4294967296) : and32 n m = ((n &&& m : Nat) : Int) := by
  unfold and32
  rw [bv_nat, bv_nat]
  have e : (BitVec.ofNat 32 n &&& BitVec.ofNat 32 m).toNat = n &&& m := by
    rw [BitVec.toNat_and, BitVec.toNat_ofNat, BitVec.toNat_ofNat, Nat.mod_eq_of_lt (by omega), Nat.mod_eq_of_lt (by omega)]
  have h2 : n &&& m < 2 ^ 32 := Nat.and_lt_two_pow n (by omega)
  show IntKind.u32.wrap ((BitVec.ofNat 32 n &&& BitVec.ofNat 32 m).toNat : Int) = _
  rw [e, u32_nat _ (by omega)]
theorem or32_nat (n m : Nat) (hn : n < 4294967296) (hm : m < 4294967296) : orBit n m = ((n ||| m : Nat) : Int) ∧ n ||| m < 4294967296 := by
  unfold orBit
  rw [bv_nat, bv_nat]
  have e : (BitVec.ofNat 32 n ||| BitVec.ofNat 32 m).toNat = n ||| m := by
    rw [BitVec.toNat_or, BitVec.toNat_ofNat, BitVec.toNat_ofNat, Nat.mod_eq_of_lt (by omega), Nat.mod_eq_of_lt (by omega)]
  have h2 : n ||| m < 2 ^ 32 := Nat.or_lt_two_pow (by omega) (by omega)
  refine ⟨?_, by omega⟩
  show IntKind.u32.wrap ((BitVec.ofNat 32 n ||| BitVec.ofNat 32 m).toNat : Int) = _
  rw [e, u32_nat _ (by omega)]
theorem not32_nat (n : Nat) (hn : n < 4294967296) : not32 n = ((4294967295 ^^^ n : Nat) : Int) ∧ 4294967295 ^^^ n < 4294967296 := by
  unfold not32
  rw [bv_nat, show IntKind.u32.max = ((4294967295 : Nat) : Int) from rfl, bv_nat]
  have e : (BitVec.ofNat 32 4294967295 ^^^ BitVec.ofNat 32 n).toNat = 4294967295 ^^^ n := by
    rw [BitVec.toNat_xor, BitVec.toNat_ofNat, BitVec.toNat_ofNat, Nat.mod_eq_of_lt (by omega), Nat.mod_eq_of_lt (by omega)]
  have h2 : 4294967295 ^^^ n < 2 ^ 32 := Nat.xor_lt_two_pow (by omega) (by omega)
  refine ⟨?_, by omega⟩
  show IntKind.u32.wrap ((BitVec.ofNat 32 4294967295 ^^^ BitVec.ofNat 32 n).toNat : Int) = _
  rw [e, u32_nat _ (by omega)]
theorem ones_bit (c : Nat) (h : c < 32) : (4294967295 : Nat).testBit c = true := by
  have : (4294967295 : Nat) = 2 ^ 32 - 1 := rfl
  rw [this, Nat.testBit_two_pow_sub_one]; simpa using h
def inOf (r : Row) : Int := if r.Lost then r.Marks else not32 r.Marks
def addOk (res : Bool) (par : Int) (r : Row) : Bool := decide (and32 par (inOf r) = 0) && (r.Lost || !res)
def addRes (res : Bool) (r : Row) : Bool := if ended r.Text then res else res || !r.Lost
def addPar (par : Int) (r : Row) : Int := if ended r.Text then par else orBit par (inOf r)
def addsOk : Bool → Int → List Row → Bool
  | _, _, [] => true
  | res, par, r :: rs => lineOk r.Text && addOk res par r && addsOk (addRes res r) (addPar par r) rs
theorem inOf_nat (r : Row) (hr : 0 ≤ r.Marks ∧ r.Marks < 4294967296) : ∃ m : Nat, m < 4294967296 ∧ inOf r = m ∧ ∀ c, c < 32 → m.testBit c = visB r c := by
  obtain ⟨k, hk⟩ : ∃ k : Nat, r.Marks = k := ⟨r.Marks.toNat, by omega⟩
  have hv : ∀ c : Nat, c < 32 → visB r c = (k.testBit c == r.Lost) := by
    intro c hc
    rw [visB, if_neg (by omega), if_neg (by omega), hk, Int.toNat_natCast, bitAt_nat]
  unfold inOf
  cases hl : r.Lost
  · have := not32_nat k (by omega)
    refine ⟨4294967295 ^^^ k, this.2, by rw [if_neg (by simp), hk]; exact this.1, fun c hc => ?_⟩
    rw [hv c hc, hl, Nat.testBit_xor, ones_bit c hc]
    cases k.testBit c <;> rfl
  · refine ⟨k, by omega, by rw [if_pos rfl]; exact hk, fun c hc => ?_⟩
    rw [hv c hc, hl]
    cases k.testBit c <;> rfl
theorem vis_result (r : Row) : visB r (-1) = !r.Lost := by rw [visB, if_pos rfl]
def listOkB : Bool → List Str → Bool
  | _, [] => true
  | b, s :: r => !b && lineOk s && listOkB (!ended s) r
theorem listOkB_true (l : List Str) : listOkB true l = l.isEmpty := by cases l <;> simp [listOkB]
theorem listOk_B (l : List Str) : listOk l = listOkB false l := by
  induction l with
  | nil => rfl
  | cons s r ih =>
    rw [listOk_cons, ih, listOkB]
    cases he : ended s
    · rw [show (!false) = true from rfl, listOkB_true]
      cases r <;> simp [listOkB]
    · simp
structure EndsAt (res : Bool) (par : Int) (bad : Int → Bool) : Prop where
  res : res = bad (-1)
  par : ∃ p : Nat, p < 4294967296 ∧ par = p ∧ ∀ c : Nat, c < 32 → p.testBit c = bad c
theorem and_zero (n m : Nat) (hm : m < 4294967296) : n &&& m = 0 ↔ ∀ c, c < 32 → m.testBit c = true → n.testBit c = false := by
  constructor
  · intro h c hc hm1
    have : (n &&& m).testBit c = false := by rw [h]; simp
    rw [Nat.testBit_and, hm1] at this
    simpa using this
  · intro h
    refine Nat.eq_of_testBit_eq fun c => ?_
    rw [Nat.testBit_and, Nat.zero_testBit]
    by_cases hc : c < 32
    · cases hm1 : m.testBit c
      · simp
      · rw [h c hc hm1]; rfl
    · have : m.testBit c = false := Nat.testBit_lt_two_pow (Nat.lt_of_lt_of_le (by omega : m < 2 ^ 32) (Nat.pow_le_pow_right (by omega) (by omega)))
      rw [this]; simp
theorem addOk_iff {res : Bool} {par : Int} {bad : Int → Bool} (h : EndsAt res par bad) (r : Row) (hr : 0 ≤ r.Marks ∧ r.Marks < 4294967296) : addOk res par r = true ↔ ∀ c : Int, -1 ≤ c → c < 32 → visB r c = true → bad c = false := by
  obtain ⟨m, hm, he, hb⟩ := inOf_nat r hr
  obtain ⟨p, hp, hpe, hpb⟩ := h.par
  unfold addOk
  rw [he, hpe, and32_nat p m hp hm, Bool.and_eq_true, decide_eq_true_iff, show (((p &&& m : Nat) : Int) = 0) ↔ p &&& m = 0 by omega, and_zero p m hm]
  constructor
  · rintro ⟨h1, h2⟩ c hc1 hc2 hv
    by_cases hc : c = -1
    · subst hc
      rw [vis_result] at hv
      rw [← h.res]
      simpa [show r.Lost = false by simpa using hv] using h2
    · obtain ⟨k, rfl⟩ : ∃ k : Nat, c = k := ⟨c.toNat, by omega⟩
      rw [← hpb k (by omega)]
      exact h1 k (by omega) (by rw [hb k (by omega)]; exact hv)
  · intro h1
    refine ⟨fun c hc hm1 => ?_, ?_⟩
    · rw [hpb c hc]
      exact h1 c (by omega) (by omega) (by rw [← hb c hc]; exact hm1)
    · cases hl : r.Lost
      · have := h1 (-1) (by omega) (by omega) (by rw [vis_result, hl]; rfl)
        rw [h.res, this]; rfl
      · rfl
theorem ends_step {res : Bool} {par : Int} {bad : Int → Bool} (h : EndsAt res par bad) (r : Row) (hr : 0 ≤ r.Marks ∧ r.Marks < 4294967296) : EndsAt (addRes res r) (addPar par r) (fun c => bad c || (visB r c && !ended r.Text)) := by
  obtain ⟨m, hm, he, hb⟩ := inOf_nat r hr
  obtain ⟨p, hp, hpe, hpb⟩ := h.par
  unfold addRes addPar
  cases hen : ended r.Text
  · have ho := or32_nat p m hp hm
    refine ⟨?_, p ||| m, ho.2, ?_, fun c hc => ?_⟩
    · rw [if_neg (by simp), h.res, vis_result]; simp
    · rw [if_neg (by simp), he, hpe]; exact ho.1
    · rw [Nat.testBit_or, hpb c hc, hb c hc]; simp
  · refine ⟨?_, p, hp, ?_, fun c hc => ?_⟩
    · rw [if_pos rfl, h.res]; simp
    · rw [if_pos rfl]; exact hpe
    · rw [hpb c hc]; simp
theorem colOf_cons (r : Row) (rs : List Row) (c : Int) : colOf (r :: rs) c = if visB r c then r.Text :: colOf rs c else colOf rs c := by
  unfold colOf
  cases hv : visB r c <;> simp [hv]
theorem addsOk_iff : ∀ (rows : List Row) (res : Bool) (par : Int) (bad : Int → Bool), EndsAt res par bad → rowsIn rows → (addsOk res par rows = true ↔ (∀ r ∈ rows, lineOk r.Text = true) ∧ ∀ c : Int, -1 ≤ c → c < 32 → listOkB (bad c) (colOf rows c) = true)
  | [], res, par, bad, _, _ => by simp [addsOk, colOf, listOkB]
  | r :: rs, res, par, bad, h, hr => by
    have hr1 := hr r (by simp)
    have ih := addsOk_iff rs _ _ _ (ends_step h r hr1) (fun x hx => hr x (by simp [hx]))
    rw [addsOk, Bool.and_eq_true, Bool.and_eq_true, addOk_iff h r hr1, ih]
    constructor
    · rintro ⟨⟨h1, h2⟩, h3, h4⟩
      refine ⟨fun x hx => ?_, fun c hc1 hc2 => ?_⟩
      · rcases List.mem_cons.1 hx with rfl | hx
        · exact h1
        · exact h3 x hx
      · have h5 := h4 c hc1 hc2
        rw [colOf_cons]
        cases hv : visB r c
        · rw [if_neg (by simp)]; simpa [hv] using h5
        · rw [if_pos rfl, listOkB, h2 c hc1 hc2 hv, h1]
          rw [h2 c hc1 hc2 hv, hv] at h5
          simpa using h5
    · rintro ⟨h1, h2⟩
      refine ⟨⟨h1 r (by simp), fun c hc1 hc2 hv => ?_⟩, fun x hx => h1 x (by simp [hx]), fun c hc1 hc2 => ?_⟩
      · have h3 := h2 c hc1 hc2
        rw [colOf_cons, hv, if_pos rfl, listOkB] at h3
        simp only [Bool.and_eq_true, Bool.not_eq_true'] at h3
        exact h3.1.1
      · have h3 := h2 c hc1 hc2
        rw [colOf_cons] at h3
        cases hv : visB r c
        · rw [hv, if_neg (by simp)] at h3; simpa using h3
        · rw [hv, if_pos rfl, listOkB] at h3
          simp only [Bool.and_eq_true, Bool.not_eq_true'] at h3
          rw [h3.1.1]; simpa using h3.2
theorem ends0 : EndsAt false 0 (fun _ => false) := ⟨rfl, 0, by omega, rfl, fun c _ => by simp⟩
theorem div_pow_zero (m : Int) (n c : Nat) (h0 : 0 ≤ m) (h : m / 2 ^ n = 0) (hc : n ≤ c) : bitAt m c = false := by
  obtain ⟨k, rfl⟩ : ∃ k : Nat, m = k := ⟨m.toNat, by omega⟩
  rw [bitAt_nat]
  have h1 : (k : Int) / 2 ^ n = ((k / 2 ^ n : Nat) : Int) := by simp
  rw [h1] at h
  have h2 : k / 2 ^ n = 0 := by omega
  have h3 : k < 2 ^ n := by
    rcases Nat.div_eq_zero_iff.1 h2 with h3 | h3
    · have := Nat.two_pow_pos n; omega
    · exact h3
  exact Nat.testBit_lt_two_pow (Nat.lt_of_lt_of_le h3 (Nat.pow_le_pow_right (by omega) hc))
theorem colOf_beyond (rows : List Row) (n : Nat) (hm : marksOk rows n = true) (hr : rowsIn rows) (c : Int) (h1 : (n : Int) ≤ c) (h2 : c < 32) : colOf rows c = colOf rows (-1) := by
  unfold colOf
  have : rows.filter (visB · c) = rows.filter (visB · (-1)) := by
    refine List.filter_congr fun r hmem => ?_
    have h3 : markOk n r = true := List.all_eq_true.1 hm r hmem
    unfold markOk at h3
    simp only [Bool.and_eq_true, beq_iff_eq] at h3
    have h4 := div_pow_zero r.Marks n c.toNat (hr r hmem).1 h3.1 (by omega)
    rw [vis_result, visB, if_neg (by omega), if_neg (by omega), h4]
    cases r.Lost <;> rfl
  rw [this]
theorem adds_texts (rows : List Row) (n : Nat) (hn : n ≤ 32) (hm : marksOk rows n = true) (hr : rowsIn rows) : addsOk false 0 rows = textsOk rows n := by
  rw [Bool.eq_iff_iff, addsOk_iff rows false 0 _ ends0 hr, textsOk, Bool.and_eq_true, List.all_eq_true, List.all_eq_true]
  refine and_congr Iff.rfl ?_
  constructor
  · intro h k hk
    have hk := List.mem_range.1 hk
    rw [listOk_B]
    exact h _ (by omega) (by omega)
  · intro h c hc1 hc2
    have key : ∀ c : Int, -1 ≤ c → c < n → listOkB false (colOf rows c) = true := by
      intro c h1 h2
      have := h (c + 1).toNat (List.mem_range.2 (by omega))
      rw [show (((c + 1).toNat : Nat) : Int) - 1 = c by omega, listOk_B] at this
      exact this
    by_cases hcn : c < n
    · exact key c hc1 hcn
    · rw [colOf_beyond rows n hm hr c (by omega) hc2]
      exact key (-1) (by omega) (by omega)
end Go.AL
namespace Go.AL
open Go
def plainB (c : UInt8) : Bool := decide (33 ≤ c.toNat ∧ c.toNat ≤ 126 ∧ c.toNat ≠ 34 ∧ c.toNat ≠ 92)
def digs8 : Str := [48, 49, 50, 51, 52, 53, 54, 55]
def octOf (c : UInt8) : Str := (digs8.drop (c.toNat / 64)).take 1 ++ (digs8.drop (c.toNat / 8 % 8)).take 1 ++ (digs8.drop (c.toNat % 8)).take 1
def escOf (c : UInt8) : Str := if c.toNat = 34 ∨ c.toNat = 92 then [92, c] else if c.toNat = 10 then [92, 110] else if c.toNat = 9 then [92, 116] else if c.toNat < 32 ∨ 126 < c.toNat then 92 :: octOf c else [c]
def quoteOf (s : Str) : Str := if s ≠ [] ∧ s.all plainB = true then s else 34 :: ((s.map escOf).flatten ++ [34])
theorem octOf_len (c : UInt8) : (octOf c).length ≤ 3 := by unfold octOf; simp only [List.length_append, List.length_take]; omega
theorem escOf_len (c : UInt8) : (escOf c).length ≤ 4 := by
  have := octOf_len c
  unfold escOf; split
  · simp
  · split
    · simp
    · split
      · simp
      · split
        · simp only [List.length_cons]; omega
        · simp
theorem esc_flat_len (s : Str) : ((s.map escOf).flatten).length ≤ 4 * s.length := by
  induction s with
  | nil => simp
  | cons c r ih => have := escOf_len c; simp only [List.map_cons, List.flatten_cons, List.length_append, List.length_cons]; omega
theorem quoteOf_len (s : Str) : (quoteOf s).length ≤ 4 * s.length + 2 := by
  unfold quoteOf; have := esc_flat_len s
  split
  · omega
  · simp only [List.length_cons, List.length_append, List.length_nil]; omega
def fmtOf (n : Int) : Str := if n < 0 ∨ 2147483647 < n then [] else Lib.itoa n
def rangeOf (a n : Int) : Str := if a < 0 ∨ n < 0 ∨ 2147483647 < a ∨ 2147483647 - a < n then [] else if n = 0 then fmtOf a ++ [44, 48] else if n = 1 then fmtOf (a + 1) else fmtOf (a + 1) ++ [44] ++ fmtOf n
theorem decDigits_len : ∀ (k u : Nat), u < 10 ^ (k + 1) → (Lib.decDigits u).length ≤ k + 1
  | 0, u, h => by rw [Lib.decDigits, dif_pos (by omega)]; simp
  | k + 1, u, h => by
    rw [Lib.decDigits]
    split
    · simp
    · have := decDigits_len k (u / 10) (by rw [Nat.div_lt_iff_lt_mul (by omega)]; rw [Nat.pow_succ] at h; omega)
      simp only [List.length_append, List.length_cons, List.length_nil]; omega
theorem fmtOf_len (n : Int) : (fmtOf n).length ≤ 10 := by
  unfold fmtOf; split
  · simp
  · unfold Lib.itoa
    rw [if_neg (by omega)]
    exact decDigits_len 9 n.toNat (by omega)
theorem rangeOf_len (a n : Int) : (rangeOf a n).length ≤ 21 := by
  have := fmtOf_len a; have := fmtOf_len (a + 1); have := fmtOf_len n
  unfold rangeOf
  split
  · simp
  · split
    · simp only [List.length_append, List.length_cons, List.length_nil]; omega
    · split
      · omega
      · simp only [List.length_append, List.length_cons, List.length_nil]; omega
theorem dig8 (k : Nat) (h : k < 8) : (digs8.drop k).take 1 = [UInt8.ofNat (48 + k)] := by
  have : ∀ k : Fin 8, (digs8.drop k.1).take 1 = [UInt8.ofNat (48 + k.1)] := by decide
  exact this ⟨k, h⟩
theorem octOf_bytes (c : UInt8) : octOf c = [UInt8.ofNat (48 + c.toNat / 64), UInt8.ofNat (48 + c.toNat / 8 % 8), UInt8.ofNat (48 + c.toNat % 8)] := by
  have := c.toNat_lt
  unfold octOf
  rw [dig8 _ (by omega), dig8 _ (by omega), dig8 _ (by omega)]; rfl
def escs (s : Str) (i : Nat) : Str := ((s.take i).map escOf).flatten
theorem escs_succ (s : Str) (i : Nat) (h : i < s.length) : escs s (i + 1) = escs s i ++ escOf s[i] := by
  unfold escs; rw [List.take_succ_eq_append_getElem h, List.map_append, List.flatten_append]; simp only [List.map_cons, List.map_nil, List.flatten_cons, List.flatten_nil, List.append_nil]
theorem escs_len (s : Str) (i : Nat) (h : i ≤ s.length) : (escs s i).length ≤ 4 * i := by
  have := esc_flat_len (s.take i); unfold escs; rw [List.length_take] at this; omega
def plains (s : Str) (i : Nat) : Bool := decide (s ≠ []) && (s.take i).all plainB
theorem plains_zero (s : Str) : plains s 0 = decide (s ≠ []) := by simp [plains]
theorem plains_succ (s : Str) (i : Nat) (h : i < s.length) : plains s (i + 1) = (plains s i && plainB s[i]) := by
  unfold plains; rw [List.take_succ_eq_append_getElem h, List.all_append]; simp only [List.all_cons, List.all_nil, Bool.and_true, Bool.and_assoc]
theorem quoteOf_eq (s : Str) : quoteOf s = if plains s s.length = true then s else (34 :: escs s s.length) ++ [34] := by
  unfold quoteOf plains escs
  rw [List.take_length]
  simp only [Bool.and_eq_true, decide_eq_true_eq, List.cons_append]
end Go.AL
namespace Go.AL
open Go
theorem linesAux_count (s cur : Str) : (linesAux cur s).length = s.count 10 + if s = [] then (if cur = [] then 0 else 1) else if ended s = true then 0 else 1 := by
  induction s generalizing cur with
  | nil => by_cases h : cur = [] <;> simp [linesAux, h]
  | cons c r ih =>
    have he : ended (c :: r) = if r = [] then c == 10 else ended r := by
      cases r with
      | nil => simp [ended]
      | cons d t => simp [ended, List.getLast?_cons_cons]
    rw [linesAux, if_neg (List.cons_ne_nil _ _), he]
    by_cases hc : c = 10
    · subst hc
      rw [if_pos rfl, List.length_cons, ih, List.count_cons_self]
      by_cases hr : r = [] <;> simp [hr]
      omega
    · rw [if_neg hc, ih, List.count_cons_of_ne hc]
      by_cases hr : r = [] <;> simp [hr, hc]
theorem linesOf_count (s : Str) : (linesOf s).length = s.count 10 + if s ≠ [] ∧ ended s = false then 1 else 0 := by
  unfold linesOf
  rw [linesAux_count]
  by_cases hs : s = [] <;> simp [hs]
  cases ended s <;> simp
theorem fill_step {α : Type} (P : List α) (z x : α) (i : Nat) (h : P[i]? = some x) : (P.take i ++ List.replicate (P.length - i) z).set i x = P.take (i + 1) ++ List.replicate (P.length - (i + 1)) z := by
  obtain ⟨hi, hx⟩ := List.getElem?_eq_some_iff.1 h
  have hl : (P.take i).length = i := by rw [List.length_take]; omega
  rw [List.set_append_right _ _ (by omega), hl, Nat.sub_self, show P.length - i = (P.length - (i + 1)) + 1 by omega, List.replicate_succ, List.set_cons_zero, List.take_succ_eq_append_getElem hi, hx, List.append_assoc]
  rfl
end Go.AL
namespace Go.AL
open Go
def in81 (n : Int) : Prop := 0 ≤ n ∧ n ≤ 4096
instance (n : Int) : Decidable (in81 n) := by unfold in81; exact inferInstance
def badC (k : Nat) (i j : Int) (c : Change) : Prop := ((((((¬ in81 c.Old ∨ ¬ in81 c.OldLen) ∨ ¬ in81 c.New) ∨ ¬ in81 c.NewLen) ∨ c.OldLen + c.NewLen = 0) ∨ c.Old - i ≠ c.New - j) ∨ c.Old < i) ∨ (0 < (k : Int) ∧ c.Old = i)
instance (k : Nat) (i j : Int) (c : Change) : Decidable (badC k i j c) := by unfold badC; exact inferInstance
def scriptGo (k : Nat) (i j : Int) : List Change → Int → Int → Bool
  | [], m, n => decide (¬ (m - i ≠ n - j ∨ m < i))
  | c :: r, m, n => decide (¬ badC k i j c) && scriptGo (k + 1) (c.Old + c.OldLen) (c.New + c.NewLen) r m n
def check8 (l : List Change) (m n : Int) : Int := if ¬ in81 m ∨ ¬ in81 n then 80 else if scriptGo 0 0 0 l m n = true then 0 else 80
def ScOk (i j : Int) : List Change → Int → Int → Prop
  | [], m, n => i ≤ m ∧ j ≤ n
  | c :: r, m, n => in81 c.Old ∧ in81 c.OldLen ∧ in81 c.New ∧ in81 c.NewLen ∧ i ≤ c.Old ∧ j ≤ c.New ∧ ScOk (c.Old + c.OldLen) (c.New + c.NewLen) r m n
theorem scriptGo_ok : ∀ (l : List Change) (k : Nat) (i j m n : Int), scriptGo k i j l m n = true → ScOk i j l m n
  | [], k, i, j, m, n, h => by simp only [scriptGo, decide_eq_true_eq] at h; simp only [ScOk]; omega
  | c :: r, k, i, j, m, n, h => by
    simp only [scriptGo, Bool.and_eq_true, decide_eq_true_eq] at h
    obtain ⟨h1, h2⟩ := h
    unfold badC at h1
    refine ⟨?_, ?_, ?_, ?_, ?_, ?_, scriptGo_ok r _ _ _ m n h2⟩
    all_goals (by_cases a1 : in81 c.Old <;> by_cases a2 : in81 c.OldLen <;> by_cases a3 : in81 c.New <;> by_cases a4 : in81 c.NewLen <;> simp [a1, a2, a3, a4] at h1 ⊢ <;> omega)
def cAt (l : List Change) (k : Nat) : Change := l.getD k ⟨0, 0, 0, 0⟩
theorem ScOk.end_le : ∀ {l : List Change} {i j m n : Int}, ScOk i j l m n → i ≤ m ∧ j ≤ n
  | [], _, _, _, _, h => h
  | c :: r, i, j, m, n, ⟨h1, h2, h3, h4, h5, h6, h7⟩ => by have := h7.end_le; unfold in81 at *; omega
theorem ScOk.get : ∀ {l : List Change} {i j m n : Int} (k : Nat), ScOk i j l m n → k < l.length → in81 (cAt l k).Old ∧ in81 (cAt l k).OldLen ∧ in81 (cAt l k).New ∧ in81 (cAt l k).NewLen ∧ (cAt l k).Old + (cAt l k).OldLen ≤ m ∧ (cAt l k).New + (cAt l k).NewLen ≤ n
  | c :: r, i, j, m, n, 0, ⟨h1, h2, h3, h4, h5, h6, h7⟩, _ => by have := h7.end_le; exact ⟨h1, h2, h3, h4, this.1, this.2⟩
  | c :: r, i, j, m, n, k + 1, ⟨h1, h2, h3, h4, h5, h6, h7⟩, hk => by
    have := h7.get k (by simpa using hk)
    simpa [cAt] using this
theorem ScOk.next : ∀ {l : List Change} {i j m n : Int} (k : Nat), ScOk i j l m n → k + 1 < l.length → (cAt l k).Old + (cAt l k).OldLen ≤ (cAt l (k + 1)).Old
  | [c], _, _, _, _, _, _, hk => by simp at hk
  | c :: c2 :: r, i, j, m, n, 0, ⟨_, _, _, _, _, _, h7⟩, _ => by simpa [cAt] using h7.2.2.2.2.1
  | c :: c2 :: r, i, j, m, n, k + 1, ⟨_, _, _, _, _, _, h7⟩, hk => by
    have := h7.next k (by simpa using hk)
    simpa [cAt] using this
theorem ScOk.mono {l : List Change} {m n : Int} (h : ScOk 0 0 l m n) : ∀ (a b : Nat), a ≤ b → b < l.length → (cAt l a).Old ≤ (cAt l b).Old ∧ (cAt l a).Old + (cAt l a).OldLen ≤ (cAt l b).Old + (cAt l b).OldLen
  | a, 0, h1, h2 => by rw [show a = 0 by omega]; omega
  | a, b + 1, h1, h2 => by
    by_cases hab : a = b + 1
    · subst hab; omega
    · have h3 := h.mono a b (by omega) (by omega)
      have h4 := h.next b h2
      have h5 := h.get b (by omega)
      have h6 := h.get (b + 1) h2
      unfold in81 at *; omega
def minI (a b : Int) : Int := if b < a then b else a
def opens (l : List Change) (ctx : Int) (k : Nat) : Prop := k = 0 ∨ 2 * ctx < (cAt l k).Old - (cAt l (k - 1)).Old - (cAt l (k - 1)).OldLen
instance (l : List Change) (ctx : Int) (k : Nat) : Decidable (opens l ctx k) := by unfold opens; exact inferInstance
def hunk0 : Hunk := ⟨0, 0, ⟨0, 0⟩, ⟨0, 0⟩⟩
def hunkOpen (l : List Change) (ctx : Int) (k : Nat) : Hunk := ⟨k, 0, ⟨(cAt l k).Old - minI ctx (cAt l k).Old, 0⟩, ⟨(cAt l k).New - minI ctx (cAt l k).Old, 0⟩⟩
def hunkEnd (l : List Change) (m ctx : Int) (k : Nat) (h : Hunk) : Hunk :=
  let c := cAt l k
  let a := minI ctx (m - (c.Old + c.OldLen))
  ⟨h.First, k + 1, ⟨h.Old.From, c.Old + c.OldLen + a⟩, ⟨h.New.From, c.New + c.NewLen + a⟩⟩
def groupOpen (l : List Change) (ctx : Int) (k : Nat) (out : List Hunk) : List Hunk := if opens l ctx k then out ++ [hunkOpen l ctx k] else out
def groupTo (l : List Change) (m ctx : Int) : Nat → List Hunk
  | 0 => []
  | k + 1 => let out := groupOpen l ctx k (groupTo l m ctx k); out.set (out.length - 1) (hunkEnd l m ctx k (out.getD (out.length - 1) hunk0))
theorem groupTo_len (l : List Change) (m ctx : Int) : ∀ k, (groupTo l m ctx k).length ≤ k ∧ (0 < k → 0 < (groupTo l m ctx k).length)
  | 0 => by simp [groupTo]
  | k + 1 => by
    have h := groupTo_len l m ctx k
    simp only [groupTo, List.length_set, groupOpen]
    split
    · simp only [List.length_append, List.length_cons, List.length_nil]; omega
    · rename_i ho
      have : k ≠ 0 := fun e => ho (.inl e)
      omega
end Go.AL
namespace Go.AL
open Go
def nameOk (s : Str) : Bool := decide (1 ≤ s.length ∧ s.length ≤ 200)
def linesNot (ls : List PatchLine) (k : UInt8) : List Str := (ls.filter (fun x => decide (x.Kind ≠ k))).map (·.Text)
def badLn (x : PatchLine) : Prop := ((x.Kind ≠ 32 ∧ x.Kind ≠ 45) ∧ x.Kind ≠ 43) ∨ lineOk x.Text = false
instance (x : PatchLine) : Decidable (badLn x) := by unfold badLn; exact inferInstance
def goodLn (x : PatchLine) : Bool := decide (¬ badLn x)
def someCh (ls : List PatchLine) : Bool := ls.any (fun x => decide (x.Kind ≠ 32))
def offPlace (some : Bool) (i j : Int) (h : PatchHunk) : Prop := ((((some = false ∨ h.Old < i) ∨ h.New < j) ∨ 4096 < h.Old) ∨ 4096 < h.New) ∨ h.Old - i ≠ h.New - j
instance (s : Bool) (i j : Int) (h : PatchHunk) : Decidable (offPlace s i j h) := by unfold offPlace; exact inferInstance
def oldN (h : PatchHunk) : Int := (linesNot h.Lines 43).length
def newN (h : PatchHunk) : Int := (linesNot h.Lines 45).length
def goodGo (i j : Int) : List PatchHunk → Bool
  | [] => true
  | h :: r => h.Lines.all goodLn && (decide (¬ offPlace (someCh h.Lines) i j h) && (decide (¬ (4096 < h.Old + oldN h ∨ 4096 < h.New + newN h)) && goodGo (h.Old + oldN h) (h.New + newN h) r))
def sideLines (hs : List PatchHunk) (k : UInt8) : List Str := (hs.map (fun h => linesNot h.Lines k)).flatten
def endedBut : List Str → Bool
  | [] => true
  | x :: r => (r.isEmpty || ended x) && endedBut r
def sideOk (hs : List PatchHunk) (k : UInt8) : Bool := endedBut (sideLines hs k)
def goodOf (hs : List PatchHunk) : Bool := goodGo 0 0 hs && (sideOk hs 43 && sideOk hs 45)
def markS : Str := [10, 92, 32, 78, 111, 32, 110, 101, 119, 108, 105, 110, 101, 32, 97, 116, 32, 101, 110, 100, 32, 111, 102, 32, 102, 105, 108, 101, 10]
def linePs (x : PatchLine) : List Str := if ended x.Text then [[x.Kind] ++ x.Text] else [[x.Kind] ++ x.Text, markS]
def headW (h : PatchHunk) : Str := [64, 64, 32, 45] ++ rangeOf h.Old (oldN h) ++ [32, 43] ++ rangeOf h.New (newN h) ++ [32, 64, 64, 10]
def hunkPs (h : PatchHunk) : List Str := headW h :: (h.Lines.map linePs).flatten
def namePs (p : Patch) : List Str := [[45, 45, 45, 32] ++ quoteOf p.OldName ++ [10], [43, 43, 43, 32] ++ quoteOf p.NewName ++ [10]]
def writePs (p : Patch) : List Str := namePs p ++ (p.Hunks.map hunkPs).flatten
def writeOf (p : Patch) : Str := (writePs p).flatten
def check12 (p : Patch) : Int := if nameOk p.OldName = false ∨ nameOk p.NewName = false then 120 else if goodOf p.Hunks = false then 121 else if 16777216 < (writeOf p).length then 1 else 0
def szL (x : PatchLine) : Nat := x.Text.length + 64
def szH (h : PatchHunk) : Nat := 64 + (h.Lines.map szL).sum
def szP (hs : List PatchHunk) : Nat := (hs.map szH).sum
structure PFit (p : Patch) : Prop where
  old : p.OldName.length ≤ 4194304
  new : p.NewName.length ≤ 4194304
  hunks : szP p.Hunks ≤ 268435456
theorem szL_len (ls : List PatchLine) : 64 * ls.length ≤ (ls.map szL).sum := by
  induction ls with
  | nil => simp
  | cons x r ih => simp only [List.map_cons, List.sum_cons, List.length_cons, szL]; omega
end Go.AL
namespace Go.AL
open Go
def putOf (k : UInt8) (ts : List Str) : List PatchLine := ts.map fun t => ⟨k, t⟩
def sub (x : List Str) (a b : Int) : List Str := (x.drop a.toNat).take (b.toNat - a.toNat)
def endC (c : Change) : Int := c.Old + c.OldLen
def posTo (l : List Change) (i0 : Int) (a t : Nat) : Int := if t = 0 then i0 else endC (cAt l (a + t - 1))
theorem posTo_succ (l : List Change) (i0 : Int) (a t : Nat) : posTo l i0 a (t + 1) = endC (cAt l (a + t)) := by
  unfold posTo; rw [if_neg (by omega)]; congr 2
def madeTo (l : List Change) (x y : List Str) (i0 : Int) (a : Nat) : Nat → List PatchLine
  | 0 => []
  | t + 1 => madeTo l x y i0 a t ++ putOf 32 (sub x (posTo l i0 a t) (cAt l (a + t)).Old) ++ putOf 45 (sub x (cAt l (a + t)).Old (endC (cAt l (a + t)))) ++ putOf 43 (sub y (cAt l (a + t)).New ((cAt l (a + t)).New + (cAt l (a + t)).NewLen))
def hunkOfG (l : List Change) (x y : List Str) (h : Hunk) : PatchHunk :=
  ⟨h.Old.From, h.New.From, madeTo l x y h.Old.From h.First.toNat (h.Last.toNat - h.First.toNat) ++ putOf 32 (sub x (posTo l h.Old.From h.First.toNat (h.Last.toNat - h.First.toNat)) h.Old.To)⟩
end Go.AL
namespace Go.AL
open Go
end Go.AL
namespace Go.AL
open Go
def badPlace (i j : Int) (h : PatchHunk) : Prop := ((((h.Old < 0 ∨ h.New < 0) ∨ 4096 < h.Old) ∨ 4096 < h.New) ∨ h.Old < i) ∨ h.Old - i ≠ h.New - j
instance (i j : Int) (h : PatchHunk) : Decidable (badPlace i j h) := by unfold badPlace; exact inferInstance
end Go.AL
namespace Go.AL
open Go
end Go.AL
namespace Go.AL
open Go
theorem sub_mem {x : List Str} {a b : Int} {s : Str} (h : s ∈ sub x a b) : s ∈ x := by
  unfold sub at h
  exact List.mem_of_mem_drop (List.mem_of_mem_take h)
end Go.AL
namespace Go.AL
open Go
def endN (c : Change) : Int := c.New + c.NewLen
def eoI (i : Int) (l : List Change) (k : Nat) : Int := if k = 0 then i else endC (cAt l (k - 1))
def enI (j : Int) (l : List Change) (k : Nat) : Int := if k = 0 then j else endN (cAt l (k - 1))
theorem eoI_cons (i : Int) (c : Change) (r : List Change) (k : Nat) : eoI i (c :: r) (k + 1) = eoI (endC c) r k := by
  cases k <;> rfl
theorem enI_cons (j : Int) (c : Change) (r : List Change) (k : Nat) : enI j (c :: r) (k + 1) = enI (endN c) r k := by
  cases k <;> rfl
theorem eoI_succ (i : Int) (l : List Change) (k : Nat) : eoI i l (k + 1) = endC (cAt l k) := rfl
theorem enI_succ (j : Int) (l : List Change) (k : Nat) : enI j l (k + 1) = endN (cAt l k) := rfl
theorem cAt_cons (c : Change) (r : List Change) (k : Nat) : cAt (c :: r) (k + 1) = cAt r k := rfl
def EqRuns (x y : List Str) (i j : Int) : List Change → Prop
  | [] => sub x i x.length = sub y j y.length
  | c :: r => sub x i c.Old = sub y j c.New ∧ EqRuns x y (endC c) (endN c) r
theorem sc_get (m n : Int) : ∀ (l : List Change) (k0 : Nat) (i j : Int), scriptGo k0 i j l m n = true → ∀ k, k < l.length →
    in81 (cAt l k).Old ∧ in81 (cAt l k).OldLen ∧ in81 (cAt l k).New ∧ in81 (cAt l k).NewLen ∧ (cAt l k).OldLen + (cAt l k).NewLen ≠ 0 ∧ (cAt l k).Old - eoI i l k = (cAt l k).New - enI j l k ∧ eoI i l k ≤ (cAt l k).Old ∧ (0 < k0 + k → eoI i l k < (cAt l k).Old)
  | [], _, _, _, _, k, hk => by simp at hk
  | c :: r, k0, i, j, h, k, hk => by
    simp only [scriptGo, Bool.and_eq_true, decide_eq_true_eq] at h
    obtain ⟨h1, h2⟩ := h
    cases k with
    | zero =>
      unfold badC at h1
      show in81 c.Old ∧ in81 c.OldLen ∧ in81 c.New ∧ in81 c.NewLen ∧ c.OldLen + c.NewLen ≠ 0 ∧ c.Old - i = c.New - j ∧ i ≤ c.Old ∧ (0 < k0 + 0 → i < c.Old)
      have d1 : in81 c.Old := by by_cases q : in81 c.Old; exact q; exact absurd (.inl (.inl (.inl (.inl (.inl (.inl (.inl q))))))) h1
      have d2 : in81 c.OldLen := by by_cases q : in81 c.OldLen; exact q; exact absurd (.inl (.inl (.inl (.inl (.inl (.inl (.inr q))))))) h1
      have d3 : in81 c.New := by by_cases q : in81 c.New; exact q; exact absurd (.inl (.inl (.inl (.inl (.inl (.inr q)))))) h1
      have d4 : in81 c.NewLen := by by_cases q : in81 c.NewLen; exact q; exact absurd (.inl (.inl (.inl (.inl (.inr q))))) h1
      refine ⟨d1, d2, d3, d4, fun q => h1 (.inl (.inl (.inl (.inr q)))), ?_, ?_, fun h0 => ?_⟩
      · by_cases q : c.Old - i = c.New - j
        · exact q
        · exact absurd (.inl (.inl (.inr q))) h1
      · by_cases q : c.Old < i
        · exact absurd (.inl (.inr q)) h1
        · omega
      · by_cases q : c.Old < i
        · exact absurd (.inl (.inr q)) h1
        · by_cases q2 : c.Old = i
          · exact absurd (.inr ⟨by omega, q2⟩) h1
          · omega
    | succ k =>
      have := sc_get m n r (k0 + 1) _ _ h2 k (by simpa using hk)
      rw [cAt_cons, eoI_cons, enI_cons]
      obtain ⟨e1, e2, e3, e4, e5, e6, e7, e8⟩ := this
      exact ⟨e1, e2, e3, e4, e5, e6, e7, fun h0 => e8 (by omega)⟩
theorem sc_end (m n : Int) : ∀ (l : List Change) (k0 : Nat) (i j : Int), scriptGo k0 i j l m n = true → m - eoI i l l.length = n - enI j l l.length ∧ eoI i l l.length ≤ m
  | [], _, i, j, h => by
    simp only [scriptGo, decide_eq_true_eq] at h
    show m - i = n - j ∧ i ≤ m
    omega
  | c :: r, k0, i, j, h => by
    simp only [scriptGo, Bool.and_eq_true, decide_eq_true_eq] at h
    rw [List.length_cons, eoI_cons, enI_cons]
    exact sc_end m n r _ _ _ h.2
theorem eq_get (x y : List Str) : ∀ (l : List Change) (i j : Int), EqRuns x y i j l → ∀ k, k < l.length → sub x (eoI i l k) (cAt l k).Old = sub y (enI j l k) (cAt l k).New
  | [], _, _, _, k, hk => by simp at hk
  | c :: r, i, j, h, k, hk => by
    cases k with
    | zero => exact h.1
    | succ k => rw [eoI_cons, enI_cons, cAt_cons]; exact eq_get x y r _ _ h.2 k (by simpa using hk)
theorem eq_end (x y : List Str) : ∀ (l : List Change) (i j : Int), EqRuns x y i j l → sub x (eoI i l l.length) x.length = sub y (enI j l l.length) y.length
  | [], _, _, h => h
  | c :: r, i, j, h => by rw [List.length_cons, eoI_cons, enI_cons]; exact eq_end x y r _ _ h.2
def mkH (l : List Change) (m ctx : Int) (a b : Nat) : Hunk := hunkEnd l m ctx (b - 1) (hunkOpen l ctx a)
def GrOk (l : List Change) (m ctx : Int) : Nat → List Hunk → Nat → Prop
  | a, [], k => a = k
  | a, h :: r, k => ∃ b, a < b ∧ opens l ctx a ∧ h = mkH l m ctx a b ∧ GrOk l m ctx b r k
theorem GrOk.le {l : List Change} {m ctx : Int} : ∀ {hs : List Hunk} {a k : Nat}, GrOk l m ctx a hs k → a ≤ k
  | [], a, k, h => Nat.le_of_eq h
  | _ :: _, a, k, ⟨b, h1, _, _, h2⟩ => by have := GrOk.le h2; omega
theorem GrOk.snoc {l : List Change} {m ctx : Int} {k : Nat} (ho : opens l ctx k) : ∀ {hs : List Hunk} {a : Nat}, GrOk l m ctx a hs k → GrOk l m ctx a (hs ++ [mkH l m ctx k (k + 1)]) (k + 1)
  | [], a, h => by
    obtain rfl : a = k := h
    exact ⟨a + 1, by omega, ho, rfl, rfl⟩
  | _ :: _, a, ⟨b, h1, h2, h3, h4⟩ => ⟨b, h1, h2, h3, GrOk.snoc ho h4⟩
theorem GrOk.last {l : List Change} {m ctx : Int} {k : Nat} : ∀ {hs : List Hunk} {a : Nat}, GrOk l m ctx a hs k → hs ≠ [] → GrOk l m ctx a (hs.set (hs.length - 1) (hunkEnd l m ctx k (hs.getD (hs.length - 1) hunk0))) (k + 1)
  | [], _, _, h0 => absurd rfl h0
  | [h], a, ⟨b, h1, h2, h3, h4⟩, _ => by
    obtain rfl : b = k := h4
    subst h3
    exact ⟨b + 1, by omega, h2, rfl, rfl⟩
  | h :: h' :: r, a, ⟨b, h1, h2, h3, h4⟩, _ => by
    have ih := GrOk.last h4 (by simp)
    refine ⟨b, h1, h2, h3, ?_⟩
    simpa using ih
theorem groupTo_gr (l : List Change) (m ctx : Int) : ∀ k, GrOk l m ctx 0 (groupTo l m ctx k) k
  | 0 => rfl
  | k + 1 => by
    have ih := groupTo_gr l m ctx k
    have hne := (groupTo_len l m ctx k).2
    simp only [groupTo, groupOpen]
    by_cases ho : opens l ctx k
    · rw [if_pos ho]
      have e : (groupTo l m ctx k ++ [hunkOpen l ctx k]).set ((groupTo l m ctx k ++ [hunkOpen l ctx k]).length - 1) (hunkEnd l m ctx k ((groupTo l m ctx k ++ [hunkOpen l ctx k]).getD ((groupTo l m ctx k ++ [hunkOpen l ctx k]).length - 1) hunk0)) = groupTo l m ctx k ++ [mkH l m ctx k (k + 1)] := by
        simp [mkH]
      rw [e]
      exact ih.snoc ho
    · rw [if_neg ho]
      refine ih.last ?_
      have : k ≠ 0 := fun e => ho (.inl e)
      have := hne (by omega)
      intro e; rw [e] at this; simp at this
theorem sub_app (x : List Str) {a b c : Int} (h0 : 0 ≤ a) (h1 : a ≤ b) (h2 : b ≤ c) : sub x a b ++ sub x b c = sub x a c := by
  unfold sub
  obtain ⟨u, rfl⟩ : ∃ u : Nat, (u : Int) = a := ⟨a.toNat, by omega⟩
  obtain ⟨v, rfl⟩ : ∃ v : Nat, (v : Int) = b := ⟨b.toNat, by omega⟩
  obtain ⟨w, rfl⟩ : ∃ w : Nat, (w : Int) = c := ⟨c.toNat, by omega⟩
  simp only [Int.toNat_natCast]
  have h3 : x.drop v = (x.drop u).drop (v - u) := by rw [List.drop_drop]; congr 1; omega
  rw [h3, show w - u = (v - u) + (w - v) by omega, List.take_add]
theorem sub_nil (x : List Str) (a : Int) : sub x a a = [] := by simp [sub]
theorem sub_length (x : List Str) {a b : Int} (h0 : 0 ≤ a) (h1 : a ≤ b) (h2 : b ≤ x.length) : ((sub x a b).length : Int) = b - a := by
  unfold sub; rw [List.length_take, List.length_drop]; omega
theorem run_tail {x y : List Str} {p q p' q' e : Int} (h : sub x p q = sub y p' q') (h0 : 0 ≤ p) (h0' : 0 ≤ p') (he : 0 ≤ e) (h1 : e ≤ q - p) (h2 : q - p = q' - p') : sub x (q - e) q = sub y (q' - e) q' := by
  have key : ∀ (z : List Str) (a b : Int), 0 ≤ a → e ≤ b - a → sub z (b - e) b = (sub z a b).drop (b - a - e).toNat := by
    intro z a b ha hb
    unfold sub
    rw [List.drop_take, List.drop_drop]
    congr 1
    · omega
    · congr 1; omega
  rw [key x p q h0 h1, key y p' q' h0' (by omega), h, h2]
theorem run_head {x y : List Str} {p q p' q' e : Int} (h : sub x p q = sub y p' q') (h0 : 0 ≤ p) (h0' : 0 ≤ p') (he : 0 ≤ e) (h1 : e ≤ q - p) (h2 : q - p = q' - p') : sub x p (p + e) = sub y p' (p' + e) := by
  have key : ∀ (z : List Str) (a b : Int), 0 ≤ a → e ≤ b - a → sub z a (a + e) = (sub z a b).take e.toNat := by
    intro z a b ha hb
    unfold sub
    rw [List.take_take]
    congr 1
    omega
  rw [key x p q h0 h1, key y p' q' h0' (by omega), h]
theorem linesNot_app (p q : List PatchLine) (k : UInt8) : linesNot (p ++ q) k = linesNot p k ++ linesNot q k := by simp [linesNot]
theorem linesNot_put (k k' : UInt8) (ts : List Str) : linesNot (putOf k ts) k' = if k = k' then [] else ts := by
  unfold linesNot putOf
  by_cases h : k = k'
  · rw [if_pos h]; subst h
    simp [List.filter_eq_nil_iff]
  · rw [if_neg h]
    rw [List.filter_eq_self.2 (by simp [h])]
    simp [Function.comp_def]
structure ScFit (x y : List Str) (l : List Change) : Prop where
  lx : (x.length : Int) ≤ 4096
  ly : (y.length : Int) ≤ 4096
  sc : scriptGo 0 0 0 l x.length y.length = true
  eq : EqRuns x y 0 0 l
section
variable {x y : List Str} {l : List Change}
theorem ScFit.ok (h : ScFit x y l) : ScOk 0 0 l x.length y.length := scriptGo_ok _ _ _ _ _ _ h.sc
theorem ScFit.check (h : ScFit x y l) : check8 l x.length y.length = 0 := by
  have h1 := h.lx
  have h2 := h.ly
  unfold check8
  rw [if_neg (by unfold in81; omega), if_pos h.sc]
theorem ScFit.nn (h : ScFit x y l) (k : Nat) (hk : k ≤ l.length) : 0 ≤ eoI 0 l k ∧ 0 ≤ enI 0 l k ∧ eoI 0 l k ≤ x.length ∧ enI 0 l k ≤ y.length := by
  cases k with
  | zero => exact ⟨Int.le_refl _, Int.le_refl _, Int.natCast_nonneg _, Int.natCast_nonneg _⟩
  | succ k =>
    obtain ⟨⟨a1, a2⟩, ⟨b1, b2⟩, ⟨c1, c2⟩, ⟨d1, d2⟩, h5, h6⟩ := h.ok.get k (by omega)
    rw [eoI_succ, enI_succ]; unfold endC endN
    omega
def eA (l : List Change) (ctx : Int) (a : Nat) : Int := minI ctx (cAt l a).Old
def eB (l : List Change) (m ctx : Int) (b : Nat) : Int := minI ctx (m - eoI 0 l b)
theorem minI_le {a b : Int} (h : 0 ≤ a) (h' : 0 ≤ b) : 0 ≤ minI a b ∧ minI a b ≤ a ∧ minI a b ≤ b := by unfold minI; split <;> omega
theorem opens_gap {ctx : Int} {a : Nat} (ho : opens l ctx a) (ha : a ≠ 0) : 2 * ctx < (cAt l a).Old - eoI 0 l a := by
  rcases ho with h | h
  · exact absurd h ha
  · unfold eoI; rw [if_neg ha]; unfold endC; omega
theorem ScFit.before (h : ScFit x y l) {ctx : Int} (hc : 0 ≤ ctx) {a : Nat} (ha : a < l.length) (ho : opens l ctx a) :
    0 ≤ eA l ctx a ∧ eA l ctx a ≤ ctx ∧ eA l ctx a ≤ (cAt l a).Old - eoI 0 l a := by
  obtain ⟨⟨a1, a2⟩, _⟩ := h.ok.get a ha
  have h3 := minI_le hc a1
  unfold eA
  by_cases h0 : a = 0
  · subst h0
    show _ ∧ _ ∧ _ ≤ (cAt l 0).Old - 0
    omega
  · have := opens_gap ho h0; omega
theorem ScFit.after (h : ScFit x y l) {ctx : Int} (hc : 0 ≤ ctx) {b : Nat} (hb : b ≤ l.length) (ho : b < l.length → opens l ctx b) (hb0 : b ≠ 0) :
    0 ≤ eB l x.length ctx b ∧ eB l x.length ctx b ≤ ctx ∧ eoI 0 l b + eB l x.length ctx b ≤ x.length ∧ enI 0 l b + eB l x.length ctx b ≤ y.length ∧
      sub x (eoI 0 l b) (eoI 0 l b + eB l x.length ctx b) = sub y (enI 0 l b) (enI 0 l b + eB l x.length ctx b) := by
  obtain ⟨h1, h2, h3, h4⟩ := h.nn b hb
  have h5 := minI_le hc (show 0 ≤ (x.length : Int) - eoI 0 l b by omega)
  unfold eB
  rcases Nat.lt_or_ge b l.length with hlt | hge
  · obtain ⟨g1, g2, g3, g4, g5, g6, g7, g8⟩ := sc_get _ _ _ _ _ _ h.sc b hlt
    obtain ⟨⟨a1, a2⟩, ⟨b1, b2⟩, ⟨c1, c2⟩, ⟨d1, d2⟩, k5, k6⟩ := h.ok.get b hlt
    have hg := opens_gap (ho hlt) hb0
    refine ⟨h5.1, h5.2.1, by omega, by omega, run_head (eq_get x y l 0 0 h.eq b hlt) h1 h2 h5.1 (by omega) (by omega)⟩
  · have e : b = l.length := by omega
    subst e
    obtain ⟨g1, g2⟩ := sc_end _ _ _ _ _ _ h.sc
    refine ⟨h5.1, h5.2.1, by omega, by omega, run_head (eq_end x y l 0 0 h.eq) h1 h2 h5.1 (by omega) (by omega)⟩
def posN (l : List Change) (j0 : Int) (a t : Nat) : Int := if t = 0 then j0 else endN (cAt l (a + t - 1))
theorem posTo_eo (i0 : Int) (a t : Nat) (ht : t ≠ 0) : posTo l i0 a t = eoI 0 l (a + t) := by
  unfold posTo eoI; rw [if_neg ht, if_neg (by omega)]
theorem posN_en (j0 : Int) (a t : Nat) (ht : t ≠ 0) : posN l j0 a t = enI 0 l (a + t) := by
  unfold posN enI; rw [if_neg ht, if_neg (by omega)]
theorem ScFit.made (h : ScFit x y l) {ctx : Int} (hc : 0 ≤ ctx) {a : Nat} (ho : opens l ctx a) : ∀ t, a + t ≤ l.length → (t = 0 → a < l.length) →
    linesNot (madeTo l x y ((cAt l a).Old - eA l ctx a) a t) 43 = sub x ((cAt l a).Old - eA l ctx a) (posTo l ((cAt l a).Old - eA l ctx a) a t) ∧
    linesNot (madeTo l x y ((cAt l a).Old - eA l ctx a) a t) 45 = sub y ((cAt l a).New - eA l ctx a) (posN l ((cAt l a).New - eA l ctx a) a t)
  | 0, _, _ => by
    unfold posTo posN
    rw [if_pos rfl, if_pos rfl, sub_nil, sub_nil]
    exact ⟨rfl, rfl⟩
  | t + 1, hl, _ => by
    have hlt : a + t < l.length := by omega
    have hla : a < l.length := by omega
    obtain ⟨ih1, ih2⟩ := ScFit.made h hc ho t (by omega) (fun _ => hla)
    obtain ⟨q1, q2, q3⟩ := h.before hc hla ho
    obtain ⟨p1, p2, p3, p4⟩ := h.nn (a + t) (by omega)
    obtain ⟨r1, r2, r3, r4⟩ := h.nn a (by omega)
    obtain ⟨g1, g2, g3, g4, g5, g6, g7, g8⟩ := sc_get _ _ _ _ _ _ h.sc (a + t) hlt
    obtain ⟨k1, ⟨k2, k2'⟩, k3, ⟨k4, k4'⟩, k5, k6, k7, k8⟩ := sc_get _ _ _ _ _ _ h.sc a hla
    obtain ⟨⟨a1, a2⟩, ⟨b1, b2⟩, ⟨c1, c2⟩, ⟨d1, d2⟩, w5, w6⟩ := h.ok.get (a + t) hlt
    have hrun : sub x (posTo l ((cAt l a).Old - eA l ctx a) a t) (cAt l (a + t)).Old = sub y (posN l ((cAt l a).New - eA l ctx a) a t) (cAt l (a + t)).New ∧
        (cAt l a).Old - eA l ctx a ≤ posTo l ((cAt l a).Old - eA l ctx a) a t ∧ posTo l ((cAt l a).Old - eA l ctx a) a t ≤ (cAt l (a + t)).Old ∧
        (cAt l a).New - eA l ctx a ≤ posN l ((cAt l a).New - eA l ctx a) a t ∧ posN l ((cAt l a).New - eA l ctx a) a t ≤ (cAt l (a + t)).New := by
      have hrun := eq_get x y l 0 0 h.eq (a + t) hlt
      by_cases ht : t = 0
      · subst ht
        unfold posTo posN
        rw [if_pos rfl, if_pos rfl]
        rw [show a + 0 = a from rfl] at *
        exact ⟨run_tail hrun r1 r2 q1 (by omega) (by omega), by omega, by omega, by omega, by omega⟩
      · rw [posTo_eo _ _ _ ht, posN_en _ _ _ ht]
        have m1 := h.ok.mono a (a + t - 1) (by omega) (by omega)
        have m2 : eoI 0 l (a + t) = (cAt l (a + t - 1)).Old + (cAt l (a + t - 1)).OldLen := by unfold eoI; rw [if_neg (by omega)]; rfl
        have m4 : ∀ u, u ≤ t → (cAt l a).New ≤ enI 0 l (a + u) ∨ u = 0 := by
          intro u
          induction u with
          | zero => exact fun _ => .inr rfl
          | succ u ihu =>
            intro hu
            obtain ⟨e1, e2, ⟨e3, e3'⟩, ⟨e4, e4'⟩, e5, e6, e7, e8⟩ := sc_get _ _ _ _ _ _ h.sc (a + u) (by omega)
            have e9 : enI 0 l (a + (u + 1)) = (cAt l (a + u)).New + (cAt l (a + u)).NewLen := rfl
            rcases ihu (by omega) with h' | h'
            · left; omega
            · left; subst h'; rw [e9]; show (cAt l a).New ≤ (cAt l a).New + (cAt l a).NewLen; exact Int.le_add_of_nonneg_right e4
        have m5 := (m4 t (Nat.le_refl _)).resolve_right ht
        refine ⟨hrun, by omega, by omega, by omega, by omega⟩
    obtain ⟨hr1, hr2, hr3, hr4, hr5⟩ := hrun
    simp (decide := true) only [madeTo, linesNot_app, linesNot_put, ih1, ih2, if_true, if_false, List.append_nil]
    have e1 : posTo l ((cAt l a).Old - eA l ctx a) a (t + 1) = endC (cAt l (a + t)) := posTo_succ _ _ _ _
    have e2 : posN l ((cAt l a).New - eA l ctx a) a (t + 1) = endN (cAt l (a + t)) := rfl
    rw [e1, e2]
    have s0 : 0 ≤ (cAt l a).Old - eA l ctx a := by omega
    have s1 : 0 ≤ (cAt l a).New - eA l ctx a := by omega
    refine ⟨?_, ?_⟩
    · rw [sub_app x s0 hr2 hr3, sub_app x s0 (by omega) (by unfold endC; omega)]
    · rw [hr1, sub_app y s1 hr4 hr5]
      exact sub_app y s1 (by omega) (by omega)
end
end Go.AL
namespace Go.AL
open Go
section
variable {x y : List Str} {l : List Change}
structure HunkIs (x y : List Str) (l : List Change) (ctx : Int) (a b : Nat) (h : PatchHunk) : Prop where
  old : h.Old = (cAt l a).Old - eA l ctx a
  new : h.New = (cAt l a).New - eA l ctx a
  o0 : 0 ≤ h.Old
  n0 : 0 ≤ h.New
  oe : h.Old + oldN h = eoI 0 l b + eB l x.length ctx b
  ne : h.New + newN h = enI 0 l b + eB l x.length ctx b
  ox : h.Old + oldN h ≤ x.length
  ny : h.New + newN h ≤ y.length
  ol : linesNot h.Lines 43 = sub x h.Old (h.Old + oldN h)
  nl : linesNot h.Lines 45 = sub y h.New (h.New + newN h)
  ch : someCh h.Lines = true
  gl : (∀ s ∈ x, lineOk s = true) → (∀ s ∈ y, lineOk s = true) → h.Lines.all goodLn = true
theorem someCh_app (p q : List PatchLine) : someCh (p ++ q) = (someCh p || someCh q) := by simp [someCh]
theorem someCh_put {k : UInt8} {ts : List Str} (hk : k ≠ 32) (h : ts ≠ []) : someCh (putOf k ts) = true := by
  cases ts with
  | nil => exact absurd rfl h
  | cons t ts => simp [someCh, putOf, hk]
theorem goodLn_put {k : UInt8} {ts : List Str} (hk : k = 32 ∨ k = 45 ∨ k = 43) (h : ∀ t ∈ ts, lineOk t = true) : (putOf k ts).all goodLn = true := by
  rw [List.all_eq_true]
  intro q hq
  unfold putOf at hq
  obtain ⟨t, ht, rfl⟩ := List.mem_map.1 hq
  unfold goodLn
  refine decide_eq_true ?_
  rintro (⟨⟨h1, h2⟩, h3⟩ | h1)
  · rcases hk with e | e | e
    · exact h1 e
    · exact h2 e
    · exact h3 e
  · rw [show (PatchLine.mk k t).Text = t from rfl, h t ht] at h1; cases h1
theorem madeTo_good (hx : ∀ s ∈ x, lineOk s = true) (hy : ∀ s ∈ y, lineOk s = true) (i0 : Int) (a : Nat) : ∀ t, (madeTo l x y i0 a t).all goodLn = true
  | 0 => rfl
  | t + 1 => by
    simp only [madeTo, List.all_append, madeTo_good hx hy i0 a t, Bool.true_and, Bool.and_eq_true]
    exact ⟨⟨goodLn_put (.inl rfl) (fun s hs => hx s (sub_mem hs)), goodLn_put (.inr (.inl rfl)) (fun s hs => hx s (sub_mem hs))⟩, goodLn_put (.inr (.inr rfl)) (fun s hs => hy s (sub_mem hs))⟩
theorem ScFit.hunk (h : ScFit x y l) {ctx : Int} (hc : 0 ≤ ctx) {a b : Nat} (hab : a < b) (hb : b ≤ l.length) (ho : opens l ctx a) (hob : b < l.length → opens l ctx b) :
    HunkIs x y l ctx a b (hunkOfG l x y (mkH l x.length ctx a b)) := by
  have hla : a < l.length := by omega
  obtain ⟨q1, q2, q3⟩ := h.before hc hla ho
  obtain ⟨w1, w2, w3, w4, w5⟩ := h.after hc hb hob (by omega)
  obtain ⟨m1, m2⟩ := h.made hc ho (b - a) (by omega) (fun e => by omega)
  rw [posTo_eo _ _ _ (by omega)] at m1
  rw [posN_en _ _ _ (by omega)] at m2
  rw [show a + (b - a) = b by omega] at m1 m2
  obtain ⟨r1, r2, r3, r4⟩ := h.nn a (by omega)
  obtain ⟨s1, s2, s3, s4⟩ := h.nn b hb
  obtain ⟨k1, ⟨k2, k2'⟩, k3, ⟨k4, k4'⟩, k5, k6, k7, k8⟩ := sc_get _ _ _ _ _ _ h.sc a hla
  have hlb : b - 1 < l.length := by omega
  obtain ⟨g1, ⟨g2, g2'⟩, g3, ⟨g4, g4'⟩, g5, g6, g7, g8⟩ := sc_get _ _ _ _ _ _ h.sc (b - 1) hlb
  have eo : eoI 0 l b = (cAt l (b - 1)).Old + (cAt l (b - 1)).OldLen := by unfold eoI; rw [if_neg (by omega)]; rfl
  have en : enI 0 l b = (cAt l (b - 1)).New + (cAt l (b - 1)).NewLen := by unfold enI; rw [if_neg (by omega)]; rfl
  have mo := h.ok.mono a (b - 1) (by omega) (by omega)
  have mn : (cAt l a).New ≤ enI 0 l b := by
    have m4 : ∀ u, a + u ≤ l.length → (cAt l a).New ≤ enI 0 l (a + u) ∨ u = 0 := by
      intro u
      induction u with
      | zero => exact fun _ => .inr rfl
      | succ u ihu =>
        intro hu
        obtain ⟨e1, e2, ⟨e3, e3'⟩, ⟨e4, e4'⟩, e5, e6, e7, e8⟩ := sc_get _ _ _ _ _ _ h.sc (a + u) (by omega)
        have e9 : enI 0 l (a + (u + 1)) = (cAt l (a + u)).New + (cAt l (a + u)).NewLen := rfl
        rcases ihu (by omega) with h' | h'
        · left; omega
        · left; subst h'; rw [e9]; show (cAt l a).New ≤ (cAt l a).New + (cAt l a).NewLen; exact Int.le_add_of_nonneg_right e4
    have := (m4 (b - a) (by omega)).resolve_right (by omega)
    rwa [show a + (b - a) = b by omega] at this
  have hF : (mkH l x.length ctx a b).First.toNat = a := by show ((a : Int)).toNat = a; omega
  have hL : (mkH l x.length ctx a b).Last.toNat - (mkH l x.length ctx a b).First.toNat = b - a := by
    show (((b - 1 : Nat) : Int) + 1).toNat - ((a : Int)).toNat = b - a; omega
  have hOF : (mkH l x.length ctx a b).Old.From = (cAt l a).Old - eA l ctx a := rfl
  have hNF : (mkH l x.length ctx a b).New.From = (cAt l a).New - eA l ctx a := rfl
  have hOT : (mkH l x.length ctx a b).Old.To = eoI 0 l b + eB l x.length ctx b := by
    unfold eB; rw [eo]; rfl
  obtain ⟨P, hP⟩ : ∃ P, P = hunkOfG l x y (mkH l x.length ctx a b) := ⟨_, rfl⟩
  have hPl : P.Lines = madeTo l x y ((cAt l a).Old - eA l ctx a) a (b - a) ++ putOf 32 (sub x (eoI 0 l b) (eoI 0 l b + eB l x.length ctx b)) := by
    rw [hP]; unfold hunkOfG
    show madeTo l x y _ (mkH l x.length ctx a b).First.toNat ((mkH l x.length ctx a b).Last.toNat - (mkH l x.length ctx a b).First.toNat) ++ putOf 32 (sub x (posTo l _ (mkH l x.length ctx a b).First.toNat ((mkH l x.length ctx a b).Last.toNat - (mkH l x.length ctx a b).First.toNat)) _) = _
    rw [hL, hF, hOF, hOT, posTo_eo _ _ _ (by omega), show a + (b - a) = b by omega]
  have hPO : P.Old = (cAt l a).Old - eA l ctx a := by rw [hP]; rfl
  have hPN : P.New = (cAt l a).New - eA l ctx a := by rw [hP]; rfl
  have h43 : linesNot P.Lines 43 = sub x ((cAt l a).Old - eA l ctx a) (eoI 0 l b + eB l x.length ctx b) := by
    rw [hPl, linesNot_app, linesNot_put, if_neg (by decide), m1]
    exact sub_app x (by omega) (by omega) (by omega)
  have h45 : linesNot P.Lines 45 = sub y ((cAt l a).New - eA l ctx a) (enI 0 l b + eB l x.length ctx b) := by
    rw [hPl, linesNot_app, linesNot_put, if_neg (by decide), m2, w5]
    exact sub_app y (by omega) (by omega) (by omega)
  have hon : oldN P = eoI 0 l b + eB l x.length ctx b - ((cAt l a).Old - eA l ctx a) := by
    unfold oldN; rw [h43]; exact sub_length x (by omega) (by omega) (by omega)
  have hnn : newN P = enI 0 l b + eB l x.length ctx b - ((cAt l a).New - eA l ctx a) := by
    unfold newN; rw [h45]; exact sub_length y (by omega) (by omega) (by omega)
  rw [← hP]
  refine ⟨hPO, hPN, by omega, by omega, by omega, by omega, by omega, by omega, ?_, ?_, ?_, ?_⟩
  · rw [h43]; congr 1
    · exact hPO.symm
    · omega
  · rw [h45]; congr 1
    · exact hPN.symm
    · omega
  · rw [hPl, someCh_app]
    have e : madeTo l x y ((cAt l a).Old - eA l ctx a) a (b - a) = madeTo l x y ((cAt l a).Old - eA l ctx a) a (b - 1 - a + 1) := by congr 1; omega
    rw [e]
    simp only [madeTo, someCh_app]
    rw [show a + (b - 1 - a) = b - 1 by omega]
    have key : someCh (putOf 45 (sub x (cAt l (b - 1)).Old (endC (cAt l (b - 1))))) = true ∨ someCh (putOf 43 (sub y (cAt l (b - 1)).New ((cAt l (b - 1)).New + (cAt l (b - 1)).NewLen))) = true := by
      obtain ⟨g3a, g3b⟩ := g3
      obtain ⟨g1a, g1b⟩ := g1
      by_cases h0 : (cAt l (b - 1)).OldLen = 0
      · right
        refine someCh_put (by decide) fun e0 => ?_
        have := sub_length y (a := (cAt l (b - 1)).New) (b := (cAt l (b - 1)).New + (cAt l (b - 1)).NewLen) g3a (by omega) (by omega)
        rw [e0] at this; simp at this; omega
      · left
        refine someCh_put (by decide) fun e0 => ?_
        have := sub_length x (a := (cAt l (b - 1)).Old) (b := endC (cAt l (b - 1))) g1a (by unfold endC; omega) (by unfold endC; omega)
        rw [e0] at this; unfold endC at this; simp at this; omega
    rcases key with e1 | e1 <;> rw [e1] <;> simp
  · intro hx hy
    rw [hPl, List.all_append, madeTo_good hx hy, Bool.true_and]
    exact goodLn_put (.inl rfl) (fun s hs => hx s (sub_mem hs))
theorem ScFit.hunks (h : ScFit x y l) {ctx : Int} (hc : 0 ≤ ctx) (hx : ∀ s ∈ x, lineOk s = true) (hy : ∀ s ∈ y, lineOk s = true) : ∀ (hs : List Hunk) (a : Nat), GrOk l x.length ctx a hs l.length →
    ∀ (i j e : Int), i = eoI 0 l a + e → j = enI 0 l a + e → 0 ≤ e → e ≤ ctx → (a = 0 → e = 0) →
    goodGo i j (hs.map (hunkOfG l x y)) = true ∧ (sideLines (hs.map (hunkOfG l x y)) 43).Sublist (x.drop i.toNat) ∧ (sideLines (hs.map (hunkOfG l x y)) 45).Sublist (y.drop j.toNat) ∧
      ∀ p ∈ hs.map (hunkOfG l x y), (p.Old + oldN p ≤ x.length ∧ p.New + newN p ≤ y.length ∧ 0 ≤ p.Old ∧ 0 ≤ p.New) ∧ linesNot p.Lines 43 = sub x p.Old (p.Old + oldN p) ∧ linesNot p.Lines 45 = sub y p.New (p.New + newN p)
  | [], a, _, i, j, e, _, _, _, _, _ => ⟨rfl, by simp [sideLines], by simp [sideLines], by simp⟩
  | hk :: hs, a, ⟨b, hab, ho, hE, hr⟩, i, j, e, hi, hj, he, hec, he0 => by
    have hb := hr.le
    have hob : b < l.length → opens l ctx b := by
      intro hlt
      cases hs with
      | nil => exact absurd hr (by show ¬ b = l.length; omega)
      | cons h2 hs2 => obtain ⟨_, _, ho2, _⟩ := hr; exact ho2
    obtain ⟨w1, w2, w3, w4, w5⟩ := h.after hc hb hob (by omega)
    obtain ⟨q1, q2, q3⟩ := h.before hc (show a < l.length by omega) ho
    have H := h.hunk hc hab hb ho hob
    rw [← hE] at H
    obtain ⟨P, hP⟩ : ∃ P, P = hunkOfG l x y hk := ⟨_, rfl⟩
    rw [← hP] at H
    obtain ⟨i1, i2, i3, i4⟩ := ScFit.hunks h hc hx hy hs b hr (P.Old + oldN P) (P.New + newN P) (eB l x.length ctx b) H.oe H.ne w1 w2 (by omega)
    obtain ⟨k1, ⟨k2, k2'⟩, k3, ⟨k4, k4'⟩, k5, k6, k7, k8⟩ := sc_get _ _ _ _ _ _ h.sc a (show a < l.length by omega)
    have h1 := H.old
    have h2 := H.new
    have h3 := H.o0
    have h4 := H.n0
    have h5 := H.ox
    have h6 := H.ny
    have h7 := h.lx
    have h8 := h.ly
    have n1 : 0 ≤ oldN P := by unfold oldN; omega
    have n2 : 0 ≤ newN P := by unfold newN; omega
    have hgap : e + eA l ctx a ≤ (cAt l a).Old - eoI 0 l a := by
      by_cases h0 : a = 0
      · have := he0 h0; omega
      · have := opens_gap ho h0; omega
    obtain ⟨r1, r2, r3, r4⟩ := h.nn a (by omega)
    have hij : i ≤ P.Old ∧ j ≤ P.New ∧ P.Old - i = P.New - j ∧ 0 ≤ i ∧ 0 ≤ j := by omega
    have hsub : ∀ (z : List Str) (i f t : Int), 0 ≤ i → i ≤ f → f ≤ t → ∀ r : List Str, r.Sublist (z.drop t.toNat) → (sub z f t ++ r).Sublist (z.drop i.toNat) := by
      intro z i f t h0 h1 h2 r hr
      have e1 : z.drop f.toNat = sub z f t ++ z.drop t.toNat := by
        unfold sub
        rw [show t.toNat = f.toNat + (t.toNat - f.toNat) by omega, ← List.drop_drop, show f.toNat + (t.toNat - f.toNat) - f.toNat = t.toNat - f.toNat by omega, List.take_append_drop]
      have e2 : z.drop f.toNat = (z.drop i.toNat).drop (f.toNat - i.toNat) := by rw [List.drop_drop]; congr 1; omega
      refine List.Sublist.trans ?_ (List.drop_sublist (f.toNat - i.toNat) (z.drop i.toNat))
      rw [← e2, e1]
      exact List.Sublist.append_left hr _
    have key : ∀ (k : UInt8), sideLines ((hk :: hs).map (hunkOfG l x y)) k = linesNot P.Lines k ++ sideLines (hs.map (hunkOfG l x y)) k := by
      intro k; rw [hP]; simp [sideLines]
    refine ⟨?_, ?_, ?_, ?_⟩
    · rw [List.map_cons, ← hP]
      simp only [goodGo, H.gl hx hy, i1, Bool.and_true, Bool.true_and, Bool.and_eq_true, decide_eq_true_eq]
      refine ⟨?_, by omega⟩
      unfold offPlace
      rw [H.ch]
      rintro (((((e0 | e0) | e0) | e0) | e0) | e0)
      · cases e0
      all_goals omega
    · rw [key, H.ol]
      exact hsub x i P.Old (P.Old + oldN P) hij.2.2.2.1 hij.1 (by omega) _ i2
    · rw [key, H.nl]
      exact hsub y j P.New (P.New + newN P) hij.2.2.2.2 hij.2.1 (by omega) _ i3
    · rw [List.map_cons, ← hP]
      intro p hp
      rcases List.mem_cons.1 hp with rfl | hp
      · exact ⟨⟨h5, h6, h3, h4⟩, H.ol, H.nl⟩
      · exact i4 p hp
theorem endedBut_sub : ∀ {s z : List Str}, s.Sublist z → endedBut z = true → endedBut s = true := by
  intro s z hs
  induction hs with
  | slnil => exact fun h => h
  | cons a _ ih =>
    intro h
    simp only [endedBut, Bool.and_eq_true] at h
    exact ih h.2
  | cons_cons a hs2 ih =>
    intro h
    simp only [endedBut, Bool.and_eq_true, Bool.or_eq_true] at h ⊢
    refine ⟨?_, ih h.2⟩
    rcases h.1 with h1 | h1
    · left
      rw [List.isEmpty_iff] at h1 ⊢
      rw [h1] at hs2
      exact List.sublist_nil.1 hs2
    · exact .inr h1
def hunksOf (l : List Change) (x y : List Str) (ctx : Int) : List PatchHunk := (groupTo l x.length ctx l.length).map (hunkOfG l x y)
theorem ScFit.good (h : ScFit x y l) {ctx : Int} (hc : 0 ≤ ctx) (hx : ∀ s ∈ x, lineOk s = true) (hy : ∀ s ∈ y, lineOk s = true) (ex : endedBut x = true) (ey : endedBut y = true) : goodOf (hunksOf l x y ctx) = true := by
  obtain ⟨h1, h2, h3, _⟩ := h.hunks hc hx hy _ 0 (groupTo_gr l x.length ctx l.length) 0 0 0 rfl rfl (Int.le_refl _) hc (fun _ => rfl)
  unfold goodOf sideOk hunksOf
  rw [h1, endedBut_sub h2 (by simpa using ex), endedBut_sub h3 (by simpa using ey)]
  rfl
theorem ScFit.texts (h : ScFit x y l) {ctx : Int} (hc : 0 ≤ ctx) (hx : ∀ s ∈ x, lineOk s = true) (hy : ∀ s ∈ y, lineOk s = true) : ∀ p ∈ hunksOf l x y ctx, (p.Old + oldN p ≤ x.length ∧ p.New + newN p ≤ y.length ∧ 0 ≤ p.Old ∧ 0 ≤ p.New) ∧ linesNot p.Lines 43 = sub x p.Old (p.Old + oldN p) ∧ linesNot p.Lines 45 = sub y p.New (p.New + newN p) :=
  (h.hunks hc hx hy _ 0 (groupTo_gr l x.length ctx l.length) 0 0 0 rfl rfl (Int.le_refl _) hc (fun _ => rfl)).2.2.2
end
theorem lineOk_snoc (cur : Str) (c : UInt8) (h : ∀ z ∈ cur, z ≠ 10) : lineOk (cur ++ [c]) = true := by
  unfold lineOk
  simp only [List.dropLast_concat, Bool.and_eq_true]
  refine ⟨List.all_eq_true.2 fun z hz => by simpa using h z hz, by simp⟩
theorem linesAux_ok : ∀ (s cur : Str), (∀ z ∈ cur, z ≠ 10) → (∀ t ∈ linesAux cur s, lineOk t = true) ∧ endedBut (linesAux cur s) = true
  | [], cur, hc => by
    unfold linesAux
    split
    · exact ⟨by simp, rfl⟩
    · rename_i h
      refine ⟨fun t ht => ?_, rfl⟩
      obtain rfl : t = cur := by simpa using ht
      obtain ⟨d, r, e⟩ : ∃ d r, t = r ++ [d] := ⟨t.getLast h, t.dropLast, (List.dropLast_concat_getLast h).symm⟩
      rw [e]
      exact lineOk_snoc r d fun z hz => hc z (by rw [e]; simp [hz])
  | c :: r, cur, hc => by
    rw [linesAux_step]
    by_cases h : c = 10
    · rw [if_pos h]
      obtain ⟨h1, h2⟩ := linesAux_ok r [] (by simp)
      refine ⟨fun t ht => ?_, ?_⟩
      · rcases List.mem_cons.1 ht with rfl | ht
        · exact lineOk_snoc cur c hc
        · exact h1 t ht
      · simp only [endedBut, h2, Bool.and_true, Bool.or_eq_true]
        right; unfold ended; subst h; simp
    · rw [if_neg h]
      refine linesAux_ok r (cur ++ [c]) fun z hz => ?_
      rcases List.mem_append.1 hz with hz | hz
      · exact hc z hz
      · simp at hz; subst hz; exact h
theorem linesOf_ok (b : Str) : (∀ t ∈ linesOf b, lineOk t = true) ∧ endedBut (linesOf b) = true := linesAux_ok b [] (by simp)
end Go.AL
namespace Go.AL
open Go
def EqAt (X Y : List Str) (s : Span) : Prop := 0 ≤ s.From ∧ 0 ≤ s.To ∧ ∃ v, X[s.From.toNat]? = some v ∧ Y[s.To.toNat]? = some v
theorem sub_snoc {X : List Str} {a b : Int} {v : Str} (h0 : 0 ≤ a) (h1 : a ≤ b) (hv : X[b.toNat]? = some v) : sub X a (b + 1) = sub X a b ++ [v] := by
  rw [← sub_app X h0 h1 (by omega : b ≤ b + 1)]
  congr 1
  unfold sub
  obtain ⟨hl, e⟩ := List.getElem?_eq_some_iff.1 hv
  rw [List.drop_eq_getElem_cons hl, e, show (b + 1).toNat - b.toNat = 1 by omega]
  rfl
theorem szL_sides : ∀ (ls : List PatchLine), ls.all goodLn = true → (ls.map szL).sum ≤ 64 * ((linesNot ls 43).length + (linesNot ls 45).length) + ((linesNot ls 43).flatten.length + (linesNot ls 45).flatten.length)
  | [], _ => by simp
  | q :: ls, h => by
    rw [List.all_cons, Bool.and_eq_true] at h
    have ih := szL_sides ls h.2
    have hk : q.Kind = 32 ∨ q.Kind = 45 ∨ q.Kind = 43 := by
      have hg := h.1
      unfold goodLn at hg
      have hg := of_decide_eq_true hg
      by_cases h1 : q.Kind = 32
      · exact .inl h1
      by_cases h2 : q.Kind = 45
      · exact .inr (.inl h2)
      by_cases h3 : q.Kind = 43
      · exact .inr (.inr h3)
      exact absurd (.inl ⟨⟨h1, h2⟩, h3⟩) hg
    have hd : ∀ k : UInt8, linesNot (q :: ls) k = if q.Kind ≠ k then q.Text :: linesNot ls k else linesNot ls k := by
      intro k
      unfold linesNot
      by_cases e : q.Kind = k
      · rw [if_neg (by simpa using e), List.filter_cons_of_neg (by simpa using e)]
      · rw [if_pos e, List.filter_cons_of_pos (by simpa using e)]; rfl
    rw [hd 43, hd 45, List.map_cons, List.sum_cons]
    have hz : szL q = q.Text.length + 64 := rfl
    rcases hk with e | e | e <;> rw [e] <;> simp (decide := true) only [if_true, if_false, ne_eq, not_true_eq_false, not_false_eq_true, List.length_cons, List.flatten_cons, List.length_append] <;> omega
theorem goodGo_lines : ∀ (hs : List PatchHunk) (i j : Int), goodGo i j hs = true → szP hs ≤ 128 * ((sideLines hs 43).length + (sideLines hs 45).length) + ((sideLines hs 43).flatten.length + (sideLines hs 45).flatten.length)
  | [], _, _, _ => by simp [szP]
  | h :: hs, i, j, hg => by
    simp only [goodGo, Bool.and_eq_true, decide_eq_true_eq] at hg
    obtain ⟨h1, h2, h3, h4⟩ := hg
    have ih := goodGo_lines hs _ _ h4
    have hl := szL_sides h.Lines h1
    have hne : 1 ≤ h.Lines.length := by
      cases hq : h.Lines with
      | nil => exact absurd (.inl (.inl (.inl (.inl (.inl (by rw [hq]; rfl)))))) h2
      | cons a b => simp
    have hcnt : h.Lines.length ≤ (linesNot h.Lines 43).length + (linesNot h.Lines 45).length := by
      have : 64 * h.Lines.length ≤ (h.Lines.map szL).sum := szL_len h.Lines
      have key : ∀ ls : List PatchLine, ls.length ≤ (linesNot ls 43).length + (linesNot ls 45).length := by
        intro ls
        induction ls with
        | nil => simp
        | cons q ls ih =>
          have hd : ∀ k : UInt8, (linesNot (q :: ls) k).length = if q.Kind ≠ k then (linesNot ls k).length + 1 else (linesNot ls k).length := by
            intro k
            unfold linesNot
            by_cases e : q.Kind = k
            · rw [if_neg (by simpa using e), List.filter_cons_of_neg (by simpa using e)]
            · rw [if_pos e, List.filter_cons_of_pos (by simpa using e)]; simp
          rw [hd 43, hd 45, List.length_cons]
          by_cases e : q.Kind = 43
          · have e2 : q.Kind ≠ 45 := by rw [e]; decide
            rw [if_pos e2]; split <;> omega
          · rw [if_pos e]; split <;> omega
      exact key h.Lines
    have hsz : szP (h :: hs) = szH h + szP hs := by simp [szP]
    have hszh : szH h = 64 + (h.Lines.map szL).sum := rfl
    have hs1 : ∀ k, sideLines (h :: hs) k = linesNot h.Lines k ++ sideLines hs k := by intro k; simp [sideLines]
    rw [hsz, hszh, hs1 43, hs1 45]
    simp only [List.length_append, List.flatten_append]
    omega
theorem flatten_sub : ∀ {s z : List Str}, s.Sublist z → s.flatten.length ≤ z.flatten.length := by
  intro s z hs
  induction hs with
  | slnil => exact Nat.le_refl _
  | cons a _ ih => simp only [List.flatten_cons, List.length_append]; omega
  | cons_cons a _ ih => simp only [List.flatten_cons, List.length_append]; omega
theorem ScFit.size {x y : List Str} {l : List Change} (h : ScFit x y l) {ctx : Int} (hc : 0 ≤ ctx) (hx : ∀ s ∈ x, lineOk s = true) (hy : ∀ s ∈ y, lineOk s = true) : szP (hunksOf l x y ctx) ≤ 128 * (x.length + y.length) + (x.flatten.length + y.flatten.length) := by
  obtain ⟨h1, h2, h3, _⟩ := h.hunks hc hx hy _ 0 (groupTo_gr l x.length ctx l.length) 0 0 0 rfl rfl (Int.le_refl _) hc (fun _ => rfl)
  have h4 := goodGo_lines _ _ _ h1
  have e : hunksOf l x y ctx = (groupTo l x.length ctx l.length).map (hunkOfG l x y) := rfl
  rw [← e] at h2 h3 h4
  have h2' : (sideLines (hunksOf l x y ctx) 43).Sublist x := by simpa using h2
  have h3' : (sideLines (hunksOf l x y ctx) 45).Sublist y := by simpa using h3
  have := h2'.length_le
  have := h3'.length_le
  have := flatten_sub h2'
  have := flatten_sub h3'
  omega
theorem linesAux_flat2 (s : Str) : ∀ cur : Str, (linesAux cur s).flatten = cur ++ s := by
  induction s with
  | nil => intro cur; unfold linesAux; split <;> simp [*]
  | cons c r ih => intro cur; rw [linesAux_step]; split <;> simp [ih]
theorem lines_flat (a : Str) : (linesOf a).flatten.length = a.length ∧ (linesOf a).length ≤ a.length := ⟨by unfold linesOf; rw [linesAux_flat2]; rfl, linesOf_length a⟩
end Go.AL
namespace Go.AL
open Go
end Go.AL
namespace Go.AL
open Go
def flat (a b : List Int) (done : Nat → Nat → Bool) : List Int :=
  (List.range ((a.length + 1) * (b.length + 1))).map fun p => if done (p / (b.length + 1)) (p % (b.length + 1)) = true then (dist (a.drop (p / (b.length + 1))) (b.drop (p % (b.length + 1))) : Int) else 0
end Go.AL
namespace Go.AL
open Go
def GrX (l : List Change) (m ctx : Int) : Nat → List Hunk → Nat → Prop
  | a, [], k => a = k
  | a, h :: r, k => ∃ b, a < b ∧ opens l ctx a ∧ (∀ c, a < c → c < b → ¬ opens l ctx c) ∧ h = mkH l m ctx a b ∧ GrX l m ctx b r k
theorem GrX.le {l : List Change} {m ctx : Int} : ∀ {hs : List Hunk} {a k : Nat}, GrX l m ctx a hs k → a ≤ k
  | [], a, k, h => Nat.le_of_eq h
  | _ :: _, a, k, ⟨b, h1, _, _, _, h2⟩ => by have := GrX.le h2; omega
theorem GrX.snoc {l : List Change} {m ctx : Int} {k n : Nat} (ho : opens l ctx k) (hk : k < n) (hno : ∀ c, k < c → c < n → ¬ opens l ctx c) : ∀ {hs : List Hunk} {a : Nat}, GrX l m ctx a hs k → GrX l m ctx a (hs ++ [mkH l m ctx k n]) n
  | [], a, h => by
    obtain rfl : a = k := h
    exact ⟨n, hk, ho, hno, rfl, rfl⟩
  | _ :: _, a, ⟨b, h1, h2, h3, h4, h5⟩ => ⟨b, h1, h2, h3, h4, GrX.snoc ho hk hno h5⟩
theorem GrX.last {l : List Change} {m ctx : Int} {k : Nat} (hno : ¬ opens l ctx k) : ∀ {hs : List Hunk} {a : Nat}, GrX l m ctx a hs k → hs ≠ [] → GrX l m ctx a (hs.set (hs.length - 1) (hunkEnd l m ctx k (hs.getD (hs.length - 1) hunk0))) (k + 1)
  | [], _, _, h0 => absurd rfl h0
  | [h], a, ⟨b, h1, h2, h3, h4, h5⟩, _ => by
    obtain rfl : b = k := h5
    subst h4
    refine ⟨b + 1, by omega, h2, fun c hc1 hc2 => ?_, rfl, rfl⟩
    by_cases hcb : c = b
    · rw [hcb]; exact hno
    · exact h3 c hc1 (by omega)
  | h :: h' :: r, a, ⟨b, h1, h2, h3, h4, h5⟩, _ => by
    have ih := GrX.last hno h5 (by simp)
    refine ⟨b, h1, h2, h3, h4, ?_⟩
    simpa using ih
theorem GrX.len {l : List Change} {m ctx : Int} : ∀ {hs : List Hunk} {a k : Nat}, GrX l m ctx a hs k → hs.length ≤ k - a
  | [], _, _, _ => Nat.zero_le _
  | _ :: _, a, k, ⟨b, h1, _, _, _, h2⟩ => by have := GrX.len h2; have := h2.le; simp only [List.length_cons]; omega
end Go.AL
namespace Go.AL
open Go
end Go.AL
namespace Go.AL
open Go
theorem sc_make (m n : Int) : ∀ (l : List Change) (k0 : Nat) (i j : Int), (∀ k, k < l.length → in81 (cAt l k).Old ∧ in81 (cAt l k).OldLen ∧ in81 (cAt l k).New ∧ in81 (cAt l k).NewLen ∧ (cAt l k).OldLen + (cAt l k).NewLen ≠ 0 ∧ (cAt l k).Old - eoI i l k = (cAt l k).New - enI j l k ∧ eoI i l k ≤ (cAt l k).Old ∧ (0 < k0 + k → eoI i l k < (cAt l k).Old)) →
    (m - eoI i l l.length = n - enI j l l.length ∧ eoI i l l.length ≤ m) → scriptGo k0 i j l m n = true
  | [], k0, i, j, _, h => by
    have h1 : m - i = n - j ∧ i ≤ m := h
    simp only [scriptGo, decide_eq_true_eq]; omega
  | c :: r, k0, i, j, h, he => by
    simp only [scriptGo, Bool.and_eq_true, decide_eq_true_eq]
    refine ⟨?_, sc_make m n r (k0 + 1) _ _ (fun k hk => ?_) ?_⟩
    · obtain ⟨h1, h2, h3, h4, h5, h6, h7, h8⟩ := h 0 (by simp)
      have h1 : in81 c.Old := h1
      have h2 : in81 c.OldLen := h2
      have h3 : in81 c.New := h3
      have h4 : in81 c.NewLen := h4
      have h5 : c.OldLen + c.NewLen ≠ 0 := h5
      have h6 : c.Old - i = c.New - j := h6
      have h7 : i ≤ c.Old := h7
      have h8 : 0 < k0 + 0 → i < c.Old := h8
      unfold badC
      rintro (((((((q | q) | q) | q) | q) | q) | q) | ⟨q, q2⟩)
      · exact q h1
      · exact q h2
      · exact q h3
      · exact q h4
      · exact h5 q
      · exact q h6
      · omega
      · have := h8 (by omega); omega
    · have := h (k + 1) (by simpa using hk)
      rw [cAt_cons, eoI_cons, enI_cons] at this
      obtain ⟨e1, e2, e3, e4, e5, e6, e7, e8⟩ := this
      exact ⟨e1, e2, e3, e4, e5, e6, e7, fun h0 => e8 (by omega)⟩
    · rw [List.length_cons, eoI_cons, enI_cons] at he; exact he
theorem eq_make (x y : List Str) : ∀ (l : List Change) (i j : Int), (∀ k, k < l.length → sub x (eoI i l k) (cAt l k).Old = sub y (enI j l k) (cAt l k).New) → sub x (eoI i l l.length) x.length = sub y (enI j l l.length) y.length → EqRuns x y i j l
  | [], _, _, _, h => h
  | c :: r, i, j, h, he => by
    refine ⟨h 0 (by simp), eq_make x y r _ _ (fun k hk => ?_) ?_⟩
    · have := h (k + 1) (by simpa using hk)
      rw [cAt_cons, eoI_cons, enI_cons] at this; exact this
    · rw [List.length_cons, eoI_cons, enI_cons] at he; exact he
theorem sub_get {x : List Str} {p q : Int} {t : Nat} (h0 : 0 ≤ p) (h : p + t < q) : (sub x p q)[t]? = x[(p + t).toNat]? := by
  unfold sub
  rw [List.getElem?_take, if_pos (by omega), List.getElem?_drop]
  congr 1; omega
theorem run_get {x y : List Str} {p q p' q' : Int} (h : sub x p q = sub y p' q') (h0 : 0 ≤ p) (h0' : 0 ≤ p') (hq : q ≤ x.length) (he : q - p = q' - p') {t : Nat} (ht : p + t < q) : ∃ v, x[(p + t).toNat]? = some v ∧ y[(p' + t).toNat]? = some v := by
  have h1 : x[(p + t).toNat]? = some x[(p + t).toNat] := List.getElem?_eq_getElem (by omega)
  refine ⟨_, h1, ?_⟩
  rw [← sub_get (q := q') h0' (by omega), ← h, sub_get h0 ht]; exact h1
theorem mem_spanRun {i j : Int} {n : Nat} {p : Span} (h : p ∈ spanRun i j n) : ∃ t : Nat, t < n ∧ p = ⟨i + t, j + t⟩ := by
  unfold spanRun at h
  obtain ⟨t, h1, h2⟩ := List.mem_map.1 h
  exact ⟨t, List.mem_range.1 h1, h2.symm⟩
theorem matched_eq {x y : List Str} : ∀ (l : List Change) (k0 : Nat) (i j : Int), scriptGo k0 i j l x.length y.length = true → EqRuns x y i j l → 0 ≤ i → 0 ≤ j → ∀ p ∈ matchedGo i j l x.length, EqAt x y p
  | [], k0, i, j, hs, he, hi, hj, p, hp => by
    simp only [scriptGo, decide_eq_true_eq] at hs
    unfold matchedGo at hp
    obtain ⟨t, ht, rfl⟩ := mem_spanRun hp
    have he : sub x i x.length = sub y j y.length := he
    exact ⟨by dsimp only; omega, by dsimp only; omega, run_get he hi hj (by omega) (by omega) (by omega)⟩
  | c :: r, k0, i, j, hs, he, hi, hj, p, hp => by
    have hok := scriptGo_ok _ _ _ _ _ _ hs
    have g := sc_get x.length y.length (c :: r) k0 i j hs 0 (by simp)
    obtain ⟨g1, g2, g3, g4, g5, g6, g7, _⟩ := g
    have g1 : in81 c.Old := g1
    have g2 : in81 c.OldLen := g2
    have g3 : in81 c.New := g3
    have g4 : in81 c.NewLen := g4
    have g6 : c.Old - i = c.New - j := g6
    have g7 : i ≤ c.Old := g7
    simp only [scriptGo, Bool.and_eq_true, decide_eq_true_eq] at hs
    unfold matchedGo at hp
    unfold in81 at g1 g2 g3 g4
    have hm := hok.2.2.2.2.2.2.end_le
    rcases List.mem_append.1 hp with hp | hp
    · obtain ⟨t, ht, rfl⟩ := mem_spanRun hp
      exact ⟨by dsimp only; omega, by dsimp only; omega, run_get he.1 hi hj (by omega) (by omega) (by omega)⟩
    · rw [show max i c.Old + c.OldLen = c.Old + c.OldLen by omega, show j + ((c.Old - i).toNat : Int) + c.NewLen = c.New + c.NewLen by omega] at hp
      exact matched_eq r (k0 + 1) _ _ hs.2 he.2 (by omega) (by omega) p hp
theorem ScFit.pairs {x y : List Str} {l : List Change} (h : ScFit x y l) : ∀ p ∈ matchedOf l x.length, EqAt x y p := matched_eq l 0 0 0 h.sc h.eq (Int.le_refl _) (Int.le_refl _)
def movedC (c : Change) : Change := ⟨c.Old + 1, c.OldLen, c.New + 1, c.NewLen⟩
def movedOf (l : List Change) (k : Nat) : List Change := l.set k (movedC (cAt l k))
def atI (t : List Int) (i : Int) : Int := t.getD i.toNat 0
def downT (l : List Change) (k : Nat) (t : List Int) (f n : Int) : Prop := (f + n < t.length ∧ atI t f = atI t (f + n)) ∧ (k + 1 = l.length ∨ (cAt l k).Old + (cAt l k).OldLen + 1 < (cAt l (k + 1)).Old)
instance (l : List Change) (k : Nat) (t : List Int) (f n : Int) : Decidable (downT l k t f n) := by unfold downT; exact inferInstance
def canDown (l : List Change) (a b : List Int) (k : Nat) : Bool :=
  if (cAt l k).NewLen = 0 then decide (downT l k a (cAt l k).Old (cAt l k).OldLen) else if (cAt l k).OldLen = 0 then decide (downT l k b (cAt l k).New (cAt l k).NewLen) else false
theorem movedOf_length (l : List Change) (k : Nat) : (movedOf l k).length = l.length := by simp [movedOf]
theorem cAt_moved (l : List Change) {k : Nat} (hk : k < l.length) (q : Nat) : cAt (movedOf l k) q = if q = k then movedC (cAt l k) else cAt l q := by
  unfold movedOf
  by_cases h : q = k
  · subst h
    have : ∀ z, cAt (l.set q z) q = z := fun z => by unfold cAt; simp [hk]
    rw [if_pos rfl, this]
  · rw [if_neg h]; unfold cAt
    simp only [List.getD_eq_getElem?_getD]
    rw [List.getElem?_set_ne (Ne.symm h)]
theorem eo_moved (l : List Change) {k : Nat} (hk : k < l.length) (q : Nat) : eoI 0 (movedOf l k) q = eoI 0 l q + (if q = k + 1 then 1 else 0) := by
  cases q with
  | zero => simp [eoI]
  | succ q =>
    rw [eoI_succ, eoI_succ, cAt_moved l hk]
    by_cases h : q = k
    · subst h; rw [if_pos rfl, if_pos rfl]; simp only [endC, movedC]; omega
    · rw [if_neg h, if_neg (by omega)]; omega
theorem en_moved (l : List Change) {k : Nat} (hk : k < l.length) (q : Nat) : enI 0 (movedOf l k) q = enI 0 l q + (if q = k + 1 then 1 else 0) := by
  cases q with
  | zero => simp [enI]
  | succ q =>
    rw [enI_succ, enI_succ, cAt_moved l hk]
    by_cases h : q = k
    · subst h; rw [if_pos rfl, if_pos rfl]; simp only [endN, movedC]; omega
    · rw [if_neg h, if_neg (by omega)]; omega
structure IdsOf (x : List Str) (a : List Int) : Prop where
  len : a.length = x.length
  inj : ∀ (i j : Nat) (u v : Str) (z : Int), x[i]? = some u → x[j]? = some v → a[i]? = some z → a[j]? = some z → u = v
theorem ScFit.down {x y : List Str} {l : List Change} {a b : List Int} (h : ScFit x y l) (ha : IdsOf x a) (hb : IdsOf y b) {k : Nat} (hk : k < l.length) (hd : canDown l a b k = true) : ScFit x y (movedOf l k) := by
  have hlx := h.lx
  have hly := h.ly
  have hg := sc_get _ _ _ 0 0 0 h.sc
  have hge := sc_end _ _ _ 0 0 0 h.sc
  have hq := eq_get _ _ _ _ _ h.eq
  have hqe := eq_end _ _ _ _ _ h.eq
  have hok := h.ok
  obtain ⟨c, hc⟩ : ∃ c, c = cAt l k := ⟨_, rfl⟩
  obtain ⟨g1, g2, g3, g4, g5, g6, g7, g8⟩ := hg k hk
  have hb4 := hok.get k hk
  rw [← hc] at g1 g2 g3 g4 g5 g6 g7 g8 hb4
  unfold in81 at g1 g2 g3 g4
  have eo1 : eoI 0 l (k + 1) = c.Old + c.OldLen := by rw [eoI_succ, ← hc]; rfl
  have en1 : enI 0 l (k + 1) = c.New + c.NewLen := by rw [enI_succ, ← hc]; rfl
  obtain ⟨E, E', hE1, hE2, hE3, hE4, hE5, hEn⟩ : ∃ E E' : Int, sub x (c.Old + c.OldLen) E = sub y (c.New + c.NewLen) E' ∧ E - (c.Old + c.OldLen) = E' - (c.New + c.NewLen) ∧ E ≤ x.length ∧ E' ≤ y.length ∧ (c.Old + c.OldLen < E) ∧ (k + 1 < l.length → E = (cAt l (k + 1)).Old ∧ E' = (cAt l (k + 1)).New ∧ c.Old + c.OldLen + 1 < E) := by
    by_cases hl : k + 1 = l.length
    · rw [← hl, eo1, en1] at hge hqe
      refine ⟨x.length, y.length, hqe, by omega, by omega, by omega, ?_, fun q => absurd hl (by omega)⟩
      unfold canDown at hd
      rw [← hc] at hd
      split at hd
      · have := (of_decide_eq_true hd).1.1; rw [ha.len] at this; omega
      · split at hd
        · have := (of_decide_eq_true hd).1.1; rw [hb.len] at this; omega
        · cases hd
    · have hl : k + 1 < l.length := by omega
      obtain ⟨f1, f2, f3, f4, f5, f6, f7, f8⟩ := hg (k + 1) hl
      have f9 := hq (k + 1) hl
      have f10 := hok.get (k + 1) hl
      rw [eo1, en1] at f6 f9
      rw [eo1] at f7
      unfold in81 at f2 f4
      have hroom : c.Old + c.OldLen + 1 < (cAt l (k + 1)).Old := by
        unfold canDown at hd
        rw [← hc] at hd
        split at hd
        · have := (of_decide_eq_true hd).2; rw [← hc] at this; omega
        · split at hd
          · have := (of_decide_eq_true hd).2; rw [← hc] at this; omega
          · cases hd
      exact ⟨_, _, f9, by omega, by omega, by omega, by omega, fun _ => ⟨rfl, rfl, hroom⟩⟩
  have hv : ∃ v, x[c.Old.toNat]? = some v ∧ y[c.New.toNat]? = some v := by
    obtain ⟨v, v1, v2⟩ := run_get (t := 0) hE1 (by omega) (by omega) (by omega) hE2 (by omega)
    simp only [Int.natCast_zero, Int.add_zero] at v1 v2
    unfold canDown at hd
    rw [← hc] at hd
    split at hd
    · rename_i hn
      have := (of_decide_eq_true hd).1.2
      rw [hn, Int.add_zero] at v2
      refine ⟨v, ?_, v2⟩
      have l1 : c.Old.toNat < a.length := by rw [ha.len]; omega
      have l2 : (c.Old + c.OldLen).toNat < a.length := by rw [ha.len]; omega
      have hx : x[c.Old.toNat]? = some x[c.Old.toNat] := List.getElem?_eq_getElem (by omega)
      have ea : a[c.Old.toNat]? = some (atI a c.Old) := by unfold atI; rw [List.getD_eq_getElem?_getD, List.getElem?_eq_getElem l1]; rfl
      have eb : a[(c.Old + c.OldLen).toNat]? = some (atI a (c.Old + c.OldLen)) := by unfold atI; rw [List.getD_eq_getElem?_getD, List.getElem?_eq_getElem l2]; rfl
      rw [← this] at eb
      have := ha.inj _ _ _ _ _ hx v1 ea eb
      rw [hx, this]
    · split at hd
      · rename_i _ hn
        have := (of_decide_eq_true hd).1.2
        rw [hn, Int.add_zero] at v1
        refine ⟨v, v1, ?_⟩
        have l1 : c.New.toNat < b.length := by rw [hb.len]; omega
        have l2 : (c.New + c.NewLen).toNat < b.length := by rw [hb.len]; omega
        have hx : y[c.New.toNat]? = some y[c.New.toNat] := List.getElem?_eq_getElem (by omega)
        have ea : b[c.New.toNat]? = some (atI b c.New) := by unfold atI; rw [List.getD_eq_getElem?_getD, List.getElem?_eq_getElem l1]; rfl
        have eb : b[(c.New + c.NewLen).toNat]? = some (atI b (c.New + c.NewLen)) := by unfold atI; rw [List.getD_eq_getElem?_getD, List.getElem?_eq_getElem l2]; rfl
        rw [← this] at eb
        have := hb.inj _ _ _ _ _ hx v2 ea eb
        rw [hx, this]
      · cases hd
  obtain ⟨v, v1, v2⟩ := hv
  have hen0 : 0 ≤ eoI 0 l k ∧ 0 ≤ enI 0 l k := by
    cases k with
    | zero => simp [eoI, enI]
    | succ k =>
      obtain ⟨f1, f2, f3, f4, _⟩ := hg k (by omega)
      unfold in81 at f1 f2 f3 f4
      rw [eoI_succ, enI_succ]; unfold endC endN; omega
  have htail : sub x (c.Old + c.OldLen + 1) E = sub y (c.New + c.NewLen + 1) E' := by
    have := run_tail (e := E - (c.Old + c.OldLen) - 1) hE1 (by omega) (by omega) (by omega) (by omega) hE2
    rw [show E - (E - (c.Old + c.OldLen) - 1) = c.Old + c.OldLen + 1 by omega, show E' - (E - (c.Old + c.OldLen) - 1) = c.New + c.NewLen + 1 by omega] at this
    exact this
  refine ⟨hlx, hly, sc_make _ _ _ 0 0 0 (fun q hql => ?_) ?_, eq_make _ _ _ 0 0 (fun q hql => ?_) ?_⟩
  · rw [movedOf_length] at hql
    rw [cAt_moved l hk, eo_moved l hk, en_moved l hk]
    by_cases e : q = k
    · rw [if_pos e, if_neg (show ¬ q = k + 1 by omega), e, ← hc]
      unfold in81
      simp only [movedC]
      refine ⟨by omega, g2, by omega, g4, g5, by omega, by omega, fun _ => by omega⟩
    · rw [if_neg e]
      obtain ⟨f1, f2, f3, f4, f5, f6, f7, f8⟩ := hg q hql
      refine ⟨f1, f2, f3, f4, f5, ?_, ?_, ?_⟩
      · by_cases e2 : q = k + 1
        · rw [if_pos e2]; omega
        · rw [if_neg e2]; omega
      · by_cases e2 : q = k + 1
        · rw [if_pos e2]; have := f8 (by omega); omega
        · rw [if_neg e2]; omega
      · intro h0
        by_cases e2 : q = k + 1
        · rw [if_pos e2, e2, eo1]
          have := (hEn (by omega))
          omega
        · rw [if_neg e2]; have := f8 h0; omega
  · rw [movedOf_length, eo_moved l hk, en_moved l hk]
    by_cases e2 : l.length = k + 1
    · rw [if_pos e2, e2, eo1, en1]
      rw [e2, eo1, en1] at hge
      have h1 : E ≤ x.length := hE3
      omega
    · rw [if_neg e2]; omega
  · rw [movedOf_length] at hql
    rw [cAt_moved l hk, eo_moved l hk, en_moved l hk]
    by_cases e : q = k
    · rw [if_pos e, if_neg (show ¬ q = k + 1 by omega), e, ← hc]
      simp only [movedC, Int.add_zero]
      have := hq k hk
      rw [← hc] at this
      rw [sub_snoc hen0.1 g7 v1, sub_snoc hen0.2 (by omega) v2, this]
    · rw [if_neg e]
      by_cases e2 : q = k + 1
      · rw [if_pos e2]
        subst e2
        obtain ⟨q1, q2, _⟩ := hEn hql
        rw [eo1, en1, ← q1, ← q2]; exact htail
      · rw [if_neg e2, Int.add_zero, Int.add_zero]
        exact hq q hql
  · rw [movedOf_length, eo_moved l hk, en_moved l hk]
    by_cases e2 : l.length = k + 1
    · rw [if_pos e2]
      rw [e2, eo1, en1] at hqe hge ⊢
      have := run_tail (e := x.length - (c.Old + c.OldLen) - 1) hqe (by omega) (by omega) (by omega) (by omega) (by omega)
      rw [show (x.length : Int) - (x.length - (c.Old + c.OldLen) - 1) = c.Old + c.OldLen + 1 by omega, show (y.length : Int) - (x.length - (c.Old + c.OldLen) - 1) = c.New + c.NewLen + 1 by omega] at this
      exact this
    · rw [if_neg e2, Int.add_zero, Int.add_zero]; exact hqe
section
variable {x y : List Str} {a b : List Int} (ha : IdsOf x a) (hb : IdsOf y b)
include ha hb
omit ha hb in
omit ha hb in
end
end Go.AL
namespace Go.AL
open Go
structure Made12 (on nn a b : Str) (l : List Change) (ctx : Int) : Prop where
  chk : check12 ⟨on, nn, hunksOf l (linesOf a) (linesOf b) ctx⟩ = 0
  wr : (writeOf ⟨on, nn, hunksOf l (linesOf a) (linesOf b) ctx⟩).length ≤ 16777216
  fit : PFit ⟨on, nn, hunksOf l (linesOf a) (linesOf b) ctx⟩
  rg : ∀ h ∈ hunksOf l (linesOf a) (linesOf b) ctx, (-4611686018427387904 ≤ h.Old ∧ h.Old ≤ 4611686018427387904) ∧ (-4611686018427387904 ≤ h.New ∧ h.New ≤ 4611686018427387904)
  sz : szP (hunksOf l (linesOf a) (linesOf b) ctx) ≤ 268435456
end Go.AL
namespace Go.AL
open Go
section
variable {x y : List Str} {l : List Change}
end
end Go.AL
namespace Go.AL
open Go
end Go.AL
namespace Go.AL
open Go
def digitB (c : UInt8) : Bool := decide (48 ≤ c.toNat ∧ c.toNat ≤ 57)
def digsAt (s : Str) : Str := s.takeWhile digitB
def decV (ds : Str) : Nat := ds.foldl (fun n c => 10 * n + (c.toNat - 48)) 0
def numAt (s : Str) : Option (Nat × Nat) :=
  if digsAt s = [] ∨ (s.head? = some 48 ∧ 1 < (digsAt s).length) ∨ 2147483647 < decV (digsAt s) then none else some (decV (digsAt s), (digsAt s).length)
theorem decV_snoc (ds : Str) (c : UInt8) : decV (ds ++ [c]) = 10 * decV ds + (c.toNat - 48) := by
  unfold decV; rw [List.foldl_append]; rfl
theorem dig_toNat (k : Nat) (h : k < 10) : (UInt8.ofNat (48 + k)).toNat = 48 + k := by
  rw [UInt8.toNat_ofNat']; omega
theorem dec_digits (u : Nat) : (∀ c ∈ Lib.decDigits u, digitB c = true) ∧ decV (Lib.decDigits u) = u ∧ Lib.decDigits u ≠ [] ∧ ((Lib.decDigits u).head? = some 48 → u = 0) ∧ (1 < (Lib.decDigits u).length → 10 ≤ u) := by
  induction u using Nat.strongRecOn with
  | _ u ih =>
    rw [Lib.decDigits]
    split
    · rename_i h
      refine ⟨?_, ?_, by simp, ?_, by simp⟩
      · intro c hc
        simp only [List.mem_cons, List.not_mem_nil, or_false] at hc
        subst hc; unfold digitB; rw [dig_toNat u h]; simp; omega
      · unfold decV; simp only [List.foldl_cons, List.foldl_nil]; rw [dig_toNat u h]; omega
      · intro h1
        simp only [List.head?_cons, Option.some.injEq] at h1
        have := congrArg UInt8.toNat h1
        rw [dig_toNat u h] at this
        have e : (48 : UInt8).toNat = 48 := rfl
        omega
    · rename_i h
      obtain ⟨h1, h2, h3, h4, h5⟩ := ih (u / 10) (by omega)
      have h6 : u % 10 < 10 := Nat.mod_lt _ (by omega)
      refine ⟨?_, ?_, by simp, ?_, fun _ => by omega⟩
      · intro c hc
        rcases List.mem_append.1 hc with hc | hc
        · exact h1 c hc
        · simp only [List.mem_cons, List.not_mem_nil, or_false] at hc
          subst hc; unfold digitB; rw [dig_toNat _ h6]; simp; omega
      · rw [decV_snoc, h2, dig_toNat _ h6]; omega
      · intro h7
        rw [List.head?_append] at h7
        cases hd : (Lib.decDigits (u / 10)).head? with
        | none => exact absurd (List.head?_eq_none_iff.1 hd) h3
        | some x =>
          rw [hd] at h7
          have h7 : x = 48 := by simpa using h7
          have := h4 (by rw [hd, h7])
          omega
theorem digs_app {ds t : Str} (h : ∀ c ∈ ds, digitB c = true) (ht : ∀ c, t.head? = some c → digitB c = false) : digsAt (ds ++ t) = ds := by
  unfold digsAt
  rw [List.takeWhile_append_of_pos h]
  cases t with
  | nil => simp
  | cons c r => rw [List.takeWhile_cons, ht c rfl]; simp
theorem fmt_dec {n : Int} (h0 : 0 ≤ n) (h1 : n ≤ 2147483647) : fmtOf n = Lib.decDigits n.toNat := by
  unfold fmtOf Lib.itoa; rw [if_neg (by omega), if_neg (by omega)]
theorem num_fmt {n : Int} {t : Str} (h0 : 0 ≤ n) (h1 : n ≤ 2147483647) (ht : ∀ c, t.head? = some c → digitB c = false) : numAt (fmtOf n ++ t) = some (n.toNat, (fmtOf n).length) := by
  rw [fmt_dec h0 h1]
  obtain ⟨h2, h3, h4, h5, h6⟩ := dec_digits n.toNat
  have e := digs_app h2 ht
  unfold numAt
  rw [e, h3]
  rw [if_neg]
  rintro (h | ⟨h, h'⟩ | h)
  · exact h4 h
  · have h7 : (Lib.decDigits n.toNat).head? = some 48 := by
      rw [List.head?_append] at h
      cases hd : (Lib.decDigits n.toNat).head? with
      | none => exact absurd (List.head?_eq_none_iff.1 hd) h4
      | some x => rw [hd] at h; simpa using h
    have := h5 h7; have := h6 h'; omega
  · omega
def rngFin (s : Str) (a c : Nat) (e : Nat) : Option (Int × Int × Nat) :=
  if rangeOf (if 0 < c then (a : Int) - 1 else a) c = s.take e then some ((if 0 < c then (a : Int) - 1 else a), (c : Int), e) else none
def rngAt (s : Str) : Option (Int × Int × Nat) :=
  match numAt s with
  | none => none
  | some (a, k) => if s[k]? = some 44 then (match numAt (s.drop (k + 1)) with | none => none | some (c, k2) => rngFin s a c (k + 1 + k2)) else rngFin s a 1 k
theorem rngFin_ok {s : Str} {a c e : Nat} {st : Int} (hst : st = if 0 < c then (a : Int) - 1 else a) (h : rangeOf st c = s.take e) : rngFin s a c e = some (st, (c : Int), e) := by
  unfold rngFin; rw [← hst, if_pos h]
theorem rng_range {a n : Int} {t : Str} (h0 : 0 ≤ a) (h1 : 0 ≤ n) (h2 : a ≤ 2147483647) (h3 : n ≤ 2147483647 - a) (ht : ∀ c, t.head? = some c → digitB c = false ∧ c ≠ 44) : rngAt (rangeOf a n ++ t) = some (a, n, (rangeOf a n).length) := by
  have hr : rangeOf a n = if n = 0 then fmtOf a ++ [44, 48] else if n = 1 then fmtOf (a + 1) else fmtOf (a + 1) ++ [44] ++ fmtOf n := by
    unfold rangeOf; rw [if_neg (by omega)]
  have hf0 : fmtOf 0 = [48] := by rw [fmt_dec (by omega) (by omega)]; rw [Lib.decDigits]; rfl
  have hd44 : digitB 44 = false := by decide
  have hT : (rangeOf a n ++ t).take (rangeOf a n).length = rangeOf a n := List.take_left
  by_cases hn0 : n = 0
  · subst hn0
    rw [if_pos rfl] at hr
    have e1 : rangeOf a 0 ++ t = fmtOf a ++ (44 :: (fmtOf 0 ++ t)) := by rw [hr, hf0]; simp
    have ed : (fmtOf a ++ (44 :: (fmtOf 0 ++ t))).drop ((fmtOf a).length + 1) = fmtOf 0 ++ t := by rw [List.drop_append]; simp
    have el : (fmtOf a).length + 1 + (fmtOf 0).length = (rangeOf a 0).length := by rw [hr, hf0]; simp
    rw [e1] at hT ⊢
    unfold rngAt
    rw [num_fmt h0 h2 (by intro c hc; cases hc; exact hd44)]
    dsimp only
    rw [if_pos (by simp), ed, num_fmt (n := 0) (by omega) (by omega) (fun c hc => (ht c hc).1)]
    dsimp only
    rw [el]
    exact rngFin_ok (st := a) (c := 0) (by simp; omega) hT.symm
  · by_cases hn1 : n = 1
    · subst hn1
      rw [if_neg (by omega), if_pos rfl] at hr
      rw [hr] at hT ⊢
      unfold rngAt
      rw [num_fmt (by omega) (by omega) (fun c hc => (ht c hc).1)]
      dsimp only
      rw [if_neg]
      · exact rngFin_ok (st := a) (c := 1) (by simp; omega) (by rw [hT]; exact hr)
      · rw [List.getElem?_append_right (Nat.le_refl _), Nat.sub_self]
        cases t with
        | nil => simp
        | cons c r => simp; exact fun e => (ht c rfl).2 e
    · rw [if_neg hn0, if_neg hn1] at hr
      have e1 : rangeOf a n ++ t = fmtOf (a + 1) ++ (44 :: (fmtOf n ++ t)) := by rw [hr]; simp
      have ed : (fmtOf (a + 1) ++ (44 :: (fmtOf n ++ t))).drop ((fmtOf (a + 1)).length + 1) = fmtOf n ++ t := by rw [List.drop_append]; simp
      have el : (fmtOf (a + 1)).length + 1 + (fmtOf n).length = (rangeOf a n).length := by rw [hr]; simp; omega
      have e4 : ((n.toNat : Nat) : Int) = n := by omega
      rw [e1] at hT ⊢
      unfold rngAt
      rw [num_fmt (by omega) (by omega) (by intro c hc; cases hc; exact hd44)]
      dsimp only
      rw [if_pos (by simp), ed, num_fmt (n := n) (by omega) (by omega) (fun c hc => (ht c hc).1)]
      dsimp only
      rw [el]
      have := rngFin_ok (s := fmtOf (a + 1) ++ (44 :: (fmtOf n ++ t))) (a := (a + 1).toNat) (c := n.toNat) (e := (rangeOf a n).length) (st := a) (by rw [if_pos (by omega)]; omega) (by rw [hT, e4])
      rw [this, e4]
def octV (a b c : UInt8) : Option UInt8 :=
  if ((((((a.toNat < 48 ∨ 55 < a.toNat) ∨ b.toNat < 48) ∨ 55 < b.toNat) ∨ c.toNat < 48) ∨ 55 < c.toNat) ∨ 256 ≤ 64 * (a.toNat - 48) + 8 * (b.toNat - 48) + (c.toNat - 48)) then none
  else some (UInt8.ofNat (64 * (a.toNat - 48) + 8 * (b.toNat - 48) + (c.toNat - 48)))
def escAt : Str → Option (UInt8 × Nat)
  | [] => none
  | d :: r => if d.toNat = 34 ∨ d.toNat = 92 then some (d, 1) else if d.toNat = 110 then some (10, 1) else if d.toNat = 116 then some (9, 1) else match r with
    | e :: f :: _ => (octV d e f).map fun x => (x, 3)
    | _ => none
theorem escAt_pos {s : Str} {x : UInt8} {k : Nat} (h : escAt s = some (x, k)) : 1 ≤ k ∧ k ≤ s.length := by
  cases s with
  | nil => cases h
  | cons d r =>
    simp only [escAt] at h
    split at h
    · cases h; simp
    · split at h
      · cases h; simp
      · split at h
        · cases h; simp
        · split at h
          · simp only [Option.map_eq_some_iff] at h
            obtain ⟨_, _, h⟩ := h
            cases h; simp
          · cases h
def wordGo (s : Str) (i : Nat) (acc : Str) : Option (Str × Nat) :=
  if h : i < s.length then
    if s[i].toNat = 34 then some (acc, i + 1)
    else if s[i].toNat = 92 then (match he : escAt (s.drop (i + 1)) with | none => none | some (x, k) => wordGo s (i + 1 + k) (acc ++ [x]))
    else wordGo s (i + 1) (acc ++ [s[i]])
  else none
termination_by s.length - i
decreasing_by all_goals omega
def wordAt (s : Str) : Option (Str × Nat) :=
  if s.head? = some 34 then (match wordGo s 1 [] with | none => none | some (w, k) => if quoteOf w = s.take k then some (w, k) else none)
  else if s.takeWhile plainB = [] then none else some (s.takeWhile plainB, (s.takeWhile plainB).length)
theorem wordGo_pos {s : Str} (n : Nat) : ∀ {i : Nat} {acc w : Str} {k : Nat}, s.length - i ≤ n → wordGo s i acc = some (w, k) → i < k ∧ k ≤ s.length ∧ w.length + i ≤ acc.length + k := by
  induction n with
  | zero =>
    intro i acc w k hn h
    rw [wordGo, dif_neg (by omega)] at h; cases h
  | succ n ih =>
    intro i acc w k hn h
    rw [wordGo] at h
    split at h
    · rename_i hi
      split at h
      · cases h; omega
      · split at h
        · split at h
          · cases h
          · rename_i x k' he
            have h1 := escAt_pos he
            rw [List.length_drop] at h1
            have := ih (by omega) h
            rw [List.length_append] at this; simp only [List.length_cons, List.length_nil] at this; omega
        · have := ih (by omega) h
          rw [List.length_append] at this; simp only [List.length_cons, List.length_nil] at this; omega
    · cases h
theorem esc_step (c : UInt8) (pre r acc : Str) : wordGo (pre ++ (escOf c ++ (r ++ [34]))) pre.length acc = wordGo (pre ++ (escOf c ++ (r ++ [34]))) (pre.length + (escOf c).length) (acc ++ [c]) := by
  have hc := c.toNat_lt
  have hget : ∀ (d : UInt8) (l : Str), (pre ++ d :: l)[pre.length]? = some d := by intro d l; rw [List.getElem?_append_right (Nat.le_refl _), Nat.sub_self]; rfl
  have hdrop : ∀ (d : UInt8) (l : Str), (pre ++ d :: l).drop (pre.length + 1) = l := by intro d l; rw [List.drop_append]; simp
  have e92 : (92 : UInt8).toNat = 92 := rfl
  have e110 : (110 : UInt8).toNat = 110 := rfl
  have e116 : (116 : UInt8).toNat = 116 := rfl
  have key : ∀ (l : Str) (k : Nat), escAt (l ++ (r ++ [34])) = some (c, k) → k = l.length → wordGo (pre ++ ((92 :: l) ++ (r ++ [34]))) pre.length acc = wordGo (pre ++ ((92 :: l) ++ (r ++ [34]))) (pre.length + (92 :: l).length) (acc ++ [c]) := by
    intro l k hl hk
    subst hk
    rw [wordGo, dif_pos (by simp)]
    have hg : (pre ++ ((92 :: l) ++ (r ++ [34])))[pre.length]'(by simp) = 92 := by
      have := hget 92 (l ++ (r ++ [34]))
      rw [List.getElem?_eq_getElem (by simp)] at this
      exact Option.some.inj this
    rw [hg, if_neg (by decide), if_pos e92]
    have hd : (pre ++ ((92 :: l) ++ (r ++ [34]))).drop (pre.length + 1) = l ++ (r ++ [34]) := hdrop 92 _
    split
    · rename_i he; rw [hd, hl] at he; cases he
    · rename_i x k' he
      rw [hd, hl] at he; cases he
      rw [List.length_cons, show pre.length + 1 + l.length = pre.length + (l.length + 1) by omega]
  unfold escOf
  split
  · rename_i h
    refine key [c] 1 ?_ rfl
    simp only [List.cons_append, List.nil_append, escAt]
    rw [if_pos h]
  · rename_i h
    split
    · rename_i h1
      refine key [110] 1 ?_ rfl
      simp only [List.cons_append, List.nil_append, escAt]
      rw [if_neg (by decide), if_pos (by decide)]
      have : c = 10 := UInt8.toNat_inj.1 h1
      rw [this]
    · rename_i h1
      split
      · rename_i h2
        refine key [116] 1 ?_ rfl
        simp only [List.cons_append, List.nil_append, escAt]
        rw [if_neg (by decide), if_neg (by decide), if_pos (by decide)]
        have : c = 9 := UInt8.toNat_inj.1 h2
        rw [this]
      · rename_i h2
        split
        · rename_i h3
          refine key (octOf c) 3 ?_ (by rw [octOf_bytes]; rfl)
          rw [octOf_bytes]
          have t : ∀ k, k < 8 → (UInt8.ofNat (48 + k)).toNat = 48 + k := fun k hk => dig_toNat k (by omega)
          have t1 := t (c.toNat / 64) (by omega)
          have t2 := t (c.toNat / 8 % 8) (by omega)
          have t3 := t (c.toNat % 8) (by omega)
          simp only [List.cons_append, List.nil_append, escAt]
          rw [t1, if_neg (by omega), if_neg (by omega), if_neg (by omega)]
          unfold octV
          rw [t1, t2, t3, if_neg (by omega)]
          simp only [Option.map_some, Option.some.injEq, Prod.mk.injEq, and_true]
          apply UInt8.toNat_inj.1
          rw [UInt8.toNat_ofNat']; omega
        · rw [wordGo, dif_pos (by simp)]
          have hg : (pre ++ ([c] ++ (r ++ [34])))[pre.length]'(by simp) = c := by
            have := hget c (r ++ [34])
            rw [List.getElem?_eq_getElem (by simp)] at this
            exact Option.some.inj this
          rw [hg, if_neg (by omega), if_neg (by omega)]
          rfl
theorem word_go (w : Str) : ∀ (pre acc : Str), wordGo (pre ++ ((w.map escOf).flatten ++ [34])) pre.length acc = some (acc ++ w, (pre ++ ((w.map escOf).flatten ++ [34])).length) := by
  induction w with
  | nil =>
    intro pre acc
    rw [wordGo, dif_pos (by simp)]
    have hg : (pre ++ ((([] : Str).map escOf).flatten ++ [34]))[pre.length]'(by simp) = 34 := by simp
    rw [hg, if_pos (show (34 : UInt8).toNat = 34 from rfl)]; simp
  | cons c r ih =>
    intro pre acc
    have e : (((c :: r).map escOf).flatten ++ [34]) = escOf c ++ ((r.map escOf).flatten ++ [34]) := by simp
    rw [e, esc_step]
    have h1 := ih (pre ++ escOf c) (acc ++ [c])
    rw [List.append_assoc, List.length_append, List.append_assoc acc] at h1
    exact h1
theorem takeWhile_all {p : UInt8 → Bool} : ∀ {w : Str}, w.all p = true → w.takeWhile p = w
  | [], _ => rfl
  | c :: r, h => by
    simp only [List.all_cons, Bool.and_eq_true] at h
    rw [List.takeWhile_cons, if_pos h.1, takeWhile_all h.2]
theorem word_quote (w : Str) : wordAt (quoteOf w) = some (w, (quoteOf w).length) := by
  unfold wordAt
  by_cases h : w ≠ [] ∧ w.all plainB = true
  · have e : quoteOf w = w := by unfold quoteOf; rw [if_pos h]
    rw [e]
    have e2 : w.takeWhile plainB = w := by
      exact takeWhile_all h.2
    rw [e2, if_neg, if_neg h.1]
    intro h34
    cases w with
    | nil => exact h.1 rfl
    | cons c r =>
      simp only [List.head?_cons, Option.some.injEq] at h34
      subst h34
      have := h.2
      simp only [List.all_cons, Bool.and_eq_true] at this
      exact absurd this.1 (by decide)
  · have e : quoteOf w = [34] ++ ((w.map escOf).flatten ++ [34]) := by unfold quoteOf; rw [if_neg h]; rfl
    have e2 := word_go w [34] []
    rw [← e] at e2
    rw [if_pos (by rw [e]; rfl), show wordGo (quoteOf w) 1 [] = _ from e2]
    dsimp only
    rw [List.nil_append, List.take_length, if_pos rfl]
end Go.AL
namespace Go.AL
open Go
def linesS (s : Str) : Option (List Str) := if s = [] then some [] else if ended s = true then some ((linesOf s).map List.dropLast) else none
theorem linesAux_cut (a b cur : Str) (h : (10 : UInt8) ∉ a) : linesAux cur (a ++ 10 :: b) = (cur ++ a ++ [10]) :: linesAux [] b := by
  induction a generalizing cur with
  | nil => simp [linesAux]
  | cons c r ih =>
    simp only [List.mem_cons, not_or] at h
    rw [List.cons_append, linesAux_step, if_neg (fun e => h.1 e.symm), ih _ h.2]; simp
def withLf (ts : List Str) : Str := (ts.map fun t => t ++ [10]).flatten
theorem lines_withLf : ∀ (ts : List Str), (∀ t ∈ ts, (10 : UInt8) ∉ t) → linesOf (withLf ts) = ts.map fun t => t ++ [10]
  | [], _ => rfl
  | t :: r, h => by
    have ih := lines_withLf r (fun x hx => h x (by simp [hx]))
    have e : withLf (t :: r) = t ++ 10 :: withLf r := by unfold withLf; simp
    have h1 := linesAux_cut t (withLf r) [] (h t (by simp))
    unfold linesOf at ih ⊢
    rw [e, h1, ih]; simp
theorem ended_app (a : Str) : ended (a ++ [10]) = true := by unfold ended; simp
theorem ended_iff {s : Str} : ended s = true ↔ ∃ a, s = a ++ [10] := by
  constructor
  · intro h
    unfold ended at h
    have h : s.getLast? = some 10 := by simpa using h
    obtain ⟨ys, hy⟩ := List.getLast?_eq_some_iff.1 h
    exact ⟨ys, hy⟩
  · rintro ⟨a, rfl⟩; exact ended_app a
theorem withLf_ended {ts : List Str} (h : ts ≠ []) : ended (withLf ts) = true := by
  have hl := List.dropLast_concat_getLast h
  rw [ended_iff]
  refine ⟨withLf ts.dropLast ++ ts.getLast h, ?_⟩
  conv => lhs; rw [← hl]
  unfold withLf; simp
theorem linesS_with (ts : List Str) (h : ∀ t ∈ ts, (10 : UInt8) ∉ t) : linesS (withLf ts) = some ts := by
  unfold linesS
  by_cases hn : ts = []
  · subst hn; rfl
  · have he := withLf_ended hn
    have h0 : withLf ts ≠ [] := fun e => by rw [e] at he; cases he
    rw [if_neg h0, if_pos he, lines_withLf ts h, List.map_map]
    congr 1
    conv => rhs; rw [← List.map_id ts]
    refine List.map_congr_left fun t _ => ?_
    simp
def noNl : Str := [92, 32, 78, 111, 32, 110, 101, 119, 108, 105, 110, 101, 32, 97, 116, 32, 101, 110, 100, 32, 111, 102, 32, 102, 105, 108, 101]
theorem markS_eq : markS = [10] ++ noNl ++ [10] := rfl
theorem withLf_app (a b : List Str) : withLf (a ++ b) = withLf a ++ withLf b := by unfold withLf; simp
theorem withLf_cons (a : Str) (b : List Str) : withLf (a :: b) = a ++ [10] ++ withLf b := by unfold withLf; simp
theorem digs_noLf {n : Int} (h0 : 0 ≤ n) (h1 : n ≤ 2147483647) : (10 : UInt8) ∉ fmtOf n := by
  rw [fmt_dec h0 h1]
  intro h
  have := (dec_digits n.toNat).1 _ h
  revert this; decide
theorem fmt_noLf (n : Int) : (10 : UInt8) ∉ fmtOf n := by
  by_cases h : n < 0 ∨ 2147483647 < n
  · unfold fmtOf; rw [if_pos h]; simp
  · exact digs_noLf (by omega) (by omega)
theorem esc_noLf (c : UInt8) : (10 : UInt8) ∉ escOf c := by
  have hc := c.toNat_lt
  have hn : ∀ {d : UInt8}, d.toNat ≠ 10 → (10 : UInt8) ≠ d := fun h e => h (by rw [← e]; rfl)
  unfold escOf
  split
  · rename_i h; simp only [List.mem_cons, List.not_mem_nil, or_false, not_or]; exact ⟨by decide, hn (by omega)⟩
  · split
    · decide
    · split
      · decide
      · split
        · rw [octOf_bytes]
          have t : ∀ k, k < 8 → (10 : UInt8) ≠ UInt8.ofNat (48 + k) := fun k hk => hn (by rw [dig_toNat k (by omega)]; omega)
          simp only [List.mem_cons, List.not_mem_nil, or_false, not_or]
          exact ⟨by decide, t _ (by omega), t _ (by omega), t _ (by omega)⟩
        · simp only [List.mem_cons, List.not_mem_nil, or_false]; exact hn (by omega)
theorem quote_noLf (w : Str) : (10 : UInt8) ∉ quoteOf w := by
  unfold quoteOf
  split
  · rename_i h
    intro hm
    have := List.all_eq_true.1 h.2 _ hm
    revert this; decide
  · simp only [List.mem_cons, List.mem_append, List.mem_flatten, List.mem_map, List.not_mem_nil, or_false, not_or, not_exists, not_and]
    refine ⟨by decide, ?_, by decide⟩
    rintro l ⟨x, _, rfl⟩
    exact esc_noLf x
def trimS (t : Str) : Str := if ended t = true then t.dropLast else t
theorem check12_good {p : Patch} (h : check12 p = 0) : goodOf p.Hunks = true := by
  unfold check12 at h
  split at h
  · cases h
  · split at h
    · cases h
    · rename_i h1; simpa using h1
end Go.AL
namespace Go.AL
open Go
end Go.AL
namespace Go.AL
open Go
structure CHunk where
  At : List Int
  Rows : List Row
  deriving DecidableEq
structure Comb where
  Path : Str
  Dense : Bool
  Parents : Int
  Hunks : List CHunk
  deriving DecidableEq
def chunkC : CHunk → Nat → Cell := fun h j => match j with
  | 0 => .list Int 1 intC h.At
  | _ => .list Row 3 rowC h.Rows
abbrev pChunk (h : CHunk) : PV := .agg [.list Int 1 intC h.At, .list Row 3 rowC h.Rows]
abbrev pComb (c : Comb) : PV := .agg [.v (.string ⟨c.Path.toArray⟩), .v (.bool c.Dense), .v (.int .i64 c.Parents), .list CHunk 2 chunkC c.Hunks]
def comb0 : Comb := ⟨[], false, 0, []⟩
def colNum (n k : Nat) : Int := if k = n then -1 else k
def cntC (rows : List Row) (n k : Nat) : Int := (colOf rows (colNum n k)).length
def countsC (rows : List Row) (n : Nat) : List Int := (List.range (n + 1)).map (cntC rows n)
def atS (n : Nat) : Str := List.replicate n 64
def sgnB (n k : Nat) : UInt8 := if k = n then 43 else 45
def sideW (n : Nat) (h : CHunk) (k : Nat) : Str := [32, sgnB n k] ++ rangeOf (h.At.getD k 0) (cntC h.Rows n k)
def sidesW (n : Nat) (h : CHunk) (k : Nat) : Str := ((List.range k).map (sideW n h)).flatten
def headC (n : Nat) (h : CHunk) : Str := atS (n + 1) ++ sidesW n h (n + 1) ++ [32] ++ atS (n + 1)
def markB (r : Row) (p : Nat) : UInt8 := if bitAt r.Marks p = false then 32 else if r.Lost then 45 else 43
def marksS (n : Nat) (r : Row) : Str := (List.range n).map (markB r)
def rowLs (n : Nat) (r : Row) : List Str := if ended r.Text = true then [marksS n r ++ r.Text.dropLast] else [marksS n r ++ r.Text, noNl]
def rowPs (n : Nat) (r : Row) : List Str := if ended r.Text = true then [marksS n r ++ r.Text] else [marksS n r ++ r.Text, markS]
def chunkLs (n : Nat) (h : CHunk) : List Str := headC n h :: (h.Rows.map (rowLs n)).flatten
def chunkPs (n : Nat) (h : CHunk) : List Str := (headC n h ++ [10]) :: (h.Rows.map (rowPs n)).flatten
def ccS : Str := [100, 105, 102, 102, 32, 45, 45, 99, 99, 32]
def combS : Str := [100, 105, 102, 102, 32, 45, 45, 99, 111, 109, 98, 105, 110, 101, 100, 32]
def parS : Str := [112, 97, 114, 101, 110, 116, 115, 32]
def kindS (d : Bool) : Str := if d = true then ccS else combS
def combLs (c : Comb) : List Str := (kindS c.Dense ++ quoteOf c.Path) :: (parS ++ fmtOf c.Parents) :: (c.Hunks.map (chunkLs c.Parents.toNat)).flatten
def combPs (c : Comb) : List Str := (kindS c.Dense ++ quoteOf c.Path ++ [10]) :: (parS ++ fmtOf c.Parents ++ [10]) :: (c.Hunks.map (chunkPs c.Parents.toNat)).flatten
def writeC (c : Comb) : Str := (combPs c).flatten
theorem rowLs_flat (n : Nat) (r : Row) : withLf (rowLs n r) = (rowPs n r).flatten := by
  unfold rowLs rowPs
  by_cases h : ended r.Text = true
  · rw [if_pos h, if_pos h]
    obtain ⟨a, ha⟩ := ended_iff.1 h
    rw [ha]; unfold withLf; simp
  · rw [if_neg h, if_neg h, markS_eq]; unfold withLf; simp
theorem rowsLs_flat (n : Nat) (rs : List Row) : withLf ((rs.map (rowLs n)).flatten) = ((rs.map (rowPs n)).flatten).flatten := by
  induction rs with
  | nil => rfl
  | cons x r ih => simp only [List.map_cons, List.flatten_cons, withLf_app, ih, rowLs_flat, List.flatten_append]
theorem chunkLs_flat (n : Nat) (h : CHunk) : withLf (chunkLs n h) = (chunkPs n h).flatten := by
  unfold chunkLs chunkPs
  rw [withLf_cons, rowsLs_flat, List.flatten_cons]
theorem combLs_flat (c : Comb) : withLf (combLs c) = writeC c := by
  unfold combLs writeC combPs
  rw [withLf_cons, withLf_cons]
  have h : ∀ (n : Nat) (hs : List CHunk), withLf ((hs.map (chunkLs n)).flatten) = ((hs.map (chunkPs n)).flatten).flatten := by
    intro n hs
    induction hs with
    | nil => rfl
    | cons x r ih => simp only [List.map_cons, List.flatten_cons, withLf_app, ih, chunkLs_flat, List.flatten_append]
  rw [h]; simp
def endsOk (n : Nat) (ends : List Int) (h : CHunk) : Bool := decide (h.At.length = n + 1 ∧ h.Rows ≠ []) && (List.range (n + 1)).all fun k => decide ((ends.getD k 0 ≤ h.At.getD k 0 ∧ h.At.getD k 0 ≤ 4096) ∧ h.At.getD k 0 + cntC h.Rows n k ≤ 4096)
def endsTo (n : Nat) (h : CHunk) : List Int := (List.range (n + 1)).map fun k => h.At.getD k 0 + cntC h.Rows n k
def chunksGo (n : Nat) (ends : List Int) : List CHunk → Bool
  | [] => true
  | h :: r => endsOk n ends h && chunksGo n (endsTo n h) r
def allRows (hs : List CHunk) : List Row := (hs.map (·.Rows)).flatten
def chunksOk (n : Nat) (hs : List CHunk) : Bool := chunksGo n (List.replicate (n + 1) 0) hs && textsOk (allRows hs) n
def marksC (n : Nat) (hs : List CHunk) : Bool := hs.all fun h => marksOk h.Rows n
def check18 (c : Comb) : Int := if nameOk c.Path = false then 120 else if c.Parents < 1 ∨ 32 < c.Parents then 2 else if marksC c.Parents.toNat c.Hunks = false then 180 else if chunksOk c.Parents.toNat c.Hunks = false then 121 else if 16777216 < (writeC c).length then 1 else 0
theorem markOk_range {n : Nat} {r : Row} (h : markOk n r = true) : 0 ≤ r.Marks ∧ r.Marks < 2 ^ n ∧ (r.Lost = true → r.Marks ≠ 0) := by
  unfold markOk at h
  simp only [Bool.and_eq_true, beq_iff_eq, Bool.not_eq_true', Bool.and_eq_false_iff, beq_eq_false_iff_ne] at h
  obtain ⟨h1, h2⟩ := h
  have hp : (0 : Int) < 2 ^ n := Int.pow_pos (by decide)
  have h3 := Int.emod_add_mul_ediv r.Marks (2 ^ n)
  have h4 := Int.emod_nonneg r.Marks (Int.ne_of_gt hp)
  have h5 := Int.emod_lt_of_pos r.Marks hp
  rw [h1, Int.mul_zero, Int.add_zero] at h3
  rw [h3] at h4 h5
  refine ⟨h4, h5, fun hl => ?_⟩
  rcases h2 with h2 | h2
  · rw [hl] at h2; cases h2
  · exact h2
theorem pow32 {n : Nat} (h : n ≤ 32) : (2 : Int) ^ n ≤ 4294967296 := by
  have h1 : (2 : Nat) ^ n ≤ 2 ^ 32 := Nat.pow_le_pow_right (by omega) h
  have h2 : ((2 ^ n : Nat) : Int) = 2 ^ n := by simp
  have h3 : (2 : Nat) ^ 32 = 4294967296 := rfl
  omega
theorem marks_in {n : Nat} (hn : n ≤ 32) {rows : List Row} (h : marksOk rows n = true) : rowsIn rows := by
  intro r hr
  have h1 := markOk_range (List.all_eq_true.1 h r hr)
  have := pow32 hn
  omega
def followsB (n : Nat) (ends : List Int) (h : CHunk) : Bool := decide (h.At.length = n + 1 ∧ h.Rows ≠ []) && (List.range (n + 1)).all fun k => decide (ends.getD k 0 ≤ h.At.getD k 0 ∧ h.At.getD k 0 ≤ 4096)
def resAfter (res : Bool) (rows : List Row) : Bool := rows.foldl addRes res
def parAfter (par : Int) (rows : List Row) : Int := rows.foldl addPar par
def wellGo18 (n : Nat) (ends : List Int) (res : Bool) (par : Int) : List CHunk → Bool
  | [] => decide (∀ e ∈ ends, e ≤ 4096)
  | h :: r => followsB n ends h && (addsOk res par h.Rows && wellGo18 n (endsTo n h) (resAfter res h.Rows) (parAfter par h.Rows) r)
theorem addsOk_app : ∀ (a b : List Row) (res : Bool) (par : Int), addsOk res par (a ++ b) = (addsOk res par a && addsOk (resAfter res a) (parAfter par a) b)
  | [], b, res, par => by simp [addsOk, resAfter, parAfter]
  | x :: a, b, res, par => by
    rw [List.cons_append, addsOk, addsOk, addsOk_app a b]
    simp only [resAfter, parAfter, List.foldl_cons, Bool.and_assoc]
theorem getD_map_range (f : Nat → Int) (n k : Nat) (h : k < n) : ((List.range n).map f).getD k 0 = f k := by
  rw [List.getD_eq_getElem?_getD, List.getElem?_map, List.getElem?_range h]; rfl
theorem all_le_iff {n : Nat} {ends : List Int} (hl : ends.length = n + 1) : (∀ e ∈ ends, e ≤ 4096) ↔ ∀ k, k < n + 1 → ends.getD k 0 ≤ 4096 := by
  constructor
  · intro h k hk
    rw [List.getD_eq_getElem?_getD, List.getElem?_eq_getElem (by omega)]
    exact h _ (List.getElem_mem _)
  · intro h e he
    obtain ⟨k, hk, rfl⟩ := List.getElem_of_mem he
    have := h k (by omega)
    rwa [List.getD_eq_getElem?_getD, List.getElem?_eq_getElem hk] at this
theorem endsTo_len (n : Nat) (h : CHunk) : (endsTo n h).length = n + 1 := by unfold endsTo; simp
theorem wellGo18_eq (n : Nat) : ∀ (hs : List CHunk) (ends : List Int) (res : Bool) (par : Int), ends.length = n + 1 →
    wellGo18 n ends res par hs = (decide (∀ e ∈ ends, e ≤ 4096) && chunksGo n ends hs && addsOk res par (allRows hs))
  | [], ends, res, par, _ => by simp [wellGo18, chunksGo, allRows, addsOk]
  | h :: r, ends, res, par, hl => by
    have ih := wellGo18_eq n r (endsTo n h) (resAfter res h.Rows) (parAfter par h.Rows) (endsTo_len n h)
    have e1 : allRows (h :: r) = h.Rows ++ allRows r := by simp [allRows]
    rw [wellGo18, ih, chunksGo, e1, addsOk_app]
    have e2 : (followsB n ends h && decide (∀ e ∈ endsTo n h, e ≤ 4096)) = (decide (∀ e ∈ ends, e ≤ 4096) && endsOk n ends h) := by
      rw [Bool.eq_iff_iff]
      unfold followsB endsOk
      simp only [Bool.and_eq_true, decide_eq_true_eq, List.all_eq_true, List.mem_range]
      rw [all_le_iff hl, all_le_iff (endsTo_len n h)]
      have e3 : ∀ k, k < n + 1 → (endsTo n h).getD k 0 = h.At.getD k 0 + cntC h.Rows n k := fun k hk => getD_map_range _ _ _ hk
      constructor
      · rintro ⟨⟨h1, h2⟩, h3⟩
        exact ⟨fun k hk => by have := h2 k hk; omega, h1, fun k hk => ⟨h2 k hk, by have := h3 k hk; rwa [e3 k hk] at this⟩⟩
      · rintro ⟨_, h2, h3⟩
        exact ⟨⟨h2, fun k hk => (h3 k hk).1⟩, fun k hk => by rw [e3 k hk]; exact (h3 k hk).2⟩
    generalize followsB n ends h = A at e2 ⊢
    generalize decide (∀ e ∈ endsTo n h, e ≤ 4096) = B at e2 ⊢
    generalize decide (∀ e ∈ ends, e ≤ 4096) = C at e2 ⊢
    generalize endsOk n ends h = D at e2 ⊢
    generalize addsOk res par h.Rows = E
    generalize chunksGo n (endsTo n h) r = F
    generalize addsOk (resAfter res h.Rows) (parAfter par h.Rows) (allRows r) = G
    cases A <;> cases B <;> cases C <;> cases D <;> first | (cases e2; done) | (cases E <;> cases F <;> cases G <;> rfl)
theorem marks_all {n : Nat} {hs : List CHunk} (h : marksC n hs = true) : marksOk (allRows hs) n = true := by
  unfold marksOk allRows
  rw [List.all_eq_true]
  intro r hr
  obtain ⟨l, h1, h2⟩ := List.mem_flatten.1 hr
  obtain ⟨x, hx, rfl⟩ := List.mem_map.1 h1
  exact List.all_eq_true.1 (List.all_eq_true.1 h x hx) r h2
theorem well_chunks {n : Nat} (hn : n ≤ 32) {hs : List CHunk} (h : marksC n hs = true) : wellGo18 n (List.replicate (n + 1) 0) false 0 hs = chunksOk n hs := by
  rw [wellGo18_eq n hs _ _ _ (List.length_replicate ..), adds_texts _ n hn (marks_all h) (marks_in hn (marks_all h))]
  have : ∀ L : List Int, (∀ e ∈ L, e ≤ 4096) → decide (∀ e ∈ L, e ≤ 4096) = true := fun L h => decide_eq_true h
  rw [this _ (fun e he => by have := (List.mem_replicate.1 he).2; omega)]; rfl
theorem chunks_go {n : Nat} : ∀ (hs : List CHunk) (ends : List Int), (∀ k, k < n + 1 → 0 ≤ ends.getD k 0) → chunksGo n ends hs = true → ∀ h ∈ hs, h.At.length = n + 1 ∧ h.Rows ≠ [] ∧ ∀ k, k < n + 1 → 0 ≤ h.At.getD k 0 ∧ h.At.getD k 0 + cntC h.Rows n k ≤ 4096
  | [], _, _, _, h, hm => by cases hm
  | x :: r, ends, he, hg, h, hm => by
    rw [chunksGo, Bool.and_eq_true] at hg
    obtain ⟨h1, h2⟩ := hg
    unfold endsOk at h1
    simp only [Bool.and_eq_true, decide_eq_true_eq, List.all_eq_true, List.mem_range] at h1
    obtain ⟨⟨h3, h4⟩, h5⟩ := h1
    have hx : ∀ k, k < n + 1 → 0 ≤ x.At.getD k 0 ∧ x.At.getD k 0 + cntC x.Rows n k ≤ 4096 := fun k hk => by have := h5 k hk; have := he k hk; omega
    rcases List.mem_cons.1 hm with rfl | hm
    · exact ⟨h3, h4, hx⟩
    · refine chunks_go r _ (fun k hk => ?_) h2 h hm
      rw [show (endsTo n x).getD k 0 = x.At.getD k 0 + cntC x.Rows n k from getD_map_range _ _ _ hk]
      have := hx k hk
      have : 0 ≤ cntC x.Rows n k := by unfold cntC; omega
      omega
structure CRead (n : Nat) (h : CHunk) : Prop where
  len : h.At.length = n + 1
  ne : h.Rows ≠ []
  at0 : ∀ k, k < n + 1 → 0 ≤ h.At.getD k 0 ∧ h.At.getD k 0 + cntC h.Rows n k ≤ 4096
  rows : ∀ r ∈ h.Rows, markOk n r = true ∧ lineOk r.Text = true
theorem check_read {c : Comb} (h : check18 c = 0) : (1 ≤ c.Parents.toNat ∧ c.Parents.toNat ≤ 32) ∧ c.Parents = (c.Parents.toNat : Int) ∧ (∀ x ∈ c.Hunks, CRead c.Parents.toNat x) ∧ (writeC c).length ≤ 16777216 ∧ nameOk c.Path = true := by
  unfold check18 at h
  split at h
  · cases h
  · rename_i h0
    split at h
    · cases h
    · rename_i h1
      split at h
      · cases h
      · rename_i h2
        split at h
        · cases h
        · rename_i h3
          split at h
          · cases h
          · rename_i h4
            refine ⟨by omega, by omega, ?_, by omega, by simpa using h0⟩
            intro x hx
            have h2 : marksC c.Parents.toNat c.Hunks = true := by simpa using h2
            have h3 : chunksOk c.Parents.toNat c.Hunks = true := by simpa using h3
            unfold chunksOk at h3
            rw [Bool.and_eq_true] at h3
            obtain ⟨a1, a2, a3⟩ := chunks_go c.Hunks _ (fun k hk => by rw [List.getD_eq_getElem?_getD, List.getElem?_replicate_of_lt hk]; exact Int.le_refl _) h3.1 x hx
            refine ⟨a1, a2, a3, fun r hr => ⟨List.all_eq_true.1 (List.all_eq_true.1 h2 x hx) r hr, ?_⟩⟩
            have h5 := h3.2
            unfold textsOk at h5
            rw [Bool.and_eq_true] at h5
            exact List.all_eq_true.1 h5.1 r (List.mem_flatten.2 ⟨x.Rows, List.mem_map.2 ⟨x, hx, rfl⟩, hr⟩)
def bitsOf (c : UInt8) (s : Str) : Nat → Nat
  | 0 => 0
  | k + 1 => bitsOf c s k + if s.getD k 0 = c then 2 ^ k else 0
def signB (c : UInt8) : Bool := decide (c = 32 ∨ c = 43 ∨ c = 45)
def rowAt (s : Str) (n : Nat) : Option Row :=
  if n < 1 ∨ 32 < n ∨ s.length < n ∨ (s.take n).all signB = false ∨ (bitsOf 43 s n ≠ 0 ∧ bitsOf 45 s n ≠ 0) then none
  else some ⟨decide (bitsOf 45 s n ≠ 0), ((bitsOf 43 s n + bitsOf 45 s n : Nat) : Int), s.drop n⟩
theorem bits_lt (c : UInt8) (s : Str) : ∀ k, bitsOf c s k < 2 ^ k
  | 0 => by simp [bitsOf]
  | k + 1 => by
    have := bits_lt c s k
    rw [bitsOf, Nat.pow_succ]
    split <;> omega
theorem bits_add {c d : UInt8} (h : c ≠ d) (s : Str) : ∀ k, bitsOf c s k + bitsOf d s k < 2 ^ k
  | 0 => by simp [bitsOf]
  | k + 1 => by
    have := bits_add h s k
    rw [bitsOf, bitsOf, Nat.pow_succ]
    by_cases h1 : s.getD k 0 = c
    · rw [if_pos h1, if_neg (fun e => h (h1.symm.trans e))]; omega
    · rw [if_neg h1]; split <;> omega
theorem marks_len (n : Nat) (r : Row) : (marksS n r).length = n := by simp [marksS]
theorem marks_get (n : Nat) (r : Row) (t : Str) {k : Nat} (h : k < n) : (marksS n r ++ t).getD k 0 = markB r k := by
  rw [List.getD_eq_getElem?_getD, List.getElem?_append_left (by rw [marks_len]; exact h)]
  unfold marksS
  rw [List.getElem?_map, List.getElem?_range h]; rfl
theorem marks_sign (n : Nat) (r : Row) : (marksS n r).all signB = true := by
  rw [List.all_eq_true]
  intro c hc
  obtain ⟨p, _, rfl⟩ := List.mem_map.1 hc
  unfold markB
  split
  · rfl
  · split <;> rfl
theorem bits_marks {n m : Nat} {r : Row} (hm : r.Marks = (m : Int)) (t : Str) : ∀ k, k ≤ n → bitsOf 43 (marksS n r ++ t) k = (if r.Lost = true then 0 else m % 2 ^ k) ∧ bitsOf 45 (marksS n r ++ t) k = (if r.Lost = true then m % 2 ^ k else 0)
  | 0, _ => by simp [bitsOf, Nat.mod_one]
  | k + 1, hk => by
    obtain ⟨h1, h2⟩ := bits_marks (n := n) hm t k (by omega)
    have hb : bitAt r.Marks k = m.testBit k := by rw [hm, bitAt_nat]
    have h3 : m % 2 ^ (k + 1) = m % 2 ^ k + 2 ^ k * (m / 2 ^ k % 2) := Nat.mod_pow_succ
    have h4 : m.testBit k = decide (m / 2 ^ k % 2 = 1) := Nat.testBit_eq_decide_div_mod_eq
    rw [bitsOf, bitsOf, h1, h2, marks_get n r t (k := k) (by omega)]
    unfold markB
    rw [hb, h4]
    by_cases h5 : m / 2 ^ k % 2 = 1
    · rw [h5] at h3
      cases hl : r.Lost <;> simp [h5, h3]
    · have h6 : m / 2 ^ k % 2 = 0 := by omega
      rw [h6] at h3
      cases hl : r.Lost <;> simp [h6, h3]
theorem row_back {n : Nat} {r : Row} (hn : 1 ≤ n ∧ n ≤ 32) (h : markOk n r = true) (t : Str) : rowAt (marksS n r ++ t) n = some ⟨r.Lost, r.Marks, t⟩ := by
  obtain ⟨h1, h2, h3⟩ := markOk_range h
  obtain ⟨m, hm⟩ : ∃ m : Nat, r.Marks = m := ⟨r.Marks.toNat, by omega⟩
  obtain ⟨h4, h5⟩ := bits_marks hm t n (Nat.le_refl _)
  have hmn : m < 2 ^ n := by
    have e : ((2 ^ n : Nat) : Int) = 2 ^ n := by simp
    omega
  rw [Nat.mod_eq_of_lt hmn] at h4 h5
  have ht : (marksS n r ++ t).take n = marksS n r := by rw [List.take_append_of_le_length (by rw [marks_len]; omega), List.take_of_length_le (by rw [marks_len]; omega)]
  have hd : (marksS n r ++ t).drop n = t := by
    have := List.drop_left (l₁ := marksS n r) (l₂ := t)
    rwa [marks_len] at this
  cases hl : r.Lost
  · rw [hl, if_neg (by decide)] at h4 h5
    unfold rowAt
    rw [ht, hd, h4, h5, marks_sign, List.length_append, marks_len, if_neg (by simp; omega), hm]; simp
  · have h6 : m ≠ 0 := fun e => h3 hl (by omega)
    rw [hl, if_pos rfl] at h4 h5
    unfold rowAt
    rw [ht, hd, h4, h5, marks_sign, List.length_append, marks_len, if_neg (by simp; omega), hm]; simp [h6]
def cutsBy (c : UInt8) : Str → List Str
  | [] => [[]]
  | x :: r => if x = c then [] :: cutsBy c r else match cutsBy c r with
    | [] => [[x]]
    | a :: b => (x :: a) :: b
theorem cutsBy_ne (c : UInt8) : ∀ s, cutsBy c s ≠ []
  | [] => by simp [cutsBy]
  | x :: r => by
    unfold cutsBy
    split
    · simp
    · split <;> simp
theorem cutsBy_last {c : UInt8} : ∀ {a : Str}, c ∉ a → cutsBy c a = [a]
  | [], _ => rfl
  | x :: r, h => by
    simp only [List.mem_cons, not_or] at h
    unfold cutsBy
    rw [if_neg (fun e => h.1 e.symm), cutsBy_last h.2]
theorem cutsBy_cut {c : UInt8} (b : Str) : ∀ {a : Str}, c ∉ a → cutsBy c (a ++ c :: b) = a :: cutsBy c b
  | [], _ => by
    show cutsBy c (c :: b) = _
    rw [cutsBy, if_pos rfl]
  | x :: r, h => by
    simp only [List.mem_cons, not_or] at h
    rw [List.cons_append, cutsBy, if_neg (fun e => h.1 e.symm), cutsBy_cut b h.2]
theorem cutsBy_count (c : UInt8) : ∀ s, (cutsBy c s).length = s.count c + 1
  | [] => rfl
  | x :: r => by
    have ih := cutsBy_count c r
    unfold cutsBy
    by_cases h : x = c
    · rw [if_pos h, List.length_cons, ih, List.count_cons, if_pos (by simp [h])]
    · rw [if_neg h, List.count_cons, if_neg (by simp [h])]
      split
      · rename_i e; exact absurd e (cutsBy_ne c r)
      · rename_i a b e; rw [e] at ih; simpa using ih
def wordsAt (n : Nat) : Nat → List Str → Option (List Int)
  | _, [] => some []
  | k, w :: r => if w.take 1 = [sgnB n k] then (match rngAt (w.drop 1) with
    | some (a, _, e) => if e = (w.drop 1).length then (wordsAt n (k + 1) r).map (a :: ·) else none
    | none => none) else none
def sufC (n : Nat) : Str := [32] ++ atS (n + 1)
def preC (n : Nat) : Str := atS (n + 1) ++ [32]
def endsWith (s p : Str) : Bool := decide (p.length ≤ s.length ∧ s.drop (s.length - p.length) = p)
def headP (n : Nat) (l : Str) : Option (List Int) :=
  if l.take (n + 2) = preC n ∧ endsWith (l.drop (n + 2)) (sufC n) = true then
    (match wordsAt n 0 (cutsBy 32 ((l.drop (n + 2)).take ((l.drop (n + 2)).length - (n + 2)))) with
      | some a => if a.length = n + 1 then some a else none
      | none => none)
  else none
theorem range_no {d : UInt8} (hd : d = 10 ∨ d = 32) (a n : Int) : d ∉ rangeOf a n := by
  have hf : ∀ n : Int, d ∉ fmtOf n := by
    intro n
    by_cases h : n < 0 ∨ 2147483647 < n
    · unfold fmtOf; rw [if_pos h]; simp
    · rw [fmt_dec (by omega) (by omega)]
      intro h
      have := (dec_digits n.toNat).1 _ h
      rcases hd with rfl | rfl <;> (revert this; decide)
  have h1 := hf a; have h2 := hf (a + 1); have h3 := hf n
  have h4 : d ≠ 44 := by rcases hd with rfl | rfl <;> decide
  have h5 : d ≠ 48 := by rcases hd with rfl | rfl <;> decide
  unfold rangeOf
  split
  · simp
  · split
    · simp [h1, h4, h5]
    · split
      · exact h2
      · simp [h2, h3, h4]
theorem sgn_ne (n k : Nat) : (32 : UInt8) ≠ sgnB n k ∧ (10 : UInt8) ≠ sgnB n k := by unfold sgnB; split <;> decide
def sideV (n : Nat) (h : CHunk) (k : Nat) : Str := sgnB n k :: rangeOf (h.At.getD k 0) (cntC h.Rows n k)
theorem sideV_no (n : Nat) (h : CHunk) (k : Nat) : (32 : UInt8) ∉ sideV n h k := by
  unfold sideV
  simp only [List.mem_cons, not_or]
  exact ⟨(sgn_ne n k).1, range_no (.inr rfl) _ _⟩
theorem sideW_V (n : Nat) (h : CHunk) (k : Nat) : sideW n h k = 32 :: sideV n h k := rfl
def joinV (n : Nat) (h : CHunk) : Nat → Nat → Str
  | 0, _ => []
  | m + 1, k => sideW n h k ++ joinV n h m (k + 1)
theorem joinV_eq (n : Nat) (h : CHunk) : ∀ (m k : Nat), joinV n h m k = ((List.range' k m).map (sideW n h)).flatten
  | 0, _ => rfl
  | m + 1, k => by rw [joinV, joinV_eq n h m (k + 1), List.range'_succ]; simp
theorem sides_join (n : Nat) (h : CHunk) (m : Nat) : sidesW n h m = joinV n h m 0 := by
  unfold sidesW; rw [joinV_eq, List.range_eq_range']
theorem cuts_join (n : Nat) (h : CHunk) : ∀ (m k : Nat), cutsBy 32 (joinV n h (m + 1) k).tail = (List.range' k (m + 1)).map (sideV n h)
  | 0, k => by
    rw [joinV, joinV, List.append_nil, sideW_V, List.tail_cons, cutsBy_last (sideV_no n h k)]; rfl
  | m + 1, k => by
    have ih := cuts_join n h m (k + 1)
    have e : joinV n h (m + 1 + 1) k = 32 :: (sideV n h k ++ 32 :: (joinV n h (m + 1) (k + 1)).tail) := by
      rw [joinV, sideW_V]
      have : joinV n h (m + 1) (k + 1) = 32 :: (joinV n h (m + 1) (k + 1)).tail := by rw [joinV, sideW_V]; rfl
      conv => lhs; rw [this]
      rfl
    rw [e, List.tail_cons, cutsBy_cut _ (sideV_no n h k), ih, List.range'_succ (n := m + 1)]; rfl
theorem getD_cons_drop {l : List Int} {k : Nat} (h : k < l.length) : l.drop k = l.getD k 0 :: l.drop (k + 1) := by
  rw [List.drop_eq_getElem_cons h, List.getD_eq_getElem?_getD, List.getElem?_eq_getElem h]; rfl
theorem words_back {n : Nat} {h : CHunk} (hl : h.At.length = n + 1) (ha : ∀ k, k < n + 1 → 0 ≤ h.At.getD k 0 ∧ h.At.getD k 0 + cntC h.Rows n k ≤ 4096) : ∀ (m k : Nat), k + m = n + 1 → wordsAt n k ((List.range' k m).map (sideV n h)) = some (h.At.drop k)
  | 0, k, hk => by
    have : h.At.drop k = [] := List.drop_eq_nil_of_le (by omega)
    rw [this]; rfl
  | m + 1, k, hk => by
    have ih := words_back hl ha m (k + 1) (by omega)
    obtain ⟨a1, a2⟩ := ha k (by omega)
    have hc : 0 ≤ cntC h.Rows n k := by unfold cntC; omega
    have hr := rng_range (t := []) a1 hc (by omega) (by omega) (by intro c hc; cases hc)
    rw [List.append_nil] at hr
    rw [List.range'_succ, List.map_cons, wordsAt]
    have e1 : (sideV n h k).take 1 = [sgnB n k] := rfl
    have e2 : (sideV n h k).drop 1 = rangeOf (h.At.getD k 0) (cntC h.Rows n k) := rfl
    rw [if_pos e1, e2, hr]
    dsimp only
    rw [if_pos rfl, ih, getD_cons_drop (l := h.At) (k := k) (by omega)]; rfl
theorem atS_len (n : Nat) : (atS n).length = n := by simp [atS]
theorem headP_back {n : Nat} {h : CHunk} (hr : CRead n h) : headP n (headC n h) = some h.At := by
  have hj : joinV n h (n + 1) 0 = 32 :: (joinV n h (n + 1) 0).tail := by rw [joinV, sideW_V]; rfl
  obtain ⟨T, hT⟩ : ∃ T, T = (joinV n h (n + 1) 0).tail := ⟨_, rfl⟩
  have e : headC n h = preC n ++ (T ++ sufC n) := by
    unfold headC preC sufC
    rw [sides_join, hj, ← hT]; simp
  have hp : (preC n).length = n + 2 := by simp [preC, atS_len]
  have hs : (sufC n).length = n + 2 := by simp [sufC, atS_len]
  have t1 : (headC n h).take (n + 2) = preC n := by rw [e, ← hp, List.take_left]
  have d1 : (headC n h).drop (n + 2) = T ++ sufC n := by rw [e, ← hp, List.drop_left]
  have l1 : (T ++ sufC n).length - (n + 2) = T.length := by rw [List.length_append, hs]; omega
  unfold headP
  rw [t1, d1, if_pos ⟨rfl, by unfold endsWith; rw [hs, l1, List.drop_left]; simp [hs]⟩, l1, List.take_left, hT, cuts_join, words_back hr.len hr.at0 (n + 1) 0 (by omega)]
  dsimp only
  rw [List.drop_zero, if_pos hr.len]
end Go.AL
namespace Go.AL
open Go
def kindAt (a : Str) : Option (Bool × Str) := if a.take 10 = ccS then some (true, a.drop 10) else if a.take 16 = combS then some (false, a.drop 16) else none
def titleAt (q : Bool) (a b : Str) : Option (Bool × Str × Int) :=
  match kindAt a with
  | none => none
  | some (d, x) => if b.take 8 = parS then (match wordAt x, numAt (b.drop 8) with
    | some (w, e), some (n, e2) => if (q = true → e = x.length ∧ e2 = (b.drop 8).length) ∧ 1 ≤ n ∧ n ≤ 32 then some (d, w, (n : Int)) else none
    | _, _ => none) else none
theorem title_back (q d : Bool) (p : Str) (n : Int) (hn : 1 ≤ n ∧ n ≤ 32) : titleAt q (kindS d ++ quoteOf p) (parS ++ fmtOf n) = some (d, p, n) := by
  have hk : kindAt (kindS d ++ quoteOf p) = some (d, quoteOf p) := by
    cases d
    · have h2 : (combS ++ quoteOf p).take 16 = combS := rfl
      have h1 : (combS ++ quoteOf p).take 10 ≠ ccS := by
        intro h
        have := congrArg (fun l => l[8]?) h
        revert this
        show ¬ (some (111 : UInt8) = some 99)
        decide
      show kindAt (combS ++ quoteOf p) = _
      unfold kindAt
      rw [if_neg h1, if_pos h2]; rfl
    · show kindAt (ccS ++ quoteOf p) = _
      have h2 : (ccS ++ quoteOf p).take 10 = ccS := rfl
      unfold kindAt
      rw [if_pos h2]; rfl
  have hf := num_fmt (n := n) (t := []) (by omega) (by omega) (by intro c hc; cases hc)
  rw [List.append_nil] at hf
  have h8 : (parS ++ fmtOf n).take 8 = parS := rfl
  have d8 : (parS ++ fmtOf n).drop 8 = fmtOf n := rfl
  unfold titleAt
  rw [hk]
  dsimp only
  rw [if_pos h8, d8, word_quote, hf]
  dsimp only
  rw [if_pos ⟨fun _ => ⟨rfl, rfl⟩, by omega, by omega⟩, show ((n.toNat : Nat) : Int) = n by omega]
def addRow (hs : List CHunk) (r : Row) : Option (List CHunk) := match hs.getLast? with
  | none => none
  | some h => some (hs.dropLast ++ [⟨h.At, h.Rows ++ [r]⟩])
def cutRow (hs : List CHunk) : Option (List CHunk) := match hs.getLast? with
  | none => none
  | some h => match h.Rows.getLast? with
    | none => none
    | some r => some (hs.dropLast ++ [⟨h.At, h.Rows.dropLast ++ [⟨r.Lost, r.Marks, trimS r.Text⟩]⟩])
def stepC (n : Nat) (hs : List CHunk) (l : Str) : Option (List CHunk) :=
  if l.take 1 = [64] then (match headP n l with | none => none | some a => some (hs ++ [⟨a, []⟩]))
  else if hs = [] then none
  else if l = noNl then cutRow hs
  else match rowAt (l ++ [10]) n with
    | none => none
    | some r => addRow hs r
def foldC (n : Nat) (hs : List CHunk) : List Str → Option (List CHunk)
  | [] => some hs
  | x :: r => match stepC n hs x with
    | none => none
    | some g => foldC n g r
def parseC (l : List Str) : Option Comb := match l with
  | a :: b :: r => (match titleAt true a b with
    | some (d, p, n) => (match foldC n.toNat [] r with | some hs => some ⟨p, d, n, hs⟩ | none => none)
    | none => none)
  | _ => none
theorem marks_ne {n : Nat} (r : Row) (hn : 1 ≤ n) (t : Str) : ∃ s, marksS n r ++ t = markB r 0 :: s := by
  obtain ⟨m, rfl⟩ : ∃ m, n = m + 1 := ⟨n - 1, by omega⟩
  unfold marksS
  rw [List.range_succ_eq_map]
  exact ⟨_, rfl⟩
theorem markB_ne (r : Row) (p : Nat) : markB r p ≠ 64 ∧ markB r p ≠ 92 ∧ markB r p ≠ 10 := by unfold markB; split; decide; split <;> decide
theorem step_row {n : Nat} (hn : 1 ≤ n ∧ n ≤ 32) (hs : List CHunk) (a : List Int) (rs : List Row) (r : Row) (rest : List Str) (hg : markOk n r = true) : foldC n (hs ++ [⟨a, rs⟩]) (rowLs n r ++ rest) = foldC n (hs ++ [⟨a, rs ++ [r]⟩]) rest := by
  have hadd : ∀ t : Str, stepC n (hs ++ [⟨a, rs⟩]) (marksS n r ++ t) = some (hs ++ [⟨a, rs ++ [⟨r.Lost, r.Marks, t ++ [10]⟩]⟩]) := by
    intro t
    obtain ⟨s, e⟩ := marks_ne r hn.1 t
    have hb := markB_ne r 0
    unfold stepC
    rw [if_neg (by rw [e]; simpa using hb.1), if_neg (by simp), if_neg (by rw [e]; intro h; injection h with h; exact hb.2.1 h), List.append_assoc, row_back hn hg]
    unfold addRow; simp
  unfold rowLs
  split
  · rename_i he
    obtain ⟨x, hx⟩ := ended_iff.1 he
    rw [List.cons_append, List.nil_append, foldC, hadd]
    dsimp only
    rw [hx, List.dropLast_concat, ← hx]
  · rename_i he
    rw [List.cons_append, foldC, hadd]
    dsimp only
    have h2 : stepC n (hs ++ [⟨a, rs ++ [⟨r.Lost, r.Marks, r.Text ++ [10]⟩]⟩]) noNl = some (hs ++ [⟨a, rs ++ [r]⟩]) := by
      unfold stepC
      rw [if_neg (by decide), if_neg (by simp), if_pos rfl]
      unfold cutRow
      simp only [List.getLast?_append, List.getLast?_singleton, Option.some_or, List.dropLast_concat]
      unfold trimS
      rw [if_pos (ended_app _), List.dropLast_concat]
    rw [List.cons_append, List.nil_append, foldC, h2]
theorem step_rows {n : Nat} (hn : 1 ≤ n ∧ n ≤ 32) (hs : List CHunk) (a : List Int) : ∀ (xs rs : List Row) (rest : List Str), (∀ r ∈ xs, markOk n r = true) → foldC n (hs ++ [⟨a, rs⟩]) ((xs.map (rowLs n)).flatten ++ rest) = foldC n (hs ++ [⟨a, rs ++ xs⟩]) rest
  | [], rs, rest, _ => by simp
  | x :: r, rs, rest, hg => by
    rw [List.map_cons, List.flatten_cons, List.append_assoc, step_row hn _ _ _ _ _ (hg x (by simp)), step_rows hn hs a r _ _ (fun y hy => hg y (by simp [hy])), List.append_assoc]; rfl
theorem headC_at (n : Nat) (h : CHunk) : (headC n h).take 1 = [64] := by
  unfold headC atS
  rw [List.replicate_succ]; rfl
theorem fold_chunks {n : Nat} (hn : 1 ≤ n ∧ n ≤ 32) : ∀ (xs hs : List CHunk), (∀ h ∈ xs, CRead n h) → foldC n hs ((xs.map (chunkLs n)).flatten) = some (hs ++ xs)
  | [], hs, _ => by simp [foldC]
  | h :: r, hs, hg => by
    have h1 := hg h (by simp)
    have e : ((h :: r).map (chunkLs n)).flatten = headC n h :: ((h.Rows.map (rowLs n)).flatten ++ (r.map (chunkLs n)).flatten) := by simp [chunkLs]
    have hs1 : stepC n hs (headC n h) = some (hs ++ [⟨h.At, []⟩]) := by
      unfold stepC
      rw [if_pos (headC_at n h), headP_back h1]
    rw [e, foldC, hs1]
    dsimp only
    rw [step_rows hn _ _ _ _ _ (fun x hx => (h1.rows x hx).1), List.nil_append, fold_chunks hn r _ (fun x hx => hg x (by simp [hx])), List.append_assoc]; rfl
theorem parseC_back {c : Comb} (h : check18 c = 0) : parseC (combLs c) = some c := by
  obtain ⟨h1, h2, h3, _⟩ := check_read h
  unfold parseC combLs
  dsimp only
  rw [title_back true _ _ _ (by omega)]
  dsimp only
  rw [fold_chunks h1 c.Hunks [] h3]
  rfl
def combBy (f : List Str → Option Comb) (s : Str) : Comb × Int :=
  if 16777216 < s.length then (comb0, 1) else match linesS s with
  | none => (comb0, 4)
  | some l => match f l with
    | none => (comb0, 4)
    | some p => if check18 p ≠ 0 ∨ writeC p ≠ s then (comb0, 4) else (p, 0)
theorem head_noLf (n : Nat) (h : CHunk) : (10 : UInt8) ∉ headC n h := by
  have hw : (10 : UInt8) ∉ sidesW n h (n + 1) := by
    unfold sidesW
    intro hm
    obtain ⟨l, h1, h2⟩ := List.mem_flatten.1 hm
    obtain ⟨k, _, rfl⟩ := List.mem_map.1 h1
    unfold sideW at h2
    simp only [List.cons_append, List.nil_append, List.mem_cons] at h2
    rcases h2 with h2 | h2 | h2
    · revert h2; decide
    · exact (sgn_ne n k).2 h2
    · exact range_no (.inl rfl) _ _ h2
  have ha : (10 : UInt8) ∉ atS (n + 1) := by unfold atS; intro h; have := (List.mem_replicate.1 h).2; revert this; decide
  unfold headC
  simp [hw, ha]
theorem row_noLf {n : Nat} {r : Row} (hl : lineOk r.Text = true) : ∀ t ∈ rowLs n r, (10 : UInt8) ∉ t := by
  have hm : (10 : UInt8) ∉ marksS n r := by
    intro h
    have := List.all_eq_true.1 (marks_sign n r) _ h
    revert this; decide
  obtain ⟨hne, hd⟩ := (lineOk_iff _).1 hl
  intro t ht
  unfold rowLs at ht
  split at ht
  · simp only [List.mem_cons, List.not_mem_nil, or_false] at ht
    subst ht
    simp [hm, hd]
  · rename_i he
    simp only [List.mem_cons, List.not_mem_nil, or_false] at ht
    rcases ht with rfl | rfl
    · simp only [List.mem_append, not_or]
      refine ⟨hm, fun h10 => ?_⟩
      rw [← List.dropLast_concat_getLast hne] at h10
      rcases List.mem_append.1 h10 with h10 | h10
      · exact hd h10
      · simp only [List.mem_cons, List.not_mem_nil, or_false] at h10
        refine he (ended_iff.2 ⟨r.Text.dropLast, ?_⟩)
        conv => lhs; rw [← List.dropLast_concat_getLast hne]
        rw [h10]
    · decide
theorem comb_noLf {c : Comb} (h : check18 c = 0) : ∀ t ∈ combLs c, (10 : UInt8) ∉ t := by
  obtain ⟨h1, h2, h3, _⟩ := check_read h
  intro t ht
  unfold combLs at ht
  rcases List.mem_cons.1 ht with rfl | ht
  · have := quote_noLf c.Path
    have hk : (10 : UInt8) ∉ kindS c.Dense := by cases c.Dense <;> decide
    simp [this, hk]
  · rcases List.mem_cons.1 ht with rfl | ht
    · have := fmt_noLf c.Parents
      have hk : (10 : UInt8) ∉ parS := by decide
      simp [this, hk]
    · obtain ⟨l, hl1, hl2⟩ := List.mem_flatten.1 ht
      obtain ⟨x, hx, rfl⟩ := List.mem_map.1 hl1
      unfold chunkLs at hl2
      rcases List.mem_cons.1 hl2 with rfl | hl2
      · exact head_noLf _ _
      · obtain ⟨l2, h4, h5⟩ := List.mem_flatten.1 hl2
        obtain ⟨y, hy, rfl⟩ := List.mem_map.1 h4
        exact row_noLf ((h3 x hx).rows y hy).2 t h5
theorem combBy_of {f : List Str → Option Comb} (hf : ∀ p : Comb, check18 p = 0 → f (combLs p) = some p) {p : Comb} (hc : check18 p = 0) : combBy f (writeC p) = (p, 0) := by
  have hl : linesS (writeC p) = some (combLs p) := by rw [← combLs_flat]; exact linesS_with _ (comb_noLf hc)
  obtain ⟨_, _, _, h4, _⟩ := check_read hc
  unfold combBy
  rw [if_neg (by omega), hl]
  dsimp only
  rw [hf p hc]
  dsimp only
  rw [if_neg]
  simp [hc]
end Go.AL
namespace Go.AL
open Go
def szRow (r : Row) : Nat := r.Text.length + 96
def szCh (h : CHunk) : Nat := 2048 + h.At.length + (h.Rows.map szRow).sum
def szC (hs : List CHunk) : Nat := (hs.map szCh).sum
theorem szRow_len (rows : List Row) : rows.length * 96 ≤ (rows.map szRow).sum := by
  induction rows with
  | nil => simp
  | cons x r ih => simp only [List.map_cons, List.sum_cons, List.length_cons, szRow] at ih ⊢; omega
theorem szRow_text (rows : List Row) : textsLen rows ≤ (rows.map szRow).sum := by
  unfold textsLen
  induction rows with
  | nil => simp
  | cons x r ih => simp only [List.map_cons, List.flatten_cons, List.length_append, List.sum_cons, szRow] at ih ⊢; omega
theorem szRow_mem {rows : List Row} {r : Row} (h : r ∈ rows) : szRow r ≤ (rows.map szRow).sum := by
  induction rows with
  | nil => cases h
  | cons x l ih =>
    simp only [List.map_cons, List.sum_cons]
    rcases List.mem_cons.1 h with rfl | h
    · omega
    · have := ih h; omega
theorem szC_mem {hs : List CHunk} {h : CHunk} (hm : h ∈ hs) : szCh h ≤ szC hs := by
  unfold szC
  induction hs with
  | nil => cases hm
  | cons x l ih =>
    simp only [List.map_cons, List.sum_cons]
    rcases List.mem_cons.1 hm with rfl | hm
    · omega
    · have := ih hm; omega
theorem szC_len (hs : List CHunk) : hs.length * 2048 ≤ szC hs := by
  unfold szC
  induction hs with
  | nil => simp
  | cons x l ih =>
    have h2 : 2048 ≤ szCh x := by unfold szCh; exact Nat.le_trans (Nat.le_add_right _ _) (Nat.le_add_right _ _)
    rw [List.map_cons, List.sum_cons, List.length_cons, Nat.add_mul, Nat.one_mul, Nat.add_comm]
    exact Nat.add_le_add h2 ih
theorem szRow_take (rows : List Row) (k : Nat) : ((rows.take k).map szRow).sum ≤ (rows.map szRow).sum := by
  conv => rhs; rw [← List.take_append_drop k rows, List.map_append, List.sum_append]
  omega
theorem szC_take (hs : List CHunk) (k : Nat) : szC (hs.take k) ≤ szC hs := by
  unfold szC
  conv => rhs; rw [← List.take_append_drop k hs, List.map_append, List.sum_append]
  omega
theorem getI {l : List Int} {i : Nat} (h : i < l.length) : l[i]? = some (l.getD i 0) := by simp [h]
theorem cnt_le (rows : List Row) (n k : Nat) : 0 ≤ cntC rows n k ∧ cntC rows n k ≤ rows.length := by
  have := colOf_len rows (colNum n k)
  unfold cntC; omega
theorem cnt_succ (rows : List Row) (n k i : Nat) (h : i < rows.length) : cntC (rows.take (i + 1)) n k = cntC (rows.take i) n k + if visB rows[i] (colNum n k) = true then 1 else 0 := by
  unfold cntC colOf
  rw [List.take_succ_eq_append_getElem h, List.filter_append, List.map_append, List.length_append]
  by_cases hv : visB rows[i] (colNum n k) = true <;> simp [hv]
def cntAt (rows : List Row) (n i p : Nat) : List Int := (List.range (n + 1)).map fun k => cntC (rows.take (if k < p then i + 1 else i)) n k
theorem cntAt_len (rows : List Row) (n i p : Nat) : (cntAt rows n i p).length = n + 1 := by unfold cntAt; simp
theorem cntAt_zero (rows : List Row) (n : Nat) : cntAt rows n 0 0 = List.replicate (n + 1) 0 := by
  unfold cntAt
  refine List.ext_getElem (by simp) fun k h1 h2 => ?_
  simp [cntC, colOf]
theorem cntAt_get (rows : List Row) (n i p : Nat) (hp : p ≤ n) : (cntAt rows n i p)[p]? = some (cntC (rows.take i) n p) := by
  unfold cntAt
  rw [List.getElem?_map, List.getElem?_range (by omega)]; simp
theorem range_setC (f : Nat → Int) (n p : Nat) (v : Int) : ((List.range n).map f).set p v = (List.range n).map (fun k => if k = p then v else f k) := by
  refine List.ext_getElem (by simp) fun k h1 h2 => ?_
  rw [List.getElem_set, List.getElem_map, List.getElem_map, List.getElem_range]
  by_cases e : p = k
  · rw [if_pos e, if_pos e.symm]
  · rw [if_neg e, if_neg (fun h => e h.symm)]
theorem cntAt_step (rows : List Row) (n i p : Nat) (hi : i < rows.length) (hp : p ≤ n) : cntAt rows n i (p + 1) = if visB rows[i] (colNum n p) = true then (cntAt rows n i p).set p (cntC (rows.take i) n p + 1) else cntAt rows n i p := by
  have hs := cnt_succ rows n p i hi
  by_cases hv : visB rows[i] (colNum n p) = true
  · rw [if_pos hv] at hs ⊢
    unfold cntAt
    rw [range_setC]
    refine List.map_congr_left fun k hk => ?_
    by_cases e : k = p
    · subst e; rw [if_pos rfl, if_pos (by omega), hs]
    · rw [if_neg e]
      by_cases h3 : k < p
      · rw [if_pos (by omega), if_pos h3]
      · rw [if_neg (by omega), if_neg h3]
  · rw [if_neg hv] at hs ⊢
    unfold cntAt
    refine List.map_congr_left fun k hk => ?_
    by_cases e : k = p
    · subst e; rw [if_pos (by omega), if_neg (by omega), hs]; omega
    · by_cases h3 : k < p
      · rw [if_pos (by omega), if_pos h3]
      · rw [if_neg (by omega), if_neg h3]
theorem cntAt_next (rows : List Row) (n i : Nat) : cntAt rows n i (n + 1) = cntAt rows n (i + 1) 0 := by
  unfold cntAt
  refine List.map_congr_left fun k hk => ?_
  rw [if_pos (List.mem_range.1 hk), if_neg (by omega)]
theorem cntAt_full (rows : List Row) (n : Nat) : cntAt rows n rows.length 0 = countsC rows n := by
  unfold cntAt countsC
  refine List.map_congr_left fun k hk => ?_
  rw [if_neg (by omega), List.take_length]
theorem counts_get (rows : List Row) (n k : Nat) (h : k < n + 1) : (countsC rows n)[k]? = some (cntC rows n k) := by
  unfold countsC
  rw [List.getElem?_map, List.getElem?_range h]; rfl
def nextAt (n : Nat) (h : CHunk) (k : Nat) : List Int := (List.range (n + 1)).map fun j => if j < k then h.At.getD j 0 + cntC h.Rows n j else cntC h.Rows n j
theorem nextAt_len (n : Nat) (h : CHunk) (k : Nat) : (nextAt n h k).length = n + 1 := by unfold nextAt; simp
theorem nextAt_zero (n : Nat) (h : CHunk) : nextAt n h 0 = countsC h.Rows n := by
  unfold nextAt countsC
  refine List.map_congr_left fun k hk => ?_
  rw [if_neg (by omega)]
theorem nextAt_get (n : Nat) (h : CHunk) (k : Nat) (hk : k < n + 1) : (nextAt n h k)[k]? = some (cntC h.Rows n k) := by
  unfold nextAt
  rw [List.getElem?_map, List.getElem?_range hk]; simp
theorem nextAt_set (n : Nat) (h : CHunk) (k : Nat) : (nextAt n h k).set k (cntC h.Rows n k + h.At.getD k 0) = nextAt n h (k + 1) := by
  unfold nextAt
  rw [range_setC]
  refine List.map_congr_left fun j hj => ?_
  by_cases e : j = k
  · subst e; rw [if_pos rfl, if_pos (by omega)]; omega
  · rw [if_neg e]
    by_cases h3 : j < k
    · rw [if_pos h3, if_pos (by omega)]
    · rw [if_neg h3, if_neg (by omega)]
theorem nextAt_full (n : Nat) (h : CHunk) : nextAt n h (n + 1) = endsTo n h := by
  unfold nextAt endsTo
  refine List.map_congr_left fun k hk => ?_
  rw [if_pos (List.mem_range.1 hk)]
theorem follows_iff (n : Nat) (ends : List Int) (h : CHunk) : followsB n ends h = true ↔ (h.At.length = n + 1 ∧ h.Rows ≠ []) ∧ ∀ k, k < n + 1 → ends.getD k 0 ≤ h.At.getD k 0 ∧ h.At.getD k 0 ≤ 4096 := by
  unfold followsB
  simp only [Bool.and_eq_true, decide_eq_true_eq, List.all_eq_true, List.mem_range]
theorem sideW_len (n : Nat) (h : CHunk) (k : Nat) : (sideW n h k).length ≤ 26 := by
  have := rangeOf_len (h.At.getD k 0) (cntC h.Rows n k)
  unfold sideW; simp only [List.length_append, List.length_cons, List.length_nil]; omega
theorem sidesW_succ (n : Nat) (h : CHunk) (k : Nat) : sidesW n h (k + 1) = sidesW n h k ++ sideW n h k := by
  unfold sidesW
  rw [List.range_succ, List.map_append, List.flatten_append]; simp
theorem sidesW_len (n : Nat) (h : CHunk) : ∀ k, (sidesW n h k).length ≤ 26 * k
  | 0 => by simp [sidesW]
  | k + 1 => by
    have := sidesW_len n h k
    have := sideW_len n h k
    rw [sidesW_succ, List.length_append]; omega
theorem headC_len {n : Nat} (hn : n ≤ 32) (h : CHunk) : (headC n h).length ≤ 925 := by
  have := sidesW_len n h (n + 1)
  unfold headC
  simp only [List.length_append, atS_len, List.length_cons, List.length_nil]; omega
theorem rowPs_len {n : Nat} (hn : n ≤ 32) (r : Row) : (rowPs n r).flatten.length ≤ szRow r := by
  have hm : markS.length = 29 := rfl
  unfold rowPs szRow
  split <;> simp only [List.flatten_cons, List.flatten_nil, List.length_append, marks_len, List.length_nil] <;> omega
theorem rowsPs_len {n : Nat} (hn : n ≤ 32) (rs : List Row) : ((rs.map (rowPs n)).flatten).flatten.length ≤ (rs.map szRow).sum := by
  induction rs with
  | nil => simp
  | cons x r ih =>
    have := rowPs_len hn x
    simp only [List.map_cons, List.flatten_cons, List.flatten_append, List.length_append, List.sum_cons]; omega
theorem chunkPs_len {n : Nat} (hn : n ≤ 32) (h : CHunk) : (chunkPs n h).flatten.length ≤ szCh h := by
  have h1 := headC_len hn h
  have h2 := rowsPs_len hn h.Rows
  unfold chunkPs szCh
  simp only [List.flatten_cons, List.length_append, List.length_cons, List.length_nil]; omega
theorem chunksPs_len {n : Nat} (hn : n ≤ 32) (hs : List CHunk) : ((hs.map (chunkPs n)).flatten).flatten.length ≤ szC hs := by
  unfold szC
  induction hs with
  | nil => simp
  | cons x r ih =>
    have := chunkPs_len hn x
    simp only [List.map_cons, List.flatten_cons, List.flatten_append, List.length_append, List.sum_cons]; omega
def titleS (c : Comb) : Str := kindS c.Dense ++ quoteOf c.Path ++ [10] ++ (parS ++ fmtOf c.Parents ++ [10])
def cTo (c : Comb) (k : Nat) : Str := titleS c ++ (((c.Hunks.take k).map (chunkPs c.Parents.toNat)).flatten).flatten
theorem cTo_zero (c : Comb) : cTo c 0 = titleS c := by simp [cTo]
theorem cTo_succ (c : Comb) (k : Nat) (h : k < c.Hunks.length) : cTo c (k + 1) = cTo c k ++ (chunkPs c.Parents.toNat c.Hunks[k]).flatten := by
  unfold cTo
  rw [List.take_succ_eq_append_getElem h]; simp only [List.map_append, List.map_cons, List.map_nil, List.flatten_append, List.flatten_cons, List.flatten_nil, List.append_nil, List.append_assoc]
theorem cTo_full (c : Comb) : cTo c c.Hunks.length = writeC c := by
  unfold cTo titleS writeC combPs
  rw [List.take_length]; simp
def rTo (n : Nat) (rs : List Row) (k : Nat) : Str := (((rs.take k).map (rowPs n)).flatten).flatten
theorem rTo_zero (n : Nat) (rs : List Row) : rTo n rs 0 = [] := by simp [rTo]
theorem rTo_succ (n : Nat) (rs : List Row) (k : Nat) (h : k < rs.length) : rTo n rs (k + 1) = rTo n rs k ++ (rowPs n rs[k]).flatten := by
  unfold rTo
  rw [List.take_succ_eq_append_getElem h]; simp only [List.map_append, List.map_cons, List.map_nil, List.flatten_append, List.flatten_cons, List.flatten_nil, List.append_nil, List.append_assoc]
theorem rTo_len {n : Nat} (hn : n ≤ 32) (rs : List Row) (k : Nat) : (rTo n rs k).length ≤ (rs.map szRow).sum := by
  have := rowsPs_len hn (rs.take k)
  have := szRow_take rs k
  unfold rTo; omega
theorem chunk_rTo (n : Nat) (h : CHunk) : (chunkPs n h).flatten = headC n h ++ [10] ++ rTo n h.Rows h.Rows.length := by
  unfold chunkPs rTo
  rw [List.take_length]; simp
theorem quote_lenC (p : Str) : (quoteOf p).length ≤ 4 * p.length + 2 := quoteOf_len p
theorem fmt_len (n : Int) : (fmtOf n).length ≤ 10 := fmtOf_len n
theorem titleS_len (c : Comb) : (titleS c).length ≤ 4 * c.Path.length + 48 := by
  have h1 := quote_lenC c.Path
  have h2 := fmt_len c.Parents
  have h3 : (kindS c.Dense).length ≤ 16 := by cases c.Dense <;> decide
  have h4 : parS.length = 8 := rfl
  unfold titleS
  simp only [List.length_append, List.length_cons, List.length_nil]; omega
theorem cTo_len (c : Comb) (hn : c.Parents.toNat ≤ 32) (k : Nat) : (cTo c k).length ≤ 4 * c.Path.length + 48 + szC c.Hunks := by
  have h1 := titleS_len c
  have h2 := chunksPs_len hn (c.Hunks.take k)
  have h3 := szC_take c.Hunks k
  unfold cTo
  rw [List.length_append]; omega
theorem marksS_succ (n : Nat) (r : Row) : marksS (n + 1) r = marksS n r ++ [markB r n] := by
  unfold marksS
  rw [List.range_succ, List.map_append]; rfl
theorem rowPs_flat (n : Nat) (r : Row) : (rowPs n r).flatten = marksS n r ++ r.Text ++ (if ended r.Text = true then [] else markS) := by
  unfold rowPs
  split <;> simp
end Go.AL
namespace Go.AL
open Go
def rowI (s : Str) (n : Int) : Option Row := if n < 1 then none else rowAt s n.toNat
theorem shl_nat (p : Nat) (h : p < 32) : IntKind.u32.wrap (1 * 2 ^ (min ((p : Int)).toNat IntKind.u32.bits)) = ((2 ^ p : Nat) : Int) := by
  have h2 : 2 ^ p < 2 ^ 32 := Nat.pow_lt_pow_right (by decide) h
  have e : (2 : Int) ^ p = ((2 ^ p : Nat) : Int) := by simp
  rw [show min ((p : Int)).toNat IntKind.u32.bits = p by rw [Int.toNat_natCast]; exact Nat.min_eq_left (by show p ≤ 32; omega), Int.one_mul, e, u32_nat _ (by omega)]
theorem or_bit {x p : Nat} (h : x < 2 ^ p) (hp : p < 32) : orBit (x : Int) ((2 ^ p : Nat) : Int) = ((x + 2 ^ p : Nat) : Int) := by
  have h2 : 2 ^ p < 2 ^ 32 := Nat.pow_lt_pow_right (by decide) hp
  rw [(or32_nat x (2 ^ p) (by omega) (by omega)).1]
  have h3 := Nat.two_pow_add_eq_or_of_lt h 1
  rw [Nat.mul_one] at h3
  rw [Nat.or_comm, ← h3, Nat.add_comm]
theorem or_zero {x : Nat} (h : x < 4294967296) : orBit (x : Int) 0 = (x : Int) := by
  have := (or32_nat x 0 h (by omega)).1
  simpa using this
theorem zero_or {x : Nat} (h : x < 4294967296) : orBit 0 (x : Int) = (x : Int) := by
  have := (or32_nat 0 x (by omega) h).1
  simpa using this
theorem bits_step {s : Str} {p : Nat} {c : UInt8} (hv : s[p]? = some c) (d : UInt8) : bitsOf d s (p + 1) = bitsOf d s p + if c = d then 2 ^ p else 0 := by
  rw [bitsOf, List.getD_eq_getElem?_getD, hv]; rfl
theorem sign_step {s : Str} {p : Nat} {c : UInt8} (hv : s[p]? = some c) : (s.take (p + 1)).all signB = ((s.take p).all signB && signB c) := by
  obtain ⟨h, rfl⟩ := List.getElem?_eq_some_iff.1 hv
  rw [List.take_succ_eq_append_getElem h, List.all_append]; simp
theorem sign_no {s : Str} {p N : Nat} {c : UInt8} (hp : p < N) (hv : s[p]? = some c) (hc : signB c = false) : (s.take N).all signB = false := by
  rw [Bool.eq_false_iff]
  intro h
  have := List.all_eq_true.1 h c (List.mem_of_getElem? (i := p) (by rw [List.getElem?_take_of_lt hp]; exact hv))
  rw [hc] at this; cases this
theorem rowI_no {s : Str} {n : Int} (h : n < 1 ∨ 32 < n ∨ (s.length : Int) < n) : rowI s n = none := by
  unfold rowI
  by_cases h1 : n < 1
  · rw [if_pos h1]
  · rw [if_neg h1]; unfold rowAt; rw [if_pos (by omega)]
theorem rowI_sign {s : Str} {N : Nat} (h : (s.take N).all signB = false) : rowI s N = none := by
  unfold rowI
  by_cases h1 : (N : Int) < 1
  · rw [if_pos h1]
  · rw [if_neg h1]; unfold rowAt; rw [if_pos (.inr (.inr (.inr (.inl (by rw [Int.toNat_natCast]; exact h)))))]
theorem rowI_both {s : Str} {N : Nat} (h : bitsOf 43 s N ≠ 0 ∧ bitsOf 45 s N ≠ 0) : rowI s N = none := by
  unfold rowI
  by_cases h1 : (N : Int) < 1
  · rw [if_pos h1]
  · rw [if_neg h1]; unfold rowAt; rw [if_pos (.inr (.inr (.inr (.inr (by rw [Int.toNat_natCast]; exact h)))))]
theorem rowI_yes {s : Str} {N : Nat} (h1 : 1 ≤ N ∧ N ≤ 32) (h2 : N ≤ s.length) (h3 : (s.take N).all signB = true) (h4 : ¬ (bitsOf 43 s N ≠ 0 ∧ bitsOf 45 s N ≠ 0)) :
    rowI s N = some ⟨decide (bitsOf 45 s N ≠ 0), ((bitsOf 43 s N + bitsOf 45 s N : Nat) : Int), s.drop N⟩ := by
  unfold rowI
  rw [if_neg (by omega)]
  unfold rowAt
  rw [Int.toNat_natCast, if_neg]
  simp only [not_or]
  exact ⟨by omega, by omega, by omega, by rw [h3]; decide, h4⟩
theorem bits_lt32 (c : UInt8) (s : Str) {k : Nat} (h : k ≤ 32) : bitsOf c s k < 4294967296 := by
  have h1 := bits_lt c s k
  have h2 : 2 ^ k ≤ 2 ^ 32 := Nat.pow_le_pow_right (by decide) h
  omega
theorem bits_or {s : Str} {N : Nat} (hN : N ≤ 32) (h : ¬ (bitsOf 43 s N ≠ 0 ∧ bitsOf 45 s N ≠ 0)) : orBit (bitsOf 43 s N : Nat) (bitsOf 45 s N : Nat) = ((bitsOf 43 s N + bitsOf 45 s N : Nat) : Int) := by
  have h1 := bits_lt32 43 s hN
  have h2 := bits_lt32 45 s hN
  by_cases h3 : bitsOf 43 s N = 0
  · rw [h3]
    have := zero_or h2
    rw [Nat.zero_add]; exact this
  · have h4 : bitsOf 45 s N = 0 := by omega
    rw [h4]
    have := or_zero h1
    rw [Nat.add_zero]; exact this
theorem rowI_text {s : Str} {n : Int} {r : Row} (h : rowI s n = some r) : (1 ≤ n ∧ n ≤ 32) ∧ r.Text = s.drop n.toNat ∧ (0 ≤ r.Marks ∧ r.Marks < 4294967296) ∧ n.toNat ≤ s.length := by
  unfold rowI at h
  split at h
  · cases h
  · rename_i h0
    unfold rowAt at h
    split at h
    · cases h
    · rename_i h1
      simp only [not_or, Nat.not_lt] at h1
      obtain ⟨a1, a2, a3, a4, a5⟩ := h1
      have hb := bits_add (c := 43) (d := 45) (by decide) s n.toNat
      have hp : 2 ^ n.toNat ≤ 2 ^ 32 := Nat.pow_le_pow_right (by decide) a2
      cases h
      refine ⟨by omega, rfl, ?_, a3⟩
      dsimp only
      omega
theorem cutsBy_mem {c : UInt8} : ∀ (s : Str) (v : Str), v ∈ cutsBy c s → v.length ≤ s.length
  | [], v, h => by simp [cutsBy] at h; simp [h]
  | x :: r, v, h => by
    have ih := cutsBy_mem (c := c) r
    unfold cutsBy at h
    split at h
    · rcases List.mem_cons.1 h with rfl | h
      · simp
      · have := ih v h; simp; omega
    · split at h
      · simp at h; simp [h]
      · rename_i a b e
        rw [e] at ih
        rcases List.mem_cons.1 h with rfl | h
        · have := ih a (by simp); simp; omega
        · have := ih v (by simp [h]); simp; omega
end Go.AL
