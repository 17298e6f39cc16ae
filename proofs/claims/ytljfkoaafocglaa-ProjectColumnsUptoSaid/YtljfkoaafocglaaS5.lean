/- The program's way to check tables and to join lines, as plain functions of Lean, and that it is the reference's. No project text. -/
import Derived.Test.YtljfkoaafocglaaS4
import Derived.Lib.Strings
import Derived.Lib.Bytealg
import Derived.Lib.Join
namespace Go.AL
open Go

/-! ### lines -/
theorem hasSuffix_lf (s : Str) : Lib.hasSuffix s [10] = ended s := by
  unfold Lib.hasSuffix ended
  rw [Bool.eq_iff_iff, List.isSuffixOf_iff_suffix, beq_iff_eq]
  constructor
  · rintro ⟨t, rfl⟩; simp
  · intro h
    obtain ⟨hne, h2⟩ := List.getLast?_eq_some_iff.1 h
    exact ⟨hne, h2.symm⟩

def bareOf (s : Str) : Str := if ended s then s.dropLast else s
theorem trimSuffix_lf (s : Str) : Lib.trimSuffix s [10] = bareOf s := by
  unfold Lib.trimSuffix bareOf
  rw [hasSuffix_lf, List.dropLast_eq_take]; rfl
theorem bareOf_len (s : Str) : (bareOf s).length ≤ s.length := by unfold bareOf; split <;> simp

theorem indexByte_first (c : UInt8) : ∀ l : Str, (c ∉ l ∧ Lib.indexByte l c = -1) ∨ ∃ a b, l = a ++ c :: b ∧ c ∉ a ∧ Lib.indexByte l c = a.length
  | [] => .inl ⟨by simp, rfl⟩
  | x :: l => by
    unfold Lib.indexByte
    by_cases hx : x = c
    · exact .inr ⟨[], l, by rw [hx]; rfl, by simp, by simp [hx]⟩
    · rcases indexByte_first c l with ⟨h1, h2⟩ | ⟨a, b, h1, h2, h3⟩
      · exact .inl ⟨by simp [h1, Ne.symm hx], by simp [hx, h2]⟩
      · refine .inr ⟨x :: a, b, by rw [h1]; rfl, by simp [h2, Ne.symm hx], ?_⟩
        have h4 : ¬ ((a.length : Int) = -1) := by omega
        simp [hx, h3, h4]

theorem indexByte_mem (c : UInt8) (l : Str) : 0 ≤ Lib.indexByte l c ↔ c ∈ l := by
  rcases indexByte_first c l with ⟨h1, h2⟩ | ⟨a, b, h1, h2, h3⟩
  · rw [h2]; simp [h1]
  · rw [h3, h1]; simp

theorem dropLast_app (a b : Str) (c : UInt8) (h : b ≠ []) : c ∈ (a ++ c :: b).dropLast := by
  rw [List.dropLast_append_of_ne_nil (by simp), List.dropLast_cons_of_ne_nil h]; simp

/-- a line feed before the end -/
theorem indexByte_inner (l : Str) : (0 ≤ Lib.indexByte l 10 ∧ Lib.indexByte l 10 < (l.length : Int) - 1) ↔ 10 ∈ l.dropLast := by
  rcases indexByte_first 10 l with ⟨h1, h2⟩ | ⟨a, b, h1, h2, h3⟩
  · rw [h2]
    have : 10 ∉ l.dropLast := fun h => h1 (List.dropLast_subset l h)
    simp [this]
  · rw [h3]
    by_cases hb : b = []
    · subst hb
      have e : l.dropLast = a := by rw [h1]; simp
      rw [e, h1]; simp [h2]
    · have h4 := dropLast_app a b 10 hb
      rw [← h1] at h4
      have h5 : 0 < b.length := List.length_pos_iff.2 hb
      simp only [h4, iff_true]
      rw [h1]; simp only [List.length_append, List.length_cons]; omega

theorem lineOk_iff (s : Str) : lineOk s = true ↔ s ≠ [] ∧ 10 ∉ s.dropLast := by
  unfold lineOk
  rw [Bool.and_eq_true, List.all_eq_true]
  constructor
  · rintro ⟨h1, h2⟩
    exact ⟨by simpa using h2, fun h => by have := h1 10 h; simp at this⟩
  · rintro ⟨h1, h2⟩
    exact ⟨fun x hx => by simpa using fun e : x = 10 => h2 (e ▸ hx), by simpa using h1⟩

theorem mem_bare (s : Str) : 10 ∈ bareOf s ↔ 10 ∈ s.dropLast := by
  unfold bareOf
  split
  · exact Iff.rfl
  · rename_i h
    by_cases hs : s = []
    · subst hs; simp
    · constructor
      · intro h2
        have e := (List.dropLast_concat_getLast hs).symm
        rw [e] at h2
        rcases List.mem_append.1 h2 with h3 | h3
        · exact h3
        · exfalso
          refine h ?_
          unfold ended
          rw [List.getLast?_eq_some_getLast hs]
          simp at h3; simp [← h3]
      · exact fun h2 => List.dropLast_subset s h2

/-- is a row's text a single line? -/
theorem single_eq (s : Str) : (if decide (s ≠ []) = true then !decide (0 ≤ Lib.indexByte (bareOf s) 10) else false) = lineOk s := by
  rw [Bool.eq_iff_iff, lineOk_iff]
  have h := mem_bare s
  have h2 := indexByte_mem 10 (bareOf s)
  by_cases hs : s = []
  · simp [hs]
  · simp [hs, h2, h]

theorem ended_idx (s : Str) (h : lineOk s = true) : ended s = true ↔ 0 ≤ Lib.indexByte s 10 := by
  obtain ⟨h1, h2⟩ := (lineOk_iff s).1 h
  rw [indexByte_mem]
  have e := (List.dropLast_concat_getLast h1).symm
  unfold ended
  rw [List.getLast?_eq_some_getLast h1]
  constructor
  · intro h3
    have : s.getLast h1 = 10 := by simpa using h3
    rw [← this]; exact List.getLast_mem h1
  · intro h3
    rw [e] at h3
    rcases List.mem_append.1 h3 with h3 | h3
    · exact absurd h3 h2
    · simp at h3; simp [← h3]

/-- what the program's Join asks of line i of n -/
def badLine (l : Str) (last : Bool) : Prop := l = [] ∨ (0 ≤ Lib.indexByte l 10 ∧ Lib.indexByte l 10 < (l.length : Int) - 1) ∨ (Lib.indexByte l 10 < 0 ∧ last = false)
theorem badLine_iff (l : Str) (r : List Str) : badLine l r.isEmpty ↔ (lineOk l && (r.isEmpty || ended l)) = false := by
  unfold badLine
  rw [indexByte_inner]
  by_cases hl : lineOk l = true
  · obtain ⟨h1, h2⟩ := (lineOk_iff l).1 hl
    have h3 := ended_idx l hl
    cases hr : r.isEmpty
    · cases he : ended l
      · have : ¬ 0 ≤ Lib.indexByte l 10 := fun h => by rw [h3.2 h] at he; cases he
        simp [hl, h1, h2]; omega
      · have := h3.1 he
        simp [hl, h1, h2]; omega
    · simp [hl, h1, h2]
  · have : l = [] ∨ 10 ∈ l.dropLast := by
      by_cases h1 : l = []
      · exact .inl h1
      · exact .inr (Classical.byContradiction fun h2 => hl ((lineOk_iff l).2 ⟨h1, h2⟩))
    have hf : lineOk l = false := by simpa using hl
    rw [hf]
    constructor
    · intro _; rfl
    · intro _; rcases this with h | h
      · exact .inl h
      · exact .inr (.inl h)

theorem listOk_cons (s : Str) (r : List Str) : listOk (s :: r) = (lineOk s && (r.isEmpty || ended s) && listOk r) := rfl

theorem join_nil (l : List Str) : Lib.join l [] = l.flatten := by
  induction l with
  | nil => rfl
  | cons s r ih =>
    cases r with
    | nil => simp [Lib.join]
    | cons t r =>
      have e : List.intersperse ([] : Str) (s :: t :: r) = s :: [] :: List.intersperse [] (t :: r) := rfl
      simp only [Lib.join, List.intercalate, e, List.flatten_cons, List.nil_append] at ih ⊢
      rw [ih]

/-! ### bits -/
def and32 (a b : Int) : Int := IntKind.u32.wrap ((BitVec.ofInt IntKind.u32.bits a &&& BitVec.ofInt IntKind.u32.bits b).toNat : Int)
def not32 (a : Int) : Int := IntKind.u32.wrap ((BitVec.ofInt IntKind.u32.bits IntKind.u32.max ^^^ BitVec.ofInt IntKind.u32.bits a).toNat : Int)

theorem bitAt_nat (n c : Nat) : bitAt (n : Int) c = n.testBit c := by
  unfold bitAt
  rw [Nat.testBit_eq_decide_div_mod_eq]
  have : ((n : Int) / 2 ^ c % 2 == 1) = decide (n / 2 ^ c % 2 = 1) := by
    rw [Bool.eq_iff_iff, beq_iff_eq, decide_eq_true_iff]
    have e : (n : Int) / 2 ^ c % 2 = ((n / 2 ^ c % 2 : Nat) : Int) := by simp
    rw [e]; omega
  exact this

theorem u32_nat (n : Nat) (h : n < 4294967296) : IntKind.u32.wrap (n : Int) = n := by simp [IntKind.wrap, IntKind.signed, IntKind.bits]; omega
theorem bv_nat (n : Nat) : BitVec.ofInt IntKind.u32.bits (n : Int) = BitVec.ofNat 32 n := BitVec.ofInt_natCast 32 n

theorem and32_nat (n m : Nat) (hn : n < 4294967296) (hm : m < 4294967296) : and32 n m = ((n &&& m : Nat) : Int) := by
  unfold and32
  rw [bv_nat, bv_nat]
  have e : (BitVec.ofNat 32 n &&& BitVec.ofNat 32 m).toNat = n &&& m := by
    rw [BitVec.toNat_and, BitVec.toNat_ofNat, BitVec.toNat_ofNat, Nat.mod_eq_of_lt (by omega), Nat.mod_eq_of_lt (by omega)]
  have h2 : n &&& m < 2 ^ 32 := Nat.and_lt_two_pow n (by omega)
  show IntKind.u32.wrap ((BitVec.ofNat 32 n &&& BitVec.ofNat 32 m).toNat : Int) = _
  rw [e, u32_nat _ (by omega)]

theorem or32_nat (n m : Nat) (hn : n < 4294967296) (hm : m < 4294967296) : orBit n m = ((n ||| m : Nat) : Int) ∧ n ||| m < 4294967296 := by
  unfold orBit
  rw [bv_nat, bv_nat]
  have e : (BitVec.ofNat 32 n ||| BitVec.ofNat 32 m).toNat = n ||| m := by
    rw [BitVec.toNat_or, BitVec.toNat_ofNat, BitVec.toNat_ofNat, Nat.mod_eq_of_lt (by omega), Nat.mod_eq_of_lt (by omega)]
  have h2 : n ||| m < 2 ^ 32 := Nat.or_lt_two_pow (by omega) (by omega)
  refine ⟨?_, by omega⟩
  show IntKind.u32.wrap ((BitVec.ofNat 32 n ||| BitVec.ofNat 32 m).toNat : Int) = _
  rw [e, u32_nat _ (by omega)]

theorem not32_nat (n : Nat) (hn : n < 4294967296) : not32 n = ((4294967295 ^^^ n : Nat) : Int) ∧ 4294967295 ^^^ n < 4294967296 := by
  unfold not32
  rw [bv_nat, show IntKind.u32.max = ((4294967295 : Nat) : Int) from rfl, bv_nat]
  have e : (BitVec.ofNat 32 4294967295 ^^^ BitVec.ofNat 32 n).toNat = 4294967295 ^^^ n := by
    rw [BitVec.toNat_xor, BitVec.toNat_ofNat, BitVec.toNat_ofNat, Nat.mod_eq_of_lt (by omega), Nat.mod_eq_of_lt (by omega)]
  have h2 : 4294967295 ^^^ n < 2 ^ 32 := Nat.xor_lt_two_pow (by omega) (by omega)
  refine ⟨?_, by omega⟩
  show IntKind.u32.wrap ((BitVec.ofNat 32 4294967295 ^^^ BitVec.ofNat 32 n).toNat : Int) = _
  rw [e, u32_nat _ (by omega)]

theorem ones_bit (c : Nat) (h : c < 32) : (4294967295 : Nat).testBit c = true := by
  have : (4294967295 : Nat) = 2 ^ 32 - 1 := rfl
  rw [this, Nat.testBit_two_pow_sub_one]; simpa using h

/-! ### the ends of the columns -/
def inOf (r : Row) : Int := if r.Lost then r.Marks else not32 r.Marks
def addOk (res : Bool) (par : Int) (r : Row) : Bool := decide (and32 par (inOf r) = 0) && (r.Lost || !res)
def addRes (res : Bool) (r : Row) : Bool := if ended r.Text then res else res || !r.Lost
def addPar (par : Int) (r : Row) : Int := if ended r.Text then par else orBit par (inOf r)
def addsOk : Bool → Int → List Row → Bool
  | _, _, [] => true
  | res, par, r :: rs => lineOk r.Text && addOk res par r && addsOk (addRes res r) (addPar par r) rs

theorem inOf_nat (r : Row) (hr : 0 ≤ r.Marks ∧ r.Marks < 4294967296) : ∃ m : Nat, m < 4294967296 ∧ inOf r = m ∧ ∀ c, c < 32 → m.testBit c = visB r c := by
  obtain ⟨k, hk⟩ : ∃ k : Nat, r.Marks = k := ⟨r.Marks.toNat, by omega⟩
  have hv : ∀ c : Nat, c < 32 → visB r c = (k.testBit c == r.Lost) := by
    intro c hc
    rw [visB, if_neg (by omega), if_neg (by omega), hk, Int.toNat_natCast, bitAt_nat]
  unfold inOf
  cases hl : r.Lost
  · have := not32_nat k (by omega)
    refine ⟨4294967295 ^^^ k, this.2, by rw [if_neg (by simp), hk]; exact this.1, fun c hc => ?_⟩
    rw [hv c hc, hl, Nat.testBit_xor, ones_bit c hc]
    cases k.testBit c <;> rfl
  · refine ⟨k, by omega, by rw [if_pos rfl]; exact hk, fun c hc => ?_⟩
    rw [hv c hc, hl]
    cases k.testBit c <;> rfl

theorem vis_result (r : Row) : visB r (-1) = !r.Lost := by rw [visB, if_pos rfl]

/-- all but the last line end -/
def listOkB : Bool → List Str → Bool
  | _, [] => true
  | b, s :: r => !b && lineOk s && listOkB (!ended s) r
theorem listOkB_true (l : List Str) : listOkB true l = l.isEmpty := by cases l <;> simp [listOkB]
theorem listOk_B (l : List Str) : listOk l = listOkB false l := by
  induction l with
  | nil => rfl
  | cons s r ih =>
    rw [listOk_cons, ih, listOkB]
    cases he : ended s
    · rw [show (!false) = true from rfl, listOkB_true]
      cases r <;> simp [listOkB]
    · simp

/-- the state after some rows: bad c: a line of column c had no line feed -/
structure EndsAt (res : Bool) (par : Int) (bad : Int → Bool) : Prop where
  res : res = bad (-1)
  par : ∃ p : Nat, p < 4294967296 ∧ par = p ∧ ∀ c : Nat, c < 32 → p.testBit c = bad c

theorem and_zero (n m : Nat) (hm : m < 4294967296) : n &&& m = 0 ↔ ∀ c, c < 32 → m.testBit c = true → n.testBit c = false := by
  constructor
  · intro h c hc hm1
    have : (n &&& m).testBit c = false := by rw [h]; simp
    rw [Nat.testBit_and, hm1] at this
    simpa using this
  · intro h
    refine Nat.eq_of_testBit_eq fun c => ?_
    rw [Nat.testBit_and, Nat.zero_testBit]
    by_cases hc : c < 32
    · cases hm1 : m.testBit c
      · simp
      · rw [h c hc hm1]; rfl
    · have : m.testBit c = false := Nat.testBit_lt_two_pow (Nat.lt_of_lt_of_le (by omega : m < 2 ^ 32) (Nat.pow_le_pow_right (by omega) (by omega)))
      rw [this]; simp

theorem addOk_iff {res : Bool} {par : Int} {bad : Int → Bool} (h : EndsAt res par bad) (r : Row) (hr : 0 ≤ r.Marks ∧ r.Marks < 4294967296) : addOk res par r = true ↔ ∀ c : Int, -1 ≤ c → c < 32 → visB r c = true → bad c = false := by
  obtain ⟨m, hm, he, hb⟩ := inOf_nat r hr
  obtain ⟨p, hp, hpe, hpb⟩ := h.par
  unfold addOk
  rw [he, hpe, and32_nat p m hp hm, Bool.and_eq_true, decide_eq_true_iff, show (((p &&& m : Nat) : Int) = 0) ↔ p &&& m = 0 by omega, and_zero p m hm]
  constructor
  · rintro ⟨h1, h2⟩ c hc1 hc2 hv
    by_cases hc : c = -1
    · subst hc
      rw [vis_result] at hv
      rw [← h.res]
      simpa [show r.Lost = false by simpa using hv] using h2
    · obtain ⟨k, rfl⟩ : ∃ k : Nat, c = k := ⟨c.toNat, by omega⟩
      rw [← hpb k (by omega)]
      exact h1 k (by omega) (by rw [hb k (by omega)]; exact hv)
  · intro h1
    refine ⟨fun c hc hm1 => ?_, ?_⟩
    · rw [hpb c hc]
      exact h1 c (by omega) (by omega) (by rw [← hb c hc]; exact hm1)
    · cases hl : r.Lost
      · have := h1 (-1) (by omega) (by omega) (by rw [vis_result, hl]; rfl)
        rw [h.res, this]; rfl
      · rfl

theorem ends_step {res : Bool} {par : Int} {bad : Int → Bool} (h : EndsAt res par bad) (r : Row) (hr : 0 ≤ r.Marks ∧ r.Marks < 4294967296) : EndsAt (addRes res r) (addPar par r) (fun c => bad c || (visB r c && !ended r.Text)) := by
  obtain ⟨m, hm, he, hb⟩ := inOf_nat r hr
  obtain ⟨p, hp, hpe, hpb⟩ := h.par
  unfold addRes addPar
  cases hen : ended r.Text
  · have ho := or32_nat p m hp hm
    refine ⟨?_, p ||| m, ho.2, ?_, fun c hc => ?_⟩
    · rw [if_neg (by simp), h.res, vis_result]; simp
    · rw [if_neg (by simp), he, hpe]; exact ho.1
    · rw [Nat.testBit_or, hpb c hc, hb c hc]; simp
  · refine ⟨?_, p, hp, ?_, fun c hc => ?_⟩
    · rw [if_pos rfl, h.res]; simp
    · rw [if_pos rfl]; exact hpe
    · rw [hpb c hc]; simp

theorem colOf_cons (r : Row) (rs : List Row) (c : Int) : colOf (r :: rs) c = if visB r c then r.Text :: colOf rs c else colOf rs c := by
  unfold colOf
  cases hv : visB r c <;> simp [hv]

theorem addsOk_iff : ∀ (rows : List Row) (res : Bool) (par : Int) (bad : Int → Bool), EndsAt res par bad → rowsIn rows → (addsOk res par rows = true ↔ (∀ r ∈ rows, lineOk r.Text = true) ∧ ∀ c : Int, -1 ≤ c → c < 32 → listOkB (bad c) (colOf rows c) = true)
  | [], res, par, bad, _, _ => by simp [addsOk, colOf, listOkB]
  | r :: rs, res, par, bad, h, hr => by
    have hr1 := hr r (by simp)
    have ih := addsOk_iff rs _ _ _ (ends_step h r hr1) (fun x hx => hr x (by simp [hx]))
    rw [addsOk, Bool.and_eq_true, Bool.and_eq_true, addOk_iff h r hr1, ih]
    constructor
    · rintro ⟨⟨h1, h2⟩, h3, h4⟩
      refine ⟨fun x hx => ?_, fun c hc1 hc2 => ?_⟩
      · rcases List.mem_cons.1 hx with rfl | hx
        · exact h1
        · exact h3 x hx
      · have h5 := h4 c hc1 hc2
        rw [colOf_cons]
        cases hv : visB r c
        · rw [if_neg (by simp)]; simpa [hv] using h5
        · rw [if_pos rfl, listOkB, h2 c hc1 hc2 hv, h1]
          rw [h2 c hc1 hc2 hv, hv] at h5
          simpa using h5
    · rintro ⟨h1, h2⟩
      refine ⟨⟨h1 r (by simp), fun c hc1 hc2 hv => ?_⟩, fun x hx => h1 x (by simp [hx]), fun c hc1 hc2 => ?_⟩
      · have h3 := h2 c hc1 hc2
        rw [colOf_cons, hv, if_pos rfl, listOkB] at h3
        simp only [Bool.and_eq_true, Bool.not_eq_true'] at h3
        exact h3.1.1
      · have h3 := h2 c hc1 hc2
        rw [colOf_cons] at h3
        cases hv : visB r c
        · rw [hv, if_neg (by simp)] at h3; simpa using h3
        · rw [hv, if_pos rfl, listOkB] at h3
          simp only [Bool.and_eq_true, Bool.not_eq_true'] at h3
          rw [h3.1.1]; simpa using h3.2

theorem ends0 : EndsAt false 0 (fun _ => false) := ⟨rfl, 0, by omega, rfl, fun c _ => by simp⟩

theorem div_pow_zero (m : Int) (n c : Nat) (h0 : 0 ≤ m) (h : m / 2 ^ n = 0) (hc : n ≤ c) : bitAt m c = false := by
  obtain ⟨k, rfl⟩ : ∃ k : Nat, m = k := ⟨m.toNat, by omega⟩
  rw [bitAt_nat]
  have h1 : (k : Int) / 2 ^ n = ((k / 2 ^ n : Nat) : Int) := by simp
  rw [h1] at h
  have h2 : k / 2 ^ n = 0 := by omega
  have h3 : k < 2 ^ n := by
    rcases Nat.div_eq_zero_iff.1 h2 with h3 | h3
    · have := Nat.two_pow_pos n; omega
    · exact h3
  exact Nat.testBit_lt_two_pow (Nat.lt_of_lt_of_le h3 (Nat.pow_le_pow_right (by omega) hc))

theorem colOf_beyond (rows : List Row) (n : Nat) (hm : marksOk rows n = true) (hr : rowsIn rows) (c : Int) (h1 : (n : Int) ≤ c) (h2 : c < 32) : colOf rows c = colOf rows (-1) := by
  unfold colOf
  have : rows.filter (visB · c) = rows.filter (visB · (-1)) := by
    refine List.filter_congr fun r hmem => ?_
    have h3 : markOk n r = true := List.all_eq_true.1 hm r hmem
    unfold markOk at h3
    simp only [Bool.and_eq_true, beq_iff_eq] at h3
    have h4 := div_pow_zero r.Marks n c.toNat (hr r hmem).1 h3.1 (by omega)
    rw [vis_result, visB, if_neg (by omega), if_neg (by omega), h4]
    cases r.Lost <;> rfl
  rw [this]

/-- the program's look at the ends of all columns at once is the reference's look at each column -/
theorem adds_texts (rows : List Row) (n : Nat) (hn : n ≤ 32) (hm : marksOk rows n = true) (hr : rowsIn rows) : addsOk false 0 rows = textsOk rows n := by
  rw [Bool.eq_iff_iff, addsOk_iff rows false 0 _ ends0 hr, textsOk, Bool.and_eq_true, List.all_eq_true, List.all_eq_true]
  refine and_congr Iff.rfl ?_
  constructor
  · intro h k hk
    have hk := List.mem_range.1 hk
    rw [listOk_B]
    exact h _ (by omega) (by omega)
  · intro h c hc1 hc2
    have key : ∀ c : Int, -1 ≤ c → c < n → listOkB false (colOf rows c) = true := by
      intro c h1 h2
      have := h (c + 1).toNat (List.mem_range.2 (by omega))
      rw [show (((c + 1).toNat : Nat) : Int) - 1 = c by omega, listOk_B] at this
      exact this
    by_cases hcn : c < n
    · exact key c hc1 hcn
    · rw [colOf_beyond rows n hm hr c (by omega) hc2]
      exact key (-1) (by omega) (by omega)
end Go.AL
