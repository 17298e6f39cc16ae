/- Walks of the program's functions. -/
import Derived.Test.YtbiadkkamhpdnaaGreatDoorFa
import Derived.Test.YtbiadkkamhpdnaaGreatDoorFs
import Derived.Lib.AppendIntMem
set_option linter.unusedSimpArgs false
namespace Go.Proofs.YtbiadkkamhpdnaaGreatDoor
open Go Go.AL
set_option maxRecDepth 100000
theorem splain_ok (c : UInt8) : FnOk Tryz.prog 197 [pByte c] (fun rs => rs = [pBool (plainB c)]) := by
  refine FnOk.intro Tryz.func197 (by decide) rfl rfl rfl rfl ?_
  refine k2 ?_
  refine c_region ?_; refine l_neu (n_assign rfl rfl) rfl ?_; refine l_nil ?_
  refine k1 ?_; refine k2 ?_
  refine c_region ?_; refine l_neu (n_move rfl rfl) rfl ?_; refine l_neu (n_geq rfl rfl) rfl ?_; refine l_neu (n_move rfl rfl) rfl ?_; refine l_guard rfl rfl rfl rfl (fun hg => by rw [hg]; exact n_move rfl rfl) ?_; refine l_guard rfl rfl rfl rfl (fun hg => by rw [hg]; exact n_leq rfl rfl) ?_; refine l_neu (n_pick_bool rfl (fun h => by first | rfl | (rw [h]; rfl)) (fun h => by first | rfl | (rw [h]; rfl))) rfl ?_; refine l_neu (n_move rfl rfl) rfl ?_; refine l_guard rfl rfl rfl rfl (fun hg => by rw [hg]; exact n_move rfl rfl) ?_; refine l_guard rfl rfl rfl rfl (fun hg => by rw [hg]; exact n_neq rfl rfl) ?_; refine l_neu (n_pick_bool rfl (fun h => by first | rfl | (rw [h]; rfl)) (fun h => by first | rfl | (rw [h]; rfl))) rfl ?_; refine l_neu (n_move rfl rfl) rfl ?_; refine l_guard rfl rfl rfl rfl (fun hg => by rw [hg]; exact n_move rfl rfl) ?_; refine l_guard rfl rfl rfl rfl (fun hg => by rw [hg]; exact n_neq rfl rfl) ?_; refine l_neu (n_pick_bool rfl (fun h => by first | rfl | (rw [h]; rfl)) (fun h => by first | rfl | (rw [h]; rfl))) rfl ?_; refine l_neu (n_assign rfl rfl) rfl ?_; refine l_nil ?_
  refine k1 ?_; refine k10 ?_
  refine ret_ret (ret1 rfl rfl rfl) ?_
  simp only [and_pick]
  congr 4
  unfold plainB
  congr 1
  simp; omega
end Go.Proofs.YtbiadkkamhpdnaaGreatDoor
namespace Go.Proofs.YtbiadkkamhpdnaaGreatDoor
open Go Go.AL Go.RowKit
set_option maxRecDepth 100000
theorem u8dig (q : Nat) (h : q < 8) : IntKind.u8.wrap (48 + (q : Int)) = ((UInt8.ofNat (48 + q)).toNat : Int) := by
  rw [IntWalk.u8_in _ (by omega)]
  have : (UInt8.ofNat (48 + q)).toNat = 48 + q := by rw [UInt8.toNat_ofNat']; omega
  rw [this]; simp
theorem and7_u8 (x : Nat) (h : x < 256) : IntKind.u8.wrap ((BitVec.ofInt IntKind.u8.bits (x : Int) &&& BitVec.ofInt IntKind.u8.bits 7).toNat : Int) = ((x % 8 : Nat) : Int) := by
  have h1 : (BitVec.ofInt IntKind.u8.bits (x : Int) &&& BitVec.ofInt IntKind.u8.bits 7).toNat = x % 8 := by
    rw [BitVec.toNat_and, BitVec.toNat_ofInt, BitVec.toNat_ofInt]
    have e1 : ((x : Int) % ((2 ^ IntKind.u8.bits : Nat) : Int)).toNat = x := by
      rw [show ((2 ^ IntKind.u8.bits : Nat) : Int) = 256 by rfl]; omega
    have e2 : ((7 : Int) % ((2 ^ IntKind.u8.bits : Nat) : Int)).toNat = 2 ^ 3 - 1 := by rfl
    rw [e1, e2, Nat.and_two_pow_sub_one_eq_mod]
  rw [h1, IntWalk.u8_in _ (by omega)]
theorem shr_u8 (x : Nat) (c : Nat) (h : c ≤ 8) : (x : Int).fdiv (2 ^ min (Int.toNat (c : Int)) IntKind.u8.bits) = ((x / 2 ^ c : Nat) : Int) := by
  rw [shr_eq _ _ IntKind.u8.bits ⟨by omega, by show (c : Int) ≤ 8; omega⟩]
  simp
theorem escaped_ok (c : UInt8) : FnOk Tryz.prog 198 [pByte c] (fun rs => rs = [pStr (escOf c)]) := by
  have hc := c.toNat_lt
  refine FnOk.intro Tryz.func198 (by decide) rfl rfl rfl rfl ?_
  refine k2 ?_
  refine c_region ?_; refine l_neu (n_assign rfl rfl) rfl ?_; refine l_nil ?_
  refine k1 ?_; refine k2 ?_; refine k3 ?_; refine k2 ?_
  refine c_region ?_; refine l_neu (n_move rfl rfl) rfl ?_; refine l_neu (n_eql rfl rfl) rfl ?_; refine l_neu (n_move rfl rfl) rfl ?_; refine l_guard rfl rfl rfl rfl (fun hg => by rw [hg]; exact n_move rfl rfl) ?_; refine l_guard rfl rfl rfl rfl (fun hg => by rw [hg]; exact n_eql rfl rfl) ?_; refine l_neu (n_pick_bool rfl (fun h => by first | rfl | (rw [h]; rfl)) (fun h => by first | rfl | (rw [h]; rfl))) rfl ?_; refine l_neu (n_assign rfl rfl) rfl ?_; refine l_nil ?_
  refine k1 ?_
  refine c_cond rfl (fun ht => ?_) (fun ht => ?_)
  · have h := of_decide_eq_true (or_pick.symm.trans ht)
    refine k2 ?_
    refine c_region ?_; refine l_neu (n_move rfl rfl) rfl ?_; refine l_neu (n_byte_string rfl (by omega)) rfl ?_; refine l_neu (n_add_s rfl rfl (by simp)) rfl ?_; refine l_neu (n_assign rfl rfl) rfl ?_; refine l_nil ?_
    refine k1 ?_; refine k10 ?_; refine k12 ?_; refine k11 ?_
    exact ret_ret (ret1 rfl rfl rfl) (by rw [escOf, if_pos (by omega)]; rfl)
  · have h := of_decide_eq_false (or_pick.symm.trans ht)
    refine k2 ?_
    refine c_region ?_; refine l_neu (n_move rfl rfl) rfl ?_; refine l_neu (n_eql rfl rfl) rfl ?_; refine l_neu (n_assign rfl rfl) rfl ?_; refine l_nil ?_
    refine k1 ?_
    refine c_cond rfl (fun ht => ?_) (fun ht => ?_)
    · have h1 := of_decide_eq_true ht
      refine k2 ?_
      refine c_region ?_; refine l_neu (n_assign rfl rfl) rfl ?_; refine l_nil ?_
      refine k1 ?_; refine k10 ?_; refine k12 ?_; refine k11 ?_
      exact ret_ret (ret1 rfl rfl rfl) (by rw [escOf, if_neg (by omega), if_pos (by omega)])
    · have h1 := of_decide_eq_false ht
      refine k2 ?_
      refine c_region ?_; refine l_neu (n_move rfl rfl) rfl ?_; refine l_neu (n_eql rfl rfl) rfl ?_; refine l_neu (n_assign rfl rfl) rfl ?_; refine l_nil ?_
      refine k1 ?_
      refine c_cond rfl (fun ht => ?_) (fun ht => ?_)
      · have h2 := of_decide_eq_true ht
        refine k2 ?_
        refine c_region ?_; refine l_neu (n_assign rfl rfl) rfl ?_; refine l_nil ?_
        refine k1 ?_; refine k10 ?_; refine k12 ?_; refine k11 ?_
        exact ret_ret (ret1 rfl rfl rfl) (by rw [escOf, if_neg (by omega), if_neg (by omega), if_pos (by omega)])
      · have h2 := of_decide_eq_false ht
        refine k2 ?_
        refine c_region ?_; refine l_neu (n_move rfl rfl) rfl ?_; refine l_neu (n_lss rfl rfl) rfl ?_; refine l_neu (n_move rfl rfl) rfl ?_; refine l_guard rfl rfl rfl rfl (fun hg => by rw [hg]; exact n_move rfl rfl) ?_; refine l_guard rfl rfl rfl rfl (fun hg => by rw [hg]; exact n_gtr rfl rfl) ?_; refine l_neu (n_pick_bool rfl (fun h => by first | rfl | (rw [h]; rfl)) (fun h => by first | rfl | (rw [h]; rfl))) rfl ?_; refine l_neu (n_assign rfl rfl) rfl ?_; refine l_nil ?_
        refine k1 ?_
        refine c_cond rfl (fun ht => ?_) (fun ht => ?_)
        · have h3 := of_decide_eq_true (or_pick.symm.trans ht)
          refine k2 ?_
          have f6 : (c.toNat : Int).fdiv (2 ^ min (Int.toNat 6) IntKind.u8.bits) = ((c.toNat / 64 : Nat) : Int) := shr_u8 c.toNat 6 (by omega)
          have f3 : (c.toNat : Int).fdiv (2 ^ min (Int.toNat 3) IntKind.u8.bits) = ((c.toNat / 8 : Nat) : Int) := shr_u8 c.toNat 3 (by omega)
          have e1 := u8dig (c.toNat / 64) (by omega)
          have e2 := u8dig (c.toNat / 8 % 8) (by omega)
          have e3 := u8dig (c.toNat % 8) (by omega)
          have hol := octOf_bytes c
          refine c_region ?_; refine l_neu (n_move rfl rfl) rfl ?_; refine l_neu (n_shr rfl rfl (by omega)) rfl ?_; refine l_neu (n_add_w rfl rfl) rfl ?_; refine l_neu (n_move rfl rfl) rfl ?_; refine l_neu (n_shr rfl rfl (by omega)) rfl ?_; refine l_neu (n_bits rfl rfl rfl (fun _ => rfl)) rfl ?_; refine l_neu (n_add_w rfl rfl) rfl ?_; refine l_neu (n_move rfl rfl) rfl ?_; refine l_neu (n_bits rfl rfl rfl (fun _ => rfl)) rfl ?_; refine l_neu (n_add_w rfl rfl) rfl ?_; rw [f6, f3, and7_u8 (c.toNat / 8) (by omega), and7_u8 c.toNat (by omega), e1, e2, e3]; refine l_neu (n_buildSlice (c := u8C) (ys := [UInt8.ofNat (48 + c.toNat / 64), UInt8.ofNat (48 + c.toNat / 8 % 8), UInt8.ofNat (48 + c.toNat % 8)]) (asm_cons rfl rfl rfl rfl (asm_cons rfl rfl rfl rfl (asm_cons rfl rfl rfl rfl asm_nil))) rfl rfl rfl) rfl ?_; refine l_neu (n_bytes_string TyStr.out rfl (.pure _ _ _ _)) rfl ?_; refine l_neu (n_add_s rfl rfl (by simp)) rfl ?_; refine l_neu (n_assign rfl rfl) rfl ?_; refine l_nil ?_
          refine k1 ?_; refine k10 ?_; refine k12 ?_; refine k11 ?_
          exact ret_ret (ret1 rfl rfl rfl) (by rw [escOf, if_neg (by omega), if_neg (by omega), if_neg (by omega), if_pos (by omega), hol]; rfl)
        · have h3 := of_decide_eq_false (or_pick.symm.trans ht)
          refine k5 ?_; refine k2 ?_
          refine c_region ?_; refine l_neu (n_move rfl rfl) rfl ?_; refine l_neu (n_byte_string rfl (by omega)) rfl ?_; refine l_neu (n_assign rfl rfl) rfl ?_; refine l_nil ?_
          refine k1 ?_; refine k10 ?_
          exact ret_ret (ret1 rfl rfl rfl) (by rw [escOf, if_neg (by omega), if_neg (by omega), if_neg (by omega), if_neg (by omega)])
theorem itoa_ok (n : Int) (h : 0 ≤ n ∧ n ≤ 2147483647) : FnOk Tryz.prog 205 [pInt n] (fun rs => rs = [pStr (Lib.itoa n)]) :=
  FnOk.ofPlainG (xs := [.int .i64 n]) (r := .string ⟨(Lib.itoa n).toArray⟩) ⟨_, rfl, rfl, rfl⟩ rfl fun w hw =>
    (Tryz.strconv_Itoa n (by omega) (by omega) w (hw.pow10 rfl)).mono fun e w' ⟨he, k, os, hw'⟩ => ⟨he, by subst hw'; exact Lib.below_grow _ _ (Nat.le_refl _) _ _⟩
theorem sformat_ok (n : Int) : FnOk Tryz.prog 148 [pInt n] (fun rs => rs = [pStr (fmtOf n)]) := by
  refine FnOk.intro Tryz.func148 (by decide) rfl rfl rfl rfl ?_
  refine k2 ?_
  refine c_region ?_; refine l_neu (n_assign rfl rfl) rfl ?_; refine l_nil ?_
  refine k1 ?_; refine k2 ?_; refine k2 ?_
  refine c_region ?_; refine l_neu (n_move rfl rfl) rfl ?_; refine l_neu (n_lss rfl rfl) rfl ?_; refine l_neu (n_move rfl rfl) rfl ?_; refine l_guard rfl rfl rfl rfl (fun hg => by rw [hg]; exact n_move rfl rfl) ?_; refine l_guard rfl rfl rfl rfl (fun hg => by rw [hg]; exact n_gtr rfl rfl) ?_; refine l_neu (n_pick_bool rfl (fun h => by first | rfl | (rw [h]; rfl)) (fun h => by first | rfl | (rw [h]; rfl))) rfl ?_; refine l_nil ?_
  refine k1 ?_
  refine c_cond rfl (fun ht => ?_) (fun ht => ?_)
  · have h := of_decide_eq_true (or_pick.symm.trans ht)
    refine k2 ?_
    refine c_region ?_; refine l_neu (n_assign rfl rfl) rfl ?_; refine l_nil ?_
    refine k1 ?_; refine k10 ?_; refine k11 ?_
    exact ret_ret (ret1 rfl rfl rfl) (by rw [fmtOf, if_pos (by omega)])
  · have h := of_decide_eq_false (or_pick.symm.trans ht)
    refine k5 ?_; refine k1 ?_; refine k2 ?_
    refine c_region ?_; refine l_neu (n_move rfl rfl) rfl ?_; refine l_call (itoa_ok n (by omega)) rfl rfl rfl ?_; rintro _ rfl; refine l_neu (n_assign rfl rfl) rfl ?_; refine l_nil ?_
    refine k1 ?_; refine k10 ?_
    exact ret_ret (ret1 rfl rfl rfl) (by rw [fmtOf, if_neg (by omega)])
theorem srange_ok (a n : Int) (ha : -4611686018427387904 ≤ a ∧ a ≤ 4611686018427387904) (hn : -4611686018427387904 ≤ n ∧ n ≤ 4611686018427387904) : FnOk Tryz.prog 151 [pInt a, pInt n] (fun rs => rs = [pStr (rangeOf a n)]) := by
  refine FnOk.intro Tryz.func151 (by decide) rfl rfl rfl rfl ?_
  refine k2 ?_
  refine c_region ?_; refine l_neu (n_assign rfl rfl) rfl ?_; refine l_nil ?_
  refine k1 ?_; refine k2 ?_; refine k2 ?_
  refine c_region ?_; refine l_neu (n_move rfl rfl) rfl ?_; refine l_neu (n_lss rfl rfl) rfl ?_; refine l_neu (n_move rfl rfl) rfl ?_; refine l_guard rfl rfl rfl rfl (fun hg => by rw [hg]; exact n_move rfl rfl) ?_; refine l_guard rfl rfl rfl rfl (fun hg => by rw [hg]; exact n_lss rfl rfl) ?_; refine l_neu (n_pick_bool rfl (fun h => by first | rfl | (rw [h]; rfl)) (fun h => by first | rfl | (rw [h]; rfl))) rfl ?_; refine l_neu (n_move rfl rfl) rfl ?_; refine l_guard rfl rfl rfl rfl (fun hg => by rw [hg]; exact n_move rfl rfl) ?_; refine l_guard rfl rfl rfl rfl (fun hg => by rw [hg]; exact n_gtr rfl rfl) ?_; refine l_neu (n_pick_bool rfl (fun h => by first | rfl | (rw [h]; rfl)) (fun h => by first | rfl | (rw [h]; rfl))) rfl ?_; refine l_neu (n_move rfl rfl) rfl ?_; refine l_guard rfl rfl rfl rfl (fun hg => by rw [hg]; exact n_move rfl rfl) ?_; refine l_guard rfl rfl rfl rfl (fun hg => by rw [hg]; exact n_move rfl rfl) ?_; refine l_guard rfl rfl rfl rfl (fun hg => by rw [hg]; exact n_sub rfl rfl (by (first | omega | (simp at hq; omega)))) ?_; refine l_guard rfl rfl rfl rfl (fun hg => by rw [hg]; exact n_gtr rfl rfl) ?_; refine l_neu (n_pick_bool rfl (fun h => by first | rfl | (rw [h]; rfl)) (fun h => by first | rfl | (rw [h]; rfl))) rfl ?_; refine l_nil ?_
  refine k1 ?_
  have l1 := fmtOf_len a
  have l2 := fmtOf_len (a + 1)
  have l3 := fmtOf_len n
  refine c_cond rfl (fun ht => ?_) (fun ht => ?_)
  · have h := of_decide_eq_true ((by simp only [or_pick] at ht; exact ht) : decide _ = true)
    refine k2 ?_
    refine c_region ?_; refine l_neu (n_assign rfl rfl) rfl ?_; refine l_nil ?_
    refine k1 ?_; refine k10 ?_; refine k11 ?_
    exact ret_ret (ret1 rfl rfl rfl) (by rw [rangeOf, if_pos (by omega)])
  · have h := of_decide_eq_false ((by simp only [or_pick] at ht; exact ht) : decide _ = false)
    refine k5 ?_; refine k1 ?_; refine k2 ?_; refine k2 ?_
    refine c_region ?_; refine l_neu (n_move rfl rfl) rfl ?_; refine l_nil ?_
    refine k1 ?_; refine k3 ?_; refine k2 ?_
    refine c_region ?_; refine l_neu (n_eql rfl rfl) rfl ?_; refine l_neu (n_assign rfl rfl) rfl ?_; refine l_nil ?_
    refine k1 ?_
    refine c_cond rfl (fun ht => ?_) (fun ht => ?_)
    · have h0 := of_decide_eq_true ht
      refine k2 ?_
      refine c_region ?_; refine l_neu (n_move rfl rfl) rfl ?_; refine l_call (sformat_ok a) rfl rfl rfl ?_; rintro _ rfl; refine l_neu (n_add_s rfl rfl (by simp; omega)) rfl ?_; refine l_neu (n_assign rfl rfl) rfl ?_; refine l_nil ?_
      refine k1 ?_; refine k10 ?_; refine k12 ?_; refine k11 ?_
      exact ret_ret (ret1 rfl rfl rfl) (by rw [rangeOf, if_neg (by omega), if_pos h0])
    · have h0 := of_decide_eq_false ht
      refine k2 ?_
      refine c_region ?_; refine l_neu (n_eql rfl rfl) rfl ?_; refine l_neu (n_assign rfl rfl) rfl ?_; refine l_nil ?_
      refine k1 ?_
      refine c_cond rfl (fun ht => ?_) (fun ht => ?_)
      · have h1 := of_decide_eq_true ht
        refine k2 ?_
        refine c_region ?_; refine l_neu (n_move rfl rfl) rfl ?_; refine l_neu (n_add rfl rfl (by omega)) rfl ?_; refine l_call (sformat_ok (a + 1)) rfl rfl rfl ?_; rintro _ rfl; refine l_neu (n_assign rfl rfl) rfl ?_; refine l_nil ?_
        refine k1 ?_; refine k10 ?_; refine k12 ?_; refine k11 ?_
        exact ret_ret (ret1 rfl rfl rfl) (by rw [rangeOf, if_neg (by omega), if_neg h0, if_pos h1])
      · have h1 := of_decide_eq_false ht
        refine k5 ?_; refine k2 ?_
        refine c_region ?_; refine l_neu (n_move rfl rfl) rfl ?_; refine l_neu (n_add rfl rfl (by omega)) rfl ?_; refine l_call (sformat_ok (a + 1)) rfl rfl rfl ?_; rintro _ rfl; refine l_neu (n_add_s rfl rfl (by simp; omega)) rfl ?_; refine l_neu (n_move rfl rfl) rfl ?_; refine l_call (sformat_ok n) rfl rfl rfl ?_; rintro _ rfl; refine l_neu (n_add_s rfl rfl (by simp; omega)) rfl ?_; refine l_neu (n_assign rfl rfl) rfl ?_; refine l_nil ?_
        refine k1 ?_; refine k10 ?_
        exact ret_ret (ret1 rfl rfl rfl) (by rw [rangeOf, if_neg (by omega), if_neg h0, if_neg h1])
theorem bstring_calls (B b : Nat) (l : List UInt8) (w : World) (h : Lib.IsBuilder 124 5 B b (Lib.byteCells l) w) (hBw : B ≤ w.heap.size) :
    Calls Tryz.prog 89 #[.pointer (some ⟨b, 0, none⟩)] w fun e w' => e = .returned (.string ⟨l.toArray⟩) ∧ Below B w w' := Tryz.Builder_String_any B b l w h hBw
theorem squote_ok (s : Str) (hs : s.length ≤ 16777216) : FnOk Tryz.prog 134 [pStr s] (fun rs => rs = [pStr (quoteOf s)]) := by
  refine FnOk.intro Tryz.func134 (by decide) rfl rfl rfl rfl ?_
  refine k2 ?_
  refine c_region ?_; refine l_neu (n_assign rfl rfl) rfl ?_; refine l_nil ?_
  refine k1 ?_; refine k2 ?_
  refine c_region ?_; refine l_neu (n_move rfl rfl) rfl ?_; refine l_neu (n_neq_s rfl rfl) rfl ?_; refine l_neu (n_assign rfl rfl) rfl ?_; refine l_nil ?_
  refine k1 ?_; refine k2 ?_; refine k2 ?_
  refine c_region ?_; refine l_neu (n_move rfl rfl) rfl ?_; refine l_neu (n_len_s rfl) rfl ?_; refine l_neu (n_move rfl rfl) rfl ?_; refine l_nil ?_
  refine k1 ?_; refine k3 ?_
  refine c_while (X := Nat) (fun i => ([(0, sStr s), (3, sVal (.bool (plains s i))), (10, sInt s.length), (11, sInt i)], [])) (fun i => i ≤ s.length) (fun i => s.length - i) 0 (Nat.zero_le _) ?_ ?_
  · rw [plains_zero]
    exact Sees.of ⟨le1 rfl, le1 rfl, le1 rfl, le1 rfl, trivial⟩ trivial
  intro i hi
  dsimp only at hi ⊢
  refine k2 ?_
  refine c_region ?_; refine l_neu (n_lss rfl rfl) rfl ?_; refine l_nil ?_
  refine k1 ?_; refine k2 ?_
  refine c_cond rfl (fun ht => ?_) (fun ht => ?_)
  · have hlt : i < s.length := by have := of_decide_eq_true ht; omega
    have hv : s[i]? = some s[i] := by simp [hlt]
    obtain ⟨c, hc⟩ : ∃ c, c = s[i] := ⟨_, rfl⟩
    have h2 := plains_succ s i hlt
    rw [← hc] at hv h2
    refine k5 ?_; refine k1 ?_; refine k2 ?_; refine k3 ?_; refine k2 ?_
    refine c_region ?_; refine l_neu (n_move rfl rfl) rfl ?_; refine l_neu (n_assign rfl rfl) rfl ?_; refine l_nil ?_
    refine k1 ?_
    refine c_region ?_; refine l_neu (n_move rfl rfl) rfl ?_; refine l_neu (n_move rfl rfl) rfl ?_; refine l_guard rfl rfl rfl rfl (fun hg => by rw [hg]; exact n_move rfl rfl) ?_; refine l_guard rfl rfl rfl rfl (fun hg => by rw [hg]; exact n_move rfl rfl) ?_; refine l_guard rfl rfl rfl rfl (fun hg => by have hq := hg; (try simp at hq); rw [hg]; exact n_index_s rfl rfl (by omega) hv) ?_; refine l_guard rfl rfl rfl rfl (fun hg => by have hq := hg; (try simp at hq); rw [hg]; exact n_call1 (splain_ok c) rfl rfl) ?_; refine l_neu (n_pick_bool rfl (fun h => by first | rfl | (rw [h]; rfl)) (fun h => by first | rfl | (rw [h]; rfl))) rfl ?_; refine l_neu (n_assign rfl rfl) rfl ?_; refine l_nil ?_
    refine k4 ?_; refine k1 ?_
    refine c_region ?_; refine l_neu (n_add rfl rfl (by omega)) rfl ?_; refine l_neu (n_move rfl rfl) rfl ?_; refine l_nil ?_
    refine k1 ?_
    refine ⟨i + 1, hlt, by omega, ?_⟩
    rw [show (if plains s i = true then plainB c else false) = plains s (i + 1) from by rw [h2]; cases plains s i <;> rfl]
    exact Sees.of ⟨le1 rfl, le1 rfl, le1 rfl, le1 rfl, trivial⟩ trivial
  have hi' : i = s.length := by have := of_decide_eq_false ht; omega
  subst hi'
  refine k6 ?_; refine k2 ?_; refine k2 ?_
  refine c_region ?_; refine l_neu (n_move rfl rfl) rfl ?_; refine l_nil ?_
  refine k1 ?_
  refine c_cond rfl (fun ht => ?_) (fun ht => ?_)
  · have h : plains s s.length = true := ht
    refine k2 ?_
    refine c_region ?_; refine l_neu (n_move rfl rfl) rfl ?_; refine l_neu (n_assign rfl rfl) rfl ?_; refine l_nil ?_
    refine k1 ?_; refine k10 ?_; refine k11 ?_
    exact ret_ret (ret1 rfl rfl rfl) (by rw [quoteOf_eq, if_pos h])
  have h : plains s s.length = false := ht
  have hq : quoteOf s = (34 :: escs s s.length) ++ [34] := by rw [quoteOf_eq, h]; rfl
  refine k5 ?_; refine k1 ?_; refine k2 ?_
  refine c_region ?_; refine l_effv (f_allocT 700 rfl) rfl ?_; refine l_nil ?_
  refine k1 ?_; refine k2 ?_
  refine c_sees (Sees.adoptT 701 UInt8 1 u8C 5 (kb := 700) (o := 1) rfl rfl rfl) ?_
  refine c_region ?_; refine l_met (writeByte_met (xs := []) (c := 34) ⟨⟨_, .inl rfl, rfl⟩, rfl⟩ (by simp)) rfl rfl rfl ?_; rintro _ _ ⟨rfl, rfl⟩; refine l_nil ?_
  refine k1 ?_; refine k2 ?_; refine k2 ?_
  refine c_region ?_; refine l_neu (n_move rfl rfl) rfl ?_; refine l_neu (n_len_s rfl) rfl ?_; refine l_neu (n_move rfl rfl) rfl ?_; refine l_nil ?_
  refine k1 ?_; refine k3 ?_
  refine c_while (X := Nat) (fun i => ([(0, sStr s), (5, .s (.one (.ref 700 0))), (26, sInt s.length), (27, sInt i)], [(700, .tbx 124 [.ref 700 0, .buf 701 UInt8 1 u8C (34 :: escs s i)]), (701, .spare (34 :: escs s i).length 1 5)])) (fun i => i ≤ s.length) (fun i => s.length - i) 0 (Nat.zero_le _) (Sees.of ⟨le1 rfl, le1 rfl, le1 rfl, le1 rfl, trivial⟩ ⟨rfl, rfl, trivial⟩) ?_
  intro i hi
  dsimp only at hi ⊢
  have hel := escs_len s i hi
  refine k2 ?_
  refine c_region ?_; refine l_neu (n_lss rfl rfl) rfl ?_; refine l_nil ?_
  refine k1 ?_; refine k2 ?_
  refine c_cond rfl (fun ht => ?_) (fun ht => ?_)
  · have hlt : i < s.length := by have := of_decide_eq_true ht; omega
    have hv : s[i]? = some s[i] := by simp [hlt]
    obtain ⟨c, hc⟩ : ∃ c, c = s[i] := ⟨_, rfl⟩
    have h1 := escs_succ s i hlt
    have h2 := escOf_len c
    rw [← hc] at hv h1
    refine k5 ?_; refine k1 ?_; refine k2 ?_; refine k3 ?_; refine k2 ?_
    refine c_region ?_; refine l_neu (n_move rfl rfl) rfl ?_; refine l_neu (n_assign rfl rfl) rfl ?_; refine l_nil ?_
    refine k1 ?_
    refine c_region ?_; refine l_neu (n_move rfl rfl) rfl ?_; refine l_neu (n_move rfl rfl) rfl ?_; refine l_neu (n_index_s rfl rfl (by omega) hv) rfl ?_; refine l_call (escaped_ok c) rfl rfl rfl ?_; rintro _ rfl; refine l_met (writeString_met (xs := 34 :: escs s i) (s := escOf c) ⟨⟨_, .inr rfl, rfl⟩, rfl⟩ (by simp only [List.length_cons]; omega)) rfl rfl rfl ?_; rintro _ _ ⟨rfl, rfl⟩; refine l_nil ?_
    refine k4 ?_; refine k1 ?_
    refine c_region ?_; refine l_neu (n_add rfl rfl (by omega)) rfl ?_; refine l_neu (n_move rfl rfl) rfl ?_; refine l_nil ?_
    refine k1 ?_
    refine ⟨i + 1, hlt, by omega, ?_⟩
    rw [h1]
    exact Sees.of ⟨le1 rfl, le1 rfl, le1 rfl, le1 rfl, trivial⟩ ⟨rfl, rfl, trivial⟩
  have hi' : i = s.length := by have := of_decide_eq_false ht; omega
  subst hi'
  refine k6 ?_; refine k2 ?_
  refine c_region ?_; refine l_met (writeByte_met (xs := 34 :: escs s s.length) (c := 34) ⟨⟨_, .inr rfl, rfl⟩, rfl⟩ (by simp only [List.length_cons]; omega)) rfl rfl rfl ?_; rintro _ _ ⟨rfl, rfl⟩; refine l_nil ?_
  refine k1 ?_; refine k2 ?_
  refine c_region ?_; refine l_bstring (k := 700) (k' := 701) ⟨_, rfl, rfl, rfl⟩ bstring_calls rfl rfl rfl rfl rfl (.inr rfl) rfl ?_; refine l_neu (n_assign rfl rfl) rfl ?_; refine l_nil ?_
  refine k1 ?_; refine k10 ?_
  exact ret_ret (ret1 rfl rfl rfl) (by rw [hq])
end Go.Proofs.YtbiadkkamhpdnaaGreatDoor
namespace Go.Proofs.YtbiadkkamhpdnaaGreatDoor
open Go Go.AL
set_option maxRecDepth 100000
theorem count1_ok (s : Str) (c : UInt8) : FnOk Tryz.prog 216 [pStr s, pStr [c]] (fun rs => rs = [pInt (s.count c)]) :=
  FnOk.ofPlain (xs := [.string ⟨s.toArray⟩, .string ⟨#[c]⟩]) ⟨_, rfl, rfl, rfl⟩ rfl fun w => by simpa [Lib.countByte] using Tryz.strings_Count_one ⟨s.toArray⟩ c w
theorem index1_ok (s : Str) (c : UInt8) : FnOk Tryz.prog 246 [pStr s, pStr [c]] (fun rs => rs = [pInt (Lib.indexByte s c)]) :=
  FnOk.ofPlain (xs := [.string ⟨s.toArray⟩, .string ⟨#[c]⟩]) ⟨_, rfl, rfl, rfl⟩ rfl fun w => by simpa using Tryz.strings_Index_one ⟨s.toArray⟩ c w
theorem genSplit_ok (s : Str) (hs : s.length ≤ 536870912) : FnOk Tryz.prog 217 [pStr s, pStr [10], pInt 1, pInt (-1)] (fun rs => rs = [pStrs (partsOf s)]) := by
  have hP := partsAux_count s []
  have hc : s.count 10 ≤ s.length := List.count_le_length
  have h10 : ([10] : Str).length = 1 := rfl
  obtain ⟨P, hPe⟩ : ∃ P, P = partsOf s := ⟨_, rfl⟩
  have hPl : P.length = s.count 10 + 1 := by rw [hPe]; exact hP
  refine FnOk.intro Tryz.func217 (by decide) rfl rfl rfl rfl ?_
  refine k2 ?_
  refine c_region ?_; refine l_neu (n_assign rfl rfl) rfl ?_; refine l_nil ?_
  refine k1 ?_; refine k2 ?_; refine k2 ?_
  refine c_region ?_; refine l_neu (n_move rfl rfl) rfl ?_; refine l_neu (n_eql rfl rfl) rfl ?_; refine l_nil ?_
  refine k1 ?_
  refine c_cond rfl (fun ht => ?_) (fun ht => ?_)
  · exact absurd (of_decide_eq_true ht) (by omega)
  refine k5 ?_; refine k1 ?_; refine k2 ?_; refine k2 ?_
  refine c_region ?_; refine l_neu (n_move rfl rfl) rfl ?_; refine l_neu (n_eql_s rfl rfl) rfl ?_; refine l_nil ?_
  refine k1 ?_
  refine c_cond rfl (fun ht => ?_) (fun ht => ?_)
  · exact absurd (of_decide_eq_true ht) (by simp)
  refine k5 ?_; refine k1 ?_; refine k2 ?_; refine k2 ?_
  refine c_region ?_; refine l_neu (n_move rfl rfl) rfl ?_; refine l_neu (n_lss rfl rfl) rfl ?_; refine l_nil ?_
  refine k1 ?_
  refine c_cond rfl (fun ht => ?_) (fun ht => ?_)
  rotate_left
  · exact absurd (of_decide_eq_false ht) (by omega)
  skip
  refine c_region ?_; refine l_neu (n_move rfl rfl) rfl ?_; refine l_neu (n_move rfl rfl) rfl ?_; refine l_call (count1_ok s 10) rfl rfl rfl ?_; rintro _ rfl; refine l_neu (n_add rfl rfl (by omega)) rfl ?_; refine l_neu (n_assign rfl rfl) rfl ?_; refine l_nil ?_
  refine k1 ?_; refine k2 ?_
  refine c_region ?_; refine l_neu (n_move rfl rfl) rfl ?_; refine l_neu (n_move rfl rfl) rfl ?_; refine l_neu (n_len_s rfl) rfl ?_; refine l_neu (n_add rfl rfl (by omega)) rfl ?_; refine l_neu (n_min rfl rfl) rfl ?_; refine l_neu (n_assign rfl rfl) rfl ?_; refine l_nil ?_
  refine k1 ?_; refine k2 ?_
  rw [show (if (s.length : Int) + 1 < (s.count 10 : Int) + 1 then (s.length : Int) + 1 else (s.count 10 : Int) + 1) = (P.length : Int) from by split <;> omega]
  refine c_region ?_; refine l_neu (n_move rfl rfl) rfl ?_; refine l_effv (f_makeZ 9 Str strC [] rfl rfl (by omega) (by omega) (fun _ => by first | exact ⟨⟨rfl, rfl⟩, trivial⟩ | exact ⟨rep_nil _ _ _, trivial⟩) (by first | rfl | (simp [frFree, obFree, Ob.free, SV.free, S1.free, TC.free] <;> rfl))) rfl ?_; refine l_neu (n_assign rfl rfl) rfl ?_; refine l_nil ?_
  refine k1 ?_; refine k2 ?_
  refine c_region ?_; refine l_neu (n_move rfl rfl) rfl ?_; refine l_neu (n_sub rfl rfl (by omega)) rfl ?_; refine l_neu (n_assign rfl rfl) rfl ?_; refine l_nil ?_
  refine k1 ?_; refine k2 ?_
  refine c_region ?_; refine l_neu (n_assign rfl rfl) rfl ?_; refine l_nil ?_
  refine k1 ?_; refine k2 ?_; refine k3 ?_
  refine c_while (X := Nat × Str) (fun x => ([(0, sStr x.2), (1, sStr [10]), (2, sInt 1), (3, sInt ((P.length : Int) - 1)), (9, .s (.one (.mut 9))), (10, sInt x.1)], [(9, .arr Str 1 strC (P.take x.1 ++ List.replicate (P.length - x.1) []))])) (fun x => x.1 + 1 ≤ P.length ∧ P.drop x.1 = partsOf x.2 ∧ x.2.length ≤ s.length) (fun x => P.length - x.1) (0, s) ⟨by dsimp only; omega, hPe, Nat.le_refl _⟩ (Sees.of ⟨le1 rfl, le1 rfl, le1 rfl, le1 rfl, le1 rfl, le1 rfl, trivial⟩ ⟨rfl, trivial⟩) ?_
  rintro ⟨i, r⟩ ⟨hi, hp, hr⟩
  dsimp only at hi hp hr ⊢
  refine k2 ?_; refine k2 ?_
  refine c_region ?_; refine l_neu (n_move rfl rfl) rfl ?_; refine l_neu (n_move rfl rfl) rfl ?_; refine l_neu (n_lss rfl rfl) rfl ?_; refine l_nil ?_
  refine k1 ?_
  refine c_cond rfl (fun ht => ?_) (fun ht => ?_)
  · have hlt : i + 1 < P.length := by have := of_decide_eq_true ht; omega
    have hin : (10 : UInt8) ∈ r := by
      have h1 := partsAux_count r []
      have h2 : (P.drop i).length = r.count 10 + 1 := by rw [hp]; exact h1
      rw [List.length_drop] at h2
      exact List.count_pos_iff.1 (by omega)
    rcases indexByte_first 10 r with ⟨h1, _⟩ | ⟨a, b, h1, h2, h3⟩
    · exact absurd hin h1
    obtain ⟨h4, h5⟩ := parts_step hp h1 h2
    have hl : r.length = a.length + 1 + b.length := by rw [h1]; simp; omega
    refine k5 ?_; refine k1 ?_; refine k3 ?_; refine k2 ?_
    refine c_region ?_; refine l_neu (n_move rfl rfl) rfl ?_; refine l_neu (n_move rfl rfl) rfl ?_; refine l_call (index1_ok r 10) rfl rfl rfl ?_; rintro _ rfl; refine l_neu (n_assign rfl rfl) rfl ?_; refine l_nil ?_
    refine k1 ?_; refine k2 ?_; refine k2 ?_
    refine c_region ?_; refine l_neu (n_move rfl rfl) rfl ?_; refine l_neu (n_lss rfl rfl) rfl ?_; refine l_nil ?_
    refine k1 ?_
    rw [h3]
    refine c_cond rfl (fun ht => ?_) (fun ht => ?_)
    · exact absurd (of_decide_eq_true ht) (by omega)
    refine k5 ?_; refine k1 ?_; refine k2 ?_
    refine c_region ?_; refine l_neu (n_move rfl rfl) rfl ?_; refine l_neu (n_move rfl rfl) rfl ?_; refine l_neu (n_move rfl rfl) rfl ?_; refine l_neu (n_move rfl rfl) rfl ?_; refine l_neu (n_move rfl rfl) rfl ?_; refine l_neu (n_add rfl rfl (by omega)) rfl ?_; refine l_neu (n_sub_h rfl rfl (by omega) (by omega)) rfl ?_; refine l_neu (n_indexAddr_mut rfl rfl rfl (by omega) (by (simp; omega))) rfl ?_; refine l_eff (e_store_mref1 TySz.out rfl rfl (by simp; omega) rfl rfl) ?_; refine l_nil ?_
    refine k1 ?_; refine k2 ?_
    refine c_region ?_; refine l_neu (n_move rfl rfl) rfl ?_; refine l_neu (n_move rfl rfl) rfl ?_; refine l_neu (n_move rfl rfl) rfl ?_; refine l_neu (n_len_s rfl) rfl ?_; refine l_neu (n_add rfl rfl (by omega)) rfl ?_; refine l_neu (n_sub_l rfl rfl (by omega) (by omega)) rfl ?_; refine l_neu (n_assign rfl rfl) rfl ?_; refine l_nil ?_
    refine k1 ?_
    refine c_region ?_; refine l_neu (n_move rfl rfl) rfl ?_; refine l_neu (n_add rfl rfl (by omega)) rfl ?_; refine l_neu (n_assign rfl rfl) rfl ?_; refine l_nil ?_
    refine k4 ?_; refine k1 ?_
    have e1 : r.take (((a.length : Int) + 1).toNat) = a ++ [10] := by rw [h1, show ((a.length : Int) + 1).toNat = a.length + 1 by omega, show a ++ 10 :: b = (a ++ [10]) ++ b by simp, List.take_left' (by simp)]
    have e2 : r.drop (((a.length : Int) + (([10] : Str).length : Int)).toNat) = b := by rw [h1, h10, show ((a.length : Int) + ((1 : Nat) : Int)).toNat = a.length + 1 by omega, show a ++ 10 :: b = (a ++ [10]) ++ b by simp, List.drop_left' (by simp)]
    refine ⟨(i + 1, b), ⟨by dsimp only; omega, h5, by dsimp only; omega⟩, by dsimp only; omega, ?_⟩
    rw [e1, e2]
    dsimp only
    rw [← fill_step P [] _ i h4]
    exact Sees.of ⟨le1 rfl, le1 rfl, le1 rfl, le1 rfl, le1 rfl, le1 rfl, trivial⟩ ⟨rfl, trivial⟩
  · have hge : i + 1 = P.length := by have := of_decide_eq_false ht; omega
    have h1 := partsAux_count r []
    have h2 : (P.drop i).length = r.count 10 + 1 := by rw [hp]; exact h1
    rw [List.length_drop] at h2
    have h3 : (10 : UInt8) ∉ r := List.count_eq_zero.1 (by omega)
    have h4 : P[i]? = some r := by rw [← List.head?_drop, hp]; unfold partsOf; rw [partsAux_none _ _ h3]; rfl
    refine k6 ?_; refine k2 ?_
    refine c_region ?_; refine l_neu (n_move rfl rfl) rfl ?_; refine l_neu (n_move rfl rfl) rfl ?_; refine l_neu (n_move rfl rfl) rfl ?_; refine l_neu (n_indexAddr_mut rfl rfl rfl (by omega) (by (simp; omega))) rfl ?_; refine l_eff (e_store_mref1 TySz.out rfl rfl (by simp; omega) rfl rfl) ?_; refine l_nil ?_
    refine k1 ?_; refine k2 ?_
    have e : (P.take i ++ List.replicate (P.length - i) ([] : Str)).set (i : Int).toNat r = P := by rw [Int.toNat_natCast, fill_step P [] r i h4, hge]; simp
    rw [e]
    refine c_sees (Sees.freeze (k := 9) rfl) ?_
    refine c_region ?_; refine l_neu (n_move rfl rfl) rfl ?_; refine l_neu (n_move rfl rfl) rfl ?_; refine l_neu (n_add rfl rfl (by omega)) rfl ?_; refine l_neu (n_slice_h rfl (.pure _ _ _ _) rfl (by omega) (by omega)) rfl ?_; refine l_neu (n_assign rfl rfl) rfl ?_; refine l_nil ?_
    refine k1 ?_; refine k10 ?_
    exact ret_ret (ret1 rfl rfl rfl) (by rw [show ((i : Int) + 1).toNat = P.length by omega, List.take_length, hPe])
theorem splitAfter_ok (s : Str) (hs : s.length ≤ 536870912) : FnOk Tryz.prog 174 [pStr s, pStr [10]] (fun rs => rs = [pStrs (partsOf s)]) := by
  refine FnOk.intro Tryz.func174 (by decide) rfl rfl rfl rfl ?_
  refine k2 ?_
  refine c_region ?_; refine l_neu (n_assign rfl rfl) rfl ?_; refine l_nil ?_
  refine k1 ?_; refine k2 ?_
  refine c_region ?_; refine l_neu (n_move rfl rfl) rfl ?_; refine l_neu (n_move rfl rfl) rfl ?_; refine l_neu (n_move rfl rfl) rfl ?_; refine l_neu (n_len_s rfl) rfl ?_; refine l_call (genSplit_ok s hs) rfl rfl rfl ?_; rintro _ rfl; refine l_neu (n_assign rfl rfl) rfl ?_; refine l_nil ?_
  refine k1 ?_; refine k10 ?_
  exact ret_ret (ret1 rfl rfl rfl) rfl
theorem tcheck_ok (s : Str) (hs : s.length ≤ 536870912) : FnOk Tryz.prog 173 [pStr s] (fun rs => rs = [pInt (checkOf s)]) := by
  have hl := linesOf_count s
  have hc : s.count 10 ≤ s.length := List.count_le_length
  refine FnOk.intro Tryz.func173 (by decide) rfl rfl rfl rfl ?_
  refine k2 ?_
  refine c_region ?_; refine l_neu (n_assign rfl rfl) rfl ?_; refine l_nil ?_
  refine k1 ?_; refine k2 ?_
  refine c_region ?_; refine l_neu (n_move rfl rfl) rfl ?_; refine l_call (count1_ok s 10) rfl rfl rfl ?_; rintro _ rfl; refine l_neu (n_assign rfl rfl) rfl ?_; refine l_nil ?_
  refine then_normal ?_
  refine c_join [(0, sStr s), (3, sInt (linesOf s).length)] [] ?_ ?_
  · refine k2 ?_
    refine c_region ?_; refine l_neu (n_move rfl rfl) rfl ?_; refine l_neu (n_neq_s rfl rfl) rfl ?_; refine l_neu (n_move rfl rfl) rfl ?_; refine l_guard rfl rfl rfl rfl (fun hg => by rw [hg]; exact n_move rfl rfl) ?_; refine l_guard rfl rfl rfl rfl (fun hg => by have hq := hg; (try simp at hq); rw [hg]; exact n_call1 (tended_ok s (by omega)) rfl rfl) ?_; refine l_guard rfl rfl rfl rfl (fun hg => by rw [hg]; exact n_not rfl) ?_; refine l_neu (n_pick_bool rfl (fun h => by first | rfl | (rw [h]; rfl)) (fun h => by first | rfl | (rw [h]; rfl))) rfl ?_; refine l_nil ?_
    refine k1 ?_
    refine c_cond rfl (fun ht => ?_) (fun ht => ?_)
    · have h : s ≠ [] ∧ ended s = false := by
        by_cases h1 : s = []
        · simp [h1] at ht
        · refine ⟨h1, ?_⟩; simpa [h1] using ht
      rw [if_pos h] at hl
      skip
      refine c_region ?_; refine l_neu (n_move rfl rfl) rfl ?_; refine l_neu (n_add rfl rfl (by omega)) rfl ?_; refine l_neu (n_assign rfl rfl) rfl ?_; refine l_nil ?_
      refine k1 ?_
      rw [hl, Int.natCast_add]
      exact Sees.of ⟨le1 rfl, le1 rfl, trivial⟩ trivial
    · have h : ¬ (s ≠ [] ∧ ended s = false) := by
        rintro ⟨h1, h2⟩
        simp [h1, h2] at ht
      rw [if_neg h] at hl
      refine k5 ?_; refine k1 ?_
      rw [hl]
      exact Sees.of ⟨le1 rfl, le1 rfl, trivial⟩ trivial
  · refine k2 ?_; refine k2 ?_
    refine c_region ?_; refine l_neu (n_move rfl rfl) rfl ?_; refine l_neu (n_len_s rfl) rfl ?_; refine l_neu (n_gtr rfl rfl) rfl ?_; refine l_neu (n_move rfl rfl) rfl ?_; refine l_guard rfl rfl rfl rfl (fun hg => by rw [hg]; exact n_move rfl rfl) ?_; refine l_guard rfl rfl rfl rfl (fun hg => by rw [hg]; exact n_gtr rfl rfl) ?_; refine l_neu (n_pick_bool rfl (fun h => by first | rfl | (rw [h]; rfl)) (fun h => by first | rfl | (rw [h]; rfl))) rfl ?_; refine l_nil ?_
    refine k1 ?_
    refine c_cond rfl (fun ht => ?_) (fun ht => ?_)
    · have h := of_decide_eq_true (or_pick.symm.trans ht)
      refine k2 ?_
      refine c_region ?_; refine l_neu (n_assign rfl rfl) rfl ?_; refine l_nil ?_
      refine k1 ?_; refine k10 ?_; refine k11 ?_
      exact ret_ret (ret1 rfl rfl rfl) (by rw [checkOf, if_pos (by omega)])
    · have h := of_decide_eq_false (or_pick.symm.trans ht)
      refine k5 ?_; refine k1 ?_; refine k2 ?_
      refine c_region ?_; refine l_neu (n_assign rfl rfl) rfl ?_; refine l_nil ?_
      refine k1 ?_; refine k10 ?_
      exact ret_ret (ret1 rfl rfl rfl) (by rw [checkOf, if_neg (by omega)])
theorem tsplit_ok (s : Str) (hs : s.length ≤ 536870912) : FnOk Tryz.prog 107 [pStr s] (fun rs => rs = [pStrs (splitOf s).1, pInt (splitOf s).2]) := by
  have hp : linesOf s = if (partsOf s).getLastD [] = [] then (partsOf s).dropLast else partsOf s := parts_lines s []
  have hc : (partsOf s).length = s.count 10 + 1 := partsAux_count s []
  have hcl : s.count 10 ≤ s.length := List.count_le_length
  refine FnOk.intro Tryz.func107 (by decide) rfl rfl rfl rfl ?_
  refine k2 ?_
  refine c_region ?_; refine l_neu (n_assign rfl rfl) rfl ?_; refine l_neu (n_assign rfl rfl) rfl ?_; refine l_nil ?_
  refine k1 ?_; refine k2 ?_; refine k2 ?_
  refine c_region ?_; refine l_neu (n_move rfl rfl) rfl ?_; refine l_call (tcheck_ok s hs) rfl rfl rfl ?_; rintro _ rfl; refine l_neu (n_assign rfl rfl) rfl ?_; refine l_nil ?_
  refine k1 ?_; refine k2 ?_
  refine c_region ?_; refine l_neu (n_move rfl rfl) rfl ?_; refine l_neu (n_neq rfl rfl) rfl ?_; refine l_nil ?_
  refine k1 ?_
  refine c_cond rfl (fun ht => ?_) (fun ht => ?_)
  · have h : checkOf s ≠ 0 := by simpa using ht
    have h1 : s.length > 1048576 ∨ (linesOf s).length > 4096 := by
      by_cases h1 : s.length > 1048576 ∨ (linesOf s).length > 4096
      · exact h1
      · exact absurd (by rw [checkOf, if_neg h1]) h
    refine k2 ?_
    refine c_region ?_; refine l_neu (n_move rfl rfl) rfl ?_; refine l_neu (n_assign_nil _ 1 strC) rfl ?_; refine l_neu (n_assign rfl rfl) rfl ?_; refine l_nil ?_
    refine k1 ?_; refine k10 ?_; refine k11 ?_
    exact ret_ret (ret2 rfl rfl rfl rfl rfl) (by rw [splitOf, if_pos h1, checkOf, if_pos h1])
  · have h : checkOf s = 0 := by simpa using ht
    have h1 : ¬ (s.length > 1048576 ∨ (linesOf s).length > 4096) := fun h1 => by rw [checkOf, if_pos h1] at h; omega
    have hv : (partsOf s)[(partsOf s).length - 1]? = some ((partsOf s).getLastD []) := by
      rw [← List.getLast?_eq_getElem?, List.getLast?_eq_some_getLast (fun e => by rw [e] at hc; simp at hc)]
      rw [List.getLastD_eq_getLast?, List.getLast?_eq_some_getLast (fun e => by rw [e] at hc; simp at hc)]; rfl
    have hi : (((partsOf s).length : Int) - 1).toNat = (partsOf s).length - 1 := by omega
    refine k5 ?_; refine k1 ?_; refine k2 ?_
    refine c_region ?_; refine l_neu (n_move rfl rfl) rfl ?_; refine l_call (splitAfter_ok s hs) rfl rfl rfl ?_; rintro _ rfl; refine l_neu (n_assign rfl rfl) rfl ?_; refine l_nil ?_
    refine then_normal ?_
    refine c_join [(5, sList Str 1 strC (linesOf s))] [] ?_ ?_
    · refine k2 ?_
      refine c_region ?_; refine l_neu (n_move rfl rfl) rfl ?_; refine l_neu (n_move rfl rfl) rfl ?_; refine l_neu (n_len rfl (.pure _ _ _ _)) rfl ?_; refine l_neu (n_sub rfl rfl (by omega)) rfl ?_; refine l_neu (n_indexAddr rfl (.pure _ _ _ _) rfl (by omega) (by rw [hi]; exact hv)) rfl ?_; refine l_neu (n_load_eref rfl rfl) rfl ?_; refine l_neu (n_eql_s rfl rfl) rfl ?_; refine l_nil ?_
      refine k1 ?_
      refine c_cond rfl (fun ht => ?_) (fun ht => ?_)
      · have h2 := of_decide_eq_true ht
        skip
        refine c_region ?_; refine l_neu (n_move rfl rfl) rfl ?_; refine l_neu (n_move rfl rfl) rfl ?_; refine l_neu (n_len rfl (.pure _ _ _ _)) rfl ?_; refine l_neu (n_sub rfl rfl (by omega)) rfl ?_; refine l_neu (n_slice_h rfl (.pure _ _ _ _) rfl (by omega) (by omega)) rfl ?_; refine l_neu (n_assign rfl rfl) rfl ?_; refine l_nil ?_
        refine k1 ?_
        rw [hp, if_pos h2, List.dropLast_eq_take, ← hi]
        exact Sees.of ⟨le1 rfl, trivial⟩ trivial
      · have h2 := of_decide_eq_false ht
        refine k5 ?_; refine k1 ?_
        rw [hp, if_neg h2]
        exact Sees.of ⟨le1 rfl, trivial⟩ trivial
    · refine k2 ?_
      refine c_region ?_; refine l_neu (n_move rfl rfl) rfl ?_; refine l_neu (n_assign rfl rfl) rfl ?_; refine l_neu (n_assign rfl rfl) rfl ?_; refine l_nil ?_
      refine k1 ?_; refine k10 ?_
      exact ret_ret (ret2 rfl rfl rfl rfl rfl) (by rw [splitOf, if_neg h1])
end Go.Proofs.YtbiadkkamhpdnaaGreatDoor
namespace Go.Proofs.YtbiadkkamhpdnaaGreatDoor
open Go Go.AL
set_option maxRecDepth 100000
end Go.Proofs.YtbiadkkamhpdnaaGreatDoor
namespace Go.Proofs.YtbiadkkamhpdnaaGreatDoor
open Go Go.AL
set_option maxRecDepth 100000
end Go.Proofs.YtbiadkkamhpdnaaGreatDoor
namespace Go.Proofs.YtbiadkkamhpdnaaGreatDoor
open Go Go.AL
set_option maxRecDepth 100000
end Go.Proofs.YtbiadkkamhpdnaaGreatDoor
namespace Go.Proofs.YtbiadkkamhpdnaaGreatDoor
open Go Go.AL
set_option maxRecDepth 100000
end Go.Proofs.YtbiadkkamhpdnaaGreatDoor
namespace Go.Proofs.YtbiadkkamhpdnaaGreatDoor
open Go Go.AL
set_option maxRecDepth 100000
set_option maxHeartbeats 1000000
end Go.Proofs.YtbiadkkamhpdnaaGreatDoor
namespace Go.Proofs.YtbiadkkamhpdnaaGreatDoor
open Go Go.AL
set_option maxRecDepth 100000
end Go.Proofs.YtbiadkkamhpdnaaGreatDoor
namespace Go.Proofs.YtbiadkkamhpdnaaGreatDoor
open Go Go.AL
set_option maxRecDepth 100000
end Go.Proofs.YtbiadkkamhpdnaaGreatDoor
namespace Go.Proofs.YtbiadkkamhpdnaaGreatDoor
open Go Go.AL
set_option maxRecDepth 100000
end Go.Proofs.YtbiadkkamhpdnaaGreatDoor
namespace Go.Proofs.YtbiadkkamhpdnaaGreatDoor
open Go Go.AL
set_option maxRecDepth 100000
end Go.Proofs.YtbiadkkamhpdnaaGreatDoor
namespace Go.Proofs.YtbiadkkamhpdnaaGreatDoor
open Go Go.AL
set_option maxRecDepth 100000
end Go.Proofs.YtbiadkkamhpdnaaGreatDoor
