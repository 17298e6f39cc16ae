/- Walks of the program's functions. -/
import Derived.Test.YtbiadkkamhpdnaaGreatDoorFa
import Derived.Test.YtbiadkkamhpdnaaGreatDoorFs
import Derived.Lib.AppendIntMem
set_option linter.unusedSimpArgs false
namespace Go.Proofs.YtbiadkkamhpdnaaGreatDoor
open Go Go.AL
set_option maxRecDepth 100000
theorem rplain_ok (c : UInt8) : FnOk Tryz.prog 201 [pByte c] (fun rs => rs = [pBool (plainB c)]) := by
  refine FnOk.intro Tryz.func201 (by decide) rfl rfl rfl rfl ?_
  refine k2 ?_
  refine c_region ?_; refine l_neu (n_assign rfl rfl) rfl ?_; refine l_nil ?_
  refine k1 ?_; refine k2 ?_
  refine c_region ?_; refine l_neu (n_move rfl rfl) rfl ?_; refine l_neu (n_geq rfl rfl) rfl ?_; refine l_neu (n_move rfl rfl) rfl ?_; refine l_guard rfl rfl rfl rfl (fun hg => by rw [hg]; exact n_move rfl rfl) ?_; refine l_guard rfl rfl rfl rfl (fun hg => by rw [hg]; exact n_leq rfl rfl) ?_; refine l_neu (n_pick_bool rfl (fun h => by first | rfl | (rw [h]; rfl)) (fun h => by first | rfl | (rw [h]; rfl))) rfl ?_; refine l_neu (n_move rfl rfl) rfl ?_; refine l_guard rfl rfl rfl rfl (fun hg => by rw [hg]; exact n_move rfl rfl) ?_; refine l_guard rfl rfl rfl rfl (fun hg => by rw [hg]; exact n_neq rfl rfl) ?_; refine l_neu (n_pick_bool rfl (fun h => by first | rfl | (rw [h]; rfl)) (fun h => by first | rfl | (rw [h]; rfl))) rfl ?_; refine l_neu (n_move rfl rfl) rfl ?_; refine l_guard rfl rfl rfl rfl (fun hg => by rw [hg]; exact n_move rfl rfl) ?_; refine l_guard rfl rfl rfl rfl (fun hg => by rw [hg]; exact n_neq rfl rfl) ?_; refine l_neu (n_pick_bool rfl (fun h => by first | rfl | (rw [h]; rfl)) (fun h => by first | rfl | (rw [h]; rfl))) rfl ?_; refine l_neu (n_assign rfl rfl) rfl ?_; refine l_nil ?_
  refine k1 ?_; refine k10 ?_
  refine ret_ret (ret1 rfl rfl rfl) ?_
  simp only [and_pick]
  congr 4
  unfold plainB
  congr 1
  simp; omega
theorem splain_ok (c : UInt8) : FnOk Tryz.prog 197 [pByte c] (fun rs => rs = [pBool (plainB c)]) := by
  refine FnOk.intro Tryz.func197 (by decide) rfl rfl rfl rfl ?_
  refine k2 ?_
  refine c_region ?_; refine l_neu (n_assign rfl rfl) rfl ?_; refine l_nil ?_
  refine k1 ?_; refine k2 ?_
  refine c_region ?_; refine l_neu (n_move rfl rfl) rfl ?_; refine l_neu (n_geq rfl rfl) rfl ?_; refine l_neu (n_move rfl rfl) rfl ?_; refine l_guard rfl rfl rfl rfl (fun hg => by rw [hg]; exact n_move rfl rfl) ?_; refine l_guard rfl rfl rfl rfl (fun hg => by rw [hg]; exact n_leq rfl rfl) ?_; refine l_neu (n_pick_bool rfl (fun h => by first | rfl | (rw [h]; rfl)) (fun h => by first | rfl | (rw [h]; rfl))) rfl ?_; refine l_neu (n_move rfl rfl) rfl ?_; refine l_guard rfl rfl rfl rfl (fun hg => by rw [hg]; exact n_move rfl rfl) ?_; refine l_guard rfl rfl rfl rfl (fun hg => by rw [hg]; exact n_neq rfl rfl) ?_; refine l_neu (n_pick_bool rfl (fun h => by first | rfl | (rw [h]; rfl)) (fun h => by first | rfl | (rw [h]; rfl))) rfl ?_; refine l_neu (n_move rfl rfl) rfl ?_; refine l_guard rfl rfl rfl rfl (fun hg => by rw [hg]; exact n_move rfl rfl) ?_; refine l_guard rfl rfl rfl rfl (fun hg => by rw [hg]; exact n_neq rfl rfl) ?_; refine l_neu (n_pick_bool rfl (fun h => by first | rfl | (rw [h]; rfl)) (fun h => by first | rfl | (rw [h]; rfl))) rfl ?_; refine l_neu (n_assign rfl rfl) rfl ?_; refine l_nil ?_
  refine k1 ?_; refine k10 ?_
  refine ret_ret (ret1 rfl rfl rfl) ?_
  simp only [and_pick]
  congr 4
  unfold plainB
  congr 1
  simp; omega
theorem rformat_ok (n : Int) : FnOk Tryz.prog 152 [pInt n] (fun rs => rs = [pStr (fmtOf n)]) := by
  obtain ⟨k, hk⟩ : ∃ k : Nat, n.toNat = k := ⟨_, rfl⟩
  induction k using Nat.strongRecOn generalizing n with
  | _ k ih =>
  refine FnOk.intro Tryz.func152 (by decide) rfl rfl rfl rfl ?_
  refine k2 ?_
  refine c_region ?_; refine l_neu (n_assign rfl rfl) rfl ?_; refine l_nil ?_
  refine k1 ?_; refine k2 ?_; refine k2 ?_
  refine c_region ?_; refine l_neu (n_move rfl rfl) rfl ?_; refine l_neu (n_lss rfl rfl) rfl ?_; refine l_neu (n_move rfl rfl) rfl ?_; refine l_guard rfl rfl rfl rfl (fun hg => by rw [hg]; exact n_move rfl rfl) ?_; refine l_guard rfl rfl rfl rfl (fun hg => by rw [hg]; exact n_gtr rfl rfl) ?_; refine l_neu (n_pick_bool rfl (fun h => by first | rfl | (rw [h]; rfl)) (fun h => by first | rfl | (rw [h]; rfl))) rfl ?_; refine l_nil ?_
  refine k1 ?_
  refine c_cond rfl (fun ht => ?_) (fun ht => ?_)
  · have h := of_decide_eq_true (or_pick.symm.trans ht)
    refine k2 ?_
    refine c_region ?_; refine l_neu (n_assign rfl rfl) rfl ?_; refine l_nil ?_
    refine k1 ?_; refine k10 ?_; refine k11 ?_
    exact ret_ret (ret1 rfl rfl rfl) (by rw [fmtOf, if_pos (by omega)])
  · have h := of_decide_eq_false (or_pick.symm.trans ht)
    refine k5 ?_; refine k1 ?_; refine k2 ?_; refine k2 ?_
    refine c_region ?_; refine l_neu (n_move rfl rfl) rfl ?_; refine l_neu (n_lss rfl rfl) rfl ?_; refine l_nil ?_
    refine k1 ?_
    refine c_cond rfl (fun ht => ?_) (fun ht => ?_)
    · have h2 := of_decide_eq_true ht
      refine k2 ?_
      refine c_region ?_; refine l_neu (n_move rfl rfl) rfl ?_; refine l_neu (n_move rfl rfl) rfl ?_; refine l_neu (n_add rfl rfl (by omega)) rfl ?_; refine l_neu (n_sub_lh rfl rfl rfl (by (first | omega | (simp; omega))) (by (first | omega | (simp; omega))) (by (first | omega | (simp; omega)))) rfl ?_; refine l_neu (n_assign rfl rfl) rfl ?_; refine l_nil ?_
      refine k1 ?_; refine k10 ?_; refine k11 ?_
      refine ret_ret (ret1 rfl rfl rfl) ?_
      rw [fmt_small n (by omega) h2]
      have e : (n + 1).toNat - n.toNat = 1 := by omega
      rw [e]; rfl
    · have h2 := of_decide_eq_false ht
      have hl := fmtOf_len (n / 10)
      have hq : IntKind.i64.wrap (n.tdiv 10) = n / 10 := by
        rw [i64_wrap_in] <;> rw [Int.tdiv_eq_ediv_of_nonneg (by omega)]; omega
      have hr : n.tmod 10 = n % 10 := Int.tmod_eq_emod_of_nonneg (by omega)
      have ihq : FnOk Tryz.prog 152 [pInt (IntKind.i64.wrap (n.tdiv 10))] (fun rs => rs = [pStr (fmtOf (n / 10))]) := by
        rw [hq]; exact ih (n / 10).toNat (by omega) (n / 10) rfl
      refine k5 ?_; refine k1 ?_; refine k2 ?_
      refine c_region_draw (by kernel_rfl) (by kernel_rfl) ?_; refine d_neu (n_move rfl rfl) rfl rfl ?_; refine d_neu (n_quo_w rfl rfl (by omega)) rfl rfl ?_; refine d_neu (n_call1 (ihq) rfl rfl) rfl rfl ?_; refine d_neu (n_move rfl rfl) rfl rfl ?_; refine d_neu (n_rem rfl rfl (by omega)) rfl rfl ?_; refine d_neu (n_move rfl rfl) rfl rfl ?_; refine d_neu (n_rem rfl rfl (by omega)) rfl rfl ?_; refine d_neu (n_add rfl rfl (by omega)) rfl rfl ?_; refine d_neu (n_sub_lh rfl rfl rfl (by (first | omega | (simp; omega))) (by (first | omega | (simp; omega))) (by (first | omega | (simp; omega)))) rfl rfl ?_; refine d_neu (n_add_s rfl rfl (by (simp; omega))) rfl rfl ?_; refine d_neu (n_assign rfl rfl) rfl rfl ?_; refine d_nil ?_
      refine k1 ?_; refine k10 ?_
      refine ret_ret (ret1 rfl rfl rfl) ?_
      rw [fmt_big n (by omega) (by omega)]
      rw [hr]
      have e : (n % 10 + 1).toNat - (n % 10).toNat = 1 := by omega
      rw [e]; rfl
theorem rrange_ok (a n : Int) (ha : -4611686018427387904 ≤ a ∧ a ≤ 4611686018427387904) (hn : -4611686018427387904 ≤ n ∧ n ≤ 4611686018427387904) : FnOk Tryz.prog 139 [pInt a, pInt n] (fun rs => rs = [pStr (rangeOf a n)]) := by
  refine FnOk.intro Tryz.func139 (by decide) rfl rfl rfl rfl ?_
  refine k2 ?_
  refine c_region ?_; refine l_neu (n_assign rfl rfl) rfl ?_; refine l_nil ?_
  refine k1 ?_; refine k2 ?_; refine k2 ?_
  refine c_region ?_; refine l_neu (n_move rfl rfl) rfl ?_; refine l_neu (n_lss rfl rfl) rfl ?_; refine l_neu (n_move rfl rfl) rfl ?_; refine l_guard rfl rfl rfl rfl (fun hg => by rw [hg]; exact n_move rfl rfl) ?_; refine l_guard rfl rfl rfl rfl (fun hg => by rw [hg]; exact n_lss rfl rfl) ?_; refine l_neu (n_pick_bool rfl (fun h => by first | rfl | (rw [h]; rfl)) (fun h => by first | rfl | (rw [h]; rfl))) rfl ?_; refine l_neu (n_move rfl rfl) rfl ?_; refine l_guard rfl rfl rfl rfl (fun hg => by rw [hg]; exact n_move rfl rfl) ?_; refine l_guard rfl rfl rfl rfl (fun hg => by rw [hg]; exact n_gtr rfl rfl) ?_; refine l_neu (n_pick_bool rfl (fun h => by first | rfl | (rw [h]; rfl)) (fun h => by first | rfl | (rw [h]; rfl))) rfl ?_; refine l_neu (n_move rfl rfl) rfl ?_; refine l_guard rfl rfl rfl rfl (fun hg => by rw [hg]; exact n_move rfl rfl) ?_; refine l_guard rfl rfl rfl rfl (fun hg => by rw [hg]; exact n_move rfl rfl) ?_; refine l_guard rfl rfl rfl rfl (fun hg => by rw [hg]; exact n_sub rfl rfl (by (first | omega | (simp at hq; omega)))) ?_; refine l_guard rfl rfl rfl rfl (fun hg => by rw [hg]; exact n_gtr rfl rfl) ?_; refine l_neu (n_pick_bool rfl (fun h => by first | rfl | (rw [h]; rfl)) (fun h => by first | rfl | (rw [h]; rfl))) rfl ?_; refine l_nil ?_
  refine k1 ?_
  have l1 := fmtOf_len a
  have l2 := fmtOf_len (a + 1)
  have l3 := fmtOf_len n
  refine c_cond rfl (fun ht => ?_) (fun ht => ?_)
  · have h := of_decide_eq_true ((by simp only [or_pick] at ht; exact ht) : decide _ = true)
    refine k2 ?_
    refine c_region ?_; refine l_neu (n_assign rfl rfl) rfl ?_; refine l_nil ?_
    refine k1 ?_; refine k10 ?_; refine k11 ?_
    exact ret_ret (ret1 rfl rfl rfl) (by rw [rangeOf, if_pos (by omega)])
  · have h := of_decide_eq_false ((by simp only [or_pick] at ht; exact ht) : decide _ = false)
    refine k5 ?_; refine k1 ?_; refine k2 ?_; refine k2 ?_
    refine c_region ?_; refine l_neu (n_move rfl rfl) rfl ?_; refine l_nil ?_
    refine k1 ?_; refine k3 ?_; refine k2 ?_
    refine c_region ?_; refine l_neu (n_eql rfl rfl) rfl ?_; refine l_neu (n_assign rfl rfl) rfl ?_; refine l_nil ?_
    refine k1 ?_
    refine c_cond rfl (fun ht => ?_) (fun ht => ?_)
    · have h0 := of_decide_eq_true ht
      refine k2 ?_
      refine c_region ?_; refine l_neu (n_move rfl rfl) rfl ?_; refine l_call (rformat_ok a) rfl rfl rfl ?_; rintro _ rfl; refine l_neu (n_add_s rfl rfl (by simp; omega)) rfl ?_; refine l_neu (n_assign rfl rfl) rfl ?_; refine l_nil ?_
      refine k1 ?_; refine k10 ?_; refine k12 ?_; refine k11 ?_
      exact ret_ret (ret1 rfl rfl rfl) (by rw [rangeOf, if_neg (by omega), if_pos h0])
    · have h0 := of_decide_eq_false ht
      refine k2 ?_
      refine c_region ?_; refine l_neu (n_eql rfl rfl) rfl ?_; refine l_neu (n_assign rfl rfl) rfl ?_; refine l_nil ?_
      refine k1 ?_
      refine c_cond rfl (fun ht => ?_) (fun ht => ?_)
      · have h1 := of_decide_eq_true ht
        refine k2 ?_
        refine c_region ?_; refine l_neu (n_move rfl rfl) rfl ?_; refine l_neu (n_add rfl rfl (by omega)) rfl ?_; refine l_call (rformat_ok (a + 1)) rfl rfl rfl ?_; rintro _ rfl; refine l_neu (n_assign rfl rfl) rfl ?_; refine l_nil ?_
        refine k1 ?_; refine k10 ?_; refine k12 ?_; refine k11 ?_
        exact ret_ret (ret1 rfl rfl rfl) (by rw [rangeOf, if_neg (by omega), if_neg h0, if_pos h1])
      · have h1 := of_decide_eq_false ht
        refine k5 ?_; refine k2 ?_
        refine c_region ?_; refine l_neu (n_move rfl rfl) rfl ?_; refine l_neu (n_add rfl rfl (by omega)) rfl ?_; refine l_call (rformat_ok (a + 1)) rfl rfl rfl ?_; rintro _ rfl; refine l_neu (n_add_s rfl rfl (by simp; omega)) rfl ?_; refine l_neu (n_move rfl rfl) rfl ?_; refine l_call (rformat_ok n) rfl rfl rfl ?_; rintro _ rfl; refine l_neu (n_add_s rfl rfl (by simp; omega)) rfl ?_; refine l_neu (n_assign rfl rfl) rfl ?_; refine l_nil ?_
        refine k1 ?_; refine k10 ?_
        exact ret_ret (ret1 rfl rfl rfl) (by rw [rangeOf, if_neg (by omega), if_neg h0, if_neg h1])
theorem digs8_len : ([48, 49, 50, 51, 52, 53, 54, 55] : Str).length = 8 := rfl
theorem u8q (c : UInt8) (k : Nat) : IntKind.u8.wrap ((c.toNat : Int).tdiv (k : Int)) = ((c.toNat / k : Nat) : Int) := by
  have hc := c.toNat_lt
  have h1 : (c.toNat : Int).tdiv (k : Int) = ((c.toNat / k : Nat) : Int) := by rw [Int.tdiv_eq_ediv_of_nonneg (by omega)]; simp
  have h2 : c.toNat / k ≤ c.toNat := Nat.div_le_self _ _
  rw [h1]
  generalize c.toNat / k = q at *
  rw [IntWalk.u8_in _ (by omega)]
theorem u8r (n k : Nat) : (n : Int).tmod (k : Int) = ((n % k : Nat) : Int) := by
  rw [Int.tmod_eq_emod_of_nonneg (by omega)]; simp
theorem u8s (n : Nat) (h : n < 255) : IntKind.u8.wrap ((n : Int) + 1) = ((n + 1 : Nat) : Int) := by
  rw [IntWalk.u8_in _ (by omega)]; simp
set_option maxHeartbeats 1000000 in
theorem rquote_ok (s : Str) (hs : s.length ≤ 16777216) : FnOk Tryz.prog 138 [pStr s] (fun rs => rs = [pStr (quoteOf s)]) := by
  refine FnOk.intro Tryz.func138 (by decide) rfl rfl rfl rfl ?_
  refine k2 ?_
  refine c_region ?_; refine l_neu (n_assign rfl rfl) rfl ?_; refine l_nil ?_
  refine k1 ?_; refine k2 ?_
  refine c_region ?_; refine l_neu (n_move rfl rfl) rfl ?_; refine l_neu (n_neq_s rfl rfl) rfl ?_; refine l_neu (n_assign rfl rfl) rfl ?_; refine l_nil ?_
  refine k1 ?_; refine k2 ?_
  refine c_region ?_; refine l_neu (n_assign rfl rfl) rfl ?_; refine l_nil ?_
  refine k1 ?_; refine k2 ?_; refine k2 ?_
  refine c_region ?_; refine l_neu (n_assign rfl rfl) rfl ?_; refine l_nil ?_
  refine k1 ?_; refine k3 ?_
  refine c_while (X := Nat) (fun i => ([(0, sStr s), (3, sVal (.bool (plains s i))), (4, sStr (34 :: escs s i)), (5, sInt i)], [])) (fun i => i ≤ s.length) (fun i => s.length - i) 0 (Nat.zero_le _) ?_ ?_
  · rw [plains_zero, escs_zero]
    first | exact Sees.of ⟨le1 rfl, le1 rfl, le1 rfl, le1 rfl, trivial⟩ trivial | trace_state
  intro i hi
  dsimp only at hi ⊢
  have hel := escs_len s i hi
  refine k2 ?_; refine k2 ?_
  refine c_region ?_; refine l_neu (n_move rfl rfl) rfl ?_; refine l_neu (n_move rfl rfl) rfl ?_; refine l_neu (n_len_s rfl) rfl ?_; refine l_neu (n_lss rfl rfl) rfl ?_; refine l_nil ?_
  refine k1 ?_
  refine c_cond rfl (fun ht => ?_) (fun ht => ?_)
  · have hlt : i < s.length := by have := of_decide_eq_true ht; omega
    have hv : s[i]? = some s[i] := by simp [hlt]
    obtain ⟨c, hc⟩ : ∃ c, c = s[i] := ⟨_, rfl⟩
    have h1 := escs_succ s i hlt
    have h2 := plains_succ s i hlt
    rw [← hc] at hv h1 h2
    have h3 := c.toNat_lt
    refine k5 ?_; refine k1 ?_; refine k2 ?_; refine k3 ?_; refine k2 ?_
    refine c_region ?_; refine l_neu (n_move rfl rfl) rfl ?_; refine l_neu (n_move rfl rfl) rfl ?_; refine l_neu (n_index_s rfl rfl (by omega) hv) rfl ?_; refine l_neu (n_assign rfl rfl) rfl ?_; refine l_nil ?_
    refine k1 ?_; refine k2 ?_
    refine c_region ?_; refine l_neu (n_move rfl rfl) rfl ?_; refine l_neu (n_move rfl rfl) rfl ?_; refine l_guard rfl rfl rfl rfl (fun hg => by rw [hg]; exact n_move rfl rfl) ?_; refine l_guard rfl rfl rfl rfl (fun hg => by have hq := hg; (try simp at hq); rw [hg]; exact n_call1 (rplain_ok c) rfl rfl) ?_; refine l_neu (n_pick_bool rfl (fun h => by first | rfl | (rw [h]; rfl)) (fun h => by first | rfl | (rw [h]; rfl))) rfl ?_; refine l_neu (n_assign rfl rfl) rfl ?_; refine l_nil ?_
    rw [show (if plains s i = true then plainB c else false) = plains s (i + 1) from by rw [h2]; cases plains s i <;> rfl]
    have hsub : (s.drop i).take 1 = [c] := by rw [List.drop_eq_getElem_cons hlt, ← hc]; rfl
    have hone : (i : Int).toNat = i ∧ ((i : Int) + 1).toNat - i = 1 := by omega
    refine k1 ?_; refine k3 ?_; refine k2 ?_
    refine c_region ?_; refine l_neu (n_move rfl rfl) rfl ?_; refine l_neu (n_eql rfl rfl) rfl ?_; refine l_neu (n_move rfl rfl) rfl ?_; refine l_guard rfl rfl rfl rfl (fun hg => by rw [hg]; exact n_move rfl rfl) ?_; refine l_guard rfl rfl rfl rfl (fun hg => by rw [hg]; exact n_eql rfl rfl) ?_; refine l_neu (n_pick_bool rfl (fun h => by first | rfl | (rw [h]; rfl)) (fun h => by first | rfl | (rw [h]; rfl))) rfl ?_; refine l_neu (n_assign rfl rfl) rfl ?_; refine l_nil ?_
    refine k1 ?_
    refine c_cond rfl (fun ht => ?_) (fun ht => ?_)
    · have h := of_decide_eq_true (or_pick.symm.trans ht)
      skip
      refine c_region ?_; refine l_neu (n_move rfl rfl) rfl ?_; refine l_neu (n_add_s rfl rfl (by (simp; omega))) rfl ?_; refine l_neu (n_move rfl rfl) rfl ?_; refine l_neu (n_move rfl rfl) rfl ?_; refine l_neu (n_move rfl rfl) rfl ?_; refine l_neu (n_add rfl rfl (by omega)) rfl ?_; refine l_neu (n_sub_lh rfl rfl rfl (by omega) (by omega) (by omega)) rfl ?_; refine l_neu (n_add_s rfl rfl (by (simp; omega))) rfl ?_; refine l_neu (n_assign rfl rfl) rfl ?_; refine l_nil ?_
      refine k4 ?_; refine k4 ?_; refine k1 ?_
      refine c_region ?_; refine l_neu (n_move rfl rfl) rfl ?_; refine l_neu (n_add rfl rfl (by omega)) rfl ?_; refine l_neu (n_assign rfl rfl) rfl ?_; refine l_nil ?_
      refine k1 ?_
      refine ⟨i + 1, hlt, by omega, ?_⟩
      rw [h1, show escOf c = _ from by rw [escOf, if_pos (by omega)]]
      rw [hone.1, hone.2, hsub, List.append_assoc]
      exact Sees.of ⟨le1 rfl, le1 rfl, le1 rfl, le1 rfl, trivial⟩ trivial
    · have h := of_decide_eq_false (or_pick.symm.trans ht)
      refine k2 ?_
      refine c_region ?_; refine l_neu (n_move rfl rfl) rfl ?_; refine l_neu (n_eql rfl rfl) rfl ?_; refine l_neu (n_assign rfl rfl) rfl ?_; refine l_nil ?_
      refine k1 ?_
      refine c_cond rfl (fun ht => ?_) (fun ht => ?_)
      · have h4 := of_decide_eq_true ht
        skip
        refine c_region ?_; refine l_neu (n_move rfl rfl) rfl ?_; refine l_neu (n_add_s rfl rfl (by simp; omega)) rfl ?_; refine l_neu (n_assign rfl rfl) rfl ?_; refine l_nil ?_
        refine k4 ?_; refine k4 ?_; refine k1 ?_
        refine c_region ?_; refine l_neu (n_move rfl rfl) rfl ?_; refine l_neu (n_add rfl rfl (by omega)) rfl ?_; refine l_neu (n_assign rfl rfl) rfl ?_; refine l_nil ?_
        refine k1 ?_
        refine ⟨i + 1, hlt, by omega, ?_⟩
        rw [h1, show escOf c = _ from by rw [escOf, if_neg (by omega), if_pos (by omega)]]
        exact Sees.of ⟨le1 rfl, le1 rfl, le1 rfl, le1 rfl, trivial⟩ trivial
      · have h4 := of_decide_eq_false ht
        refine k2 ?_
        refine c_region ?_; refine l_neu (n_move rfl rfl) rfl ?_; refine l_neu (n_eql rfl rfl) rfl ?_; refine l_neu (n_assign rfl rfl) rfl ?_; refine l_nil ?_
        refine k1 ?_
        refine c_cond rfl (fun ht => ?_) (fun ht => ?_)
        · have h5 := of_decide_eq_true ht
          skip
          refine c_region ?_; refine l_neu (n_move rfl rfl) rfl ?_; refine l_neu (n_add_s rfl rfl (by simp; omega)) rfl ?_; refine l_neu (n_assign rfl rfl) rfl ?_; refine l_nil ?_
          refine k4 ?_; refine k4 ?_; refine k1 ?_
          refine c_region ?_; refine l_neu (n_move rfl rfl) rfl ?_; refine l_neu (n_add rfl rfl (by omega)) rfl ?_; refine l_neu (n_assign rfl rfl) rfl ?_; refine l_nil ?_
          refine k1 ?_
          refine ⟨i + 1, hlt, by omega, ?_⟩
          rw [h1, show escOf c = _ from by rw [escOf, if_neg (by omega), if_neg (by omega), if_pos (by omega)]]
          exact Sees.of ⟨le1 rfl, le1 rfl, le1 rfl, le1 rfl, trivial⟩ trivial
        · have h5 := of_decide_eq_false ht
          refine k2 ?_
          refine c_region ?_; refine l_neu (n_move rfl rfl) rfl ?_; refine l_neu (n_lss rfl rfl) rfl ?_; refine l_neu (n_move rfl rfl) rfl ?_; refine l_guard rfl rfl rfl rfl (fun hg => by rw [hg]; exact n_move rfl rfl) ?_; refine l_guard rfl rfl rfl rfl (fun hg => by rw [hg]; exact n_gtr rfl rfl) ?_; refine l_neu (n_pick_bool rfl (fun h => by first | rfl | (rw [h]; rfl)) (fun h => by first | rfl | (rw [h]; rfl))) rfl ?_; refine l_neu (n_assign rfl rfl) rfl ?_; refine l_nil ?_
          refine k1 ?_
          refine c_cond rfl (fun ht => ?_) (fun ht => ?_)
          · have h6 := of_decide_eq_true (or_pick.symm.trans ht)
            have e1 : IntKind.u8.wrap ((c.toNat : Int).tdiv 64) = ((c.toNat / 64 : Nat) : Int) := u8q c 64
            have e2 : IntKind.u8.wrap ((c.toNat : Int).tdiv 8) = ((c.toNat / 8 : Nat) : Int) := u8q c 8
            have e3 : (IntKind.u8.wrap ((c.toNat : Int).tdiv 8)).tmod 8 = ((c.toNat / 8 % 8 : Nat) : Int) := by rw [e2]; exact u8r _ 8
            have e4 : (c.toNat : Int).tmod 8 = ((c.toNat % 8 : Nat) : Int) := u8r _ 8
            have e5 : IntKind.u8.wrap (IntKind.u8.wrap ((c.toNat : Int).tdiv 64) + 1) = ((c.toNat / 64 + 1 : Nat) : Int) := by rw [e1]; exact u8s _ (by omega)
            have e6 : IntKind.u8.wrap ((IntKind.u8.wrap ((c.toNat : Int).tdiv 8)).tmod 8 + 1) = ((c.toNat / 8 % 8 + 1 : Nat) : Int) := by rw [e3]; exact u8s _ (by omega)
            have e7 : IntKind.u8.wrap ((c.toNat : Int).tmod 8 + 1) = ((c.toNat % 8 + 1 : Nat) : Int) := by rw [e4]; exact u8s _ (by omega)
            have hol := octOf_len c
            have hob : escOf c = 92 :: octOf c := by rw [escOf, if_neg (by omega), if_neg (by omega), if_neg (by omega), if_pos (by omega)]
            have g1 : c.toNat / 64 < 8 := by omega
            skip
            refine c_region_draw (by kernel_rfl) (by kernel_rfl) ?_; refine d_neu (n_move rfl rfl) rfl rfl ?_; refine d_neu (n_add_s rfl rfl (by (simp; omega))) rfl rfl ?_; refine d_neu (n_move rfl rfl) rfl rfl ?_; refine d_neu (n_quo_w rfl rfl (by omega)) rfl rfl ?_; refine d_neu (n_move rfl rfl) rfl rfl ?_; refine d_neu (n_quo_w rfl rfl (by omega)) rfl rfl ?_; refine d_neu (n_add_w rfl rfl) rfl rfl ?_; refine d_neu (n_sub_lh rfl rfl rfl (by (first | omega | (simp only [digs8_len]; omega))) (by (first | omega | (simp only [digs8_len]; omega))) (by (first | omega | (simp only [digs8_len]; omega)))) rfl rfl ?_; refine d_neu (n_add_s rfl rfl (by (simp only [List.length_append, List.length_cons, List.length_nil, List.length_take, List.length_drop]; omega))) rfl rfl ?_; refine d_neu (n_move rfl rfl) rfl rfl ?_; refine d_neu (n_quo_w rfl rfl (by omega)) rfl rfl ?_; refine d_neu (n_rem rfl rfl (by omega)) rfl rfl ?_; refine d_neu (n_move rfl rfl) rfl rfl ?_; refine d_neu (n_quo_w rfl rfl (by omega)) rfl rfl ?_; refine d_neu (n_rem rfl rfl (by omega)) rfl rfl ?_; refine d_neu (n_add_w rfl rfl) rfl rfl ?_; refine d_neu (n_sub_lh rfl rfl rfl (by (first | omega | (simp only [digs8_len]; omega))) (by (first | omega | (simp only [digs8_len]; omega))) (by (first | omega | (simp only [digs8_len]; omega)))) rfl rfl ?_; refine d_neu (n_add_s rfl rfl (by (simp only [List.length_append, List.length_cons, List.length_nil, List.length_take, List.length_drop]; omega))) rfl rfl ?_; refine d_neu (n_move rfl rfl) rfl rfl ?_; refine d_neu (n_rem rfl rfl (by omega)) rfl rfl ?_; refine d_neu (n_move rfl rfl) rfl rfl ?_; refine d_neu (n_rem rfl rfl (by omega)) rfl rfl ?_; refine d_neu (n_add_w rfl rfl) rfl rfl ?_; refine d_neu (n_sub_lh rfl rfl rfl (by (first | omega | (simp only [digs8_len]; omega))) (by (first | omega | (simp only [digs8_len]; omega))) (by (first | omega | (simp only [digs8_len]; omega)))) rfl rfl ?_; refine d_neu (n_add_s rfl rfl (by (simp only [List.length_append, List.length_cons, List.length_nil, List.length_take, List.length_drop]; omega))) rfl rfl ?_; refine d_neu (n_assign rfl rfl) rfl rfl ?_; refine d_nil ?_
            have k1 : ∀ q : Nat, ((q + 1 : Nat) : Int).toNat - ((q : Nat) : Int).toNat = 1 := fun q => by omega
            refine k4 ?_; refine k4 ?_
            refine c_region ?_; refine l_neu (n_move rfl rfl) rfl ?_; refine l_neu (n_add rfl rfl (by omega)) rfl ?_; refine l_neu (n_assign rfl rfl) rfl ?_; refine l_nil ?_
            skip
            refine ⟨i + 1, hlt, by omega, ?_⟩
            rw [e5, e6, e7, e1, e3, e4, k1 (c.toNat / 64), k1 (c.toNat / 8 % 8), k1 (c.toNat % 8), h1, hob, show 34 :: (escs s i ++ (92 :: octOf c)) = 34 :: escs s i ++ [92] ++ (digs8.drop (c.toNat / 64)).take 1 ++ (digs8.drop (c.toNat / 8 % 8)).take 1 ++ (digs8.drop (c.toNat % 8)).take 1 from by unfold octOf; simp only [List.cons_append, List.append_assoc, List.nil_append]]
            exact Sees.of ⟨le1 rfl, le1 rfl, le1 rfl, le1 rfl, trivial⟩ trivial
          · have h6 := of_decide_eq_false (or_pick.symm.trans ht)
            skip
            refine c_region ?_; refine l_neu (n_move rfl rfl) rfl ?_; refine l_neu (n_move rfl rfl) rfl ?_; refine l_neu (n_move rfl rfl) rfl ?_; refine l_neu (n_move rfl rfl) rfl ?_; refine l_neu (n_add rfl rfl (by omega)) rfl ?_; refine l_neu (n_sub_lh rfl rfl rfl (by omega) (by omega) (by omega)) rfl ?_; refine l_neu (n_add_s rfl rfl (by simp; omega)) rfl ?_; refine l_neu (n_assign rfl rfl) rfl ?_; refine l_nil ?_
            refine k4 ?_; refine k4 ?_; refine k1 ?_
            refine c_region ?_; refine l_neu (n_move rfl rfl) rfl ?_; refine l_neu (n_add rfl rfl (by omega)) rfl ?_; refine l_neu (n_assign rfl rfl) rfl ?_; refine l_nil ?_
            refine k1 ?_
            refine ⟨i + 1, hlt, by omega, ?_⟩
            rw [h1, show escOf c = _ from by rw [escOf, if_neg (by omega), if_neg (by omega), if_neg (by omega), if_neg (by omega)]]
            rw [hone.1, hone.2, hsub]
            exact Sees.of ⟨le1 rfl, le1 rfl, le1 rfl, le1 rfl, trivial⟩ trivial
  · have hi' : i = s.length := by have := of_decide_eq_false ht; omega
    subst hi'
    refine k6 ?_; refine k2 ?_; refine k2 ?_
    refine c_region ?_; refine l_neu (n_move rfl rfl) rfl ?_; refine l_nil ?_
    refine k1 ?_
    refine c_cond rfl (fun ht => ?_) (fun ht => ?_)
    · have h : plains s s.length = true := ht
      refine k2 ?_
      refine c_region ?_; refine l_neu (n_move rfl rfl) rfl ?_; refine l_neu (n_assign rfl rfl) rfl ?_; refine l_nil ?_
      refine k1 ?_; refine k10 ?_; refine k11 ?_
      exact ret_ret (ret1 rfl rfl rfl) (by rw [quoteOf_eq, if_pos h])
    · have h : plains s s.length = false := ht
      refine k5 ?_; refine k1 ?_; refine k2 ?_
      refine c_region ?_; refine l_neu (n_move rfl rfl) rfl ?_; refine l_neu (n_add_s rfl rfl (by simp; omega)) rfl ?_; refine l_neu (n_assign rfl rfl) rfl ?_; refine l_nil ?_
      refine k1 ?_; refine k10 ?_
      exact ret_ret (ret1 rfl rfl rfl) (by rw [quoteOf_eq, h]; rfl)
end Go.Proofs.YtbiadkkamhpdnaaGreatDoor
namespace Go.Proofs.YtbiadkkamhpdnaaGreatDoor
open Go Go.AL Go.RowKit
set_option maxRecDepth 100000
theorem u8dig (q : Nat) (h : q < 8) : IntKind.u8.wrap (48 + (q : Int)) = ((UInt8.ofNat (48 + q)).toNat : Int) := by
  rw [IntWalk.u8_in _ (by omega)]
  have : (UInt8.ofNat (48 + q)).toNat = 48 + q := by rw [UInt8.toNat_ofNat']; omega
  rw [this]; simp
theorem and7_u8 (x : Nat) (h : x < 256) : IntKind.u8.wrap ((BitVec.ofInt IntKind.u8.bits (x : Int) &&& BitVec.ofInt IntKind.u8.bits 7).toNat : Int) = ((x % 8 : Nat) : Int) := by
  have h1 : (BitVec.ofInt IntKind.u8.bits (x : Int) &&& BitVec.ofInt IntKind.u8.bits 7).toNat = x % 8 := by
    rw [BitVec.toNat_and, BitVec.toNat_ofInt, BitVec.toNat_ofInt]
    have e1 : ((x : Int) % ((2 ^ IntKind.u8.bits : Nat) : Int)).toNat = x := by
      rw [show ((2 ^ IntKind.u8.bits : Nat) : Int) = 256 by rfl]; omega
    have e2 : ((7 : Int) % ((2 ^ IntKind.u8.bits : Nat) : Int)).toNat = 2 ^ 3 - 1 := by rfl
    rw [e1, e2, Nat.and_two_pow_sub_one_eq_mod]
  rw [h1, IntWalk.u8_in _ (by omega)]
theorem shr_u8 (x : Nat) (c : Nat) (h : c ≤ 8) : (x : Int).fdiv (2 ^ min (Int.toNat (c : Int)) IntKind.u8.bits) = ((x / 2 ^ c : Nat) : Int) := by
  rw [shr_eq _ _ IntKind.u8.bits ⟨by omega, by show (c : Int) ≤ 8; omega⟩]
  simp
theorem escaped_ok (c : UInt8) : FnOk Tryz.prog 198 [pByte c] (fun rs => rs = [pStr (escOf c)]) := by
  have hc := c.toNat_lt
  refine FnOk.intro Tryz.func198 (by decide) rfl rfl rfl rfl ?_
  refine k2 ?_
  refine c_region ?_; refine l_neu (n_assign rfl rfl) rfl ?_; refine l_nil ?_
  refine k1 ?_; refine k2 ?_; refine k3 ?_; refine k2 ?_
  refine c_region ?_; refine l_neu (n_move rfl rfl) rfl ?_; refine l_neu (n_eql rfl rfl) rfl ?_; refine l_neu (n_move rfl rfl) rfl ?_; refine l_guard rfl rfl rfl rfl (fun hg => by rw [hg]; exact n_move rfl rfl) ?_; refine l_guard rfl rfl rfl rfl (fun hg => by rw [hg]; exact n_eql rfl rfl) ?_; refine l_neu (n_pick_bool rfl (fun h => by first | rfl | (rw [h]; rfl)) (fun h => by first | rfl | (rw [h]; rfl))) rfl ?_; refine l_neu (n_assign rfl rfl) rfl ?_; refine l_nil ?_
  refine k1 ?_
  refine c_cond rfl (fun ht => ?_) (fun ht => ?_)
  · have h := of_decide_eq_true (or_pick.symm.trans ht)
    refine k2 ?_
    refine c_region ?_; refine l_neu (n_move rfl rfl) rfl ?_; refine l_neu (n_byte_string rfl (by omega)) rfl ?_; refine l_neu (n_add_s rfl rfl (by simp)) rfl ?_; refine l_neu (n_assign rfl rfl) rfl ?_; refine l_nil ?_
    refine k1 ?_; refine k10 ?_; refine k12 ?_; refine k11 ?_
    exact ret_ret (ret1 rfl rfl rfl) (by rw [escOf, if_pos (by omega)]; rfl)
  · have h := of_decide_eq_false (or_pick.symm.trans ht)
    refine k2 ?_
    refine c_region ?_; refine l_neu (n_move rfl rfl) rfl ?_; refine l_neu (n_eql rfl rfl) rfl ?_; refine l_neu (n_assign rfl rfl) rfl ?_; refine l_nil ?_
    refine k1 ?_
    refine c_cond rfl (fun ht => ?_) (fun ht => ?_)
    · have h1 := of_decide_eq_true ht
      refine k2 ?_
      refine c_region ?_; refine l_neu (n_assign rfl rfl) rfl ?_; refine l_nil ?_
      refine k1 ?_; refine k10 ?_; refine k12 ?_; refine k11 ?_
      exact ret_ret (ret1 rfl rfl rfl) (by rw [escOf, if_neg (by omega), if_pos (by omega)])
    · have h1 := of_decide_eq_false ht
      refine k2 ?_
      refine c_region ?_; refine l_neu (n_move rfl rfl) rfl ?_; refine l_neu (n_eql rfl rfl) rfl ?_; refine l_neu (n_assign rfl rfl) rfl ?_; refine l_nil ?_
      refine k1 ?_
      refine c_cond rfl (fun ht => ?_) (fun ht => ?_)
      · have h2 := of_decide_eq_true ht
        refine k2 ?_
        refine c_region ?_; refine l_neu (n_assign rfl rfl) rfl ?_; refine l_nil ?_
        refine k1 ?_; refine k10 ?_; refine k12 ?_; refine k11 ?_
        exact ret_ret (ret1 rfl rfl rfl) (by rw [escOf, if_neg (by omega), if_neg (by omega), if_pos (by omega)])
      · have h2 := of_decide_eq_false ht
        refine k2 ?_
        refine c_region ?_; refine l_neu (n_move rfl rfl) rfl ?_; refine l_neu (n_lss rfl rfl) rfl ?_; refine l_neu (n_move rfl rfl) rfl ?_; refine l_guard rfl rfl rfl rfl (fun hg => by rw [hg]; exact n_move rfl rfl) ?_; refine l_guard rfl rfl rfl rfl (fun hg => by rw [hg]; exact n_gtr rfl rfl) ?_; refine l_neu (n_pick_bool rfl (fun h => by first | rfl | (rw [h]; rfl)) (fun h => by first | rfl | (rw [h]; rfl))) rfl ?_; refine l_neu (n_assign rfl rfl) rfl ?_; refine l_nil ?_
        refine k1 ?_
        refine c_cond rfl (fun ht => ?_) (fun ht => ?_)
        · have h3 := of_decide_eq_true (or_pick.symm.trans ht)
          refine k2 ?_
          have f6 : (c.toNat : Int).fdiv (2 ^ min (Int.toNat 6) IntKind.u8.bits) = ((c.toNat / 64 : Nat) : Int) := shr_u8 c.toNat 6 (by omega)
          have f3 : (c.toNat : Int).fdiv (2 ^ min (Int.toNat 3) IntKind.u8.bits) = ((c.toNat / 8 : Nat) : Int) := shr_u8 c.toNat 3 (by omega)
          have e1 := u8dig (c.toNat / 64) (by omega)
          have e2 := u8dig (c.toNat / 8 % 8) (by omega)
          have e3 := u8dig (c.toNat % 8) (by omega)
          have hol := octOf_bytes c
          refine c_region ?_; refine l_neu (n_move rfl rfl) rfl ?_; refine l_neu (n_shr rfl rfl (by omega)) rfl ?_; refine l_neu (n_add_w rfl rfl) rfl ?_; refine l_neu (n_move rfl rfl) rfl ?_; refine l_neu (n_shr rfl rfl (by omega)) rfl ?_; refine l_neu (n_bits rfl rfl rfl (fun _ => rfl)) rfl ?_; refine l_neu (n_add_w rfl rfl) rfl ?_; refine l_neu (n_move rfl rfl) rfl ?_; refine l_neu (n_bits rfl rfl rfl (fun _ => rfl)) rfl ?_; refine l_neu (n_add_w rfl rfl) rfl ?_; rw [f6, f3, and7_u8 (c.toNat / 8) (by omega), and7_u8 c.toNat (by omega), e1, e2, e3]; refine l_neu (n_buildSlice (c := u8C) (ys := [UInt8.ofNat (48 + c.toNat / 64), UInt8.ofNat (48 + c.toNat / 8 % 8), UInt8.ofNat (48 + c.toNat % 8)]) (asm_cons rfl rfl rfl rfl (asm_cons rfl rfl rfl rfl (asm_cons rfl rfl rfl rfl asm_nil))) rfl rfl rfl) rfl ?_; refine l_neu (n_bytes_string TyStr.out rfl (.pure _ _ _ _)) rfl ?_; refine l_neu (n_add_s rfl rfl (by simp)) rfl ?_; refine l_neu (n_assign rfl rfl) rfl ?_; refine l_nil ?_
          refine k1 ?_; refine k10 ?_; refine k12 ?_; refine k11 ?_
          exact ret_ret (ret1 rfl rfl rfl) (by rw [escOf, if_neg (by omega), if_neg (by omega), if_neg (by omega), if_pos (by omega), hol]; rfl)
        · have h3 := of_decide_eq_false (or_pick.symm.trans ht)
          refine k5 ?_; refine k2 ?_
          refine c_region ?_; refine l_neu (n_move rfl rfl) rfl ?_; refine l_neu (n_byte_string rfl (by omega)) rfl ?_; refine l_neu (n_assign rfl rfl) rfl ?_; refine l_nil ?_
          refine k1 ?_; refine k10 ?_
          exact ret_ret (ret1 rfl rfl rfl) (by rw [escOf, if_neg (by omega), if_neg (by omega), if_neg (by omega), if_neg (by omega)])
theorem itoa_ok (n : Int) (h : 0 ≤ n ∧ n ≤ 2147483647) : FnOk Tryz.prog 205 [pInt n] (fun rs => rs = [pStr (Lib.itoa n)]) :=
  FnOk.ofPlainG (xs := [.int .i64 n]) (r := .string ⟨(Lib.itoa n).toArray⟩) ⟨_, rfl, rfl, rfl⟩ rfl fun w hw =>
    (Tryz.strconv_Itoa n (by omega) (by omega) w (hw.pow10 rfl)).mono fun e w' ⟨he, k, os, hw'⟩ => ⟨he, by subst hw'; exact Lib.below_grow _ _ (Nat.le_refl _) _ _⟩
theorem sformat_ok (n : Int) : FnOk Tryz.prog 148 [pInt n] (fun rs => rs = [pStr (fmtOf n)]) := by
  refine FnOk.intro Tryz.func148 (by decide) rfl rfl rfl rfl ?_
  refine k2 ?_
  refine c_region ?_; refine l_neu (n_assign rfl rfl) rfl ?_; refine l_nil ?_
  refine k1 ?_; refine k2 ?_; refine k2 ?_
  refine c_region ?_; refine l_neu (n_move rfl rfl) rfl ?_; refine l_neu (n_lss rfl rfl) rfl ?_; refine l_neu (n_move rfl rfl) rfl ?_; refine l_guard rfl rfl rfl rfl (fun hg => by rw [hg]; exact n_move rfl rfl) ?_; refine l_guard rfl rfl rfl rfl (fun hg => by rw [hg]; exact n_gtr rfl rfl) ?_; refine l_neu (n_pick_bool rfl (fun h => by first | rfl | (rw [h]; rfl)) (fun h => by first | rfl | (rw [h]; rfl))) rfl ?_; refine l_nil ?_
  refine k1 ?_
  refine c_cond rfl (fun ht => ?_) (fun ht => ?_)
  · have h := of_decide_eq_true (or_pick.symm.trans ht)
    refine k2 ?_
    refine c_region ?_; refine l_neu (n_assign rfl rfl) rfl ?_; refine l_nil ?_
    refine k1 ?_; refine k10 ?_; refine k11 ?_
    exact ret_ret (ret1 rfl rfl rfl) (by rw [fmtOf, if_pos (by omega)])
  · have h := of_decide_eq_false (or_pick.symm.trans ht)
    refine k5 ?_; refine k1 ?_; refine k2 ?_
    refine c_region ?_; refine l_neu (n_move rfl rfl) rfl ?_; refine l_call (itoa_ok n (by omega)) rfl rfl rfl ?_; rintro _ rfl; refine l_neu (n_assign rfl rfl) rfl ?_; refine l_nil ?_
    refine k1 ?_; refine k10 ?_
    exact ret_ret (ret1 rfl rfl rfl) (by rw [fmtOf, if_neg (by omega)])
theorem srange_ok (a n : Int) (ha : -4611686018427387904 ≤ a ∧ a ≤ 4611686018427387904) (hn : -4611686018427387904 ≤ n ∧ n ≤ 4611686018427387904) : FnOk Tryz.prog 151 [pInt a, pInt n] (fun rs => rs = [pStr (rangeOf a n)]) := by
  refine FnOk.intro Tryz.func151 (by decide) rfl rfl rfl rfl ?_
  refine k2 ?_
  refine c_region ?_; refine l_neu (n_assign rfl rfl) rfl ?_; refine l_nil ?_
  refine k1 ?_; refine k2 ?_; refine k2 ?_
  refine c_region ?_; refine l_neu (n_move rfl rfl) rfl ?_; refine l_neu (n_lss rfl rfl) rfl ?_; refine l_neu (n_move rfl rfl) rfl ?_; refine l_guard rfl rfl rfl rfl (fun hg => by rw [hg]; exact n_move rfl rfl) ?_; refine l_guard rfl rfl rfl rfl (fun hg => by rw [hg]; exact n_lss rfl rfl) ?_; refine l_neu (n_pick_bool rfl (fun h => by first | rfl | (rw [h]; rfl)) (fun h => by first | rfl | (rw [h]; rfl))) rfl ?_; refine l_neu (n_move rfl rfl) rfl ?_; refine l_guard rfl rfl rfl rfl (fun hg => by rw [hg]; exact n_move rfl rfl) ?_; refine l_guard rfl rfl rfl rfl (fun hg => by rw [hg]; exact n_gtr rfl rfl) ?_; refine l_neu (n_pick_bool rfl (fun h => by first | rfl | (rw [h]; rfl)) (fun h => by first | rfl | (rw [h]; rfl))) rfl ?_; refine l_neu (n_move rfl rfl) rfl ?_; refine l_guard rfl rfl rfl rfl (fun hg => by rw [hg]; exact n_move rfl rfl) ?_; refine l_guard rfl rfl rfl rfl (fun hg => by rw [hg]; exact n_move rfl rfl) ?_; refine l_guard rfl rfl rfl rfl (fun hg => by rw [hg]; exact n_sub rfl rfl (by (first | omega | (simp at hq; omega)))) ?_; refine l_guard rfl rfl rfl rfl (fun hg => by rw [hg]; exact n_gtr rfl rfl) ?_; refine l_neu (n_pick_bool rfl (fun h => by first | rfl | (rw [h]; rfl)) (fun h => by first | rfl | (rw [h]; rfl))) rfl ?_; refine l_nil ?_
  refine k1 ?_
  have l1 := fmtOf_len a
  have l2 := fmtOf_len (a + 1)
  have l3 := fmtOf_len n
  refine c_cond rfl (fun ht => ?_) (fun ht => ?_)
  · have h := of_decide_eq_true ((by simp only [or_pick] at ht; exact ht) : decide _ = true)
    refine k2 ?_
    refine c_region ?_; refine l_neu (n_assign rfl rfl) rfl ?_; refine l_nil ?_
    refine k1 ?_; refine k10 ?_; refine k11 ?_
    exact ret_ret (ret1 rfl rfl rfl) (by rw [rangeOf, if_pos (by omega)])
  · have h := of_decide_eq_false ((by simp only [or_pick] at ht; exact ht) : decide _ = false)
    refine k5 ?_; refine k1 ?_; refine k2 ?_; refine k2 ?_
    refine c_region ?_; refine l_neu (n_move rfl rfl) rfl ?_; refine l_nil ?_
    refine k1 ?_; refine k3 ?_; refine k2 ?_
    refine c_region ?_; refine l_neu (n_eql rfl rfl) rfl ?_; refine l_neu (n_assign rfl rfl) rfl ?_; refine l_nil ?_
    refine k1 ?_
    refine c_cond rfl (fun ht => ?_) (fun ht => ?_)
    · have h0 := of_decide_eq_true ht
      refine k2 ?_
      refine c_region ?_; refine l_neu (n_move rfl rfl) rfl ?_; refine l_call (sformat_ok a) rfl rfl rfl ?_; rintro _ rfl; refine l_neu (n_add_s rfl rfl (by simp; omega)) rfl ?_; refine l_neu (n_assign rfl rfl) rfl ?_; refine l_nil ?_
      refine k1 ?_; refine k10 ?_; refine k12 ?_; refine k11 ?_
      exact ret_ret (ret1 rfl rfl rfl) (by rw [rangeOf, if_neg (by omega), if_pos h0])
    · have h0 := of_decide_eq_false ht
      refine k2 ?_
      refine c_region ?_; refine l_neu (n_eql rfl rfl) rfl ?_; refine l_neu (n_assign rfl rfl) rfl ?_; refine l_nil ?_
      refine k1 ?_
      refine c_cond rfl (fun ht => ?_) (fun ht => ?_)
      · have h1 := of_decide_eq_true ht
        refine k2 ?_
        refine c_region ?_; refine l_neu (n_move rfl rfl) rfl ?_; refine l_neu (n_add rfl rfl (by omega)) rfl ?_; refine l_call (sformat_ok (a + 1)) rfl rfl rfl ?_; rintro _ rfl; refine l_neu (n_assign rfl rfl) rfl ?_; refine l_nil ?_
        refine k1 ?_; refine k10 ?_; refine k12 ?_; refine k11 ?_
        exact ret_ret (ret1 rfl rfl rfl) (by rw [rangeOf, if_neg (by omega), if_neg h0, if_pos h1])
      · have h1 := of_decide_eq_false ht
        refine k5 ?_; refine k2 ?_
        refine c_region ?_; refine l_neu (n_move rfl rfl) rfl ?_; refine l_neu (n_add rfl rfl (by omega)) rfl ?_; refine l_call (sformat_ok (a + 1)) rfl rfl rfl ?_; rintro _ rfl; refine l_neu (n_add_s rfl rfl (by simp; omega)) rfl ?_; refine l_neu (n_move rfl rfl) rfl ?_; refine l_call (sformat_ok n) rfl rfl rfl ?_; rintro _ rfl; refine l_neu (n_add_s rfl rfl (by simp; omega)) rfl ?_; refine l_neu (n_assign rfl rfl) rfl ?_; refine l_nil ?_
        refine k1 ?_; refine k10 ?_
        exact ret_ret (ret1 rfl rfl rfl) (by rw [rangeOf, if_neg (by omega), if_neg h0, if_neg h1])
theorem bstring_calls (B b : Nat) (l : List UInt8) (w : World) (h : Lib.IsBuilder 124 5 B b (Lib.byteCells l) w) (hBw : B ≤ w.heap.size) :
    Calls Tryz.prog 89 #[.pointer (some ⟨b, 0, none⟩)] w fun e w' => e = .returned (.string ⟨l.toArray⟩) ∧ Below B w w' := Tryz.Builder_String_any B b l w h hBw
theorem squote_ok (s : Str) (hs : s.length ≤ 16777216) : FnOk Tryz.prog 134 [pStr s] (fun rs => rs = [pStr (quoteOf s)]) := by
  refine FnOk.intro Tryz.func134 (by decide) rfl rfl rfl rfl ?_
  refine k2 ?_
  refine c_region ?_; refine l_neu (n_assign rfl rfl) rfl ?_; refine l_nil ?_
  refine k1 ?_; refine k2 ?_
  refine c_region ?_; refine l_neu (n_move rfl rfl) rfl ?_; refine l_neu (n_neq_s rfl rfl) rfl ?_; refine l_neu (n_assign rfl rfl) rfl ?_; refine l_nil ?_
  refine k1 ?_; refine k2 ?_; refine k2 ?_
  refine c_region ?_; refine l_neu (n_move rfl rfl) rfl ?_; refine l_neu (n_len_s rfl) rfl ?_; refine l_neu (n_move rfl rfl) rfl ?_; refine l_nil ?_
  refine k1 ?_; refine k3 ?_
  refine c_while (X := Nat) (fun i => ([(0, sStr s), (3, sVal (.bool (plains s i))), (10, sInt s.length), (11, sInt i)], [])) (fun i => i ≤ s.length) (fun i => s.length - i) 0 (Nat.zero_le _) ?_ ?_
  · rw [plains_zero]
    exact Sees.of ⟨le1 rfl, le1 rfl, le1 rfl, le1 rfl, trivial⟩ trivial
  intro i hi
  dsimp only at hi ⊢
  refine k2 ?_
  refine c_region ?_; refine l_neu (n_lss rfl rfl) rfl ?_; refine l_nil ?_
  refine k1 ?_; refine k2 ?_
  refine c_cond rfl (fun ht => ?_) (fun ht => ?_)
  · have hlt : i < s.length := by have := of_decide_eq_true ht; omega
    have hv : s[i]? = some s[i] := by simp [hlt]
    obtain ⟨c, hc⟩ : ∃ c, c = s[i] := ⟨_, rfl⟩
    have h2 := plains_succ s i hlt
    rw [← hc] at hv h2
    refine k5 ?_; refine k1 ?_; refine k2 ?_; refine k3 ?_; refine k2 ?_
    refine c_region ?_; refine l_neu (n_move rfl rfl) rfl ?_; refine l_neu (n_assign rfl rfl) rfl ?_; refine l_nil ?_
    refine k1 ?_
    refine c_region ?_; refine l_neu (n_move rfl rfl) rfl ?_; refine l_neu (n_move rfl rfl) rfl ?_; refine l_guard rfl rfl rfl rfl (fun hg => by rw [hg]; exact n_move rfl rfl) ?_; refine l_guard rfl rfl rfl rfl (fun hg => by rw [hg]; exact n_move rfl rfl) ?_; refine l_guard rfl rfl rfl rfl (fun hg => by have hq := hg; (try simp at hq); rw [hg]; exact n_index_s rfl rfl (by omega) hv) ?_; refine l_guard rfl rfl rfl rfl (fun hg => by have hq := hg; (try simp at hq); rw [hg]; exact n_call1 (splain_ok c) rfl rfl) ?_; refine l_neu (n_pick_bool rfl (fun h => by first | rfl | (rw [h]; rfl)) (fun h => by first | rfl | (rw [h]; rfl))) rfl ?_; refine l_neu (n_assign rfl rfl) rfl ?_; refine l_nil ?_
    refine k4 ?_; refine k1 ?_
    refine c_region ?_; refine l_neu (n_add rfl rfl (by omega)) rfl ?_; refine l_neu (n_move rfl rfl) rfl ?_; refine l_nil ?_
    refine k1 ?_
    refine ⟨i + 1, hlt, by omega, ?_⟩
    rw [show (if plains s i = true then plainB c else false) = plains s (i + 1) from by rw [h2]; cases plains s i <;> rfl]
    exact Sees.of ⟨le1 rfl, le1 rfl, le1 rfl, le1 rfl, trivial⟩ trivial
  have hi' : i = s.length := by have := of_decide_eq_false ht; omega
  subst hi'
  refine k6 ?_; refine k2 ?_; refine k2 ?_
  refine c_region ?_; refine l_neu (n_move rfl rfl) rfl ?_; refine l_nil ?_
  refine k1 ?_
  refine c_cond rfl (fun ht => ?_) (fun ht => ?_)
  · have h : plains s s.length = true := ht
    refine k2 ?_
    refine c_region ?_; refine l_neu (n_move rfl rfl) rfl ?_; refine l_neu (n_assign rfl rfl) rfl ?_; refine l_nil ?_
    refine k1 ?_; refine k10 ?_; refine k11 ?_
    exact ret_ret (ret1 rfl rfl rfl) (by rw [quoteOf_eq, if_pos h])
  have h : plains s s.length = false := ht
  have hq : quoteOf s = (34 :: escs s s.length) ++ [34] := by rw [quoteOf_eq, h]; rfl
  refine k5 ?_; refine k1 ?_; refine k2 ?_
  refine c_region ?_; refine l_effv (f_allocT 700 rfl) rfl ?_; refine l_nil ?_
  refine k1 ?_; refine k2 ?_
  refine c_sees (Sees.adoptT 701 UInt8 1 u8C 5 (kb := 700) (o := 1) rfl rfl rfl) ?_
  refine c_region ?_; refine l_met (writeByte_met (xs := []) (c := 34) ⟨⟨_, .inl rfl, rfl⟩, rfl⟩ (by simp)) rfl rfl rfl ?_; rintro _ _ ⟨rfl, rfl⟩; refine l_nil ?_
  refine k1 ?_; refine k2 ?_; refine k2 ?_
  refine c_region ?_; refine l_neu (n_move rfl rfl) rfl ?_; refine l_neu (n_len_s rfl) rfl ?_; refine l_neu (n_move rfl rfl) rfl ?_; refine l_nil ?_
  refine k1 ?_; refine k3 ?_
  refine c_while (X := Nat) (fun i => ([(0, sStr s), (5, .s (.one (.ref 700 0))), (26, sInt s.length), (27, sInt i)], [(700, .tbx 124 [.ref 700 0, .buf 701 UInt8 1 u8C (34 :: escs s i)]), (701, .spare (34 :: escs s i).length 1 5)])) (fun i => i ≤ s.length) (fun i => s.length - i) 0 (Nat.zero_le _) (Sees.of ⟨le1 rfl, le1 rfl, le1 rfl, le1 rfl, trivial⟩ ⟨rfl, rfl, trivial⟩) ?_
  intro i hi
  dsimp only at hi ⊢
  have hel := escs_len s i hi
  refine k2 ?_
  refine c_region ?_; refine l_neu (n_lss rfl rfl) rfl ?_; refine l_nil ?_
  refine k1 ?_; refine k2 ?_
  refine c_cond rfl (fun ht => ?_) (fun ht => ?_)
  · have hlt : i < s.length := by have := of_decide_eq_true ht; omega
    have hv : s[i]? = some s[i] := by simp [hlt]
    obtain ⟨c, hc⟩ : ∃ c, c = s[i] := ⟨_, rfl⟩
    have h1 := escs_succ s i hlt
    have h2 := escOf_len c
    rw [← hc] at hv h1
    refine k5 ?_; refine k1 ?_; refine k2 ?_; refine k3 ?_; refine k2 ?_
    refine c_region ?_; refine l_neu (n_move rfl rfl) rfl ?_; refine l_neu (n_assign rfl rfl) rfl ?_; refine l_nil ?_
    refine k1 ?_
    refine c_region ?_; refine l_neu (n_move rfl rfl) rfl ?_; refine l_neu (n_move rfl rfl) rfl ?_; refine l_neu (n_index_s rfl rfl (by omega) hv) rfl ?_; refine l_call (escaped_ok c) rfl rfl rfl ?_; rintro _ rfl; refine l_met (writeString_met (xs := 34 :: escs s i) (s := escOf c) ⟨⟨_, .inr rfl, rfl⟩, rfl⟩ (by simp only [List.length_cons]; omega)) rfl rfl rfl ?_; rintro _ _ ⟨rfl, rfl⟩; refine l_nil ?_
    refine k4 ?_; refine k1 ?_
    refine c_region ?_; refine l_neu (n_add rfl rfl (by omega)) rfl ?_; refine l_neu (n_move rfl rfl) rfl ?_; refine l_nil ?_
    refine k1 ?_
    refine ⟨i + 1, hlt, by omega, ?_⟩
    rw [h1]
    exact Sees.of ⟨le1 rfl, le1 rfl, le1 rfl, le1 rfl, trivial⟩ ⟨rfl, rfl, trivial⟩
  have hi' : i = s.length := by have := of_decide_eq_false ht; omega
  subst hi'
  refine k6 ?_; refine k2 ?_
  refine c_region ?_; refine l_met (writeByte_met (xs := 34 :: escs s s.length) (c := 34) ⟨⟨_, .inr rfl, rfl⟩, rfl⟩ (by simp only [List.length_cons]; omega)) rfl rfl rfl ?_; rintro _ _ ⟨rfl, rfl⟩; refine l_nil ?_
  refine k1 ?_; refine k2 ?_
  refine c_region ?_; refine l_bstring (k := 700) (k' := 701) ⟨_, rfl, rfl, rfl⟩ bstring_calls rfl rfl rfl rfl rfl (.inr rfl) rfl ?_; refine l_neu (n_assign rfl rfl) rfl ?_; refine l_nil ?_
  refine k1 ?_; refine k10 ?_
  exact ret_ret (ret1 rfl rfl rfl) (by rw [hq])
end Go.Proofs.YtbiadkkamhpdnaaGreatDoor
namespace Go.Proofs.YtbiadkkamhpdnaaGreatDoor
open Go Go.AL
set_option maxRecDepth 100000
theorem count1_ok (s : Str) (c : UInt8) : FnOk Tryz.prog 216 [pStr s, pStr [c]] (fun rs => rs = [pInt (s.count c)]) :=
  FnOk.ofPlain (xs := [.string ⟨s.toArray⟩, .string ⟨#[c]⟩]) ⟨_, rfl, rfl, rfl⟩ rfl fun w => by simpa [Lib.countByte] using Tryz.strings_Count_one ⟨s.toArray⟩ c w
theorem index1_ok (s : Str) (c : UInt8) : FnOk Tryz.prog 246 [pStr s, pStr [c]] (fun rs => rs = [pInt (Lib.indexByte s c)]) :=
  FnOk.ofPlain (xs := [.string ⟨s.toArray⟩, .string ⟨#[c]⟩]) ⟨_, rfl, rfl, rfl⟩ rfl fun w => by simpa using Tryz.strings_Index_one ⟨s.toArray⟩ c w
theorem genSplit_ok (s : Str) (hs : s.length ≤ 536870912) : FnOk Tryz.prog 217 [pStr s, pStr [10], pInt 1, pInt (-1)] (fun rs => rs = [pStrs (partsOf s)]) := by
  have hP := partsAux_count s []
  have hc : s.count 10 ≤ s.length := List.count_le_length
  have h10 : ([10] : Str).length = 1 := rfl
  obtain ⟨P, hPe⟩ : ∃ P, P = partsOf s := ⟨_, rfl⟩
  have hPl : P.length = s.count 10 + 1 := by rw [hPe]; exact hP
  refine FnOk.intro Tryz.func217 (by decide) rfl rfl rfl rfl ?_
  refine k2 ?_
  refine c_region ?_; refine l_neu (n_assign rfl rfl) rfl ?_; refine l_nil ?_
  refine k1 ?_; refine k2 ?_; refine k2 ?_
  refine c_region ?_; refine l_neu (n_move rfl rfl) rfl ?_; refine l_neu (n_eql rfl rfl) rfl ?_; refine l_nil ?_
  refine k1 ?_
  refine c_cond rfl (fun ht => ?_) (fun ht => ?_)
  · exact absurd (of_decide_eq_true ht) (by omega)
  refine k5 ?_; refine k1 ?_; refine k2 ?_; refine k2 ?_
  refine c_region ?_; refine l_neu (n_move rfl rfl) rfl ?_; refine l_neu (n_eql_s rfl rfl) rfl ?_; refine l_nil ?_
  refine k1 ?_
  refine c_cond rfl (fun ht => ?_) (fun ht => ?_)
  · exact absurd (of_decide_eq_true ht) (by simp)
  refine k5 ?_; refine k1 ?_; refine k2 ?_; refine k2 ?_
  refine c_region ?_; refine l_neu (n_move rfl rfl) rfl ?_; refine l_neu (n_lss rfl rfl) rfl ?_; refine l_nil ?_
  refine k1 ?_
  refine c_cond rfl (fun ht => ?_) (fun ht => ?_)
  rotate_left
  · exact absurd (of_decide_eq_false ht) (by omega)
  skip
  refine c_region ?_; refine l_neu (n_move rfl rfl) rfl ?_; refine l_neu (n_move rfl rfl) rfl ?_; refine l_call (count1_ok s 10) rfl rfl rfl ?_; rintro _ rfl; refine l_neu (n_add rfl rfl (by omega)) rfl ?_; refine l_neu (n_assign rfl rfl) rfl ?_; refine l_nil ?_
  refine k1 ?_; refine k2 ?_
  refine c_region ?_; refine l_neu (n_move rfl rfl) rfl ?_; refine l_neu (n_move rfl rfl) rfl ?_; refine l_neu (n_len_s rfl) rfl ?_; refine l_neu (n_add rfl rfl (by omega)) rfl ?_; refine l_neu (n_min rfl rfl) rfl ?_; refine l_neu (n_assign rfl rfl) rfl ?_; refine l_nil ?_
  refine k1 ?_; refine k2 ?_
  rw [show (if (s.length : Int) + 1 < (s.count 10 : Int) + 1 then (s.length : Int) + 1 else (s.count 10 : Int) + 1) = (P.length : Int) from by split <;> omega]
  refine c_region ?_; refine l_neu (n_move rfl rfl) rfl ?_; refine l_effv (f_makeZ 9 Str strC [] rfl rfl (by omega) (by omega) (fun _ => by first | exact ⟨⟨rfl, rfl⟩, trivial⟩ | exact ⟨rep_nil _ _ _, trivial⟩) (by first | rfl | (simp [frFree, obFree, Ob.free, SV.free, S1.free, TC.free] <;> rfl))) rfl ?_; refine l_neu (n_assign rfl rfl) rfl ?_; refine l_nil ?_
  refine k1 ?_; refine k2 ?_
  refine c_region ?_; refine l_neu (n_move rfl rfl) rfl ?_; refine l_neu (n_sub rfl rfl (by omega)) rfl ?_; refine l_neu (n_assign rfl rfl) rfl ?_; refine l_nil ?_
  refine k1 ?_; refine k2 ?_
  refine c_region ?_; refine l_neu (n_assign rfl rfl) rfl ?_; refine l_nil ?_
  refine k1 ?_; refine k2 ?_; refine k3 ?_
  refine c_while (X := Nat × Str) (fun x => ([(0, sStr x.2), (1, sStr [10]), (2, sInt 1), (3, sInt ((P.length : Int) - 1)), (9, .s (.one (.mut 9))), (10, sInt x.1)], [(9, .arr Str 1 strC (P.take x.1 ++ List.replicate (P.length - x.1) []))])) (fun x => x.1 + 1 ≤ P.length ∧ P.drop x.1 = partsOf x.2 ∧ x.2.length ≤ s.length) (fun x => P.length - x.1) (0, s) ⟨by dsimp only; omega, hPe, Nat.le_refl _⟩ (Sees.of ⟨le1 rfl, le1 rfl, le1 rfl, le1 rfl, le1 rfl, le1 rfl, trivial⟩ ⟨rfl, trivial⟩) ?_
  rintro ⟨i, r⟩ ⟨hi, hp, hr⟩
  dsimp only at hi hp hr ⊢
  refine k2 ?_; refine k2 ?_
  refine c_region ?_; refine l_neu (n_move rfl rfl) rfl ?_; refine l_neu (n_move rfl rfl) rfl ?_; refine l_neu (n_lss rfl rfl) rfl ?_; refine l_nil ?_
  refine k1 ?_
  refine c_cond rfl (fun ht => ?_) (fun ht => ?_)
  · have hlt : i + 1 < P.length := by have := of_decide_eq_true ht; omega
    have hin : (10 : UInt8) ∈ r := by
      have h1 := partsAux_count r []
      have h2 : (P.drop i).length = r.count 10 + 1 := by rw [hp]; exact h1
      rw [List.length_drop] at h2
      exact List.count_pos_iff.1 (by omega)
    rcases indexByte_first 10 r with ⟨h1, _⟩ | ⟨a, b, h1, h2, h3⟩
    · exact absurd hin h1
    obtain ⟨h4, h5⟩ := parts_step hp h1 h2
    have hl : r.length = a.length + 1 + b.length := by rw [h1]; simp; omega
    refine k5 ?_; refine k1 ?_; refine k3 ?_; refine k2 ?_
    refine c_region ?_; refine l_neu (n_move rfl rfl) rfl ?_; refine l_neu (n_move rfl rfl) rfl ?_; refine l_call (index1_ok r 10) rfl rfl rfl ?_; rintro _ rfl; refine l_neu (n_assign rfl rfl) rfl ?_; refine l_nil ?_
    refine k1 ?_; refine k2 ?_; refine k2 ?_
    refine c_region ?_; refine l_neu (n_move rfl rfl) rfl ?_; refine l_neu (n_lss rfl rfl) rfl ?_; refine l_nil ?_
    refine k1 ?_
    rw [h3]
    refine c_cond rfl (fun ht => ?_) (fun ht => ?_)
    · exact absurd (of_decide_eq_true ht) (by omega)
    refine k5 ?_; refine k1 ?_; refine k2 ?_
    refine c_region ?_; refine l_neu (n_move rfl rfl) rfl ?_; refine l_neu (n_move rfl rfl) rfl ?_; refine l_neu (n_move rfl rfl) rfl ?_; refine l_neu (n_move rfl rfl) rfl ?_; refine l_neu (n_move rfl rfl) rfl ?_; refine l_neu (n_add rfl rfl (by omega)) rfl ?_; refine l_neu (n_sub_h rfl rfl (by omega) (by omega)) rfl ?_; refine l_neu (n_indexAddr_mut rfl rfl rfl (by omega) (by (simp; omega))) rfl ?_; refine l_eff (e_store_mref1 TySz.out rfl rfl (by simp; omega) rfl rfl) ?_; refine l_nil ?_
    refine k1 ?_; refine k2 ?_
    refine c_region ?_; refine l_neu (n_move rfl rfl) rfl ?_; refine l_neu (n_move rfl rfl) rfl ?_; refine l_neu (n_move rfl rfl) rfl ?_; refine l_neu (n_len_s rfl) rfl ?_; refine l_neu (n_add rfl rfl (by omega)) rfl ?_; refine l_neu (n_sub_l rfl rfl (by omega) (by omega)) rfl ?_; refine l_neu (n_assign rfl rfl) rfl ?_; refine l_nil ?_
    refine k1 ?_
    refine c_region ?_; refine l_neu (n_move rfl rfl) rfl ?_; refine l_neu (n_add rfl rfl (by omega)) rfl ?_; refine l_neu (n_assign rfl rfl) rfl ?_; refine l_nil ?_
    refine k4 ?_; refine k1 ?_
    have e1 : r.take (((a.length : Int) + 1).toNat) = a ++ [10] := by rw [h1, show ((a.length : Int) + 1).toNat = a.length + 1 by omega, show a ++ 10 :: b = (a ++ [10]) ++ b by simp, List.take_left' (by simp)]
    have e2 : r.drop (((a.length : Int) + (([10] : Str).length : Int)).toNat) = b := by rw [h1, h10, show ((a.length : Int) + ((1 : Nat) : Int)).toNat = a.length + 1 by omega, show a ++ 10 :: b = (a ++ [10]) ++ b by simp, List.drop_left' (by simp)]
    refine ⟨(i + 1, b), ⟨by dsimp only; omega, h5, by dsimp only; omega⟩, by dsimp only; omega, ?_⟩
    rw [e1, e2]
    dsimp only
    rw [← fill_step P [] _ i h4]
    exact Sees.of ⟨le1 rfl, le1 rfl, le1 rfl, le1 rfl, le1 rfl, le1 rfl, trivial⟩ ⟨rfl, trivial⟩
  · have hge : i + 1 = P.length := by have := of_decide_eq_false ht; omega
    have h1 := partsAux_count r []
    have h2 : (P.drop i).length = r.count 10 + 1 := by rw [hp]; exact h1
    rw [List.length_drop] at h2
    have h3 : (10 : UInt8) ∉ r := List.count_eq_zero.1 (by omega)
    have h4 : P[i]? = some r := by rw [← List.head?_drop, hp]; unfold partsOf; rw [partsAux_none _ _ h3]; rfl
    refine k6 ?_; refine k2 ?_
    refine c_region ?_; refine l_neu (n_move rfl rfl) rfl ?_; refine l_neu (n_move rfl rfl) rfl ?_; refine l_neu (n_move rfl rfl) rfl ?_; refine l_neu (n_indexAddr_mut rfl rfl rfl (by omega) (by (simp; omega))) rfl ?_; refine l_eff (e_store_mref1 TySz.out rfl rfl (by simp; omega) rfl rfl) ?_; refine l_nil ?_
    refine k1 ?_; refine k2 ?_
    have e : (P.take i ++ List.replicate (P.length - i) ([] : Str)).set (i : Int).toNat r = P := by rw [Int.toNat_natCast, fill_step P [] r i h4, hge]; simp
    rw [e]
    refine c_sees (Sees.freeze (k := 9) rfl) ?_
    refine c_region ?_; refine l_neu (n_move rfl rfl) rfl ?_; refine l_neu (n_move rfl rfl) rfl ?_; refine l_neu (n_add rfl rfl (by omega)) rfl ?_; refine l_neu (n_slice_h rfl (.pure _ _ _ _) rfl (by omega) (by omega)) rfl ?_; refine l_neu (n_assign rfl rfl) rfl ?_; refine l_nil ?_
    refine k1 ?_; refine k10 ?_
    exact ret_ret (ret1 rfl rfl rfl) (by rw [show ((i : Int) + 1).toNat = P.length by omega, List.take_length, hPe])
theorem splitAfter_ok (s : Str) (hs : s.length ≤ 536870912) : FnOk Tryz.prog 174 [pStr s, pStr [10]] (fun rs => rs = [pStrs (partsOf s)]) := by
  refine FnOk.intro Tryz.func174 (by decide) rfl rfl rfl rfl ?_
  refine k2 ?_
  refine c_region ?_; refine l_neu (n_assign rfl rfl) rfl ?_; refine l_nil ?_
  refine k1 ?_; refine k2 ?_
  refine c_region ?_; refine l_neu (n_move rfl rfl) rfl ?_; refine l_neu (n_move rfl rfl) rfl ?_; refine l_neu (n_move rfl rfl) rfl ?_; refine l_neu (n_len_s rfl) rfl ?_; refine l_call (genSplit_ok s hs) rfl rfl rfl ?_; rintro _ rfl; refine l_neu (n_assign rfl rfl) rfl ?_; refine l_nil ?_
  refine k1 ?_; refine k10 ?_
  exact ret_ret (ret1 rfl rfl rfl) rfl
theorem tcheck_ok (s : Str) (hs : s.length ≤ 536870912) : FnOk Tryz.prog 173 [pStr s] (fun rs => rs = [pInt (checkOf s)]) := by
  have hl := linesOf_count s
  have hc : s.count 10 ≤ s.length := List.count_le_length
  refine FnOk.intro Tryz.func173 (by decide) rfl rfl rfl rfl ?_
  refine k2 ?_
  refine c_region ?_; refine l_neu (n_assign rfl rfl) rfl ?_; refine l_nil ?_
  refine k1 ?_; refine k2 ?_
  refine c_region ?_; refine l_neu (n_move rfl rfl) rfl ?_; refine l_call (count1_ok s 10) rfl rfl rfl ?_; rintro _ rfl; refine l_neu (n_assign rfl rfl) rfl ?_; refine l_nil ?_
  refine then_normal ?_
  refine c_join [(0, sStr s), (3, sInt (linesOf s).length)] [] ?_ ?_
  · refine k2 ?_
    refine c_region ?_; refine l_neu (n_move rfl rfl) rfl ?_; refine l_neu (n_neq_s rfl rfl) rfl ?_; refine l_neu (n_move rfl rfl) rfl ?_; refine l_guard rfl rfl rfl rfl (fun hg => by rw [hg]; exact n_move rfl rfl) ?_; refine l_guard rfl rfl rfl rfl (fun hg => by have hq := hg; (try simp at hq); rw [hg]; exact n_call1 (tended_ok s (by omega)) rfl rfl) ?_; refine l_guard rfl rfl rfl rfl (fun hg => by rw [hg]; exact n_not rfl) ?_; refine l_neu (n_pick_bool rfl (fun h => by first | rfl | (rw [h]; rfl)) (fun h => by first | rfl | (rw [h]; rfl))) rfl ?_; refine l_nil ?_
    refine k1 ?_
    refine c_cond rfl (fun ht => ?_) (fun ht => ?_)
    · have h : s ≠ [] ∧ ended s = false := by
        by_cases h1 : s = []
        · simp [h1] at ht
        · refine ⟨h1, ?_⟩; simpa [h1] using ht
      rw [if_pos h] at hl
      skip
      refine c_region ?_; refine l_neu (n_move rfl rfl) rfl ?_; refine l_neu (n_add rfl rfl (by omega)) rfl ?_; refine l_neu (n_assign rfl rfl) rfl ?_; refine l_nil ?_
      refine k1 ?_
      rw [hl, Int.natCast_add]
      exact Sees.of ⟨le1 rfl, le1 rfl, trivial⟩ trivial
    · have h : ¬ (s ≠ [] ∧ ended s = false) := by
        rintro ⟨h1, h2⟩
        simp [h1, h2] at ht
      rw [if_neg h] at hl
      refine k5 ?_; refine k1 ?_
      rw [hl]
      exact Sees.of ⟨le1 rfl, le1 rfl, trivial⟩ trivial
  · refine k2 ?_; refine k2 ?_
    refine c_region ?_; refine l_neu (n_move rfl rfl) rfl ?_; refine l_neu (n_len_s rfl) rfl ?_; refine l_neu (n_gtr rfl rfl) rfl ?_; refine l_neu (n_move rfl rfl) rfl ?_; refine l_guard rfl rfl rfl rfl (fun hg => by rw [hg]; exact n_move rfl rfl) ?_; refine l_guard rfl rfl rfl rfl (fun hg => by rw [hg]; exact n_gtr rfl rfl) ?_; refine l_neu (n_pick_bool rfl (fun h => by first | rfl | (rw [h]; rfl)) (fun h => by first | rfl | (rw [h]; rfl))) rfl ?_; refine l_nil ?_
    refine k1 ?_
    refine c_cond rfl (fun ht => ?_) (fun ht => ?_)
    · have h := of_decide_eq_true (or_pick.symm.trans ht)
      refine k2 ?_
      refine c_region ?_; refine l_neu (n_assign rfl rfl) rfl ?_; refine l_nil ?_
      refine k1 ?_; refine k10 ?_; refine k11 ?_
      exact ret_ret (ret1 rfl rfl rfl) (by rw [checkOf, if_pos (by omega)])
    · have h := of_decide_eq_false (or_pick.symm.trans ht)
      refine k5 ?_; refine k1 ?_; refine k2 ?_
      refine c_region ?_; refine l_neu (n_assign rfl rfl) rfl ?_; refine l_nil ?_
      refine k1 ?_; refine k10 ?_
      exact ret_ret (ret1 rfl rfl rfl) (by rw [checkOf, if_neg (by omega)])
theorem tsplit_ok (s : Str) (hs : s.length ≤ 536870912) : FnOk Tryz.prog 107 [pStr s] (fun rs => rs = [pStrs (splitOf s).1, pInt (splitOf s).2]) := by
  have hp : linesOf s = if (partsOf s).getLastD [] = [] then (partsOf s).dropLast else partsOf s := parts_lines s []
  have hc : (partsOf s).length = s.count 10 + 1 := partsAux_count s []
  have hcl : s.count 10 ≤ s.length := List.count_le_length
  refine FnOk.intro Tryz.func107 (by decide) rfl rfl rfl rfl ?_
  refine k2 ?_
  refine c_region ?_; refine l_neu (n_assign rfl rfl) rfl ?_; refine l_neu (n_assign rfl rfl) rfl ?_; refine l_nil ?_
  refine k1 ?_; refine k2 ?_; refine k2 ?_
  refine c_region ?_; refine l_neu (n_move rfl rfl) rfl ?_; refine l_call (tcheck_ok s hs) rfl rfl rfl ?_; rintro _ rfl; refine l_neu (n_assign rfl rfl) rfl ?_; refine l_nil ?_
  refine k1 ?_; refine k2 ?_
  refine c_region ?_; refine l_neu (n_move rfl rfl) rfl ?_; refine l_neu (n_neq rfl rfl) rfl ?_; refine l_nil ?_
  refine k1 ?_
  refine c_cond rfl (fun ht => ?_) (fun ht => ?_)
  · have h : checkOf s ≠ 0 := by simpa using ht
    have h1 : s.length > 1048576 ∨ (linesOf s).length > 4096 := by
      by_cases h1 : s.length > 1048576 ∨ (linesOf s).length > 4096
      · exact h1
      · exact absurd (by rw [checkOf, if_neg h1]) h
    refine k2 ?_
    refine c_region ?_; refine l_neu (n_move rfl rfl) rfl ?_; refine l_neu (n_assign_nil _ 1 strC) rfl ?_; refine l_neu (n_assign rfl rfl) rfl ?_; refine l_nil ?_
    refine k1 ?_; refine k10 ?_; refine k11 ?_
    exact ret_ret (ret2 rfl rfl rfl rfl rfl) (by rw [splitOf, if_pos h1, checkOf, if_pos h1])
  · have h : checkOf s = 0 := by simpa using ht
    have h1 : ¬ (s.length > 1048576 ∨ (linesOf s).length > 4096) := fun h1 => by rw [checkOf, if_pos h1] at h; omega
    have hv : (partsOf s)[(partsOf s).length - 1]? = some ((partsOf s).getLastD []) := by
      rw [← List.getLast?_eq_getElem?, List.getLast?_eq_some_getLast (fun e => by rw [e] at hc; simp at hc)]
      rw [List.getLastD_eq_getLast?, List.getLast?_eq_some_getLast (fun e => by rw [e] at hc; simp at hc)]; rfl
    have hi : (((partsOf s).length : Int) - 1).toNat = (partsOf s).length - 1 := by omega
    refine k5 ?_; refine k1 ?_; refine k2 ?_
    refine c_region ?_; refine l_neu (n_move rfl rfl) rfl ?_; refine l_call (splitAfter_ok s hs) rfl rfl rfl ?_; rintro _ rfl; refine l_neu (n_assign rfl rfl) rfl ?_; refine l_nil ?_
    refine then_normal ?_
    refine c_join [(5, sList Str 1 strC (linesOf s))] [] ?_ ?_
    · refine k2 ?_
      refine c_region ?_; refine l_neu (n_move rfl rfl) rfl ?_; refine l_neu (n_move rfl rfl) rfl ?_; refine l_neu (n_len rfl (.pure _ _ _ _)) rfl ?_; refine l_neu (n_sub rfl rfl (by omega)) rfl ?_; refine l_neu (n_indexAddr rfl (.pure _ _ _ _) rfl (by omega) (by rw [hi]; exact hv)) rfl ?_; refine l_neu (n_load_eref rfl rfl) rfl ?_; refine l_neu (n_eql_s rfl rfl) rfl ?_; refine l_nil ?_
      refine k1 ?_
      refine c_cond rfl (fun ht => ?_) (fun ht => ?_)
      · have h2 := of_decide_eq_true ht
        skip
        refine c_region ?_; refine l_neu (n_move rfl rfl) rfl ?_; refine l_neu (n_move rfl rfl) rfl ?_; refine l_neu (n_len rfl (.pure _ _ _ _)) rfl ?_; refine l_neu (n_sub rfl rfl (by omega)) rfl ?_; refine l_neu (n_slice_h rfl (.pure _ _ _ _) rfl (by omega) (by omega)) rfl ?_; refine l_neu (n_assign rfl rfl) rfl ?_; refine l_nil ?_
        refine k1 ?_
        rw [hp, if_pos h2, List.dropLast_eq_take, ← hi]
        exact Sees.of ⟨le1 rfl, trivial⟩ trivial
      · have h2 := of_decide_eq_false ht
        refine k5 ?_; refine k1 ?_
        rw [hp, if_neg h2]
        exact Sees.of ⟨le1 rfl, trivial⟩ trivial
    · refine k2 ?_
      refine c_region ?_; refine l_neu (n_move rfl rfl) rfl ?_; refine l_neu (n_assign rfl rfl) rfl ?_; refine l_neu (n_assign rfl rfl) rfl ?_; refine l_nil ?_
      refine k1 ?_; refine k10 ?_
      exact ret_ret (ret2 rfl rfl rfl rfl rfl) (by rw [splitOf, if_neg h1])
theorem rsplit_ok (s : Str) (hs : s.length ≤ 536870912) : FnOk Tryz.prog 119 [pStr s] (fun rs => rs = [pStrs (splitOf s).1, pInt (splitOf s).2]) := by
  refine FnOk.intro Tryz.func119 (by decide) rfl rfl rfl rfl ?_
  refine k2 ?_
  refine c_region ?_; refine l_neu (n_assign rfl rfl) rfl ?_; refine l_neu (n_assign rfl rfl) rfl ?_; refine l_nil ?_
  refine k1 ?_; refine k2 ?_; refine k2 ?_
  refine c_region ?_; refine l_neu (n_move rfl rfl) rfl ?_; refine l_call (check_ok s (by omega)) rfl rfl rfl ?_; rintro _ rfl; refine l_neu (n_neq rfl rfl) rfl ?_; refine l_nil ?_
  refine k1 ?_
  refine c_cond rfl (fun ht => ?_) (fun ht => ?_)
  · have h : checkOf s ≠ 0 := by simpa using ht
    have h1 : s.length > 1048576 ∨ (linesOf s).length > 4096 := by
      by_cases h1 : s.length > 1048576 ∨ (linesOf s).length > 4096
      · exact h1
      · exact absurd (by rw [checkOf, if_neg h1]) h
    refine k2 ?_
    refine c_region ?_; refine l_neu (n_assign_nil _ 1 strC) rfl ?_; refine l_neu (n_assign rfl rfl) rfl ?_; refine l_nil ?_
    refine k1 ?_; refine k10 ?_; refine k11 ?_
    exact ret_ret (ret2 rfl rfl rfl rfl rfl) (by rw [splitOf, if_pos h1])
  · have h : checkOf s = 0 := by simpa using ht
    have h1 : ¬ (s.length > 1048576 ∨ (linesOf s).length > 4096) := fun h1 => by rw [checkOf, if_pos h1] at h; omega
    refine k5 ?_; refine k1 ?_; refine k2 ?_
    refine c_region ?_; refine l_neu (n_move rfl rfl) rfl ?_; refine l_call (lines_ok s (by omega)) rfl rfl rfl ?_; rintro _ rfl; refine l_neu (n_assign rfl rfl) rfl ?_; refine l_neu (n_assign rfl rfl) rfl ?_; refine l_nil ?_
    refine k1 ?_; refine k10 ?_
    exact ret_ret (ret2 rfl rfl rfl rfl rfl) (by rw [splitOf, if_neg h1])
end Go.Proofs.YtbiadkkamhpdnaaGreatDoor
namespace Go.Proofs.YtbiadkkamhpdnaaGreatDoor
open Go Go.AL
set_option maxRecDepth 100000
theorem in8_ok (n : Int) : FnOk Tryz.prog 229 [pInt n] (fun rs => rs = [pBool (decide (in81 n))]) := by
  refine FnOk.intro Tryz.func229 (by decide) rfl rfl rfl rfl ?_
  refine k2 ?_
  refine c_region ?_; refine l_neu (n_assign rfl rfl) rfl ?_; refine l_nil ?_
  refine k1 ?_; refine k2 ?_
  refine c_region ?_; refine l_neu (n_move rfl rfl) rfl ?_; refine l_neu (n_geq rfl rfl) rfl ?_; refine l_neu (n_move rfl rfl) rfl ?_; refine l_guard rfl rfl rfl rfl (fun hg => by rw [hg]; exact n_move rfl rfl) ?_; refine l_guard rfl rfl rfl rfl (fun hg => by rw [hg]; exact n_leq rfl rfl) ?_; refine l_neu (n_pick_bool rfl (fun h => by first | rfl | (rw [h]; rfl)) (fun h => by first | rfl | (rw [h]; rfl))) rfl ?_; refine l_neu (n_assign rfl rfl) rfl ?_; refine l_nil ?_
  refine k1 ?_; refine k10 ?_
  refine ret_ret (ret1 rfl rfl rfl) ?_
  simp only [and_pick]
  rfl
theorem check8_walk (l : List Change) (m n : Int) (hl : l.length ≤ 1073741824) : FnOk Tryz.prog 185 [pChanges l, pInt m, pInt n] (fun rs => rs = [pInt (check8 l m n)]) := by
  refine FnOk.intro Tryz.func185 (by decide) rfl rfl rfl rfl ?_
  refine k2 ?_
  refine c_region ?_; refine l_neu (n_assign rfl rfl) rfl ?_; refine l_nil ?_
  refine k1 ?_; refine k2 ?_; refine k2 ?_
  refine c_region ?_; refine l_neu (n_move rfl rfl) rfl ?_; refine l_call (in8_ok m) rfl rfl rfl ?_; rintro _ rfl; refine l_neu (n_not rfl) rfl ?_; refine l_neu (n_move rfl rfl) rfl ?_; refine l_guard rfl rfl rfl rfl (fun hg => by rw [hg]; exact n_move rfl rfl) ?_; refine l_guard rfl rfl rfl rfl (fun hg => by have hq := hg; (try simp at hq); rw [hg]; exact n_call1 (in8_ok n) rfl rfl) ?_; refine l_guard rfl rfl rfl rfl (fun hg => by rw [hg]; exact n_not rfl) ?_; refine l_neu (n_pick_bool rfl (fun h => by first | rfl | (rw [h]; rfl)) (fun h => by first | rfl | (rw [h]; rfl))) rfl ?_; refine l_nil ?_
  refine k1 ?_
  refine c_cond rfl (fun ht => ?_) (fun ht => ?_)
  · simp only [← decide_not, or_pick] at ht
    have h : ¬ in81 m ∨ ¬ in81 n := of_decide_eq_true ht
    refine k2 ?_
    refine c_region ?_; refine l_neu (n_assign rfl rfl) rfl ?_; refine l_nil ?_
    refine k1 ?_; refine k10 ?_; refine k11 ?_
    exact ret_ret (ret1 rfl rfl rfl) (by rw [check8, if_pos h])
  simp only [← decide_not, or_pick] at ht
  have h : ¬ (¬ in81 m ∨ ¬ in81 n) := of_decide_eq_false ht
  have hm : 0 ≤ m ∧ m ≤ 4096 := by by_cases hm : in81 m; exact hm; exact absurd (.inl hm) h
  have hn : 0 ≤ n ∧ n ≤ 4096 := by by_cases hn : in81 n; exact hn; exact absurd (.inr hn) h
  refine k5 ?_; refine k1 ?_; refine k2 ?_
  refine c_region ?_; refine l_neu (n_assign rfl rfl) rfl ?_; refine l_neu (n_assign rfl rfl) rfl ?_; refine l_nil ?_
  refine k1 ?_; refine k2 ?_; refine k2 ?_
  refine c_region ?_; refine l_neu (n_assign rfl rfl) rfl ?_; refine l_nil ?_
  refine k1 ?_; refine k3 ?_
  refine c_while (X := Nat × Int × Int) (fun x => ([(0, sList Change 4 changeC l), (1, sInt m), (2, sInt n), (7, sInt x.2.1), (8, sInt x.2.2), (9, sInt x.1)], [])) (fun x => x.1 ≤ l.length ∧ scriptGo 0 0 0 l m n = scriptGo x.1 x.2.1 x.2.2 (l.drop x.1) m n ∧ 0 ≤ x.2.1 ∧ x.2.1 ≤ 8192 ∧ 0 ≤ x.2.2 ∧ x.2.2 ≤ 8192) (fun x => l.length - x.1) (0, 0, 0) ⟨Nat.zero_le _, rfl, by decide, by decide, by decide, by decide⟩ (Sees.of ⟨le1 rfl, le1 rfl, le1 rfl, le1 rfl, le1 rfl, le1 rfl, trivial⟩ trivial) ?_
  rintro ⟨k, i, j⟩ ⟨hk, hp, hi, hi2, hj, hj2⟩
  dsimp only at hk hp hi hi2 hj hj2 ⊢
  refine k2 ?_; refine k2 ?_
  refine c_region ?_; refine l_neu (n_move rfl rfl) rfl ?_; refine l_neu (n_move rfl rfl) rfl ?_; refine l_neu (n_len rfl (.pure _ _ _ _)) rfl ?_; refine l_neu (n_lss rfl rfl) rfl ?_; refine l_nil ?_
  refine k1 ?_
  refine c_cond rfl (fun ht => ?_) (fun ht => ?_)
  · have hlt : k < l.length := by have := of_decide_eq_true ht; omega
    have hv : l[k]? = some l[k] := by simp [hlt]
    obtain ⟨c, hc⟩ : ∃ c, c = l[k] := ⟨_, rfl⟩
    rw [List.drop_eq_getElem_cons hlt, scriptGo] at hp
    rw [← hc] at hv hp
    refine k5 ?_; refine k1 ?_; refine k2 ?_; refine k3 ?_; refine k2 ?_
    refine c_region ?_; refine l_neu (n_move rfl rfl) rfl ?_; refine l_neu (n_move rfl rfl) rfl ?_; refine l_neu (n_indexAddr rfl (.pure _ _ _ _) rfl (by omega) hv) rfl ?_; refine l_neu (n_loads_eref rfl rfl) rfl ?_; refine l_effv (f_alloc 10 rfl) rfl ?_; refine l_eff (e_store_ref TySz.out rfl rfl rfl rfl rfl rfl) ?_; refine l_nil ?_
    refine k1 ?_; refine k2 ?_; refine k2 ?_
    refine c_region ?_; refine l_neu (n_field_ref rfl) rfl ?_; refine l_neu (n_load_ref rfl rfl rfl) rfl ?_; refine l_call (in8_ok c.Old) rfl rfl rfl ?_; rintro _ rfl; refine l_neu (n_not rfl) rfl ?_; refine l_neu (n_move rfl rfl) rfl ?_; refine l_guard rfl rfl rfl rfl (fun hg => by rw [hg]; exact n_field_ref rfl) ?_; refine l_guard rfl rfl rfl rfl (fun hg => by rw [hg]; exact n_load_ref rfl rfl rfl) ?_; refine l_guard rfl rfl rfl rfl (fun hg => by have hq := hg; (try simp at hq); rw [hg]; exact n_call1 (in8_ok c.OldLen) rfl rfl) ?_; refine l_guard rfl rfl rfl rfl (fun hg => by rw [hg]; exact n_not rfl) ?_; refine l_neu (n_pick_bool rfl (fun h => by first | rfl | (rw [h]; rfl)) (fun h => by first | rfl | (rw [h]; rfl))) rfl ?_; refine l_neu (n_move rfl rfl) rfl ?_; refine l_guard rfl rfl rfl rfl (fun hg => by rw [hg]; exact n_field_ref rfl) ?_; refine l_guard rfl rfl rfl rfl (fun hg => by rw [hg]; exact n_load_ref rfl rfl rfl) ?_; refine l_guard rfl rfl rfl rfl (fun hg => by have hq := hg; (try simp at hq); rw [hg]; exact n_call1 (in8_ok c.New) rfl rfl) ?_; refine l_guard rfl rfl rfl rfl (fun hg => by rw [hg]; exact n_not rfl) ?_; refine l_neu (n_pick_bool rfl (fun h => by first | rfl | (rw [h]; rfl)) (fun h => by first | rfl | (rw [h]; rfl))) rfl ?_; refine l_neu (n_move rfl rfl) rfl ?_; refine l_guard rfl rfl rfl rfl (fun hg => by rw [hg]; exact n_field_ref rfl) ?_; refine l_guard rfl rfl rfl rfl (fun hg => by rw [hg]; exact n_load_ref rfl rfl rfl) ?_; refine l_guard rfl rfl rfl rfl (fun hg => by have hq := hg; (try simp at hq); rw [hg]; exact n_call1 (in8_ok c.NewLen) rfl rfl) ?_; refine l_guard rfl rfl rfl rfl (fun hg => by rw [hg]; exact n_not rfl) ?_; refine l_neu (n_pick_bool rfl (fun h => by first | rfl | (rw [h]; rfl)) (fun h => by first | rfl | (rw [h]; rfl))) rfl ?_; refine l_neu (n_move rfl rfl) rfl ?_; refine l_guard rfl rfl rfl rfl (fun hg => by rw [hg]; exact n_field_ref rfl) ?_; refine l_guard rfl rfl rfl rfl (fun hg => by rw [hg]; exact n_load_ref rfl rfl rfl) ?_; refine l_guard rfl rfl rfl rfl (fun hg => by rw [hg]; exact n_field_ref rfl) ?_; refine l_guard rfl rfl rfl rfl (fun hg => by rw [hg]; exact n_load_ref rfl rfl rfl) ?_; refine l_guard rfl rfl rfl rfl (fun hg => by have hq := hg; (try simp at hq); simp [in81] at hq; rw [hg]; exact n_add rfl rfl (by omega)) ?_; refine l_guard rfl rfl rfl rfl (fun hg => by rw [hg]; exact n_eql rfl rfl) ?_; refine l_neu (n_pick_bool rfl (fun h => by first | rfl | (rw [h]; rfl)) (fun h => by first | rfl | (rw [h]; rfl))) rfl ?_; refine l_neu (n_move rfl rfl) rfl ?_; refine l_guard rfl rfl rfl rfl (fun hg => by rw [hg]; exact n_field_ref rfl) ?_; refine l_guard rfl rfl rfl rfl (fun hg => by rw [hg]; exact n_load_ref rfl rfl rfl) ?_; refine l_guard rfl rfl rfl rfl (fun hg => by rw [hg]; exact n_move rfl rfl) ?_; refine l_guard rfl rfl rfl rfl (fun hg => by have hq := hg; (try simp at hq); simp [in81] at hq; rw [hg]; exact n_sub rfl rfl (by omega)) ?_; refine l_guard rfl rfl rfl rfl (fun hg => by rw [hg]; exact n_field_ref rfl) ?_
    refine l_guard rfl rfl rfl rfl (fun hg => by rw [hg]; exact n_load_ref rfl rfl rfl) ?_; refine l_guard rfl rfl rfl rfl (fun hg => by rw [hg]; exact n_move rfl rfl) ?_; refine l_guard rfl rfl rfl rfl (fun hg => by have hq := hg; (try simp at hq); simp [in81] at hq; rw [hg]; exact n_sub rfl rfl (by omega)) ?_; refine l_guard rfl rfl rfl rfl (fun hg => by rw [hg]; exact n_neq rfl rfl) ?_; refine l_neu (n_pick_bool rfl (fun h => by first | rfl | (rw [h]; rfl)) (fun h => by first | rfl | (rw [h]; rfl))) rfl ?_; refine l_neu (n_move rfl rfl) rfl ?_; refine l_guard rfl rfl rfl rfl (fun hg => by rw [hg]; exact n_field_ref rfl) ?_; refine l_guard rfl rfl rfl rfl (fun hg => by rw [hg]; exact n_load_ref rfl rfl rfl) ?_; refine l_guard rfl rfl rfl rfl (fun hg => by rw [hg]; exact n_move rfl rfl) ?_; refine l_guard rfl rfl rfl rfl (fun hg => by rw [hg]; exact n_lss rfl rfl) ?_; refine l_neu (n_pick_bool rfl (fun h => by first | rfl | (rw [h]; rfl)) (fun h => by first | rfl | (rw [h]; rfl))) rfl ?_; refine l_neu (n_move rfl rfl) rfl ?_; refine l_guard rfl rfl rfl rfl (fun hg => by rw [hg]; exact n_move rfl rfl) ?_; refine l_guard rfl rfl rfl rfl (fun hg => by rw [hg]; exact n_gtr rfl rfl) ?_; refine l_guard rfl rfl rfl rfl (fun hg => by rw [hg]; exact n_move rfl rfl) ?_; refine l_guardW rfl rfl rfl (.gd (.val _)) rfl (fun hg => by obtain ⟨hg1, hg2⟩ := gd_and hg; (try rw [hg1]); (try rw [hg2]); exact n_field_ref rfl) ?_; refine l_guardW rfl rfl rfl (.gd (.val _)) rfl (fun hg => by obtain ⟨hg1, hg2⟩ := gd_and hg; (try rw [hg1]); (try rw [hg2]); exact n_load_ref rfl rfl rfl) ?_; refine l_guardW rfl rfl rfl (.gd (.val _)) rfl (fun hg => by obtain ⟨hg1, hg2⟩ := gd_and hg; (try rw [hg1]); (try rw [hg2]); exact n_move rfl rfl) ?_; refine l_guardW rfl rfl rfl (.gd (.val _)) rfl (fun hg => by obtain ⟨hg1, hg2⟩ := gd_and hg; (try rw [hg1]); (try rw [hg2]); exact n_eql rfl rfl) ?_; refine l_guard rfl rfl rfl rfl (fun hg => by rw [hg]; exact n_pick_bool rfl (fun h => by first | rfl | (rw [h]; rfl)) (fun h => by first | rfl | (rw [h]; rfl))) ?_; refine l_neu (n_pick_bool rfl (fun h => by first | rfl | (rw [h]; rfl)) (fun h => by first | rfl | (rw [h]; rfl))) rfl ?_; refine l_nil ?_
    refine k1 ?_
    refine c_cond rfl (fun ht => ?_) (fun ht => ?_)
    · simp only [← decide_not, or_pick, and_pick] at ht
      have h : badC k i j c := of_decide_eq_true ht
      refine k2 ?_
      refine c_region ?_; refine l_neu (n_assign rfl rfl) rfl ?_; refine l_nil ?_
      refine k1 ?_; refine k10 ?_; refine k11 ?_; refine k12 ?_; refine k11 ?_; refine k11 ?_; refine k12 ?_; refine k11 ?_
      exact ret_ret (ret1 rfl rfl rfl) (by rw [check8, if_neg ‹¬ (¬ in81 m ∨ ¬ in81 n)›, hp, decide_eq_false (fun hh => hh h)]; rfl)
    · simp only [← decide_not, or_pick, and_pick] at ht
      have h : ¬ badC k i j c := of_decide_eq_false ht
      have hr : (0 ≤ c.Old ∧ c.Old ≤ 4096) ∧ (0 ≤ c.OldLen ∧ c.OldLen ≤ 4096) ∧ (0 ≤ c.New ∧ c.New ≤ 4096) ∧ (0 ≤ c.NewLen ∧ c.NewLen ≤ 4096) := by
        unfold badC at h
        by_cases a1 : in81 c.Old <;> by_cases a2 : in81 c.OldLen <;> by_cases a3 : in81 c.New <;> by_cases a4 : in81 c.NewLen <;> simp [a1, a2, a3, a4] at h
        exact ⟨a1, a2, a3, a4⟩
      rw [decide_eq_true h, Bool.true_and] at hp
      refine k5 ?_; refine k1 ?_
      refine c_region_draw (by kernel_rfl) (by kernel_rfl) ?_; refine d_neu (n_field_ref rfl) rfl rfl ?_; refine d_neu (n_load_ref rfl rfl rfl) rfl rfl ?_; refine d_neu (n_field_ref rfl) rfl rfl ?_; refine d_neu (n_load_ref rfl rfl rfl) rfl rfl ?_; refine d_neu (n_add rfl rfl (by omega)) rfl rfl ?_; refine d_neu (n_field_ref rfl) rfl rfl ?_; refine d_neu (n_load_ref rfl rfl rfl) rfl rfl ?_; refine d_neu (n_field_ref rfl) rfl rfl ?_; refine d_neu (n_load_ref rfl rfl rfl) rfl rfl ?_; refine d_neu (n_add rfl rfl (by omega)) rfl rfl ?_; refine d_neu (n_assign rfl rfl) rfl rfl ?_; refine d_neu (n_assign rfl rfl) rfl rfl ?_; refine d_nil ?_
      refine k4 ?_; refine k1 ?_
      refine c_region ?_; refine l_neu (n_move rfl rfl) rfl ?_; refine l_neu (n_add rfl rfl (by omega)) rfl ?_; refine l_neu (n_assign rfl rfl) rfl ?_; refine l_nil ?_
      refine k1 ?_
      exact ⟨(k + 1, c.Old + c.OldLen, c.New + c.NewLen), ⟨by dsimp only; omega, hp, by dsimp only; omega, by dsimp only; omega, by dsimp only; omega, by dsimp only; omega⟩, by dsimp only; omega, Sees.of ⟨le1 rfl, le1 rfl, le1 rfl, le1 rfl, le1 rfl, le1 rfl, trivial⟩ trivial⟩
  · have hk' : k = l.length := by have := of_decide_eq_false ht; omega
    rw [hk', List.drop_eq_nil_of_le (Nat.le_refl _), scriptGo] at hp
    refine k6 ?_; refine k2 ?_; refine k2 ?_
    refine c_region ?_; refine l_neu (n_move rfl rfl) rfl ?_; refine l_neu (n_move rfl rfl) rfl ?_; refine l_neu (n_sub rfl rfl (by omega)) rfl ?_; refine l_neu (n_move rfl rfl) rfl ?_; refine l_neu (n_move rfl rfl) rfl ?_; refine l_neu (n_sub rfl rfl (by omega)) rfl ?_; refine l_neu (n_neq rfl rfl) rfl ?_; refine l_neu (n_move rfl rfl) rfl ?_; refine l_guard rfl rfl rfl rfl (fun hg => by rw [hg]; exact n_move rfl rfl) ?_; refine l_guard rfl rfl rfl rfl (fun hg => by rw [hg]; exact n_move rfl rfl) ?_; refine l_guard rfl rfl rfl rfl (fun hg => by rw [hg]; exact n_lss rfl rfl) ?_; refine l_neu (n_pick_bool rfl (fun h => by first | rfl | (rw [h]; rfl)) (fun h => by first | rfl | (rw [h]; rfl))) rfl ?_; refine l_nil ?_
    refine k1 ?_
    refine c_cond rfl (fun ht => ?_) (fun ht => ?_)
    · have h2 := of_decide_eq_true (or_pick.symm.trans ht)
      refine k2 ?_
      refine c_region ?_; refine l_neu (n_assign rfl rfl) rfl ?_; refine l_nil ?_
      refine k1 ?_; refine k10 ?_; refine k11 ?_
      exact ret_ret (ret1 rfl rfl rfl) (by rw [check8, if_neg h, hp, decide_eq_false (fun hh => hh h2)]; rfl)
    · have h2 := of_decide_eq_false (or_pick.symm.trans ht)
      refine k5 ?_; refine k1 ?_; refine k2 ?_
      refine c_region ?_; refine l_neu (n_assign rfl rfl) rfl ?_; refine l_nil ?_
      refine k1 ?_; refine k10 ?_
      exact ret_ret (ret1 rfl rfl rfl) (by rw [check8, if_neg h, hp, decide_eq_true h2]; rfl)
theorem group_walk (l : List Change) (m n ctx : Int) (hl : l.length ≤ 1073741824) : FnOk Tryz.prog 122 [pChanges l, pInt m, pInt n, pInt ctx] (fun rs => rs = [pHunks (groupOf l m n ctx).1, pInt (groupOf l m n ctx).2]) := by
  refine FnOk.intro Tryz.func122 (by decide) rfl rfl rfl rfl ?_
  refine k2 ?_
  refine c_region ?_; refine l_neu (n_assign rfl rfl) rfl ?_; refine l_neu (n_assign rfl rfl) rfl ?_; refine l_nil ?_
  refine k1 ?_; refine k2 ?_; refine k2 ?_
  refine c_region ?_; refine l_neu (n_move rfl rfl) rfl ?_; refine l_neu (n_lss rfl rfl) rfl ?_; refine l_neu (n_move rfl rfl) rfl ?_; refine l_guard rfl rfl rfl rfl (fun hg => by rw [hg]; exact n_move rfl rfl) ?_; refine l_guard rfl rfl rfl rfl (fun hg => by rw [hg]; exact n_gtr rfl rfl) ?_; refine l_neu (n_pick_bool rfl (fun h => by first | rfl | (rw [h]; rfl)) (fun h => by first | rfl | (rw [h]; rfl))) rfl ?_; refine l_nil ?_
  refine k1 ?_
  refine c_cond rfl (fun ht => ?_) (fun ht => ?_)
  · have h := of_decide_eq_true (or_pick.symm.trans ht)
    refine k2 ?_
    refine c_region ?_; refine l_neu (n_assign_nil _ 6 hunkC) rfl ?_; refine l_neu (n_assign rfl rfl) rfl ?_; refine l_nil ?_
    refine k1 ?_; refine k10 ?_; refine k11 ?_
    exact ret_ret (ret2 rfl rfl rfl rfl rfl) (by rw [groupOf, if_pos (by omega)])
  have h := of_decide_eq_false (or_pick.symm.trans ht)
  refine k5 ?_; refine k1 ?_; refine k2 ?_; refine k2 ?_
  refine c_region ?_; refine l_neu (n_move rfl rfl) rfl ?_; refine l_neu (n_move rfl rfl) rfl ?_; refine l_neu (n_move rfl rfl) rfl ?_; refine l_call (check8_walk l m n hl) rfl rfl rfl ?_; rintro _ rfl; refine l_neu (n_assign rfl rfl) rfl ?_; refine l_nil ?_
  refine k1 ?_; refine k2 ?_
  refine c_region ?_; refine l_neu (n_move rfl rfl) rfl ?_; refine l_neu (n_neq rfl rfl) rfl ?_; refine l_nil ?_
  refine k1 ?_
  refine c_cond rfl (fun ht => ?_) (fun ht => ?_)
  · have h1 : check8 l m n ≠ 0 := of_decide_eq_true ht
    refine k2 ?_
    refine c_region ?_; refine l_neu (n_move rfl rfl) rfl ?_; refine l_neu (n_assign_nil _ 6 hunkC) rfl ?_; refine l_neu (n_assign rfl rfl) rfl ?_; refine l_nil ?_
    refine k1 ?_; refine k10 ?_; refine k11 ?_
    exact ret_ret (ret2 rfl rfl rfl rfl rfl) (by rw [groupOf, if_neg (by omega), if_pos h1])
  have h1 : check8 l m n = 0 := by simpa using ht
  obtain ⟨hm, hn, hs⟩ := check8_ok h1
  unfold in81 at hm hn
  refine k5 ?_; refine k1 ?_; refine k2 ?_
  refine c_cut [(0, sList Change 4 changeC l), (1, sInt m), (2, sInt n), (3, sInt ctx)] [] (Sees.of ⟨le1 rfl, le1 rfl, le1 rfl, le1 rfl, trivial⟩ trivial) ?_
  refine c_region ?_; refine l_effv (f_adoptG 11 _ hunkC rfl) rfl ?_; refine l_nil ?_
  refine k1 ?_; refine k2 ?_; refine k2 ?_
  refine c_region ?_; refine l_neu (n_assign rfl rfl) rfl ?_; refine l_nil ?_
  refine k1 ?_; refine k3 ?_
  refine c_while (X := Nat) (fun k => ([(0, sList Change 4 changeC l), (1, sInt m), (3, sInt ctx), (11, .s (.one (.mut 11))), (12, sInt k)], [(11, .grow 175 Hunk 6 hunkC (groupTo l m ctx k))])) (fun k => k ≤ l.length) (fun k => l.length - k) 0 (Nat.zero_le _) (Sees.of ⟨le1 rfl, le1 rfl, le1 rfl, le1 rfl, le1 rfl, trivial⟩ ⟨rfl, trivial⟩) ?_
  intro k hk
  dsimp only at hk ⊢
  have hgl := groupTo_len l m ctx k
  refine k2 ?_; refine k2 ?_
  refine c_region ?_; refine l_neu (n_move rfl rfl) rfl ?_; refine l_neu (n_move rfl rfl) rfl ?_; refine l_neu (n_len rfl (.pure _ _ _ _)) rfl ?_; refine l_neu (n_lss rfl rfl) rfl ?_; refine l_nil ?_
  refine k1 ?_
  refine c_cond rfl (fun ht => ?_) (fun ht => ?_)
  · have hlt : k < l.length := by have := of_decide_eq_true ht; omega
    have hv : l[k]? = some (cAt l k) := cAt_get hlt
    obtain ⟨⟨g1, g2⟩, ⟨g3, g4⟩, ⟨g5, g6⟩, ⟨g7, g8⟩, g9, g10⟩ := hs.get k hlt
    refine c_skip ?_
    refine then_normal ?_
    refine c_seq ?_
    refine c_block ?_
    refine c_join [(0, sList Change 4 changeC l), (1, sInt m), (3, sInt ctx), (11, .s (.one (.mut 11))), (12, sInt k)] [(11, .grow 175 Hunk 6 hunkC (groupOpen l ctx k (groupTo l m ctx k)))] ?_ ?_
    · refine k2 ?_
      have hp1 : k ≠ 0 → l[((k : Int) - 1).toNat]? = some (cAt l (k - 1)) ∧ (0 ≤ (cAt l (k - 1)).Old ∧ (cAt l (k - 1)).Old ≤ 4096) ∧ 0 ≤ (cAt l (k - 1)).OldLen ∧ (cAt l (k - 1)).OldLen ≤ 4096 := fun hk0 => by
        have := hs.get (k - 1) (by omega)
        refine ⟨?_, this.1, this.2.1⟩
        rw [show ((k : Int) - 1).toNat = k - 1 by omega]; exact cAt_get (by omega)
      refine c_region_draw (by kernel_rfl) (by kernel_rfl) ?_; refine d_neu (n_move rfl rfl) rfl rfl ?_; refine d_neu (n_eql rfl rfl) rfl rfl ?_; refine d_neu (n_move rfl rfl) rfl rfl ?_; refine d_guard rfl rfl (fun hg => by rw [hg]; exact n_move rfl rfl) rfl rfl ?_; refine d_guard rfl rfl (fun hg => by rw [hg]; exact n_move rfl rfl) rfl rfl ?_; refine d_guard rfl rfl (fun hg => by have hq := hg; (try simp at hq); rw [hg]; exact n_indexAddr rfl (.pure _ _ _ _) rfl (by omega) hv) rfl rfl ?_; refine d_guard rfl rfl (fun hg => by rw [hg]; exact n_field_eref rfl) rfl rfl ?_; refine d_guard rfl rfl (fun hg => by rw [hg]; exact n_load_eref rfl rfl) rfl rfl ?_; refine d_guard rfl rfl (fun hg => by rw [hg]; exact n_move rfl rfl) rfl rfl ?_; refine d_guard rfl rfl (fun hg => by rw [hg]; exact n_move rfl rfl) rfl rfl ?_; refine d_guard rfl rfl (fun hg => by have hq := hg; (try simp at hq); rw [hg]; exact n_sub rfl rfl (by omega)) rfl rfl ?_; refine d_guard rfl rfl (fun hg => by have hq := hg; (try simp at hq); rw [hg]; exact n_indexAddr rfl (.pure _ _ _ _) rfl (by omega) (hp1 (by simpa using hq)).1) rfl rfl ?_; refine d_guard rfl rfl (fun hg => by rw [hg]; exact n_field_eref rfl) rfl rfl ?_; refine d_guard rfl rfl (fun hg => by rw [hg]; exact n_load_eref rfl rfl) rfl rfl ?_; refine d_guard rfl rfl (fun hg => by have hq := hg; (try simp at hq); have hp2 := hp1 (by simpa using hq); rw [hg]; exact n_sub rfl rfl (by omega)) rfl rfl ?_; refine d_guard rfl rfl (fun hg => by rw [hg]; exact n_move rfl rfl) rfl rfl ?_; refine d_guard rfl rfl (fun hg => by rw [hg]; exact n_move rfl rfl) rfl rfl ?_; refine d_guard rfl rfl (fun hg => by have hq := hg; (try simp at hq); rw [hg]; exact n_sub rfl rfl (by omega)) rfl rfl ?_; refine d_guard rfl rfl (fun hg => by have hq := hg; (try simp at hq); rw [hg]; exact n_indexAddr rfl (.pure _ _ _ _) rfl (by omega) (hp1 (by simpa using hq)).1) rfl rfl ?_; refine d_guard rfl rfl (fun hg => by rw [hg]; exact n_field_eref rfl) rfl rfl ?_; refine d_guard rfl rfl (fun hg => by rw [hg]; exact n_load_eref rfl rfl) rfl rfl ?_; refine d_guard rfl rfl (fun hg => by have hq := hg; (try simp at hq); have hp2 := hp1 (by simpa using hq); rw [hg]; exact n_sub rfl rfl (by omega)) rfl rfl ?_; refine d_guard rfl rfl (fun hg => by rw [hg]; exact n_move rfl rfl) rfl rfl ?_; refine d_guard rfl rfl (fun hg => by have hq := hg; (try simp at hq); rw [hg]; exact n_mul rfl rfl (by omega)) rfl rfl ?_; refine d_guard rfl rfl (fun hg => by rw [hg]; exact n_gtr rfl rfl) rfl rfl ?_; refine d_neu (n_pick_bool rfl (fun h => by first | rfl | (rw [h]; rfl)) (fun h => by first | rfl | (rw [h]; rfl))) rfl rfl ?_; refine d_nil ?_
      refine k1 ?_
      refine c_cond rfl (fun ht => ?_) (fun ht => ?_)
      · have h2 := of_decide_eq_true (or_pick.symm.trans ht)
        have ho : opens l ctx k := by unfold opens; omega
        have hmin : 0 ≤ minI ctx (cAt l k).Old ∧ minI ctx (cAt l k).Old ≤ (cAt l k).Old := by unfold minI; split <;> omega
        refine k2 ?_
        refine c_region ?_; refine l_neu (n_move rfl rfl) rfl ?_; refine l_neu (n_move rfl rfl) rfl ?_; refine l_neu (n_move rfl rfl) rfl ?_; refine l_neu (n_indexAddr rfl (.pure _ _ _ _) rfl (by omega) hv) rfl ?_; refine l_neu (n_field_eref rfl) rfl ?_; refine l_neu (n_load_eref rfl rfl) rfl ?_; refine l_neu (n_min rfl rfl) rfl ?_; refine l_neu (n_assign rfl rfl) rfl ?_; refine l_nil ?_
        rw [show (if (cAt l k).Old < ctx then (cAt l k).Old else ctx) = minI ctx (cAt l k).Old from rfl]
        refine k1 ?_
        refine c_region_draw (by kernel_rfl) (by kernel_rfl) ?_; refine d_neu (n_move rfl rfl) rfl rfl ?_; refine d_neu (n_move rfl rfl) rfl rfl ?_; refine d_neu (n_move rfl rfl) rfl rfl ?_; refine d_neu (n_move rfl rfl) rfl rfl ?_; refine d_neu (n_indexAddr rfl (.pure _ _ _ _) rfl (by omega) hv) rfl rfl ?_; refine d_neu (n_field_eref rfl) rfl rfl ?_; refine d_neu (n_load_eref rfl rfl) rfl rfl ?_; refine d_neu (n_move rfl rfl) rfl rfl ?_; refine d_neu (n_sub rfl rfl (by omega)) rfl rfl ?_; refine d_neu (n_build rfl) rfl rfl ?_; refine d_neu (n_move rfl rfl) rfl rfl ?_; refine d_neu (n_move rfl rfl) rfl rfl ?_; refine d_neu (n_indexAddr rfl (.pure _ _ _ _) rfl (by omega) hv) rfl rfl ?_; refine d_neu (n_field_eref rfl) rfl rfl ?_; refine d_neu (n_load_eref rfl rfl) rfl rfl ?_; refine d_neu (n_move rfl rfl) rfl rfl ?_; refine d_neu (n_sub rfl rfl (by omega)) rfl rfl ?_; refine d_neu (n_build rfl) rfl rfl ?_; refine d_neu (n_build rfl) rfl rfl ?_; refine d_neu (n_buildSlice (c := hunkC) (ys := [hunkOpen l ctx k]) (asm_cons rfl rfl rfl rfl asm_nil) rfl rfl rfl) rfl rfl ?_; refine d_effv (e_append_g rfl rfl rfl (.pure _ _ _ _) (by simp; omega) rfl) rfl rfl ?_; refine d_neu (n_assign rfl rfl) rfl rfl ?_; refine d_nil ?_
        refine k1 ?_
        rw [groupOpen, if_pos ho]
        exact Sees.of ⟨le1 rfl, le1 rfl, le1 rfl, le1 rfl, le1 rfl, trivial⟩ ⟨rfl, trivial⟩
      · have h2 := of_decide_eq_false (or_pick.symm.trans ht)
        have ho : ¬ opens l ctx k := by unfold opens; omega
        refine k5 ?_; refine k1 ?_
        rw [groupOpen, if_neg ho]
        exact Sees.of ⟨le1 rfl, le1 rfl, le1 rfl, le1 rfl, le1 rfl, trivial⟩ ⟨rfl, trivial⟩
    · obtain ⟨out, hout⟩ : ∃ out, out = groupOpen l ctx k (groupTo l m ctx k) := ⟨_, rfl⟩
      have hsucc : groupTo l m ctx (k + 1) = out.set (out.length - 1) (hunkEnd l m ctx k (out.getD (out.length - 1) hunk0)) := by rw [hout]; rfl
      have hol : 0 < out.length ∧ out.length ≤ k + 1 := by
        rw [hout, groupOpen]
        split
        · simp only [List.length_append, List.length_cons, List.length_nil]; omega
        · rename_i ho
          have : k ≠ 0 := fun e => ho (.inl e)
          omega
      rw [← hout]
      obtain ⟨h0, hh0⟩ : ∃ h0, h0 = out.getD (out.length - 1) hunk0 := ⟨_, rfl⟩
      have hvo : out[out.length - 1]? = some h0 := by rw [hh0, List.getD_eq_getElem?_getD, List.getElem?_eq_getElem (by omega)]; rfl
      rw [← hh0] at hsucc
      have hi : ((out.length : Int) - 1).toNat = out.length - 1 := by omega
      have hmin : 0 ≤ minI ctx (m - ((cAt l k).Old + (cAt l k).OldLen)) ∧ minI ctx (m - ((cAt l k).Old + (cAt l k).OldLen)) ≤ m - ((cAt l k).Old + (cAt l k).OldLen) := by unfold minI; split <;> omega
      refine k2 ?_
      refine c_region ?_; refine l_neu (n_move rfl rfl) rfl ?_; refine l_neu (n_len_g rfl rfl) rfl ?_; refine l_neu (n_sub rfl rfl (by omega)) rfl ?_; refine l_neu (n_assign rfl rfl) rfl ?_; refine l_nil ?_
      refine k1 ?_; refine k2 ?_
      refine c_region_draw (by kernel_rfl) (by kernel_rfl) ?_; refine d_neu (n_move rfl rfl) rfl rfl ?_; refine d_neu (n_move rfl rfl) rfl rfl ?_; refine d_neu (n_indexAddr rfl (.pure _ _ _ _) rfl (by omega) hv) rfl rfl ?_; refine d_neu (n_field_eref rfl) rfl rfl ?_; refine d_neu (n_load_eref rfl rfl) rfl rfl ?_; refine d_neu (n_move rfl rfl) rfl rfl ?_; refine d_neu (n_move rfl rfl) rfl rfl ?_; refine d_neu (n_indexAddr rfl (.pure _ _ _ _) rfl (by omega) hv) rfl rfl ?_; refine d_neu (n_field_eref rfl) rfl rfl ?_; refine d_neu (n_load_eref rfl rfl) rfl rfl ?_; refine d_neu (n_add rfl rfl (by omega)) rfl rfl ?_; refine d_neu (n_move rfl rfl) rfl rfl ?_; refine d_neu (n_move rfl rfl) rfl rfl ?_; refine d_neu (n_indexAddr rfl (.pure _ _ _ _) rfl (by omega) hv) rfl rfl ?_; refine d_neu (n_field_eref rfl) rfl rfl ?_; refine d_neu (n_load_eref rfl rfl) rfl rfl ?_; refine d_neu (n_move rfl rfl) rfl rfl ?_; refine d_neu (n_move rfl rfl) rfl rfl ?_; refine d_neu (n_indexAddr rfl (.pure _ _ _ _) rfl (by omega) hv) rfl rfl ?_; refine d_neu (n_field_eref rfl) rfl rfl ?_; refine d_neu (n_load_eref rfl rfl) rfl rfl ?_; refine d_neu (n_add rfl rfl (by omega)) rfl rfl ?_; refine d_neu (n_assign rfl rfl) rfl rfl ?_; refine d_neu (n_assign rfl rfl) rfl rfl ?_; refine d_nil ?_
      refine k1 ?_; refine k2 ?_
      refine c_region ?_; refine l_neu (n_move rfl rfl) rfl ?_; refine l_neu (n_move rfl rfl) rfl ?_; refine l_neu (n_move rfl rfl) rfl ?_; refine l_neu (n_sub rfl rfl (by omega)) rfl ?_; refine l_neu (n_min rfl rfl) rfl ?_; refine l_neu (n_assign rfl rfl) rfl ?_; refine l_nil ?_
      refine k1 ?_; refine k2 ?_
      rw [show (if m - ((cAt l k).Old + (cAt l k).OldLen) < ctx then m - ((cAt l k).Old + (cAt l k).OldLen) else ctx) = minI ctx (m - ((cAt l k).Old + (cAt l k).OldLen)) from rfl]
      refine c_region ?_; refine l_neu (n_move rfl rfl) rfl ?_; refine l_neu (n_move rfl rfl) rfl ?_; refine l_neu (n_move rfl rfl) rfl ?_; refine l_neu (n_add rfl rfl (by omega)) rfl ?_; refine l_neu (n_indexAddr_g rfl rfl rfl (by omega) (by omega)) rfl ?_; refine l_neu (n_field_mref rfl) rfl ?_; refine l_eff (e_store_g (({ h0 with Last := (k : Int) + 1 } : Hunk)) TySz.out rfl rfl (by rw [hi]; exact hvo) rfl rfl rfl rfl (fun _ _ _ h => all2_unp h) (by intro j h1 h2; rcases j with _ | _ | _ | _ | _ | _ | _ | j <;> first | rfl | omega)) ?_; refine l_nil ?_
      rw [hi]
      refine k1 ?_; refine k2 ?_
      have hv2 : (out.set (out.length - 1) { h0 with Last := (k : Int) + 1 })[out.length - 1]? = some { h0 with Last := (k : Int) + 1 } := List.getElem?_set_self (by omega)
      obtain ⟨h2, hh2⟩ : ∃ h2 : Hunk, h2 = { h0 with Last := (k : Int) + 1 } := ⟨_, rfl⟩
      rw [← hh2] at hv2 ⊢
      obtain ⟨out2, ho2⟩ : ∃ out2, out2 = out.set (out.length - 1) h2 := ⟨_, rfl⟩
      have hol2 : out2.length = out.length := by rw [ho2]; simp
      rw [← ho2] at hv2 ⊢
      refine c_region ?_; refine l_neu (n_move rfl rfl) rfl ?_; refine l_neu (n_move rfl rfl) rfl ?_; refine l_neu (n_move rfl rfl) rfl ?_; refine l_neu (n_move rfl rfl) rfl ?_; refine l_neu (n_add rfl rfl (by omega)) rfl ?_; refine l_neu (n_indexAddr_g rfl rfl rfl (by omega) (by (simp only [hol2]; omega))) rfl ?_; refine l_neu (n_field_mref rfl) rfl ?_; refine l_neu (n_field_mref rfl) rfl ?_; refine l_eff (e_store_g (({ h2 with Old := ⟨h2.Old.From, (cAt l k).Old + (cAt l k).OldLen + minI ctx (m - ((cAt l k).Old + (cAt l k).OldLen))⟩ } : Hunk)) TySz.out rfl rfl (by rw [hi]; exact hv2) rfl rfl rfl rfl (fun _ _ _ h => all2_unp h) (by intro j h1 h2; rcases j with _ | _ | _ | _ | _ | _ | _ | j <;> first | rfl | omega)) ?_; refine l_nil ?_
      rw [hi]
      refine k1 ?_
      obtain ⟨h3, hh3⟩ : ∃ h3 : Hunk, h3 = { h2 with Old := ⟨h2.Old.From, (cAt l k).Old + (cAt l k).OldLen + minI ctx (m - ((cAt l k).Old + (cAt l k).OldLen))⟩ } := ⟨_, rfl⟩
      have hv3 : (out2.set (out.length - 1) h3)[out.length - 1]? = some h3 := List.getElem?_set_self (by omega)
      rw [← hh3]
      obtain ⟨out3, ho3⟩ : ∃ out3, out3 = out2.set (out.length - 1) h3 := ⟨_, rfl⟩
      have hol3 : out3.length = out.length := by rw [ho3]; simp [hol2]
      rw [← ho3] at hv3 ⊢
      refine c_region ?_; refine l_neu (n_move rfl rfl) rfl ?_; refine l_neu (n_move rfl rfl) rfl ?_; refine l_neu (n_move rfl rfl) rfl ?_; refine l_neu (n_move rfl rfl) rfl ?_; refine l_neu (n_add rfl rfl (by omega)) rfl ?_; refine l_neu (n_indexAddr_g rfl rfl rfl (by omega) (by (simp only [hol3]; omega))) rfl ?_; refine l_neu (n_field_mref rfl) rfl ?_; refine l_neu (n_field_mref rfl) rfl ?_; refine l_eff (e_store_g (({ h3 with New := ⟨h3.New.From, (cAt l k).New + (cAt l k).NewLen + minI ctx (m - ((cAt l k).Old + (cAt l k).OldLen))⟩ } : Hunk)) TySz.out rfl rfl (by rw [hi]; exact hv3) rfl rfl rfl rfl (fun _ _ _ h => all2_unp h) (by intro j h1 h2; rcases j with _ | _ | _ | _ | _ | _ | _ | j <;> first | rfl | omega)) ?_; refine l_nil ?_
      rw [hi]
      have hfin : out3.set (out.length - 1) { h3 with New := ⟨h3.New.From, (cAt l k).New + (cAt l k).NewLen + minI ctx (m - ((cAt l k).Old + (cAt l k).OldLen))⟩ } = groupTo l m ctx (k + 1) := by
        rw [hsucc, ho3, ho2, List.set_set, List.set_set, hh3, hh2]; rfl
      rw [hfin]
      refine k4 ?_; refine k1 ?_
      refine c_region ?_; refine l_neu (n_move rfl rfl) rfl ?_; refine l_neu (n_add rfl rfl (by omega)) rfl ?_; refine l_neu (n_assign rfl rfl) rfl ?_; refine l_nil ?_
      refine k1 ?_
      exact ⟨k + 1, by omega, by omega, Sees.of ⟨le1 rfl, le1 rfl, le1 rfl, le1 rfl, le1 rfl, trivial⟩ ⟨rfl, trivial⟩⟩
  · have hk' : k = l.length := by have := of_decide_eq_false ht; omega
    subst hk'
    refine k6 ?_; refine k2 ?_
    refine c_sees (Sees.growBuf (t := 11) (k := 11) rfl rfl rfl) ?_
    refine c_region ?_; refine l_neu (n_move rfl rfl) rfl ?_; refine l_neu (n_assign rfl rfl) rfl ?_; refine l_neu (n_assign rfl rfl) rfl ?_; refine l_nil ?_
    refine k1 ?_; refine k10 ?_
    exact ret_ret (ret2 rfl rfl rfl rfl rfl) (by rw [groupOf, if_neg (by omega), if_neg (by rw [h1]; decide)])
theorem rlines9_ok (a b : List Str) (ha : a.length ≤ 4096) (hb : b.length ≤ 4096) : FnOk Tryz.prog 120 [pStrs a, pStrs b] (fun rs => rs = [pChanges (walkOf (idsOf (namesOf [a, b]) a) (idsOf (namesOf [a, b]) b))]) := by
  have h1 : (idsOf (namesOf [a, b]) a).length = a.length := by simp [idsOf]
  have h2 : (idsOf (namesOf [a, b]) b).length = b.length := by simp [idsOf]
  refine FnOk.intro Tryz.func120 (by decide) rfl rfl rfl rfl ?_
  refine k2 ?_
  refine c_region ?_; refine l_neu (n_assign rfl rfl) rfl ?_; refine l_nil ?_
  refine k1 ?_; refine k2 ?_
  refine c_region ?_; refine l_neu (n_move rfl rfl) rfl ?_; refine l_neu (n_move rfl rfl) rfl ?_; refine l_neu (n_buildSlice (c := strsC) (ys := [a, b]) (asm_cons rfl rfl rfl rfl (asm_cons rfl rfl rfl rfl asm_nil)) rfl rfl rfl) rfl ?_; refine l_call (ids_ok [a, b] (by simp; omega) (by simp)) rfl rfl rfl ?_; rintro _ rfl; refine l_neu (n_assign rfl rfl) rfl ?_; refine l_nil ?_
  refine k1 ?_; refine k2 ?_
  refine c_region_draw (by kernel_rfl) (by kernel_rfl) ?_; refine d_neu (n_move rfl rfl) rfl rfl ?_; refine d_neu (n_indexAddr rfl (.pure _ _ _ _) rfl (by omega) rfl) rfl rfl ?_; refine d_neu (n_load_eref rfl rfl) rfl rfl ?_; refine d_neu (n_move rfl rfl) rfl rfl ?_; refine d_neu (n_indexAddr rfl (.pure _ _ _ _) rfl (by omega) rfl) rfl rfl ?_; refine d_neu (n_load_eref rfl rfl) rfl rfl ?_; refine d_neu (n_call1 (walk_ok _ _ (by omega) (by omega)) rfl rfl) rfl rfl ?_; refine d_neu (n_assign rfl rfl) rfl rfl ?_; refine d_nil ?_
  refine k1 ?_; refine k10 ?_
  exact ret_ret (ret1 rfl rfl rfl) rfl
end Go.Proofs.YtbiadkkamhpdnaaGreatDoor
namespace Go.Proofs.YtbiadkkamhpdnaaGreatDoor
open Go Go.AL
set_option maxRecDepth 100000
theorem kind_ne (a b : UInt8) : decide ((a.toNat : Int) ≠ (b.toNat : Int)) = decide (a ≠ b) := by
  by_cases h : a = b
  · subst h; simp
  · have : (a.toNat : Int) ≠ (b.toNat : Int) := fun e => h (UInt8.toNat_inj.1 (by omega))
    rw [decide_eq_true this, decide_eq_true h]
theorem rname_ok (s : Str) : FnOk Tryz.prog 82 [pStr s] (fun rs => rs = [pBool (nameOk s)]) := by
  refine FnOk.intro Tryz.func82 (by decide) rfl rfl rfl rfl ?_
  refine k2 ?_
  refine c_region ?_; refine l_neu (n_assign rfl rfl) rfl ?_; refine l_nil ?_
  refine k1 ?_; refine k2 ?_
  refine c_region ?_; refine l_neu (n_move rfl rfl) rfl ?_; refine l_neu (n_len_s rfl) rfl ?_; refine l_neu (n_geq rfl rfl) rfl ?_; refine l_neu (n_move rfl rfl) rfl ?_; refine l_guard rfl rfl rfl rfl (fun hg => by rw [hg]; exact n_move rfl rfl) ?_; refine l_guard rfl rfl rfl rfl (fun hg => by rw [hg]; exact n_len_s rfl) ?_; refine l_guard rfl rfl rfl rfl (fun hg => by rw [hg]; exact n_leq rfl rfl) ?_; refine l_neu (n_pick_bool rfl (fun h => by first | rfl | (rw [h]; rfl)) (fun h => by first | rfl | (rw [h]; rfl))) rfl ?_; refine l_neu (n_assign rfl rfl) rfl ?_; refine l_nil ?_
  refine k1 ?_; refine k10 ?_
  refine ret_ret (ret1 rfl rfl rfl) ?_
  simp only [and_pick]
  congr 4
  unfold nameOk
  congr 1
  apply propext
  omega
theorem rlines12_ok (h : PatchHunk) (k : UInt8) (hl : h.Lines.length ≤ 268435456) : FnOk Tryz.prog 71 [pPhunk h, pByte k] (fun rs => rs = [pStrs (linesNot h.Lines k)]) := by
  obtain ⟨ls, hls⟩ : ∃ ls, ls = h.Lines := ⟨_, rfl⟩
  refine FnOk.intro Tryz.func71 (by decide) rfl rfl rfl rfl ?_
  refine k2 ?_
  refine c_region ?_; refine l_effv (f_box 2 rfl rfl rfl) rfl ?_; refine l_neu (n_assign rfl rfl) rfl ?_; refine l_nil ?_
  refine k1 ?_; refine k2 ?_
  refine c_region ?_; refine l_effv (f_adopt 5 _ strC rfl) rfl ?_; refine l_nil ?_
  refine k1 ?_; refine k2 ?_; refine k2 ?_
  refine c_region ?_; refine l_neu (n_assign rfl rfl) rfl ?_; refine l_nil ?_
  refine k1 ?_; refine k3 ?_
  refine c_while (X := Nat) (fun i => ([(1, .s (pByte k).s1), (2, .s (.one (.ref 2 0))), (5, .s (.one (.buf 5 Str 1 strC (linesNot (h.Lines.take i) k)))), (6, sInt i)], [(2, .box (pPhunk h).s1.cells), (5, .spare (linesNot (h.Lines.take i) k).length 1 9)])) (fun i => i ≤ h.Lines.length) (fun i => h.Lines.length - i) 0 (Nat.zero_le _) (Sees.of ⟨le1 rfl, le1 rfl, le1 rfl, le1 rfl, trivial⟩ ⟨rfl, rfl, trivial⟩) ?_
  intro i hi
  dsimp only at hi ⊢
  have hlen := linesNot_len (h.Lines.take i) k
  rw [List.length_take] at hlen
  refine k2 ?_; refine k2 ?_
  refine c_region ?_; refine l_neu (n_move rfl rfl) rfl ?_; refine l_neu (n_field_ref rfl) rfl ?_; refine l_neu (n_load_ref rfl rfl rfl) rfl ?_; refine l_neu (n_len rfl (.pure _ _ _ _)) rfl ?_; refine l_neu (n_lss rfl rfl) rfl ?_; refine l_nil ?_
  refine k1 ?_
  refine c_cond rfl (fun ht => ?_) (fun ht => ?_)
  · have hlt : i < h.Lines.length := by have := of_decide_eq_true ht; omega
    have hv : h.Lines[i]? = some h.Lines[i] := by simp [hlt]
    have hsucc := linesNot_succ h.Lines k i hlt
    obtain ⟨x, hx⟩ : ∃ x, x = h.Lines[i] := ⟨_, rfl⟩
    rw [← hx] at hv hsucc
    refine k5 ?_; refine k1 ?_; refine k2 ?_; refine k3 ?_; refine k2 ?_
    refine c_region ?_; refine l_neu (n_field_ref rfl) rfl ?_; refine l_neu (n_load_ref rfl rfl rfl) rfl ?_; refine l_neu (n_move rfl rfl) rfl ?_; refine l_neu (n_indexAddr rfl (.pure _ _ _ _) rfl (by omega) hv) rfl ?_; refine l_neu (n_field_eref rfl) rfl ?_; refine l_neu (n_load_eref rfl rfl) rfl ?_; refine l_neu (n_move rfl rfl) rfl ?_; refine l_neu (n_neq rfl rfl) rfl ?_; refine l_nil ?_
    refine k1 ?_
    refine c_cond rfl (fun ht => ?_) (fun ht => ?_)
    · have h1 : x.Kind ≠ k := of_decide_eq_true ((kind_ne _ _).symm.trans ht)
      rw [if_pos h1] at hsucc
      skip
      refine c_region ?_; refine l_neu (n_move rfl rfl) rfl ?_; refine l_neu (n_field_ref rfl) rfl ?_; refine l_neu (n_load_ref rfl rfl rfl) rfl ?_; refine l_neu (n_move rfl rfl) rfl ?_; refine l_neu (n_indexAddr rfl (.pure _ _ _ _) rfl (by omega) hv) rfl ?_; refine l_neu (n_field_eref rfl) rfl ?_; refine l_neu (n_load_eref rfl rfl) rfl ?_; refine l_neu (n_buildSlice (c := strC) (ys := [_]) (asm_cons rfl rfl rfl rfl asm_nil) rfl rfl rfl) rfl ?_; refine l_effv (e_append rfl rfl rfl (.pure _ _ _ _) (by simp; omega) rfl) rfl ?_; refine l_neu (n_assign rfl rfl) rfl ?_; refine l_nil ?_
      refine k4 ?_; refine k1 ?_
      refine c_region ?_; refine l_neu (n_move rfl rfl) rfl ?_; refine l_neu (n_add rfl rfl (by omega)) rfl ?_; refine l_neu (n_assign rfl rfl) rfl ?_; refine l_nil ?_
      refine k1 ?_
      refine ⟨i + 1, by omega, by omega, ?_⟩
      rw [hsucc]
      exact Sees.of ⟨le1 rfl, le1 rfl, le1 rfl, le1 rfl, trivial⟩ ⟨rfl, rfl, trivial⟩
    · have h1 : ¬ x.Kind ≠ k := of_decide_eq_false ((kind_ne _ _).symm.trans ht)
      rw [if_neg h1] at hsucc
      refine k5 ?_; refine k4 ?_; refine k1 ?_
      refine c_region ?_; refine l_neu (n_move rfl rfl) rfl ?_; refine l_neu (n_add rfl rfl (by omega)) rfl ?_; refine l_neu (n_assign rfl rfl) rfl ?_; refine l_nil ?_
      refine k1 ?_
      refine ⟨i + 1, by omega, by omega, ?_⟩
      rw [hsucc]
      exact Sees.of ⟨le1 rfl, le1 rfl, le1 rfl, le1 rfl, trivial⟩ ⟨rfl, rfl, trivial⟩
  · have hi' : i = h.Lines.length := by have := of_decide_eq_false ht; omega
    subst hi'
    refine k6 ?_; refine k2 ?_
    refine c_region ?_; refine l_neu (n_move rfl rfl) rfl ?_; refine l_neu (n_assign rfl rfl) rfl ?_; refine l_nil ?_
    refine k1 ?_; refine k10 ?_
    exact ret_ret (ret1 rfl rfl rfl) (by rw [List.take_length])
theorem rside_ok (p : Patch) (k : UInt8) (hp : szP p.Hunks ≤ 268435456) : FnOk Tryz.prog 143 [pPatch p, pByte k] (fun rs => rs = [pBool (sideOk p.Hunks k)]) := by
  have hsl := szP_len p.Hunks
  refine FnOk.intro Tryz.func143 (by decide) rfl rfl rfl rfl ?_
  refine k2 ?_
  refine c_region ?_; refine l_effv (f_box 2 rfl rfl rfl) rfl ?_; refine l_neu (n_assign rfl rfl) rfl ?_; refine l_nil ?_
  refine k1 ?_; refine k2 ?_
  refine c_region ?_; refine l_effv (f_adopt 5 _ strC rfl) rfl ?_; refine l_nil ?_
  refine k1 ?_; refine k2 ?_; refine k2 ?_
  refine c_region ?_; refine l_neu (n_assign rfl rfl) rfl ?_; refine l_nil ?_
  refine k1 ?_; refine k3 ?_
  refine c_while (X := Nat) (fun i => ([(1, .s (pByte k).s1), (2, .s (.one (.ref 2 0))), (5, .s (.one (.buf 5 Str 1 strC (sideLines (p.Hunks.take i) k)))), (6, sInt i)], [(2, .box (pPatch p).s1.cells), (5, .spare (sideLines (p.Hunks.take i) k).length 1 9)])) (fun i => i ≤ p.Hunks.length) (fun i => p.Hunks.length - i) 0 (Nat.zero_le _) (Sees.of ⟨le1 rfl, le1 rfl, le1 rfl, le1 rfl, trivial⟩ ⟨rfl, rfl, trivial⟩) ?_
  intro i hi
  dsimp only at hi ⊢
  have hlen := sideLines_len (p.Hunks.take i) k
  have hle := szP_take p.Hunks i
  refine k2 ?_; refine k2 ?_
  refine c_region ?_; refine l_neu (n_move rfl rfl) rfl ?_; refine l_neu (n_field_ref rfl) rfl ?_; refine l_neu (n_load_ref rfl rfl rfl) rfl ?_; refine l_neu (n_len rfl (.pure _ _ _ _)) rfl ?_; refine l_neu (n_lss rfl rfl) rfl ?_; refine l_nil ?_
  refine k1 ?_
  refine c_cond rfl (fun ht => ?_) (fun ht => ?_)
  · have hlt : i < p.Hunks.length := by have := of_decide_eq_true ht; omega
    have hv : p.Hunks[i]? = some p.Hunks[i] := by simp [hlt]
    have hsucc := sideLines_succ p.Hunks k i hlt
    have hmem : p.Hunks[i] ∈ p.Hunks := List.getElem_mem hlt
    obtain ⟨h, hx⟩ : ∃ x, x = p.Hunks[i] := ⟨_, rfl⟩
    rw [← hx] at hv hsucc hmem
    have h1 := szP_mem hmem
    have h2 := linesNot_len h.Lines k
    have h3 := szL_len h.Lines
    unfold szH at h1
    refine k5 ?_; refine k1 ?_; refine k2 ?_; refine k3 ?_
    refine c_region ?_; refine l_neu (n_move rfl rfl) rfl ?_; refine l_neu (n_field_ref rfl) rfl ?_; refine l_neu (n_load_ref rfl rfl rfl) rfl ?_; refine l_neu (n_move rfl rfl) rfl ?_; refine l_neu (n_indexAddr rfl (.pure _ _ _ _) rfl (by omega) hv) rfl ?_; refine l_neu (n_loads_eref rfl rfl) rfl ?_; refine l_neu (n_move rfl rfl) rfl ?_; refine l_call (rlines12_ok h k (by omega)) rfl rfl rfl ?_; rintro _ rfl; refine l_effv (e_append rfl rfl rfl (.pure _ _ _ _) (by omega) rfl) rfl ?_; refine l_neu (n_assign rfl rfl) rfl ?_; refine l_nil ?_
    refine k4 ?_; refine k1 ?_
    refine c_region ?_; refine l_neu (n_move rfl rfl) rfl ?_; refine l_neu (n_add rfl rfl (by omega)) rfl ?_; refine l_neu (n_assign rfl rfl) rfl ?_; refine l_nil ?_
    refine k1 ?_
    refine ⟨i + 1, by omega, by omega, ?_⟩
    rw [hsucc]
    exact Sees.of ⟨le1 rfl, le1 rfl, le1 rfl, le1 rfl, trivial⟩ ⟨rfl, rfl, trivial⟩
  · have hi' : i = p.Hunks.length := by have := of_decide_eq_false ht; omega
    subst hi'
    rw [List.take_length] at hlen ⊢
    obtain ⟨all, hall⟩ : ∃ all, all = sideLines p.Hunks k := ⟨_, rfl⟩
    have hmem : ∀ s ∈ all, s.length ≤ szP p.Hunks := fun s hs => sideLines_mem (k := k) (by rw [← hall]; exact hs)
    rw [sideOk, ← hall]
    rw [← hall] at hlen
    refine k6 ?_; refine k2 ?_; refine k2 ?_
    refine c_region ?_; refine l_neu (n_assign rfl rfl) rfl ?_; refine l_nil ?_
    refine k1 ?_; refine k3 ?_
    refine c_while (X := Nat) (fun i => ([(5, sList Str 1 strC all), (7, sInt i)], [])) (fun i => i ≤ all.length + 1 ∧ endedBut all = endedBut (all.drop i)) (fun i => all.length + 1 - i) 0 ⟨Nat.zero_le _, rfl⟩ (Sees.of ⟨leL rfl, le1 rfl, trivial⟩ trivial) ?_
    rintro i ⟨hi, he⟩
    dsimp only at hi he ⊢
    refine k2 ?_; refine k2 ?_
    refine c_region ?_; refine l_neu (n_move rfl rfl) rfl ?_; refine l_neu (n_add rfl rfl (by omega)) rfl ?_; refine l_neu (n_move rfl rfl) rfl ?_; refine l_neu (n_len rfl (.pure _ _ _ _)) rfl ?_; refine l_neu (n_lss rfl rfl) rfl ?_; refine l_nil ?_
    refine k1 ?_
    refine c_cond rfl (fun ht => ?_) (fun ht => ?_)
    · have hlt : i + 1 < all.length := by have := of_decide_eq_true ht; omega
      have hv : all[i]? = some all[i] := by simp
      have h1 := hmem all[i] (List.getElem_mem _)
      rw [endedBut_drop all i hlt] at he
      refine k5 ?_; refine k1 ?_; refine k2 ?_; refine k3 ?_; refine k2 ?_
      refine c_region ?_; refine l_neu (n_move rfl rfl) rfl ?_; refine l_neu (n_move rfl rfl) rfl ?_; refine l_neu (n_indexAddr rfl (.pure _ _ _ _) rfl (by omega) hv) rfl ?_; refine l_neu (n_load_eref rfl rfl) rfl ?_; refine l_call (ended_ok all[i] (by omega)) rfl rfl rfl ?_; rintro _ rfl; refine l_neu (n_not rfl) rfl ?_; refine l_nil ?_
      refine k1 ?_
      refine c_cond rfl (fun ht => ?_) (fun ht => ?_)
      · have h2 : ended all[i] = false := by simpa using ht
        rw [h2] at he
        refine k2 ?_
        refine c_region ?_; refine l_neu (n_assign rfl rfl) rfl ?_; refine l_nil ?_
        refine k1 ?_; refine k10 ?_; refine k12 ?_; refine k11 ?_; refine k11 ?_; refine k12 ?_; refine k11 ?_
        exact ret_ret (ret1 rfl rfl rfl) (by rw [he]; rfl)
      · have h2 : ended all[i] = true := by simpa using ht
        rw [h2, Bool.true_and] at he
        refine k5 ?_; refine k4 ?_; refine k1 ?_
        refine c_region ?_; refine l_neu (n_move rfl rfl) rfl ?_; refine l_neu (n_add rfl rfl (by omega)) rfl ?_; refine l_neu (n_assign rfl rfl) rfl ?_; refine l_nil ?_
        refine k1 ?_
        exact ⟨i + 1, ⟨by omega, he⟩, by omega, Sees.of ⟨le1 rfl, le1 rfl, trivial⟩ trivial⟩
    · have hge : all.length ≤ i + 1 := by have := of_decide_eq_false ht; omega
      rw [endedBut_last all i hge] at he
      refine k6 ?_; refine k2 ?_
      refine c_region ?_; refine l_neu (n_assign rfl rfl) rfl ?_; refine l_nil ?_
      refine k1 ?_; refine k10 ?_
      exact ret_ret (ret1 rfl rfl rfl) (by rw [he])
theorem kn32 (c : UInt8) : decide ((c.toNat : Int) ≠ 32) = decide (c ≠ 32) := kind_ne c 32
theorem kn45 (c : UInt8) : decide ((c.toNat : Int) ≠ 45) = decide (c ≠ 45) := kind_ne c 45
theorem kn43 (c : UInt8) : decide ((c.toNat : Int) ≠ 43) = decide (c ≠ 43) := kind_ne c 43
theorem notB (b : Bool) : (!b) = decide (b = false) := by cases b <;> rfl
theorem someCh_succ (ls : List PatchLine) (n : Nat) (h : n < ls.length) : someCh (ls.take (n + 1)) = (if someCh (ls.take n) = true then true else decide (ls[n].Kind ≠ 32)) := by
  unfold someCh
  rw [List.take_succ_eq_append_getElem h, List.any_append]
  cases (ls.take n).any _ <;> simp
theorem rgood_ok (p : Patch) (hp : szP p.Hunks ≤ 268435456) : FnOk Tryz.prog 83 [pPatch p] (fun rs => rs = [pBool (goodOf p.Hunks)]) := by
  have hsl := szP_len p.Hunks
  refine FnOk.intro Tryz.func83 (by decide) rfl rfl rfl rfl ?_
  refine k2 ?_
  refine c_region ?_; refine l_effv (f_box 1 rfl rfl rfl) rfl ?_; refine l_neu (n_assign rfl rfl) rfl ?_; refine l_nil ?_
  refine k1 ?_; refine k2 ?_
  refine c_region ?_; refine l_neu (n_assign rfl rfl) rfl ?_; refine l_neu (n_assign rfl rfl) rfl ?_; refine l_nil ?_
  refine k1 ?_; refine k2 ?_; refine k2 ?_
  refine c_region ?_; refine l_neu (n_assign rfl rfl) rfl ?_; refine l_nil ?_
  refine k1 ?_; refine k3 ?_
  refine c_while (X := Nat × Int × Int) (fun x => ([(1, .s (.one (.ref 1 0))), (3, sInt x.2.1), (4, sInt x.2.2), (5, sInt x.1)], [(1, .box (pPatch p).s1.cells)])) (fun x => x.1 ≤ p.Hunks.length ∧ goodGo 0 0 p.Hunks = goodGo x.2.1 x.2.2 (p.Hunks.drop x.1) ∧ 0 ≤ x.2.1 ∧ x.2.1 ≤ 4096 ∧ 0 ≤ x.2.2 ∧ x.2.2 ≤ 4096) (fun x => p.Hunks.length - x.1) (0, 0, 0) ⟨Nat.zero_le _, rfl, by decide, by decide, by decide, by decide⟩ (Sees.of ⟨le1 rfl, le1 rfl, le1 rfl, le1 rfl, trivial⟩ ⟨rfl, trivial⟩) ?_
  rintro ⟨k, i, j⟩ ⟨hk, hg, hi, hi2, hj, hj2⟩
  dsimp only at hk hg hi hi2 hj hj2 ⊢
  refine k2 ?_; refine k2 ?_
  refine c_region ?_; refine l_neu (n_move rfl rfl) rfl ?_; refine l_neu (n_field_ref rfl) rfl ?_; refine l_neu (n_load_ref rfl rfl rfl) rfl ?_; refine l_neu (n_len rfl (.pure _ _ _ _)) rfl ?_; refine l_neu (n_lss rfl rfl) rfl ?_; refine l_nil ?_
  refine k1 ?_
  refine c_cond rfl (fun ht => ?_) (fun ht => ?_)
  · have hlt : k < p.Hunks.length := by have := of_decide_eq_true ht; omega
    have hv : p.Hunks[k]? = some p.Hunks[k] := by simp [hlt]
    have hmem : p.Hunks[k] ∈ p.Hunks := List.getElem_mem hlt
    rw [List.drop_eq_getElem_cons hlt, goodGo] at hg
    obtain ⟨h, hx⟩ : ∃ x, x = p.Hunks[k] := ⟨_, rfl⟩
    rw [← hx] at hv hmem hg
    have h1 := szP_mem hmem
    have h3 := szL_len h.Lines
    have ho := linesNot_len h.Lines 43
    have hn := linesNot_len h.Lines 45
    unfold szH at h1
    refine k5 ?_; refine k1 ?_; refine k2 ?_; refine k3 ?_; refine k2 ?_
    refine c_region ?_; refine l_neu (n_field_ref rfl) rfl ?_; refine l_neu (n_load_ref rfl rfl rfl) rfl ?_; refine l_neu (n_move rfl rfl) rfl ?_; refine l_neu (n_indexAddr rfl (.pure _ _ _ _) rfl (by omega) hv) rfl ?_; refine l_neu (n_loads_eref rfl rfl) rfl ?_; refine l_effv (f_alloc 6 rfl) rfl ?_; refine l_eff (e_store_ref TySz.out rfl rfl rfl rfl rfl rfl) ?_; refine l_nil ?_
    refine k1 ?_; refine k2 ?_
    refine c_region ?_; refine l_neu (n_assign rfl rfl) rfl ?_; refine l_nil ?_
    refine k1 ?_; refine k2 ?_; refine k2 ?_
    refine c_region ?_; refine l_neu (n_assign rfl rfl) rfl ?_; refine l_nil ?_
    refine k1 ?_; refine k3 ?_
    refine c_while (X := Nat) (fun n => ([(1, .s (.one (.ref 1 0))), (3, sInt i), (4, sInt j), (5, sInt k), (6, .s (.one (.ref 6 0))), (7, sVal (.bool (someCh (h.Lines.take n)))), (8, sInt n)], [(1, .box (pPatch p).s1.cells), (6, .box (pPhunk h).s1.cells)])) (fun n => n ≤ h.Lines.length ∧ h.Lines.all goodLn = (h.Lines.drop n).all goodLn) (fun n => h.Lines.length - n) 0 ⟨Nat.zero_le _, rfl⟩ (Sees.of ⟨le1 rfl, le1 rfl, le1 rfl, le1 rfl, le1 rfl, le1 rfl, le1 rfl, trivial⟩ ⟨rfl, rfl, trivial⟩) ?_
    rintro n ⟨hn1, hn2⟩
    dsimp only at hn1 hn2 ⊢
    refine k2 ?_; refine k2 ?_
    refine c_region ?_; refine l_neu (n_move rfl rfl) rfl ?_; refine l_neu (n_field_ref rfl) rfl ?_; refine l_neu (n_load_ref rfl rfl rfl) rfl ?_; refine l_neu (n_len rfl (.pure _ _ _ _)) rfl ?_; refine l_neu (n_lss rfl rfl) rfl ?_; refine l_nil ?_
    refine k1 ?_
    refine c_cond rfl (fun ht => ?_) (fun ht => ?_)
    · have hlt2 : n < h.Lines.length := by have := of_decide_eq_true ht; omega
      have hv2 : h.Lines[n]? = some h.Lines[n] := by simp [hlt2]
      have hmem2 := szL_mem (List.getElem_mem hlt2)
      have hsucc := someCh_succ h.Lines n hlt2
      rw [List.drop_eq_getElem_cons hlt2, List.all_cons] at hn2
      obtain ⟨x, hx2⟩ : ∃ x, x = h.Lines[n] := ⟨_, rfl⟩
      rw [← hx2] at hv2 hmem2 hsucc hn2
      refine k5 ?_; refine k1 ?_; refine k2 ?_; refine k3 ?_; refine k2 ?_
      refine c_region ?_; refine l_neu (n_field_ref rfl) rfl ?_; refine l_neu (n_load_ref rfl rfl rfl) rfl ?_; refine l_neu (n_move rfl rfl) rfl ?_; refine l_neu (n_indexAddr rfl (.pure _ _ _ _) rfl (by omega) hv2) rfl ?_; refine l_neu (n_field_eref rfl) rfl ?_; refine l_neu (n_load_eref rfl rfl) rfl ?_; refine l_neu (n_assign rfl rfl) rfl ?_; refine l_nil ?_
      refine k1 ?_; refine k2 ?_; refine k2 ?_
      refine c_region ?_; refine l_neu (n_move rfl rfl) rfl ?_; refine l_neu (n_neq rfl rfl) rfl ?_; refine l_neu (n_move rfl rfl) rfl ?_; refine l_guard rfl rfl rfl rfl (fun hg => by rw [hg]; exact n_move rfl rfl) ?_; refine l_guard rfl rfl rfl rfl (fun hg => by rw [hg]; exact n_neq rfl rfl) ?_; refine l_neu (n_pick_bool rfl (fun h => by first | rfl | (rw [h]; rfl)) (fun h => by first | rfl | (rw [h]; rfl))) rfl ?_; refine l_neu (n_move rfl rfl) rfl ?_; refine l_guard rfl rfl rfl rfl (fun hg => by rw [hg]; exact n_move rfl rfl) ?_; refine l_guard rfl rfl rfl rfl (fun hg => by rw [hg]; exact n_neq rfl rfl) ?_; refine l_neu (n_pick_bool rfl (fun h => by first | rfl | (rw [h]; rfl)) (fun h => by first | rfl | (rw [h]; rfl))) rfl ?_; refine l_neu (n_move rfl rfl) rfl ?_; refine l_guard rfl rfl rfl rfl (fun hg => by rw [hg]; exact n_field_ref rfl) ?_; refine l_guard rfl rfl rfl rfl (fun hg => by rw [hg]; exact n_load_ref rfl rfl rfl) ?_; refine l_guard rfl rfl rfl rfl (fun hg => by rw [hg]; exact n_move rfl rfl) ?_; refine l_guard rfl rfl rfl rfl (fun hg => by have hq := hg; (try simp at hq); rw [hg]; exact n_indexAddr rfl (.pure _ _ _ _) rfl (by omega) hv2) ?_; refine l_guard rfl rfl rfl rfl (fun hg => by rw [hg]; exact n_field_eref rfl) ?_; refine l_guard rfl rfl rfl rfl (fun hg => by rw [hg]; exact n_load_eref rfl rfl) ?_; refine l_guard rfl rfl rfl rfl (fun hg => by have hq := hg; (try simp at hq); rw [hg]; exact n_call1 (line_ok x.Text (by omega)) rfl rfl) ?_; refine l_guard rfl rfl rfl rfl (fun hg => by rw [hg]; exact n_not rfl) ?_; refine l_neu (n_pick_bool rfl (fun h => by first | rfl | (rw [h]; rfl)) (fun h => by first | rfl | (rw [h]; rfl))) rfl ?_; refine l_nil ?_
      refine k1 ?_
      refine c_cond rfl (fun ht => ?_) (fun ht => ?_)
      · simp only [kn32, kn45, kn43, and_pick, notB, or_pick] at ht
        have hb : badLn x := of_decide_eq_true ht
        refine k2 ?_
        refine c_region ?_; refine l_neu (n_assign rfl rfl) rfl ?_; refine l_nil ?_
        refine k1 ?_; refine k10 ?_; refine k11 ?_; refine k12 ?_; refine k11 ?_; refine k11 ?_; refine k12 ?_; refine k11 ?_; refine k12 ?_; refine k11 ?_; refine k11 ?_; refine k12 ?_; refine k11 ?_
        refine ret_ret (ret1 rfl rfl rfl) ?_
        have : goodLn x = false := decide_eq_false (fun hh => hh hb)
        rw [goodOf, hg, hn2, this]; rfl
      · simp only [kn32, kn45, kn43, and_pick, notB, or_pick] at ht
        have hb : ¬ badLn x := of_decide_eq_false ht
        have hgl : goodLn x = true := decide_eq_true hb
        rw [hgl, Bool.true_and] at hn2
        refine k5 ?_; refine k1 ?_
        refine c_region ?_; refine l_neu (n_move rfl rfl) rfl ?_; refine l_neu (n_move rfl rfl) rfl ?_; refine l_guard rfl rfl rfl rfl (fun hg => by rw [hg]; exact n_move rfl rfl) ?_; refine l_guard rfl rfl rfl rfl (fun hg => by rw [hg]; exact n_neq rfl rfl) ?_; refine l_neu (n_pick_bool rfl (fun h => by first | rfl | (rw [h]; rfl)) (fun h => by first | rfl | (rw [h]; rfl))) rfl ?_; refine l_neu (n_assign rfl rfl) rfl ?_; refine l_nil ?_
        refine k4 ?_; refine k1 ?_
        refine c_region ?_; refine l_neu (n_move rfl rfl) rfl ?_; refine l_neu (n_add rfl rfl (by omega)) rfl ?_; refine l_neu (n_assign rfl rfl) rfl ?_; refine l_nil ?_
        refine k1 ?_
        refine ⟨n + 1, ⟨by omega, hn2⟩, by omega, ?_⟩
        rw [kn32, ← hsucc]
        exact Sees.of ⟨le1 rfl, le1 rfl, le1 rfl, le1 rfl, le1 rfl, le1 rfl, le1 rfl, trivial⟩ ⟨rfl, rfl, trivial⟩
    · have hn' : n = h.Lines.length := by have := of_decide_eq_false ht; omega
      subst hn'
      rw [List.take_length]
      rw [List.drop_eq_nil_of_le (Nat.le_refl _)] at hn2
      rw [hn2, List.all_nil, Bool.true_and] at hg
      refine k6 ?_; refine k2 ?_; refine k2 ?_
      refine c_region ?_; refine l_neu (n_move rfl rfl) rfl ?_; refine l_neu (n_not rfl) rfl ?_; refine l_neu (n_move rfl rfl) rfl ?_; refine l_guard rfl rfl rfl rfl (fun hg => by rw [hg]; exact n_field_ref rfl) ?_; refine l_guard rfl rfl rfl rfl (fun hg => by rw [hg]; exact n_load_ref rfl rfl rfl) ?_; refine l_guard rfl rfl rfl rfl (fun hg => by rw [hg]; exact n_move rfl rfl) ?_; refine l_guard rfl rfl rfl rfl (fun hg => by rw [hg]; exact n_lss rfl rfl) ?_; refine l_neu (n_pick_bool rfl (fun h => by first | rfl | (rw [h]; rfl)) (fun h => by first | rfl | (rw [h]; rfl))) rfl ?_; refine l_neu (n_move rfl rfl) rfl ?_; refine l_guard rfl rfl rfl rfl (fun hg => by rw [hg]; exact n_field_ref rfl) ?_; refine l_guard rfl rfl rfl rfl (fun hg => by rw [hg]; exact n_load_ref rfl rfl rfl) ?_; refine l_guard rfl rfl rfl rfl (fun hg => by rw [hg]; exact n_move rfl rfl) ?_; refine l_guard rfl rfl rfl rfl (fun hg => by rw [hg]; exact n_lss rfl rfl) ?_; refine l_neu (n_pick_bool rfl (fun h => by first | rfl | (rw [h]; rfl)) (fun h => by first | rfl | (rw [h]; rfl))) rfl ?_; refine l_neu (n_move rfl rfl) rfl ?_; refine l_guard rfl rfl rfl rfl (fun hg => by rw [hg]; exact n_field_ref rfl) ?_; refine l_guard rfl rfl rfl rfl (fun hg => by rw [hg]; exact n_load_ref rfl rfl rfl) ?_; refine l_guard rfl rfl rfl rfl (fun hg => by rw [hg]; exact n_gtr rfl rfl) ?_; refine l_neu (n_pick_bool rfl (fun h => by first | rfl | (rw [h]; rfl)) (fun h => by first | rfl | (rw [h]; rfl))) rfl ?_; refine l_neu (n_move rfl rfl) rfl ?_; refine l_guard rfl rfl rfl rfl (fun hg => by rw [hg]; exact n_field_ref rfl) ?_; refine l_guard rfl rfl rfl rfl (fun hg => by rw [hg]; exact n_load_ref rfl rfl rfl) ?_; refine l_guard rfl rfl rfl rfl (fun hg => by rw [hg]; exact n_gtr rfl rfl) ?_; refine l_neu (n_pick_bool rfl (fun h => by first | rfl | (rw [h]; rfl)) (fun h => by first | rfl | (rw [h]; rfl))) rfl ?_; refine l_neu (n_move rfl rfl) rfl ?_; refine l_guard rfl rfl rfl rfl (fun hg => by rw [hg]; exact n_field_ref rfl) ?_; refine l_guard rfl rfl rfl rfl (fun hg => by rw [hg]; exact n_load_ref rfl rfl rfl) ?_; refine l_guard rfl rfl rfl rfl (fun hg => by rw [hg]; exact n_move rfl rfl) ?_; refine l_guard rfl rfl rfl rfl (fun hg => by have hq := hg; (try simp at hq); rw [hg]; exact n_sub rfl rfl (by omega)) ?_; refine l_guard rfl rfl rfl rfl (fun hg => by rw [hg]; exact n_field_ref rfl) ?_; refine l_guard rfl rfl rfl rfl (fun hg => by rw [hg]; exact n_load_ref rfl rfl rfl) ?_; refine l_guard rfl rfl rfl rfl (fun hg => by rw [hg]; exact n_move rfl rfl) ?_; refine l_guard rfl rfl rfl rfl (fun hg => by have hq := hg; (try simp at hq); rw [hg]; exact n_sub rfl rfl (by omega)) ?_; refine l_guard rfl rfl rfl rfl (fun hg => by rw [hg]; exact n_neq rfl rfl) ?_; refine l_neu (n_pick_bool rfl (fun h => by first | rfl | (rw [h]; rfl)) (fun h => by first | rfl | (rw [h]; rfl))) rfl ?_; refine l_nil ?_
      refine k1 ?_
      refine c_cond rfl (fun ht => ?_) (fun ht => ?_)
      · simp only [notB, or_pick] at ht
        have hb : offPlace (someCh h.Lines) i j h := of_decide_eq_true ht
        refine k2 ?_
        refine c_region ?_; refine l_neu (n_assign rfl rfl) rfl ?_; refine l_nil ?_
        refine k1 ?_; refine k10 ?_; refine k11 ?_; refine k12 ?_; refine k11 ?_; refine k11 ?_; refine k12 ?_; refine k11 ?_
        exact ret_ret (ret1 rfl rfl rfl) (by rw [goodOf, hg, decide_eq_false (fun hh => hh hb)]; rfl)
      · simp only [notB, or_pick] at ht
        have hb : ¬ offPlace (someCh h.Lines) i j h := of_decide_eq_false ht
        rw [decide_eq_true hb, Bool.true_and] at hg
        have hb2 : i ≤ h.Old ∧ j ≤ h.New ∧ h.Old ≤ 4096 ∧ h.New ≤ 4096 := by unfold offPlace at hb; omega
        refine k5 ?_; refine k1 ?_; refine k2 ?_
        refine c_region_draw (by kernel_rfl) (by kernel_rfl) ?_; refine d_neu (n_field_ref rfl) rfl rfl ?_; refine d_neu (n_load_ref rfl rfl rfl) rfl rfl ?_; refine d_neu (n_loads_ref rfl rfl rfl) rfl rfl ?_; refine d_neu (n_call1 (rlines12_ok h 43 (by omega)) rfl rfl) rfl rfl ?_; refine d_neu (n_len rfl (.pure _ _ _ _)) rfl rfl ?_; refine d_neu (n_add rfl rfl (by omega)) rfl rfl ?_; refine d_neu (n_field_ref rfl) rfl rfl ?_; refine d_neu (n_load_ref rfl rfl rfl) rfl rfl ?_; refine d_neu (n_loads_ref rfl rfl rfl) rfl rfl ?_; refine d_neu (n_call1 (rlines12_ok h 45 (by omega)) rfl rfl) rfl rfl ?_; refine d_neu (n_len rfl (.pure _ _ _ _)) rfl rfl ?_; refine d_neu (n_add rfl rfl (by omega)) rfl rfl ?_; refine d_neu (n_assign rfl rfl) rfl rfl ?_; refine d_neu (n_assign rfl rfl) rfl rfl ?_; refine d_nil ?_
        refine k1 ?_; refine k2 ?_
        refine c_region ?_; refine l_neu (n_move rfl rfl) rfl ?_; refine l_neu (n_gtr rfl rfl) rfl ?_; refine l_neu (n_move rfl rfl) rfl ?_; refine l_guard rfl rfl rfl rfl (fun hg => by rw [hg]; exact n_move rfl rfl) ?_; refine l_guard rfl rfl rfl rfl (fun hg => by rw [hg]; exact n_gtr rfl rfl) ?_; refine l_neu (n_pick_bool rfl (fun h => by first | rfl | (rw [h]; rfl)) (fun h => by first | rfl | (rw [h]; rfl))) rfl ?_; refine l_nil ?_
        refine k1 ?_
        refine c_cond rfl (fun ht => ?_) (fun ht => ?_)
        · have hb3 := of_decide_eq_true (or_pick.symm.trans ht)
          refine k2 ?_
          refine c_region ?_; refine l_neu (n_assign rfl rfl) rfl ?_; refine l_nil ?_
          refine k1 ?_; refine k10 ?_; refine k12 ?_; refine k11 ?_; refine k11 ?_; refine k12 ?_; refine k11 ?_
          exact ret_ret (ret1 rfl rfl rfl) (by rw [goodOf, hg, decide_eq_false (fun hh => hh hb3)]; rfl)
        · have hb3 := of_decide_eq_false (or_pick.symm.trans ht)
          rw [decide_eq_true (p := ¬ (4096 < h.Old + oldN h ∨ 4096 < h.New + newN h)) hb3, Bool.true_and] at hg
          refine k5 ?_; refine k4 ?_; refine k1 ?_
          refine c_region ?_; refine l_neu (n_move rfl rfl) rfl ?_; refine l_neu (n_add rfl rfl (by omega)) rfl ?_; refine l_neu (n_assign rfl rfl) rfl ?_; refine l_nil ?_
          refine k1 ?_
          exact ⟨(k + 1, h.Old + oldN h, h.New + newN h), ⟨by dsimp only; omega, hg, by unfold oldN; dsimp only; omega, by unfold oldN; dsimp only; omega, by unfold newN; dsimp only; omega, by unfold newN; dsimp only; omega⟩, by dsimp only; omega, Sees.of ⟨le1 rfl, le1 rfl, le1 rfl, le1 rfl, trivial⟩ ⟨rfl, trivial⟩⟩
  · have hk' : k = p.Hunks.length := by have := of_decide_eq_false ht; omega
    rw [hk', List.drop_eq_nil_of_le (Nat.le_refl _), goodGo] at hg
    refine k6 ?_; refine k2 ?_
    refine c_region ?_; refine l_neu (n_loads_ref rfl rfl rfl) rfl ?_; refine l_call (rside_ok p 43 hp) rfl rfl rfl ?_; rintro _ rfl; refine l_neu (n_move rfl rfl) rfl ?_; refine l_guard rfl rfl rfl rfl (fun hg => by rw [hg]; exact n_loads_ref rfl rfl rfl) ?_; refine l_guard rfl rfl rfl rfl (fun hg => by have hq := hg; (try simp at hq); rw [hg]; exact n_call1 (rside_ok p 45 hp) rfl rfl) ?_; refine l_neu (n_pick_bool rfl (fun h => by first | rfl | (rw [h]; rfl)) (fun h => by first | rfl | (rw [h]; rfl))) rfl ?_; refine l_neu (n_assign rfl rfl) rfl ?_; refine l_nil ?_
    refine k1 ?_; refine k10 ?_
    refine ret_ret (ret1 rfl rfl rfl) ?_
    rw [goodOf, hg]
    cases sideOk p.Hunks 43 <;> rfl
end Go.Proofs.YtbiadkkamhpdnaaGreatDoor
namespace Go.Proofs.YtbiadkkamhpdnaaGreatDoor
open Go Go.AL
set_option maxRecDepth 100000
theorem rwrite_ok (p : Patch) (hp : PFit p) (hrange : ∀ h ∈ p.Hunks, (-4611686018427387904 ≤ h.Old ∧ h.Old ≤ 4611686018427387904) ∧ (-4611686018427387904 ≤ h.New ∧ h.New ≤ 4611686018427387904)) : FnOk Tryz.prog 78 [pPatch p] (fun rs => rs = [pStr (writeOf p)]) := by
  have hsl := szP_len p.Hunks
  have hpl := hp.hunks
  have hpo := hp.old
  have hpn := hp.new
  have hq1 := quoteOf_len p.OldName
  have hq2 := quoteOf_len p.NewName
  have hnf := namePs_flat p
  have hnl : (namePs p).length = 2 := rfl
  refine FnOk.intro Tryz.func78 (by decide) rfl rfl rfl rfl ?_
  refine k2 ?_
  refine c_region ?_; refine l_effv (f_box 1 rfl rfl rfl) rfl ?_; refine l_neu (n_assign rfl rfl) rfl ?_; refine l_nil ?_
  refine k1 ?_; refine k2 ?_
  refine c_region_turn 10 (by kernel_rfl) (by kernel_rfl) rfl ?_; refine d_neu (n_field_ref rfl) rfl rfl ?_; refine d_neu (n_load_ref rfl rfl rfl) rfl rfl ?_; refine d_neu (n_call1 (rquote_ok p.OldName (by omega)) rfl rfl) rfl rfl ?_; refine d_neu (n_add_s rfl rfl (by (simp only [List.length_cons, List.length_nil]; omega))) rfl rfl ?_; refine d_neu (n_add_s rfl rfl (by (simp only [List.length_append, List.length_cons, List.length_nil]; omega))) rfl rfl ?_; refine d_neu (n_field_ref rfl) rfl rfl ?_; refine d_neu (n_load_ref rfl rfl rfl) rfl rfl ?_; refine d_neu (n_call1 (rquote_ok p.NewName (by omega)) rfl rfl) rfl rfl ?_; refine d_neu (n_add_s rfl rfl (by (simp only [List.length_cons, List.length_nil]; omega))) rfl rfl ?_; refine d_neu (n_add_s rfl rfl (by (simp only [List.length_append, List.length_cons, List.length_nil]; omega))) rfl rfl ?_; refine d_nil ?_; refine d_turn (f_buildBuf 3 (c := strC) (ys := (namePs p)) (asm_cons rfl rfl rfl rfl (asm_cons rfl rfl rfl rfl asm_nil)) rfl rfl rfl (by first | rfl | (simp [frFree, obFree, Ob.free, SV.free, S1.free, TC.free] <;> rfl))) rfl ?_; refine d_neu (n_assign rfl rfl) rfl rfl ?_; refine d_nil ?_
  refine k1 ?_; refine k2 ?_; refine k2 ?_
  refine c_region ?_; refine l_neu (n_assign rfl rfl) rfl ?_; refine l_nil ?_
  refine k1 ?_; refine k3 ?_
  refine c_while (X := Nat) (fun k => ([(1, .s (.one (.ref 1 0))), (3, .s (.one (.buf 3 Str 1 strC (namePs p ++ ((p.Hunks.take k).map hunkPs).flatten)))), (4, sInt k)], [(1, .box (pPatch p).s1.cells), (3, .spare (namePs p ++ ((p.Hunks.take k).map hunkPs).flatten).length 1 9)])) (fun k => k ≤ p.Hunks.length) (fun k => p.Hunks.length - k) 0 (Nat.zero_le _) (Sees.of ⟨le1 rfl, le1 rfl, le1 rfl, trivial⟩ ⟨rfl, rfl, trivial⟩) ?_
  intro k hk
  dsimp only at hk ⊢
  have hle := szP_take p.Hunks k
  have hlb := hunksPs_len (p.Hunks.take k)
  refine k2 ?_; refine k2 ?_
  refine c_region ?_; refine l_neu (n_move rfl rfl) rfl ?_; refine l_neu (n_field_ref rfl) rfl ?_; refine l_neu (n_load_ref rfl rfl rfl) rfl ?_; refine l_neu (n_len rfl (.pure _ _ _ _)) rfl ?_; refine l_neu (n_lss rfl rfl) rfl ?_; refine l_nil ?_
  refine k1 ?_
  refine c_cond rfl (fun ht => ?_) (fun ht => ?_)
  · have hlt : k < p.Hunks.length := by have := of_decide_eq_true ht; omega
    have hv : p.Hunks[k]? = some p.Hunks[k] := by simp [hlt]
    have hmem : p.Hunks[k] ∈ p.Hunks := List.getElem_mem hlt
    have hsucc := hunkTo_succ p.Hunks k hlt
    obtain ⟨h, hx⟩ : ∃ x, x = p.Hunks[k] := ⟨_, rfl⟩
    rw [← hx] at hv hmem hsucc
    have h1 := szP_mem hmem
    have h3 := szL_len h.Lines
    have ho := linesNot_len h.Lines 43
    have hn := linesNot_len h.Lines 45
    have hr1 := rangeOf_len h.Old (oldN h)
    have hr2 := rangeOf_len h.New (newN h)
    unfold szH at h1
    obtain ⟨base, hbase⟩ : ∃ base, base = namePs p ++ ((p.Hunks.take k).map hunkPs).flatten := ⟨_, rfl⟩
    have hbl : base.length ≤ 2 + szP p.Hunks := by rw [hbase, List.length_append]; omega
    rw [← hbase]
    have hho : -4611686018427387904 ≤ h.Old ∧ h.Old ≤ 4611686018427387904 := (hrange h hmem).1
    have hhn : -4611686018427387904 ≤ h.New ∧ h.New ≤ 4611686018427387904 := (hrange h hmem).2
    refine k5 ?_; refine k1 ?_; refine k2 ?_; refine k3 ?_; refine k2 ?_
    refine c_region ?_; refine l_neu (n_field_ref rfl) rfl ?_; refine l_neu (n_load_ref rfl rfl rfl) rfl ?_; refine l_neu (n_move rfl rfl) rfl ?_; refine l_neu (n_indexAddr rfl (.pure _ _ _ _) rfl (by omega) hv) rfl ?_; refine l_neu (n_loads_eref rfl rfl) rfl ?_; refine l_effv (f_alloc 5 rfl) rfl ?_; refine l_eff (e_store_ref TySz.out rfl rfl rfl rfl rfl rfl) ?_; refine l_nil ?_
    refine k1 ?_; refine k2 ?_
    refine c_region_draw (by kernel_rfl) (by kernel_rfl) ?_; refine d_neu (n_move rfl rfl) rfl rfl ?_; refine d_neu (n_field_ref rfl) rfl rfl ?_; refine d_neu (n_load_ref rfl rfl rfl) rfl rfl ?_; refine d_neu (n_loads_ref rfl rfl rfl) rfl rfl ?_; refine d_neu (n_call1 (rlines12_ok h 43 (by omega)) rfl rfl) rfl rfl ?_; refine d_neu (n_len rfl (.pure _ _ _ _)) rfl rfl ?_; refine d_neu (n_call1 (rrange_ok h.Old _ hho (by omega)) rfl rfl) rfl rfl ?_; refine d_neu (n_add_s rfl rfl (by (simp only [List.length_cons, List.length_nil]; unfold oldN at hr1; omega))) rfl rfl ?_; refine d_neu (n_add_s rfl rfl (by (simp only [List.length_append, List.length_cons, List.length_nil]; unfold oldN at hr1; omega))) rfl rfl ?_; refine d_neu (n_field_ref rfl) rfl rfl ?_; refine d_neu (n_load_ref rfl rfl rfl) rfl rfl ?_; refine d_neu (n_loads_ref rfl rfl rfl) rfl rfl ?_; refine d_neu (n_call1 (rlines12_ok h 45 (by omega)) rfl rfl) rfl rfl ?_; refine d_neu (n_len rfl (.pure _ _ _ _)) rfl rfl ?_; refine d_neu (n_call1 (rrange_ok h.New _ hhn (by omega)) rfl rfl) rfl rfl ?_; refine d_neu (n_add_s rfl rfl (by (simp only [List.length_append, List.length_cons, List.length_nil]; unfold oldN at hr1; unfold newN at hr2; omega))) rfl rfl ?_; refine d_neu (n_add_s rfl rfl (by (simp only [List.length_append, List.length_cons, List.length_nil]; unfold oldN at hr1; unfold newN at hr2; omega))) rfl rfl ?_; refine d_neu (n_buildSlice (c := strC) (ys := [headW h]) (asm_cons rfl rfl rfl rfl asm_nil) rfl rfl rfl) rfl rfl ?_; refine d_effv (e_append rfl rfl rfl (.pure _ _ _ _) (by (simp only [List.length_cons, List.length_nil]; omega)) rfl) rfl rfl ?_; refine d_neu (n_assign rfl rfl) rfl rfl ?_; refine d_nil ?_
    refine k1 ?_; refine k2 ?_
    refine c_region ?_; refine l_neu (n_assign rfl rfl) rfl ?_; refine l_nil ?_
    refine k1 ?_; refine k3 ?_
    refine c_while (X := Nat) (fun n => ([(1, .s (.one (.ref 1 0))), (3, .s (.one (.buf 3 Str 1 strC (base ++ (headW h :: ((h.Lines.take n).map linePs).flatten))))), (4, sInt k), (5, .s (.one (.ref 5 0))), (6, sInt n)], [(1, .box (pPatch p).s1.cells), (3, .spare (base ++ (headW h :: ((h.Lines.take n).map linePs).flatten)).length 1 9), (5, .box (pPhunk h).s1.cells)])) (fun n => n ≤ h.Lines.length) (fun n => h.Lines.length - n) 0 (Nat.zero_le _) (Sees.of ⟨le1 rfl, le1 rfl, le1 rfl, le1 rfl, le1 rfl, trivial⟩ ⟨rfl, rfl, rfl, trivial⟩) ?_
    intro n hn1
    dsimp only at hn1 ⊢
    have hll := linesPs_len (h.Lines.take n)
    have hlt3 : (h.Lines.take n).length ≤ h.Lines.length := by rw [List.length_take]; omega
    refine k2 ?_; refine k2 ?_
    refine c_region ?_; refine l_neu (n_move rfl rfl) rfl ?_; refine l_neu (n_field_ref rfl) rfl ?_; refine l_neu (n_load_ref rfl rfl rfl) rfl ?_; refine l_neu (n_len rfl (.pure _ _ _ _)) rfl ?_; refine l_neu (n_lss rfl rfl) rfl ?_; refine l_nil ?_
    refine k1 ?_
    refine c_cond rfl (fun ht => ?_) (fun ht => ?_)
    · have hlt2 : n < h.Lines.length := by have := of_decide_eq_true ht; omega
      have hv2 : h.Lines[n]? = some h.Lines[n] := by simp [hlt2]
      have hmem2 := szL_mem (List.getElem_mem hlt2)
      have hsucc2 := lineTo_succ h.Lines n hlt2
      obtain ⟨x, hx2⟩ : ∃ x, x = h.Lines[n] := ⟨_, rfl⟩
      rw [← hx2] at hv2 hmem2 hsucc2
      refine k5 ?_; refine k1 ?_; refine k2 ?_; refine k3 ?_; refine k2 ?_
      refine c_region_draw (by kernel_rfl) (by kernel_rfl) ?_; refine d_neu (n_move rfl rfl) rfl rfl ?_; refine d_neu (n_field_ref rfl) rfl rfl ?_; refine d_neu (n_load_ref rfl rfl rfl) rfl rfl ?_; refine d_neu (n_move rfl rfl) rfl rfl ?_; refine d_neu (n_indexAddr rfl (.pure _ _ _ _) rfl (by omega) hv2) rfl rfl ?_; refine d_neu (n_field_eref rfl) rfl rfl ?_; refine d_neu (n_load_eref rfl rfl) rfl rfl ?_; refine d_neu (n_buildSlice (c := u8C) (ys := [x.Kind]) (asm_cons rfl rfl rfl rfl asm_nil) rfl rfl rfl) rfl rfl ?_; refine d_neu (n_bytes_string TyStr.out rfl (.pure _ _ _ _)) rfl rfl ?_; refine d_neu (n_field_ref rfl) rfl rfl ?_; refine d_neu (n_load_ref rfl rfl rfl) rfl rfl ?_; refine d_neu (n_move rfl rfl) rfl rfl ?_; refine d_neu (n_indexAddr rfl (.pure _ _ _ _) rfl (by omega) hv2) rfl rfl ?_; refine d_neu (n_field_eref rfl) rfl rfl ?_; refine d_neu (n_load_eref rfl rfl) rfl rfl ?_; refine d_neu (n_add_s rfl rfl (by (simp only [List.length_cons, List.length_nil]; omega))) rfl rfl ?_; refine d_neu (n_buildSlice (c := strC) (ys := [_]) (asm_cons rfl rfl rfl rfl asm_nil) rfl rfl rfl) rfl rfl ?_; refine d_effv (e_append rfl rfl rfl (.pure _ _ _ _) (by (simp only [List.length_append, List.length_cons, List.length_nil]; omega)) rfl) rfl rfl ?_; refine d_neu (n_assign rfl rfl) rfl rfl ?_; refine d_nil ?_
      have hcons : ∀ a b : List Str, base ++ headW h :: (a ++ b) = base ++ headW h :: a ++ b := fun a b => by simp
      refine k1 ?_; refine k2 ?_
      refine c_region ?_; refine l_neu (n_field_ref rfl) rfl ?_; refine l_neu (n_load_ref rfl rfl rfl) rfl ?_; refine l_neu (n_move rfl rfl) rfl ?_; refine l_neu (n_indexAddr rfl (.pure _ _ _ _) rfl (by omega) hv2) rfl ?_; refine l_neu (n_field_eref rfl) rfl ?_; refine l_neu (n_load_eref rfl rfl) rfl ?_; refine l_call (ended_ok x.Text (by omega)) rfl rfl rfl ?_; rintro _ rfl; refine l_neu (n_not rfl) rfl ?_; refine l_nil ?_
      refine k1 ?_
      refine c_cond rfl (fun ht => ?_) (fun ht => ?_)
      · have h2 : ended x.Text = false := by simpa using ht
        have e : linePs x = [[x.Kind] ++ x.Text] ++ [markS] := by rw [linePs, h2]; rfl
        skip
        refine c_region ?_; refine l_neu (n_move rfl rfl) rfl ?_; refine l_neu (n_buildSlice (c := strC) (ys := [markS]) (asm_cons rfl rfl rfl rfl asm_nil) rfl rfl rfl) rfl ?_; refine l_effv (e_append rfl rfl rfl (.pure _ _ _ _) (by (simp only [List.length_append, List.length_cons, List.length_nil]; omega)) rfl) rfl ?_; refine l_neu (n_assign rfl rfl) rfl ?_; refine l_nil ?_
        refine k4 ?_; refine k1 ?_
        refine c_region ?_; refine l_neu (n_move rfl rfl) rfl ?_; refine l_neu (n_add rfl rfl (by omega)) rfl ?_; refine l_neu (n_assign rfl rfl) rfl ?_; refine l_nil ?_
        refine k1 ?_
        refine ⟨n + 1, by omega, by omega, ?_⟩
        rw [hsucc2, e, ← List.append_assoc, hcons, hcons]
        exact Sees.of ⟨le1 rfl, le1 rfl, le1 rfl, le1 rfl, le1 rfl, trivial⟩ ⟨rfl, rfl, rfl, trivial⟩
      · have h2 : ended x.Text = true := by simpa using ht
        have e : linePs x = [[x.Kind] ++ x.Text] := by rw [linePs, h2]; rfl
        refine k5 ?_; refine k4 ?_; refine k1 ?_
        refine c_region ?_; refine l_neu (n_move rfl rfl) rfl ?_; refine l_neu (n_add rfl rfl (by omega)) rfl ?_; refine l_neu (n_assign rfl rfl) rfl ?_; refine l_nil ?_
        refine k1 ?_
        refine ⟨n + 1, by omega, by omega, ?_⟩
        rw [hsucc2, e, hcons]
        exact Sees.of ⟨le1 rfl, le1 rfl, le1 rfl, le1 rfl, le1 rfl, trivial⟩ ⟨rfl, rfl, rfl, trivial⟩
    · have hn' : n = h.Lines.length := by have := of_decide_eq_false ht; omega
      subst hn'
      rw [List.take_length]
      refine k6 ?_; refine k7 ?_; refine k7 ?_; refine k8 rfl ?_; refine k4 ?_; refine k1 ?_
      refine c_region ?_; refine l_neu (n_move rfl rfl) rfl ?_; refine l_neu (n_add rfl rfl (by omega)) rfl ?_; refine l_neu (n_assign rfl rfl) rfl ?_; refine l_nil ?_
      refine k1 ?_
      refine ⟨k + 1, by omega, by omega, ?_⟩
      rw [hsucc, ← List.append_assoc, ← hbase]
      exact Sees.of ⟨le1 rfl, le1 rfl, le1 rfl, trivial⟩ ⟨rfl, rfl, trivial⟩
  · have hk' : k = p.Hunks.length := by have := of_decide_eq_false ht; omega
    subst hk'
    have hff := hunksPs_flat p.Hunks
    rw [List.take_length] at hlb ⊢
    have hall : (namePs p ++ (p.Hunks.map hunkPs).flatten).flatten.length ≤ 536870912 := by simp only [List.flatten_append, List.length_append]; omega
    refine k6 ?_; refine k2 ?_
    refine c_region ?_; refine l_neu (n_move rfl rfl) rfl ?_; refine l_call (all_ok _ hall) rfl rfl rfl ?_; rintro _ rfl; refine l_neu (n_assign rfl rfl) rfl ?_; refine l_nil ?_
    refine k1 ?_; refine k10 ?_
    exact ret_ret (ret1 rfl rfl rfl) rfl
theorem rcheck12_ok (p : Patch) (hp : szP p.Hunks ≤ 268435456) : FnOk Tryz.prog 34 [pPatch p] (fun rs => rs = [pInt (check12 p)]) := by
  refine FnOk.intro Tryz.func34 (by decide) rfl rfl rfl rfl ?_
  refine k2 ?_
  refine c_region ?_; refine l_effv (f_box 1 rfl rfl rfl) rfl ?_; refine l_neu (n_assign rfl rfl) rfl ?_; refine l_nil ?_
  refine k1 ?_; refine k2 ?_; refine k3 ?_; refine k2 ?_
  refine c_region ?_; refine l_neu (n_field_ref rfl) rfl ?_; refine l_neu (n_load_ref rfl rfl rfl) rfl ?_; refine l_call (rname_ok p.OldName) rfl rfl rfl ?_; rintro _ rfl; refine l_neu (n_not rfl) rfl ?_; refine l_neu (n_move rfl rfl) rfl ?_; refine l_guard rfl rfl rfl rfl (fun hg => by rw [hg]; exact n_field_ref rfl) ?_; refine l_guard rfl rfl rfl rfl (fun hg => by rw [hg]; exact n_load_ref rfl rfl rfl) ?_; refine l_guard rfl rfl rfl rfl (fun hg => by have hq := hg; (try simp at hq); rw [hg]; exact n_call1 (rname_ok p.NewName) rfl rfl) ?_; refine l_guard rfl rfl rfl rfl (fun hg => by rw [hg]; exact n_not rfl) ?_; refine l_neu (n_pick_bool rfl (fun h => by first | rfl | (rw [h]; rfl)) (fun h => by first | rfl | (rw [h]; rfl))) rfl ?_; refine l_neu (n_assign rfl rfl) rfl ?_; refine l_nil ?_
  refine k1 ?_
  refine c_cond rfl (fun ht => ?_) (fun ht => ?_)
  · simp only [notB, or_pick] at ht
    have h := of_decide_eq_true ht
    refine k2 ?_
    refine c_region ?_; refine l_neu (n_assign rfl rfl) rfl ?_; refine l_nil ?_
    refine k1 ?_; refine k10 ?_; refine k12 ?_; refine k11 ?_
    exact ret_ret (ret1 rfl rfl rfl) (by rw [check12, if_pos h])
  · simp only [notB, or_pick] at ht
    have h := of_decide_eq_false ht
    refine k2 ?_
    refine c_region ?_; refine l_neu (n_loads_ref rfl rfl rfl) rfl ?_; refine l_call (rgood_ok p hp) rfl rfl rfl ?_; rintro _ rfl; refine l_neu (n_not rfl) rfl ?_; refine l_neu (n_assign rfl rfl) rfl ?_; refine l_nil ?_
    refine k1 ?_
    refine c_cond rfl (fun ht => ?_) (fun ht => ?_)
    · have h2 : goodOf p.Hunks = false := by simpa using ht
      refine k2 ?_
      refine c_region ?_; refine l_neu (n_assign rfl rfl) rfl ?_; refine l_nil ?_
      refine k1 ?_; refine k10 ?_; refine k12 ?_; refine k11 ?_
      exact ret_ret (ret1 rfl rfl rfl) (by rw [check12, if_neg h, if_pos h2])
    · have h2 : goodOf p.Hunks = true := by simpa using ht
      have hr := goodOf_range h2
      have hn1 : nameOk p.OldName = true := by by_cases hh : nameOk p.OldName = true; exact hh; exact absurd (.inl (by simpa using hh)) h
      have hn2 : nameOk p.NewName = true := by by_cases hh : nameOk p.NewName = true; exact hh; exact absurd (.inr (by simpa using hh)) h
      have hn3 := of_decide_eq_true hn1
      have hn4 := of_decide_eq_true hn2
      have hpf : PFit p := ⟨by omega, by omega, hp⟩
      refine k2 ?_
      refine c_region ?_; refine l_neu (n_loads_ref rfl rfl rfl) rfl ?_; refine l_call (rwrite_ok p hpf (fun x hx => by have := hr x hx; omega)) rfl rfl rfl ?_; rintro _ rfl; refine l_neu (n_len_s rfl) rfl ?_; refine l_neu (n_gtr rfl rfl) rfl ?_; refine l_neu (n_assign rfl rfl) rfl ?_; refine l_nil ?_
      refine k1 ?_
      refine c_cond rfl (fun ht => ?_) (fun ht => ?_)
      · have h3 := of_decide_eq_true ht
        refine k2 ?_
        refine c_region ?_; refine l_neu (n_assign rfl rfl) rfl ?_; refine l_nil ?_
        refine k1 ?_; refine k10 ?_; refine k12 ?_; refine k11 ?_
        exact ret_ret (ret1 rfl rfl rfl) (by rw [check12, if_neg h, if_neg (by rw [h2]; decide), if_pos (by omega)])
      · have h3 := of_decide_eq_false ht
        refine k5 ?_; refine k2 ?_
        refine c_region ?_; refine l_neu (n_assign rfl rfl) rfl ?_; refine l_nil ?_
        refine k1 ?_; refine k10 ?_
        exact ret_ret (ret1 rfl rfl rfl) (by rw [check12, if_neg h, if_neg (by rw [h2]; decide), if_neg (by omega)])
end Go.Proofs.YtbiadkkamhpdnaaGreatDoor
namespace Go.Proofs.YtbiadkkamhpdnaaGreatDoor
open Go Go.AL
set_option maxRecDepth 100000
theorem rput_met {gf : Fr} {ob : Obs} (l : List PatchLine) (k : UInt8) (ts : List Str) (hk : getO ob 701 = some (.spare l.length 2 36)) (hlen : l.length + ts.length ≤ 1073741824) :
    AL.Met Tryz.prog 123 [.one (.buf 701 PatchLine 2 plineC l), .one (.p (.v (.int .u8 k.toNat))), .one (.p (.list Str 1 strC ts))] gf ob [701]
      (fun rs ob' => rs = [.one (.buf 701 PatchLine 2 plineC (l ++ putOf k ts))] ∧ ob' = (701, .spare (l ++ putOf k ts).length 2 36) :: Obs.forget 701 ob) := by
  refine AL.Met.introH Tryz.func123 (by decide) rfl rfl rfl (fun hH => ?_)
  refine k2 ?_
  refine c_region ?_; refine l_neu (n_assign rfl rfl) rfl ?_; refine l_nil ?_
  refine k1 ?_; refine k2 ?_; refine k2 ?_
  refine c_region ?_; refine l_neu (n_assign rfl rfl) rfl ?_; refine l_nil ?_
  refine k1 ?_; refine k3 ?_
  refine c_while (X := Nat) (fun i => ([(0, .s (.one (.buf 701 PatchLine 2 plineC (l ++ putOf k (ts.take i))))), (1, .s (pByte k).s1), (2, sList Str 1 strC ts), (7, sInt i)] ++ Fr.forget 701 gf, (701, .spare (l ++ putOf k (ts.take i)).length 2 36) :: Obs.forget 701 ob)) (fun i => i ≤ ts.length) (fun i => ts.length - i) 0 (Nat.zero_le _) ?_ ?_
  · have e : l ++ putOf k (ts.take 0) = l := by simp [putOf]
    rw [e]
    exact Sees.tailF 701 ⟨le1 rfl, le1 rfl, le1 rfl, le1 rfl, trivial⟩ hH (by repeat (first | exact tail_refl | refine tail_cons rfl ?_)) hk
  intro i hi
  dsimp only at hi ⊢
  have hpl := putOf_len k (ts.take i)
  rw [List.length_take] at hpl
  refine k2 ?_; refine k2 ?_
  refine c_region ?_; refine l_neu (n_move rfl rfl) rfl ?_; refine l_neu (n_move rfl rfl) rfl ?_; refine l_neu (n_len rfl (.pure _ _ _ _)) rfl ?_; refine l_neu (n_lss rfl rfl) rfl ?_; refine l_nil ?_
  refine k1 ?_
  refine c_cond rfl (fun ht => ?_) (fun ht => ?_)
  · have hlt : i < ts.length := by have := of_decide_eq_true ht; omega
    have hv : ts[i]? = some ts[i] := by simp [hlt]
    have hsucc := putOf_succ k ts i hlt
    refine k5 ?_; refine k1 ?_; refine k2 ?_; refine k3 ?_
    refine c_region ?_; refine l_neu (n_move rfl rfl) rfl ?_; refine l_neu (n_move rfl rfl) rfl ?_; refine l_neu (n_move rfl rfl) rfl ?_; refine l_neu (n_move rfl rfl) rfl ?_; refine l_neu (n_indexAddr rfl (.pure _ _ _ _) rfl (by omega) hv) rfl ?_; refine l_neu (n_load_eref rfl rfl) rfl ?_; refine l_neu (n_build rfl) rfl ?_; refine l_neu (n_buildSlice (c := plineC) (ys := [⟨k, ts[i]⟩]) (asm_cons rfl rfl rfl rfl asm_nil) rfl rfl rfl) rfl ?_; refine l_effv (e_append rfl rfl rfl (.pure _ _ _ _) (by (simp only [List.length_append, List.length_cons, List.length_nil]; omega)) rfl) rfl ?_; refine l_neu (n_assign rfl rfl) rfl ?_; refine l_nil ?_
    refine k4 ?_; refine k1 ?_
    refine c_region ?_; refine l_neu (n_move rfl rfl) rfl ?_; refine l_neu (n_add rfl rfl (by omega)) rfl ?_; refine l_neu (n_assign rfl rfl) rfl ?_; refine l_nil ?_
    refine k1 ?_
    refine ⟨i + 1, hlt, by omega, ?_⟩
    rw [hsucc, ← List.append_assoc]
    exact Sees.tailed ⟨le1 rfl, le1 rfl, le1 rfl, le1 rfl, trivial⟩ (high_forget hH) (by repeat (first | exact tail_refl | refine tail_cons rfl ?_ | refine tail_forget' _ ?_)) obs_step
  · have hi' : i = ts.length := by have := of_decide_eq_false ht; omega
    subst hi'
    rw [List.take_length]
    refine k6 ?_; refine k2 ?_
    refine c_region ?_; refine l_neu (n_move rfl rfl) rfl ?_; refine l_neu (n_assign rfl rfl) rfl ?_; refine l_nil ?_
    refine k1 ?_; refine k10 ?_
    exact met_ret (rets1 rfl rfl) (by repeat (first | exact tail_refl | refine tail_cons rfl ?_ | refine tail_forget _ ?_)) (fun _ _ h => h) ⟨rfl, rfl⟩
end Go.Proofs.YtbiadkkamhpdnaaGreatDoor
namespace Go.Proofs.YtbiadkkamhpdnaaGreatDoor
open Go Go.AL
set_option maxRecDepth 100000
theorem rputG_met {gf : Fr} {ob : Obs} (l : List PatchLine) (k : UInt8) (ts : List Str) (hk : getO ob 701 = some (.grow 36 PatchLine 2 plineC l)) (hlen : l.length + ts.length ≤ 1073741824) :
    AL.Met Tryz.prog 123 [.one (.mut 701), .one (.p (.v (.int .u8 k.toNat))), .one (.p (.list Str 1 strC ts))] gf ob [701]
      (fun rs ob' => rs = [.one (.mut 701)] ∧ ob' = (701, .grow 36 PatchLine 2 plineC (l ++ putOf k ts)) :: Obs.forget 701 ob) := by
  refine AL.Met.introH Tryz.func123 (by decide) rfl rfl rfl (fun hH => ?_)
  refine k2 ?_
  refine c_region ?_; refine l_neu (n_assign rfl rfl) rfl ?_; refine l_nil ?_
  refine k1 ?_; refine k2 ?_; refine k2 ?_
  refine c_region ?_; refine l_neu (n_assign rfl rfl) rfl ?_; refine l_nil ?_
  refine k1 ?_; refine k3 ?_
  refine c_while (X := Nat) (fun i => ([(0, .s (.one (.mut 701))), (1, .s (pByte k).s1), (2, sList Str 1 strC ts), (7, sInt i)] ++ Fr.forget 701 gf, (701, .grow 36 PatchLine 2 plineC (l ++ putOf k (ts.take i))) :: Obs.forget 701 ob)) (fun i => i ≤ ts.length) (fun i => ts.length - i) 0 (Nat.zero_le _) ?_ ?_
  · have e : l ++ putOf k (ts.take 0) = l := by simp [putOf]
    rw [e]
    exact Sees.tailF 701 ⟨le1 rfl, le1 rfl, le1 rfl, le1 rfl, trivial⟩ hH (by repeat (first | exact tail_refl | refine tail_cons rfl ?_)) hk
  intro i hi
  dsimp only at hi ⊢
  have hpl := putOf_len k (ts.take i)
  rw [List.length_take] at hpl
  refine k2 ?_; refine k2 ?_
  refine c_region ?_; refine l_neu (n_move rfl rfl) rfl ?_; refine l_neu (n_move rfl rfl) rfl ?_; refine l_neu (n_len rfl (.pure _ _ _ _)) rfl ?_; refine l_neu (n_lss rfl rfl) rfl ?_; refine l_nil ?_
  refine k1 ?_
  refine c_cond rfl (fun ht => ?_) (fun ht => ?_)
  · have hlt : i < ts.length := by have := of_decide_eq_true ht; omega
    have hv : ts[i]? = some ts[i] := by simp [hlt]
    have hsucc := putOf_succ k ts i hlt
    refine k5 ?_; refine k1 ?_; refine k2 ?_; refine k3 ?_
    refine c_region ?_; refine l_neu (n_move rfl rfl) rfl ?_; refine l_neu (n_move rfl rfl) rfl ?_; refine l_neu (n_move rfl rfl) rfl ?_; refine l_neu (n_move rfl rfl) rfl ?_; refine l_neu (n_indexAddr rfl (.pure _ _ _ _) rfl (by omega) hv) rfl ?_; refine l_neu (n_load_eref rfl rfl) rfl ?_; refine l_neu (n_build rfl) rfl ?_; refine l_neu (n_buildSlice (c := plineC) (ys := [⟨k, ts[i]⟩]) (asm_cons rfl rfl rfl rfl asm_nil) rfl rfl rfl) rfl ?_; refine l_effv (e_append_g rfl rfl rfl (.pure _ _ _ _) (by (simp only [List.length_append, List.length_cons, List.length_nil]; omega)) rfl) rfl ?_; refine l_neu (n_assign rfl rfl) rfl ?_; refine l_nil ?_
    refine k4 ?_; refine k1 ?_
    refine c_region ?_; refine l_neu (n_move rfl rfl) rfl ?_; refine l_neu (n_add rfl rfl (by omega)) rfl ?_; refine l_neu (n_assign rfl rfl) rfl ?_; refine l_nil ?_
    refine k1 ?_
    refine ⟨i + 1, hlt, by omega, ?_⟩
    rw [hsucc, ← List.append_assoc]
    exact Sees.tailed ⟨le1 rfl, le1 rfl, le1 rfl, le1 rfl, trivial⟩ (high_forget hH) (by repeat (first | exact tail_refl | refine tail_cons rfl ?_ | refine tail_forget' _ ?_)) obs_step
  · have hi' : i = ts.length := by have := of_decide_eq_false ht; omega
    subst hi'
    rw [List.take_length]
    refine k6 ?_; refine k2 ?_
    refine c_region ?_; refine l_neu (n_move rfl rfl) rfl ?_; refine l_neu (n_assign rfl rfl) rfl ?_; refine l_nil ?_
    refine k1 ?_; refine k10 ?_
    exact met_ret (rets1 rfl rfl) (by repeat (first | exact tail_refl | refine tail_cons rfl ?_ | refine tail_forget _ ?_)) (fun _ _ h => h) ⟨rfl, rfl⟩
end Go.Proofs.YtbiadkkamhpdnaaGreatDoor
namespace Go.Proofs.YtbiadkkamhpdnaaGreatDoor
open Go Go.AL
set_option maxRecDepth 100000
set_option maxHeartbeats 1000000
theorem rmake12_ok (on nn a b : Str) (ctx : Int) (ha : a.length ≤ 536870912) (hb : b.length ≤ 536870912) (hsz : szP (madeHunks (splitOf a).1 (splitOf b).1 ctx) ≤ 268435456) :
    FnOk Tryz.prog 63 [pStr on, pStr nn, pStr a, pStr b, pInt ctx, pBool false] (fun rs => rs = [pPatch (make12 on nn a b ctx).1, pInt (make12 on nn a b ctx).2]) := by
  obtain ⟨x, hx⟩ : ∃ x, x = (splitOf a).1 := ⟨_, rfl⟩
  obtain ⟨y, hy⟩ : ∃ y, y = (splitOf b).1 := ⟨_, rfl⟩
  have hxl : x.length ≤ 4096 := by rw [hx]; exact splitOf_len a
  have hyl : y.length ≤ 4096 := by rw [hy]; exact splitOf_len b
  have hmk : make12 on nn a b ctx = if nameOk on = false ∨ nameOk nn = false then (patch0, 120)
      else if (splitOf a).2 ≠ 0 then (patch0, (splitOf a).2)
      else if (splitOf b).2 ≠ 0 then (patch0, (splitOf b).2)
      else if (groupOf (scriptOf x y) x.length y.length ctx).2 ≠ 0 then (patch0, (groupOf (scriptOf x y) x.length y.length ctx).2)
      else if check12 ⟨on, nn, madeHunks x y ctx⟩ ≠ 0 then (patch0, check12 ⟨on, nn, madeHunks x y ctx⟩)
      else (⟨on, nn, madeHunks x y ctx⟩, 0) := by rw [hx, hy]; rfl
  rw [← hx, ← hy] at hsz
  refine FnOk.intro Tryz.func63 (by decide) rfl rfl rfl rfl ?_
  refine k2 ?_
  refine c_region ?_; refine l_effv (f_alloc 12 rfl) rfl ?_; refine l_neu (n_assign rfl rfl) rfl ?_; refine l_nil ?_
  refine k1 ?_; refine k2 ?_; refine k2 ?_
  refine c_region ?_; refine l_neu (n_move rfl rfl) rfl ?_; refine l_call (rname_ok on) rfl rfl rfl ?_; rintro _ rfl; refine l_neu (n_not rfl) rfl ?_; refine l_neu (n_move rfl rfl) rfl ?_; refine l_guard rfl rfl rfl rfl (fun hg => by rw [hg]; exact n_move rfl rfl) ?_; refine l_guard rfl rfl rfl rfl (fun hg => by have hq := hg; (try simp at hq); rw [hg]; exact n_call1 (rname_ok nn) rfl rfl) ?_; refine l_guard rfl rfl rfl rfl (fun hg => by rw [hg]; exact n_not rfl) ?_; refine l_neu (n_pick_bool rfl (fun h => by first | rfl | (rw [h]; rfl)) (fun h => by first | rfl | (rw [h]; rfl))) rfl ?_; refine l_nil ?_
  refine k1 ?_
  refine c_cond rfl (fun ht => ?_) (fun ht => ?_)
  · simp only [notB, or_pick] at ht
    have h := of_decide_eq_true ht
    refine k2 ?_
    refine c_region ?_; refine l_neu (n_build rfl) rfl ?_; refine l_eff (e_store_ref TySz.out rfl rfl rfl rfl rfl rfl) ?_; refine l_neu (n_assign rfl rfl) rfl ?_; refine l_nil ?_
    refine k1 ?_
    refine c_sees (Sees.listB PatchHunk 3 phunkC 12 2 rfl rfl) ?_
    refine k10 ?_; refine k11 ?_
    exact ret_ret (rs := [pPatch patch0, pInt 120]) (retc2 rfl rfl rfl rfl rfl rfl rfl) (by rw [hmk, if_pos h])
  simp only [notB, or_pick] at ht
  have h := of_decide_eq_false ht
  rw [if_neg h] at hmk
  refine k5 ?_; refine k1 ?_; refine k2 ?_
  refine c_region ?_; refine l_neu (n_move rfl rfl) rfl ?_; refine l_call (rsplit_ok a ha) rfl rfl rfl ?_; rintro _ rfl; refine l_neu (n_move rfl rfl) rfl ?_; refine l_neu (n_extract rfl rfl) rfl ?_; refine l_neu (n_extract rfl rfl) rfl ?_; refine l_neu (n_assign rfl rfl) rfl ?_; refine l_neu (n_assign rfl rfl) rfl ?_; refine l_nil ?_
  rw [← hx]
  refine k1 ?_; refine k2 ?_; refine k2 ?_
  refine c_region ?_; refine l_neu (n_move rfl rfl) rfl ?_; refine l_neu (n_neq rfl rfl) rfl ?_; refine l_nil ?_
  refine k1 ?_
  refine c_cond rfl (fun ht => ?_) (fun ht => ?_)
  · have h1 : (splitOf a).2 ≠ 0 := of_decide_eq_true ht
    refine k2 ?_
    refine c_region ?_; refine l_neu (n_build rfl) rfl ?_; refine l_neu (n_move rfl rfl) rfl ?_; refine l_eff (e_store_ref TySz.out rfl rfl rfl rfl rfl rfl) ?_; refine l_neu (n_assign rfl rfl) rfl ?_; refine l_nil ?_
    refine k1 ?_
    refine c_sees (Sees.listB PatchHunk 3 phunkC 12 2 rfl rfl) ?_
    refine k10 ?_; refine k11 ?_
    exact ret_ret (rs := [pPatch patch0, pInt (splitOf a).2]) (retc2 rfl rfl rfl rfl rfl rfl rfl) (by rw [hmk, if_pos h1])
  have h1 : ¬ (splitOf a).2 ≠ 0 := of_decide_eq_false ht
  rw [if_neg h1] at hmk
  refine k5 ?_; refine k1 ?_; refine k2 ?_
  refine c_region ?_; refine l_neu (n_move rfl rfl) rfl ?_; refine l_call (rsplit_ok b hb) rfl rfl rfl ?_; rintro _ rfl; refine l_neu (n_move rfl rfl) rfl ?_; refine l_neu (n_extract rfl rfl) rfl ?_; refine l_neu (n_extract rfl rfl) rfl ?_; refine l_neu (n_assign rfl rfl) rfl ?_; refine l_neu (n_assign rfl rfl) rfl ?_; refine l_nil ?_
  rw [← hy]
  refine k1 ?_; refine k2 ?_; refine k2 ?_
  refine c_region ?_; refine l_neu (n_move rfl rfl) rfl ?_; refine l_neu (n_neq rfl rfl) rfl ?_; refine l_nil ?_
  refine k1 ?_
  refine c_cond rfl (fun ht => ?_) (fun ht => ?_)
  · have h2 : (splitOf b).2 ≠ 0 := of_decide_eq_true ht
    refine k2 ?_
    refine c_region ?_; refine l_neu (n_build rfl) rfl ?_; refine l_neu (n_move rfl rfl) rfl ?_; refine l_eff (e_store_ref TySz.out rfl rfl rfl rfl rfl rfl) ?_; refine l_neu (n_assign rfl rfl) rfl ?_; refine l_nil ?_
    refine k1 ?_
    refine c_sees (Sees.listB PatchHunk 3 phunkC 12 2 rfl rfl) ?_
    refine k10 ?_; refine k11 ?_
    exact ret_ret (rs := [pPatch patch0, pInt (splitOf b).2]) (retc2 rfl rfl rfl rfl rfl rfl rfl) (by rw [hmk, if_pos h2])
  have h2 : ¬ (splitOf b).2 ≠ 0 := of_decide_eq_false ht
  rw [if_neg h2] at hmk
  have hscl := scriptOf_len x y
  refine k5 ?_; refine k1 ?_; refine k2 ?_
  refine c_region ?_; refine l_neu (n_move rfl rfl) rfl ?_; refine l_neu (n_move rfl rfl) rfl ?_; refine l_call (rlines9_ok x y hxl hyl) rfl rfl rfl ?_; rintro _ rfl; refine l_neu (n_assign rfl rfl) rfl ?_; refine l_nil ?_
  rw [show walkOf (idsOf (namesOf [x, y]) x) (idsOf (namesOf [x, y]) y) = scriptOf x y from rfl]
  obtain ⟨l, hl⟩ : ∃ l, l = scriptOf x y := ⟨_, rfl⟩
  rw [← hl] at hmk hscl ⊢
  refine k1 ?_; refine k2 ?_; refine k2 ?_
  refine c_region ?_; refine l_neu (n_move rfl rfl) rfl ?_; refine l_nil ?_
  refine k1 ?_
  refine c_cond rfl (fun ht => ?_) (fun ht => ?_)
  · cases ht
  refine k5 ?_; refine k1 ?_; refine k2 ?_
  refine c_region ?_; refine l_neu (n_move rfl rfl) rfl ?_; refine l_neu (n_move rfl rfl) rfl ?_; refine l_neu (n_len rfl (.pure _ _ _ _)) rfl ?_; refine l_neu (n_move rfl rfl) rfl ?_; refine l_neu (n_len rfl (.pure _ _ _ _)) rfl ?_; refine l_neu (n_move rfl rfl) rfl ?_; refine l_call (group_walk l x.length y.length ctx (by omega)) rfl rfl rfl ?_; rintro _ rfl; refine l_neu (n_move rfl rfl) rfl ?_; refine l_neu (n_extract rfl rfl) rfl ?_; refine l_neu (n_extract rfl rfl) rfl ?_; refine l_neu (n_assign rfl rfl) rfl ?_; refine l_neu (n_assign rfl rfl) rfl ?_; refine l_nil ?_
  obtain ⟨g, hg⟩ : ∃ g, g = groupOf l x.length y.length ctx := ⟨_, rfl⟩
  rw [← hg] at hmk ⊢
  refine k1 ?_; refine k2 ?_; refine k2 ?_
  refine c_region ?_; refine l_neu (n_move rfl rfl) rfl ?_; refine l_neu (n_neq rfl rfl) rfl ?_; refine l_nil ?_
  refine k1 ?_
  refine c_cond rfl (fun ht => ?_) (fun ht => ?_)
  · have h3 : g.2 ≠ 0 := of_decide_eq_true ht
    refine k2 ?_
    refine c_region ?_; refine l_neu (n_build rfl) rfl ?_; refine l_neu (n_move rfl rfl) rfl ?_; refine l_eff (e_store_ref TySz.out rfl rfl rfl rfl rfl rfl) ?_; refine l_neu (n_assign rfl rfl) rfl ?_; refine l_nil ?_
    refine k1 ?_
    refine c_sees (Sees.listB PatchHunk 3 phunkC 12 2 rfl rfl) ?_
    refine k10 ?_; refine k11 ?_
    exact ret_ret (rs := [pPatch patch0, pInt g.2]) (retc2 rfl rfl rfl rfl rfl rfl rfl) (by rw [hmk, if_pos h3])
  have h3 : ¬ g.2 ≠ 0 := of_decide_eq_false ht
  rw [if_neg h3] at hmk
  have hmh : madeHunks x y ctx = g.1.map (hunkOfG l x y) := by rw [madeHunks, ← hl, ← hg]
  have hgok : ScOk 0 0 l x.length y.length ∧ ∀ q ∈ g.1, HunkOk l x.length l.length q := by
    rw [hg, groupOf] at h3
    by_cases c1 : ctx < 0 ∨ 1048576 < ctx
    · rw [if_pos c1] at h3; exact absurd (by decide) h3
    rw [if_neg c1] at h3
    by_cases c2 : check8 l x.length y.length ≠ 0
    · rw [if_pos c2] at h3; exact absurd c2 h3
    obtain ⟨_, _, c3⟩ := check8_ok (Decidable.not_not.1 c2)
    refine ⟨c3, ?_⟩
    rw [hg, groupOf, if_neg c1, if_neg c2]
    exact groupTo_ok c3 (by omega) l.length (Nat.le_refl _)
  obtain ⟨hsc, hgs⟩ := hgok
  refine c_cut [(0, sStr on), (1, sStr nn), (12, .s (.one (.ref 12 0))), (14, sList Str 1 strC x), (16, sList Str 1 strC y), (17, sList Change 4 changeC l), (19, sList Hunk 6 hunkC g.1)] [(12, .box [.p (.v (.string ⟨#[]⟩)), .p (.v (.string ⟨#[]⟩)), .p (.v (.slice none 0 0))])] (Sees.of ⟨le1 rfl, le1 rfl, le1 rfl, le1 rfl, le1 rfl, le1 rfl, le1 rfl, trivial⟩ ⟨rfl, trivial⟩) ?_
  refine k5 ?_; refine k1 ?_; refine k2 ?_
  refine c_region ?_; refine l_neu (n_move rfl rfl) rfl ?_; refine l_neu (n_move rfl rfl) rfl ?_; refine l_neu (n_build rfl) rfl ?_; refine l_effv (f_alloc 20 rfl) rfl ?_; refine l_eff (e_store_ref TySz.out rfl rfl rfl rfl rfl rfl) ?_; refine l_nil ?_
  refine k1 ?_; refine k2 ?_; refine k2 ?_
  refine c_sees (Sees.adoptB 702 PatchHunk 3 phunkC 29 (kb := 20) (o := 2) rfl rfl rfl) ?_
  skip
  refine c_region ?_; refine l_neu (n_assign rfl rfl) rfl ?_; refine l_nil ?_
  refine k1 ?_; refine k3 ?_
  refine c_while (X := Nat) (fun k => ([(12, .s (.one (.ref 12 0))), (14, sList Str 1 strC x), (16, sList Str 1 strC y), (17, sList Change 4 changeC l), (19, sList Hunk 6 hunkC g.1), (20, .s (.one (.ref 20 0))), (21, sInt k)], [(12, .box [.p (.v (.string ⟨#[]⟩)), .p (.v (.string ⟨#[]⟩)), .p (.v (.slice none 0 0))]), (20, .box [.p (.v (.string ⟨on.toArray⟩)), .p (.v (.string ⟨nn.toArray⟩)), .buf 702 PatchHunk 3 phunkC ((g.1.take k).map (hunkOfG l x y))]), (702, .spare (((g.1.take k).map (hunkOfG l x y))).length 3 29)])) (fun k => k ≤ g.1.length) (fun k => g.1.length - k) 0 (Nat.zero_le _) (Sees.of ⟨le1 rfl, le1 rfl, le1 rfl, le1 rfl, le1 rfl, le1 rfl, le1 rfl, trivial⟩ ⟨rfl, rfl, rfl, trivial⟩) ?_
  intro k hk
  dsimp only at hk ⊢
  refine k2 ?_; refine k2 ?_
  refine c_region ?_; refine l_neu (n_move rfl rfl) rfl ?_; refine l_neu (n_move rfl rfl) rfl ?_; refine l_neu (n_len rfl (.pure _ _ _ _)) rfl ?_; refine l_neu (n_lss rfl rfl) rfl ?_; refine l_nil ?_
  refine k1 ?_
  refine c_cond rfl (fun ht => ?_) (fun ht => ?_)
  · have hlt : k < g.1.length := by have := of_decide_eq_true ht; omega
    have hv : g.1[k]? = some g.1[k] := by simp [hlt]
    have hq := hgs _ (List.getElem_mem hlt)
    have htk : (g.1.take (k + 1)).map (hunkOfG l x y) = (g.1.take k).map (hunkOfG l x y) ++ [hunkOfG l x y g.1[k]] := by rw [List.take_succ_eq_append_getElem hlt, List.map_append]; rfl
    obtain ⟨q, hqe⟩ : ∃ q, q = g.1[k] := ⟨_, rfl⟩
    rw [← hqe] at hv hq htk
    obtain ⟨hs, hhs⟩ : ∃ hs, hs = (g.1.take k).map (hunkOfG l x y) := ⟨_, rfl⟩
    have hhl : hs.length = k := by rw [hhs, List.length_map, List.length_take]; omega
    rw [← hhs] at htk ⊢
    obtain ⟨a, b, q1, q2, q3, q4, q5, q6, q7, q8, q9, q10⟩ := hq
    have hgb := hsc.get b q4
    refine k5 ?_; refine k1 ?_; refine k2 ?_; refine k3 ?_; refine k2 ?_
    refine c_region_alloc 13 22 (by kernel_rfl) (by kernel_rfl) rfl rfl rfl ?_; refine b_neu (n_move rfl rfl) rfl (n_move rfl rfl) ?_; refine b_neu (n_move rfl rfl) rfl (n_move rfl rfl) ?_; refine b_neu (n_indexAddr rfl (.pure _ _ _ _) rfl (by omega) hv) rfl (n_indexAddr rfl (.pure _ _ _ _) rfl (by omega) hv) ?_; refine b_neu (n_field_eref rfl) rfl (n_field_eref rfl) ?_; refine b_neu (n_field_eref rfl) rfl (n_field_eref rfl) ?_; refine b_neu (n_load_eref rfl rfl) rfl (n_load_eref rfl rfl) ?_; refine b_neu (n_move rfl rfl) rfl (n_move rfl rfl) ?_; refine b_neu (n_move rfl rfl) rfl (n_move rfl rfl) ?_; refine b_neu (n_indexAddr rfl (.pure _ _ _ _) rfl (by omega) hv) rfl (n_indexAddr rfl (.pure _ _ _ _) rfl (by omega) hv) ?_; refine b_neu (n_field_eref rfl) rfl (n_field_eref rfl) ?_; refine b_neu (n_field_eref rfl) rfl (n_field_eref rfl) ?_; refine b_neu (n_load_eref rfl rfl) rfl (n_load_eref rfl rfl) ?_; refine b_neu (n_build rfl) rfl (n_build rfl) ?_; refine b_nil rfl ?_; refine d_eff (e_store_ref TySz.out rfl rfl rfl rfl rfl rfl) rfl ?_; refine d_nil ?_
    refine k1 ?_; refine k2 ?_
    refine c_sees (Sees.adoptB 701 PatchLine 2 plineC 36 (kb := 22) (o := 2) rfl rfl rfl) ?_
    refine c_region ?_; refine l_neu (n_field_ref rfl) rfl ?_; refine l_neu (n_load_ref rfl rfl rfl) rfl ?_; refine l_neu (n_assign rfl rfl) rfl ?_; refine l_nil ?_
    refine k1 ?_; refine k2 ?_; refine k2 ?_
    refine c_region ?_; refine l_neu (n_move rfl rfl) rfl ?_; refine l_neu (n_move rfl rfl) rfl ?_; refine l_neu (n_indexAddr rfl (.pure _ _ _ _) rfl (by omega) hv) rfl ?_; refine l_neu (n_field_eref rfl) rfl ?_; refine l_neu (n_load_eref rfl rfl) rfl ?_; refine l_neu (n_assign rfl rfl) rfl ?_; refine l_nil ?_
    refine k1 ?_; refine k3 ?_
    refine c_while (X := Nat) (fun t => ([(12, .s (.one (.ref 12 0))), (14, sList Str 1 strC x), (16, sList Str 1 strC y), (17, sList Change 4 changeC l), (19, sList Hunk 6 hunkC g.1), (20, .s (.one (.ref 20 0))), (21, sInt k), (22, .s (.one (.ref 22 0))), (23, sInt (posTo l q.Old.From a t)), (24, sInt ((a + t : Nat) : Int))], [(12, .box [.p (.v (.string ⟨#[]⟩)), .p (.v (.string ⟨#[]⟩)), .p (.v (.slice none 0 0))]), (20, .box [.p (.v (.string ⟨on.toArray⟩)), .p (.v (.string ⟨nn.toArray⟩)), .buf 702 PatchHunk 3 phunkC hs]), (702, .spare (hs).length 3 29), (22, .box [.p (.v (.int .i64 q.Old.From)), .p (.v (.int .i64 q.New.From)), .buf 701 PatchLine 2 plineC (madeTo l x y q.Old.From a t)]), (701, .spare (madeTo l x y q.Old.From a t).length 2 36)])) (fun t => a + t ≤ b + 1) (fun t => b + 1 - (a + t)) 0 (by omega) ?_ ?_
    · have e1 : posTo l q.Old.From a 0 = q.Old.From := if_pos rfl
      rw [e1, show ((a + 0 : Nat) : Int) = q.First by rw [q1]; simp]
      exact Sees.of ⟨le1 rfl, le1 rfl, le1 rfl, le1 rfl, le1 rfl, le1 rfl, le1 rfl, le1 rfl, le1 rfl, le1 rfl, trivial⟩ ⟨rfl, rfl, rfl, rfl, rfl, trivial⟩
    intro t hat
    dsimp only at hat ⊢
    have hml := madeTo_len l x y q.Old.From a t
    have hml2 : (madeTo l x y q.Old.From a t).length ≤ 4097 * 12288 := Nat.le_trans hml (Nat.mul_le_mul (by omega) (by omega))
    refine k2 ?_; refine k2 ?_
    refine c_region ?_; refine l_neu (n_move rfl rfl) rfl ?_; refine l_neu (n_move rfl rfl) rfl ?_; refine l_neu (n_move rfl rfl) rfl ?_; refine l_neu (n_indexAddr rfl (.pure _ _ _ _) rfl (by omega) hv) rfl ?_; refine l_neu (n_field_eref rfl) rfl ?_; refine l_neu (n_load_eref rfl rfl) rfl ?_; refine l_neu (n_lss rfl rfl) rfl ?_; refine l_nil ?_
    refine k1 ?_
    refine c_cond rfl (fun ht => ?_) (fun ht => ?_)
    · have hlt2 : a + t ≤ b := by have : ((a + t : Nat) : Int) < q.Last := of_decide_eq_true ht; omega
      obtain ⟨c, hc⟩ : ∃ c, c = cAt l (a + t) := ⟨_, rfl⟩
      have hcv : l[((a + t : Nat) : Int).toNat]? = some c := by rw [hc]; exact cAt_get (by omega)
      have hgc := hsc.get (a + t) (by omega)
      rw [← hc] at hgc
      obtain ⟨⟨g1, g2⟩, ⟨g3, g4⟩, ⟨g5, g6⟩, ⟨g7, g8⟩, g9, g10⟩ := hgc
      obtain ⟨i0, hi0⟩ : ∃ i0, i0 = posTo l q.Old.From a t := ⟨_, rfl⟩
      have hpos : 0 ≤ i0 ∧ i0 ≤ c.Old := by
        rw [hi0, hc]; unfold posTo endC
        split
        · rename_i h0; subst h0; exact ⟨q5, q6⟩
        · have h4 := hsc.next (a + t - 1) (by omega)
          have h5 := hsc.get (a + t - 1) (by omega)
          rw [show a + t - 1 + 1 = a + t by omega] at h4
          unfold in81 at h5; omega
      obtain ⟨ls, hls⟩ : ∃ ls, ls = madeTo l x y q.Old.From a t := ⟨_, rfl⟩
      obtain ⟨p1, hp1⟩ : ∃ p1, p1 = putOf 32 (sub x i0 c.Old) := ⟨_, rfl⟩
      obtain ⟨p2, hp2⟩ : ∃ p2, p2 = putOf 45 (sub x c.Old (endC c)) := ⟨_, rfl⟩
      obtain ⟨p3, hp3⟩ : ∃ p3, p3 = putOf 43 (sub y c.New (c.New + c.NewLen)) := ⟨_, rfl⟩
      have hsucc : madeTo l x y q.Old.From a (t + 1) = ls ++ p1 ++ p2 ++ p3 := by rw [hls, hp1, hp2, hp3, hi0, hc]; rfl
      have hps : posTo l q.Old.From a (t + 1) = endC c := by rw [posTo_succ, hc]
      have l1 := sub_len x i0 c.Old
      have l2 := sub_len x c.Old (endC c)
      have l3 := sub_len y c.New (c.New + c.NewLen)
      have m1 : p1.length = (sub x i0 c.Old).length := by rw [hp1, putOf_len]
      have m2 : p2.length = (sub x c.Old (endC c)).length := by rw [hp2, putOf_len]
      have hend : endC c = c.Old + c.OldLen := rfl
      rw [← hls] at hml2 ⊢
      rw [← hi0]
      refine k5 ?_; refine k1 ?_; refine k2 ?_; refine k3 ?_; refine k2 ?_
      refine c_region_turn 10 (by kernel_rfl) (by kernel_rfl) rfl ?_; refine d_neu (n_field_ref rfl) rfl rfl ?_; refine d_neu (n_load_ref rfl rfl rfl) rfl rfl ?_; refine d_neu (n_move rfl rfl) rfl rfl ?_; refine d_neu (n_move rfl rfl) rfl rfl ?_; refine d_neu (n_move rfl rfl) rfl rfl ?_; refine d_neu (n_move rfl rfl) rfl rfl ?_; refine d_neu (n_indexAddr rfl (.pure _ _ _ _) rfl (by omega) hcv) rfl rfl ?_; refine d_neu (n_field_eref rfl) rfl rfl ?_; refine d_neu (n_load_eref rfl rfl) rfl rfl ?_; refine d_neu (n_slice_lh rfl (.pure _ _ _ _) rfl rfl (by omega) (by omega) (by omega)) rfl rfl ?_; refine d_nil ?_; refine met_step (rput_met ls 32 (sub x i0 c.Old) rfl (by omega)) rfl rfl rfl ?_; rintro _ _ ⟨rfl, rfl⟩; refine ⟨_, rfl, ?_⟩; refine d_neu (n_field_ref rfl) rfl rfl ?_; refine d_eff (e_store_ref TySz.out rfl rfl rfl rfl rfl rfl) rfl ?_; refine d_nil ?_
      rw [← hp1]
      refine k1 ?_; refine k2 ?_
      refine c_region_draw (by kernel_rfl) (by kernel_rfl) ?_; refine d_neu (n_move rfl rfl) rfl rfl ?_; refine d_neu (n_move rfl rfl) rfl rfl ?_; refine d_neu (n_indexAddr rfl (.pure _ _ _ _) rfl (by omega) hcv) rfl rfl ?_; refine d_neu (n_field_eref rfl) rfl rfl ?_; refine d_neu (n_load_eref rfl rfl) rfl rfl ?_; refine d_neu (n_move rfl rfl) rfl rfl ?_; refine d_neu (n_move rfl rfl) rfl rfl ?_; refine d_neu (n_indexAddr rfl (.pure _ _ _ _) rfl (by omega) hcv) rfl rfl ?_; refine d_neu (n_field_eref rfl) rfl rfl ?_; refine d_neu (n_load_eref rfl rfl) rfl rfl ?_; refine d_neu (n_add rfl rfl (by omega)) rfl rfl ?_; refine d_neu (n_assign rfl rfl) rfl rfl ?_; refine d_nil ?_
      rw [show c.Old + c.OldLen = endC c from rfl]
      refine k1 ?_; refine k2 ?_
      refine c_region_turn 10 (by kernel_rfl) (by kernel_rfl) rfl ?_; refine d_neu (n_field_ref rfl) rfl rfl ?_; refine d_neu (n_load_ref rfl rfl rfl) rfl rfl ?_; refine d_neu (n_move rfl rfl) rfl rfl ?_; refine d_neu (n_move rfl rfl) rfl rfl ?_; refine d_neu (n_move rfl rfl) rfl rfl ?_; refine d_neu (n_indexAddr rfl (.pure _ _ _ _) rfl (by omega) hcv) rfl rfl ?_; refine d_neu (n_field_eref rfl) rfl rfl ?_; refine d_neu (n_load_eref rfl rfl) rfl rfl ?_; refine d_neu (n_move rfl rfl) rfl rfl ?_; refine d_neu (n_slice_lh rfl (.pure _ _ _ _) rfl rfl (by omega) (by omega) (by omega)) rfl rfl ?_; refine d_nil ?_; refine met_step (rput_met (ls ++ p1) 45 (sub x c.Old (endC c)) rfl (by simp only [List.length_append]; omega)) rfl rfl rfl ?_; rintro _ _ ⟨rfl, rfl⟩; refine ⟨_, rfl, ?_⟩; refine d_neu (n_field_ref rfl) rfl rfl ?_; refine d_eff (e_store_ref TySz.out rfl rfl rfl rfl rfl rfl) rfl ?_; refine d_nil ?_
      rw [← hp2]
      refine k1 ?_
      refine c_region_turn 20 (by kernel_rfl) (by kernel_rfl) rfl ?_; refine d_neu (n_field_ref rfl) rfl rfl ?_; refine d_neu (n_load_ref rfl rfl rfl) rfl rfl ?_; refine d_neu (n_move rfl rfl) rfl rfl ?_; refine d_neu (n_move rfl rfl) rfl rfl ?_; refine d_neu (n_move rfl rfl) rfl rfl ?_; refine d_neu (n_indexAddr rfl (.pure _ _ _ _) rfl (by omega) hcv) rfl rfl ?_; refine d_neu (n_field_eref rfl) rfl rfl ?_; refine d_neu (n_load_eref rfl rfl) rfl rfl ?_; refine d_neu (n_move rfl rfl) rfl rfl ?_; refine d_neu (n_move rfl rfl) rfl rfl ?_; refine d_neu (n_indexAddr rfl (.pure _ _ _ _) rfl (by omega) hcv) rfl rfl ?_; refine d_neu (n_field_eref rfl) rfl rfl ?_; refine d_neu (n_load_eref rfl rfl) rfl rfl ?_; refine d_neu (n_move rfl rfl) rfl rfl ?_; refine d_neu (n_move rfl rfl) rfl rfl ?_; refine d_neu (n_indexAddr rfl (.pure _ _ _ _) rfl (by omega) hcv) rfl rfl ?_; refine d_neu (n_field_eref rfl) rfl rfl ?_; refine d_neu (n_load_eref rfl rfl) rfl rfl ?_; refine d_neu (n_add rfl rfl (by omega)) rfl rfl ?_; refine d_neu (n_slice_lh rfl (.pure _ _ _ _) rfl rfl (by omega) (by omega) (by omega)) rfl rfl ?_; refine d_nil ?_; refine met_step (rput_met (ls ++ p1 ++ p2) 43 (sub y c.New (c.New + c.NewLen)) rfl (by simp only [List.length_append]; omega)) rfl rfl rfl ?_; rintro _ _ ⟨rfl, rfl⟩; refine ⟨_, rfl, ?_⟩; refine d_neu (n_field_ref rfl) rfl rfl ?_; refine d_eff (e_store_ref TySz.out rfl rfl rfl rfl rfl rfl) rfl ?_; refine d_nil ?_
      rw [← hp3]
      refine k4 ?_; refine k1 ?_
      refine c_region ?_; refine l_neu (n_move rfl rfl) rfl ?_; refine l_neu (n_add rfl rfl (by omega)) rfl ?_; refine l_neu (n_assign rfl rfl) rfl ?_; refine l_nil ?_
      refine k1 ?_
      refine ⟨t + 1, by omega, by omega, ?_⟩
      rw [hsucc, hps, show ((a + (t + 1) : Nat) : Int) = ((a + t : Nat) : Int) + 1 by omega]
      exact Sees.of ⟨le1 rfl, le1 rfl, le1 rfl, le1 rfl, le1 rfl, le1 rfl, le1 rfl, le1 rfl, le1 rfl, le1 rfl, trivial⟩ ⟨rfl, rfl, rfl, rfl, rfl, trivial⟩
    · have htb : a + t = b + 1 := by
        have h0 : ¬ ((a + t : Nat) : Int) < q.Last := of_decide_eq_false ht
        omega
      obtain ⟨i0, hi0⟩ : ∃ i0, i0 = posTo l q.Old.From a t := ⟨_, rfl⟩
      have hib : i0 = (cAt l b).Old + (cAt l b).OldLen := by
        rw [hi0]; unfold posTo endC
        rw [if_neg (by omega), show a + t - 1 = b by omega]
      unfold in81 at hgb
      obtain ⟨ls, hls⟩ : ∃ ls, ls = madeTo l x y q.Old.From a t := ⟨_, rfl⟩
      have hG : hunkOfG l x y q = ⟨q.Old.From, q.New.From, ls ++ putOf 32 (sub x i0 q.Old.To)⟩ := by
        rw [hunkOfG, q1, q2, show ((a : Nat) : Int).toNat = a by omega, show ((b : Int) + 1).toNat - a = t by omega, ← hls, ← hi0]
      have l1 := sub_len x i0 q.Old.To
      have hgn : g.1.length ≤ l.length := by
        rw [hg, groupOf]
        split
        · simp
        · split
          · simp
          · exact (groupTo_len l x.length ctx l.length).1
      rw [← hls] at hml2 ⊢
      rw [← hi0]
      refine k6 ?_; refine k2 ?_
      refine c_region_turn 11 (by kernel_rfl) (by kernel_rfl) rfl ?_; refine d_neu (n_field_ref rfl) rfl rfl ?_; refine d_neu (n_load_ref rfl rfl rfl) rfl rfl ?_; refine d_neu (n_move rfl rfl) rfl rfl ?_; refine d_neu (n_move rfl rfl) rfl rfl ?_; refine d_neu (n_move rfl rfl) rfl rfl ?_; refine d_neu (n_move rfl rfl) rfl rfl ?_; refine d_neu (n_indexAddr rfl (.pure _ _ _ _) rfl (by omega) hv) rfl rfl ?_; refine d_neu (n_field_eref rfl) rfl rfl ?_; refine d_neu (n_field_eref rfl) rfl rfl ?_; refine d_neu (n_load_eref rfl rfl) rfl rfl ?_; refine d_neu (n_slice_lh rfl (.pure _ _ _ _) rfl rfl (by omega) (by omega) (by omega)) rfl rfl ?_; refine d_nil ?_; refine met_step (rput_met ls 32 (sub x i0 q.Old.To) rfl (by omega)) rfl rfl rfl ?_; rintro _ _ ⟨rfl, rfl⟩; refine ⟨_, rfl, ?_⟩; refine d_neu (n_field_ref rfl) rfl rfl ?_; refine d_eff (e_store_ref TySz.out rfl rfl rfl rfl rfl rfl) rfl ?_; refine d_nil ?_
      refine k1 ?_
      refine c_region ?_; refine l_neu (n_field_ref rfl) rfl ?_; refine l_neu (n_load_ref rfl rfl rfl) rfl ?_; refine l_neu (n_loads_ref rfl rfl rfl) rfl ?_; refine l_neu (n_buildSlice (c := phunkC) (ys := [⟨q.Old.From, q.New.From, ls ++ putOf 32 (sub x i0 q.Old.To)⟩]) (asm_cons rfl rfl rfl rfl asm_nil) rfl rfl rfl) rfl ?_; refine l_effv (e_append rfl rfl rfl (.pure _ _ _ _) (by (simp only [List.length_cons, List.length_nil]; omega)) rfl) rfl ?_; refine l_neu (n_field_ref rfl) rfl ?_; refine l_eff (e_store_ref TySz.out rfl rfl rfl rfl rfl rfl) ?_; refine l_nil ?_
      rw [← hG, ← htk]
      refine k4 ?_; refine k1 ?_
      refine c_region ?_; refine l_neu (n_move rfl rfl) rfl ?_; refine l_neu (n_add rfl rfl (by omega)) rfl ?_; refine l_neu (n_assign rfl rfl) rfl ?_; refine l_nil ?_
      refine k1 ?_
      exact ⟨k + 1, by omega, by omega, Sees.of ⟨le1 rfl, le1 rfl, le1 rfl, le1 rfl, le1 rfl, le1 rfl, le1 rfl, trivial⟩ ⟨rfl, rfl, rfl, trivial⟩⟩
  · have hk' : k = g.1.length := by have := of_decide_eq_false ht; omega
    subst hk'
    rw [List.take_length, ← hmh]
    refine k6 ?_; refine k2 ?_; refine k2 ?_
    refine c_region ?_; refine l_neu (n_loads_ref rfl rfl rfl) rfl ?_; refine l_call (rcheck12_ok ⟨on, nn, madeHunks x y ctx⟩ hsz) rfl rfl rfl ?_; rintro _ rfl; refine l_neu (n_assign rfl rfl) rfl ?_; refine l_nil ?_
    refine k1 ?_; refine k2 ?_
    refine c_region ?_; refine l_neu (n_move rfl rfl) rfl ?_; refine l_neu (n_neq rfl rfl) rfl ?_; refine l_nil ?_
    refine k1 ?_
    refine c_cond rfl (fun ht => ?_) (fun ht => ?_)
    · have h4 : check12 ⟨on, nn, madeHunks x y ctx⟩ ≠ 0 := of_decide_eq_true ht
      refine k2 ?_
      refine c_region ?_; refine l_neu (n_build rfl) rfl ?_; refine l_neu (n_move rfl rfl) rfl ?_; refine l_eff (e_store_ref TySz.out rfl rfl rfl rfl rfl rfl) ?_; refine l_neu (n_assign rfl rfl) rfl ?_; refine l_nil ?_
      refine k1 ?_
      refine c_sees (Sees.listB PatchHunk 3 phunkC 12 2 rfl rfl) ?_
      refine k10 ?_; refine k11 ?_
      exact ret_ret (rs := [pPatch patch0, pInt (check12 ⟨on, nn, madeHunks x y ctx⟩)]) (retc2 rfl rfl rfl rfl rfl rfl rfl) (by rw [hmk, if_pos h4])
    · have h4 : ¬ check12 ⟨on, nn, madeHunks x y ctx⟩ ≠ 0 := of_decide_eq_false ht
      rw [if_neg h4] at hmk
      refine k5 ?_; refine k1 ?_; refine k2 ?_
      refine c_region ?_; refine l_neu (n_loads_ref rfl rfl rfl) rfl ?_; refine l_eff (e_store_ref TySz.out rfl rfl rfl rfl rfl rfl) ?_; refine l_neu (n_assign rfl rfl) rfl ?_; refine l_nil ?_
      refine k1 ?_; refine k10 ?_
      exact ret_ret (rs := [pPatch ⟨on, nn, madeHunks x y ctx⟩, pInt 0]) (retc2 rfl rfl rfl rfl rfl rfl rfl) (by rw [hmk])
end Go.Proofs.YtbiadkkamhpdnaaGreatDoor
namespace Go.Proofs.YtbiadkkamhpdnaaGreatDoor
open Go Go.AL
set_option maxRecDepth 100000
end Go.Proofs.YtbiadkkamhpdnaaGreatDoor
namespace Go.Proofs.YtbiadkkamhpdnaaGreatDoor
open Go Go.AL
set_option maxRecDepth 100000
end Go.Proofs.YtbiadkkamhpdnaaGreatDoor
namespace Go.Proofs.YtbiadkkamhpdnaaGreatDoor
open Go Go.AL
set_option maxRecDepth 100000
theorem unamed_ok (s : Str) : FnOk Tryz.prog 79 [pStr s] (fun rs => rs = [pBool (nameOk s)]) := by
  refine FnOk.intro Tryz.func79 (by decide) rfl rfl rfl rfl ?_
  refine k2 ?_
  refine c_region ?_; refine l_neu (n_assign rfl rfl) rfl ?_; refine l_nil ?_
  refine k1 ?_; refine k2 ?_
  refine c_region ?_; refine l_neu (n_move rfl rfl) rfl ?_; refine l_neu (n_len_s rfl) rfl ?_; refine l_neu (n_geq rfl rfl) rfl ?_; refine l_neu (n_move rfl rfl) rfl ?_; refine l_guard rfl rfl rfl rfl (fun hg => by rw [hg]; exact n_move rfl rfl) ?_; refine l_guard rfl rfl rfl rfl (fun hg => by rw [hg]; exact n_len_s rfl) ?_; refine l_guard rfl rfl rfl rfl (fun hg => by rw [hg]; exact n_leq rfl rfl) ?_; refine l_neu (n_pick_bool rfl (fun h => by first | rfl | (rw [h]; rfl)) (fun h => by first | rfl | (rw [h]; rfl))) rfl ?_; refine l_neu (n_assign rfl rfl) rfl ?_; refine l_nil ?_
  refine k1 ?_; refine k10 ?_
  refine ret_ret (ret1 rfl rfl rfl) ?_
  simp only [and_pick]
  congr 4
  unfold nameOk
  congr 1
  apply propext
  omega
theorem usingle_ok (s : Str) (hs : s.length ≤ 1099511627776) : FnOk Tryz.prog 202 [pStr s] (fun rs => rs = [pBool (lineOk s)]) := by
  refine FnOk.intro Tryz.func202 (by decide) rfl rfl rfl rfl ?_
  refine k2 ?_
  refine c_region ?_; refine l_neu (n_assign rfl rfl) rfl ?_; refine l_nil ?_
  refine k1 ?_; refine k2 ?_
  refine c_region ?_; refine l_neu (n_move rfl rfl) rfl ?_; refine l_neu (n_neq_s rfl rfl) rfl ?_; refine l_neu (n_move rfl rfl) rfl ?_; refine l_guard rfl rfl rfl rfl (fun hg => by rw [hg]; exact n_move rfl rfl) ?_; refine l_guard rfl rfl rfl rfl (fun hg => by have hq := hg; (try simp at hq); rw [hg]; exact n_call1 (tbare_ok s hs) rfl rfl) ?_; refine l_guard rfl rfl rfl rfl (fun hg => by have hq := hg; (try simp at hq); rw [hg]; exact n_call1 (contains1_ok (bareOf s) 10) rfl rfl) ?_; refine l_guard rfl rfl rfl rfl (fun hg => by rw [hg]; exact n_not rfl) ?_; refine l_neu (n_pick_bool rfl (fun h => by first | rfl | (rw [h]; rfl)) (fun h => by first | rfl | (rw [h]; rfl))) rfl ?_; refine l_neu (n_assign rfl rfl) rfl ?_; refine l_nil ?_
  refine k1 ?_; refine k10 ?_
  exact ret_ret (ret1 rfl rfl rfl) (by rw [single_eq])
theorem usizes_ok (h : PatchHunk) (hl : h.Lines.length ≤ 268435456) : FnOk Tryz.prog 199 [pPhunk h] (fun rs => rs = [pInt (oldN h), pInt (newN h)]) := by
  refine FnOk.intro Tryz.func199 (by decide) rfl rfl rfl rfl ?_
  refine k2 ?_
  refine c_region ?_; refine l_effv (f_box 1 rfl rfl rfl) rfl ?_; refine l_neu (n_assign rfl rfl) rfl ?_; refine l_neu (n_assign rfl rfl) rfl ?_; refine l_nil ?_
  refine k1 ?_; refine k2 ?_
  refine c_region ?_; refine l_neu (n_assign rfl rfl) rfl ?_; refine l_neu (n_assign rfl rfl) rfl ?_; refine l_nil ?_
  refine k1 ?_; refine k2 ?_; refine k2 ?_
  refine c_region ?_; refine l_neu (n_field_ref rfl) rfl ?_; refine l_neu (n_load_ref rfl rfl rfl) rfl ?_; refine l_neu (n_len rfl (.pure _ _ _ _)) rfl ?_; refine l_neu (n_move rfl rfl) rfl ?_; refine l_nil ?_
  refine k1 ?_; refine k3 ?_
  refine c_while (X := Nat) (fun i => ([(4, sInt (linesNot (h.Lines.take i) 43).length), (5, sInt (linesNot (h.Lines.take i) 45).length), (9, sList PatchLine 2 plineC h.Lines), (10, sInt h.Lines.length), (11, sInt i)], [])) (fun i => i ≤ h.Lines.length) (fun i => h.Lines.length - i) 0 (Nat.zero_le _) (Sees.of ⟨le1 rfl, le1 rfl, le1 rfl, le1 rfl, le1 rfl, trivial⟩ trivial) ?_
  intro i hi
  dsimp only at hi ⊢
  have h1 := linesNot_len (h.Lines.take i) 43
  have h2 := linesNot_len (h.Lines.take i) 45
  rw [List.length_take] at h1 h2
  refine k2 ?_
  refine c_region ?_; refine l_neu (n_lss rfl rfl) rfl ?_; refine l_nil ?_
  refine k1 ?_; refine k2 ?_
  refine c_cond rfl (fun ht => ?_) (fun ht => ?_)
  · have hlt : i < h.Lines.length := by have := of_decide_eq_true ht; omega
    have hv : h.Lines[i]? = some h.Lines[i] := by simp [hlt]
    have s1 := linesNot_succ h.Lines 43 i hlt
    have s2 := linesNot_succ h.Lines 45 i hlt
    obtain ⟨x, hx⟩ : ∃ x, x = h.Lines[i] := ⟨_, rfl⟩
    rw [← hx] at hv s1 s2
    refine k5 ?_; refine k1 ?_; refine k2 ?_; refine k3 ?_; refine k2 ?_
    refine c_region ?_; refine l_neu (n_indexAddr rfl (.pure _ _ _ _) rfl (by omega) hv) rfl ?_; refine l_neu (n_loads_eref rfl rfl) rfl ?_; refine l_effv (f_alloc 7 rfl) rfl ?_; refine l_eff (e_store_ref TySz.out rfl rfl rfl rfl rfl rfl) ?_; refine l_nil ?_
    refine then_normal ?_
    refine c_join [(4, sInt (linesNot (h.Lines.take (i + 1)) 43).length), (5, sInt (linesNot (h.Lines.take i) 45).length), (7, .s (.one (.ref 7 0))), (9, sList PatchLine 2 plineC h.Lines), (10, sInt h.Lines.length), (11, sInt i)] [(7, .box [.p (.v (.int .u8 x.Kind.toNat)), .p (.v (.string ⟨x.Text.toArray⟩))])] ?_ ?_
    · refine k2 ?_
      refine c_region ?_; refine l_neu (n_field_ref rfl) rfl ?_; refine l_neu (n_load_ref rfl rfl rfl) rfl ?_; refine l_neu (n_neq rfl rfl) rfl ?_; refine l_nil ?_
      refine k1 ?_
      refine c_cond rfl (fun ht => ?_) (fun ht => ?_)
      · rw [kn43] at ht
        have h3 : x.Kind ≠ 43 := of_decide_eq_true ht
        rw [if_pos h3] at s1
        skip
        refine c_region ?_; refine l_neu (n_move rfl rfl) rfl ?_; refine l_neu (n_add rfl rfl (by omega)) rfl ?_; refine l_neu (n_assign rfl rfl) rfl ?_; refine l_nil ?_
        refine k1 ?_
        rw [s1, List.length_append, Int.natCast_add]
        exact Sees.of ⟨le1 rfl, le1 rfl, le1 rfl, le1 rfl, le1 rfl, le1 rfl, trivial⟩ ⟨rfl, trivial⟩
      · rw [kn43] at ht
        have h3 : ¬ x.Kind ≠ 43 := of_decide_eq_false ht
        rw [if_neg h3] at s1
        refine k5 ?_; refine k1 ?_
        rw [s1]
        exact Sees.of ⟨le1 rfl, le1 rfl, le1 rfl, le1 rfl, le1 rfl, le1 rfl, trivial⟩ ⟨rfl, trivial⟩
    · refine k2 ?_
      refine c_region ?_; refine l_neu (n_field_ref rfl) rfl ?_; refine l_neu (n_load_ref rfl rfl rfl) rfl ?_; refine l_neu (n_neq rfl rfl) rfl ?_; refine l_nil ?_
      refine k1 ?_
      refine c_cond rfl (fun ht => ?_) (fun ht => ?_)
      · rw [kn45] at ht
        have h3 : x.Kind ≠ 45 := of_decide_eq_true ht
        rw [if_pos h3] at s2
        skip
        refine c_region ?_; refine l_neu (n_move rfl rfl) rfl ?_; refine l_neu (n_add rfl rfl (by omega)) rfl ?_; refine l_neu (n_assign rfl rfl) rfl ?_; refine l_nil ?_
        refine k4 ?_; refine k1 ?_
        refine c_region ?_; refine l_neu (n_add rfl rfl (by omega)) rfl ?_; refine l_neu (n_move rfl rfl) rfl ?_; refine l_nil ?_
        refine k1 ?_
        refine ⟨i + 1, by omega, by omega, ?_⟩
        rw [s2, List.length_append, Int.natCast_add]
        exact Sees.of ⟨le1 rfl, le1 rfl, le1 rfl, le1 rfl, le1 rfl, trivial⟩ trivial
      · rw [kn45] at ht
        have h3 : ¬ x.Kind ≠ 45 := of_decide_eq_false ht
        rw [if_neg h3] at s2
        refine k5 ?_; refine k4 ?_; refine k1 ?_
        refine c_region ?_; refine l_neu (n_add rfl rfl (by omega)) rfl ?_; refine l_neu (n_move rfl rfl) rfl ?_; refine l_nil ?_
        refine k1 ?_
        refine ⟨i + 1, by omega, by omega, ?_⟩
        rw [s2]
        exact Sees.of ⟨le1 rfl, le1 rfl, le1 rfl, le1 rfl, le1 rfl, trivial⟩ trivial
  · have hi' : i = h.Lines.length := by have := of_decide_eq_false ht; omega
    subst hi'
    rw [List.take_length]
    refine k6 ?_; refine k2 ?_
    refine c_region ?_; refine l_neu (n_move rfl rfl) rfl ?_; refine l_neu (n_move rfl rfl) rfl ?_; refine l_neu (n_assign rfl rfl) rfl ?_; refine l_neu (n_assign rfl rfl) rfl ?_; refine l_nil ?_
    refine k1 ?_; refine k10 ?_
    exact ret_ret (ret2 rfl rfl rfl rfl rfl) rfl
theorem uheader_ok (h : PatchHunk) (hl : h.Lines.length ≤ 268435456) (ho : -4611686018427387904 ≤ h.Old ∧ h.Old ≤ 4611686018427387904) (hn : -4611686018427387904 ≤ h.New ∧ h.New ≤ 4611686018427387904) : FnOk Tryz.prog 135 [pPhunk h] (fun rs => rs = [pStr (headW h)]) := by
  have h1 := linesNot_len h.Lines 43
  have h2 := linesNot_len h.Lines 45
  have h3 : 0 ≤ oldN h ∧ oldN h ≤ 268435456 := by unfold oldN; omega
  have h4 : 0 ≤ newN h ∧ newN h ≤ 268435456 := by unfold newN; omega
  have h5 := rangeOf_len h.Old (oldN h)
  have h6 := rangeOf_len h.New (newN h)
  refine FnOk.intro Tryz.func135 (by decide) rfl rfl rfl rfl ?_
  refine k2 ?_
  refine c_region ?_; refine l_effv (f_box 1 rfl rfl rfl) rfl ?_; refine l_neu (n_assign rfl rfl) rfl ?_; refine l_nil ?_
  refine k1 ?_; refine k2 ?_
  refine c_region ?_; refine l_neu (n_loads_ref rfl rfl rfl) rfl ?_; refine l_call (usizes_ok h hl) rfl rfl rfl ?_; rintro _ rfl; refine l_neu (n_move rfl rfl) rfl ?_; refine l_neu (n_extract rfl rfl) rfl ?_; refine l_neu (n_extract rfl rfl) rfl ?_; refine l_neu (n_assign rfl rfl) rfl ?_; refine l_neu (n_assign rfl rfl) rfl ?_; refine l_nil ?_
  refine k1 ?_; refine k2 ?_
  refine c_region_draw (by kernel_rfl) (by kernel_rfl) ?_; refine d_neu (n_field_ref rfl) rfl rfl ?_; refine d_neu (n_load_ref rfl rfl rfl) rfl rfl ?_; refine d_neu (n_move rfl rfl) rfl rfl ?_; refine d_neu (n_call1 (srange_ok h.Old (oldN h) ho (by omega)) rfl rfl) rfl rfl ?_; refine d_neu (n_add_s rfl rfl (by (simp only [List.length_cons, List.length_nil]; omega))) rfl rfl ?_; refine d_neu (n_add_s rfl rfl (by (simp only [List.length_append, List.length_cons, List.length_nil]; omega))) rfl rfl ?_; refine d_neu (n_field_ref rfl) rfl rfl ?_; refine d_neu (n_load_ref rfl rfl rfl) rfl rfl ?_; refine d_neu (n_move rfl rfl) rfl rfl ?_; refine d_neu (n_call1 (srange_ok h.New (newN h) hn (by omega)) rfl rfl) rfl rfl ?_; refine d_neu (n_add_s rfl rfl (by (simp only [List.length_append, List.length_cons, List.length_nil]; omega))) rfl rfl ?_; refine d_neu (n_add_s rfl rfl (by (simp only [List.length_append, List.length_cons, List.length_nil]; omega))) rfl rfl ?_; refine d_neu (n_assign rfl rfl) rfl rfl ?_; refine d_nil ?_
  refine k1 ?_; refine k10 ?_
  exact ret_ret (ret1 rfl rfl rfl) rfl
end Go.Proofs.YtbiadkkamhpdnaaGreatDoor
namespace Go.Proofs.YtbiadkkamhpdnaaGreatDoor
open Go Go.AL
set_option maxRecDepth 100000
theorem uproper_ok (h : PatchHunk) (hl : (h.Lines.map szL).sum ≤ 1099511627776) : FnOk Tryz.prog 140 [pPhunk h] (fun rs => rs = [pBool (h.Lines.all goodLn && someCh h.Lines)]) := by
  have h3 := szL_len h.Lines
  refine FnOk.intro Tryz.func140 (by decide) rfl rfl rfl rfl ?_
  refine k2 ?_
  refine c_region ?_; refine l_effv (f_box 1 rfl rfl rfl) rfl ?_; refine l_neu (n_assign rfl rfl) rfl ?_; refine l_nil ?_
  refine k1 ?_; refine k2 ?_
  refine c_region ?_; refine l_neu (n_assign rfl rfl) rfl ?_; refine l_nil ?_
  refine k1 ?_; refine k2 ?_; refine k2 ?_
  refine c_region ?_; refine l_neu (n_field_ref rfl) rfl ?_; refine l_neu (n_load_ref rfl rfl rfl) rfl ?_; refine l_neu (n_len rfl (.pure _ _ _ _)) rfl ?_; refine l_neu (n_move rfl rfl) rfl ?_; refine l_nil ?_
  refine k1 ?_; refine k3 ?_
  refine c_while (X := Nat) (fun n => ([(3, sVal (.bool (someCh (h.Lines.take n)))), (7, sList PatchLine 2 plineC h.Lines), (8, sInt h.Lines.length), (9, sInt n)], [])) (fun n => n ≤ h.Lines.length ∧ h.Lines.all goodLn = (h.Lines.drop n).all goodLn) (fun n => h.Lines.length - n) 0 ⟨Nat.zero_le _, rfl⟩ (Sees.of ⟨le1 rfl, le1 rfl, le1 rfl, le1 rfl, trivial⟩ trivial) ?_
  rintro n ⟨hn1, hn2⟩
  dsimp only at hn1 hn2 ⊢
  refine k2 ?_
  refine c_region ?_; refine l_neu (n_lss rfl rfl) rfl ?_; refine l_nil ?_
  refine k1 ?_; refine k2 ?_
  refine c_cond rfl (fun ht => ?_) (fun ht => ?_)
  · have hlt2 : n < h.Lines.length := by have := of_decide_eq_true ht; omega
    have hv2 : h.Lines[n]? = some h.Lines[n] := by simp [hlt2]
    have hmem2 := szL_mem (List.getElem_mem hlt2)
    have hsucc := someCh_succ h.Lines n hlt2
    rw [List.drop_eq_getElem_cons hlt2, List.all_cons] at hn2
    obtain ⟨x, hx2⟩ : ∃ x, x = h.Lines[n] := ⟨_, rfl⟩
    rw [← hx2] at hv2 hmem2 hsucc hn2
    refine k5 ?_; refine k1 ?_; refine k2 ?_; refine k3 ?_; refine k2 ?_
    refine c_region ?_; refine l_neu (n_indexAddr rfl (.pure _ _ _ _) rfl (by omega) hv2) rfl ?_; refine l_neu (n_loads_eref rfl rfl) rfl ?_; refine l_effv (f_alloc 5 rfl) rfl ?_; refine l_eff (e_store_ref TySz.out rfl rfl rfl rfl rfl rfl) ?_; refine l_nil ?_
    refine k1 ?_; refine k2 ?_; refine k2 ?_
    refine c_region ?_; refine l_neu (n_field_ref rfl) rfl ?_; refine l_neu (n_load_ref rfl rfl rfl) rfl ?_; refine l_neu (n_neq rfl rfl) rfl ?_; refine l_neu (n_move rfl rfl) rfl ?_; refine l_guard rfl rfl rfl rfl (fun hg => by rw [hg]; exact n_field_ref rfl) ?_; refine l_guard rfl rfl rfl rfl (fun hg => by rw [hg]; exact n_load_ref rfl rfl rfl) ?_; refine l_guard rfl rfl rfl rfl (fun hg => by rw [hg]; exact n_neq rfl rfl) ?_; refine l_neu (n_pick_bool rfl (fun h => by first | rfl | (rw [h]; rfl)) (fun h => by first | rfl | (rw [h]; rfl))) rfl ?_; refine l_neu (n_move rfl rfl) rfl ?_; refine l_guard rfl rfl rfl rfl (fun hg => by rw [hg]; exact n_field_ref rfl) ?_; refine l_guard rfl rfl rfl rfl (fun hg => by rw [hg]; exact n_load_ref rfl rfl rfl) ?_; refine l_guard rfl rfl rfl rfl (fun hg => by rw [hg]; exact n_neq rfl rfl) ?_; refine l_neu (n_pick_bool rfl (fun h => by first | rfl | (rw [h]; rfl)) (fun h => by first | rfl | (rw [h]; rfl))) rfl ?_; refine l_neu (n_move rfl rfl) rfl ?_; refine l_guard rfl rfl rfl rfl (fun hg => by rw [hg]; exact n_field_ref rfl) ?_; refine l_guard rfl rfl rfl rfl (fun hg => by rw [hg]; exact n_load_ref rfl rfl rfl) ?_; refine l_guard rfl rfl rfl rfl (fun hg => by have hq := hg; (try simp at hq); rw [hg]; exact n_call1 (usingle_ok x.Text (by omega)) rfl rfl) ?_; refine l_guard rfl rfl rfl rfl (fun hg => by rw [hg]; exact n_not rfl) ?_; refine l_neu (n_pick_bool rfl (fun h => by first | rfl | (rw [h]; rfl)) (fun h => by first | rfl | (rw [h]; rfl))) rfl ?_; refine l_nil ?_
    refine k1 ?_
    refine c_cond rfl (fun ht => ?_) (fun ht => ?_)
    · simp only [kn32, kn45, kn43, and_pick, notB, or_pick] at ht
      have hb : badLn x := of_decide_eq_true ht
      refine k2 ?_
      refine c_region ?_; refine l_neu (n_assign rfl rfl) rfl ?_; refine l_nil ?_
      refine k1 ?_; refine k10 ?_; refine k11 ?_; refine k12 ?_; refine k11 ?_; refine k11 ?_; refine k12 ?_; refine k11 ?_
      refine ret_ret (ret1 rfl rfl rfl) ?_
      have : goodLn x = false := decide_eq_false (fun hh => hh hb)
      rw [hn2, this]; rfl
    · simp only [kn32, kn45, kn43, and_pick, notB, or_pick] at ht
      have hb : ¬ badLn x := of_decide_eq_false ht
      have hgl : goodLn x = true := decide_eq_true hb
      rw [hgl, Bool.true_and] at hn2
      refine k5 ?_; refine k1 ?_
      refine c_region ?_; refine l_neu (n_move rfl rfl) rfl ?_; refine l_neu (n_move rfl rfl) rfl ?_; refine l_guard rfl rfl rfl rfl (fun hg => by rw [hg]; exact n_field_ref rfl) ?_; refine l_guard rfl rfl rfl rfl (fun hg => by rw [hg]; exact n_load_ref rfl rfl rfl) ?_; refine l_guard rfl rfl rfl rfl (fun hg => by rw [hg]; exact n_neq rfl rfl) ?_; refine l_neu (n_pick_bool rfl (fun h => by first | rfl | (rw [h]; rfl)) (fun h => by first | rfl | (rw [h]; rfl))) rfl ?_; refine l_neu (n_assign rfl rfl) rfl ?_; refine l_nil ?_
      refine k4 ?_; refine k1 ?_
      refine c_region ?_; refine l_neu (n_add rfl rfl (by omega)) rfl ?_; refine l_neu (n_move rfl rfl) rfl ?_; refine l_nil ?_
      refine k1 ?_
      refine ⟨n + 1, ⟨by omega, hn2⟩, by omega, ?_⟩
      rw [kn32, ← hsucc]
      exact Sees.of ⟨le1 rfl, le1 rfl, le1 rfl, le1 rfl, trivial⟩ trivial
  · have hn' : n = h.Lines.length := by have := of_decide_eq_false ht; omega
    subst hn'
    rw [List.take_length]
    rw [List.drop_eq_nil_of_le (Nat.le_refl _)] at hn2
    refine k6 ?_; refine k2 ?_
    refine c_region ?_; refine l_neu (n_move rfl rfl) rfl ?_; refine l_neu (n_assign rfl rfl) rfl ?_; refine l_nil ?_
    refine k1 ?_; refine k10 ?_
    exact ret_ret (ret1 rfl rfl rfl) (by rw [hn2]; rfl)
theorem uline_met {gf : Fr} {ob : Obs} {k : Nat} {e : Int} {o : Bool} {t : Str} (hk : getO ob k = some (.box [.p (.v (.int .i64 e)), .p (.v (.bool o))])) (hs : t.length ≤ 1099511627776) :
    AL.Met Tryz.prog 203 [.one (.ref k 0), .one (.p (.v (.string ⟨t.toArray⟩)))] gf ob [] (fun rs ob' => rs = [.one (.p (.v (.bool (!o))))] ∧ ob' = (k, .box [.p (.v (.int .i64 e)), .p (.v (.bool (!ended t)))]) :: ob) := by
  refine AL.Met.intro Tryz.func203 (by decide) rfl rfl rfl ?_
  refine k2 ?_
  refine c_region ?_; refine l_neu (n_assign rfl rfl) rfl ?_; refine l_nil ?_
  refine k1 ?_; refine k2 ?_
  refine c_region ?_; refine l_neu (n_move rfl rfl) rfl ?_; refine l_neu (n_nilCheck_ref rfl) rfl ?_; refine l_neu (n_field_ref rfl) rfl ?_; refine l_neu (n_load_ref rfl hk rfl) rfl ?_; refine l_neu (n_not rfl) rfl ?_; refine l_neu (n_assign rfl rfl) rfl ?_; refine l_nil ?_
  refine k1 ?_; refine k2 ?_
  refine c_region ?_; refine l_neu (n_move rfl rfl) rfl ?_; refine l_neu (n_move rfl rfl) rfl ?_; refine l_call (tended_ok t hs) rfl rfl rfl ?_; rintro _ rfl; refine l_neu (n_not rfl) rfl ?_; refine l_neu (n_nilCheck_ref rfl) rfl ?_; refine l_neu (n_field_ref rfl) rfl ?_; refine l_eff (e_store_ref TySz.out rfl hk rfl rfl rfl rfl) ?_; refine l_nil ?_
  refine k1 ?_; refine k2 ?_
  refine c_region ?_; refine l_neu (n_move rfl rfl) rfl ?_; refine l_neu (n_assign rfl rfl) rfl ?_; refine l_nil ?_
  refine k1 ?_; refine k10 ?_
  exact met_ret (rets1 rfl rfl) (by repeat (first | exact tail_refl | refine tail_cons rfl ?_ | refine tail_forget _ ?_)) (fun _ _ h => h) ⟨rfl, rfl⟩
end Go.Proofs.YtbiadkkamhpdnaaGreatDoor
namespace Go.Proofs.YtbiadkkamhpdnaaGreatDoor
open Go Go.AL
set_option maxRecDepth 100000
theorem drop_step (a b : List Str) (i : Nat) (ha : i < a.length) (hb : i < b.length) : (a.drop i = b.drop i) ↔ (a[i] = b[i] ∧ a.drop (i + 1) = b.drop (i + 1)) := by
  rw [List.drop_eq_getElem_cons ha, List.drop_eq_getElem_cons hb, List.cons.injEq]
theorem equal_ok (a b : List Str) : FnOk Tryz.prog 124 [pStrs a, pStrs b] (fun rs => rs = [pBool (decide (a = b))]) := by
  refine FnOk.intro Tryz.func124 (by decide) rfl rfl rfl rfl ?_
  refine c_bound (t := 0) rfl (.pure _ _ _ _) fun hal => ?_
  refine k2 ?_
  refine c_region ?_; refine l_neu (n_assign rfl rfl) rfl ?_; refine l_nil ?_
  refine k1 ?_; refine k2 ?_; refine k2 ?_
  refine c_region ?_; refine l_neu (n_move rfl rfl) rfl ?_; refine l_neu (n_len rfl (.pure _ _ _ _)) rfl ?_; refine l_neu (n_move rfl rfl) rfl ?_; refine l_neu (n_len rfl (.pure _ _ _ _)) rfl ?_; refine l_neu (n_neq rfl rfl) rfl ?_; refine l_nil ?_
  refine k1 ?_
  refine c_cond rfl (fun ht => ?_) (fun ht => ?_)
  · have h := of_decide_eq_true ht
    refine k2 ?_
    refine c_region ?_; refine l_neu (n_assign rfl rfl) rfl ?_; refine l_nil ?_
    refine k1 ?_; refine k10 ?_; refine k11 ?_
    exact ret_ret (ret1 rfl rfl rfl) (by rw [decide_eq_false (fun hh => h (by rw [hh]))])
  have h := of_decide_eq_false ht
  have hl : a.length = b.length := by omega
  refine k5 ?_; refine k1 ?_; refine k2 ?_; refine k2 ?_
  refine c_region ?_; refine l_neu (n_move rfl rfl) rfl ?_; refine l_neu (n_len rfl (.pure _ _ _ _)) rfl ?_; refine l_neu (n_move rfl rfl) rfl ?_; refine l_nil ?_
  refine k1 ?_; refine k3 ?_
  refine c_while (X := Nat) (fun i => ([(0, sList Str 1 strC a), (1, sList Str 1 strC b), (12, sInt a.length), (13, sInt i)], [])) (fun i => i ≤ a.length ∧ decide (a = b) = decide (a.drop i = b.drop i)) (fun i => a.length - i) 0 ⟨Nat.zero_le _, rfl⟩ (Sees.of ⟨le1 rfl, le1 rfl, le1 rfl, le1 rfl, trivial⟩ trivial) ?_
  rintro i ⟨hi, hp⟩
  dsimp only at hi hp ⊢
  refine k2 ?_
  refine c_region ?_; refine l_neu (n_lss rfl rfl) rfl ?_; refine l_nil ?_
  refine k1 ?_; refine k2 ?_
  refine c_cond rfl (fun ht => ?_) (fun ht => ?_)
  · have hlt : i < a.length := by have := of_decide_eq_true ht; omega
    have hv : a[i]? = some a[i] := by simp [hlt]
    have hv2 : b[i]? = some (b[i]'(by omega)) := by simp
    rw [decide_eq_decide.2 (drop_step a b i hlt (by omega))] at hp
    refine k5 ?_; refine k1 ?_; refine k2 ?_; refine k3 ?_; refine k2 ?_
    refine c_region ?_; refine l_neu (n_move rfl rfl) rfl ?_; refine l_neu (n_assign rfl rfl) rfl ?_; refine l_nil ?_
    refine k1 ?_; refine k2 ?_
    refine c_region_draw (by kernel_rfl) (by kernel_rfl) ?_; refine d_neu (n_move rfl rfl) rfl rfl ?_; refine d_neu (n_move rfl rfl) rfl rfl ?_; refine d_neu (n_indexAddr rfl (.pure _ _ _ _) rfl (by omega) hv) rfl rfl ?_; refine d_neu (n_load_eref rfl rfl) rfl rfl ?_; refine d_neu (n_move rfl rfl) rfl rfl ?_; refine d_neu (n_move rfl rfl) rfl rfl ?_; refine d_neu (n_indexAddr rfl (.pure _ _ _ _) rfl (by omega) hv2) rfl rfl ?_; refine d_neu (n_load_eref rfl rfl) rfl rfl ?_; refine d_neu (n_neq_s rfl rfl) rfl rfl ?_; refine d_nil ?_
    refine k1 ?_
    refine c_cond rfl (fun ht => ?_) (fun ht => ?_)
    · have h2 : a[i] ≠ b[i]'(by omega) := of_decide_eq_true ht
      refine k2 ?_
      refine c_region ?_; refine l_neu (n_assign rfl rfl) rfl ?_; refine l_nil ?_
      refine k1 ?_; refine k10 ?_; refine k12 ?_; refine k11 ?_; refine k11 ?_; refine k12 ?_; refine k11 ?_
      exact ret_ret (ret1 rfl rfl rfl) (by rw [hp, decide_eq_false (fun hh => h2 hh.1)])
    · have h2 : a[i] = b[i]'(by omega) := Decidable.not_not.1 (of_decide_eq_false ht)
      refine k5 ?_; refine k4 ?_; refine k1 ?_
      refine c_region ?_; refine l_neu (n_add rfl rfl (by omega)) rfl ?_; refine l_neu (n_move rfl rfl) rfl ?_; refine l_nil ?_
      refine k1 ?_
      exact ⟨i + 1, ⟨hlt, by rw [hp]; exact decide_eq_decide.2 ⟨fun hh => hh.2, fun hh => ⟨h2, hh⟩⟩⟩, by omega, Sees.of ⟨le1 rfl, le1 rfl, le1 rfl, le1 rfl, trivial⟩ trivial⟩
  · have hi' : i = a.length := by have := of_decide_eq_false ht; omega
    subst hi'
    refine k6 ?_; refine k2 ?_
    refine c_region ?_; refine l_neu (n_assign rfl rfl) rfl ?_; refine l_nil ?_
    refine k1 ?_; refine k10 ?_
    refine ret_ret (ret1 rfl rfl rfl) ?_
    rw [hp, List.drop_eq_nil_of_le (Nat.le_refl _), List.drop_eq_nil_of_le (by omega)]; rfl
theorem found_fits (h : PatchHunk) (x : List Str) (ho : 0 ≤ h.Old) : (if (if decide (h.Old ≤ (x.length : Int)) = true then decide (((linesNot h.Lines 43).length : Int) ≤ (x.length : Int) - h.Old) else false) = true then decide (sub x h.Old (h.Old + ((linesNot h.Lines 43).length : Int)) = linesNot h.Lines 43) else false) = fitsOf h x := by
  have hn : 0 ≤ oldN h := by unfold oldN; omega
  unfold fitsOf
  by_cases c : (x.length : Int) < h.Old + oldN h
  · rw [if_pos c]
    unfold oldN at c
    simp only [and_pick]
    exact decide_eq_false (fun hh => by omega)
  · rw [if_neg c]
    unfold oldN at c
    simp only [and_pick]
    have e : sub x h.Old (h.Old + ((linesNot h.Lines 43).length : Int)) = (x.drop h.Old.toNat).take (linesNot h.Lines 43).length := by
      unfold sub; congr 1; omega
    rw [e]
    exact decide_eq_decide.2 ⟨fun hh => hh.2, fun hh => ⟨by omega, hh⟩⟩
theorem pfound_ok (h : PatchHunk) (x : List Str) (hl : h.Lines.length ≤ 268435456) (ho : 0 ≤ h.Old ∧ h.Old ≤ 4096) (hx : x.length ≤ 1073741824) : FnOk Tryz.prog 67 [pStrs x, pInt h.Old, pStrs (linesNot h.Lines 43)] (fun rs => rs = [pBool (fitsOf h x)]) := by
  have hnl := linesNot_len h.Lines 43
  refine FnOk.intro Tryz.func67 (by decide) rfl rfl rfl rfl ?_
  refine k2 ?_
  refine c_region ?_; refine l_neu (n_assign rfl rfl) rfl ?_; refine l_nil ?_
  refine k1 ?_; refine k2 ?_
  refine c_region ?_; refine l_neu (n_move rfl rfl) rfl ?_; refine l_neu (n_move rfl rfl) rfl ?_; refine l_neu (n_len rfl (.pure _ _ _ _)) rfl ?_; refine l_neu (n_leq rfl rfl) rfl ?_; refine l_neu (n_move rfl rfl) rfl ?_; refine l_guard rfl rfl rfl rfl (fun hg => by rw [hg]; exact n_move rfl rfl) ?_; refine l_guard rfl rfl rfl rfl (fun hg => by rw [hg]; exact n_len rfl (.pure _ _ _ _)) ?_; refine l_guard rfl rfl rfl rfl (fun hg => by rw [hg]; exact n_move rfl rfl) ?_; refine l_guard rfl rfl rfl rfl (fun hg => by rw [hg]; exact n_len rfl (.pure _ _ _ _)) ?_; refine l_guard rfl rfl rfl rfl (fun hg => by rw [hg]; exact n_move rfl rfl) ?_; refine l_guard rfl rfl rfl rfl (fun hg => by have hq := hg; (try simp at hq); rw [hg]; exact n_sub rfl rfl (by omega)) ?_; refine l_guard rfl rfl rfl rfl (fun hg => by rw [hg]; exact n_leq rfl rfl) ?_; refine l_neu (n_pick_bool rfl (fun h => by first | rfl | (rw [h]; rfl)) (fun h => by first | rfl | (rw [h]; rfl))) rfl ?_; refine l_neu (n_move rfl rfl) rfl ?_; refine l_guard rfl rfl rfl rfl (fun hg => by rw [hg]; exact n_move rfl rfl) ?_; refine l_guard rfl rfl rfl rfl (fun hg => by rw [hg]; exact n_move rfl rfl) ?_; refine l_guard rfl rfl rfl rfl (fun hg => by rw [hg]; exact n_move rfl rfl) ?_; refine l_guard rfl rfl rfl rfl (fun hg => by rw [hg]; exact n_move rfl rfl) ?_; refine l_guard rfl rfl rfl rfl (fun hg => by rw [hg]; exact n_len rfl (.pure _ _ _ _)) ?_; refine l_guard rfl rfl rfl rfl (fun hg => by have hq := hg; (try simp at hq); rw [hg]; exact n_add rfl rfl (by omega)) ?_; refine l_guard rfl rfl rfl rfl (fun hg => by have hq := hg; (try simp at hq); rw [hg]; exact n_slice_lh rfl (.pure _ _ _ _) rfl rfl (by omega) (by omega) (by omega)) ?_; refine l_guard rfl rfl rfl rfl (fun hg => by rw [hg]; exact n_move rfl rfl) ?_; refine l_guard rfl rfl rfl rfl (fun hg => by have hq := hg; (try simp at hq); rw [hg]; exact n_call1 (equal_ok (sub x h.Old (h.Old + ((linesNot h.Lines 43).length : Int))) (linesNot h.Lines 43)) rfl rfl) ?_; refine l_neu (n_pick_bool rfl (fun h => by first | rfl | (rw [h]; rfl)) (fun h => by first | rfl | (rw [h]; rfl))) rfl ?_; refine l_neu (n_assign rfl rfl) rfl ?_; refine l_nil ?_
  refine k1 ?_; refine k10 ?_
  exact ret_ret (ret1 rfl rfl rfl) (by rw [found_fits h x ho.1])
theorem psides_ok (h : PatchHunk) (hl : h.Lines.length ≤ 268435456) : FnOk Tryz.prog 66 [pPhunk h] (fun rs => rs = [pStrs (linesNot h.Lines 43), pStrs (linesNot h.Lines 45)]) := by
  refine FnOk.intro Tryz.func66 (by decide) rfl rfl rfl rfl ?_
  refine k2 ?_
  refine c_region ?_; refine l_effv (f_box 1 rfl rfl rfl) rfl ?_; refine l_effv (f_adopt 2 _ strC rfl) rfl ?_; refine l_effv (f_adopt 3 _ strC rfl) rfl ?_; refine l_nil ?_
  refine k1 ?_; refine k2 ?_; refine k2 ?_
  refine c_region ?_; refine l_neu (n_field_ref rfl) rfl ?_; refine l_neu (n_load_ref rfl rfl rfl) rfl ?_; refine l_neu (n_len rfl (.pure _ _ _ _)) rfl ?_; refine l_neu (n_move rfl rfl) rfl ?_; refine l_nil ?_
  refine k1 ?_; refine k3 ?_
  refine c_while (X := Nat) (fun i => ([(2, .s (.one (.buf 2 Str 1 strC (linesNot (h.Lines.take i) 43)))), (3, .s (.one (.buf 3 Str 1 strC (linesNot (h.Lines.take i) 45)))), (7, sList PatchLine 2 plineC h.Lines), (8, sInt h.Lines.length), (9, sInt i)], [(2, .spare (linesNot (h.Lines.take i) 43).length 1 9), (3, .spare (linesNot (h.Lines.take i) 45).length 1 9)])) (fun i => i ≤ h.Lines.length) (fun i => h.Lines.length - i) 0 (Nat.zero_le _) (Sees.of ⟨le1 rfl, le1 rfl, le1 rfl, le1 rfl, le1 rfl, trivial⟩ ⟨rfl, rfl, trivial⟩) ?_
  intro i hi
  dsimp only at hi ⊢
  have h1 := linesNot_len (h.Lines.take i) 43
  have h2 := linesNot_len (h.Lines.take i) 45
  rw [List.length_take] at h1 h2
  refine k2 ?_
  refine c_region ?_; refine l_neu (n_lss rfl rfl) rfl ?_; refine l_nil ?_
  refine k1 ?_; refine k2 ?_
  refine c_cond rfl (fun ht => ?_) (fun ht => ?_)
  · have hlt : i < h.Lines.length := by have := of_decide_eq_true ht; omega
    have hv : h.Lines[i]? = some h.Lines[i] := by simp [hlt]
    have s1 := linesNot_succ h.Lines 43 i hlt
    have s2 := linesNot_succ h.Lines 45 i hlt
    obtain ⟨x, hx⟩ : ∃ x, x = h.Lines[i] := ⟨_, rfl⟩
    rw [← hx] at hv s1 s2
    refine k5 ?_; refine k1 ?_; refine k2 ?_; refine k3 ?_; refine k2 ?_
    refine c_region ?_; refine l_neu (n_indexAddr rfl (.pure _ _ _ _) rfl (by omega) hv) rfl ?_; refine l_neu (n_loads_eref rfl rfl) rfl ?_; refine l_effv (f_alloc 5 rfl) rfl ?_; refine l_eff (e_store_ref TySz.out rfl rfl rfl rfl rfl rfl) ?_; refine l_nil ?_
    refine then_normal ?_
    refine c_join [(2, .s (.one (.buf 2 Str 1 strC (linesNot (h.Lines.take (i + 1)) 43)))), (3, .s (.one (.buf 3 Str 1 strC (linesNot (h.Lines.take i) 45)))), (5, .s (.one (.ref 5 0))), (7, sList PatchLine 2 plineC h.Lines), (8, sInt h.Lines.length), (9, sInt i)] [(2, .spare (linesNot (h.Lines.take (i + 1)) 43).length 1 9), (3, .spare (linesNot (h.Lines.take i) 45).length 1 9), (5, .box [.p (.v (.int .u8 x.Kind.toNat)), .p (.v (.string ⟨x.Text.toArray⟩))])] ?_ ?_
    · refine k2 ?_
      refine c_region ?_; refine l_neu (n_field_ref rfl) rfl ?_; refine l_neu (n_load_ref rfl rfl rfl) rfl ?_; refine l_neu (n_neq rfl rfl) rfl ?_; refine l_nil ?_
      refine k1 ?_
      refine c_cond rfl (fun ht => ?_) (fun ht => ?_)
      · rw [kn43] at ht
        have h3 : x.Kind ≠ 43 := of_decide_eq_true ht
        rw [if_pos h3] at s1
        skip
        refine c_region ?_; refine l_neu (n_move rfl rfl) rfl ?_; refine l_neu (n_field_ref rfl) rfl ?_; refine l_neu (n_load_ref rfl rfl rfl) rfl ?_; refine l_neu (n_buildSlice (c := strC) (ys := [x.Text]) (asm_cons rfl rfl rfl rfl asm_nil) rfl rfl rfl) rfl ?_; refine l_effv (e_append rfl rfl rfl (.pure _ _ _ _) (by (simp only [List.length_cons, List.length_nil]; omega)) rfl) rfl ?_; refine l_neu (n_assign rfl rfl) rfl ?_; refine l_nil ?_
        refine k1 ?_
        rw [s1]
        exact Sees.of ⟨le1 rfl, le1 rfl, le1 rfl, le1 rfl, le1 rfl, le1 rfl, trivial⟩ ⟨rfl, rfl, rfl, trivial⟩
      · rw [kn43] at ht
        have h3 : ¬ x.Kind ≠ 43 := of_decide_eq_false ht
        rw [if_neg h3] at s1
        refine k5 ?_; refine k1 ?_
        rw [s1]
        exact Sees.of ⟨le1 rfl, le1 rfl, le1 rfl, le1 rfl, le1 rfl, le1 rfl, trivial⟩ ⟨rfl, rfl, rfl, trivial⟩
    · refine k2 ?_
      refine c_region ?_; refine l_neu (n_field_ref rfl) rfl ?_; refine l_neu (n_load_ref rfl rfl rfl) rfl ?_; refine l_neu (n_neq rfl rfl) rfl ?_; refine l_nil ?_
      refine k1 ?_
      refine c_cond rfl (fun ht => ?_) (fun ht => ?_)
      · rw [kn45] at ht
        have h3 : x.Kind ≠ 45 := of_decide_eq_true ht
        rw [if_pos h3] at s2
        skip
        refine c_region ?_; refine l_neu (n_move rfl rfl) rfl ?_; refine l_neu (n_field_ref rfl) rfl ?_; refine l_neu (n_load_ref rfl rfl rfl) rfl ?_; refine l_neu (n_buildSlice (c := strC) (ys := [x.Text]) (asm_cons rfl rfl rfl rfl asm_nil) rfl rfl rfl) rfl ?_; refine l_effv (e_append rfl rfl rfl (.pure _ _ _ _) (by (simp only [List.length_cons, List.length_nil]; omega)) rfl) rfl ?_; refine l_neu (n_assign rfl rfl) rfl ?_; refine l_nil ?_
        refine k4 ?_; refine k1 ?_
        refine c_region ?_; refine l_neu (n_add rfl rfl (by omega)) rfl ?_; refine l_neu (n_move rfl rfl) rfl ?_; refine l_nil ?_
        refine k1 ?_
        refine ⟨i + 1, by omega, by omega, ?_⟩
        rw [s2]
        exact Sees.of ⟨le1 rfl, le1 rfl, le1 rfl, le1 rfl, le1 rfl, trivial⟩ ⟨rfl, rfl, trivial⟩
      · rw [kn45] at ht
        have h3 : ¬ x.Kind ≠ 45 := of_decide_eq_false ht
        rw [if_neg h3] at s2
        refine k5 ?_; refine k4 ?_; refine k1 ?_
        refine c_region ?_; refine l_neu (n_add rfl rfl (by omega)) rfl ?_; refine l_neu (n_move rfl rfl) rfl ?_; refine l_nil ?_
        refine k1 ?_
        refine ⟨i + 1, by omega, by omega, ?_⟩
        rw [s2]
        exact Sees.of ⟨le1 rfl, le1 rfl, le1 rfl, le1 rfl, le1 rfl, trivial⟩ ⟨rfl, rfl, trivial⟩
  · have hi' : i = h.Lines.length := by have := of_decide_eq_false ht; omega
    subst hi'
    rw [List.take_length]
    refine k6 ?_; refine k2 ?_
    refine c_region ?_; refine l_neu (n_move rfl rfl) rfl ?_; refine l_neu (n_move rfl rfl) rfl ?_; refine l_neu (n_assign rfl rfl) rfl ?_; refine l_neu (n_assign rfl rfl) rfl ?_; refine l_nil ?_
    refine k1 ?_; refine k10 ?_
    exact ret_ret (ret2 rfl rfl rfl rfl rfl) rfl
end Go.Proofs.YtbiadkkamhpdnaaGreatDoor
