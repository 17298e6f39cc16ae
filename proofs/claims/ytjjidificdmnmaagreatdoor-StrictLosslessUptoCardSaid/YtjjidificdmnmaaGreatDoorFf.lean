/- Walks of the program's functions. -/
import Derived.Test.YtjjidificdmnmaaGreatDoorFe
import Derived.Test.YtjjidificdmnmaaGreatDoorFc
namespace Go.Proofs.YtjjidificdmnmaaGreatDoor
open Go Go.AL
set_option maxRecDepth 100000
end Go.Proofs.YtjjidificdmnmaaGreatDoor
namespace Go.Proofs.YtjjidificdmnmaaGreatDoor
open Go Go.AL
set_option maxRecDepth 100000
set_option maxHeartbeats 1000000
end Go.Proofs.YtjjidificdmnmaaGreatDoor
namespace Go.Proofs.YtjjidificdmnmaaGreatDoor
open Go Go.AL
set_option maxRecDepth 100000
theorem spoiled_ok (s : Str) (what pos c : Int) (hs : s.length ≤ 1099511627776) : FnOk Tryz.prog 29 [pStr s, pInt what, pInt pos, pInt c]
    (fun rs => ∃ t : Str, rs = [pStr t] ∧ t.length ≤ s.length + 1) := by
  obtain ⟨a1, a2⟩ := modOf_in pos (n := (s.length : Int) + 1) (by omega)
  obtain ⟨i, hi⟩ : ∃ i : Nat, modOf pos ((s.length : Int) + 1) = i := ⟨(modOf pos ((s.length : Int) + 1)).toNat, by omega⟩
  have hM := mod_ok pos ((s.length : Int) + 1) (by omega) (by omega)
  rw [hi] at hM a1 a2
  have hil : i ≤ s.length := by omega
  obtain ⟨x, hx⟩ : ∃ x, x = modOf what 4 := ⟨_, rfl⟩
  have hW := mod_ok what 4 (by omega) (by omega)
  rw [← hx] at hW
  obtain ⟨d, hd⟩ : ∃ d : UInt8, IntKind.u8.wrap c = (d.toNat : Int) := by
    refine ⟨UInt8.ofNat (IntKind.u8.wrap c).toNat, ?_⟩
    have hw : IntKind.u8.wrap c = c % 256 := rfl
    rw [hw, UInt8.toNat_ofNat']
    omega
  refine FnOk.intro Tryz.func29 (by decide) rfl rfl rfl rfl ?_
  refine k2 ?_
  refine c_region ?_; refine l_neu (n_assign rfl rfl) rfl ?_; refine l_nil ?_
  refine k1 ?_; refine k2 ?_
  refine c_region ?_; refine l_neu (n_move rfl rfl) rfl ?_; refine l_neu (n_move rfl rfl) rfl ?_; refine l_neu (n_len_s rfl) rfl ?_; refine l_neu (n_add rfl rfl (by omega)) rfl ?_; refine l_call (hM) rfl rfl rfl ?_; rintro _ rfl; refine l_neu (n_assign rfl rfl) rfl ?_; refine l_nil ?_
  refine k1 ?_; refine k2 ?_; refine k2 ?_
  refine c_region ?_; refine l_neu (n_move rfl rfl) rfl ?_; refine l_call (hW) rfl rfl rfl ?_; rintro _ rfl; refine l_nil ?_
  refine k1 ?_; refine k3 ?_; refine k2 ?_
  refine c_region ?_; refine l_neu (n_eql rfl rfl) rfl ?_; refine l_neu (n_assign rfl rfl) rfl ?_; refine l_nil ?_
  refine k1 ?_
  refine c_cond rfl (fun ht => ?_) (fun ht => ?_)
  · refine k2 ?_
    refine c_region_draw (by kernel_rfl) (by kernel_rfl) ?_; refine d_neu (n_move rfl rfl) rfl rfl ?_; refine d_neu (n_move rfl rfl) rfl rfl ?_; refine d_neu (n_sub_h rfl rfl (by omega) (by omega)) rfl rfl ?_; refine d_neu (n_move rfl rfl) rfl rfl ?_; refine d_neu (n_convert rfl) rfl rfl ?_; rw [hd]; refine d_neu (n_buildSlice (c := u8C) (ys := [_]) (asm_cons rfl rfl rfl rfl asm_nil) rfl rfl rfl) rfl rfl ?_; refine d_neu (n_bytes_string TyStr.out rfl (.pure _ _ _ _)) rfl rfl ?_; refine d_neu (n_add_s rfl rfl (by simp; omega)) rfl rfl ?_; refine d_neu (n_move rfl rfl) rfl rfl ?_; refine d_neu (n_move rfl rfl) rfl rfl ?_; refine d_neu (n_sub_l rfl rfl (by omega) (by omega)) rfl rfl ?_; refine d_neu (n_add_s rfl rfl (by simp; omega)) rfl rfl ?_; refine d_neu (n_assign rfl rfl) rfl rfl ?_; refine d_nil ?_
    refine k1 ?_; refine k10 ?_; refine k12 ?_; refine k11 ?_
    exact ret_ret (ret1 rfl rfl rfl) ⟨_, rfl, by simp; omega⟩
  refine k2 ?_
  refine c_region ?_; refine l_neu (n_eql rfl rfl) rfl ?_; refine l_neu (n_assign rfl rfl) rfl ?_; refine l_nil ?_
  refine k1 ?_
  refine c_cond rfl (fun ht => ?_) (fun ht => ?_)
  · refine k2 ?_
    refine c_region_draw (by kernel_rfl) (by kernel_rfl) ?_; refine d_neu (n_move rfl rfl) rfl rfl ?_; refine d_neu (n_move rfl rfl) rfl rfl ?_; refine d_neu (n_sub_h rfl rfl (by omega) (by omega)) rfl rfl ?_; refine d_neu (n_move rfl rfl) rfl rfl ?_; refine d_neu (n_move rfl rfl) rfl rfl ?_; refine d_neu (n_add rfl rfl (by omega)) rfl rfl ?_; refine d_neu (n_move rfl rfl) rfl rfl ?_; refine d_neu (n_len_s rfl) rfl rfl ?_; refine d_neu (n_min rfl rfl) rfl rfl ?_; refine d_neu (n_sub_l rfl rfl (by omega) (by omega)) rfl rfl ?_; refine d_neu (n_add_s rfl rfl (by simp; omega)) rfl rfl ?_; refine d_neu (n_assign rfl rfl) rfl rfl ?_; refine d_nil ?_
    refine k1 ?_; refine k10 ?_; refine k12 ?_; refine k11 ?_
    exact ret_ret (ret1 rfl rfl rfl) ⟨_, rfl, by simp; omega⟩
  refine k2 ?_
  refine c_region ?_; refine l_neu (n_eql rfl rfl) rfl ?_; refine l_neu (n_assign rfl rfl) rfl ?_; refine l_nil ?_
  refine k1 ?_
  refine c_cond rfl (fun ht => ?_) (fun ht => ?_)
  · refine k2 ?_
    refine c_region_draw (by kernel_rfl) (by kernel_rfl) ?_; refine d_neu (n_move rfl rfl) rfl rfl ?_; refine d_neu (n_move rfl rfl) rfl rfl ?_; refine d_neu (n_sub_h rfl rfl (by omega) (by omega)) rfl rfl ?_; refine d_neu (n_move rfl rfl) rfl rfl ?_; refine d_neu (n_convert rfl) rfl rfl ?_; rw [hd]; refine d_neu (n_buildSlice (c := u8C) (ys := [_]) (asm_cons rfl rfl rfl rfl asm_nil) rfl rfl rfl) rfl rfl ?_; refine d_neu (n_bytes_string TyStr.out rfl (.pure _ _ _ _)) rfl rfl ?_; refine d_neu (n_add_s rfl rfl (by simp; omega)) rfl rfl ?_; refine d_neu (n_move rfl rfl) rfl rfl ?_; refine d_neu (n_move rfl rfl) rfl rfl ?_; refine d_neu (n_add rfl rfl (by omega)) rfl rfl ?_; refine d_neu (n_move rfl rfl) rfl rfl ?_; refine d_neu (n_len_s rfl) rfl rfl ?_; refine d_neu (n_min rfl rfl) rfl rfl ?_; refine d_neu (n_sub_l rfl rfl (by omega) (by omega)) rfl rfl ?_; refine d_neu (n_add_s rfl rfl (by simp; omega)) rfl rfl ?_; refine d_neu (n_assign rfl rfl) rfl rfl ?_; refine d_nil ?_
    refine k1 ?_; refine k10 ?_; refine k12 ?_; refine k11 ?_
    exact ret_ret (ret1 rfl rfl rfl) ⟨_, rfl, by simp; omega⟩
  refine k5 ?_; refine k2 ?_
  refine c_region ?_; refine l_neu (n_move rfl rfl) rfl ?_; refine l_neu (n_assign rfl rfl) rfl ?_; refine l_nil ?_
  refine k1 ?_; refine k10 ?_
  exact ret_ret (ret1 rfl rfl rfl) ⟨_, rfl, by omega⟩
theorem strictBy_sz (s : Str) : szP (strictBy parseP s).1.Hunks ≤ 66 * s.length := by
  have h0 : szP patch0.Hunks ≤ 66 * s.length := Nat.zero_le _
  unfold strictBy
  split
  · exact h0
  · split
    · exact h0
    · rename_i l hl
      split
      · exact h0
      · rename_i p hp
        split
        · exact h0
        · have := parseP_sz hp
          have := (linesS_sz hl).1
          dsimp only; omega
set_option maxHeartbeats 1000000
end Go.Proofs.YtjjidificdmnmaaGreatDoor
namespace Go.Proofs.YtjjidificdmnmaaGreatDoor
open Go Go.AL
set_option maxRecDepth 100000
set_option maxHeartbeats 1000000
theorem lawLossless_ok (raw : List Int) (ctx what pos c : Int) (s : Str) : FnOk Tryz.prog 8 [pInts raw, pInt ctx, pInt what, pInt pos, pInt c, pStr s] (fun rs => rs = [pBool true]) := by
  have hm := made13_ok raw ctx
  obtain ⟨_, m2, m3, m4⟩ := madeS_facts raw ctx
  obtain ⟨p, hp⟩ : ∃ p, p = madeS raw ctx := ⟨_, rfl⟩
  rw [← hp] at hm m2 m3 m4
  obtain ⟨w, hw⟩ : ∃ w, w = writeOf p := ⟨_, rfl⟩
  rw [← hw] at hm m4
  have hS := spoiled_ok w what pos c (by omega)
  refine FnOk.intro Tryz.func8 (by decide) rfl rfl rfl rfl ?_
  refine k2 ?_
  refine c_region ?_; refine l_neu (n_assign rfl rfl) rfl ?_; refine l_nil ?_
  refine k1 ?_; refine k2 ?_; refine k2 ?_
  refine c_region ?_; refine l_neu (n_move rfl rfl) rfl ?_; refine l_neu (n_len_s rfl) rfl ?_; refine l_neu (n_gtr rfl rfl) rfl ?_; refine l_nil ?_
  refine k1 ?_
  refine c_cond rfl (fun ht => ?_) (fun ht => ?_)
  · refine k2 ?_
    refine c_region ?_; refine l_call (awake13_ok) rfl rfl rfl ?_; rintro _ rfl; refine l_neu (n_assign rfl rfl) rfl ?_; refine l_nil ?_
    refine k1 ?_; refine k10 ?_; refine k11 ?_
    exact ret_ret (ret1 rfl rfl rfl) rfl
  have hsl : s.length ≤ 120 := by have := of_decide_eq_false ht; omega
  refine k5 ?_; refine k1 ?_; refine k2 ?_
  refine c_region ?_; refine l_neu (n_move rfl rfl) rfl ?_; refine l_neu (n_move rfl rfl) rfl ?_; refine l_call (hm) rfl rfl rfl ?_; rintro _ rfl; refine l_neu (n_move rfl rfl) rfl ?_; refine l_neu (n_extract rfl rfl) rfl ?_; refine l_neu (n_extract rfl rfl) rfl ?_; refine l_effv (f_alloc 13 rfl) rfl ?_; refine l_eff (e_store_ref TySz.out rfl rfl rfl rfl rfl rfl) ?_; refine l_neu (n_assign rfl rfl) rfl ?_; refine l_nil ?_
  refine k1 ?_; refine k2 ?_
  refine c_region ?_; refine l_neu (n_move rfl rfl) rfl ?_; refine l_neu (n_move rfl rfl) rfl ?_; refine l_neu (n_move rfl rfl) rfl ?_; refine l_neu (n_move rfl rfl) rfl ?_; refine l_call (hS) rfl rfl rfl ?_; rintro _ ⟨t0, rfl, htl⟩; refine l_neu (n_assign rfl rfl) rfl ?_; refine l_nil ?_
  refine k1 ?_; refine k2 ?_; refine k2 ?_
  refine c_region ?_; refine l_neu (n_assign rfl rfl) rfl ?_; refine l_nil ?_
  refine k1 ?_; refine k3 ?_
  refine c_while (X := Nat × Str) (fun x => ([(5, sStr s), (14, sStr x.2), (15, sInt x.1)], [])) (fun x => x.1 ≤ 2 ∧ x.2.length ≤ 140000) (fun x => 2 - x.1) (0, t0) ⟨by omega, by dsimp only; omega⟩ (Sees.of ⟨le1 rfl, le1 rfl, le1 rfl, trivial⟩ trivial) ?_
  rintro ⟨i, t⟩ ⟨hi, htl2⟩
  dsimp only at hi htl2 ⊢
  have h1 := stParse_ok t (by omega)
  have z1 := strictBy_sz t
  unfold strictR at h1
  refine k2 ?_; refine k2 ?_
  refine c_region ?_; refine l_neu (n_move rfl rfl) rfl ?_; refine l_neu (n_lss rfl rfl) rfl ?_; refine l_nil ?_
  refine k1 ?_
  refine c_cond rfl (fun ht => ?_) (fun ht => ?_)
  rotate_left
  · refine k6 ?_; refine k2 ?_
    refine c_region ?_; refine l_call (awake13_ok) rfl rfl rfl ?_; rintro _ rfl; refine l_neu (n_assign rfl rfl) rfl ?_; refine l_nil ?_
    refine k1 ?_; refine k10 ?_
    exact ret_ret (ret1 rfl rfl rfl) rfl
  have hi2 : i < 2 := by have := of_decide_eq_true ht; omega
  obtain ⟨q, hq⟩ : ∃ q, q = strictBy parseP t := ⟨_, rfl⟩
  rw [← hq] at h1 z1
  refine k5 ?_; refine k1 ?_; refine k2 ?_; refine k3 ?_; refine k2 ?_
  refine c_region ?_; refine l_neu (n_move rfl rfl) rfl ?_; refine l_call (h1) rfl rfl rfl ?_; rintro _ rfl; refine l_neu (n_move rfl rfl) rfl ?_; refine l_neu (n_extract rfl rfl) rfl ?_; refine l_neu (n_extract rfl rfl) rfl ?_; refine l_effv (f_alloc 16 rfl) rfl ?_; refine l_eff (e_store_ref TySz.out rfl rfl rfl rfl rfl rfl) ?_; refine l_neu (n_assign rfl rfl) rfl ?_; refine l_nil ?_
  refine k1 ?_; refine k2 ?_; refine k2 ?_
  refine c_region ?_; refine l_neu (n_move rfl rfl) rfl ?_; refine l_neu (n_eql rfl rfl) rfl ?_; refine l_nil ?_
  refine k1 ?_
  refine c_cond rfl (fun ht => ?_) (fun ht => ?_)
  · have hz : q.2 = 0 := of_decide_eq_true ht
    obtain ⟨c1, c2⟩ := strictBy_ok (f := parseP) (s := t) (by rw [← hq]; exact hz)
    rw [← hq] at c1 c2
    have hF := uformat_ok q.1 (by omega)
    rw [c1, if_neg (by simp), c2] at hF
    have hU := ucheck_ok q.1 (by omega)
    rw [c1] at hU
    refine k2 ?_
    refine c_region ?_; refine l_neu (n_loads_ref rfl rfl rfl) rfl ?_; refine l_call (hF) rfl rfl rfl ?_; rintro _ rfl; refine l_neu (n_move rfl rfl) rfl ?_; refine l_neu (n_extract rfl rfl) rfl ?_; refine l_neu (n_extract rfl rfl) rfl ?_; refine l_neu (n_assign rfl rfl) rfl ?_; refine l_neu (n_assign rfl rfl) rfl ?_; refine l_nil ?_
    refine k1 ?_; refine k2 ?_
    refine c_region ?_; refine l_neu (n_move rfl rfl) rfl ?_; refine l_neu (n_neq rfl rfl) rfl ?_; refine l_neu (n_move rfl rfl) rfl ?_; refine l_guard rfl rfl rfl rfl (fun hg => by rw [hg]; exact n_move rfl rfl) ?_; refine l_guard rfl rfl rfl rfl (fun hg => by rw [hg]; exact n_move rfl rfl) ?_; refine l_guard rfl rfl rfl rfl (fun hg => by rw [hg]; exact n_neq_s rfl rfl) ?_; refine l_neu (n_pick_bool rfl (fun h => by first | rfl | (rw [h]; rfl)) (fun h => by first | rfl | (rw [h]; rfl))) rfl ?_; refine l_neu (n_move rfl rfl) rfl ?_; refine l_guard rfl rfl rfl rfl (fun hg => by rw [hg]; exact n_loads_ref rfl rfl rfl) ?_; refine l_guard rfl rfl rfl rfl (fun hg => by have hq := hg; (try simp at hq); rw [hg]; exact n_call1 (hU) rfl rfl) ?_; refine l_guard rfl rfl rfl rfl (fun hg => by rw [hg]; exact n_neq rfl rfl) ?_; refine l_neu (n_pick_bool rfl (fun h => by first | rfl | (rw [h]; rfl)) (fun h => by first | rfl | (rw [h]; rfl))) rfl ?_; refine l_nil ?_
    refine k1 ?_
    refine c_cond rfl (fun ht => ?_) (fun ht => ?_)
    · exfalso; simp at ht
    refine k5 ?_; refine k1 ?_
    refine c_region ?_; refine l_neu (n_move rfl rfl) rfl ?_; refine l_neu (n_add_s rfl rfl (by simp; omega)) rfl ?_; refine l_neu (n_assign rfl rfl) rfl ?_; refine l_nil ?_
    refine k4 ?_; refine k1 ?_
    refine c_region ?_; refine l_neu (n_move rfl rfl) rfl ?_; refine l_neu (n_add rfl rfl (by omega)) rfl ?_; refine l_neu (n_assign rfl rfl) rfl ?_; refine l_nil ?_
    refine k1 ?_
    exact ⟨(i + 1, [45, 45, 45, 32, 97, 10, 43, 43, 43, 32, 98, 10, 64, 64, 32, 45, 49, 32, 43, 49, 44, 50, 32, 64, 64, 10] ++ s), ⟨by omega, by simp; omega⟩, by dsimp only; omega, Sees.of ⟨le1 rfl, le1 rfl, le1 rfl, trivial⟩ trivial⟩
  · skip
    refine k5 ?_; refine k1 ?_
    refine c_region ?_; refine l_neu (n_move rfl rfl) rfl ?_; refine l_neu (n_add_s rfl rfl (by simp; omega)) rfl ?_; refine l_neu (n_assign rfl rfl) rfl ?_; refine l_nil ?_
    refine k4 ?_; refine k1 ?_
    refine c_region ?_; refine l_neu (n_move rfl rfl) rfl ?_; refine l_neu (n_add rfl rfl (by omega)) rfl ?_; refine l_neu (n_assign rfl rfl) rfl ?_; refine l_nil ?_
    refine k1 ?_
    exact ⟨(i + 1, [45, 45, 45, 32, 97, 10, 43, 43, 43, 32, 98, 10, 64, 64, 32, 45, 49, 32, 43, 49, 44, 50, 32, 64, 64, 10] ++ s), ⟨by omega, by simp; omega⟩, by dsimp only; omega, Sees.of ⟨le1 rfl, le1 rfl, le1 rfl, trivial⟩ trivial⟩
end Go.Proofs.YtjjidificdmnmaaGreatDoor
