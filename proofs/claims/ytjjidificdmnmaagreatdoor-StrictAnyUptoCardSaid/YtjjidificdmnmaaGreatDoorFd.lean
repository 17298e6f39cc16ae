/- Walks of the program's functions. -/
import Derived.Test.YtjjidificdmnmaaGreatDoorFc
import Derived.Test.YtjjidificdmnmaaGreatDoorFs
import Derived.Test.YtjjidificdmnmaaGreatDoorAn
namespace Go.Proofs.YtjjidificdmnmaaGreatDoor
open Go Go.AL
set_option maxRecDepth 100000
end Go.Proofs.YtjjidificdmnmaaGreatDoor
namespace Go.Proofs.YtjjidificdmnmaaGreatDoor
open Go Go.AL
set_option maxRecDepth 100000
end Go.Proofs.YtjjidificdmnmaaGreatDoor
namespace Go.Proofs.YtjjidificdmnmaaGreatDoor
open Go Go.AL
set_option maxRecDepth 100000
end Go.Proofs.YtjjidificdmnmaaGreatDoor
namespace Go.Proofs.YtjjidificdmnmaaGreatDoor
open Go Go.AL
set_option maxRecDepth 100000
end Go.Proofs.YtjjidificdmnmaaGreatDoor
namespace Go.Proofs.YtjjidificdmnmaaGreatDoor
open Go Go.AL
set_option maxRecDepth 100000
end Go.Proofs.YtjjidificdmnmaaGreatDoor
namespace Go.Proofs.YtjjidificdmnmaaGreatDoor
open Go Go.AL
set_option maxRecDepth 100000
abbrev plineV (q : PatchLine) : List Value := [.int .u8 q.Kind.toNat, .string ⟨q.Text.toArray⟩]
theorem pline_eq (q q' : PatchLine) : eqVs (plineV q) (plineV q') = decide (q = q') := by
  rw [Bool.eq_iff_iff]
  simp only [eqVs, eqV, ByteArray.toList_mk, Bool.and_eq_true, beq_iff_eq, decide_eq_true_eq, Bool.and_true]
  constructor
  · rintro ⟨h1, h2⟩
    obtain ⟨k, t⟩ := q
    obtain ⟨k', t'⟩ := q'
    obtain rfl : k = k' := UInt8.toNat_inj.1 (by have h1 : (k.toNat : Int) = k'.toNat := h1; omega)
    obtain rfl : t = t' := h2
    rfl
  · rintro rfl; exact ⟨rfl, rfl⟩
theorem take_all_eq {α : Type} {a b : List α} {k : Nat} (hl : a.length = b.length) (hk : k = a.length) (h : a.take k = b.take k) : a = b := by
  subst hk; rw [List.take_length, hl, List.take_length] at h; exact h
theorem take_step_eq {α : Type} {a b : List α} {k : Nat} (h1 : k < a.length) (h2 : k < b.length) (h : a.take k = b.take k) (he : a[k] = b[k]) : a.take (k + 1) = b.take (k + 1) := by
  rw [List.take_succ_eq_append_getElem h1, List.take_succ_eq_append_getElem h2, h, he]
theorem gpatch_ok (a b : Patch) (ha : szP a.Hunks ≤ 1099511627776) : FnOk Tryz.prog 23 [pPatch a, pPatch b] (fun rs => rs = [pBool (decide (a = b))]) := by
  have hsl := szP_len a.Hunks
  refine FnOk.intro Tryz.func23 (by decide) rfl rfl rfl rfl ?_
  refine k2 ?_
  refine c_region ?_; refine l_effv (f_box 2 rfl rfl rfl) rfl ?_; refine l_effv (f_box 3 rfl rfl rfl) rfl ?_; refine l_neu (n_assign rfl rfl) rfl ?_; refine l_nil ?_
  refine k1 ?_; refine k2 ?_; refine k2 ?_
  refine c_region ?_; refine l_neu (n_field_ref rfl) rfl ?_; refine l_neu (n_load_ref rfl rfl rfl) rfl ?_; refine l_neu (n_field_ref rfl) rfl ?_; refine l_neu (n_load_ref rfl rfl rfl) rfl ?_; refine l_neu (n_neq_s rfl rfl) rfl ?_; refine l_neu (n_move rfl rfl) rfl ?_; refine l_guard rfl rfl rfl rfl (fun hg => by rw [hg]; exact n_field_ref rfl) ?_; refine l_guard rfl rfl rfl rfl (fun hg => by rw [hg]; exact n_load_ref rfl rfl rfl) ?_; refine l_guard rfl rfl rfl rfl (fun hg => by rw [hg]; exact n_field_ref rfl) ?_; refine l_guard rfl rfl rfl rfl (fun hg => by rw [hg]; exact n_load_ref rfl rfl rfl) ?_; refine l_guard rfl rfl rfl rfl (fun hg => by rw [hg]; exact n_neq_s rfl rfl) ?_; refine l_neu (n_pick_bool rfl (fun h => by first | rfl | (rw [h]; rfl)) (fun h => by first | rfl | (rw [h]; rfl))) rfl ?_; refine l_neu (n_move rfl rfl) rfl ?_; refine l_guard rfl rfl rfl rfl (fun hg => by rw [hg]; exact n_field_ref rfl) ?_; refine l_guard rfl rfl rfl rfl (fun hg => by rw [hg]; exact n_load_ref rfl rfl rfl) ?_; refine l_guard rfl rfl rfl rfl (fun hg => by rw [hg]; exact n_len rfl (.pure _ _ _ _)) ?_; refine l_guard rfl rfl rfl rfl (fun hg => by rw [hg]; exact n_field_ref rfl) ?_; refine l_guard rfl rfl rfl rfl (fun hg => by rw [hg]; exact n_load_ref rfl rfl rfl) ?_; refine l_guard rfl rfl rfl rfl (fun hg => by rw [hg]; exact n_len rfl (.pure _ _ _ _)) ?_; refine l_guard rfl rfl rfl rfl (fun hg => by rw [hg]; exact n_neq rfl rfl) ?_; refine l_neu (n_pick_bool rfl (fun h => by first | rfl | (rw [h]; rfl)) (fun h => by first | rfl | (rw [h]; rfl))) rfl ?_; refine l_nil ?_
  refine k1 ?_
  refine c_cond rfl (fun ht => ?_) (fun ht => ?_)
  · simp only [or_pick] at ht
    have h := of_decide_eq_true ht
    refine k2 ?_
    refine c_region ?_; refine l_neu (n_assign rfl rfl) rfl ?_; refine l_nil ?_
    refine k1 ?_; refine k10 ?_; refine k11 ?_
    refine ret_ret (rs := [pBool false]) (ret1 rfl rfl rfl) ?_
    rw [decide_eq_false]
    rintro rfl
    simp at h
  simp only [or_pick] at ht
  have h := of_decide_eq_false ht
  have h1 : a.OldName = b.OldName := Decidable.not_not.1 fun q => h (.inl (.inl q))
  have h2 : a.NewName = b.NewName := Decidable.not_not.1 fun q => h (.inl (.inr q))
  have h3 : a.Hunks.length = b.Hunks.length := by
    have : (a.Hunks.length : Int) = b.Hunks.length := Decidable.not_not.1 fun q => h (.inr q)
    omega
  refine k5 ?_; refine k1 ?_; refine k2 ?_; refine k2 ?_
  refine c_region ?_; refine l_neu (n_assign rfl rfl) rfl ?_; refine l_nil ?_
  refine k1 ?_; refine k3 ?_
  refine c_while (X := Nat) (fun k => ([(2, .s (.one (.ref 2 0))), (3, .s (.one (.ref 3 0))), (5, sInt k)], [(2, .box (pPatch a).s1.cells), (3, .box (pPatch b).s1.cells)])) (fun k => k ≤ a.Hunks.length ∧ a.Hunks.take k = b.Hunks.take k) (fun k => a.Hunks.length - k) 0 ⟨Nat.zero_le _, rfl⟩ (Sees.of ⟨le1 rfl, le1 rfl, le1 rfl, trivial⟩ ⟨rfl, rfl, trivial⟩) ?_
  rintro k ⟨hk, he⟩
  dsimp only at hk he ⊢
  refine k2 ?_; refine k2 ?_
  refine c_region ?_; refine l_neu (n_move rfl rfl) rfl ?_; refine l_neu (n_field_ref rfl) rfl ?_; refine l_neu (n_load_ref rfl rfl rfl) rfl ?_; refine l_neu (n_len rfl (.pure _ _ _ _)) rfl ?_; refine l_neu (n_lss rfl rfl) rfl ?_; refine l_nil ?_
  refine k1 ?_
  refine c_cond rfl (fun ht => ?_) (fun ht => ?_)
  · have hlt : k < a.Hunks.length := by have := of_decide_eq_true ht; omega
    have hlt' : k < b.Hunks.length := by omega
    have hv : a.Hunks[k]? = some a.Hunks[k] := by simp [hlt]
    have hv' : b.Hunks[k]? = some b.Hunks[k] := by simp [hlt']
    have hszx : 64 * (a.Hunks[k].Lines.length) ≤ szP a.Hunks := by
      have h3 := szP_mem (List.getElem_mem hlt)
      have h4 := szL_len a.Hunks[k].Lines
      unfold szH at h3; omega
    have hnext := fun q => take_step_eq hlt hlt' he q
    have hno : a.Hunks[k] ≠ b.Hunks[k] → decide (a = b) = false := fun q => by
      rw [decide_eq_false]; rintro rfl; exact q rfl
    obtain ⟨x, hx⟩ : ∃ x, x = a.Hunks[k] := ⟨_, rfl⟩
    obtain ⟨y, hy⟩ : ∃ y, y = b.Hunks[k] := ⟨_, rfl⟩
    rw [← hx] at hv hszx
    rw [← hy] at hv'
    rw [← hx, ← hy] at hnext hno
    refine k5 ?_; refine k1 ?_; refine k2 ?_; refine k3 ?_; refine k2 ?_
    refine c_region_any [13, 12, 11, 10] [[], [10], [11], [11, 10], [12, 11, 10], [13, 12, 11, 10]] [(0, [10]), (0, [11]), (0, [11, 10]), (1, [10]), (1, [11]), (1, [11, 10]), (2, [10]), (2, [11]), (2, [11, 10]), (3, [10]), (3, [11]), (3, [11, 10]), (4, [10]), (4, [11]), (4, [11, 10]), (5, [10]), (5, [11]), (5, [11, 10]), (5, [12, 11, 10]), (6, [10]), (6, [11]), (6, [11, 10]), (6, [12, 11, 10]), (7, [10]), (7, [11]), (7, [11, 10]), (7, [12, 11, 10]), (8, [10]), (8, [11]), (8, [11, 10]), (8, [12, 11, 10]), (9, [10]), (9, [11]), (9, [11, 10]), (9, [12, 11, 10]), (10, [11]), (11, [])] (by kernel_rfl) (by kernel_rfl) ?_; refine a_neu rfl (n_field_ref rfl) ?_; refine a_neu rfl (n_load_ref rfl rfl rfl) ?_; refine a_neu rfl (n_move rfl rfl) ?_; refine a_neu rfl (n_indexAddr rfl (.pure _ _ _ _) rfl (by omega) hv) ?_; refine a_neu rfl (n_loads_eref rfl rfl) ?_; refine a_neu rfl (n_field_ref rfl) ?_; refine a_neu rfl (n_load_ref rfl rfl rfl) ?_; refine a_neu rfl (n_move rfl rfl) ?_; refine a_neu rfl (n_indexAddr rfl (.pure _ _ _ _) rfl (by omega) hv') ?_; refine a_neu rfl (n_loads_eref rfl rfl) ?_; refine a_alloc 6 rfl rfl ?_; refine a_alloc 7 rfl rfl ?_; refine a_store (u_store_ref TySz.out rfl rfl rfl rfl rfl rfl) ?_; refine a_store (u_store_ref TySz.out rfl rfl rfl rfl rfl rfl) ?_; refine a_nil rfl ?_ ?_
    · refine o_neu rfl rfl (n_field_ref rfl) ?_; refine o_neu rfl rfl (n_field_ref rfl) ?_; refine o_neu rfl rfl (n_field_ref rfl) ?_; refine o_neu rfl rfl (n_load_ref rfl rfl rfl) ?_; refine o_neu rfl rfl (n_load_ref rfl rfl rfl) ?_; refine o_neu rfl rfl (n_load_ref rfl rfl rfl) ?_; refine o_neu rfl rfl (n_move rfl rfl) ?_; refine o_neu rfl rfl (n_move rfl rfl) ?_; refine o_neu rfl rfl (n_move rfl rfl) ?_; refine o_neu rfl rfl (n_indexAddr rfl (.pure _ _ _ _) rfl (by omega) hv) ?_; refine o_neu rfl rfl (n_indexAddr rfl (.pure _ _ _ _) rfl (by omega) hv) ?_; refine o_neu rfl rfl (n_indexAddr rfl (.pure _ _ _ _) rfl (by omega) hv) ?_; refine o_neu rfl rfl (n_loads_eref rfl rfl) ?_; refine o_neu rfl rfl (n_loads_eref rfl rfl) ?_; refine o_neu rfl rfl (n_loads_eref rfl rfl) ?_; refine o_neu rfl rfl (n_field_ref rfl) ?_; refine o_neu rfl rfl (n_field_ref rfl) ?_; refine o_neu rfl rfl (n_field_ref rfl) ?_; refine o_neu rfl rfl (n_field_ref rfl) ?_; refine o_neu rfl rfl (n_load_ref rfl rfl rfl) ?_; refine o_neu rfl rfl (n_load_ref rfl rfl rfl) ?_; refine o_neu rfl rfl (n_load_ref rfl rfl rfl) ?_; refine o_neu rfl rfl (n_load_ref rfl rfl rfl) ?_; refine o_neu rfl rfl (n_move rfl rfl) ?_; refine o_neu rfl rfl (n_move rfl rfl) ?_; refine o_neu rfl rfl (n_move rfl rfl) ?_; refine o_neu rfl rfl (n_move rfl rfl) ?_; refine o_neu rfl rfl (n_indexAddr rfl (.pure _ _ _ _) rfl (by omega) hv') ?_; refine o_neu rfl rfl (n_indexAddr rfl (.pure _ _ _ _) rfl (by omega) hv') ?_; refine o_neu rfl rfl (n_indexAddr rfl (.pure _ _ _ _) rfl (by omega) hv') ?_; refine o_neu rfl rfl (n_indexAddr rfl (.pure _ _ _ _) rfl (by omega) hv') ?_; refine o_neu rfl rfl (n_loads_eref rfl rfl) ?_; refine o_neu rfl rfl (n_loads_eref rfl rfl) ?_; refine o_neu rfl rfl (n_loads_eref rfl rfl) ?_; refine o_neu rfl rfl (n_loads_eref rfl rfl) ?_; refine o_alloc rfl rfl rfl rfl rfl ?_; refine o_alloc rfl rfl rfl rfl rfl ?_; exact o_nil
    refine k1 ?_; refine k2 ?_; refine k2 ?_
    refine c_region ?_; refine l_neu (n_field_ref rfl) rfl ?_; refine l_neu (n_load_ref rfl rfl rfl) rfl ?_; refine l_neu (n_field_ref rfl) rfl ?_; refine l_neu (n_load_ref rfl rfl rfl) rfl ?_; refine l_neu (n_neq rfl rfl) rfl ?_; refine l_neu (n_move rfl rfl) rfl ?_; refine l_guard rfl rfl rfl rfl (fun hg => by rw [hg]; exact n_field_ref rfl) ?_; refine l_guard rfl rfl rfl rfl (fun hg => by rw [hg]; exact n_load_ref rfl rfl rfl) ?_; refine l_guard rfl rfl rfl rfl (fun hg => by rw [hg]; exact n_field_ref rfl) ?_; refine l_guard rfl rfl rfl rfl (fun hg => by rw [hg]; exact n_load_ref rfl rfl rfl) ?_; refine l_guard rfl rfl rfl rfl (fun hg => by rw [hg]; exact n_neq rfl rfl) ?_; refine l_neu (n_pick_bool rfl (fun h => by first | rfl | (rw [h]; rfl)) (fun h => by first | rfl | (rw [h]; rfl))) rfl ?_; refine l_neu (n_move rfl rfl) rfl ?_; refine l_guard rfl rfl rfl rfl (fun hg => by rw [hg]; exact n_field_ref rfl) ?_; refine l_guard rfl rfl rfl rfl (fun hg => by rw [hg]; exact n_load_ref rfl rfl rfl) ?_; refine l_guard rfl rfl rfl rfl (fun hg => by rw [hg]; exact n_len rfl (.pure _ _ _ _)) ?_; refine l_guard rfl rfl rfl rfl (fun hg => by rw [hg]; exact n_field_ref rfl) ?_; refine l_guard rfl rfl rfl rfl (fun hg => by rw [hg]; exact n_load_ref rfl rfl rfl) ?_; refine l_guard rfl rfl rfl rfl (fun hg => by rw [hg]; exact n_len rfl (.pure _ _ _ _)) ?_; refine l_guard rfl rfl rfl rfl (fun hg => by rw [hg]; exact n_neq rfl rfl) ?_; refine l_neu (n_pick_bool rfl (fun h => by first | rfl | (rw [h]; rfl)) (fun h => by first | rfl | (rw [h]; rfl))) rfl ?_; refine l_nil ?_
    refine k1 ?_
    refine c_cond rfl (fun ht => ?_) (fun ht => ?_)
    · simp only [or_pick] at ht
      have h := of_decide_eq_true ht
      refine k2 ?_
      refine c_region ?_; refine l_neu (n_assign rfl rfl) rfl ?_; refine l_nil ?_
      refine k1 ?_; refine k10 ?_; refine k11 ?_; refine k12 ?_; refine k11 ?_; refine k11 ?_; refine k12 ?_; refine k11 ?_
      refine ret_ret (rs := [pBool false]) (ret1 rfl rfl rfl) ?_
      rw [hno]
      rintro rfl
      simp at h
    simp only [or_pick] at ht
    have g := of_decide_eq_false ht
    have g1 : x.Old = y.Old := Decidable.not_not.1 fun q => g (.inl (.inl q))
    have g2 : x.New = y.New := Decidable.not_not.1 fun q => g (.inl (.inr q))
    have g3 : x.Lines.length = y.Lines.length := by
      have : (x.Lines.length : Int) = y.Lines.length := Decidable.not_not.1 fun q => g (.inr q)
      omega
    refine k5 ?_; refine k1 ?_; refine k2 ?_
    refine c_region ?_; refine l_neu (n_assign rfl rfl) rfl ?_; refine l_nil ?_
    refine k1 ?_; refine k3 ?_
    refine c_while (X := Nat) (fun i => ([(2, .s (.one (.ref 2 0))), (3, .s (.one (.ref 3 0))), (5, sInt k), (6, .s (.one (.ref 6 0))), (7, .s (.one (.ref 7 0))), (8, sInt i)], [(2, .box (pPatch a).s1.cells), (3, .box (pPatch b).s1.cells), (6, .box (pPhunk x).s1.cells), (7, .box (pPhunk y).s1.cells)])) (fun i => i ≤ x.Lines.length ∧ x.Lines.take i = y.Lines.take i) (fun i => x.Lines.length - i) 0 ⟨Nat.zero_le _, rfl⟩ (Sees.of ⟨le1 rfl, le1 rfl, le1 rfl, le1 rfl, le1 rfl, le1 rfl, trivial⟩ ⟨rfl, rfl, rfl, rfl, trivial⟩) ?_
    rintro i ⟨hi, hie⟩
    dsimp only at hi hie ⊢
    refine k2 ?_; refine k2 ?_
    refine c_region ?_; refine l_neu (n_move rfl rfl) rfl ?_; refine l_neu (n_field_ref rfl) rfl ?_; refine l_neu (n_load_ref rfl rfl rfl) rfl ?_; refine l_neu (n_len rfl (.pure _ _ _ _)) rfl ?_; refine l_neu (n_lss rfl rfl) rfl ?_; refine l_nil ?_
    refine k1 ?_
    refine c_cond rfl (fun ht => ?_) (fun ht => ?_)
    · have hlt2 : i < x.Lines.length := by have := of_decide_eq_true ht; omega
      have hlt2' : i < y.Lines.length := by omega
      have w : x.Lines[i]? = some x.Lines[i] := by simp [hlt2]
      have w' : y.Lines[i]? = some y.Lines[i] := by simp [hlt2']
      have inext := fun q => take_step_eq hlt2 hlt2' hie q
      have ino : x.Lines[i] ≠ y.Lines[i] → x ≠ y := fun q e => by subst e; exact q rfl
      obtain ⟨u, hu⟩ : ∃ u, u = x.Lines[i] := ⟨_, rfl⟩
      obtain ⟨v, hv2⟩ : ∃ v, v = y.Lines[i] := ⟨_, rfl⟩
      rw [← hu] at w
      rw [← hv2] at w'
      rw [← hu, ← hv2] at inext ino
      refine k5 ?_; refine k1 ?_; refine k2 ?_; refine k3 ?_; refine k2 ?_
      refine c_region_draw (by kernel_rfl) (by kernel_rfl) ?_; refine d_neu (n_field_ref rfl) rfl rfl ?_; refine d_neu (n_load_ref rfl rfl rfl) rfl rfl ?_; refine d_neu (n_move rfl rfl) rfl rfl ?_; refine d_neu (n_indexAddr rfl (.pure _ _ _ _) rfl (by omega) w) rfl rfl ?_; refine d_neu (n_loads_eref rfl rfl) rfl rfl ?_; refine d_neu (n_field_ref rfl) rfl rfl ?_; refine d_neu (n_load_ref rfl rfl rfl) rfl rfl ?_; refine d_neu (n_move rfl rfl) rfl rfl ?_; refine d_neu (n_indexAddr rfl (.pure _ _ _ _) rfl (by omega) w') rfl rfl ?_; refine d_neu (n_loads_eref rfl rfl) rfl rfl ?_; refine d_neu (n_neq_st (plineV u) (plineV v) rfl rfl rfl rfl (pline_eq u v)) rfl rfl ?_; refine d_nil ?_
      refine k1 ?_
      refine c_cond rfl (fun ht => ?_) (fun ht => ?_)
      · have e : u ≠ v := by simpa using ht
        refine k2 ?_
        refine c_region ?_; refine l_neu (n_assign rfl rfl) rfl ?_; refine l_nil ?_
        refine k1 ?_; refine k10 ?_; refine k12 ?_; refine k11 ?_; refine k11 ?_; refine k12 ?_; refine k12 ?_; refine k11 ?_; refine k11 ?_; refine k12 ?_; refine k11 ?_
        exact ret_ret (rs := [pBool false]) (ret1 rfl rfl rfl) (by rw [hno (ino e)])
      · have e : u = v := by simpa using ht
        refine k5 ?_; refine k4 ?_; refine k1 ?_
        refine c_region ?_; refine l_neu (n_move rfl rfl) rfl ?_; refine l_neu (n_add rfl rfl (by omega)) rfl ?_; refine l_neu (n_assign rfl rfl) rfl ?_; refine l_nil ?_
        refine k1 ?_
        exact ⟨i + 1, ⟨by omega, inext e⟩, by omega, Sees.of ⟨le1 rfl, le1 rfl, le1 rfl, le1 rfl, le1 rfl, le1 rfl, trivial⟩ ⟨rfl, rfl, rfl, rfl, trivial⟩⟩
    · have hi' : i = x.Lines.length := by have := of_decide_eq_false ht; omega
      have hxy : x = y := by
        have h5 := take_all_eq g3 hi' hie
        clear hno hnext hv hv' hx hy
        obtain ⟨x1, x2, x3⟩ := x
        obtain ⟨y1, y2, y3⟩ := y
        simp only at g1 g2 h5
        subst g1 g2 h5
        rfl
      refine k6 ?_; refine k7 ?_; refine k7 ?_; refine k8 rfl ?_; refine k4 ?_; refine k1 ?_
      refine c_region ?_; refine l_neu (n_move rfl rfl) rfl ?_; refine l_neu (n_add rfl rfl (by omega)) rfl ?_; refine l_neu (n_assign rfl rfl) rfl ?_; refine l_nil ?_
      refine k1 ?_
      exact ⟨k + 1, ⟨by omega, hnext hxy⟩, by omega, Sees.of ⟨le1 rfl, le1 rfl, le1 rfl, trivial⟩ ⟨rfl, rfl, trivial⟩⟩
  · have hk' : k = a.Hunks.length := by have := of_decide_eq_false ht; omega
    have hab : a = b := by
      have h5 := take_all_eq h3 hk' he
      obtain ⟨a1, a2, a3⟩ := a
      obtain ⟨b1, b2, b3⟩ := b
      simp only at h1 h2 h5
      subst h1 h2 h5
      rfl
    refine k6 ?_; refine k2 ?_
    refine c_region ?_; refine l_neu (n_assign rfl rfl) rfl ?_; refine l_nil ?_
    refine k1 ?_; refine k10 ?_
    exact ret_ret (rs := [pBool true]) (ret1 rfl rfl rfl) (by rw [decide_eq_true hab])
end Go.Proofs.YtjjidificdmnmaaGreatDoor
namespace Go.Proofs.YtjjidificdmnmaaGreatDoor
open Go Go.AL
set_option maxRecDepth 100000
end Go.Proofs.YtjjidificdmnmaaGreatDoor
namespace Go.Proofs.YtjjidificdmnmaaGreatDoor
open Go Go.AL
set_option maxRecDepth 100000
end Go.Proofs.YtjjidificdmnmaaGreatDoor
namespace Go.Proofs.YtjjidificdmnmaaGreatDoor
open Go Go.AL
set_option maxRecDepth 100000
end Go.Proofs.YtjjidificdmnmaaGreatDoor
namespace Go.Proofs.YtjjidificdmnmaaGreatDoor
open Go Go.AL
set_option maxRecDepth 100000
end Go.Proofs.YtjjidificdmnmaaGreatDoor
namespace Go.Proofs.YtjjidificdmnmaaGreatDoor
open Go Go.AL
set_option maxRecDepth 100000
end Go.Proofs.YtjjidificdmnmaaGreatDoor
namespace Go.Proofs.YtjjidificdmnmaaGreatDoor
open Go Go.AL
set_option maxRecDepth 100000
end Go.Proofs.YtjjidificdmnmaaGreatDoor
namespace Go.Proofs.YtjjidificdmnmaaGreatDoor
open Go Go.AL
set_option maxRecDepth 100000
end Go.Proofs.YtjjidificdmnmaaGreatDoor
namespace Go.Proofs.YtjjidificdmnmaaGreatDoor
open Go Go.AL
set_option maxRecDepth 100000
end Go.Proofs.YtjjidificdmnmaaGreatDoor
