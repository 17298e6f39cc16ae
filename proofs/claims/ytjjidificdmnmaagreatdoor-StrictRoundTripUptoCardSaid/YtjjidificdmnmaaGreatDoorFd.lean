/- Walks of the program's functions. -/
import Derived.Test.YtjjidificdmnmaaGreatDoorFc
import Derived.Test.YtjjidificdmnmaaGreatDoorFs
namespace Go.Proofs.YtjjidificdmnmaaGreatDoor
open Go Go.AL
set_option maxRecDepth 100000
abbrev plineV (q : PatchLine) : List Value := [.int .u8 q.Kind.toNat, .string ⟨q.Text.toArray⟩]
theorem pline_eq (q q' : PatchLine) : eqVs (plineV q) (plineV q') = decide (q = q') := by
  rw [Bool.eq_iff_iff]
  simp only [eqVs, eqV, ByteArray.toList_mk, Bool.and_eq_true, beq_iff_eq, decide_eq_true_eq, Bool.and_true]
  constructor
  · rintro ⟨h1, h2⟩
    obtain ⟨k, t⟩ := q
    obtain ⟨k', t'⟩ := q'
    obtain rfl : k = k' := UInt8.toNat_inj.1 (by have h1 : (k.toNat : Int) = k'.toNat := h1; omega)
    obtain rfl : t = t' := h2
    rfl
  · rintro rfl; exact ⟨rfl, rfl⟩
theorem take_all_eq {α : Type} {a b : List α} {k : Nat} (hl : a.length = b.length) (hk : k = a.length) (h : a.take k = b.take k) : a = b := by
  subst hk; rw [List.take_length, hl, List.take_length] at h; exact h
theorem take_step_eq {α : Type} {a b : List α} {k : Nat} (h1 : k < a.length) (h2 : k < b.length) (h : a.take k = b.take k) (he : a[k] = b[k]) : a.take (k + 1) = b.take (k + 1) := by
  rw [List.take_succ_eq_append_getElem h1, List.take_succ_eq_append_getElem h2, h, he]
theorem gpatch_ok (a b : Patch) (ha : szP a.Hunks ≤ 1099511627776) : FnOk Tryz.prog 23 [pPatch a, pPatch b] (fun rs => rs = [pBool (decide (a = b))]) := by
  have hsl := szP_len a.Hunks
  refine FnOk.intro Tryz.func23 (by decide) rfl rfl rfl rfl ?_
  refine k2 ?_
  refine c_region ?_; refine l_effv (f_box 2 rfl rfl rfl) rfl ?_; refine l_effv (f_box 3 rfl rfl rfl) rfl ?_; refine l_neu (n_assign rfl rfl) rfl ?_; refine l_nil ?_
  refine k1 ?_; refine k2 ?_; refine k2 ?_
  refine c_region ?_; refine l_neu (n_field_ref rfl) rfl ?_; refine l_neu (n_load_ref rfl rfl rfl) rfl ?_; refine l_neu (n_field_ref rfl) rfl ?_; refine l_neu (n_load_ref rfl rfl rfl) rfl ?_; refine l_neu (n_neq_s rfl rfl) rfl ?_; refine l_neu (n_move rfl rfl) rfl ?_; refine l_guard rfl rfl rfl rfl (fun hg => by rw [hg]; exact n_field_ref rfl) ?_; refine l_guard rfl rfl rfl rfl (fun hg => by rw [hg]; exact n_load_ref rfl rfl rfl) ?_; refine l_guard rfl rfl rfl rfl (fun hg => by rw [hg]; exact n_field_ref rfl) ?_; refine l_guard rfl rfl rfl rfl (fun hg => by rw [hg]; exact n_load_ref rfl rfl rfl) ?_; refine l_guard rfl rfl rfl rfl (fun hg => by rw [hg]; exact n_neq_s rfl rfl) ?_; refine l_neu (n_pick_bool rfl (fun h => by first | rfl | (rw [h]; rfl)) (fun h => by first | rfl | (rw [h]; rfl))) rfl ?_; refine l_neu (n_move rfl rfl) rfl ?_; refine l_guard rfl rfl rfl rfl (fun hg => by rw [hg]; exact n_field_ref rfl) ?_; refine l_guard rfl rfl rfl rfl (fun hg => by rw [hg]; exact n_load_ref rfl rfl rfl) ?_; refine l_guard rfl rfl rfl rfl (fun hg => by rw [hg]; exact n_len rfl (.pure _ _ _ _)) ?_; refine l_guard rfl rfl rfl rfl (fun hg => by rw [hg]; exact n_field_ref rfl) ?_; refine l_guard rfl rfl rfl rfl (fun hg => by rw [hg]; exact n_load_ref rfl rfl rfl) ?_; refine l_guard rfl rfl rfl rfl (fun hg => by rw [hg]; exact n_len rfl (.pure _ _ _ _)) ?_; refine l_guard rfl rfl rfl rfl (fun hg => by rw [hg]; exact n_neq rfl rfl) ?_; refine l_neu (n_pick_bool rfl (fun h => by first | rfl | (rw [h]; rfl)) (fun h => by first | rfl | (rw [h]; rfl))) rfl ?_; refine l_nil ?_
  refine k1 ?_
  refine c_cond rfl (fun ht => ?_) (fun ht => ?_)
  · simp only [or_pick] at ht
    have h := of_decide_eq_true ht
    refine k2 ?_
    refine c_region ?_; refine l_neu (n_assign rfl rfl) rfl ?_; refine l_nil ?_
    refine k1 ?_; refine k10 ?_; refine k11 ?_
    refine ret_ret (rs := [pBool false]) (ret1 rfl rfl rfl) ?_
    rw [decide_eq_false]
    rintro rfl
    simp at h
  simp only [or_pick] at ht
  have h := of_decide_eq_false ht
  have h1 : a.OldName = b.OldName := Decidable.not_not.1 fun q => h (.inl (.inl q))
  have h2 : a.NewName = b.NewName := Decidable.not_not.1 fun q => h (.inl (.inr q))
  have h3 : a.Hunks.length = b.Hunks.length := by
    have : (a.Hunks.length : Int) = b.Hunks.length := Decidable.not_not.1 fun q => h (.inr q)
    omega
  refine k5 ?_; refine k1 ?_; refine k2 ?_; refine k2 ?_
  refine c_region ?_; refine l_neu (n_assign rfl rfl) rfl ?_; refine l_nil ?_
  refine k1 ?_; refine k3 ?_
  refine c_while (X := Nat) (fun k => ([(2, .s (.one (.ref 2 0))), (3, .s (.one (.ref 3 0))), (5, sInt k)], [(2, .box (pPatch a).s1.cells), (3, .box (pPatch b).s1.cells)])) (fun k => k ≤ a.Hunks.length ∧ a.Hunks.take k = b.Hunks.take k) (fun k => a.Hunks.length - k) 0 ⟨Nat.zero_le _, rfl⟩ (Sees.of ⟨le1 rfl, le1 rfl, le1 rfl, trivial⟩ ⟨rfl, rfl, trivial⟩) ?_
  rintro k ⟨hk, he⟩
  dsimp only at hk he ⊢
  refine k2 ?_; refine k2 ?_
  refine c_region ?_; refine l_neu (n_move rfl rfl) rfl ?_; refine l_neu (n_field_ref rfl) rfl ?_; refine l_neu (n_load_ref rfl rfl rfl) rfl ?_; refine l_neu (n_len rfl (.pure _ _ _ _)) rfl ?_; refine l_neu (n_lss rfl rfl) rfl ?_; refine l_nil ?_
  refine k1 ?_
  refine c_cond rfl (fun ht => ?_) (fun ht => ?_)
  · have hlt : k < a.Hunks.length := by have := of_decide_eq_true ht; omega
    have hlt' : k < b.Hunks.length := by omega
    have hv : a.Hunks[k]? = some a.Hunks[k] := by simp [hlt]
    have hv' : b.Hunks[k]? = some b.Hunks[k] := by simp [hlt']
    have hszx : 64 * (a.Hunks[k].Lines.length) ≤ szP a.Hunks := by
      have h3 := szP_mem (List.getElem_mem hlt)
      have h4 := szL_len a.Hunks[k].Lines
      unfold szH at h3; omega
    have hnext := fun q => take_step_eq hlt hlt' he q
    have hno : a.Hunks[k] ≠ b.Hunks[k] → decide (a = b) = false := fun q => by
      rw [decide_eq_false]; rintro rfl; exact q rfl
    obtain ⟨x, hx⟩ : ∃ x, x = a.Hunks[k] := ⟨_, rfl⟩
    obtain ⟨y, hy⟩ : ∃ y, y = b.Hunks[k] := ⟨_, rfl⟩
    rw [← hx] at hv hszx
    rw [← hy] at hv'
    rw [← hx, ← hy] at hnext hno
    refine k5 ?_; refine k1 ?_; refine k2 ?_; refine k3 ?_; refine k2 ?_
    refine c_region_any [13, 12, 11, 10] [[], [10], [11], [11, 10], [12, 11, 10], [13, 12, 11, 10]] [(0, [10]), (0, [11]), (0, [11, 10]), (1, [10]), (1, [11]), (1, [11, 10]), (2, [10]), (2, [11]), (2, [11, 10]), (3, [10]), (3, [11]), (3, [11, 10]), (4, [10]), (4, [11]), (4, [11, 10]), (5, [10]), (5, [11]), (5, [11, 10]), (5, [12, 11, 10]), (6, [10]), (6, [11]), (6, [11, 10]), (6, [12, 11, 10]), (7, [10]), (7, [11]), (7, [11, 10]), (7, [12, 11, 10]), (8, [10]), (8, [11]), (8, [11, 10]), (8, [12, 11, 10]), (9, [10]), (9, [11]), (9, [11, 10]), (9, [12, 11, 10]), (10, [11]), (11, [])] (by kernel_rfl) (by kernel_rfl) ?_; refine a_neu rfl (n_field_ref rfl) ?_; refine a_neu rfl (n_load_ref rfl rfl rfl) ?_; refine a_neu rfl (n_move rfl rfl) ?_; refine a_neu rfl (n_indexAddr rfl (.pure _ _ _ _) rfl (by omega) hv) ?_; refine a_neu rfl (n_loads_eref rfl rfl) ?_; refine a_neu rfl (n_field_ref rfl) ?_; refine a_neu rfl (n_load_ref rfl rfl rfl) ?_; refine a_neu rfl (n_move rfl rfl) ?_; refine a_neu rfl (n_indexAddr rfl (.pure _ _ _ _) rfl (by omega) hv') ?_; refine a_neu rfl (n_loads_eref rfl rfl) ?_; refine a_alloc 6 rfl rfl ?_; refine a_alloc 7 rfl rfl ?_; refine a_store (u_store_ref TySz.out rfl rfl rfl rfl rfl rfl) ?_; refine a_store (u_store_ref TySz.out rfl rfl rfl rfl rfl rfl) ?_; refine a_nil rfl ?_ ?_
    · refine o_neu rfl rfl (n_field_ref rfl) ?_; refine o_neu rfl rfl (n_field_ref rfl) ?_; refine o_neu rfl rfl (n_field_ref rfl) ?_; refine o_neu rfl rfl (n_load_ref rfl rfl rfl) ?_; refine o_neu rfl rfl (n_load_ref rfl rfl rfl) ?_; refine o_neu rfl rfl (n_load_ref rfl rfl rfl) ?_; refine o_neu rfl rfl (n_move rfl rfl) ?_; refine o_neu rfl rfl (n_move rfl rfl) ?_; refine o_neu rfl rfl (n_move rfl rfl) ?_; refine o_neu rfl rfl (n_indexAddr rfl (.pure _ _ _ _) rfl (by omega) hv) ?_; refine o_neu rfl rfl (n_indexAddr rfl (.pure _ _ _ _) rfl (by omega) hv) ?_; refine o_neu rfl rfl (n_indexAddr rfl (.pure _ _ _ _) rfl (by omega) hv) ?_; refine o_neu rfl rfl (n_loads_eref rfl rfl) ?_; refine o_neu rfl rfl (n_loads_eref rfl rfl) ?_; refine o_neu rfl rfl (n_loads_eref rfl rfl) ?_; refine o_neu rfl rfl (n_field_ref rfl) ?_; refine o_neu rfl rfl (n_field_ref rfl) ?_; refine o_neu rfl rfl (n_field_ref rfl) ?_; refine o_neu rfl rfl (n_field_ref rfl) ?_; refine o_neu rfl rfl (n_load_ref rfl rfl rfl) ?_; refine o_neu rfl rfl (n_load_ref rfl rfl rfl) ?_; refine o_neu rfl rfl (n_load_ref rfl rfl rfl) ?_; refine o_neu rfl rfl (n_load_ref rfl rfl rfl) ?_; refine o_neu rfl rfl (n_move rfl rfl) ?_; refine o_neu rfl rfl (n_move rfl rfl) ?_; refine o_neu rfl rfl (n_move rfl rfl) ?_; refine o_neu rfl rfl (n_move rfl rfl) ?_; refine o_neu rfl rfl (n_indexAddr rfl (.pure _ _ _ _) rfl (by omega) hv') ?_; refine o_neu rfl rfl (n_indexAddr rfl (.pure _ _ _ _) rfl (by omega) hv') ?_; refine o_neu rfl rfl (n_indexAddr rfl (.pure _ _ _ _) rfl (by omega) hv') ?_; refine o_neu rfl rfl (n_indexAddr rfl (.pure _ _ _ _) rfl (by omega) hv') ?_; refine o_neu rfl rfl (n_loads_eref rfl rfl) ?_; refine o_neu rfl rfl (n_loads_eref rfl rfl) ?_; refine o_neu rfl rfl (n_loads_eref rfl rfl) ?_; refine o_neu rfl rfl (n_loads_eref rfl rfl) ?_; refine o_alloc rfl rfl rfl rfl rfl ?_; refine o_alloc rfl rfl rfl rfl rfl ?_; exact o_nil
    refine k1 ?_; refine k2 ?_; refine k2 ?_
    refine c_region ?_; refine l_neu (n_field_ref rfl) rfl ?_; refine l_neu (n_load_ref rfl rfl rfl) rfl ?_; refine l_neu (n_field_ref rfl) rfl ?_; refine l_neu (n_load_ref rfl rfl rfl) rfl ?_; refine l_neu (n_neq rfl rfl) rfl ?_; refine l_neu (n_move rfl rfl) rfl ?_; refine l_guard rfl rfl rfl rfl (fun hg => by rw [hg]; exact n_field_ref rfl) ?_; refine l_guard rfl rfl rfl rfl (fun hg => by rw [hg]; exact n_load_ref rfl rfl rfl) ?_; refine l_guard rfl rfl rfl rfl (fun hg => by rw [hg]; exact n_field_ref rfl) ?_; refine l_guard rfl rfl rfl rfl (fun hg => by rw [hg]; exact n_load_ref rfl rfl rfl) ?_; refine l_guard rfl rfl rfl rfl (fun hg => by rw [hg]; exact n_neq rfl rfl) ?_; refine l_neu (n_pick_bool rfl (fun h => by first | rfl | (rw [h]; rfl)) (fun h => by first | rfl | (rw [h]; rfl))) rfl ?_; refine l_neu (n_move rfl rfl) rfl ?_; refine l_guard rfl rfl rfl rfl (fun hg => by rw [hg]; exact n_field_ref rfl) ?_; refine l_guard rfl rfl rfl rfl (fun hg => by rw [hg]; exact n_load_ref rfl rfl rfl) ?_; refine l_guard rfl rfl rfl rfl (fun hg => by rw [hg]; exact n_len rfl (.pure _ _ _ _)) ?_; refine l_guard rfl rfl rfl rfl (fun hg => by rw [hg]; exact n_field_ref rfl) ?_; refine l_guard rfl rfl rfl rfl (fun hg => by rw [hg]; exact n_load_ref rfl rfl rfl) ?_; refine l_guard rfl rfl rfl rfl (fun hg => by rw [hg]; exact n_len rfl (.pure _ _ _ _)) ?_; refine l_guard rfl rfl rfl rfl (fun hg => by rw [hg]; exact n_neq rfl rfl) ?_; refine l_neu (n_pick_bool rfl (fun h => by first | rfl | (rw [h]; rfl)) (fun h => by first | rfl | (rw [h]; rfl))) rfl ?_; refine l_nil ?_
    refine k1 ?_
    refine c_cond rfl (fun ht => ?_) (fun ht => ?_)
    · simp only [or_pick] at ht
      have h := of_decide_eq_true ht
      refine k2 ?_
      refine c_region ?_; refine l_neu (n_assign rfl rfl) rfl ?_; refine l_nil ?_
      refine k1 ?_; refine k10 ?_; refine k11 ?_; refine k12 ?_; refine k11 ?_; refine k11 ?_; refine k12 ?_; refine k11 ?_
      refine ret_ret (rs := [pBool false]) (ret1 rfl rfl rfl) ?_
      rw [hno]
      rintro rfl
      simp at h
    simp only [or_pick] at ht
    have g := of_decide_eq_false ht
    have g1 : x.Old = y.Old := Decidable.not_not.1 fun q => g (.inl (.inl q))
    have g2 : x.New = y.New := Decidable.not_not.1 fun q => g (.inl (.inr q))
    have g3 : x.Lines.length = y.Lines.length := by
      have : (x.Lines.length : Int) = y.Lines.length := Decidable.not_not.1 fun q => g (.inr q)
      omega
    refine k5 ?_; refine k1 ?_; refine k2 ?_
    refine c_region ?_; refine l_neu (n_assign rfl rfl) rfl ?_; refine l_nil ?_
    refine k1 ?_; refine k3 ?_
    refine c_while (X := Nat) (fun i => ([(2, .s (.one (.ref 2 0))), (3, .s (.one (.ref 3 0))), (5, sInt k), (6, .s (.one (.ref 6 0))), (7, .s (.one (.ref 7 0))), (8, sInt i)], [(2, .box (pPatch a).s1.cells), (3, .box (pPatch b).s1.cells), (6, .box (pPhunk x).s1.cells), (7, .box (pPhunk y).s1.cells)])) (fun i => i ≤ x.Lines.length ∧ x.Lines.take i = y.Lines.take i) (fun i => x.Lines.length - i) 0 ⟨Nat.zero_le _, rfl⟩ (Sees.of ⟨le1 rfl, le1 rfl, le1 rfl, le1 rfl, le1 rfl, le1 rfl, trivial⟩ ⟨rfl, rfl, rfl, rfl, trivial⟩) ?_
    rintro i ⟨hi, hie⟩
    dsimp only at hi hie ⊢
    refine k2 ?_; refine k2 ?_
    refine c_region ?_; refine l_neu (n_move rfl rfl) rfl ?_; refine l_neu (n_field_ref rfl) rfl ?_; refine l_neu (n_load_ref rfl rfl rfl) rfl ?_; refine l_neu (n_len rfl (.pure _ _ _ _)) rfl ?_; refine l_neu (n_lss rfl rfl) rfl ?_; refine l_nil ?_
    refine k1 ?_
    refine c_cond rfl (fun ht => ?_) (fun ht => ?_)
    · have hlt2 : i < x.Lines.length := by have := of_decide_eq_true ht; omega
      have hlt2' : i < y.Lines.length := by omega
      have w : x.Lines[i]? = some x.Lines[i] := by simp [hlt2]
      have w' : y.Lines[i]? = some y.Lines[i] := by simp [hlt2']
      have inext := fun q => take_step_eq hlt2 hlt2' hie q
      have ino : x.Lines[i] ≠ y.Lines[i] → x ≠ y := fun q e => by subst e; exact q rfl
      obtain ⟨u, hu⟩ : ∃ u, u = x.Lines[i] := ⟨_, rfl⟩
      obtain ⟨v, hv2⟩ : ∃ v, v = y.Lines[i] := ⟨_, rfl⟩
      rw [← hu] at w
      rw [← hv2] at w'
      rw [← hu, ← hv2] at inext ino
      refine k5 ?_; refine k1 ?_; refine k2 ?_; refine k3 ?_; refine k2 ?_
      refine c_region_draw (by kernel_rfl) (by kernel_rfl) ?_; refine d_neu (n_field_ref rfl) rfl rfl ?_; refine d_neu (n_load_ref rfl rfl rfl) rfl rfl ?_; refine d_neu (n_move rfl rfl) rfl rfl ?_; refine d_neu (n_indexAddr rfl (.pure _ _ _ _) rfl (by omega) w) rfl rfl ?_; refine d_neu (n_loads_eref rfl rfl) rfl rfl ?_; refine d_neu (n_field_ref rfl) rfl rfl ?_; refine d_neu (n_load_ref rfl rfl rfl) rfl rfl ?_; refine d_neu (n_move rfl rfl) rfl rfl ?_; refine d_neu (n_indexAddr rfl (.pure _ _ _ _) rfl (by omega) w') rfl rfl ?_; refine d_neu (n_loads_eref rfl rfl) rfl rfl ?_; refine d_neu (n_neq_st (plineV u) (plineV v) rfl rfl rfl rfl (pline_eq u v)) rfl rfl ?_; refine d_nil ?_
      refine k1 ?_
      refine c_cond rfl (fun ht => ?_) (fun ht => ?_)
      · have e : u ≠ v := by simpa using ht
        refine k2 ?_
        refine c_region ?_; refine l_neu (n_assign rfl rfl) rfl ?_; refine l_nil ?_
        refine k1 ?_; refine k10 ?_; refine k12 ?_; refine k11 ?_; refine k11 ?_; refine k12 ?_; refine k12 ?_; refine k11 ?_; refine k11 ?_; refine k12 ?_; refine k11 ?_
        exact ret_ret (rs := [pBool false]) (ret1 rfl rfl rfl) (by rw [hno (ino e)])
      · have e : u = v := by simpa using ht
        refine k5 ?_; refine k4 ?_; refine k1 ?_
        refine c_region ?_; refine l_neu (n_move rfl rfl) rfl ?_; refine l_neu (n_add rfl rfl (by omega)) rfl ?_; refine l_neu (n_assign rfl rfl) rfl ?_; refine l_nil ?_
        refine k1 ?_
        exact ⟨i + 1, ⟨by omega, inext e⟩, by omega, Sees.of ⟨le1 rfl, le1 rfl, le1 rfl, le1 rfl, le1 rfl, le1 rfl, trivial⟩ ⟨rfl, rfl, rfl, rfl, trivial⟩⟩
    · have hi' : i = x.Lines.length := by have := of_decide_eq_false ht; omega
      have hxy : x = y := by
        have h5 := take_all_eq g3 hi' hie
        clear hno hnext hv hv' hx hy
        obtain ⟨x1, x2, x3⟩ := x
        obtain ⟨y1, y2, y3⟩ := y
        simp only at g1 g2 h5
        subst g1 g2 h5
        rfl
      refine k6 ?_; refine k7 ?_; refine k7 ?_; refine k8 rfl ?_; refine k4 ?_; refine k1 ?_
      refine c_region ?_; refine l_neu (n_move rfl rfl) rfl ?_; refine l_neu (n_add rfl rfl (by omega)) rfl ?_; refine l_neu (n_assign rfl rfl) rfl ?_; refine l_nil ?_
      refine k1 ?_
      exact ⟨k + 1, ⟨by omega, hnext hxy⟩, by omega, Sees.of ⟨le1 rfl, le1 rfl, le1 rfl, trivial⟩ ⟨rfl, rfl, trivial⟩⟩
  · have hk' : k = a.Hunks.length := by have := of_decide_eq_false ht; omega
    have hab : a = b := by
      have h5 := take_all_eq h3 hk' he
      obtain ⟨a1, a2, a3⟩ := a
      obtain ⟨b1, b2, b3⟩ := b
      simp only at h1 h2 h5
      subst h1 h2 h5
      rfl
    refine k6 ?_; refine k2 ?_
    refine c_region ?_; refine l_neu (n_assign rfl rfl) rfl ?_; refine l_nil ?_
    refine k1 ?_; refine k10 ?_
    exact ret_ret (rs := [pBool true]) (ret1 rfl rfl rfl) (by rw [decide_eq_true hab])
end Go.Proofs.YtjjidificdmnmaaGreatDoor
namespace Go.Proofs.YtjjidificdmnmaaGreatDoor
open Go Go.AL
set_option maxRecDepth 100000
end Go.Proofs.YtjjidificdmnmaaGreatDoor
namespace Go.Proofs.YtjjidificdmnmaaGreatDoor
open Go Go.AL
set_option maxRecDepth 100000
end Go.Proofs.YtjjidificdmnmaaGreatDoor
namespace Go.Proofs.YtjjidificdmnmaaGreatDoor
open Go Go.AL
set_option maxRecDepth 100000
end Go.Proofs.YtjjidificdmnmaaGreatDoor
namespace Go.Proofs.YtjjidificdmnmaaGreatDoor
open Go Go.AL
set_option maxRecDepth 100000
end Go.Proofs.YtjjidificdmnmaaGreatDoor
namespace Go.Proofs.YtjjidificdmnmaaGreatDoor
open Go Go.AL
set_option maxRecDepth 100000
end Go.Proofs.YtjjidificdmnmaaGreatDoor
namespace Go.Proofs.YtjjidificdmnmaaGreatDoor
open Go Go.AL
set_option maxRecDepth 100000
end Go.Proofs.YtjjidificdmnmaaGreatDoor
namespace Go.Proofs.YtjjidificdmnmaaGreatDoor
open Go Go.AL
set_option maxRecDepth 100000
end Go.Proofs.YtjjidificdmnmaaGreatDoor
namespace Go.Proofs.YtjjidificdmnmaaGreatDoor
open Go Go.AL
set_option maxRecDepth 100000
theorem script_cs {l : List Change} {m n : Int} (hok : ScOk 0 0 l m n) : ∀ c ∈ l, c.Old ≤ 4096 ∧ 0 ≤ c.OldLen ∧ c.OldLen ≤ 4096 ∧ 0 ≤ c.NewLen ∧ c.NewLen ≤ 4096 := by
  intro c hc
  obtain ⟨k, hk, rfl⟩ := List.mem_iff_getElem.1 hc
  have := hok.get k hk
  have e : cAt l k = l[k] := by unfold cAt; simp [hk]
  rw [e] at this
  obtain ⟨⟨_, h1⟩, ⟨h2, h3⟩, _, ⟨h4, h5⟩, _⟩ := this
  exact ⟨h1, h2, h3, h4, h5⟩
theorem matched_len {l : List Change} {m n : Int} (hm : m ≤ 4096) (hok : ScOk 0 0 l m n) : (matchedOf l m).length ≤ 4096 := by
  have := matchedGo_length l 0 0 m (by omega) 4096 (by omega) (fun c hc => ⟨by have := (script_cs hok c hc).1; omega, (script_cs hok c hc).2.1⟩)
  unfold matchedOf; omega
def PairAt (a b : List Int) (p : Span) : Prop := 0 ≤ p.From ∧ 0 ≤ p.To ∧ ∃ v, a[p.From.toNat]? = some v ∧ b[p.To.toNat]? = some v
theorem rPairs8_ok (l : List Change) (m n : Int) (hl : l.length ≤ 32768) (hc : check8 l m n = 0) :
    FnOk Tryz.prog 162 [pChanges l, pInt m, pInt n] (fun rs => rs = [pSpans (matchedOf l m), pInt 0]) := by
  obtain ⟨⟨_, hm⟩, _, hok⟩ := check8_ok hc
  have hcs : ∀ c ∈ l, c.Old ≤ 536870911 ∧ 0 ≤ c.OldLen ∧ c.OldLen ≤ 1048576 ∧ 0 ≤ c.NewLen ∧ c.NewLen ≤ 1048576 := by
    intro c hc
    have := script_cs hok c hc
    omega
  refine FnOk.intro Tryz.func162 (by decide) rfl rfl rfl rfl ?_
  refine k2 ?_
  refine c_region ?_; refine l_neu (n_assign rfl rfl) rfl ?_; refine l_neu (n_assign rfl rfl) rfl ?_; refine l_nil ?_
  refine k1 ?_; refine k2 ?_; refine k2 ?_
  refine c_region ?_; refine l_neu (n_move rfl rfl) rfl ?_; refine l_neu (n_move rfl rfl) rfl ?_; refine l_neu (n_move rfl rfl) rfl ?_; refine l_call (check8_walk l m n (by omega)) rfl rfl rfl ?_; rintro _ rfl; refine l_neu (n_assign rfl rfl) rfl ?_; refine l_nil ?_
  rw [hc]
  refine k1 ?_; refine k2 ?_
  refine c_region ?_; refine l_neu (n_move rfl rfl) rfl ?_; refine l_neu (n_neq rfl rfl) rfl ?_; refine l_nil ?_
  refine k1 ?_
  refine c_cond rfl (fun ht => ?_) (fun ht => ?_)
  · cases ht
  refine k5 ?_; refine k1 ?_; refine k2 ?_
  refine c_region ?_; refine l_neu (n_move rfl rfl) rfl ?_; refine l_neu (n_move rfl rfl) rfl ?_; refine l_call (matched_ok l m (by omega) (by omega) hcs) rfl rfl rfl ?_; rintro _ rfl; refine l_neu (n_assign rfl rfl) rfl ?_; refine l_neu (n_assign rfl rfl) rfl ?_; refine l_nil ?_
  refine k1 ?_; refine k10 ?_
  exact ret_ret (ret2 rfl rfl rfl rfl rfl) rfl
theorem rFits8_ok (l : List Change) (a b : List Int) (hl : l.length ≤ 32768) (hc : check8 l a.length b.length = 0) (hp : ∀ p ∈ matchedOf l a.length, PairAt a b p) :
    FnOk Tryz.prog 120 [pChanges l, pInts a, pInts b] (fun rs => rs = [pBool true]) := by
  obtain ⟨⟨_, ha⟩, ⟨_, hb⟩, hok⟩ := check8_ok hc
  have hpl := matched_len (by omega) hok
  obtain ⟨ps, hps⟩ : ∃ ps, ps = matchedOf l a.length := ⟨_, rfl⟩
  rw [← hps] at hpl
  refine FnOk.intro Tryz.func120 (by decide) rfl rfl rfl rfl ?_
  refine k2 ?_
  refine c_region ?_; refine l_neu (n_assign rfl rfl) rfl ?_; refine l_nil ?_
  refine k1 ?_; refine k2 ?_
  refine c_region ?_; refine l_neu (n_move rfl rfl) rfl ?_; refine l_neu (n_move rfl rfl) rfl ?_; refine l_neu (n_len rfl (.pure _ _ _ _)) rfl ?_; refine l_neu (n_move rfl rfl) rfl ?_; refine l_neu (n_len rfl (.pure _ _ _ _)) rfl ?_; refine l_call (rPairs8_ok l a.length b.length hl hc) rfl rfl rfl ?_; rintro _ rfl; refine l_neu (n_move rfl rfl) rfl ?_; refine l_neu (n_extract rfl rfl) rfl ?_; refine l_neu (n_extract rfl rfl) rfl ?_; refine l_neu (n_assign rfl rfl) rfl ?_; refine l_neu (n_assign rfl rfl) rfl ?_; refine l_nil ?_
  rw [← hps] at hp ⊢
  refine k1 ?_; refine k2 ?_; refine k2 ?_
  refine c_region ?_; refine l_neu (n_move rfl rfl) rfl ?_; refine l_neu (n_neq rfl rfl) rfl ?_; refine l_nil ?_
  refine k1 ?_
  refine c_cond rfl (fun ht => ?_) (fun ht => ?_)
  · cases ht
  refine k5 ?_; refine k1 ?_; refine k2 ?_; refine k2 ?_
  refine c_region ?_; refine l_neu (n_assign rfl rfl) rfl ?_; refine l_nil ?_
  refine k1 ?_; refine k3 ?_
  refine c_while (X := Nat) (fun k => ([(1, sList Int 1 intC a), (2, sList Int 1 intC b), (7, sList Span 2 spanC ps), (9, sInt k)], [])) (fun k => k ≤ ps.length) (fun k => ps.length - k) 0 (Nat.zero_le _) (Sees.of ⟨le1 rfl, le1 rfl, le1 rfl, le1 rfl, trivial⟩ trivial) ?_
  intro k hk
  dsimp only at hk ⊢
  refine k2 ?_; refine k2 ?_
  refine c_region ?_; refine l_neu (n_move rfl rfl) rfl ?_; refine l_neu (n_move rfl rfl) rfl ?_; refine l_neu (n_len rfl (.pure _ _ _ _)) rfl ?_; refine l_neu (n_lss rfl rfl) rfl ?_; refine l_nil ?_
  refine k1 ?_
  refine c_cond rfl (fun ht => ?_) (fun ht => ?_)
  · have hlt : k < ps.length := by have := of_decide_eq_true ht; omega
    obtain ⟨p, hpd⟩ : ∃ p, p = ps[k] := ⟨_, rfl⟩
    have hv : ps[k]? = some p := by rw [hpd]; simp [hlt]
    obtain ⟨h1, h2, v, h3, h4⟩ := hp p (List.mem_of_getElem? hv)
    have h5 := (List.getElem?_eq_some_iff.1 h3).1
    have h6 := (List.getElem?_eq_some_iff.1 h4).1
    refine k5 ?_; refine k1 ?_; refine k2 ?_; refine k3 ?_; refine k2 ?_
    refine c_region_draw (by kernel_rfl) (by kernel_rfl) ?_; refine d_neu (n_move rfl rfl) rfl rfl ?_; refine d_neu (n_move rfl rfl) rfl rfl ?_; refine d_neu (n_move rfl rfl) rfl rfl ?_; refine d_neu (n_indexAddr rfl (.pure _ _ _ _) rfl (by omega) hv) rfl rfl ?_; refine d_neu (n_field_eref rfl) rfl rfl ?_; refine d_neu (n_load_eref rfl rfl) rfl rfl ?_; refine d_neu (n_indexAddr rfl (.pure _ _ _ _) rfl (by omega) h3) rfl rfl ?_; refine d_neu (n_load_eref rfl rfl) rfl rfl ?_; refine d_neu (n_move rfl rfl) rfl rfl ?_; refine d_neu (n_move rfl rfl) rfl rfl ?_; refine d_neu (n_move rfl rfl) rfl rfl ?_; refine d_neu (n_indexAddr rfl (.pure _ _ _ _) rfl (by omega) hv) rfl rfl ?_; refine d_neu (n_field_eref rfl) rfl rfl ?_; refine d_neu (n_load_eref rfl rfl) rfl rfl ?_; refine d_neu (n_indexAddr rfl (.pure _ _ _ _) rfl (by omega) h4) rfl rfl ?_; refine d_neu (n_load_eref rfl rfl) rfl rfl ?_; refine d_neu (n_neq rfl rfl) rfl rfl ?_; refine d_nil ?_
    refine k1 ?_
    refine c_cond rfl (fun ht => ?_) (fun ht => ?_)
    · exact absurd (of_decide_eq_true ht) (by simp)
    refine k5 ?_; refine k4 ?_; refine k1 ?_
    refine c_region ?_; refine l_neu (n_move rfl rfl) rfl ?_; refine l_neu (n_add rfl rfl (by omega)) rfl ?_; refine l_neu (n_assign rfl rfl) rfl ?_; refine l_nil ?_
    refine k1 ?_
    exact ⟨k + 1, hlt, by omega, Sees.of ⟨le1 rfl, le1 rfl, le1 rfl, le1 rfl, trivial⟩ trivial⟩
  · refine k6 ?_; refine k2 ?_
    refine c_region ?_; refine l_neu (n_assign rfl rfl) rfl ?_; refine l_nil ?_
    refine k1 ?_; refine k10 ?_
    exact ret_ret (ret1 rfl rfl rfl) rfl
end Go.Proofs.YtjjidificdmnmaaGreatDoor
namespace Go.Proofs.YtjjidificdmnmaaGreatDoor
open Go Go.AL
set_option maxRecDepth 100000
abbrev pChange (c : Change) : PV := .agg [.v (.int .i64 c.Old), .v (.int .i64 c.OldLen), .v (.int .i64 c.New), .v (.int .i64 c.NewLen)]
def sideRes (c : Change) (a b : List Int) : List PV := if c.NewLen = 0 then [pInts a, pInt c.Old, pInt c.OldLen, pBool true] else if c.OldLen = 0 then [pInts b, pInt c.New, pInt c.NewLen, pBool true] else [.one (.v (.slice none 0 0)), pInt 0, pInt 0, pBool false]
theorem side10_ok (c : Change) (a b : List Int) : FnOk Tryz.prog 163 [pChange c, pInts a, pInts b] (fun rs => rs = sideRes c a b) := by
  refine FnOk.intro Tryz.func163 (by decide) rfl rfl rfl rfl ?_
  refine k2 ?_
  refine c_region ?_; refine l_effv (f_box 3 rfl rfl rfl) rfl ?_; refine l_neu (n_assign rfl rfl) rfl ?_; refine l_neu (n_assign rfl rfl) rfl ?_; refine l_neu (n_assign rfl rfl) rfl ?_; refine l_neu (n_assign rfl rfl) rfl ?_; refine l_nil ?_
  refine k1 ?_; refine k2 ?_; refine k3 ?_; refine k2 ?_
  refine c_region ?_; refine l_neu (n_field_ref rfl) rfl ?_; refine l_neu (n_load_ref rfl rfl rfl) rfl ?_; refine l_neu (n_eql rfl rfl) rfl ?_; refine l_neu (n_assign rfl rfl) rfl ?_; refine l_nil ?_
  refine k1 ?_
  refine c_cond rfl (fun ht => ?_) (fun ht => ?_)
  · have h1 := of_decide_eq_true ht
    refine k2 ?_
    refine c_region_draw (by kernel_rfl) (by kernel_rfl) ?_; refine d_neu (n_move rfl rfl) rfl rfl ?_; refine d_neu (n_field_ref rfl) rfl rfl ?_; refine d_neu (n_load_ref rfl rfl rfl) rfl rfl ?_; refine d_neu (n_field_ref rfl) rfl rfl ?_; refine d_neu (n_load_ref rfl rfl rfl) rfl rfl ?_; refine d_neu (n_assign rfl rfl) rfl rfl ?_; refine d_neu (n_assign rfl rfl) rfl rfl ?_; refine d_neu (n_assign rfl rfl) rfl rfl ?_; refine d_neu (n_assign rfl rfl) rfl rfl ?_; refine d_nil ?_
    refine k1 ?_; refine k10 ?_; refine k12 ?_; refine k11 ?_
    exact ret_ret (ret4 rfl rfl rfl rfl rfl rfl rfl rfl rfl) (by unfold sideRes; rw [if_pos h1])
  · have h1 := of_decide_eq_false ht
    refine k2 ?_
    refine c_region ?_; refine l_neu (n_field_ref rfl) rfl ?_; refine l_neu (n_load_ref rfl rfl rfl) rfl ?_; refine l_neu (n_eql rfl rfl) rfl ?_; refine l_neu (n_assign rfl rfl) rfl ?_; refine l_nil ?_
    refine k1 ?_
    refine c_cond rfl (fun ht => ?_) (fun ht => ?_)
    · have h2 := of_decide_eq_true ht
      refine k2 ?_
      refine c_region_draw (by kernel_rfl) (by kernel_rfl) ?_; refine d_neu (n_move rfl rfl) rfl rfl ?_; refine d_neu (n_field_ref rfl) rfl rfl ?_; refine d_neu (n_load_ref rfl rfl rfl) rfl rfl ?_; refine d_neu (n_field_ref rfl) rfl rfl ?_; refine d_neu (n_load_ref rfl rfl rfl) rfl rfl ?_; refine d_neu (n_assign rfl rfl) rfl rfl ?_; refine d_neu (n_assign rfl rfl) rfl rfl ?_; refine d_neu (n_assign rfl rfl) rfl rfl ?_; refine d_neu (n_assign rfl rfl) rfl rfl ?_; refine d_nil ?_
      refine k1 ?_; refine k10 ?_; refine k12 ?_; refine k11 ?_
      exact ret_ret (ret4 rfl rfl rfl rfl rfl rfl rfl rfl rfl) (by unfold sideRes; rw [if_neg h1, if_pos h2])
    · have h2 := of_decide_eq_false ht
      refine k5 ?_; refine k2 ?_
      refine c_region ?_; refine l_neu (n_assign rfl rfl) rfl ?_; refine l_neu (n_assign rfl rfl) rfl ?_; refine l_neu (n_assign rfl rfl) rfl ?_; refine l_neu (n_assign rfl rfl) rfl ?_; refine l_nil ?_
      refine k1 ?_; refine k10 ?_
      exact ret_ret (ret4 rfl rfl rfl rfl rfl rfl rfl rfl rfl) (by unfold sideRes; rw [if_neg h1, if_neg h2])
theorem down10_ok (l : List Change) (a b : List Int) (k : Nat) (hk : k < l.length) (hl : l.length ≤ 32768) (ha : a.length ≤ 4096) (hb : b.length ≤ 4096) (hok : ScOk 0 0 l a.length b.length) :
    FnOk Tryz.prog 121 [pChanges l, pInts a, pInts b, pInt k] (fun rs => rs = [pBool (canDown l a b k)]) := by
  obtain ⟨c, hc⟩ : ∃ c, c = cAt l k := ⟨_, rfl⟩
  have hv : l[k]? = some c := by rw [hc]; exact cAt_get hk
  have hg := hok.get k hk
  rw [← hc] at hg
  obtain ⟨⟨c1, _⟩, ⟨c2, _⟩, ⟨c3, _⟩, ⟨c4, _⟩, c5, c6⟩ := hg
  have hnx : k + 1 < l.length → l[k + 1]? = some (cAt l (k + 1)) ∧ 0 ≤ (cAt l (k + 1)).Old ∧ (cAt l (k + 1)).Old ≤ 4096 := fun h => by
    have := hok.get (k + 1) h
    exact ⟨cAt_get h, this.1.1, this.1.2⟩
  have hnx' : k + 1 < l.length → l[((k : Int) + 1).toNat]? = some (cAt l (k + 1)) := fun h => by
    rw [show ((k : Int) + 1).toNat = k + 1 by omega]; exact cAt_get h
  have hcase : (∃ (t : List Int) (f n : Int), sideRes c a b = [pInts t, pInt f, pInt n, pBool true] ∧ canDown l a b k = decide (downT l k t f n) ∧ t.length ≤ 4096 ∧ 0 ≤ f ∧ 0 ≤ n ∧ f + n ≤ t.length) ∨ (sideRes c a b = [.one (.v (.slice none 0 0)), pInt 0, pInt 0, pBool false] ∧ canDown l a b k = false) := by
    unfold sideRes canDown
    rw [← hc]
    by_cases h1 : c.NewLen = 0
    · rw [if_pos h1, if_pos h1]; exact .inl ⟨_, _, _, rfl, rfl, ha, c1, c2, c5⟩
    · rw [if_neg h1, if_neg h1]
      by_cases h2 : c.OldLen = 0
      · rw [if_pos h2, if_pos h2]; exact .inl ⟨_, _, _, rfl, rfl, hb, c3, c4, c6⟩
      · rw [if_neg h2, if_neg h2]; exact .inr ⟨rfl, rfl⟩
  have hs := side10_ok c a b
  rcases hcase with ⟨t, f, n, hr, hcd, ht4, f0, n0, fn⟩ | ⟨hr, hcd⟩
  · rw [hr] at hs
    refine FnOk.intro Tryz.func121 (by decide) rfl rfl rfl rfl ?_
    refine k2 ?_
    refine c_region ?_; refine l_neu (n_assign rfl rfl) rfl ?_; refine l_nil ?_
    refine k1 ?_; refine k2 ?_
    refine c_region ?_; refine l_neu (n_move rfl rfl) rfl ?_; refine l_neu (n_move rfl rfl) rfl ?_; refine l_neu (n_indexAddr rfl (.pure _ _ _ _) rfl (by omega) hv) rfl ?_; refine l_neu (n_loads_eref rfl rfl) rfl ?_; refine l_neu (n_move rfl rfl) rfl ?_; refine l_neu (n_move rfl rfl) rfl ?_; refine l_call (hs) rfl rfl rfl ?_; rintro _ rfl; refine l_neu (n_move rfl rfl) rfl ?_; refine l_neu (n_extract rfl rfl) rfl ?_; refine l_neu (n_extract rfl rfl) rfl ?_; refine l_neu (n_extract rfl rfl) rfl ?_; refine l_neu (n_extract rfl rfl) rfl ?_; refine l_neu (n_assign rfl rfl) rfl ?_; refine l_neu (n_assign rfl rfl) rfl ?_; refine l_neu (n_assign rfl rfl) rfl ?_; refine l_neu (n_assign rfl rfl) rfl ?_; refine l_nil ?_
    refine c_cut [(0, sList Change 4 changeC l), (3, sInt k), (9, sList Int 1 intC t), (10, sInt f), (11, sInt n), (12, sVal (.bool true))] [] (Sees.of ⟨le1 rfl, le1 rfl, le1 rfl, le1 rfl, le1 rfl, le1 rfl, trivial⟩ trivial) ?_
    have hat : ∀ i : Int, 0 ≤ i → i < t.length → t[i.toNat]? = some (atI t i) := fun i h0 h1 => by
      unfold atI; rw [List.getD_eq_getElem?_getD, List.getElem?_eq_getElem (show i.toNat < t.length by omega)]; rfl
    refine k2 ?_; refine k2 ?_
    refine c_region_draw (by kernel_rfl) (by kernel_rfl) ?_; refine d_neu (n_move rfl rfl) rfl rfl ?_; refine d_neu (n_not rfl) rfl rfl ?_; refine d_neu (n_move rfl rfl) rfl rfl ?_; refine d_guard rfl rfl (fun hg => by rw [hg]; exact n_move rfl rfl) rfl rfl ?_; refine d_guard rfl rfl (fun hg => by rw [hg]; exact n_move rfl rfl) rfl rfl ?_; refine d_guard rfl rfl (fun hg => by have hq := hg; (try simp at hq); rw [hg]; exact n_add rfl rfl (by omega)) rfl rfl ?_; refine d_guard rfl rfl (fun hg => by rw [hg]; exact n_move rfl rfl) rfl rfl ?_; refine d_guard rfl rfl (fun hg => by rw [hg]; exact n_len rfl (.pure _ _ _ _)) rfl rfl ?_; refine d_guard rfl rfl (fun hg => by rw [hg]; exact n_geq rfl rfl) rfl rfl ?_; refine d_neu (n_pick_bool rfl (fun h => by first | rfl | (rw [h]; rfl)) (fun h => by first | rfl | (rw [h]; rfl))) rfl rfl ?_; refine d_neu (n_move rfl rfl) rfl rfl ?_; refine d_guard rfl rfl (fun hg => by rw [hg]; exact n_move rfl rfl) rfl rfl ?_; refine d_guard rfl rfl (fun hg => by rw [hg]; exact n_move rfl rfl) rfl rfl ?_; refine d_guard rfl rfl (fun hg => by have hq := hg; (try simp at hq); rw [hg]; exact n_indexAddr rfl (.pure _ _ _ _) rfl (by omega) (hat f f0 (by omega))) rfl rfl ?_; refine d_guard rfl rfl (fun hg => by rw [hg]; exact n_load_eref rfl rfl) rfl rfl ?_; refine d_guard rfl rfl (fun hg => by rw [hg]; exact n_move rfl rfl) rfl rfl ?_; refine d_guard rfl rfl (fun hg => by rw [hg]; exact n_move rfl rfl) rfl rfl ?_; refine d_guard rfl rfl (fun hg => by rw [hg]; exact n_move rfl rfl) rfl rfl ?_; refine d_guard rfl rfl (fun hg => by have hq := hg; (try simp at hq); rw [hg]; exact n_add rfl rfl (by omega)) rfl rfl ?_; refine d_guard rfl rfl (fun hg => by have hq := hg; (try simp at hq); rw [hg]; exact n_indexAddr rfl (.pure _ _ _ _) rfl (by omega) (hat (f + n) (by omega) hq)) rfl rfl ?_; refine d_guard rfl rfl (fun hg => by rw [hg]; exact n_load_eref rfl rfl) rfl rfl ?_; refine d_guard rfl rfl (fun hg => by rw [hg]; exact n_neq rfl rfl) rfl rfl ?_; refine d_neu (n_pick_bool rfl (fun h => by first | rfl | (rw [h]; rfl)) (fun h => by first | rfl | (rw [h]; rfl))) rfl rfl ?_; refine d_nil ?_
    refine k1 ?_
    refine c_cond rfl (fun ht => ?_) (fun ht => ?_)
    · have h1 : ¬ ((f + n < t.length ∧ atI t f = atI t (f + n)) ∧ (k + 1 = l.length ∨ (cAt l k).Old + (cAt l k).OldLen + 1 < (cAt l (k + 1)).Old)) := by
        rintro ⟨⟨q1, q2⟩, _⟩
        simp [q2] at ht
        omega
      refine k2 ?_
      refine c_region ?_; refine l_neu (n_assign rfl rfl) rfl ?_; refine l_nil ?_
      refine k1 ?_; refine k10 ?_; refine k11 ?_
      exact ret_ret (ret1 rfl rfl rfl) (by rw [hcd]; unfold downT; rw [decide_eq_false h1])
    · have h1 : f + n < t.length := Classical.byContradiction fun q => by simp [show (t.length : Int) ≤ f + n by omega] at ht
      have h2 : atI t f = atI t (f + n) := Classical.byContradiction fun q => by simp [q] at ht
      refine k5 ?_; refine k1 ?_; refine k2 ?_
      refine c_region_draw (by kernel_rfl) (by kernel_rfl) ?_; refine d_neu (n_move rfl rfl) rfl rfl ?_; refine d_neu (n_add rfl rfl (by omega)) rfl rfl ?_; refine d_neu (n_move rfl rfl) rfl rfl ?_; refine d_neu (n_len rfl (.pure _ _ _ _)) rfl rfl ?_; refine d_neu (n_eql rfl rfl) rfl rfl ?_; refine d_neu (n_move rfl rfl) rfl rfl ?_; refine d_guard rfl rfl (fun hg => by rw [hg]; exact n_move rfl rfl) rfl rfl ?_; refine d_guard rfl rfl (fun hg => by rw [hg]; exact n_move rfl rfl) rfl rfl ?_; refine d_guard rfl rfl (fun hg => by have hq := hg; (try simp at hq); rw [hg]; exact n_add rfl rfl (by omega)) rfl rfl ?_; refine d_guard rfl rfl (fun hg => by have hq := hg; (try simp at hq); rw [hg]; exact n_indexAddr rfl (.pure _ _ _ _) rfl (by omega) (hnx' (by omega))) rfl rfl ?_; refine d_guard rfl rfl (fun hg => by rw [hg]; exact n_field_eref rfl) rfl rfl ?_; refine d_guard rfl rfl (fun hg => by rw [hg]; exact n_load_eref rfl rfl) rfl rfl ?_; refine d_guard rfl rfl (fun hg => by rw [hg]; exact n_move rfl rfl) rfl rfl ?_; refine d_guard rfl rfl (fun hg => by rw [hg]; exact n_move rfl rfl) rfl rfl ?_; refine d_guard rfl rfl (fun hg => by have hq := hg; (try simp at hq); rw [hg]; exact n_indexAddr rfl (.pure _ _ _ _) rfl (by omega) hv) rfl rfl ?_; refine d_guard rfl rfl (fun hg => by rw [hg]; exact n_field_eref rfl) rfl rfl ?_; refine d_guard rfl rfl (fun hg => by rw [hg]; exact n_load_eref rfl rfl) rfl rfl ?_; refine d_guard rfl rfl (fun hg => by rw [hg]; exact n_move rfl rfl) rfl rfl ?_; refine d_guard rfl rfl (fun hg => by rw [hg]; exact n_move rfl rfl) rfl rfl ?_; refine d_guard rfl rfl (fun hg => by have hq := hg; (try simp at hq); rw [hg]; exact n_indexAddr rfl (.pure _ _ _ _) rfl (by omega) hv) rfl rfl ?_; refine d_guard rfl rfl (fun hg => by rw [hg]; exact n_field_eref rfl) rfl rfl ?_; refine d_guard rfl rfl (fun hg => by rw [hg]; exact n_load_eref rfl rfl) rfl rfl ?_; refine d_guard rfl rfl (fun hg => by have hq := hg; (try simp at hq); rw [hg]; exact n_add rfl rfl (by omega)) rfl rfl ?_; refine d_guard rfl rfl (fun hg => by have hq := hg; (try simp at hq); have hn2 := hnx (by omega); rw [hg]; exact n_add rfl rfl (by omega)) rfl rfl ?_; refine d_guard rfl rfl (fun hg => by rw [hg]; exact n_gtr rfl rfl) rfl rfl ?_; refine d_neu (n_pick_bool rfl (fun h => by first | rfl | (rw [h]; rfl)) (fun h => by first | rfl | (rw [h]; rfl))) rfl rfl ?_; refine d_neu (n_assign rfl rfl) rfl rfl ?_; refine d_nil ?_
      refine k1 ?_; refine k10 ?_
      have h3 : canDown l a b k = if decide ((k : Int) + 1 = l.length) = true then true else decide (c.Old + c.OldLen + 1 < (cAt l (k + 1)).Old) := by
        rw [hcd, hc]
        by_cases q : k + 1 = l.length
        · have h4 : downT l k t f n := ⟨⟨h1, h2⟩, .inl q⟩
          simp [h4, show (k : Int) + 1 = l.length by omega]
        · have q2 : ¬ ((k : Int) + 1 = l.length) := by omega
          have h4 : downT l k t f n ↔ (cAt l k).Old + (cAt l k).OldLen + 1 < (cAt l (k + 1)).Old := ⟨fun h => h.2.resolve_left q, fun h => ⟨⟨h1, h2⟩, .inr h⟩⟩
          simp [h4, q2]
      exact ret_ret (ret1 rfl rfl rfl) (by rw [h3])
  · rw [hr] at hs
    refine FnOk.intro Tryz.func121 (by decide) rfl rfl rfl rfl ?_
    refine k2 ?_
    refine c_region ?_; refine l_neu (n_assign rfl rfl) rfl ?_; refine l_nil ?_
    refine k1 ?_; refine k2 ?_
    refine c_region ?_; refine l_neu (n_move rfl rfl) rfl ?_; refine l_neu (n_move rfl rfl) rfl ?_; refine l_neu (n_indexAddr rfl (.pure _ _ _ _) rfl (by omega) hv) rfl ?_; refine l_neu (n_loads_eref rfl rfl) rfl ?_; refine l_neu (n_move rfl rfl) rfl ?_; refine l_neu (n_move rfl rfl) rfl ?_; refine l_call (hs) rfl rfl rfl ?_; rintro _ rfl; refine l_neu (n_move rfl rfl) rfl ?_; refine l_neu (n_extract rfl rfl) rfl ?_; refine l_neu (n_extract rfl rfl) rfl ?_; refine l_neu (n_extract rfl rfl) rfl ?_; refine l_neu (n_extract rfl rfl) rfl ?_; refine l_neu (n_assign rfl rfl) rfl ?_; refine l_neu (n_assign rfl rfl) rfl ?_; refine l_neu (n_assign rfl rfl) rfl ?_; refine l_neu (n_assign rfl rfl) rfl ?_; refine l_nil ?_
    refine k1 ?_; refine k2 ?_; refine k2 ?_
    refine c_region_draw (by kernel_rfl) (by kernel_rfl) ?_; refine d_neu (n_move rfl rfl) rfl rfl ?_; refine d_neu (n_not rfl) rfl rfl ?_; refine d_neu (n_move rfl rfl) rfl rfl ?_; refine d_skip rfl rfl (by decide) rfl rfl ?_; refine d_skip rfl rfl (by decide) rfl rfl ?_; refine d_skip rfl rfl (by decide) rfl rfl ?_; refine d_skip rfl rfl (by decide) rfl rfl ?_; refine d_skip rfl rfl (by decide) rfl rfl ?_; refine d_skip rfl rfl (by decide) rfl rfl ?_; refine d_neu (n_pick_t rfl (rfl) rfl) rfl rfl ?_; refine d_neu (n_move rfl rfl) rfl rfl ?_; refine d_skip rfl rfl (by decide) rfl rfl ?_; refine d_skip rfl rfl (by decide) rfl rfl ?_; refine d_skip rfl rfl (by decide) rfl rfl ?_; refine d_skip rfl rfl (by decide) rfl rfl ?_; refine d_skip rfl rfl (by decide) rfl rfl ?_; refine d_skip rfl rfl (by decide) rfl rfl ?_; refine d_skip rfl rfl (by decide) rfl rfl ?_; refine d_skip rfl rfl (by decide) rfl rfl ?_; refine d_skip rfl rfl (by decide) rfl rfl ?_; refine d_skip rfl rfl (by decide) rfl rfl ?_; refine d_skip rfl rfl (by decide) rfl rfl ?_; refine d_neu (n_pick_t rfl (rfl) rfl) rfl rfl ?_; refine d_nil ?_
    refine k1 ?_
    refine c_cond rfl (fun ht => ?_) (fun ht => ?_)
    · refine k2 ?_
      refine c_region ?_; refine l_neu (n_assign rfl rfl) rfl ?_; refine l_nil ?_
      refine k1 ?_; refine k10 ?_; refine k11 ?_
      exact ret_ret (ret1 rfl rfl rfl) (by rw [hcd])
    · cases ht
theorem moved10_ok (l : List Change) (k : Nat) (hk : k < l.length) (hl : l.length ≤ 32768) (h1 : -4096 ≤ (cAt l k).Old ∧ (cAt l k).Old ≤ 4096) (h2 : -4096 ≤ (cAt l k).New ∧ (cAt l k).New ≤ 4096) :
    FnOk Tryz.prog 122 [pChanges l, pInt k, pInt 1] (fun rs => rs = [pChanges (movedOf l k)]) := by
  obtain ⟨c, hc⟩ : ∃ c, c = cAt l k := ⟨_, rfl⟩
  have hv : l[k]? = some c := by rw [hc]; exact cAt_get hk
  rw [← hc] at h1 h2
  obtain ⟨c', hc'⟩ : ∃ c' : Change, c' = { c with Old := c.Old + 1 } := ⟨_, rfl⟩
  have hv' : (l.set k c')[k]? = some c' := List.getElem?_set_self hk
  have hfin : (l.set k c').set k ({ c' with New := c'.New + 1 } : Change) = movedOf l k := by
    rw [List.set_set]; unfold movedOf; rw [← hc, hc']; rfl
  have hl' : (l.set k c').length = l.length := by simp
  refine FnOk.intro Tryz.func122 (by decide) rfl rfl rfl rfl ?_
  refine k2 ?_
  refine c_region ?_; refine l_neu (n_assign rfl rfl) rfl ?_; refine l_nil ?_
  refine k1 ?_; refine k2 ?_
  refine c_region ?_; refine l_effv (f_buildG 5 _ changeC rfl (by first | rfl | (simp [frFree, obFree, Ob.free, SV.free, S1.free, TC.free] <;> rfl))) rfl ?_; refine l_neu (n_move rfl rfl) rfl ?_; refine l_effv (e_append_g rfl rfl rfl (.pure _ _ _ _) (by (simp; omega)) rfl) rfl ?_; refine l_neu (n_assign rfl rfl) rfl ?_; refine l_nil ?_
  simp only [List.nil_append]
  refine k1 ?_; refine k2 ?_
  refine c_region ?_; refine l_neu (n_move rfl rfl) rfl ?_; refine l_neu (n_move rfl rfl) rfl ?_; refine l_neu (n_move rfl rfl) rfl ?_; refine l_neu (n_move rfl rfl) rfl ?_; refine l_neu (n_indexAddr_g rfl rfl rfl (by omega) (by omega)) rfl ?_; refine l_neu (n_field_mref rfl) rfl ?_; refine l_neu (n_load_g rfl rfl hv rfl) rfl ?_; refine l_neu (n_move rfl rfl) rfl ?_; refine l_neu (n_add rfl rfl (by omega)) rfl ?_; refine l_neu (n_indexAddr_g rfl rfl rfl (by omega) (by omega)) rfl ?_; refine l_neu (n_field_mref rfl) rfl ?_; refine l_eff (e_store_g (({ c with Old := c.Old + 1 } : Change)) TySz.out rfl rfl hv rfl rfl rfl rfl (fun _ _ _ h => all2_unp h) (by intro j h1 h2; rcases j with _ | _ | _ | _ | _ | _ | _ | j <;> first | rfl | omega)) ?_; refine l_nil ?_
  rw [Int.toNat_natCast, ← hc']
  refine k1 ?_; refine k2 ?_
  refine c_region ?_; refine l_neu (n_move rfl rfl) rfl ?_; refine l_neu (n_move rfl rfl) rfl ?_; refine l_neu (n_move rfl rfl) rfl ?_; refine l_neu (n_move rfl rfl) rfl ?_; refine l_neu (n_indexAddr_g rfl rfl rfl (by omega) (by (rw [hl']; omega))) rfl ?_; refine l_neu (n_field_mref rfl) rfl ?_; refine l_neu (n_load_g rfl rfl hv' rfl) rfl ?_; refine l_neu (n_move rfl rfl) rfl ?_; refine l_neu (n_add rfl rfl (by (rw [hc']; dsimp only; omega))) rfl ?_; refine l_neu (n_indexAddr_g rfl rfl rfl (by omega) (by (rw [hl']; omega))) rfl ?_; refine l_neu (n_field_mref rfl) rfl ?_; refine l_eff (e_store_g (({ c' with New := c'.New + 1 } : Change)) TySz.out rfl rfl hv' rfl rfl rfl rfl (fun _ _ _ h => all2_unp h) (by intro j h1 h2; rcases j with _ | _ | _ | _ | _ | _ | _ | j <;> first | rfl | omega)) ?_; refine l_nil ?_
  rw [Int.toNat_natCast, hfin]
  refine k1 ?_; refine k2 ?_
  refine c_sees (Sees.growBuf (t := 7) rfl rfl rfl) ?_
  refine c_region ?_; refine l_neu (n_move rfl rfl) rfl ?_; refine l_neu (n_assign rfl rfl) rfl ?_; refine l_nil ?_
  refine k1 ?_; refine k10 ?_
  exact ret_ret (ret1 rfl rfl rfl) rfl
theorem fit_pairs {x y : List Str} {names : List Str} {l : List Change} (h : ScFit x y l) : ∀ p ∈ matchedOf l ((idsOf names x).length : Int), PairAt (idsOf names x) (idsOf names y) p := by
  intro p hp
  rw [show ((idsOf names x).length : Int) = x.length by simp [idsOf]] at hp
  obtain ⟨h1, h2, v, h3, h4⟩ := h.pairs p hp
  refine ⟨h1, h2, placeOf names v 0, ?_, ?_⟩
  · unfold idsOf; rw [List.getElem?_map, h3]; rfl
  · unfold idsOf; rw [List.getElem?_map, h4]; rfl
theorem rDown10_ok (x y names : List Str) (l : List Change) (h : ScFit x y l) (hl : l.length ≤ 32768) (hx : ∀ s ∈ x, s ∈ names) (hy : ∀ s ∈ y, s ∈ names) :
    FnOk Tryz.prog 79 [pChanges l, pInts (idsOf names x), pInts (idsOf names y)] (fun rs => rs = [pChanges (downOf l (idsOf names x) (idsOf names y)), pInt 0]) := by
  obtain ⟨a, ha⟩ : ∃ a, a = idsOf names x := ⟨_, rfl⟩
  obtain ⟨b, hb⟩ : ∃ b, b = idsOf names y := ⟨_, rfl⟩
  have hpp := fit_pairs (names := names) h
  have ia : IdsOf x a := by rw [ha]; exact idsOf_ids hx
  have ib : IdsOf y b := by rw [hb]; exact idsOf_ids hy
  rw [← ha, ← hb] at hpp ⊢
  have hla := ia.len
  have hlb := ib.len
  have hxl := h.lx
  have hyl := h.ly
  have hck := h.check
  rw [← hla, ← hlb] at hck
  refine FnOk.intro Tryz.func79 (by decide) rfl rfl rfl rfl ?_
  refine k2 ?_
  refine c_region ?_; refine l_neu (n_assign rfl rfl) rfl ?_; refine l_neu (n_assign rfl rfl) rfl ?_; refine l_nil ?_
  refine k1 ?_; refine k2 ?_; refine k2 ?_
  refine c_region ?_; refine l_neu (n_move rfl rfl) rfl ?_; refine l_neu (n_move rfl rfl) rfl ?_; refine l_neu (n_move rfl rfl) rfl ?_; refine l_call (rFits8_ok l a b hl hck hpp) rfl rfl rfl ?_; rintro _ rfl; refine l_neu (n_not rfl) rfl ?_; refine l_nil ?_
  refine k1 ?_
  refine c_cond rfl (fun ht => ?_) (fun ht => ?_)
  · cases ht
  refine k5 ?_; refine k1 ?_; refine k2 ?_; refine k2 ?_
  refine c_region ?_; refine l_neu (n_move rfl rfl) rfl ?_; refine l_neu (n_len rfl (.pure _ _ _ _)) rfl ?_; refine l_neu (n_sub rfl rfl (by omega)) rfl ?_; refine l_neu (n_assign rfl rfl) rfl ?_; refine l_nil ?_
  refine k1 ?_; refine k3 ?_
  refine c_while (X := Nat × List Change) (fun s => ([(0, sList Change 4 changeC s.2), (1, sList Int 1 intC a), (2, sList Int 1 intC b), (8, sInt ((s.1 : Int) - 1))], [])) (fun s => s.1 ≤ l.length ∧ s.2.length = l.length ∧ ScFit x y s.2 ∧ slideAll a b s.1 s.2 = downOf l a b) (fun s => s.1) (l.length, l) ⟨Nat.le_refl _, rfl, h, rfl⟩ (Sees.of ⟨le1 rfl, le1 rfl, le1 rfl, le1 rfl, trivial⟩ trivial) ?_
  rintro ⟨n, l1⟩ ⟨hn, hl1, hf1, hs1⟩
  dsimp only at hn hl1 hf1 hs1 ⊢
  refine k2 ?_; refine k2 ?_
  refine c_region ?_; refine l_neu (n_move rfl rfl) rfl ?_; refine l_neu (n_geq rfl rfl) rfl ?_; refine l_nil ?_
  refine k1 ?_
  refine c_cond rfl (fun ht => ?_) (fun ht => ?_)
  · have hn0 : 0 < n := by have := of_decide_eq_true ht; omega
    obtain ⟨k, rfl⟩ : ∃ k, n = k + 1 := ⟨n - 1, by omega⟩
    rw [show ((k + 1 : Nat) : Int) - 1 = k by omega]
    refine k5 ?_; refine k1 ?_; refine k2 ?_; refine k3 ?_; refine k3 ?_
    refine c_while (X := List Change) (fun l2 => ([(0, sList Change 4 changeC l2), (1, sList Int 1 intC a), (2, sList Int 1 intC b), (8, sInt k)], [])) (fun l2 => l2.length = l.length ∧ ScFit x y l2 ∧ slideOne a b l2 k = slideOne a b l1 k) (fun l2 => measK l2 a b k) l1 ⟨hl1, hf1, rfl⟩ (Sees.of ⟨le1 rfl, le1 rfl, le1 rfl, le1 rfl, trivial⟩ trivial) ?_
    rintro l2 ⟨hl2, hf2, hs2⟩
    dsimp only at hl2 hf2 hs2 ⊢
    have hok2 := hf2.ok
    rw [← hla, ← hlb] at hok2
    have hk2 : k < l2.length := by omega
    refine k2 ?_; refine k2 ?_
    refine c_region ?_; refine l_neu (n_move rfl rfl) rfl ?_; refine l_neu (n_move rfl rfl) rfl ?_; refine l_neu (n_move rfl rfl) rfl ?_; refine l_neu (n_move rfl rfl) rfl ?_; refine l_call (down10_ok l2 a b k hk2 (by omega) (by omega) (by omega) hok2) rfl rfl rfl ?_; rintro _ rfl; refine l_nil ?_
    refine k1 ?_
    refine c_cond rfl (fun ht => ?_) (fun ht => ?_)
    · have hg := hok2.get k hk2
      have hst := slideOne_down ia ib hf2 hk2 ht
      have hm := meas_down ia ib hf2 hk2 ht
      obtain ⟨⟨g1, g2⟩, _, ⟨g3, g4⟩, _⟩ := hg
      refine k5 ?_; refine k1 ?_; refine k3 ?_
      refine c_region ?_; refine l_neu (n_move rfl rfl) rfl ?_; refine l_neu (n_move rfl rfl) rfl ?_; refine l_call (moved10_ok l2 k hk2 (by omega) ⟨by omega, g2⟩ ⟨by omega, g4⟩) rfl rfl rfl ?_; rintro _ rfl; refine l_neu (n_assign rfl rfl) rfl ?_; refine l_nil ?_
      refine k4 ?_; refine k1 ?_
      exact ⟨movedOf l2 k, ⟨by rw [movedOf_length]; exact hl2, hf2.down ia ib hk2 ht, by rw [← hst]; exact hs2⟩, hm, Sees.of ⟨le1 rfl, le1 rfl, le1 rfl, le1 rfl, trivial⟩ trivial⟩
    · have hst := slideOne_stop (a := a) (b := b) ht
      rw [hst] at hs2
      have hsl : slideAll a b (k + 1) l1 = slideAll a b k l2 := by rw [hs2]; rfl
      rw [hsl] at hs1
      refine k6 ?_; refine k7 ?_; refine k7 ?_; refine k8 rfl ?_; refine k4 ?_; refine k1 ?_
      refine c_region ?_; refine l_neu (n_move rfl rfl) rfl ?_; refine l_neu (n_sub rfl rfl (by omega)) rfl ?_; refine l_neu (n_assign rfl rfl) rfl ?_; refine l_nil ?_
      refine k1 ?_
      exact ⟨(k, l2), ⟨by dsimp only; omega, hl2, hf2, hs1⟩, by dsimp only; omega, Sees.of ⟨le1 rfl, le1 rfl, le1 rfl, le1 rfl, trivial⟩ trivial⟩
  · have hn0 : n = 0 := by have := of_decide_eq_false ht; omega
    subst hn0
    have hs1 : l1 = downOf l a b := hs1
    refine k6 ?_; refine k2 ?_
    refine c_region ?_; refine l_effv (f_buildBuf 9 (c := changeC) (ys := []) asm_nil rfl rfl rfl (by first | rfl | (simp [frFree, obFree, Ob.free, SV.free, S1.free, TC.free] <;> rfl))) rfl ?_; refine l_neu (n_move rfl rfl) rfl ?_; refine l_effv (e_append rfl rfl rfl (.pure _ _ _ _) (by (simp; omega)) rfl) rfl ?_; refine l_neu (n_assign rfl rfl) rfl ?_; refine l_neu (n_assign rfl rfl) rfl ?_; refine l_nil ?_
    simp only [List.nil_append]
    refine k1 ?_; refine k10 ?_
    exact ret_ret (ret2 rfl rfl rfl rfl rfl) (by rw [hs1])
end Go.Proofs.YtjjidificdmnmaaGreatDoor
