/- Walks of the program's functions. -/
import Derived.Test.YtjjidificdmnmaaGreatDoorFb
import Derived.Test.YtjjidificdmnmaaGreatDoorFs
namespace Go.Proofs.YtjjidificdmnmaaGreatDoor
open Go Go.AL
set_option maxRecDepth 100000
abbrev plineV (q : PatchLine) : List Value := [.int .u8 q.Kind.toNat, .string ⟨q.Text.toArray⟩]
theorem pline_eq (q q' : PatchLine) : eqVs (plineV q) (plineV q') = decide (q = q') := by
  rw [Bool.eq_iff_iff]
  simp only [eqVs, eqV, ByteArray.toList_mk, Bool.and_eq_true, beq_iff_eq, decide_eq_true_eq, Bool.and_true]
  constructor
  · rintro ⟨h1, h2⟩
    obtain ⟨k, t⟩ := q
    obtain ⟨k', t'⟩ := q'
    obtain rfl : k = k' := UInt8.toNat_inj.1 (by have h1 : (k.toNat : Int) = k'.toNat := h1; omega)
    obtain rfl : t = t' := h2
    rfl
  · rintro rfl; exact ⟨rfl, rfl⟩
theorem take_all_eq {α : Type} {a b : List α} {k : Nat} (hl : a.length = b.length) (hk : k = a.length) (h : a.take k = b.take k) : a = b := by
  subst hk; rw [List.take_length, hl, List.take_length] at h; exact h
theorem take_step_eq {α : Type} {a b : List α} {k : Nat} (h1 : k < a.length) (h2 : k < b.length) (h : a.take k = b.take k) (he : a[k] = b[k]) : a.take (k + 1) = b.take (k + 1) := by
  rw [List.take_succ_eq_append_getElem h1, List.take_succ_eq_append_getElem h2, h, he]
theorem gpatch_ok (a b : Patch) (ha : szP a.Hunks ≤ 1099511627776) : FnOk Tryz.prog 23 [pPatch a, pPatch b] (fun rs => rs = [pBool (decide (a = b))]) := by
  have hsl := szP_len a.Hunks
  refine FnOk.intro Tryz.func23 (by decide) rfl rfl rfl rfl ?_
  refine k2 ?_
  refine c_region ?_; refine l_effv (f_box 2 rfl rfl rfl) rfl ?_; refine l_effv (f_box 3 rfl rfl rfl) rfl ?_; refine l_neu (n_assign rfl rfl) rfl ?_; refine l_nil ?_
  refine k1 ?_; refine k2 ?_; refine k2 ?_
  refine c_region ?_; refine l_neu (n_field_ref rfl) rfl ?_; refine l_neu (n_load_ref rfl rfl rfl) rfl ?_; refine l_neu (n_field_ref rfl) rfl ?_; refine l_neu (n_load_ref rfl rfl rfl) rfl ?_; refine l_neu (n_neq_s rfl rfl) rfl ?_; refine l_neu (n_move rfl rfl) rfl ?_; refine l_guard rfl rfl rfl rfl (fun hg => by rw [hg]; exact n_field_ref rfl) ?_; refine l_guard rfl rfl rfl rfl (fun hg => by rw [hg]; exact n_load_ref rfl rfl rfl) ?_; refine l_guard rfl rfl rfl rfl (fun hg => by rw [hg]; exact n_field_ref rfl) ?_; refine l_guard rfl rfl rfl rfl (fun hg => by rw [hg]; exact n_load_ref rfl rfl rfl) ?_; refine l_guard rfl rfl rfl rfl (fun hg => by rw [hg]; exact n_neq_s rfl rfl) ?_; refine l_neu (n_pick_bool rfl (fun h => by first | rfl | (rw [h]; rfl)) (fun h => by first | rfl | (rw [h]; rfl))) rfl ?_; refine l_neu (n_move rfl rfl) rfl ?_; refine l_guard rfl rfl rfl rfl (fun hg => by rw [hg]; exact n_field_ref rfl) ?_; refine l_guard rfl rfl rfl rfl (fun hg => by rw [hg]; exact n_load_ref rfl rfl rfl) ?_; refine l_guard rfl rfl rfl rfl (fun hg => by rw [hg]; exact n_len rfl (.pure _ _ _ _)) ?_; refine l_guard rfl rfl rfl rfl (fun hg => by rw [hg]; exact n_field_ref rfl) ?_; refine l_guard rfl rfl rfl rfl (fun hg => by rw [hg]; exact n_load_ref rfl rfl rfl) ?_; refine l_guard rfl rfl rfl rfl (fun hg => by rw [hg]; exact n_len rfl (.pure _ _ _ _)) ?_; refine l_guard rfl rfl rfl rfl (fun hg => by rw [hg]; exact n_neq rfl rfl) ?_; refine l_neu (n_pick_bool rfl (fun h => by first | rfl | (rw [h]; rfl)) (fun h => by first | rfl | (rw [h]; rfl))) rfl ?_; refine l_nil ?_
  refine k1 ?_
  refine c_cond rfl (fun ht => ?_) (fun ht => ?_)
  · simp only [or_pick] at ht
    have h := of_decide_eq_true ht
    refine k2 ?_
    refine c_region ?_; refine l_neu (n_assign rfl rfl) rfl ?_; refine l_nil ?_
    refine k1 ?_; refine k10 ?_; refine k11 ?_
    refine ret_ret (rs := [pBool false]) (ret1 rfl rfl rfl) ?_
    rw [decide_eq_false]
    rintro rfl
    simp at h
  simp only [or_pick] at ht
  have h := of_decide_eq_false ht
  have h1 : a.OldName = b.OldName := Decidable.not_not.1 fun q => h (.inl (.inl q))
  have h2 : a.NewName = b.NewName := Decidable.not_not.1 fun q => h (.inl (.inr q))
  have h3 : a.Hunks.length = b.Hunks.length := by
    have : (a.Hunks.length : Int) = b.Hunks.length := Decidable.not_not.1 fun q => h (.inr q)
    omega
  refine k5 ?_; refine k1 ?_; refine k2 ?_; refine k2 ?_
  refine c_region ?_; refine l_neu (n_assign rfl rfl) rfl ?_; refine l_nil ?_
  refine k1 ?_; refine k3 ?_
  refine c_while (X := Nat) (fun k => ([(2, .s (.one (.ref 2 0))), (3, .s (.one (.ref 3 0))), (5, sInt k)], [(2, .box (pPatch a).s1.cells), (3, .box (pPatch b).s1.cells)])) (fun k => k ≤ a.Hunks.length ∧ a.Hunks.take k = b.Hunks.take k) (fun k => a.Hunks.length - k) 0 ⟨Nat.zero_le _, rfl⟩ (Sees.of ⟨le1 rfl, le1 rfl, le1 rfl, trivial⟩ ⟨rfl, rfl, trivial⟩) ?_
  rintro k ⟨hk, he⟩
  dsimp only at hk he ⊢
  refine k2 ?_; refine k2 ?_
  refine c_region ?_; refine l_neu (n_move rfl rfl) rfl ?_; refine l_neu (n_field_ref rfl) rfl ?_; refine l_neu (n_load_ref rfl rfl rfl) rfl ?_; refine l_neu (n_len rfl (.pure _ _ _ _)) rfl ?_; refine l_neu (n_lss rfl rfl) rfl ?_; refine l_nil ?_
  refine k1 ?_
  refine c_cond rfl (fun ht => ?_) (fun ht => ?_)
  · have hlt : k < a.Hunks.length := by have := of_decide_eq_true ht; omega
    have hlt' : k < b.Hunks.length := by omega
    have hv : a.Hunks[k]? = some a.Hunks[k] := by simp [hlt]
    have hv' : b.Hunks[k]? = some b.Hunks[k] := by simp [hlt']
    have hszx : 64 * (a.Hunks[k].Lines.length) ≤ szP a.Hunks := by
      have h3 := szP_mem (List.getElem_mem hlt)
      have h4 := szL_len a.Hunks[k].Lines
      unfold szH at h3; omega
    have hnext := fun q => take_step_eq hlt hlt' he q
    have hno : a.Hunks[k] ≠ b.Hunks[k] → decide (a = b) = false := fun q => by
      rw [decide_eq_false]; rintro rfl; exact q rfl
    obtain ⟨x, hx⟩ : ∃ x, x = a.Hunks[k] := ⟨_, rfl⟩
    obtain ⟨y, hy⟩ : ∃ y, y = b.Hunks[k] := ⟨_, rfl⟩
    rw [← hx] at hv hszx
    rw [← hy] at hv'
    rw [← hx, ← hy] at hnext hno
    refine k5 ?_; refine k1 ?_; refine k2 ?_; refine k3 ?_; refine k2 ?_
    refine c_region_any [13, 12, 11, 10] [[], [10], [11], [11, 10], [12, 11, 10], [13, 12, 11, 10]] [(0, [10]), (0, [11]), (0, [11, 10]), (1, [10]), (1, [11]), (1, [11, 10]), (2, [10]), (2, [11]), (2, [11, 10]), (3, [10]), (3, [11]), (3, [11, 10]), (4, [10]), (4, [11]), (4, [11, 10]), (5, [10]), (5, [11]), (5, [11, 10]), (5, [12, 11, 10]), (6, [10]), (6, [11]), (6, [11, 10]), (6, [12, 11, 10]), (7, [10]), (7, [11]), (7, [11, 10]), (7, [12, 11, 10]), (8, [10]), (8, [11]), (8, [11, 10]), (8, [12, 11, 10]), (9, [10]), (9, [11]), (9, [11, 10]), (9, [12, 11, 10]), (10, [11]), (11, [])] (by kernel_rfl) (by kernel_rfl) ?_; refine a_neu rfl (n_field_ref rfl) ?_; refine a_neu rfl (n_load_ref rfl rfl rfl) ?_; refine a_neu rfl (n_move rfl rfl) ?_; refine a_neu rfl (n_indexAddr rfl (.pure _ _ _ _) rfl (by omega) hv) ?_; refine a_neu rfl (n_loads_eref rfl rfl) ?_; refine a_neu rfl (n_field_ref rfl) ?_; refine a_neu rfl (n_load_ref rfl rfl rfl) ?_; refine a_neu rfl (n_move rfl rfl) ?_; refine a_neu rfl (n_indexAddr rfl (.pure _ _ _ _) rfl (by omega) hv') ?_; refine a_neu rfl (n_loads_eref rfl rfl) ?_; refine a_alloc 6 rfl rfl ?_; refine a_alloc 7 rfl rfl ?_; refine a_store (u_store_ref TySz.out rfl rfl rfl rfl rfl rfl) ?_; refine a_store (u_store_ref TySz.out rfl rfl rfl rfl rfl rfl) ?_; refine a_nil rfl ?_ ?_
    · refine o_neu rfl rfl (n_field_ref rfl) ?_; refine o_neu rfl rfl (n_field_ref rfl) ?_; refine o_neu rfl rfl (n_field_ref rfl) ?_; refine o_neu rfl rfl (n_load_ref rfl rfl rfl) ?_; refine o_neu rfl rfl (n_load_ref rfl rfl rfl) ?_; refine o_neu rfl rfl (n_load_ref rfl rfl rfl) ?_; refine o_neu rfl rfl (n_move rfl rfl) ?_; refine o_neu rfl rfl (n_move rfl rfl) ?_; refine o_neu rfl rfl (n_move rfl rfl) ?_; refine o_neu rfl rfl (n_indexAddr rfl (.pure _ _ _ _) rfl (by omega) hv) ?_; refine o_neu rfl rfl (n_indexAddr rfl (.pure _ _ _ _) rfl (by omega) hv) ?_; refine o_neu rfl rfl (n_indexAddr rfl (.pure _ _ _ _) rfl (by omega) hv) ?_; refine o_neu rfl rfl (n_loads_eref rfl rfl) ?_; refine o_neu rfl rfl (n_loads_eref rfl rfl) ?_; refine o_neu rfl rfl (n_loads_eref rfl rfl) ?_; refine o_neu rfl rfl (n_field_ref rfl) ?_; refine o_neu rfl rfl (n_field_ref rfl) ?_; refine o_neu rfl rfl (n_field_ref rfl) ?_; refine o_neu rfl rfl (n_field_ref rfl) ?_; refine o_neu rfl rfl (n_load_ref rfl rfl rfl) ?_; refine o_neu rfl rfl (n_load_ref rfl rfl rfl) ?_; refine o_neu rfl rfl (n_load_ref rfl rfl rfl) ?_; refine o_neu rfl rfl (n_load_ref rfl rfl rfl) ?_; refine o_neu rfl rfl (n_move rfl rfl) ?_; refine o_neu rfl rfl (n_move rfl rfl) ?_; refine o_neu rfl rfl (n_move rfl rfl) ?_; refine o_neu rfl rfl (n_move rfl rfl) ?_; refine o_neu rfl rfl (n_indexAddr rfl (.pure _ _ _ _) rfl (by omega) hv') ?_; refine o_neu rfl rfl (n_indexAddr rfl (.pure _ _ _ _) rfl (by omega) hv') ?_; refine o_neu rfl rfl (n_indexAddr rfl (.pure _ _ _ _) rfl (by omega) hv') ?_; refine o_neu rfl rfl (n_indexAddr rfl (.pure _ _ _ _) rfl (by omega) hv') ?_; refine o_neu rfl rfl (n_loads_eref rfl rfl) ?_; refine o_neu rfl rfl (n_loads_eref rfl rfl) ?_; refine o_neu rfl rfl (n_loads_eref rfl rfl) ?_; refine o_neu rfl rfl (n_loads_eref rfl rfl) ?_; refine o_alloc rfl rfl rfl rfl rfl ?_; refine o_alloc rfl rfl rfl rfl rfl ?_; exact o_nil
    refine k1 ?_; refine k2 ?_; refine k2 ?_
    refine c_region ?_; refine l_neu (n_field_ref rfl) rfl ?_; refine l_neu (n_load_ref rfl rfl rfl) rfl ?_; refine l_neu (n_field_ref rfl) rfl ?_; refine l_neu (n_load_ref rfl rfl rfl) rfl ?_; refine l_neu (n_neq rfl rfl) rfl ?_; refine l_neu (n_move rfl rfl) rfl ?_; refine l_guard rfl rfl rfl rfl (fun hg => by rw [hg]; exact n_field_ref rfl) ?_; refine l_guard rfl rfl rfl rfl (fun hg => by rw [hg]; exact n_load_ref rfl rfl rfl) ?_; refine l_guard rfl rfl rfl rfl (fun hg => by rw [hg]; exact n_field_ref rfl) ?_; refine l_guard rfl rfl rfl rfl (fun hg => by rw [hg]; exact n_load_ref rfl rfl rfl) ?_; refine l_guard rfl rfl rfl rfl (fun hg => by rw [hg]; exact n_neq rfl rfl) ?_; refine l_neu (n_pick_bool rfl (fun h => by first | rfl | (rw [h]; rfl)) (fun h => by first | rfl | (rw [h]; rfl))) rfl ?_; refine l_neu (n_move rfl rfl) rfl ?_; refine l_guard rfl rfl rfl rfl (fun hg => by rw [hg]; exact n_field_ref rfl) ?_; refine l_guard rfl rfl rfl rfl (fun hg => by rw [hg]; exact n_load_ref rfl rfl rfl) ?_; refine l_guard rfl rfl rfl rfl (fun hg => by rw [hg]; exact n_len rfl (.pure _ _ _ _)) ?_; refine l_guard rfl rfl rfl rfl (fun hg => by rw [hg]; exact n_field_ref rfl) ?_; refine l_guard rfl rfl rfl rfl (fun hg => by rw [hg]; exact n_load_ref rfl rfl rfl) ?_; refine l_guard rfl rfl rfl rfl (fun hg => by rw [hg]; exact n_len rfl (.pure _ _ _ _)) ?_; refine l_guard rfl rfl rfl rfl (fun hg => by rw [hg]; exact n_neq rfl rfl) ?_; refine l_neu (n_pick_bool rfl (fun h => by first | rfl | (rw [h]; rfl)) (fun h => by first | rfl | (rw [h]; rfl))) rfl ?_; refine l_nil ?_
    refine k1 ?_
    refine c_cond rfl (fun ht => ?_) (fun ht => ?_)
    · simp only [or_pick] at ht
      have h := of_decide_eq_true ht
      refine k2 ?_
      refine c_region ?_; refine l_neu (n_assign rfl rfl) rfl ?_; refine l_nil ?_
      refine k1 ?_; refine k10 ?_; refine k11 ?_; refine k12 ?_; refine k11 ?_; refine k11 ?_; refine k12 ?_; refine k11 ?_
      refine ret_ret (rs := [pBool false]) (ret1 rfl rfl rfl) ?_
      rw [hno]
      rintro rfl
      simp at h
    simp only [or_pick] at ht
    have g := of_decide_eq_false ht
    have g1 : x.Old = y.Old := Decidable.not_not.1 fun q => g (.inl (.inl q))
    have g2 : x.New = y.New := Decidable.not_not.1 fun q => g (.inl (.inr q))
    have g3 : x.Lines.length = y.Lines.length := by
      have : (x.Lines.length : Int) = y.Lines.length := Decidable.not_not.1 fun q => g (.inr q)
      omega
    refine k5 ?_; refine k1 ?_; refine k2 ?_
    refine c_region ?_; refine l_neu (n_assign rfl rfl) rfl ?_; refine l_nil ?_
    refine k1 ?_; refine k3 ?_
    refine c_while (X := Nat) (fun i => ([(2, .s (.one (.ref 2 0))), (3, .s (.one (.ref 3 0))), (5, sInt k), (6, .s (.one (.ref 6 0))), (7, .s (.one (.ref 7 0))), (8, sInt i)], [(2, .box (pPatch a).s1.cells), (3, .box (pPatch b).s1.cells), (6, .box (pPhunk x).s1.cells), (7, .box (pPhunk y).s1.cells)])) (fun i => i ≤ x.Lines.length ∧ x.Lines.take i = y.Lines.take i) (fun i => x.Lines.length - i) 0 ⟨Nat.zero_le _, rfl⟩ (Sees.of ⟨le1 rfl, le1 rfl, le1 rfl, le1 rfl, le1 rfl, le1 rfl, trivial⟩ ⟨rfl, rfl, rfl, rfl, trivial⟩) ?_
    rintro i ⟨hi, hie⟩
    dsimp only at hi hie ⊢
    refine k2 ?_; refine k2 ?_
    refine c_region ?_; refine l_neu (n_move rfl rfl) rfl ?_; refine l_neu (n_field_ref rfl) rfl ?_; refine l_neu (n_load_ref rfl rfl rfl) rfl ?_; refine l_neu (n_len rfl (.pure _ _ _ _)) rfl ?_; refine l_neu (n_lss rfl rfl) rfl ?_; refine l_nil ?_
    refine k1 ?_
    refine c_cond rfl (fun ht => ?_) (fun ht => ?_)
    · have hlt2 : i < x.Lines.length := by have := of_decide_eq_true ht; omega
      have hlt2' : i < y.Lines.length := by omega
      have w : x.Lines[i]? = some x.Lines[i] := by simp [hlt2]
      have w' : y.Lines[i]? = some y.Lines[i] := by simp [hlt2']
      have inext := fun q => take_step_eq hlt2 hlt2' hie q
      have ino : x.Lines[i] ≠ y.Lines[i] → x ≠ y := fun q e => by subst e; exact q rfl
      obtain ⟨u, hu⟩ : ∃ u, u = x.Lines[i] := ⟨_, rfl⟩
      obtain ⟨v, hv2⟩ : ∃ v, v = y.Lines[i] := ⟨_, rfl⟩
      rw [← hu] at w
      rw [← hv2] at w'
      rw [← hu, ← hv2] at inext ino
      refine k5 ?_; refine k1 ?_; refine k2 ?_; refine k3 ?_; refine k2 ?_
      refine c_region_draw (by kernel_rfl) (by kernel_rfl) ?_; refine d_neu (n_field_ref rfl) rfl rfl ?_; refine d_neu (n_load_ref rfl rfl rfl) rfl rfl ?_; refine d_neu (n_move rfl rfl) rfl rfl ?_; refine d_neu (n_indexAddr rfl (.pure _ _ _ _) rfl (by omega) w) rfl rfl ?_; refine d_neu (n_loads_eref rfl rfl) rfl rfl ?_; refine d_neu (n_field_ref rfl) rfl rfl ?_; refine d_neu (n_load_ref rfl rfl rfl) rfl rfl ?_; refine d_neu (n_move rfl rfl) rfl rfl ?_; refine d_neu (n_indexAddr rfl (.pure _ _ _ _) rfl (by omega) w') rfl rfl ?_; refine d_neu (n_loads_eref rfl rfl) rfl rfl ?_; refine d_neu (n_neq_st (plineV u) (plineV v) rfl rfl rfl rfl (pline_eq u v)) rfl rfl ?_; refine d_nil ?_
      refine k1 ?_
      refine c_cond rfl (fun ht => ?_) (fun ht => ?_)
      · have e : u ≠ v := by simpa using ht
        refine k2 ?_
        refine c_region ?_; refine l_neu (n_assign rfl rfl) rfl ?_; refine l_nil ?_
        refine k1 ?_; refine k10 ?_; refine k12 ?_; refine k11 ?_; refine k11 ?_; refine k12 ?_; refine k12 ?_; refine k11 ?_; refine k11 ?_; refine k12 ?_; refine k11 ?_
        exact ret_ret (rs := [pBool false]) (ret1 rfl rfl rfl) (by rw [hno (ino e)])
      · have e : u = v := by simpa using ht
        refine k5 ?_; refine k4 ?_; refine k1 ?_
        refine c_region ?_; refine l_neu (n_move rfl rfl) rfl ?_; refine l_neu (n_add rfl rfl (by omega)) rfl ?_; refine l_neu (n_assign rfl rfl) rfl ?_; refine l_nil ?_
        refine k1 ?_
        exact ⟨i + 1, ⟨by omega, inext e⟩, by omega, Sees.of ⟨le1 rfl, le1 rfl, le1 rfl, le1 rfl, le1 rfl, le1 rfl, trivial⟩ ⟨rfl, rfl, rfl, rfl, trivial⟩⟩
    · have hi' : i = x.Lines.length := by have := of_decide_eq_false ht; omega
      have hxy : x = y := by
        have h5 := take_all_eq g3 hi' hie
        clear hno hnext hv hv' hx hy
        obtain ⟨x1, x2, x3⟩ := x
        obtain ⟨y1, y2, y3⟩ := y
        simp only at g1 g2 h5
        subst g1 g2 h5
        rfl
      refine k6 ?_; refine k7 ?_; refine k7 ?_; refine k8 rfl ?_; refine k4 ?_; refine k1 ?_
      refine c_region ?_; refine l_neu (n_move rfl rfl) rfl ?_; refine l_neu (n_add rfl rfl (by omega)) rfl ?_; refine l_neu (n_assign rfl rfl) rfl ?_; refine l_nil ?_
      refine k1 ?_
      exact ⟨k + 1, ⟨by omega, hnext hxy⟩, by omega, Sees.of ⟨le1 rfl, le1 rfl, le1 rfl, trivial⟩ ⟨rfl, rfl, trivial⟩⟩
  · have hk' : k = a.Hunks.length := by have := of_decide_eq_false ht; omega
    have hab : a = b := by
      have h5 := take_all_eq h3 hk' he
      obtain ⟨a1, a2, a3⟩ := a
      obtain ⟨b1, b2, b3⟩ := b
      simp only at h1 h2 h5
      subst h1 h2 h5
      rfl
    refine k6 ?_; refine k2 ?_
    refine c_region ?_; refine l_neu (n_assign rfl rfl) rfl ?_; refine l_nil ?_
    refine k1 ?_; refine k10 ?_
    exact ret_ret (rs := [pBool true]) (ret1 rfl rfl rfl) (by rw [decide_eq_true hab])
end Go.Proofs.YtjjidificdmnmaaGreatDoor
namespace Go.Proofs.YtjjidificdmnmaaGreatDoor
open Go Go.AL
set_option maxRecDepth 100000
end Go.Proofs.YtjjidificdmnmaaGreatDoor
namespace Go.Proofs.YtjjidificdmnmaaGreatDoor
open Go Go.AL
set_option maxRecDepth 100000
theorem slength_ok (n : Int) : FnOk Tryz.prog 151 [pInt n] (fun rs => rs = [pBool (decide (in81 n))]) := by
  refine FnOk.intro Tryz.func151 (by decide) rfl rfl rfl rfl ?_
  refine k2 ?_
  refine c_region ?_; refine l_neu (n_assign rfl rfl) rfl ?_; refine l_nil ?_
  refine k1 ?_; refine k2 ?_
  refine c_region ?_; refine l_neu (n_move rfl rfl) rfl ?_; refine l_neu (n_geq rfl rfl) rfl ?_; refine l_neu (n_move rfl rfl) rfl ?_; refine l_guard rfl rfl rfl rfl (fun hg => by rw [hg]; exact n_move rfl rfl) ?_; refine l_guard rfl rfl rfl rfl (fun hg => by rw [hg]; exact n_leq rfl rfl) ?_; refine l_neu (n_pick_bool rfl (fun h => by first | rfl | (rw [h]; rfl)) (fun h => by first | rfl | (rw [h]; rfl))) rfl ?_; refine l_neu (n_assign rfl rfl) rfl ?_; refine l_nil ?_
  refine k1 ?_; refine k10 ?_
  refine ret_ret (ret1 rfl rfl rfl) ?_
  simp only [and_pick]
  rfl
theorem scheck_ok (l : List Change) (m n : Int) (hl : l.length ≤ 1073741824) : FnOk Tryz.prog 113 [pChanges l, pInt m, pInt n] (fun rs => rs = [pInt (check8 l m n)]) := by
  refine FnOk.intro Tryz.func113 (by decide) rfl rfl rfl rfl ?_
  refine k2 ?_
  refine c_region ?_; refine l_neu (n_assign rfl rfl) rfl ?_; refine l_nil ?_
  refine k1 ?_; refine k2 ?_; refine k2 ?_
  refine c_region ?_; refine l_neu (n_move rfl rfl) rfl ?_; refine l_call (slength_ok m) rfl rfl rfl ?_; rintro _ rfl; refine l_neu (n_not rfl) rfl ?_; refine l_neu (n_move rfl rfl) rfl ?_; refine l_guard rfl rfl rfl rfl (fun hg => by rw [hg]; exact n_move rfl rfl) ?_; refine l_guard rfl rfl rfl rfl (fun hg => by have hq := hg; (try simp at hq); rw [hg]; exact n_call1 (slength_ok n) rfl rfl) ?_; refine l_guard rfl rfl rfl rfl (fun hg => by rw [hg]; exact n_not rfl) ?_; refine l_neu (n_pick_bool rfl (fun h => by first | rfl | (rw [h]; rfl)) (fun h => by first | rfl | (rw [h]; rfl))) rfl ?_; refine l_nil ?_
  refine k1 ?_
  refine c_cond rfl (fun ht => ?_) (fun ht => ?_)
  · simp only [← decide_not, or_pick] at ht
    have h : ¬ in81 m ∨ ¬ in81 n := of_decide_eq_true ht
    refine k2 ?_
    refine c_region ?_; refine l_neu (n_assign rfl rfl) rfl ?_; refine l_nil ?_
    refine k1 ?_; refine k10 ?_; refine k11 ?_
    exact ret_ret (ret1 rfl rfl rfl) (by rw [check8, if_pos h])
  simp only [← decide_not, or_pick] at ht
  have h : ¬ (¬ in81 m ∨ ¬ in81 n) := of_decide_eq_false ht
  have hm : 0 ≤ m ∧ m ≤ 4096 := by by_cases hm : in81 m; exact hm; exact absurd (.inl hm) h
  have hn : 0 ≤ n ∧ n ≤ 4096 := by by_cases hn : in81 n; exact hn; exact absurd (.inr hn) h
  refine k5 ?_; refine k1 ?_; refine k2 ?_
  refine c_region ?_; refine l_neu (n_assign rfl rfl) rfl ?_; refine l_neu (n_assign rfl rfl) rfl ?_; refine l_nil ?_
  refine k1 ?_; refine k2 ?_; refine k2 ?_
  refine c_region ?_; refine l_neu (n_move rfl rfl) rfl ?_; refine l_neu (n_len rfl (.pure _ _ _ _)) rfl ?_; refine l_neu (n_move rfl rfl) rfl ?_; refine l_nil ?_
  refine k1 ?_; refine k3 ?_
  refine c_while (X := Nat × Int × Int) (fun x => ([(1, sInt m), (2, sInt n), (7, sInt x.2.1), (8, sInt x.2.2), (20, sList Change 4 changeC l), (21, sInt l.length), (22, sInt x.1)], [])) (fun x => x.1 ≤ l.length ∧ scriptGo 0 0 0 l m n = scriptGo x.1 x.2.1 x.2.2 (l.drop x.1) m n ∧ 0 ≤ x.2.1 ∧ x.2.1 ≤ 8192 ∧ 0 ≤ x.2.2 ∧ x.2.2 ≤ 8192) (fun x => l.length - x.1) (0, 0, 0) ⟨Nat.zero_le _, rfl, by decide, by decide, by decide, by decide⟩ (Sees.of ⟨le1 rfl, le1 rfl, le1 rfl, le1 rfl, le1 rfl, le1 rfl, le1 rfl, trivial⟩ trivial) ?_
  rintro ⟨k, i, j⟩ ⟨hk, hp, hi, hi2, hj, hj2⟩
  dsimp only at hk hp hi hi2 hj hj2 ⊢
  refine k2 ?_
  refine c_region ?_; refine l_neu (n_lss rfl rfl) rfl ?_; refine l_nil ?_
  refine k1 ?_; refine k2 ?_
  refine c_cond rfl (fun ht => ?_) (fun ht => ?_)
  · have hlt : k < l.length := by have := of_decide_eq_true ht; omega
    have hv : l[k]? = some l[k] := by simp [hlt]
    obtain ⟨c, hc⟩ : ∃ c, c = l[k] := ⟨_, rfl⟩
    rw [List.drop_eq_getElem_cons hlt, scriptGo] at hp
    rw [← hc] at hv hp
    refine k5 ?_; refine k1 ?_; refine k2 ?_; refine k3 ?_; refine k2 ?_
    refine c_region ?_; refine l_neu (n_move rfl rfl) rfl ?_; refine l_neu (n_indexAddr rfl (.pure _ _ _ _) rfl (by omega) hv) rfl ?_; refine l_neu (n_loads_eref rfl rfl) rfl ?_; refine l_effv (f_alloc 10 rfl) rfl ?_; refine l_neu (n_assign rfl rfl) rfl ?_; refine l_eff (e_store_ref TySz.out rfl rfl rfl rfl rfl rfl) ?_; refine l_nil ?_
    refine k1 ?_; refine k2 ?_; refine k2 ?_
    refine c_region ?_; refine l_neu (n_field_ref rfl) rfl ?_; refine l_neu (n_load_ref rfl rfl rfl) rfl ?_; refine l_call (slength_ok c.Old) rfl rfl rfl ?_; rintro _ rfl; refine l_neu (n_not rfl) rfl ?_; refine l_neu (n_move rfl rfl) rfl ?_; refine l_guard rfl rfl rfl rfl (fun hg => by rw [hg]; exact n_field_ref rfl) ?_; refine l_guard rfl rfl rfl rfl (fun hg => by rw [hg]; exact n_load_ref rfl rfl rfl) ?_; refine l_guard rfl rfl rfl rfl (fun hg => by have hq := hg; (try simp at hq); rw [hg]; exact n_call1 (slength_ok c.OldLen) rfl rfl) ?_; refine l_guard rfl rfl rfl rfl (fun hg => by rw [hg]; exact n_not rfl) ?_; refine l_neu (n_pick_bool rfl (fun h => by first | rfl | (rw [h]; rfl)) (fun h => by first | rfl | (rw [h]; rfl))) rfl ?_; refine l_neu (n_move rfl rfl) rfl ?_; refine l_guard rfl rfl rfl rfl (fun hg => by rw [hg]; exact n_field_ref rfl) ?_; refine l_guard rfl rfl rfl rfl (fun hg => by rw [hg]; exact n_load_ref rfl rfl rfl) ?_; refine l_guard rfl rfl rfl rfl (fun hg => by have hq := hg; (try simp at hq); rw [hg]; exact n_call1 (slength_ok c.New) rfl rfl) ?_; refine l_guard rfl rfl rfl rfl (fun hg => by rw [hg]; exact n_not rfl) ?_; refine l_neu (n_pick_bool rfl (fun h => by first | rfl | (rw [h]; rfl)) (fun h => by first | rfl | (rw [h]; rfl))) rfl ?_; refine l_neu (n_move rfl rfl) rfl ?_; refine l_guard rfl rfl rfl rfl (fun hg => by rw [hg]; exact n_field_ref rfl) ?_; refine l_guard rfl rfl rfl rfl (fun hg => by rw [hg]; exact n_load_ref rfl rfl rfl) ?_; refine l_guard rfl rfl rfl rfl (fun hg => by have hq := hg; (try simp at hq); rw [hg]; exact n_call1 (slength_ok c.NewLen) rfl rfl) ?_; refine l_guard rfl rfl rfl rfl (fun hg => by rw [hg]; exact n_not rfl) ?_; refine l_neu (n_pick_bool rfl (fun h => by first | rfl | (rw [h]; rfl)) (fun h => by first | rfl | (rw [h]; rfl))) rfl ?_; refine l_neu (n_move rfl rfl) rfl ?_; refine l_guard rfl rfl rfl rfl (fun hg => by rw [hg]; exact n_field_ref rfl) ?_; refine l_guard rfl rfl rfl rfl (fun hg => by rw [hg]; exact n_load_ref rfl rfl rfl) ?_; refine l_guard rfl rfl rfl rfl (fun hg => by rw [hg]; exact n_field_ref rfl) ?_; refine l_guard rfl rfl rfl rfl (fun hg => by rw [hg]; exact n_load_ref rfl rfl rfl) ?_; refine l_guard rfl rfl rfl rfl (fun hg => by have hq := hg; (try simp at hq); simp [in81] at hq; rw [hg]; exact n_add rfl rfl (by omega)) ?_; refine l_guard rfl rfl rfl rfl (fun hg => by rw [hg]; exact n_eql rfl rfl) ?_; refine l_neu (n_pick_bool rfl (fun h => by first | rfl | (rw [h]; rfl)) (fun h => by first | rfl | (rw [h]; rfl))) rfl ?_; refine l_nil ?_
    refine k1 ?_
    refine c_cond rfl (fun ht => ?_) (fun ht => ?_)
    · simp only [← decide_not, or_pick, and_pick] at ht
      have h0 := of_decide_eq_true ht
      have hb : badC k i j c := .inl (.inl (.inl h0))
      refine k2 ?_
      refine c_region ?_; refine l_neu (n_assign rfl rfl) rfl ?_; refine l_nil ?_
      refine k1 ?_; refine k10 ?_; refine k11 ?_; refine k12 ?_; refine k11 ?_; refine k11 ?_; refine k12 ?_; refine k11 ?_
      exact ret_ret (ret1 rfl rfl rfl) (by rw [check8, if_neg ‹¬ (¬ in81 m ∨ ¬ in81 n)›, hp, decide_eq_false (fun hh => hh hb)]; rfl)
    simp only [← decide_not, or_pick, and_pick] at ht
    have h0 := of_decide_eq_false ht
    have hr : (0 ≤ c.Old ∧ c.Old ≤ 4096) ∧ (0 ≤ c.OldLen ∧ c.OldLen ≤ 4096) ∧ (0 ≤ c.New ∧ c.New ≤ 4096) ∧ (0 ≤ c.NewLen ∧ c.NewLen ≤ 4096) ∧ c.OldLen + c.NewLen ≠ 0 := by
      by_cases a1 : in81 c.Old <;> by_cases a2 : in81 c.OldLen <;> by_cases a3 : in81 c.New <;> by_cases a4 : in81 c.NewLen <;> simp [a1, a2, a3, a4] at h0
      exact ⟨a1, a2, a3, a4, h0⟩
    refine k5 ?_; refine k1 ?_; refine k2 ?_
    refine c_region ?_; refine l_neu (n_field_ref rfl) rfl ?_; refine l_neu (n_load_ref rfl rfl rfl) rfl ?_; refine l_neu (n_move rfl rfl) rfl ?_; refine l_neu (n_sub rfl rfl (by omega)) rfl ?_; refine l_neu (n_assign rfl rfl) rfl ?_; refine l_nil ?_
    refine k1 ?_; refine k2 ?_; refine k2 ?_
    refine c_region ?_; refine l_neu (n_move rfl rfl) rfl ?_; refine l_neu (n_field_ref rfl) rfl ?_; refine l_neu (n_load_ref rfl rfl rfl) rfl ?_; refine l_neu (n_move rfl rfl) rfl ?_; refine l_neu (n_sub rfl rfl (by omega)) rfl ?_; refine l_neu (n_neq rfl rfl) rfl ?_; refine l_neu (n_move rfl rfl) rfl ?_; refine l_guard rfl rfl rfl rfl (fun hg => by rw [hg]; exact n_move rfl rfl) ?_; refine l_guard rfl rfl rfl rfl (fun hg => by rw [hg]; exact n_move rfl rfl) ?_; refine l_guard rfl rfl rfl rfl (fun hg => by rw [hg]; exact n_min rfl rfl) ?_; refine l_guard rfl rfl rfl rfl (fun hg => by rw [hg]; exact n_lss rfl rfl) ?_; refine l_neu (n_pick_bool rfl (fun h => by first | rfl | (rw [h]; rfl)) (fun h => by first | rfl | (rw [h]; rfl))) rfl ?_; refine l_nil ?_
    refine k1 ?_
    have hmin : ∀ b : Int, (c.Old - i < if (1 : Int) < (k : Int) then 1 else (k : Int)) ↔ (c.Old < i ∨ (0 < (k : Int) ∧ c.Old = i)) := by intro _; split <;> omega
    refine c_cond rfl (fun ht => ?_) (fun ht => ?_)
    · simp only [or_pick] at ht
      have h1 := of_decide_eq_true ht
      have hb : badC k i j c := by
        rcases h1 with h1 | h1
        · exact .inl (.inl (.inr h1))
        · rcases (hmin 0).1 h1 with h2 | h2
          · exact .inl (.inr h2)
          · exact .inr h2
      refine k2 ?_
      refine c_region ?_; refine l_neu (n_assign rfl rfl) rfl ?_; refine l_nil ?_
      refine k1 ?_; refine k10 ?_; refine k11 ?_; refine k12 ?_; refine k11 ?_; refine k11 ?_; refine k12 ?_; refine k11 ?_
      exact ret_ret (ret1 rfl rfl rfl) (by rw [check8, if_neg ‹¬ (¬ in81 m ∨ ¬ in81 n)›, hp, decide_eq_false (fun hh => hh hb)]; rfl)
    · simp only [or_pick] at ht
      have h1 := of_decide_eq_false ht
      have hb : ¬ badC k i j c := by
        rintro (((q | q) | q) | q)
        · exact h0 q
        · exact h1 (.inl q)
        · exact h1 (.inr ((hmin 0).2 (.inl q)))
        · exact h1 (.inr ((hmin 0).2 (.inr q)))
      rw [decide_eq_true hb, Bool.true_and] at hp
      refine k5 ?_; refine k1 ?_
      refine c_region_draw (by kernel_rfl) (by kernel_rfl) ?_; refine d_neu (n_field_ref rfl) rfl rfl ?_; refine d_neu (n_load_ref rfl rfl rfl) rfl rfl ?_; refine d_neu (n_field_ref rfl) rfl rfl ?_; refine d_neu (n_load_ref rfl rfl rfl) rfl rfl ?_; refine d_neu (n_add rfl rfl (by omega)) rfl rfl ?_; refine d_neu (n_field_ref rfl) rfl rfl ?_; refine d_neu (n_load_ref rfl rfl rfl) rfl rfl ?_; refine d_neu (n_field_ref rfl) rfl rfl ?_; refine d_neu (n_load_ref rfl rfl rfl) rfl rfl ?_; refine d_neu (n_add rfl rfl (by omega)) rfl rfl ?_; refine d_neu (n_assign rfl rfl) rfl rfl ?_; refine d_neu (n_assign rfl rfl) rfl rfl ?_; refine d_nil ?_
      refine k4 ?_; refine k1 ?_
      refine c_region ?_; refine l_neu (n_add rfl rfl (by omega)) rfl ?_; refine l_neu (n_move rfl rfl) rfl ?_; refine l_nil ?_
      refine k1 ?_
      exact ⟨(k + 1, c.Old + c.OldLen, c.New + c.NewLen), ⟨by dsimp only; omega, hp, by dsimp only; omega, by dsimp only; omega, by dsimp only; omega, by dsimp only; omega⟩, by dsimp only; omega, Sees.of ⟨le1 rfl, le1 rfl, le1 rfl, le1 rfl, le1 rfl, le1 rfl, le1 rfl, trivial⟩ trivial⟩
  · have hk' : k = l.length := by have := of_decide_eq_false ht; omega
    rw [hk', List.drop_eq_nil_of_le (Nat.le_refl _), scriptGo] at hp
    refine k6 ?_; refine k2 ?_; refine k2 ?_
    refine c_region ?_; refine l_neu (n_move rfl rfl) rfl ?_; refine l_neu (n_move rfl rfl) rfl ?_; refine l_neu (n_sub rfl rfl (by omega)) rfl ?_; refine l_neu (n_move rfl rfl) rfl ?_; refine l_neu (n_move rfl rfl) rfl ?_; refine l_neu (n_sub rfl rfl (by omega)) rfl ?_; refine l_neu (n_neq rfl rfl) rfl ?_; refine l_neu (n_move rfl rfl) rfl ?_; refine l_guard rfl rfl rfl rfl (fun hg => by rw [hg]; exact n_move rfl rfl) ?_; refine l_guard rfl rfl rfl rfl (fun hg => by rw [hg]; exact n_move rfl rfl) ?_; refine l_guard rfl rfl rfl rfl (fun hg => by rw [hg]; exact n_lss rfl rfl) ?_; refine l_neu (n_pick_bool rfl (fun h => by first | rfl | (rw [h]; rfl)) (fun h => by first | rfl | (rw [h]; rfl))) rfl ?_; refine l_nil ?_
    refine k1 ?_
    refine c_cond rfl (fun ht => ?_) (fun ht => ?_)
    · have h2 := of_decide_eq_true (or_pick.symm.trans ht)
      refine k2 ?_
      refine c_region ?_; refine l_neu (n_assign rfl rfl) rfl ?_; refine l_nil ?_
      refine k1 ?_; refine k10 ?_; refine k11 ?_
      exact ret_ret (ret1 rfl rfl rfl) (by rw [check8, if_neg h, hp, decide_eq_false (fun hh => hh h2)]; rfl)
    · have h2 := of_decide_eq_false (or_pick.symm.trans ht)
      refine k5 ?_; refine k1 ?_; refine k2 ?_
      refine c_region ?_; refine l_neu (n_assign rfl rfl) rfl ?_; refine l_nil ?_
      refine k1 ?_; refine k10 ?_
      exact ret_ret (ret1 rfl rfl rfl) (by rw [check8, if_neg h, hp, decide_eq_true h2]; rfl)
theorem clipS_met {gf : Fr} {ob : Obs} (p : List Span) : Met Tryz.prog 182 [.one (.p (.list Span 2 spanC p))] gf ob [] (fun rs ob' => rs = [.one (.full Span 2 spanC p)] ∧ ob' = ob) := by
  refine Met.intro Tryz.func182 (by decide) rfl rfl rfl ?_
  refine k2 ?_
  refine c_region ?_; refine l_neu (n_assign rfl rfl) rfl ?_; refine l_nil ?_
  refine k1 ?_; refine k2 ?_
  refine c_region ?_; refine l_neu (n_move rfl rfl) rfl ?_; refine l_neu (n_move rfl rfl) rfl ?_; refine l_neu (n_len rfl (.pure _ _ _ _)) rfl ?_; refine l_neu (n_move rfl rfl) rfl ?_; refine l_neu (n_len rfl (.pure _ _ _ _)) rfl ?_; refine l_neu (n_slice_hm rfl (.pure _ _ _ _) rfl rfl (by omega) (by omega) (by first | rfl | omega)) rfl ?_; refine l_neu (n_assign rfl rfl) rfl ?_; refine l_nil ?_
  rw [show p.take (p.length : Int).toNat = p by simp]
  refine k1 ?_; refine k10 ?_
  exact met_ret (rets1 rfl rfl) (by repeat (first | exact tail_refl | refine tail_cons rfl ?_ | refine tail_forget _ ?_)) (fun _ _ h => h) ⟨rfl, rfl⟩
def runMade (i j : Int) : List Span → List Change
  | [] => []
  | x :: r => (if x.From > i ∨ x.To > j then [⟨i, x.From - i, j, x.To - j⟩] else []) ++ runMade (x.From + 1) (x.To + 1) r
theorem runMade_end (m n : Int) : ∀ (p : List Span) (i j : Int), runMade i j (p ++ [⟨m, n⟩]) = madeGo i j p m n
  | [], i, j => by simp [runMade, madeGo]
  | x :: r, i, j => by
    rw [List.cons_append, runMade, madeGo, runMade_end m n r]
theorem sfromPairs_ok (p : List Span) (m n : Int) (hp : p.length ≤ 536870912) (hm : -1099511627776 ≤ m ∧ m ≤ 1099511627776) (hn : -1099511627776 ≤ n ∧ n ≤ 1099511627776) (hb : ∀ s ∈ p, -1099511627776 ≤ s.From ∧ s.From ≤ 1099511627776 ∧ -1099511627776 ≤ s.To ∧ s.To ≤ 1099511627776) :
    FnOk Tryz.prog 152 [pSpans p, pInt m, pInt n] (fun rs => rs = [pChanges (madeOf p m n)]) := by
  refine FnOk.intro Tryz.func152 (by decide) rfl rfl rfl rfl ?_
  refine k2 ?_
  refine c_region ?_; refine l_neu (n_assign rfl rfl) rfl ?_; refine l_nil ?_
  refine k1 ?_; refine k2 ?_
  refine c_region ?_; refine l_effv (f_adopt 7 _ changeC rfl) rfl ?_; refine l_nil ?_
  refine k1 ?_; refine k2 ?_
  refine c_region ?_; refine l_neu (n_assign rfl rfl) rfl ?_; refine l_neu (n_assign rfl rfl) rfl ?_; refine l_nil ?_
  refine k1 ?_; refine k2 ?_; refine k2 ?_
  refine c_region ?_; refine l_neu (n_move rfl rfl) rfl ?_; refine l_met (clipS_met p) rfl rfl rfl ?_; rintro _ _ ⟨rfl, rfl⟩; refine l_neu (n_move rfl rfl) rfl ?_; refine l_neu (n_move rfl rfl) rfl ?_; refine l_neu (n_build rfl) rfl ?_; refine l_neu (n_buildSlice (c := spanC) (ys := [⟨m, n⟩]) (asm_cons rfl rfl rfl rfl asm_nil) rfl rfl rfl) rfl ?_; refine l_effv (e_append_full 18 rfl rfl (.pure _ _ _ _) (by simp; omega) (by simp) rfl) rfl ?_; refine l_neu (n_len rfl (.buf _ _ _ _ _)) rfl ?_; refine l_neu (n_move rfl rfl) rfl ?_; refine l_nil ?_
  obtain ⟨q, hq⟩ : ∃ q, q = p ++ [(⟨m, n⟩ : Span)] := ⟨_, rfl⟩
  have hql : q.length = p.length + 1 := by rw [hq]; simp
  have hqb : ∀ s ∈ q, -1099511627776 ≤ s.From ∧ s.From ≤ 1099511627776 ∧ -1099511627776 ≤ s.To ∧ s.To ≤ 1099511627776 := by
    intro s hs
    rw [hq] at hs
    rcases List.mem_append.1 hs with h | h
    · exact hb s h
    · simp at h; subst h; exact ⟨hm.1, hm.2, hn.1, hn.2⟩
  have hres : madeOf p m n = runMade 0 0 q := by rw [hq, runMade_end]; rfl
  rw [← hq]
  refine k1 ?_; refine k3 ?_
  refine c_while (X := Nat × Int × Int × List Change) (fun x => ([(7, .s (.one (.buf 7 Change 4 changeC x.2.2.2))), (8, sInt x.2.1), (9, sInt x.2.2.1), (18, .s (.one (.buf 18 Span 2 spanC q))), (19, sInt q.length), (20, sInt x.1)], [(7, .spare x.2.2.2.length 4 78)])) (fun x => x.1 ≤ q.length ∧ x.2.2.2 ++ runMade x.2.1 x.2.2.1 (q.drop x.1) = madeOf p m n ∧ (-1099511627777 ≤ x.2.1 ∧ x.2.1 ≤ 1099511627777) ∧ (-1099511627777 ≤ x.2.2.1 ∧ x.2.2.1 ≤ 1099511627777) ∧ x.2.2.2.length ≤ x.1) (fun x => q.length - x.1) (0, 0, 0, []) ⟨Nat.zero_le _, hres.symm, by decide, by decide, Nat.le_refl _⟩ (Sees.of ⟨le1 rfl, le1 rfl, le1 rfl, le1 rfl, le1 rfl, le1 rfl, trivial⟩ ⟨rfl, trivial⟩) ?_
  rintro ⟨k, i, j, out⟩ ⟨hk, he, hi, hj, hol⟩
  dsimp only at hk he hi hj hol ⊢
  refine k2 ?_
  refine c_region ?_; refine l_neu (n_lss rfl rfl) rfl ?_; refine l_nil ?_
  refine k1 ?_; refine k2 ?_
  refine c_cond rfl (fun ht => ?_) (fun ht => ?_)
  · have hlt : k < q.length := by have := of_decide_eq_true ht; omega
    have hv : q[k]? = some q[k] := by simp [hlt]
    have hbk := hqb _ (List.getElem_mem hlt)
    obtain ⟨c, hc⟩ : ∃ c, c = q[k] := ⟨_, rfl⟩
    rw [List.drop_eq_getElem_cons hlt, runMade] at he
    rw [← hc] at hv he hbk
    refine k5 ?_; refine k1 ?_; refine k2 ?_; refine k3 ?_; refine k2 ?_
    refine c_region ?_; refine l_neu (n_indexAddr rfl (.buf _ _ _ _ _) rfl (by omega) hv) rfl ?_; refine l_neu (n_loads_eref rfl rfl) rfl ?_; refine l_effv (f_alloc 11 rfl) rfl ?_; refine l_eff (e_store_ref TySz.out rfl rfl rfl rfl rfl rfl) ?_; refine l_nil ?_
    refine then_normal ?_
    obtain ⟨out', hout'⟩ : ∃ out', out' = out ++ (if c.From > i ∨ c.To > j then [⟨i, c.From - i, j, c.To - j⟩] else []) := ⟨_, rfl⟩
    have hol' : out'.length ≤ k + 1 := by rw [hout', List.length_append]; split <;> simp <;> omega
    rw [← List.append_assoc, ← hout'] at he
    refine c_join [(7, .s (.one (.buf 7 Change 4 changeC out'))), (8, sInt i), (9, sInt j), (11, .s (.one (.ref 11 0))), (18, .s (.one (.buf 18 Span 2 spanC q))), (19, sInt q.length), (20, sInt k)] [(7, .spare out'.length 4 78), (11, .box [.p (.v (.int .i64 c.From)), .p (.v (.int .i64 c.To))])] ?_ ?_
    · refine k2 ?_
      refine c_region ?_; refine l_neu (n_field_ref rfl) rfl ?_; refine l_neu (n_load_ref rfl rfl rfl) rfl ?_; refine l_neu (n_move rfl rfl) rfl ?_; refine l_neu (n_gtr rfl rfl) rfl ?_; refine l_neu (n_move rfl rfl) rfl ?_; refine l_guard rfl rfl rfl rfl (fun hg => by rw [hg]; exact n_field_ref rfl) ?_; refine l_guard rfl rfl rfl rfl (fun hg => by rw [hg]; exact n_load_ref rfl rfl rfl) ?_; refine l_guard rfl rfl rfl rfl (fun hg => by rw [hg]; exact n_move rfl rfl) ?_; refine l_guard rfl rfl rfl rfl (fun hg => by rw [hg]; exact n_gtr rfl rfl) ?_; refine l_neu (n_pick_bool rfl (fun h => by first | rfl | (rw [h]; rfl)) (fun h => by first | rfl | (rw [h]; rfl))) rfl ?_; refine l_nil ?_
      refine k1 ?_
      refine c_cond rfl (fun ht => ?_) (fun ht => ?_)
      · simp only [or_pick] at ht
        have h1 := of_decide_eq_true ht
        rw [if_pos h1] at hout'
        skip
        refine c_region ?_; refine l_neu (n_move rfl rfl) rfl ?_; refine l_neu (n_move rfl rfl) rfl ?_; refine l_neu (n_field_ref rfl) rfl ?_; refine l_neu (n_load_ref rfl rfl rfl) rfl ?_; refine l_neu (n_move rfl rfl) rfl ?_; refine l_neu (n_sub rfl rfl (by omega)) rfl ?_; refine l_neu (n_move rfl rfl) rfl ?_; refine l_neu (n_field_ref rfl) rfl ?_; refine l_neu (n_load_ref rfl rfl rfl) rfl ?_; refine l_neu (n_move rfl rfl) rfl ?_; refine l_neu (n_sub rfl rfl (by omega)) rfl ?_; refine l_neu (n_build rfl) rfl ?_; refine l_neu (n_buildSlice (c := changeC) (ys := [⟨i, c.From - i, j, c.To - j⟩]) (asm_cons rfl rfl rfl rfl asm_nil) rfl rfl rfl) rfl ?_; refine l_effv (e_append rfl rfl rfl (.pure _ _ _ _) (by (simp only [List.length_cons, List.length_nil]; omega)) rfl) rfl ?_; refine l_neu (n_assign rfl rfl) rfl ?_; refine l_nil ?_
        refine k1 ?_
        rw [hout']
        exact Sees.of ⟨le1 rfl, le1 rfl, le1 rfl, le1 rfl, le1 rfl, le1 rfl, le1 rfl, trivial⟩ ⟨rfl, rfl, trivial⟩
      · simp only [or_pick] at ht
        have h1 := of_decide_eq_false ht
        rw [if_neg h1, List.append_nil] at hout'
        refine k5 ?_; refine k1 ?_
        rw [hout']
        exact Sees.of ⟨le1 rfl, le1 rfl, le1 rfl, le1 rfl, le1 rfl, le1 rfl, le1 rfl, trivial⟩ ⟨rfl, rfl, trivial⟩
    · skip
      refine c_region_draw (by kernel_rfl) (by kernel_rfl) ?_; refine d_neu (n_field_ref rfl) rfl rfl ?_; refine d_neu (n_load_ref rfl rfl rfl) rfl rfl ?_; refine d_neu (n_add rfl rfl (by omega)) rfl rfl ?_; refine d_neu (n_field_ref rfl) rfl rfl ?_; refine d_neu (n_load_ref rfl rfl rfl) rfl rfl ?_; refine d_neu (n_add rfl rfl (by omega)) rfl rfl ?_; refine d_neu (n_assign rfl rfl) rfl rfl ?_; refine d_neu (n_assign rfl rfl) rfl rfl ?_; refine d_nil ?_
      refine k4 ?_; refine k1 ?_
      refine c_region ?_; refine l_neu (n_add rfl rfl (by omega)) rfl ?_; refine l_neu (n_move rfl rfl) rfl ?_; refine l_nil ?_
      refine k1 ?_
      exact ⟨(k + 1, c.From + 1, c.To + 1, out'), ⟨by dsimp only; omega, he, ⟨by dsimp only; omega, by dsimp only; omega⟩, ⟨by dsimp only; omega, by dsimp only; omega⟩, by dsimp only; omega⟩, by dsimp only; omega, Sees.of ⟨le1 rfl, le1 rfl, le1 rfl, le1 rfl, le1 rfl, le1 rfl, trivial⟩ ⟨rfl, trivial⟩⟩
  · have hk' : k = q.length := by have := of_decide_eq_false ht; omega
    rw [hk', List.drop_eq_nil_of_le (Nat.le_refl _), runMade, List.append_nil] at he
    refine k6 ?_; refine k2 ?_
    refine c_region ?_; refine l_neu (n_move rfl rfl) rfl ?_; refine l_neu (n_assign rfl rfl) rfl ?_; refine l_nil ?_
    refine k1 ?_; refine k10 ?_
    exact ret_ret (ret1 rfl rfl rfl) (by rw [← he])
theorem asc_step {m n : Int} : ∀ {p : List Span} {i j : Int}, Asc m n i j p → ∀ k (h : k < p.length), (k = 0 → i ≤ p[k].From ∧ j ≤ p[k].To) ∧ (∀ h0 : 0 < k, p[k - 1].From < p[k].From ∧ p[k - 1].To < p[k].To) ∧ p[k].From < m ∧ p[k].To < n
  | [], _, _, _, k, h => by simp at h
  | x :: r, i, j, ha, k, h => by
    obtain ⟨h1, h2, h3⟩ := ha
    cases k with
    | zero => have := h3.le; exact ⟨fun _ => ⟨h1, h2⟩, fun h0 => absurd h0 (by omega), by show x.From < m; omega, by show x.To < n; omega⟩
    | succ k =>
      obtain ⟨g1, g2, g3, g4⟩ := asc_step h3 k (by simpa using h)
      refine ⟨fun h0 => absurd h0 (by omega), fun _ => ?_, by simpa using g3, by simpa using g4⟩
      cases k with
      | zero =>
        obtain ⟨q1, q2⟩ := g1 rfl
        have hr : 0 < r.length := by simpa using h
        show x.From < r[0].From ∧ x.To < r[0].To
        omega
      | succ k => simpa using g2 (by omega)
theorem sFromPairs_ok (p : List Span) (m n : Int) (hm : in81 m) (hn : in81 n) (ha : Asc m n 0 0 p) (hp : p.length ≤ 536870912) :
    FnOk Tryz.prog 108 [pSpans p, pInt m, pInt n] (fun rs => rs = [pChanges (madeOf p m n), pInt 0]) := by
  obtain ⟨hm1, hm2⟩ := hm
  obtain ⟨hn1, hn2⟩ := hn
  have hst := asc_step ha
  have hb : ∀ s ∈ p, 0 ≤ s.From ∧ s.From ≤ 4096 ∧ 0 ≤ s.To ∧ s.To ≤ 4096 := by
    have key : ∀ (p : List Span) (i j : Int), Asc m n i j p → 0 ≤ i → 0 ≤ j → ∀ s ∈ p, 0 ≤ s.From ∧ s.From ≤ 4096 ∧ 0 ≤ s.To ∧ s.To ≤ 4096 := by
      intro p
      induction p with
      | nil => intro _ _ _ _ _ s hs; simp at hs
      | cons x r ih =>
        rintro i j ⟨h1, h2, h3⟩ h4 h5 s hs
        have := h3.le
        rcases List.mem_cons.1 hs with rfl | hs
        · omega
        · exact ih _ _ h3 (by omega) (by omega) s hs
    exact key p 0 0 ha (by omega) (by omega)
  refine FnOk.intro Tryz.func108 (by decide) rfl rfl rfl rfl ?_
  refine k2 ?_
  refine c_region ?_; refine l_neu (n_assign rfl rfl) rfl ?_; refine l_neu (n_assign rfl rfl) rfl ?_; refine l_nil ?_
  refine k1 ?_; refine k2 ?_; refine k2 ?_
  refine c_region ?_; refine l_neu (n_move rfl rfl) rfl ?_; refine l_call (slength_ok m) rfl rfl rfl ?_; rintro _ rfl; refine l_neu (n_not rfl) rfl ?_; refine l_neu (n_move rfl rfl) rfl ?_; refine l_guard rfl rfl rfl rfl (fun hg => by rw [hg]; exact n_move rfl rfl) ?_; refine l_guard rfl rfl rfl rfl (fun hg => by have hq := hg; (try simp at hq); rw [hg]; exact n_call1 (slength_ok n) rfl rfl) ?_; refine l_guard rfl rfl rfl rfl (fun hg => by rw [hg]; exact n_not rfl) ?_; refine l_neu (n_pick_bool rfl (fun h => by first | rfl | (rw [h]; rfl)) (fun h => by first | rfl | (rw [h]; rfl))) rfl ?_; refine l_nil ?_
  refine k1 ?_
  refine c_cond rfl (fun ht => ?_) (fun ht => ?_)
  · exfalso
    simp only [← decide_not, or_pick] at ht
    have h : ¬ in81 m ∨ ¬ in81 n := of_decide_eq_true ht
    rcases h with h | h
    · exact h ⟨hm1, hm2⟩
    · exact h ⟨hn1, hn2⟩
  refine c_cut [(0, sList Span 2 spanC p), (1, sInt m), (2, sInt n)] [] (Sees.of ⟨le1 rfl, le1 rfl, le1 rfl, trivial⟩ trivial) ?_
  refine k5 ?_; refine k1 ?_; refine k2 ?_
  refine c_region ?_; refine l_neu (n_build rfl) rfl ?_; refine l_effv (f_alloc 8 rfl) rfl ?_; refine l_eff (e_store_ref TySz.out rfl rfl rfl rfl rfl rfl) ?_; refine l_nil ?_
  refine k1 ?_; refine k2 ?_; refine k2 ?_
  refine c_region ?_; refine l_neu (n_move rfl rfl) rfl ?_; refine l_neu (n_len rfl (.pure _ _ _ _)) rfl ?_; refine l_neu (n_move rfl rfl) rfl ?_; refine l_nil ?_
  refine k1 ?_; refine k3 ?_
  obtain ⟨lastOf, hlast⟩ : ∃ lastOf : Nat → Span, lastOf = fun k => if k = 0 then ⟨-1, -1⟩ else p.getD (k - 1) ⟨0, 0⟩ := ⟨_, rfl⟩
  refine c_while (X := Nat) (fun k => ([(0, sList Span 2 spanC p), (1, sInt m), (2, sInt n), (8, .s (.one (.ref 8 0))), (20, sList Span 2 spanC p), (21, sInt p.length), (22, sInt k)], [(8, .box [.p (.v (.int .i64 (lastOf k).From)), .p (.v (.int .i64 (lastOf k).To))])])) (fun k => k ≤ p.length) (fun k => p.length - k) 0 (Nat.zero_le _) ?_ ?_
  · rw [show lastOf 0 = ⟨-1, -1⟩ by rw [hlast]; rfl]
    exact Sees.of ⟨le1 rfl, le1 rfl, le1 rfl, le1 rfl, le1 rfl, le1 rfl, le1 rfl, trivial⟩ ⟨rfl, trivial⟩
  intro k hk
  dsimp only at hk ⊢
  refine k2 ?_
  refine c_region ?_; refine l_neu (n_lss rfl rfl) rfl ?_; refine l_nil ?_
  refine k1 ?_; refine k2 ?_
  refine c_cond rfl (fun ht => ?_) (fun ht => ?_)
  · have hlt : k < p.length := by have := of_decide_eq_true ht; omega
    have hv : p[k]? = some p[k] := by simp [hlt]
    obtain ⟨g1, g2, g3, g4⟩ := hst k hlt
    have hnext : lastOf (k + 1) = p[k] := by rw [hlast]; simp [hlt]
    have hless : (lastOf k).From < p[k].From ∧ (lastOf k).To < p[k].To := by
      rw [hlast]
      by_cases h0 : k = 0
      · have := g1 h0
        simp only [h0, if_true] at this ⊢
        omega
      · have := g2 (by omega)
        simp only [h0, if_false]
        have e : p.getD (k - 1) ⟨0, 0⟩ = p[k - 1] := by simp [show k - 1 < p.length by omega]
        rw [e]; exact this
    obtain ⟨c, hc⟩ : ∃ c, c = p[k] := ⟨_, rfl⟩
    rw [← hc] at hv g3 g4 hnext hless
    obtain ⟨la, hla⟩ : ∃ la, la = lastOf k := ⟨_, rfl⟩
    rw [← hla] at hless ⊢
    refine k5 ?_; refine k1 ?_; refine k2 ?_; refine k3 ?_; refine k2 ?_
    refine c_region ?_; refine l_neu (n_indexAddr rfl (.pure _ _ _ _) rfl (by omega) hv) rfl ?_; refine l_neu (n_loads_eref rfl rfl) rfl ?_; refine l_effv (f_alloc 10 rfl) rfl ?_; refine l_eff (e_store_ref TySz.out rfl rfl rfl rfl rfl rfl) ?_; refine l_nil ?_
    refine k1 ?_; refine k2 ?_; refine k2 ?_
    refine c_region ?_; refine l_neu (n_field_ref rfl) rfl ?_; refine l_neu (n_load_ref rfl rfl rfl) rfl ?_; refine l_neu (n_field_ref rfl) rfl ?_; refine l_neu (n_load_ref rfl rfl rfl) rfl ?_; refine l_neu (n_leq rfl rfl) rfl ?_; refine l_neu (n_move rfl rfl) rfl ?_; refine l_guard rfl rfl rfl rfl (fun hg => by rw [hg]; exact n_field_ref rfl) ?_; refine l_guard rfl rfl rfl rfl (fun hg => by rw [hg]; exact n_load_ref rfl rfl rfl) ?_; refine l_guard rfl rfl rfl rfl (fun hg => by rw [hg]; exact n_move rfl rfl) ?_; refine l_guard rfl rfl rfl rfl (fun hg => by rw [hg]; exact n_geq rfl rfl) ?_; refine l_neu (n_pick_bool rfl (fun h => by first | rfl | (rw [h]; rfl)) (fun h => by first | rfl | (rw [h]; rfl))) rfl ?_; refine l_neu (n_move rfl rfl) rfl ?_; refine l_guard rfl rfl rfl rfl (fun hg => by rw [hg]; exact n_field_ref rfl) ?_; refine l_guard rfl rfl rfl rfl (fun hg => by rw [hg]; exact n_load_ref rfl rfl rfl) ?_; refine l_guard rfl rfl rfl rfl (fun hg => by rw [hg]; exact n_field_ref rfl) ?_; refine l_guard rfl rfl rfl rfl (fun hg => by rw [hg]; exact n_load_ref rfl rfl rfl) ?_; refine l_guard rfl rfl rfl rfl (fun hg => by rw [hg]; exact n_leq rfl rfl) ?_; refine l_neu (n_pick_bool rfl (fun h => by first | rfl | (rw [h]; rfl)) (fun h => by first | rfl | (rw [h]; rfl))) rfl ?_; refine l_neu (n_move rfl rfl) rfl ?_; refine l_guard rfl rfl rfl rfl (fun hg => by rw [hg]; exact n_field_ref rfl) ?_; refine l_guard rfl rfl rfl rfl (fun hg => by rw [hg]; exact n_load_ref rfl rfl rfl) ?_; refine l_guard rfl rfl rfl rfl (fun hg => by rw [hg]; exact n_move rfl rfl) ?_; refine l_guard rfl rfl rfl rfl (fun hg => by rw [hg]; exact n_geq rfl rfl) ?_; refine l_neu (n_pick_bool rfl (fun h => by first | rfl | (rw [h]; rfl)) (fun h => by first | rfl | (rw [h]; rfl))) rfl ?_; refine l_nil ?_
    refine k1 ?_
    refine c_cond rfl (fun ht => ?_) (fun ht => ?_)
    · exfalso
      simp only [or_pick] at ht
      have := of_decide_eq_true ht
      omega
    · refine k5 ?_; refine k1 ?_
      refine c_region ?_; refine l_neu (n_loads_ref rfl rfl rfl) rfl ?_; refine l_eff (e_store_ref TySz.out rfl rfl rfl rfl rfl rfl) ?_; refine l_nil ?_
      refine k4 ?_; refine k1 ?_
      refine c_region ?_; refine l_neu (n_add rfl rfl (by omega)) rfl ?_; refine l_neu (n_move rfl rfl) rfl ?_; refine l_nil ?_
      refine k1 ?_
      refine ⟨k + 1, by omega, by omega, ?_⟩
      rw [hnext]
      exact Sees.of ⟨le1 rfl, le1 rfl, le1 rfl, le1 rfl, le1 rfl, le1 rfl, le1 rfl, trivial⟩ ⟨rfl, trivial⟩
  · refine k6 ?_; refine k2 ?_
    refine c_region ?_; refine l_neu (n_move rfl rfl) rfl ?_; refine l_neu (n_move rfl rfl) rfl ?_; refine l_neu (n_move rfl rfl) rfl ?_; refine l_call (sfromPairs_ok p m n hp (by omega) (by omega) (fun s hs => by have := hb s hs; omega)) rfl rfl rfl ?_; rintro _ rfl; refine l_neu (n_assign rfl rfl) rfl ?_; refine l_neu (n_assign rfl rfl) rfl ?_; refine l_nil ?_
    refine k1 ?_; refine k10 ?_
    exact ret_ret (ret2 rfl rfl rfl rfl rfl) rfl
end Go.Proofs.YtjjidificdmnmaaGreatDoor
namespace Go.Proofs.YtjjidificdmnmaaGreatDoor
open Go Go.AL
set_option maxRecDepth 100000
theorem getD_get {l : List Int} {i : Nat} (h : i < l.length) : l[i]? = some (l.getD i 0) := by simp [h]
theorem slimited_ok (a b : List Int) : FnOk Tryz.prog 107 [pInts a, pInts b] (fun rs => rs = [pBool (decide ((a.length : Int) ≤ 4096 ∧ (b.length : Int) ≤ 4096))]) := by
  refine FnOk.intro Tryz.func107 (by decide) rfl rfl rfl rfl ?_
  refine k2 ?_
  refine c_region ?_; refine l_neu (n_assign rfl rfl) rfl ?_; refine l_nil ?_
  refine k1 ?_; refine k2 ?_
  refine c_region ?_; refine l_neu (n_move rfl rfl) rfl ?_; refine l_neu (n_len rfl (.pure _ _ _ _)) rfl ?_; refine l_neu (n_leq rfl rfl) rfl ?_; refine l_neu (n_move rfl rfl) rfl ?_; refine l_guard rfl rfl rfl rfl (fun hg => by rw [hg]; exact n_move rfl rfl) ?_; refine l_guard rfl rfl rfl rfl (fun hg => by rw [hg]; exact n_len rfl (.pure _ _ _ _)) ?_; refine l_guard rfl rfl rfl rfl (fun hg => by rw [hg]; exact n_leq rfl rfl) ?_; refine l_neu (n_pick_bool rfl (fun h => by first | rfl | (rw [h]; rfl)) (fun h => by first | rfl | (rw [h]; rfl))) rfl ?_; refine l_neu (n_assign rfl rfl) rfl ?_; refine l_nil ?_
  refine k1 ?_; refine k10 ?_
  exact ret_ret (ret1 rfl rfl rfl) (by simp only [and_pick])
theorem sbeginning_ok (a b : List Int) (ha : a.length ≤ 1073741824) : FnOk Tryz.prog 153 [pInts a, pInts b] (fun rs => rs = [pInt (begOf a b)]) := by
  refine FnOk.intro Tryz.func153 (by decide) rfl rfl rfl rfl ?_
  refine k2 ?_
  refine c_region ?_; refine l_neu (n_assign rfl rfl) rfl ?_; refine l_nil ?_
  refine k1 ?_; refine k2 ?_
  refine c_region ?_; refine l_neu (n_assign rfl rfl) rfl ?_; refine l_nil ?_
  refine k1 ?_; refine k2 ?_; refine k3 ?_
  refine c_while (X := Nat) (fun k => ([(0, sList Int 1 intC a), (1, sList Int 1 intC b), (5, sInt k)], [])) (fun k => k ≤ a.length ∧ k ≤ b.length ∧ begOf a b = k + begOf (a.drop k) (b.drop k)) (fun k => a.length - k) 0 ⟨Nat.zero_le _, Nat.zero_le _, by simp⟩ (Sees.of ⟨le1 rfl, le1 rfl, le1 rfl, trivial⟩ trivial) ?_
  rintro k ⟨hk, hk2, he⟩
  dsimp only at hk hk2 he ⊢
  refine k2 ?_; refine k2 ?_
  refine c_region_draw (by kernel_rfl) (by kernel_rfl) ?_; refine d_neu (n_move rfl rfl) rfl rfl ?_; refine d_neu (n_move rfl rfl) rfl rfl ?_; refine d_neu (n_len rfl (.pure _ _ _ _)) rfl rfl ?_; refine d_neu (n_lss rfl rfl) rfl rfl ?_; refine d_neu (n_move rfl rfl) rfl rfl ?_; refine d_guard rfl rfl (fun hg => by rw [hg]; exact n_move rfl rfl) rfl rfl ?_; refine d_guard rfl rfl (fun hg => by rw [hg]; exact n_move rfl rfl) rfl rfl ?_; refine d_guard rfl rfl (fun hg => by rw [hg]; exact n_len rfl (.pure _ _ _ _)) rfl rfl ?_; refine d_guard rfl rfl (fun hg => by rw [hg]; exact n_lss rfl rfl) rfl rfl ?_; refine d_neu (n_pick_bool rfl (fun h => by first | rfl | (rw [h]; rfl)) (fun h => by first | rfl | (rw [h]; rfl))) rfl rfl ?_; refine d_neu (n_move rfl rfl) rfl rfl ?_; refine d_guard rfl rfl (fun hg => by rw [hg]; exact n_move rfl rfl) rfl rfl ?_; refine d_guard rfl rfl (fun hg => by rw [hg]; exact n_move rfl rfl) rfl rfl ?_; refine d_guard rfl rfl (fun hg => by have hq := hg; (try simp at hq); rw [hg]; exact n_indexAddr rfl (.pure _ _ _ _) rfl (by omega) (getD_get (by omega))) rfl rfl ?_; refine d_guard rfl rfl (fun hg => by rw [hg]; exact n_load_eref rfl rfl) rfl rfl ?_; refine d_guard rfl rfl (fun hg => by rw [hg]; exact n_move rfl rfl) rfl rfl ?_; refine d_guard rfl rfl (fun hg => by rw [hg]; exact n_move rfl rfl) rfl rfl ?_; refine d_guard rfl rfl (fun hg => by have hq := hg; (try simp at hq); rw [hg]; exact n_indexAddr rfl (.pure _ _ _ _) rfl (by omega) (getD_get (by omega))) rfl rfl ?_; refine d_guard rfl rfl (fun hg => by rw [hg]; exact n_load_eref rfl rfl) rfl rfl ?_; refine d_guard rfl rfl (fun hg => by rw [hg]; exact n_eql rfl rfl) rfl rfl ?_; refine d_neu (n_pick_bool rfl (fun h => by first | rfl | (rw [h]; rfl)) (fun h => by first | rfl | (rw [h]; rfl))) rfl rfl ?_; refine d_nil ?_
  refine k1 ?_
  refine c_cond rfl (fun ht => ?_) (fun ht => ?_)
  · simp only [and_pick] at ht
    obtain ⟨⟨h1, h2⟩, h3⟩ := of_decide_eq_true ht
    have h1 : k < a.length := by omega
    have h2 : k < b.length := by omega
    rw [begOf_drop a b k h1 h2, if_pos (by simpa [h1, h2] using h3)] at he
    refine k5 ?_; refine k1 ?_; refine k3 ?_
    refine c_region ?_; refine l_neu (n_move rfl rfl) rfl ?_; refine l_neu (n_add rfl rfl (by omega)) rfl ?_; refine l_neu (n_assign rfl rfl) rfl ?_; refine l_nil ?_
    refine k4 ?_; refine k1 ?_
    exact ⟨k + 1, ⟨by omega, by omega, by omega⟩, by omega, Sees.of ⟨le1 rfl, le1 rfl, le1 rfl, trivial⟩ trivial⟩
  · simp only [and_pick] at ht
    have h := of_decide_eq_false ht
    have h0 : begOf (a.drop k) (b.drop k) = 0 := by
      by_cases hc : k < a.length ∧ k < b.length
      · obtain ⟨h1, h2⟩ := hc
        rw [begOf_drop a b k h1 h2, if_neg]
        intro h3
        exact h ⟨⟨by omega, by omega⟩, by simpa [h1, h2] using h3⟩
      · exact begOf_end a b k hc
    rw [h0] at he
    refine k6 ?_; refine k2 ?_
    refine c_region ?_; refine l_neu (n_move rfl rfl) rfl ?_; refine l_neu (n_assign rfl rfl) rfl ?_; refine l_nil ?_
    refine k1 ?_; refine k10 ?_
    exact ret_ret (ret1 rfl rfl rfl) (by rw [he]; rfl)
theorem sdistances_ok (a b : List Int) (ha : a.length ≤ 4096) (hb : b.length ≤ 4096) : FnOk Tryz.prog 154 [pInts a, pInts b] (fun rs => rs = [pU16s (flat a b (fun _ _ => true))]) := by
  obtain ⟨W, hW⟩ : ∃ W, W = b.length + 1 := ⟨_, rfl⟩
  have hmul : ∀ i : Nat, i ≤ a.length + 1 → 0 ≤ (i : Int) * (W : Int) ∧ (i : Int) * (W : Int) ≤ 16789506 := by
    intro i hi
    have h1 : i * W ≤ 4098 * 4097 := Nat.mul_le_mul (by omega) (by omega)
    have h2 : ((i * W : Nat) : Int) = (i : Int) * W := by push_cast; rfl
    omega
  have hcast : ∀ i : Nat, (i : Int) * (W : Int) = ((i * W : Nat) : Int) := fun i => by push_cast; rfl
  have hlen : ∀ done, (flat a b done).length = (a.length + 1) * W := fun done => by rw [flat_length, hW]
  have hdl : ∀ i j, dist (a.drop i) (b.drop j) ≤ 8192 := fun i j => by
    have := dist_le (a.drop i) (b.drop j)
    simp only [List.length_drop] at this
    omega
  have hin : ∀ i j : Nat, i ≤ a.length → j ≤ b.length → i * W + j < (a.length + 1) * W := fun i j hi hj => by rw [hW]; exact (flat_at hi hj).1
  refine FnOk.intro Tryz.func154 (by decide) rfl rfl rfl rfl ?_
  refine k2 ?_
  refine c_region ?_; refine l_neu (n_assign rfl rfl) rfl ?_; refine l_nil ?_
  refine k1 ?_; refine k2 ?_
  refine c_region ?_; refine l_neu (n_move rfl rfl) rfl ?_; refine l_neu (n_len rfl (.pure _ _ _ _)) rfl ?_; refine l_neu (n_add rfl rfl (by omega)) rfl ?_; refine l_neu (n_assign rfl rfl) rfl ?_; refine l_nil ?_
  refine then_normal ?_
  refine c_cut [(0, sList Int 1 intC a), (1, sList Int 1 intC b), (5, sInt W)] [] (Sees.of ⟨⟨_, rfl, .same _⟩, ⟨_, rfl, .same _⟩, ⟨_, rfl, .eq (by rw [hW]; simp)⟩, trivial⟩ trivial) ?_
  have hm1 := hmul (a.length + 1) (Nat.le_refl _)
  have e1 : ((a.length : Int) + 1) = ((a.length + 1 : Nat) : Int) := by omega
  refine k2 ?_
  refine c_region ?_; refine l_neu (n_move rfl rfl) rfl ?_; refine l_neu (n_len rfl (.pure _ _ _ _)) rfl ?_; refine l_neu (n_add rfl rfl (by omega)) rfl ?_; refine l_neu (n_move rfl rfl) rfl ?_; refine l_neu (n_mul rfl rfl (by (rw [e1]; omega))) rfl ?_; refine l_effv (f_makeZ 20 Int u16C 0 rfl rfl (by (rw [e1]; omega)) (by (rw [e1]; omega)) (fun _ => by first | exact ⟨⟨rfl, rfl⟩, trivial⟩ | exact ⟨rep_nil _ _ _, trivial⟩) rfl) rfl ?_; refine l_neu (n_assign rfl rfl) rfl ?_; refine l_nil ?_
  refine then_normal ?_
  refine c_cut [(0, sList Int 1 intC a), (1, sList Int 1 intC b), (5, sInt W), (6, .s (.one (.mut 20)))] [(20, .arr Int 1 u16C (flat a b (fun _ _ => false)))] ?_ ?_
  · refine Sees.of ⟨⟨_, rfl, .same _⟩, ⟨_, rfl, .same _⟩, ⟨_, rfl, .same _⟩, ⟨_, rfl, .same _⟩, trivial⟩ ⟨?_, trivial⟩
    rw [← flat_zero, e1, hcast, Int.toNat_natCast, hW]; rfl
  refine k2 ?_; refine k2 ?_
  refine c_region ?_; refine l_neu (n_move rfl rfl) rfl ?_; refine l_neu (n_len rfl (.pure _ _ _ _)) rfl ?_; refine l_neu (n_move rfl rfl) rfl ?_; refine l_nil ?_
  refine k1 ?_; refine k3 ?_
  refine c_while (X := Nat) (fun j => ([(0, sList Int 1 intC a), (1, sList Int 1 intC b), (5, sInt W), (6, .s (.one (.mut 20))), (22, sInt b.length), (23, sInt j)], [(20, .arr Int 1 u16C (flat a b (fun r q => decide (r = a.length ∧ q < j))))])) (fun j => j ≤ b.length) (fun j => b.length - j) 0 (Nat.zero_le _) ?_ ?_
  · rw [show flat a b (fun r q => decide (r = a.length ∧ q < 0)) = flat a b (fun _ _ => false) from flat_congr fun r q _ _ => .inl (by simp)]
    exact Sees.of ⟨le1 rfl, le1 rfl, le1 rfl, le1 rfl, le1 rfl, le1 rfl, trivial⟩ ⟨rfl, trivial⟩
  intro j hj
  dsimp only at hj ⊢
  refine k2 ?_
  refine c_region ?_; refine l_neu (n_lss rfl rfl) rfl ?_; refine l_nil ?_
  refine k1 ?_; refine k2 ?_
  refine c_cond rfl (fun ht => ?_) (fun ht => ?_)
  · have hlt : j < b.length := by have := of_decide_eq_true ht; omega
    have hmm := hmul a.length (by omega)
    have hix := hin a.length j (Nat.le_refl _) (by omega)
    have hc1 := hcast a.length
    have hL := hlen (fun r q => decide (r = a.length ∧ q < j))
    have hst : (flat a b (fun r q => decide (r = a.length ∧ q < j))).set (((a.length : Int) * (W : Int) + (j : Int)).toNat) (IntKind.u16.wrap ((b.length : Int) - j)) = flat a b (fun r q => decide (r = a.length ∧ q < j + 1)) := by
      rw [show ((a.length : Int) * (W : Int) + (j : Int)).toNat = a.length * (b.length + 1) + j by rw [hc1, hW]; omega, u16_in _ (by omega)]
      refine flat_set (Nat.le_refl _) (by omega) ?_ (by simp) (fun r q hr hq hne => ?_)
      · rw [List.drop_eq_nil_of_le (Nat.le_refl a.length), dist, List.length_drop]; omega
      · rw [decide_eq_decide]; omega
    refine k5 ?_; refine k1 ?_; refine k2 ?_; refine k3 ?_; refine k2 ?_
    refine c_region ?_; refine l_neu (n_move rfl rfl) rfl ?_; refine l_neu (n_assign rfl rfl) rfl ?_; refine l_nil ?_
    refine k1 ?_
    refine c_region ?_; refine l_neu (n_move rfl rfl) rfl ?_; refine l_neu (n_move rfl rfl) rfl ?_; refine l_neu (n_len rfl (.pure _ _ _ _)) rfl ?_; refine l_neu (n_move rfl rfl) rfl ?_; refine l_neu (n_mul rfl rfl (by omega)) rfl ?_; refine l_neu (n_move rfl rfl) rfl ?_; refine l_neu (n_add rfl rfl (by omega)) rfl ?_; refine l_neu (n_move rfl rfl) rfl ?_; refine l_neu (n_len rfl (.pure _ _ _ _)) rfl ?_; refine l_neu (n_move rfl rfl) rfl ?_; refine l_neu (n_sub rfl rfl (by omega)) rfl ?_; refine l_neu (n_convert rfl) rfl ?_; refine l_neu (n_indexAddr_mut rfl rfl rfl (by omega) (by (rw [hL]; omega))) rfl ?_; refine l_eff (e_store_mref1 TySz.out rfl rfl (by (rw [hL]; omega)) rfl rfl) ?_; refine l_nil ?_
    refine k4 ?_; refine k1 ?_
    refine c_region ?_; refine l_neu (n_add rfl rfl (by omega)) rfl ?_; refine l_neu (n_move rfl rfl) rfl ?_; refine l_nil ?_
    refine k1 ?_
    refine ⟨j + 1, by omega, by omega, ?_⟩
    rw [← hst]
    exact Sees.of ⟨le1 rfl, le1 rfl, le1 rfl, le1 rfl, le1 rfl, le1 rfl, trivial⟩ ⟨rfl, trivial⟩
  · have hj' : j = b.length := by have := of_decide_eq_false ht; omega
    subst hj'
    rw [show flat a b (fun r q => decide (r = a.length ∧ q < b.length)) = flat a b (fun r _ => decide (a.length ≤ r)) from flat_congr fun r q hr hq => by
      by_cases h : r = a.length ∧ q = b.length
      · right; rw [h.1, h.2, List.drop_eq_nil_of_le (Nat.le_refl _), List.drop_eq_nil_of_le (Nat.le_refl _)]; exact dist_nil []
      · left; rw [decide_eq_decide]; omega]
    refine k6 ?_; refine k2 ?_; refine k2 ?_
    refine c_region ?_; refine l_neu (n_move rfl rfl) rfl ?_; refine l_neu (n_len rfl (.pure _ _ _ _)) rfl ?_; refine l_neu (n_sub rfl rfl (by omega)) rfl ?_; refine l_neu (n_assign rfl rfl) rfl ?_; refine l_nil ?_
    refine k1 ?_; refine k3 ?_
    refine c_while (X := Nat) (fun i => ([(0, sList Int 1 intC a), (1, sList Int 1 intC b), (5, sInt W), (6, .s (.one (.mut 20))), (8, sInt ((i : Int) - 1))], [(20, .arr Int 1 u16C (flat a b (fun r _ => decide (i ≤ r))))])) (fun i => i ≤ a.length) (fun i => i) a.length (Nat.le_refl _) (Sees.of ⟨le1 rfl, le1 rfl, le1 rfl, le1 rfl, le1 rfl, trivial⟩ ⟨rfl, trivial⟩) ?_
    intro i hi
    dsimp only at hi ⊢
    refine k2 ?_; refine k2 ?_
    refine c_region ?_; refine l_neu (n_move rfl rfl) rfl ?_; refine l_neu (n_geq rfl rfl) rfl ?_; refine l_nil ?_
    refine k1 ?_
    refine c_cond rfl (fun ht => ?_) (fun ht => ?_)
    · obtain ⟨i, rfl⟩ : ∃ r, i = r + 1 := ⟨i - 1, by have := of_decide_eq_true ht; omega⟩
      refine c_cut [(0, sList Int 1 intC a), (1, sList Int 1 intC b), (5, sInt W), (6, .s (.one (.mut 20))), (8, sInt i)] [(20, .arr Int 1 u16C (flat a b (fun r _ => decide (i + 1 ≤ r))))] (Sees.of ⟨le1 rfl, le1 rfl, le1 rfl, le1 rfl, leE rfl (by first | (simp; done) | (simp; omega)), trivial⟩ ⟨rfl, trivial⟩) ?_
      obtain ⟨P, hP⟩ : ∃ P, P = i * W := ⟨_, rfl⟩
      obtain ⟨N, hN⟩ : ∃ N, N = (a.length + 1) * W := ⟨_, rfl⟩
      have c0 : (i : Int) * (W : Int) = (P : Int) := by rw [hP]; exact hcast i
      have c1 : ((i : Int) + 1) * (W : Int) = (P : Int) + W := by rw [Int.add_mul, Int.one_mul, c0]
      have c2 : ((i : Int) + 2) * (W : Int) = (P : Int) + W + W := by rw [Int.add_mul, c0]; omega
      have hPN : P + W + W ≤ N := by
        have h1 : (i + 2) * W ≤ (a.length + 1) * W := Nat.mul_le_mul_right _ (by omega)
        have h2 : (i + 2) * W = i * W + W + W := by rw [Nat.add_mul]; omega
        omega
      have hN2 : N ≤ 16789506 := by have := hmul (a.length + 1) (Nat.le_refl _); have := hcast (a.length + 1); omega
      have hL : ∀ done, (flat a b done).length = N := fun done => by rw [hlen, hN]
      refine k5 ?_; refine k1 ?_; refine k2 ?_; refine k3 ?_; refine k2 ?_
      refine c_region_draw (by kernel_rfl) (by kernel_rfl) ?_; refine d_neu (n_move rfl rfl) rfl rfl ?_; refine d_neu (n_move rfl rfl) rfl rfl ?_; refine d_neu (n_move rfl rfl) rfl rfl ?_; refine d_neu (n_mul rfl rfl (by (rw [c0]; omega))) rfl rfl ?_; refine d_neu (n_move rfl rfl) rfl rfl ?_; refine d_neu (n_add rfl rfl (by omega)) rfl rfl ?_; refine d_neu (n_move rfl rfl) rfl rfl ?_; refine d_neu (n_mul rfl rfl (by (rw [c1]; omega))) rfl rfl ?_; refine d_neu (n_slice_mut_lh rfl rfl rfl rfl (by (first | (rw [c0]; omega) | (rw [c0, c1]; omega) | (rw [c1, hL]; omega))) (by (first | (rw [c0]; omega) | (rw [c0, c1]; omega) | (rw [c1, hL]; omega))) (by (first | (rw [c0]; omega) | (rw [c0, c1]; omega) | (rw [c1, hL]; omega)))) rfl rfl ?_; refine d_neu (n_move rfl rfl) rfl rfl ?_; refine d_neu (n_move rfl rfl) rfl rfl ?_; refine d_neu (n_add rfl rfl (by omega)) rfl rfl ?_; refine d_neu (n_move rfl rfl) rfl rfl ?_; refine d_neu (n_mul rfl rfl (by (rw [c1]; omega))) rfl rfl ?_; refine d_neu (n_move rfl rfl) rfl rfl ?_; refine d_neu (n_add rfl rfl (by omega)) rfl rfl ?_; refine d_neu (n_move rfl rfl) rfl rfl ?_; refine d_neu (n_mul rfl rfl (by (rw [c2]; omega))) rfl rfl ?_; refine d_neu (n_slice_mut_lh rfl rfl rfl rfl (by (first | (rw [c1]; omega) | (rw [c1, c2]; omega) | (rw [c2, hL]; omega))) (by (first | (rw [c1]; omega) | (rw [c1, c2]; omega) | (rw [c2, hL]; omega))) (by (first | (rw [c1]; omega) | (rw [c1, c2]; omega) | (rw [c2, hL]; omega)))) rfl rfl ?_; refine d_neu (n_assign rfl rfl) rfl rfl ?_; refine d_neu (n_assign rfl rfl) rfl rfl ?_; refine d_nil ?_
      refine then_normal ?_
      have hdone : ∀ j, j ≤ b.length → (flat a b (fun r q => decide (i + 1 ≤ r ∨ (r = i ∧ j ≤ q))))[P + j]? = some (dist (a.drop i) (b.drop j) : Int) := fun j hj => by
        rw [hP, hW, flat_get (by omega) hj, if_pos (by simp)]
      have hbelow : ∀ j j', j ≤ b.length → (flat a b (fun r q => decide (i + 1 ≤ r ∨ (r = i ∧ j' ≤ q))))[P + W + j]? = some (dist (a.drop (i + 1)) (b.drop j) : Int) := fun j j' hj => by
        rw [show P + W + j = (i + 1) * (b.length + 1) + j by rw [hP, hW, Nat.add_mul]; omega, flat_get (by omega) hj, if_pos (by simp)]
      refine c_cut [(0, sList Int 1 intC a), (1, sList Int 1 intC b), (5, sInt W), (6, .s (.one (.mut 20))), (8, sInt i), (9, .s (.one (.msl 20 1 P W))), (10, .s (.one (.msl 20 1 (P + W) W)))] [(20, .arr Int 1 u16C (flat a b (fun r _ => decide (i + 1 ≤ r))))] ?_ ?_
      · refine Sees.of ⟨⟨_, rfl, .same _⟩, ⟨_, rfl, .same _⟩, ⟨_, rfl, .same _⟩, ⟨_, rfl, .same _⟩, ⟨_, rfl, .same _⟩, ⟨_, rfl, .eq ?_⟩, ⟨_, rfl, .eq ?_⟩, trivial⟩ ⟨rfl, trivial⟩
        · rw [c0, c1]; congr 3 <;> omega
        · rw [c1, c2]; congr 3 <;> omega
      have hset : ∀ (done done' : Nat → Nat → Bool) (j : Nat) (v : Int), j ≤ b.length → v = (dist (a.drop i) (b.drop j) : Int) → done' i j = true → (∀ r q, r ≤ a.length → q ≤ b.length → ¬ (r = i ∧ q = j) → done' r q = done r q) → (flat a b done).set (P + j) v = flat a b done' := by
        intro done done' j v hj hv h1 h2
        rw [hP, hW]; exact flat_set (by omega) hj hv h1 h2
      have hs0 : (flat a b (fun r _ => decide (i + 1 ≤ r))).set (P + ((b.length : Nat) : Int).toNat) (IntKind.u16.wrap ((a.length : Int) - i)) = flat a b (fun r q => decide (i + 1 ≤ r ∨ (r = i ∧ b.length ≤ q))) := by
        rw [Int.toNat_natCast, u16_in _ (by omega)]
        refine hset _ _ _ _ (Nat.le_refl _) ?_ (by simp) (fun r q hr hq hne => ?_)
        · rw [List.drop_eq_nil_of_le (Nat.le_refl b.length), dist_nil, List.length_drop]; omega
        · rw [decide_eq_decide]; omega
      refine k2 ?_
      refine c_region ?_; refine l_neu (n_move rfl rfl) rfl ?_; refine l_neu (n_move rfl rfl) rfl ?_; refine l_neu (n_len rfl (.pure _ _ _ _)) rfl ?_; refine l_neu (n_move rfl rfl) rfl ?_; refine l_neu (n_len rfl (.pure _ _ _ _)) rfl ?_; refine l_neu (n_move rfl rfl) rfl ?_; refine l_neu (n_sub rfl rfl (by omega)) rfl ?_; refine l_neu (n_convert rfl) rfl ?_; refine l_neu (n_indexAddr_msl rfl rfl (by omega) (by omega)) rfl ?_; refine l_eff (e_store_mref1 TySz.out rfl rfl (by (rw [hL]; omega)) rfl rfl) ?_; refine l_nil ?_
      rw [hs0]
      refine k1 ?_; refine k2 ?_
      refine c_region ?_; refine l_neu (n_move rfl rfl) rfl ?_; refine l_neu (n_len rfl (.pure _ _ _ _)) rfl ?_; refine l_neu (n_sub rfl rfl (by omega)) rfl ?_; refine l_neu (n_assign rfl rfl) rfl ?_; refine l_nil ?_
      refine k1 ?_; refine k3 ?_
      refine c_while (X := Nat) (fun j => ([(0, sList Int 1 intC a), (1, sList Int 1 intC b), (5, sInt W), (6, .s (.one (.mut 20))), (8, sInt i), (9, .s (.one (.msl 20 1 P W))), (10, .s (.one (.msl 20 1 (P + W) W))), (11, sInt ((j : Int) - 1))], [(20, .arr Int 1 u16C (flat a b (fun r q => decide (i + 1 ≤ r ∨ (r = i ∧ j ≤ q)))))])) (fun j => j ≤ b.length) (fun j => j) b.length (Nat.le_refl _) (Sees.of ⟨le1 rfl, le1 rfl, le1 rfl, le1 rfl, le1 rfl, le1 rfl, le1 rfl, le1 rfl, trivial⟩ ⟨rfl, trivial⟩) ?_
      intro j hj
      dsimp only at hj ⊢
      refine k2 ?_; refine k2 ?_
      refine c_region ?_; refine l_neu (n_move rfl rfl) rfl ?_; refine l_neu (n_geq rfl rfl) rfl ?_; refine l_nil ?_
      refine k1 ?_
      refine c_cond rfl (fun ht => ?_) (fun ht => ?_)
      · obtain ⟨j, rfl⟩ : ∃ r, j = r + 1 := ⟨j - 1, by have := of_decide_eq_true ht; omega⟩
        have hva : a[i]? = some a[i] := by simp [show i < a.length by omega]
        have hvb : b[j]? = some b[j] := by simp [show j < b.length by omega]
        have hdd := dist_drop a b i j (by omega) (by omega)
        have hd1 := hdl i j
        have hd2 := hdl (i + 1) j
        have hd3 := hdl i (j + 1)
        have hd4 := hdl (i + 1) (j + 1)
        obtain ⟨u, hu⟩ : ∃ u, u = a[i] := ⟨_, rfl⟩
        obtain ⟨v, hv⟩ : ∃ v, v = b[j] := ⟨_, rfl⟩
        rw [← hu] at hva hdd
        rw [← hv] at hvb hdd
        have hst : (flat a b (fun r q => decide (i + 1 ≤ r ∨ (r = i ∧ j + 1 ≤ q)))).set (P + j) (dist (a.drop i) (b.drop j) : Int) = flat a b (fun r q => decide (i + 1 ≤ r ∨ (r = i ∧ j ≤ q))) := hset _ _ _ _ (by omega) rfl (by simp) (fun r q hr hq hne => by rw [decide_eq_decide]; omega)
        refine c_cut [(0, sList Int 1 intC a), (1, sList Int 1 intC b), (5, sInt W), (6, .s (.one (.mut 20))), (8, sInt i), (9, .s (.one (.msl 20 1 P W))), (10, .s (.one (.msl 20 1 (P + W) W))), (11, sInt j)] [(20, .arr Int 1 u16C (flat a b (fun r q => decide (i + 1 ≤ r ∨ (r = i ∧ j + 1 ≤ q)))))] (Sees.of ⟨le1 rfl, le1 rfl, le1 rfl, le1 rfl, le1 rfl, le1 rfl, le1 rfl, leE rfl (by first | (simp; done) | (simp; omega)), trivial⟩ ⟨rfl, trivial⟩) ?_
        refine c_skip ?_
        refine then_normal ?_
        refine c_join [(0, sList Int 1 intC a), (1, sList Int 1 intC b), (5, sInt W), (6, .s (.one (.mut 20))), (8, sInt i), (9, .s (.one (.msl 20 1 P W))), (10, .s (.one (.msl 20 1 (P + W) W))), (11, sInt j)] [(20, .arr Int 1 u16C (flat a b (fun r q => decide (i + 1 ≤ r ∨ (r = i ∧ j ≤ q)))))] ?_ ?_
        · refine k3 ?_; refine k2 ?_
          refine c_region_draw (by kernel_rfl) (by kernel_rfl) ?_; refine d_neu (n_move rfl rfl) rfl rfl ?_; refine d_neu (n_move rfl rfl) rfl rfl ?_; refine d_neu (n_indexAddr rfl (.pure _ _ _ _) rfl (by omega) hva) rfl rfl ?_; refine d_neu (n_load_eref rfl rfl) rfl rfl ?_; refine d_neu (n_move rfl rfl) rfl rfl ?_; refine d_neu (n_move rfl rfl) rfl rfl ?_; refine d_neu (n_indexAddr rfl (.pure _ _ _ _) rfl (by omega) hvb) rfl rfl ?_; refine d_neu (n_load_eref rfl rfl) rfl rfl ?_; refine d_neu (n_eql rfl rfl) rfl rfl ?_; refine d_nil ?_
          refine k1 ?_
          refine c_cond rfl (fun ht => ?_) (fun ht => ?_)
          · rw [if_pos (of_decide_eq_true ht)] at hdd
            rw [hdd] at hst
            have hg := hbelow (j + 1) (j + 1) (by omega)
            have hgi : (flat a b (fun r q => decide (i + 1 ≤ r ∨ (r = i ∧ j + 1 ≤ q))))[P + W + ((j : Int) + 1).toNat]? = some (dist (a.drop (i + 1)) (b.drop (j + 1)) : Int) := by rw [show ((j : Int) + 1).toNat = j + 1 by omega]; exact hg
            skip
            refine c_region ?_; refine l_neu (n_move rfl rfl) rfl ?_; refine l_neu (n_move rfl rfl) rfl ?_; refine l_neu (n_move rfl rfl) rfl ?_; refine l_neu (n_move rfl rfl) rfl ?_; refine l_neu (n_add rfl rfl (by omega)) rfl ?_; refine l_neu (n_indexAddr_msl rfl rfl (by omega) (by omega)) rfl ?_; refine l_neu (n_load_mref rfl rfl hgi rfl) rfl ?_; refine l_neu (n_indexAddr_msl rfl rfl (by omega) (by omega)) rfl ?_; refine l_eff (e_store_mref1 TySz.out rfl rfl (by (rw [hL]; omega)) rfl rfl) ?_; refine l_nil ?_
            refine k4 ?_; refine k1 ?_
            rw [show P + ((j : Nat) : Int).toNat = P + j by omega, hst]
            exact Sees.of ⟨le1 rfl, le1 rfl, le1 rfl, le1 rfl, le1 rfl, le1 rfl, le1 rfl, le1 rfl, trivial⟩ ⟨rfl, trivial⟩
          · rw [if_neg (of_decide_eq_false ht)] at hdd
            have hg1 := hbelow j (j + 1) (by omega)
            have hg2 := hdone (j + 1) (by omega)
            have hgi1 : (flat a b (fun r q => decide (i + 1 ≤ r ∨ (r = i ∧ j + 1 ≤ q))))[P + W + ((j : Nat) : Int).toNat]? = some (dist (a.drop (i + 1)) (b.drop j) : Int) := by rw [Int.toNat_natCast]; exact hg1
            have hgi2 : (flat a b (fun r q => decide (i + 1 ≤ r ∨ (r = i ∧ j + 1 ≤ q))))[P + ((j : Int) + 1).toNat]? = some (dist (a.drop i) (b.drop (j + 1)) : Int) := by rw [show ((j : Int) + 1).toNat = j + 1 by omega]; exact hg2
            have hval : IntKind.u16.wrap ((if (dist (a.drop i) (b.drop (j + 1)) : Int) < (dist (a.drop (i + 1)) (b.drop j) : Int) then (dist (a.drop i) (b.drop (j + 1)) : Int) else (dist (a.drop (i + 1)) (b.drop j) : Int)) + 1) = (dist (a.drop i) (b.drop j) : Int) := by
              rw [u16_in _ (by split <;> omega), hdd]; split <;> omega
            skip
            refine c_region_draw (by kernel_rfl) (by kernel_rfl) ?_; refine d_neu (n_move rfl rfl) rfl rfl ?_; refine d_neu (n_move rfl rfl) rfl rfl ?_; refine d_neu (n_move rfl rfl) rfl rfl ?_; refine d_neu (n_move rfl rfl) rfl rfl ?_; refine d_neu (n_indexAddr_msl rfl rfl (by omega) (by omega)) rfl rfl ?_; refine d_neu (n_load_mref rfl rfl hgi1 rfl) rfl rfl ?_; refine d_neu (n_move rfl rfl) rfl rfl ?_; refine d_neu (n_move rfl rfl) rfl rfl ?_; refine d_neu (n_add rfl rfl (by omega)) rfl rfl ?_; refine d_neu (n_indexAddr_msl rfl rfl (by omega) (by omega)) rfl rfl ?_; refine d_neu (n_load_mref rfl rfl hgi2 rfl) rfl rfl ?_; refine d_neu (n_min rfl rfl) rfl rfl ?_; refine d_neu (n_add_w rfl rfl) rfl rfl ?_; refine d_neu (n_indexAddr_msl rfl rfl (by omega) (by omega)) rfl rfl ?_; refine d_eff (e_store_mref1 TySz.out rfl rfl (by (rw [hL]; omega)) rfl rfl) rfl ?_; refine d_nil ?_
            refine k4 ?_; refine k1 ?_
            rw [hval, show P + ((j : Nat) : Int).toNat = P + j by omega, hst]
            exact Sees.of ⟨le1 rfl, le1 rfl, le1 rfl, le1 rfl, le1 rfl, le1 rfl, le1 rfl, le1 rfl, trivial⟩ ⟨rfl, trivial⟩
        · skip
          refine c_region ?_; refine l_neu (n_move rfl rfl) rfl ?_; refine l_neu (n_sub rfl rfl (by omega)) rfl ?_; refine l_neu (n_assign rfl rfl) rfl ?_; refine l_nil ?_
          refine k1 ?_
          exact ⟨j, by omega, by omega, Sees.of ⟨le1 rfl, le1 rfl, le1 rfl, le1 rfl, le1 rfl, le1 rfl, le1 rfl, le1 rfl, trivial⟩ ⟨rfl, trivial⟩⟩
      · obtain rfl : j = 0 := by have := of_decide_eq_false ht; omega
        rw [show flat a b (fun r q => decide (i + 1 ≤ r ∨ (r = i ∧ 0 ≤ q))) = flat a b (fun r _ => decide (i ≤ r)) from flat_congr fun r q _ _ => .inl (by rw [decide_eq_decide]; omega)]
        refine k6 ?_; refine k7 ?_; refine k7 ?_; refine k8 rfl ?_; refine k4 ?_; refine k1 ?_
        refine c_region ?_; refine l_neu (n_move rfl rfl) rfl ?_; refine l_neu (n_sub rfl rfl (by omega)) rfl ?_; refine l_neu (n_assign rfl rfl) rfl ?_; refine l_nil ?_
        refine k1 ?_
        exact ⟨i, by omega, by omega, Sees.of ⟨le1 rfl, le1 rfl, le1 rfl, le1 rfl, le1 rfl, trivial⟩ ⟨rfl, trivial⟩⟩
    · obtain rfl : i = 0 := by have := of_decide_eq_false ht; omega
      rw [show flat a b (fun r _ => decide (0 ≤ r)) = flat a b (fun _ _ => true) from flat_congr fun r q _ _ => .inl (by simp)]
      refine c_sees (Sees.freeze (k := 20) rfl) ?_
      refine k6 ?_; refine k2 ?_
      refine c_region ?_; refine l_neu (n_move rfl rfl) rfl ?_; refine l_neu (n_assign rfl rfl) rfl ?_; refine l_nil ?_
      refine k1 ?_; refine k10 ?_
      exact ret_ret (ret1 rfl rfl rfl) rfl
end Go.Proofs.YtjjidificdmnmaaGreatDoor
namespace Go.Proofs.YtjjidificdmnmaaGreatDoor
open Go Go.AL
set_option maxRecDepth 100000
theorem i64_id {n : Int} (h : -9223372036854775808 ≤ n ∧ n ≤ 9223372036854775807) : IntKind.i64.wrap n = n := IntWalk.i64_in _ h
theorem sat_met {gf : Fr} {ob : Obs} (a b : List Int) (i j : Nat) (ha : a.length ≤ 4096) (hb : b.length ≤ 4096) (hi : i ≤ a.length) (hj : j ≤ b.length) (h8 : getO ob 8 = some (.box [.p (.list Int 1 u16C (flat a b (fun _ _ => true)))])) (h3 : getO ob 3 = some (.box [.p (.list Int 1 intC b)])) :
    Met Tryz.prog 155 [.one (.p (.v (.int .i64 i))), .one (.p (.v (.int .i64 j))), .one (.ref 8 0), .one (.ref 3 0)] gf ob [] (fun rs ob' => rs = [.one (.p (.v (.int .i64 (dist (a.drop i) (b.drop j) : Int))))] ∧ ob' = ob) := by
  have hg := flat_get (a := a) (b := b) (done := fun _ _ => true) hi hj
  rw [if_pos rfl] at hg
  have hin := (flat_at (a := a) (b := b) hi hj).1
  have hL := flat_length a b (fun _ _ => true)
  have e1 : (i : Int) * ((b.length : Int) + 1) = ((i * (b.length + 1) : Nat) : Int) := by push_cast; rfl
  have hbd : i * (b.length + 1) ≤ 4096 * 4097 := Nat.mul_le_mul (by omega) (by omega)
  have hbd2 : (a.length + 1) * (b.length + 1) ≤ 4097 * 4097 := Nat.mul_le_mul (by omega) (by omega)
  have hgi : (flat a b (fun _ _ => true))[((i : Int) * ((b.length : Int) + 1) + j).toNat]? = some (dist (a.drop i) (b.drop j) : Int) := by
    rw [e1, show (((i * (b.length + 1) : Nat) : Int) + j).toNat = i * (b.length + 1) + j by omega]; exact hg
  have hd := dist_le (a.drop i) (b.drop j)
  simp only [List.length_drop] at hd
  refine Met.intro Tryz.func155 (by decide) rfl rfl rfl ?_
  refine k2 ?_
  refine c_region ?_; refine l_neu (n_assign rfl rfl) rfl ?_; refine l_nil ?_
  refine k1 ?_; refine k2 ?_
  refine c_region ?_; refine l_neu (n_load_ref rfl h8 rfl) rfl ?_; refine l_neu (n_move rfl rfl) rfl ?_; refine l_neu (n_load_ref rfl h3 rfl) rfl ?_; refine l_neu (n_len rfl (.pure _ _ _ _)) rfl ?_; refine l_neu (n_add rfl rfl (by omega)) rfl ?_; refine l_neu (n_mul rfl rfl (by (rw [e1]; omega))) rfl ?_; refine l_neu (n_move rfl rfl) rfl ?_; refine l_neu (n_add rfl rfl (by (rw [e1]; omega))) rfl ?_; refine l_neu (n_indexAddr rfl (.pure _ _ _ _) rfl (by omega) hgi) rfl ?_; refine l_neu (n_load_eref rfl rfl) rfl ?_; refine l_neu (n_convert rfl) rfl ?_; refine l_neu (n_assign rfl rfl) rfl ?_; refine l_nil ?_
  rw [i64_id (by omega)]
  refine k1 ?_; refine k10 ?_
  exact met_ret (rets1 rfl rfl) (by repeat (first | exact tail_refl | refine tail_cons rfl ?_ | refine tail_forget _ ?_)) (fun _ _ h => h) ⟨rfl, rfl⟩
theorem swalk_ok (a b : List Int) (ha : a.length ≤ 4096) (hb : b.length ≤ 4096) : FnOk Tryz.prog 109 [pInts a, pInts b] (fun rs => rs = [pSpans (walkGo 0 0 a b)]) := by
  obtain ⟨n, hn⟩ : ∃ n, n = begOf a b := ⟨_, rfl⟩
  have hnl := begOf_le a b
  rw [← hn] at hnl
  have hbeg := walkGo_beg a b 0 0
  rw [← hn] at hbeg
  refine FnOk.intro Tryz.func109 (by decide) rfl rfl rfl rfl ?_
  refine k2 ?_
  refine c_region ?_; refine l_effv (f_box 3 rfl rfl rfl) rfl ?_; refine l_neu (n_assign rfl rfl) rfl ?_; refine l_nil ?_
  refine k1 ?_; refine k2 ?_
  refine c_region ?_; refine l_effv (f_adopt 5 _ spanC rfl) rfl ?_; refine l_nil ?_
  refine k1 ?_; refine k2 ?_
  refine c_region ?_; refine l_neu (n_move rfl rfl) rfl ?_; refine l_neu (n_load_ref rfl rfl rfl) rfl ?_; refine l_call (sbeginning_ok a b (by omega)) rfl rfl rfl ?_; rintro _ rfl; refine l_neu (n_assign rfl rfl) rfl ?_; refine l_nil ?_
  rw [← hn]
  refine k1 ?_; refine k2 ?_; refine k2 ?_
  refine c_region ?_; refine l_neu (n_move rfl rfl) rfl ?_; refine l_neu (n_move rfl rfl) rfl ?_; refine l_nil ?_
  refine k1 ?_; refine k3 ?_
  refine c_while (X := Nat) (fun k => ([(0, sList Int 1 intC a), (3, .s (.one (.ref 3 0))), (5, .s (.one (.buf 5 Span 2 spanC (spanRun 0 0 k)))), (6, sInt n), (15, sInt n), (16, sInt k)], [(3, .box [.p (.list Int 1 intC b)]), (5, .spare (spanRun 0 0 k).length 2 109)])) (fun k => k ≤ n) (fun k => n - k) 0 (Nat.zero_le _) (Sees.of ⟨le1 rfl, le1 rfl, le1 rfl, le1 rfl, le1 rfl, le1 rfl, trivial⟩ ⟨rfl, rfl, trivial⟩) ?_
  intro k hk
  dsimp only at hk ⊢
  have hrl := spanRun_length 0 0 k
  refine k2 ?_
  refine c_region ?_; refine l_neu (n_lss rfl rfl) rfl ?_; refine l_nil ?_
  refine k1 ?_; refine k2 ?_
  refine c_cond rfl (fun ht => ?_) (fun ht => ?_)
  · have hlt : k < n := by have := of_decide_eq_true ht; omega
    have hsn := spanRun_snoc 0 0 k
    refine k5 ?_; refine k1 ?_; refine k2 ?_; refine k3 ?_; refine k2 ?_
    refine c_region ?_; refine l_neu (n_move rfl rfl) rfl ?_; refine l_neu (n_assign rfl rfl) rfl ?_; refine l_nil ?_
    refine k1 ?_
    refine c_region ?_; refine l_neu (n_move rfl rfl) rfl ?_; refine l_neu (n_move rfl rfl) rfl ?_; refine l_neu (n_move rfl rfl) rfl ?_; refine l_neu (n_build rfl) rfl ?_; refine l_neu (n_buildSlice (c := spanC) (ys := [⟨(k : Int), (k : Int)⟩]) (asm_cons rfl rfl rfl rfl asm_nil) rfl rfl rfl) rfl ?_; refine l_effv (e_append rfl rfl rfl (.pure _ _ _ _) (by (simp only [List.length_cons, List.length_nil]; omega)) rfl) rfl ?_; refine l_neu (n_assign rfl rfl) rfl ?_; refine l_nil ?_
    refine k4 ?_; refine k1 ?_
    refine c_region ?_; refine l_neu (n_add rfl rfl (by omega)) rfl ?_; refine l_neu (n_move rfl rfl) rfl ?_; refine l_nil ?_
    refine k1 ?_
    refine ⟨k + 1, by omega, by omega, ?_⟩
    rw [hsn, show (0 : Int) + (k : Int) = k by omega]
    exact Sees.of ⟨le1 rfl, le1 rfl, le1 rfl, le1 rfl, le1 rfl, le1 rfl, trivial⟩ ⟨rfl, rfl, trivial⟩
  have hk' : k = n := by have := of_decide_eq_false ht; omega
  subst hk'
  obtain ⟨a', ha'⟩ : ∃ a', a' = a.drop k := ⟨_, rfl⟩
  obtain ⟨b', hb'⟩ : ∃ b', b' = b.drop k := ⟨_, rfl⟩
  have hal : a'.length ≤ 4096 := by rw [ha', List.length_drop]; omega
  have hbl : b'.length ≤ 4096 := by rw [hb', List.length_drop]; omega
  rw [Int.zero_add, ← ha', ← hb'] at hbeg
  refine k6 ?_; refine k2 ?_
  refine c_region_draw (by kernel_rfl) (by kernel_rfl) ?_; refine d_neu (n_move rfl rfl) rfl rfl ?_; refine d_neu (n_move rfl rfl) rfl rfl ?_; refine d_neu (n_slice_l rfl (.pure _ _ _ _) rfl (by omega) (by omega)) rfl rfl ?_; refine d_neu (n_load_ref rfl rfl rfl) rfl rfl ?_; refine d_neu (n_move rfl rfl) rfl rfl ?_; refine d_neu (n_slice_l rfl (.pure _ _ _ _) rfl (by omega) (by omega)) rfl rfl ?_; refine d_neu (n_assign rfl rfl) rfl rfl ?_; refine d_eff (e_store_ref TySz.out rfl rfl rfl rfl rfl rfl) rfl ?_; refine d_nil ?_
  rw [Int.toNat_natCast, ← ha', ← hb']
  refine k1 ?_; refine k2 ?_
  refine c_region ?_; refine l_neu (n_move rfl rfl) rfl ?_; refine l_neu (n_load_ref rfl rfl rfl) rfl ?_; refine l_call (sdistances_ok a' b' hal hbl) rfl rfl rfl ?_; rintro _ rfl; refine l_effv (f_alloc 8 rfl) rfl ?_; refine l_eff (e_store_ref TySz.out rfl rfl rfl rfl rfl rfl) ?_; refine l_nil ?_
  refine k1 ?_; refine k2 ?_
  refine c_region ?_; refine l_neu (n_makeFunc rfl rfl) rfl ?_; refine l_neu (n_assign rfl rfl) rfl ?_; refine l_nil ?_
  refine k1 ?_; refine k2 ?_; refine k2 ?_
  refine c_region ?_; refine l_neu (n_assign rfl rfl) rfl ?_; refine l_neu (n_assign rfl rfl) rfl ?_; refine l_nil ?_
  refine k1 ?_; refine k3 ?_
  refine c_while (X := Nat × Nat × List Span) (fun x => ([(0, sList Int 1 intC a'), (3, .s (.one (.ref 3 0))), (5, .s (.one (.buf 5 Span 2 spanC x.2.2))), (6, sInt k), (8, .s (.one (.ref 8 0))), (9, .s (.one (.clo 155 [] [(8, 0), (3, 0)]))), (10, sInt x.1), (11, sInt x.2.1)], [(3, .box [.p (.list Int 1 intC b')]), (5, .spare x.2.2.length 2 109), (8, .box [.p (.list Int 1 u16C (flat a' b' (fun _ _ => true)))])])) (fun x => x.1 ≤ a'.length ∧ x.2.1 ≤ b'.length ∧ x.2.2.length ≤ k + x.1 ∧ walkGo 0 0 a b = x.2.2 ++ walkGo (k + x.1) (k + x.2.1) (a'.drop x.1) (b'.drop x.2.1)) (fun x => (a'.length - x.1) + (b'.length - x.2.1)) (0, 0, spanRun 0 0 k) ⟨Nat.zero_le _, Nat.zero_le _, by rw [hrl]; exact Nat.le_refl _, by simpa using hbeg⟩ (Sees.of ⟨le1 rfl, le1 rfl, le1 rfl, le1 rfl, le1 rfl, le1 rfl, le1 rfl, le1 rfl, trivial⟩ ⟨rfl, rfl, rfl, trivial⟩) ?_
  rintro ⟨i, j, out⟩ ⟨hi, hj, hol, he⟩
  dsimp only at hi hj hol he ⊢
  refine k2 ?_; refine k2 ?_
  refine c_region ?_; refine l_neu (n_move rfl rfl) rfl ?_; refine l_neu (n_move rfl rfl) rfl ?_; refine l_neu (n_len rfl (.pure _ _ _ _)) rfl ?_; refine l_neu (n_lss rfl rfl) rfl ?_; refine l_neu (n_move rfl rfl) rfl ?_; refine l_guard rfl rfl rfl rfl (fun hg => by rw [hg]; exact n_move rfl rfl) ?_; refine l_guard rfl rfl rfl rfl (fun hg => by rw [hg]; exact n_load_ref rfl rfl rfl) ?_; refine l_guard rfl rfl rfl rfl (fun hg => by rw [hg]; exact n_len rfl (.pure _ _ _ _)) ?_; refine l_guard rfl rfl rfl rfl (fun hg => by rw [hg]; exact n_lss rfl rfl) ?_; refine l_neu (n_pick_bool rfl (fun h => by first | rfl | (rw [h]; rfl)) (fun h => by first | rfl | (rw [h]; rfl))) rfl ?_; refine l_nil ?_
  refine k1 ?_
  refine c_cond rfl (fun ht => ?_) (fun ht => ?_)
  · simp only [or_pick] at ht
    have hcond := of_decide_eq_true ht
    refine c_cut [(0, sList Int 1 intC a'), (3, .s (.one (.ref 3 0))), (5, .s (.one (.buf 5 Span 2 spanC out))), (6, sInt k), (8, .s (.one (.ref 8 0))), (9, .s (.one (.clo 155 [] [(8, 0), (3, 0)]))), (10, sInt i), (11, sInt j)] [(3, .box [.p (.list Int 1 intC b')]), (5, .spare out.length 2 109), (8, .box [.p (.list Int 1 u16C (flat a' b' (fun _ _ => true)))])] (Sees.of ⟨le1 rfl, le1 rfl, le1 rfl, le1 rfl, le1 rfl, le1 rfl, le1 rfl, le1 rfl, trivial⟩ ⟨rfl, rfl, rfl, trivial⟩) ?_
    refine k5 ?_; refine k1 ?_; refine k3 ?_; refine k3 ?_; refine k2 ?_
    refine c_region_draw (by kernel_rfl) (by kernel_rfl) ?_; refine d_neu (n_move rfl rfl) rfl rfl ?_; refine d_neu (n_move rfl rfl) rfl rfl ?_; refine d_neu (n_len rfl (.pure _ _ _ _)) rfl rfl ?_; refine d_neu (n_lss rfl rfl) rfl rfl ?_; refine d_neu (n_move rfl rfl) rfl rfl ?_; refine d_guard rfl rfl (fun hg => by rw [hg]; exact n_move rfl rfl) rfl rfl ?_; refine d_guard rfl rfl (fun hg => by rw [hg]; exact n_load_ref rfl rfl rfl) rfl rfl ?_; refine d_guard rfl rfl (fun hg => by rw [hg]; exact n_len rfl (.pure _ _ _ _)) rfl rfl ?_; refine d_guard rfl rfl (fun hg => by rw [hg]; exact n_lss rfl rfl) rfl rfl ?_; refine d_neu (n_pick_bool rfl (fun h => by first | rfl | (rw [h]; rfl)) (fun h => by first | rfl | (rw [h]; rfl))) rfl rfl ?_; refine d_neu (n_move rfl rfl) rfl rfl ?_; refine d_guard rfl rfl (fun hg => by rw [hg]; exact n_move rfl rfl) rfl rfl ?_; refine d_guard rfl rfl (fun hg => by rw [hg]; exact n_move rfl rfl) rfl rfl ?_; refine d_guard rfl rfl (fun hg => by have hq := hg; (try simp at hq); rw [hg]; exact n_indexAddr rfl (.pure _ _ _ _) rfl (by omega) (getD_get (by omega))) rfl rfl ?_; refine d_guard rfl rfl (fun hg => by rw [hg]; exact n_load_eref rfl rfl) rfl rfl ?_; refine d_guard rfl rfl (fun hg => by rw [hg]; exact n_load_ref rfl rfl rfl) rfl rfl ?_; refine d_guard rfl rfl (fun hg => by rw [hg]; exact n_move rfl rfl) rfl rfl ?_; refine d_guard rfl rfl (fun hg => by have hq := hg; (try simp at hq); rw [hg]; exact n_indexAddr rfl (.pure _ _ _ _) rfl (by omega) (getD_get (by omega))) rfl rfl ?_; refine d_guard rfl rfl (fun hg => by rw [hg]; exact n_load_eref rfl rfl) rfl rfl ?_; refine d_guard rfl rfl (fun hg => by rw [hg]; exact n_eql rfl rfl) rfl rfl ?_; refine d_neu (n_pick_bool rfl (fun h => by first | rfl | (rw [h]; rfl)) (fun h => by first | rfl | (rw [h]; rfl))) rfl rfl ?_; refine d_neu (n_assign rfl rfl) rfl rfl ?_; refine d_nil ?_
    refine k1 ?_
    refine c_cond rfl (fun ht => ?_) (fun ht => ?_)
    · simp only [and_pick] at ht
      obtain ⟨⟨h1, h2⟩, h3⟩ := of_decide_eq_true ht
      have h1 : i < a'.length := by omega
      have h2 : j < b'.length := by omega
      rw [walkGo_drop a' b' i j h1 h2, if_pos (by simpa [h1, h2] using h3)] at he
      refine c_cut [(0, sList Int 1 intC a'), (3, .s (.one (.ref 3 0))), (5, .s (.one (.buf 5 Span 2 spanC out))), (6, sInt k), (8, .s (.one (.ref 8 0))), (9, .s (.one (.clo 155 [] [(8, 0), (3, 0)]))), (10, sInt i), (11, sInt j)] [(3, .box [.p (.list Int 1 intC b')]), (5, .spare out.length 2 109), (8, .box [.p (.list Int 1 u16C (flat a' b' (fun _ _ => true)))])] (Sees.of ⟨le1 rfl, le1 rfl, le1 rfl, le1 rfl, le1 rfl, le1 rfl, le1 rfl, le1 rfl, trivial⟩ ⟨rfl, rfl, rfl, trivial⟩) ?_
      refine k2 ?_
      refine c_region ?_; refine l_neu (n_move rfl rfl) rfl ?_; refine l_neu (n_move rfl rfl) rfl ?_; refine l_neu (n_move rfl rfl) rfl ?_; refine l_neu (n_add rfl rfl (by omega)) rfl ?_; refine l_neu (n_move rfl rfl) rfl ?_; refine l_neu (n_move rfl rfl) rfl ?_; refine l_neu (n_add rfl rfl (by omega)) rfl ?_; refine l_neu (n_build rfl) rfl ?_; refine l_neu (n_buildSlice (c := spanC) (ys := [⟨(k : Int) + i, (k : Int) + j⟩]) (asm_cons rfl rfl rfl rfl asm_nil) rfl rfl rfl) rfl ?_; refine l_effv (e_append rfl rfl rfl (.pure _ _ _ _) (by (simp only [List.length_cons, List.length_nil]; omega)) rfl) rfl ?_; refine l_neu (n_assign rfl rfl) rfl ?_; refine l_nil ?_
      refine k1 ?_
      refine c_region ?_; refine l_neu (n_move rfl rfl) rfl ?_; refine l_neu (n_add rfl rfl (by omega)) rfl ?_; refine l_neu (n_move rfl rfl) rfl ?_; refine l_neu (n_add rfl rfl (by omega)) rfl ?_; refine l_neu (n_assign rfl rfl) rfl ?_; refine l_neu (n_assign rfl rfl) rfl ?_; refine l_nil ?_
      refine k4 ?_; refine k4 ?_; refine k1 ?_
      refine ⟨(i + 1, j + 1, out ++ [⟨(k : Int) + i, (k : Int) + j⟩]), ⟨by dsimp only; omega, by dsimp only; omega, by simp; omega, ?_⟩, by dsimp only; omega, Sees.of ⟨le1 rfl, le1 rfl, le1 rfl, le1 rfl, le1 rfl, le1 rfl, le1 rfl, le1 rfl, trivial⟩ ⟨rfl, rfl, rfl, trivial⟩⟩
      dsimp only
      rw [he, List.append_assoc]
      congr 2
    · simp only [and_pick] at ht
      have hno := of_decide_eq_false ht
      refine c_cut [(0, sList Int 1 intC a'), (3, .s (.one (.ref 3 0))), (5, .s (.one (.buf 5 Span 2 spanC out))), (6, sInt k), (8, .s (.one (.ref 8 0))), (9, .s (.one (.clo 155 [] [(8, 0), (3, 0)]))), (10, sInt i), (11, sInt j)] [(3, .box [.p (.list Int 1 intC b')]), (5, .spare out.length 2 109), (8, .box [.p (.list Int 1 u16C (flat a' b' (fun _ _ => true)))])] (Sees.of ⟨le1 rfl, le1 rfl, le1 rfl, le1 rfl, le1 rfl, le1 rfl, le1 rfl, le1 rfl, trivial⟩ ⟨rfl, rfl, rfl, trivial⟩) ?_
      by_cases h1 : i < a'.length
      · have hr : decide ((i : Int) < (a'.length : Int)) = true := decide_eq_true (by omega)
        have hd1 := dist_le (a'.drop (i + 1)) (b'.drop j)
        simp only [List.length_drop] at hd1
        have hstep : ¬ j < b'.length → dist (a'.drop (i + 1)) (b'.drop j) + 1 = dist (a'.drop i) (b'.drop j) ∧ walkGo (k + i) (k + j) (a'.drop i) (b'.drop j) = walkGo (k + i + 1) (k + j) (a'.drop (i + 1)) (b'.drop j) := by
          intro hj2
          rw [show b'.drop j = [] from List.drop_eq_nil_of_le (by omega), dist_nil, dist_nil, List.length_drop, List.length_drop, walkGo_nil_right, walkGo_nil_right]
          exact ⟨by omega, rfl⟩
        have hgo : j < b'.length → walkGo (k + i) (k + j) (a'.drop i) (b'.drop j) = if dist (a'.drop (i + 1)) (b'.drop j) + 1 = dist (a'.drop i) (b'.drop j) then walkGo (k + i + 1) (k + j) (a'.drop (i + 1)) (b'.drop j) else walkGo (k + i) (k + j + 1) (a'.drop i) (b'.drop (j + 1)) := by
          intro h2
          rw [walkGo_drop a' b' i j h1 h2, if_neg]
          intro h3
          exact hno ⟨⟨by omega, by omega⟩, by simpa [h1, h2] using h3⟩
        refine k2 ?_
        refine c_region ?_; refine l_neu (n_move rfl rfl) rfl ?_; refine l_neu (n_move rfl rfl) rfl ?_; refine l_neu (n_len rfl (.pure _ _ _ _)) rfl ?_; refine l_neu (n_lss rfl rfl) rfl ?_; refine l_neu (n_move rfl rfl) rfl ?_; refine l_run rfl rfl rfl hr ?_; refine l_neu (n_move rfl rfl) rfl ?_; refine l_run rfl rfl rfl hr ?_; refine l_neu (n_move rfl rfl) rfl ?_; refine l_run rfl rfl rfl hr ?_; refine l_neu (n_add rfl rfl (by omega)) rfl ?_; refine l_run rfl rfl rfl hr ?_; refine l_neu (n_move rfl rfl) rfl ?_; refine l_run rfl rfl rfl hr ?_; refine l_metF (sat_met a' b' (i + 1) j hal hbl (by omega) hj rfl rfl) rfl rfl rfl rfl ?_; rintro _ _ ⟨rfl, rfl⟩; refine l_run rfl rfl rfl hr ?_; refine l_neu (n_add rfl rfl (by omega)) rfl ?_; refine l_run rfl rfl rfl hr ?_; refine l_neu (n_move rfl rfl) rfl ?_; refine l_run rfl rfl rfl hr ?_; refine l_neu (n_move rfl rfl) rfl ?_; refine l_run rfl rfl rfl hr ?_; refine l_neu (n_move rfl rfl) rfl ?_; refine l_run rfl rfl rfl hr ?_; refine l_metF (sat_met a' b' i j hal hbl hi hj rfl rfl) rfl rfl rfl rfl ?_; rintro _ _ ⟨rfl, rfl⟩; refine l_run rfl rfl rfl hr ?_; refine l_neu (n_eql rfl rfl) rfl ?_; refine l_neu (n_pick_bool rfl (fun h => by first | rfl | (rw [h]; rfl)) (fun h => by first | rfl | (rw [h]; rfl))) rfl ?_; refine l_neu (n_assign rfl rfl) rfl ?_; refine l_nil ?_
        refine k1 ?_
        refine c_cond rfl (fun ht => ?_) (fun ht => ?_)
        · simp only [and_pick] at ht
          obtain ⟨_, h3⟩ := of_decide_eq_true ht
          have h3 : dist (a'.drop (i + 1)) (b'.drop j) + 1 = dist (a'.drop i) (b'.drop j) := by omega
          have hnext : walkGo (k + i) (k + j) (a'.drop i) (b'.drop j) = walkGo (k + i + 1) (k + j) (a'.drop (i + 1)) (b'.drop j) := by
            by_cases h2 : j < b'.length
            · rw [hgo h2, if_pos h3]
            · exact (hstep h2).2
          rw [hnext] at he
          skip
          refine c_region ?_; refine l_neu (n_move rfl rfl) rfl ?_; refine l_neu (n_add rfl rfl (by omega)) rfl ?_; refine l_neu (n_assign rfl rfl) rfl ?_; refine l_nil ?_
          refine k4 ?_; refine k4 ?_; refine k1 ?_
          refine ⟨(i + 1, j, out), ⟨by dsimp only; omega, by dsimp only; omega, by dsimp only; omega, ?_⟩, by dsimp only; omega, Sees.of ⟨le1 rfl, le1 rfl, le1 rfl, le1 rfl, le1 rfl, le1 rfl, le1 rfl, le1 rfl, trivial⟩ ⟨rfl, rfl, rfl, trivial⟩⟩
          dsimp only
          rw [he, show (k : Int) + (i : Int) + 1 = (k : Int) + ((i + 1 : Nat) : Int) by omega]
        · simp only [and_pick] at ht
          have h3 := of_decide_eq_false ht
          have h3 : ¬ dist (a'.drop (i + 1)) (b'.drop j) + 1 = dist (a'.drop i) (b'.drop j) := fun q => h3 ⟨by omega, by omega⟩
          have h2 : j < b'.length := by
            by_cases h2 : j < b'.length
            · exact h2
            · exact absurd (hstep h2).1 h3
          rw [hgo h2, if_neg h3] at he
          skip
          refine c_region ?_; refine l_neu (n_move rfl rfl) rfl ?_; refine l_neu (n_add rfl rfl (by omega)) rfl ?_; refine l_neu (n_assign rfl rfl) rfl ?_; refine l_nil ?_
          refine k4 ?_; refine k4 ?_; refine k1 ?_
          refine ⟨(i, j + 1, out), ⟨by dsimp only; omega, by dsimp only; omega, by dsimp only; omega, ?_⟩, by dsimp only; omega, Sees.of ⟨le1 rfl, le1 rfl, le1 rfl, le1 rfl, le1 rfl, le1 rfl, le1 rfl, le1 rfl, trivial⟩ ⟨rfl, rfl, rfl, trivial⟩⟩
          dsimp only
          rw [he, show (k : Int) + (j : Int) + 1 = (k : Int) + ((j + 1 : Nat) : Int) by omega]
      · have hrf : decide ((i : Int) < (a'.length : Int)) = false := decide_eq_false (by omega)
        have h2 : j < b'.length := by omega
        refine k2 ?_
        refine c_region ?_; refine l_neu (n_move rfl rfl) rfl ?_; refine l_neu (n_move rfl rfl) rfl ?_; refine l_neu (n_len rfl (.pure _ _ _ _)) rfl ?_; refine l_neu (n_lss rfl rfl) rfl ?_; refine l_neu (n_move rfl rfl) rfl ?_; refine l_skip rfl rfl rfl (by rw [hrf]; decide) rfl ?_; refine l_skip rfl rfl rfl (by rw [hrf]; decide) rfl ?_; refine l_skip rfl rfl rfl (by rw [hrf]; decide) rfl ?_; refine l_skip rfl rfl rfl (by rw [hrf]; decide) rfl ?_; refine l_skip rfl rfl rfl (by rw [hrf]; decide) rfl ?_; refine l_skip rfl rfl rfl (by rw [hrf]; decide) rfl ?_; refine l_skip rfl rfl rfl (by rw [hrf]; decide) rfl ?_; refine l_skip rfl rfl rfl (by rw [hrf]; decide) rfl ?_; refine l_skip rfl rfl rfl (by rw [hrf]; decide) rfl ?_; refine l_skip rfl rfl rfl (by rw [hrf]; decide) rfl ?_; refine l_skip rfl rfl rfl (by rw [hrf]; decide) rfl ?_; refine l_neu (n_pick_f rfl (hrf) rfl) rfl ?_; refine l_neu (n_assign rfl rfl) rfl ?_; refine l_nil ?_
        refine k1 ?_
        refine c_cond rfl (fun ht => ?_) (fun ht => ?_)
        · cases ht
        · skip
          refine c_region ?_; refine l_neu (n_move rfl rfl) rfl ?_; refine l_neu (n_add rfl rfl (by omega)) rfl ?_; refine l_neu (n_assign rfl rfl) rfl ?_; refine l_nil ?_
          refine k4 ?_; refine k4 ?_; refine k1 ?_
          refine ⟨(i, j + 1, out), ⟨by dsimp only; omega, by dsimp only; omega, by dsimp only; omega, ?_⟩, by dsimp only; omega, Sees.of ⟨le1 rfl, le1 rfl, le1 rfl, le1 rfl, le1 rfl, le1 rfl, le1 rfl, le1 rfl, trivial⟩ ⟨rfl, rfl, rfl, trivial⟩⟩
          dsimp only
          rw [he, show a'.drop i = [] from List.drop_eq_nil_of_le (by omega), walkGo_nil_left, walkGo_nil_left]
  · simp only [or_pick] at ht
    have hcond := of_decide_eq_false ht
    rw [show a'.drop i = [] from List.drop_eq_nil_of_le (by omega), walkGo_nil_left, List.append_nil] at he
    refine k6 ?_; refine k2 ?_
    refine c_region ?_; refine l_neu (n_move rfl rfl) rfl ?_; refine l_neu (n_assign rfl rfl) rfl ?_; refine l_nil ?_
    refine k1 ?_; refine k10 ?_
    exact ret_ret (ret1 rfl rfl rfl) (by rw [he])
theorem sScript_ok (a b : List Int) (ha : a.length ≤ 4096) (hb : b.length ≤ 4096) : FnOk Tryz.prog 71 [pInts a, pInts b] (fun rs => rs = [pChanges (walkOf a b), pInt 0]) := by
  have hA := walkGo_asc a b 0 0
  rw [Int.zero_add, Int.zero_add] at hA
  have hl := walkGo_length 0 0 a b
  refine FnOk.intro Tryz.func71 (by decide) rfl rfl rfl rfl ?_
  refine k2 ?_
  refine c_region ?_; refine l_neu (n_assign rfl rfl) rfl ?_; refine l_neu (n_assign rfl rfl) rfl ?_; refine l_nil ?_
  refine k1 ?_; refine k2 ?_; refine k2 ?_
  refine c_region ?_; refine l_neu (n_move rfl rfl) rfl ?_; refine l_neu (n_move rfl rfl) rfl ?_; refine l_call (slimited_ok a b) rfl rfl rfl ?_; rintro _ rfl; refine l_neu (n_not rfl) rfl ?_; refine l_nil ?_
  refine k1 ?_
  refine c_cond rfl (fun ht => ?_) (fun ht => ?_)
  · exfalso
    have h : decide ((a.length : Int) ≤ 4096 ∧ (b.length : Int) ≤ 4096) = true := decide_eq_true ⟨by omega, by omega⟩
    rw [h] at ht; cases ht
  refine k5 ?_; refine k1 ?_; refine k2 ?_
  refine c_region ?_; refine l_neu (n_move rfl rfl) rfl ?_; refine l_neu (n_move rfl rfl) rfl ?_; refine l_call (swalk_ok a b ha hb) rfl rfl rfl ?_; rintro _ rfl; refine l_neu (n_move rfl rfl) rfl ?_; refine l_neu (n_len rfl (.pure _ _ _ _)) rfl ?_; refine l_neu (n_move rfl rfl) rfl ?_; refine l_neu (n_len rfl (.pure _ _ _ _)) rfl ?_; refine l_call (sFromPairs_ok (walkGo 0 0 a b) a.length b.length ⟨by omega, by omega⟩ ⟨by omega, by omega⟩ hA (by omega)) rfl rfl rfl ?_; rintro _ rfl; refine l_neu (n_extract rfl rfl) rfl ?_; refine l_neu (n_extract rfl rfl) rfl ?_; refine l_neu (n_assign rfl rfl) rfl ?_; refine l_neu (n_assign rfl rfl) rfl ?_; refine l_nil ?_
  refine k1 ?_; refine k10 ?_
  exact ret_ret (ret2 rfl rfl rfl rfl rfl) rfl
end Go.Proofs.YtjjidificdmnmaaGreatDoor
namespace Go.Proofs.YtjjidificdmnmaaGreatDoor
open Go Go.AL
set_option maxRecDepth 100000
abbrev pHunk (h : Hunk) : PV := .agg [.v (.int .i64 h.First), .v (.int .i64 h.Last), .v (.int .i64 h.Old.From), .v (.int .i64 h.Old.To), .v (.int .i64 h.New.From), .v (.int .i64 h.New.To)]
theorem hclosed_ok (l : List Change) (f z : Nat) (m ctx : Int) (hl : l.length ≤ 1073741824) (hf : f < z) (hz : z ≤ l.length) (hc : 0 ≤ ctx ∧ ctx ≤ 1048576) (hm : 0 ≤ m ∧ m ≤ 4096)
    (hb : ∀ k, k < l.length → in81 (cAt l k).Old ∧ in81 (cAt l k).OldLen ∧ in81 (cAt l k).New ∧ in81 (cAt l k).NewLen) :
    FnOk Tryz.prog 114 [pChanges l, pInt f, pInt z, pInt m, pInt ctx] (fun rs => rs = [pHunk (mkH l m ctx f z)]) := by
  have hva : l[((f : Nat) : Int).toNat]? = some (cAt l f) := by rw [Int.toNat_natCast]; exact cAt_get (by omega)
  have hvz : l[((z : Nat) : Int).toNat - 1]? = some (cAt l (z - 1)) := by rw [Int.toNat_natCast]; exact cAt_get (by omega)
  have hvz2 : l[(((z : Nat) : Int) - 1).toNat]? = some (cAt l (z - 1)) := by rw [show (((z : Nat) : Int) - 1).toNat = z - 1 by omega]; exact cAt_get (by omega)
  obtain ⟨⟨a1, a2⟩, ⟨a3, a4⟩, ⟨a5, a6⟩, ⟨a7, a8⟩⟩ := hb f (by omega)
  obtain ⟨⟨z1, z2⟩, ⟨z3, z4⟩, ⟨z5, z6⟩, ⟨z7, z8⟩⟩ := hb (z - 1) (by omega)
  obtain ⟨a, ha⟩ : ∃ a, a = cAt l f := ⟨_, rfl⟩
  obtain ⟨y, hy⟩ : ∃ y, y = cAt l (z - 1) := ⟨_, rfl⟩
  have hres : mkH l m ctx f z = ⟨f, z, ⟨a.Old - minI ctx a.Old, y.Old + y.OldLen + minI ctx (m - y.Old - y.OldLen)⟩, ⟨a.New - minI ctx a.Old, y.New + y.NewLen + minI ctx (m - y.Old - y.OldLen)⟩⟩ := by
    unfold mkH hunkEnd hunkOpen
    dsimp only
    rw [← ha, ← hy, show m - (y.Old + y.OldLen) = m - y.Old - y.OldLen by omega, show (((z - 1 : Nat) : Int) + 1) = z by omega]
  rw [← ha] at hva a1 a2 a3 a4 a5 a6 a7 a8
  rw [← hy] at hvz hvz2 z1 z2 z3 z4 z5 z6 z7 z8
  rw [hres]
  have n1 : -4096 ≤ minI ctx a.Old ∧ minI ctx a.Old ≤ 4096 := by unfold minI; split <;> omega
  have n2 : -8192 ≤ minI ctx (m - y.Old - y.OldLen) ∧ minI ctx (m - y.Old - y.OldLen) ≤ 1048576 := by unfold minI; split <;> omega
  refine FnOk.intro Tryz.func114 (by decide) rfl rfl rfl rfl ?_
  refine k2 ?_
  refine c_region ?_; refine l_effv (f_alloc 10 rfl) rfl ?_; refine l_nil ?_
  refine k1 ?_; refine k2 ?_
  refine c_region_any [12, 11, 10, 9] [[], [9], [10], [10, 9], [11, 10, 9], [12, 11, 10, 9]] [(0, [9]), (0, [10]), (0, [10, 9]), (1, [9]), (1, [10]), (1, [10, 9]), (2, [9]), (2, [10]), (2, [10, 9]), (3, [9]), (3, [10]), (3, [10, 9]), (4, [9]), (4, [10]), (4, [10, 9]), (4, [11, 10, 9]), (5, [9]), (5, [10]), (5, [10, 9]), (5, [11, 10, 9]), (6, [9]), (6, [10]), (6, [10, 9]), (6, [11, 10, 9]), (7, [9]), (7, [10]), (7, [10, 9]), (7, [11, 10, 9]), (8, [9]), (8, [10]), (8, [10, 9]), (8, [11, 10, 9]), (9, [10]), (10, [])] (by kernel_rfl) (by kernel_rfl) ?_; refine a_neu rfl (n_move rfl rfl) ?_; refine a_neu rfl (n_move rfl rfl) ?_; refine a_neu rfl (n_indexAddr rfl (.pure _ _ _ _) rfl (by omega) hva) ?_; refine a_neu rfl (n_loads_eref rfl rfl) ?_; refine a_neu rfl (n_move rfl rfl) ?_; refine a_neu rfl (n_move rfl rfl) ?_; refine a_neu rfl (n_sub rfl rfl (by omega)) ?_; refine a_neu rfl (n_indexAddr rfl (.pure _ _ _ _) rfl (by omega) hvz2) ?_; refine a_neu rfl (n_loads_eref rfl rfl) ?_; refine a_alloc 11 rfl rfl ?_; refine a_alloc 12 rfl rfl ?_; refine a_store (u_store_ref TySz.out rfl rfl rfl rfl rfl rfl) ?_; refine a_store (u_store_ref TySz.out rfl rfl rfl rfl rfl rfl) ?_; refine a_nil rfl ?_ ?_
  · refine o_neu rfl rfl (n_move rfl rfl) ?_; refine o_neu rfl rfl (n_move rfl rfl) ?_; refine o_neu rfl rfl (n_move rfl rfl) ?_; refine o_neu rfl rfl (n_move rfl rfl) ?_; refine o_neu rfl rfl (n_move rfl rfl) ?_; refine o_neu rfl rfl (n_move rfl rfl) ?_; refine o_neu rfl rfl (n_indexAddr rfl (.pure _ _ _ _) rfl (by omega) hva) ?_; refine o_neu rfl rfl (n_indexAddr rfl (.pure _ _ _ _) rfl (by omega) hva) ?_; refine o_neu rfl rfl (n_indexAddr rfl (.pure _ _ _ _) rfl (by omega) hva) ?_; refine o_neu rfl rfl (n_loads_eref rfl rfl) ?_; refine o_neu rfl rfl (n_loads_eref rfl rfl) ?_; refine o_neu rfl rfl (n_loads_eref rfl rfl) ?_; refine o_neu rfl rfl (n_move rfl rfl) ?_; refine o_neu rfl rfl (n_move rfl rfl) ?_; refine o_neu rfl rfl (n_move rfl rfl) ?_; refine o_neu rfl rfl (n_move rfl rfl) ?_; refine o_neu rfl rfl (n_move rfl rfl) ?_; refine o_neu rfl rfl (n_move rfl rfl) ?_; refine o_neu rfl rfl (n_move rfl rfl) ?_; refine o_neu rfl rfl (n_move rfl rfl) ?_; refine o_neu rfl rfl (n_sub rfl rfl (by omega)) ?_; refine o_neu rfl rfl (n_sub rfl rfl (by omega)) ?_; refine o_neu rfl rfl (n_sub rfl rfl (by omega)) ?_; refine o_neu rfl rfl (n_sub rfl rfl (by omega)) ?_; refine o_neu rfl rfl (n_indexAddr rfl (.pure _ _ _ _) rfl (by omega) hvz2) ?_; refine o_neu rfl rfl (n_indexAddr rfl (.pure _ _ _ _) rfl (by omega) hvz2) ?_; refine o_neu rfl rfl (n_indexAddr rfl (.pure _ _ _ _) rfl (by omega) hvz2) ?_; refine o_neu rfl rfl (n_indexAddr rfl (.pure _ _ _ _) rfl (by omega) hvz2) ?_; refine o_neu rfl rfl (n_loads_eref rfl rfl) ?_; refine o_neu rfl rfl (n_loads_eref rfl rfl) ?_; refine o_neu rfl rfl (n_loads_eref rfl rfl) ?_; refine o_neu rfl rfl (n_loads_eref rfl rfl) ?_; refine o_alloc rfl rfl rfl rfl rfl ?_; refine o_alloc rfl rfl rfl rfl rfl ?_; exact o_nil
  refine k1 ?_; refine k2 ?_
  refine c_region ?_; refine l_neu (n_move rfl rfl) rfl ?_; refine l_neu (n_field_ref rfl) rfl ?_; refine l_neu (n_load_ref rfl rfl rfl) rfl ?_; refine l_neu (n_min rfl rfl) rfl ?_; refine l_neu (n_assign rfl rfl) rfl ?_; refine l_nil ?_
  rw [show (if a.Old < ctx then a.Old else ctx) = minI ctx a.Old from rfl]
  refine k1 ?_; refine k2 ?_
  refine c_region ?_; refine l_neu (n_move rfl rfl) rfl ?_; refine l_neu (n_move rfl rfl) rfl ?_; refine l_neu (n_field_ref rfl) rfl ?_; refine l_neu (n_load_ref rfl rfl rfl) rfl ?_; refine l_neu (n_sub rfl rfl (by omega)) rfl ?_; refine l_neu (n_field_ref rfl) rfl ?_; refine l_neu (n_load_ref rfl rfl rfl) rfl ?_; refine l_neu (n_sub rfl rfl (by omega)) rfl ?_; refine l_neu (n_min rfl rfl) rfl ?_; refine l_neu (n_assign rfl rfl) rfl ?_; refine l_nil ?_
  rw [show (if m - y.Old - y.OldLen < ctx then m - y.Old - y.OldLen else ctx) = minI ctx (m - y.Old - y.OldLen) from rfl]
  refine k1 ?_; refine k2 ?_
  refine c_region ?_; refine l_neu (n_move rfl rfl) rfl ?_; refine l_neu (n_move rfl rfl) rfl ?_; refine l_neu (n_field_ref rfl) rfl ?_; refine l_neu (n_load_ref rfl rfl rfl) rfl ?_; refine l_neu (n_move rfl rfl) rfl ?_; refine l_neu (n_sub rfl rfl (by omega)) rfl ?_; refine l_neu (n_field_ref rfl) rfl ?_; refine l_neu (n_load_ref rfl rfl rfl) rfl ?_; refine l_neu (n_field_ref rfl) rfl ?_; refine l_neu (n_load_ref rfl rfl rfl) rfl ?_; refine l_neu (n_add rfl rfl (by omega)) rfl ?_; refine l_neu (n_move rfl rfl) rfl ?_; refine l_neu (n_add rfl rfl (by omega)) rfl ?_; refine l_neu (n_build rfl) rfl ?_; refine l_neu (n_field_ref rfl) rfl ?_; refine l_neu (n_load_ref rfl rfl rfl) rfl ?_; refine l_neu (n_move rfl rfl) rfl ?_; refine l_neu (n_sub rfl rfl (by omega)) rfl ?_; refine l_neu (n_field_ref rfl) rfl ?_; refine l_neu (n_load_ref rfl rfl rfl) rfl ?_; refine l_neu (n_field_ref rfl) rfl ?_; refine l_neu (n_load_ref rfl rfl rfl) rfl ?_; refine l_neu (n_add rfl rfl (by omega)) rfl ?_; refine l_neu (n_move rfl rfl) rfl ?_; refine l_neu (n_add rfl rfl (by omega)) rfl ?_; refine l_neu (n_build rfl) rfl ?_; refine l_neu (n_build rfl) rfl ?_; refine l_eff (e_store_ref TySz.out rfl rfl rfl rfl rfl rfl) ?_; refine l_nil ?_
  refine k1 ?_; refine k10 ?_
  exact ret_ret (retc rfl rfl rfl rfl rfl) rfl
theorem hGroup_ok (l : List Change) (m n ctx : Int) (hl : l.length ≤ 1073741824) : FnOk Tryz.prog 73 [pChanges l, pInt m, pInt n, pInt ctx] (fun rs => rs = [pHunks (groupOf l m n ctx).1, pInt (groupOf l m n ctx).2]) := by
  have hg0 : groupOf l m n ctx = if ctx < 0 ∨ 1048576 < ctx then ([], 3) else if check8 l m n ≠ 0 then ([], check8 l m n) else (groupTo l m ctx l.length, 0) := rfl
  refine FnOk.intro Tryz.func73 (by decide) rfl rfl rfl rfl ?_
  refine k2 ?_
  refine c_region ?_; refine l_neu (n_assign rfl rfl) rfl ?_; refine l_neu (n_assign rfl rfl) rfl ?_; refine l_nil ?_
  refine k1 ?_; refine k2 ?_; refine k2 ?_
  refine c_region ?_; refine l_neu (n_move rfl rfl) rfl ?_; refine l_neu (n_lss rfl rfl) rfl ?_; refine l_neu (n_move rfl rfl) rfl ?_; refine l_guard rfl rfl rfl rfl (fun hg => by rw [hg]; exact n_move rfl rfl) ?_; refine l_guard rfl rfl rfl rfl (fun hg => by rw [hg]; exact n_gtr rfl rfl) ?_; refine l_neu (n_pick_bool rfl (fun h => by first | rfl | (rw [h]; rfl)) (fun h => by first | rfl | (rw [h]; rfl))) rfl ?_; refine l_nil ?_
  refine k1 ?_
  refine c_cond rfl (fun ht => ?_) (fun ht => ?_)
  · simp only [or_pick] at ht
    have h := of_decide_eq_true ht
    rw [if_pos h] at hg0
    refine k2 ?_
    refine c_region ?_; refine l_neu (n_assign_nil _ 6 hunkC) rfl ?_; refine l_neu (n_assign rfl rfl) rfl ?_; refine l_nil ?_
    refine k1 ?_; refine k10 ?_; refine k11 ?_
    exact ret_ret (ret2 rfl rfl rfl rfl rfl) (by rw [hg0])
  simp only [or_pick] at ht
  have hc := of_decide_eq_false ht
  rw [if_neg hc] at hg0
  refine k5 ?_; refine k1 ?_; refine k2 ?_; refine k2 ?_
  refine c_region ?_; refine l_neu (n_move rfl rfl) rfl ?_; refine l_neu (n_move rfl rfl) rfl ?_; refine l_neu (n_move rfl rfl) rfl ?_; refine l_call (scheck_ok l m n hl) rfl rfl rfl ?_; rintro _ rfl; refine l_neu (n_assign rfl rfl) rfl ?_; refine l_nil ?_
  refine k1 ?_; refine k2 ?_
  refine c_region ?_; refine l_neu (n_move rfl rfl) rfl ?_; refine l_neu (n_neq rfl rfl) rfl ?_; refine l_nil ?_
  refine k1 ?_
  refine c_cond rfl (fun ht => ?_) (fun ht => ?_)
  · have h := of_decide_eq_true ht
    rw [if_pos h] at hg0
    refine k2 ?_
    refine c_region ?_; refine l_neu (n_move rfl rfl) rfl ?_; refine l_neu (n_assign_nil _ 6 hunkC) rfl ?_; refine l_neu (n_assign rfl rfl) rfl ?_; refine l_nil ?_
    refine k1 ?_; refine k10 ?_; refine k11 ?_
    exact ret_ret (ret2 rfl rfl rfl rfl rfl) (by rw [hg0])
  have h := of_decide_eq_false ht
  rw [if_neg h] at hg0
  obtain ⟨hm, hn, hs⟩ := check8_ok (Decidable.not_not.1 h)
  have hb : ∀ k, k < l.length → in81 (cAt l k).Old ∧ in81 (cAt l k).OldLen ∧ in81 (cAt l k).New ∧ in81 (cAt l k).NewLen := fun k hk => by
    obtain ⟨b1, b2, b3, b4, _⟩ := hs.get k hk
    exact ⟨b1, b2, b3, b4⟩
  refine c_cut [(0, sList Change 4 changeC l), (1, sInt m), (2, sInt n), (3, sInt ctx)] [] (Sees.of ⟨le1 rfl, le1 rfl, le1 rfl, le1 rfl, trivial⟩ trivial) ?_
  refine k5 ?_; refine k1 ?_; refine k2 ?_
  refine c_region ?_; refine l_effv (f_adopt 11 _ hunkC rfl) rfl ?_; refine l_nil ?_
  refine k1 ?_; refine k2 ?_
  refine c_region ?_; refine l_neu (n_assign rfl rfl) rfl ?_; refine l_nil ?_
  refine k1 ?_; refine k2 ?_; refine k2 ?_
  refine c_region ?_; refine l_neu (n_move rfl rfl) rfl ?_; refine l_neu (n_len rfl (.pure _ _ _ _)) rfl ?_; refine l_neu (n_move rfl rfl) rfl ?_; refine l_nil ?_
  refine k1 ?_; refine k3 ?_
  refine c_while (X := Nat × Nat × List Hunk) (fun x => ([(0, sList Change 4 changeC l), (1, sInt m), (3, sInt ctx), (11, .s (.one (.buf 11 Hunk 6 hunkC x.2.2))), (12, sInt x.2.1), (28, sList Change 4 changeC l), (29, sInt l.length), (30, sInt x.1)], [(11, .spare x.2.2.length 6 111)])) (fun x => x.1 ≤ l.length ∧ x.2.1 ≤ x.1 ∧ GrX l m ctx 0 x.2.2 x.2.1 ∧ (∀ c, x.2.1 < c → c ≤ x.1 → c < l.length → ¬ opens l ctx c) ∧ (x.2.1 < l.length → opens l ctx x.2.1) ∧ (x.1 = l.length → x.2.1 = l.length)) (fun x => l.length - x.1) (0, 0, []) ⟨Nat.zero_le _, Nat.le_refl _, rfl, fun c h1 h2 => by omega, fun _ => .inl rfl, fun h => h⟩ (Sees.of ⟨le1 rfl, le1 rfl, le1 rfl, le1 rfl, le1 rfl, le1 rfl, le1 rfl, le1 rfl, trivial⟩ ⟨rfl, trivial⟩) ?_
  rintro ⟨i, f, out⟩ ⟨hi, hfi, hx, hno, hof, hend⟩
  dsimp only at hi hfi hx hno hof hend ⊢
  have hxl := hx.len
  refine k2 ?_
  refine c_region ?_; refine l_neu (n_lss rfl rfl) rfl ?_; refine l_nil ?_
  refine k1 ?_; refine k2 ?_
  refine c_cond rfl (fun ht => ?_) (fun ht => ?_)
  · have hlt : i < l.length := by have := of_decide_eq_true ht; omega
    have hv : l[((i : Nat) : Int).toNat]? = some (cAt l i) := by rw [Int.toNat_natCast]; exact cAt_get hlt
    obtain ⟨⟨b1, b2⟩, ⟨b3, b4⟩, _⟩ := hb i hlt
    obtain ⟨c, hcc⟩ : ∃ c, c = cAt l i := ⟨_, rfl⟩
    have hopi : i + 1 < l.length → (opens l ctx (i + 1) ↔ 2 * ctx < (cAt l (i + 1)).Old - c.Old - c.OldLen) := fun h1 => by
      unfold opens
      rw [show i + 1 - 1 = i by omega, ← hcc]
      exact ⟨fun h => h.resolve_left (by omega), fun h => .inr h⟩
    rw [← hcc] at hv b1 b2 b3 b4
    have hnx : ∀ q : Int, q = (i : Int) + 1 → ¬ q = (l.length : Int) → l[q.toNat]? = some (cAt l (i + 1)) := by
      intro q hq hne
      rw [hq, show ((i : Int) + 1).toNat = i + 1 by omega]; exact cAt_get (by omega)
    have hbx : ¬ ((i : Int) + 1 = (l.length : Int)) → 0 ≤ (cAt l (i + 1)).Old ∧ (cAt l (i + 1)).Old ≤ 4096 := by
      intro hne; exact (hb (i + 1) (by omega)).1
    refine k5 ?_; refine k1 ?_; refine k2 ?_; refine k3 ?_; refine k2 ?_
    refine c_region ?_; refine l_neu (n_move rfl rfl) rfl ?_; refine l_neu (n_indexAddr rfl (.pure _ _ _ _) rfl (by omega) hv) rfl ?_; refine l_neu (n_loads_eref rfl rfl) rfl ?_; refine l_effv (f_alloc 14 rfl) rfl ?_; refine l_neu (n_assign rfl rfl) rfl ?_; refine l_eff (e_store_ref TySz.out rfl rfl rfl rfl rfl rfl) ?_; refine l_nil ?_
    refine k1 ?_; refine k2 ?_
    refine c_region_draw (by kernel_rfl) (by kernel_rfl) ?_; refine d_neu (n_move rfl rfl) rfl rfl ?_; refine d_neu (n_add rfl rfl (by omega)) rfl rfl ?_; refine d_neu (n_move rfl rfl) rfl rfl ?_; refine d_neu (n_len rfl (.pure _ _ _ _)) rfl rfl ?_; refine d_neu (n_eql rfl rfl) rfl rfl ?_; refine d_neu (n_move rfl rfl) rfl rfl ?_; refine d_guard rfl rfl (fun hg => by rw [hg]; exact n_move rfl rfl) rfl rfl ?_; refine d_guard rfl rfl (fun hg => by rw [hg]; exact n_move rfl rfl) rfl rfl ?_; refine d_guard rfl rfl (fun hg => by have hq := hg; (try simp at hq); skip; rw [hg]; exact n_add rfl rfl (by omega)) rfl rfl ?_; refine d_guard rfl rfl (fun hg => by have hq := hg; (try simp at hq); rw [hg]; exact n_indexAddr rfl (.pure _ _ _ _) rfl (by omega) (hnx _ rfl (by simpa using hq))) rfl rfl ?_; refine d_guard rfl rfl (fun hg => by rw [hg]; exact n_field_eref rfl) rfl rfl ?_; refine d_guard rfl rfl (fun hg => by rw [hg]; exact n_load_eref rfl rfl) rfl rfl ?_; refine d_guard rfl rfl (fun hg => by rw [hg]; exact n_field_ref rfl) rfl rfl ?_; refine d_guard rfl rfl (fun hg => by rw [hg]; exact n_load_ref rfl rfl rfl) rfl rfl ?_; refine d_guard rfl rfl (fun hg => by have hq := hg; (try simp at hq); rw [hg]; exact n_sub rfl rfl (by (have := hbx (by simpa using hq); omega))) rfl rfl ?_; refine d_guard rfl rfl (fun hg => by rw [hg]; exact n_field_ref rfl) rfl rfl ?_; refine d_guard rfl rfl (fun hg => by rw [hg]; exact n_load_ref rfl rfl rfl) rfl rfl ?_; refine d_guard rfl rfl (fun hg => by have hq := hg; (try simp at hq); rw [hg]; exact n_sub rfl rfl (by (have := hbx (by simpa using hq); omega))) rfl rfl ?_; refine d_guard rfl rfl (fun hg => by rw [hg]; exact n_move rfl rfl) rfl rfl ?_; refine d_guard rfl rfl (fun hg => by have hq := hg; (try simp at hq); rw [hg]; exact n_mul rfl rfl (by omega)) rfl rfl ?_; refine d_guard rfl rfl (fun hg => by rw [hg]; exact n_gtr rfl rfl) rfl rfl ?_; refine d_neu (n_pick_bool rfl (fun h => by first | rfl | (rw [h]; rfl)) (fun h => by first | rfl | (rw [h]; rfl))) rfl rfl ?_; refine d_nil ?_
    refine k1 ?_
    refine c_cond rfl (fun ht => ?_) (fun ht => ?_)
    · simp only [or_pick] at ht
      have hcl := of_decide_eq_true ht
      have hnext : i + 1 < l.length → opens l ctx (i + 1) := fun h1 => by
        rw [hopi h1]
        exact hcl.resolve_left (by omega)
      refine c_cut [(0, sList Change 4 changeC l), (1, sInt m), (3, sInt ctx), (11, .s (.one (.buf 11 Hunk 6 hunkC out))), (12, sInt f), (13, sInt i), (28, sList Change 4 changeC l), (29, sInt l.length), (30, sInt i)] [(11, .spare out.length 6 111)] (Sees.of ⟨le1 rfl, le1 rfl, le1 rfl, le1 rfl, le1 rfl, le1 rfl, le1 rfl, le1 rfl, le1 rfl, trivial⟩ ⟨rfl, trivial⟩) ?_
      refine k2 ?_
      refine c_region ?_; refine l_neu (n_move rfl rfl) rfl ?_; refine l_neu (n_move rfl rfl) rfl ?_; refine l_neu (n_move rfl rfl) rfl ?_; refine l_neu (n_move rfl rfl) rfl ?_; refine l_neu (n_add rfl rfl (by omega)) rfl ?_; refine l_neu (n_move rfl rfl) rfl ?_; refine l_neu (n_move rfl rfl) rfl ?_; refine l_call (hclosed_ok l f (i + 1) m ctx hl (by omega) (by omega) (by omega) hm hb) rfl rfl rfl ?_; rintro _ rfl; refine l_neu (n_buildSlice (c := hunkC) (ys := [mkH l m ctx f (i + 1)]) (asm_cons rfl rfl rfl rfl asm_nil) rfl rfl rfl) rfl ?_; refine l_effv (e_append rfl rfl rfl (.pure _ _ _ _) (by (simp only [List.length_cons, List.length_nil]; omega)) rfl) rfl ?_; refine l_neu (n_assign rfl rfl) rfl ?_; refine l_nil ?_
      refine k1 ?_
      refine c_region ?_; refine l_neu (n_move rfl rfl) rfl ?_; refine l_neu (n_add rfl rfl (by omega)) rfl ?_; refine l_neu (n_assign rfl rfl) rfl ?_; refine l_nil ?_
      refine k4 ?_; refine k1 ?_
      refine c_region ?_; refine l_neu (n_add rfl rfl (by omega)) rfl ?_; refine l_neu (n_move rfl rfl) rfl ?_; refine l_nil ?_
      refine k1 ?_
      refine ⟨(i + 1, i + 1, out ++ [mkH l m ctx f (i + 1)]), ⟨by dsimp only; omega, Nat.le_refl _, ?_, fun c h1 h2 => by dsimp only at h1 h2; omega, fun h1 => hnext h1, fun h1 => h1⟩, by dsimp only; omega, Sees.of ⟨le1 rfl, le1 rfl, le1 rfl, le1 rfl, le1 rfl, le1 rfl, le1 rfl, le1 rfl, trivial⟩ ⟨rfl, trivial⟩⟩
      exact hx.snoc (hof (by omega)) (by omega) (fun c h1 h2 => hno c h1 (by omega) (by omega))
    · simp only [or_pick] at ht
      have hcl := of_decide_eq_false ht
      have hne : ¬ (i : Int) + 1 = l.length := fun q => hcl (.inl q)
      have hnext : ¬ opens l ctx (i + 1) := fun q => by
        rw [hopi (by omega)] at q
        exact hcl (.inr q)
      refine k5 ?_; refine k4 ?_; refine k1 ?_
      refine c_region ?_; refine l_neu (n_add rfl rfl (by omega)) rfl ?_; refine l_neu (n_move rfl rfl) rfl ?_; refine l_nil ?_
      refine k1 ?_
      refine ⟨(i + 1, f, out), ⟨by dsimp only; omega, by dsimp only; omega, hx, fun c h1 h2 h3 => ?_, hof, fun h1 => by dsimp only at h1; omega⟩, by dsimp only; omega, Sees.of ⟨le1 rfl, le1 rfl, le1 rfl, le1 rfl, le1 rfl, le1 rfl, le1 rfl, le1 rfl, trivial⟩ ⟨rfl, trivial⟩⟩
      dsimp only at h1 h2
      by_cases hce : c = i + 1
      · rw [hce]; exact hnext
      · exact hno c h1 (by omega) h3
  · have hi' : i = l.length := by have := of_decide_eq_false ht; omega
    have hf' := hend hi'
    rw [hf'] at hx
    refine k6 ?_; refine k2 ?_
    refine c_region ?_; refine l_neu (n_move rfl rfl) rfl ?_; refine l_neu (n_assign rfl rfl) rfl ?_; refine l_neu (n_assign rfl rfl) rfl ?_; refine l_nil ?_
    refine k1 ?_; refine k10 ?_
    exact ret_ret (ret2 rfl rfl rfl rfl rfl) (by rw [hg0, GrX.unique hx (groupTo_grx l m ctx l.length)])
end Go.Proofs.YtjjidificdmnmaaGreatDoor
namespace Go.Proofs.YtjjidificdmnmaaGreatDoor
open Go Go.AL
set_option maxRecDepth 100000
theorem ulines_met {gf : Fr} {ob : Obs} (l : List PatchLine) (k : UInt8) (ts : List Str) (hk : getO ob 701 = some (.spare l.length 2 36)) (hlen : l.length + ts.length ≤ 1073741824) :
    Met Tryz.prog 115 [.one (.buf 701 PatchLine 2 plineC l), .one (.p (.v (.int .u8 k.toNat))), .one (.p (.list Str 1 strC ts))] gf ob [701]
      (fun rs ob' => rs = [.one (.buf 701 PatchLine 2 plineC (l ++ putOf k ts))] ∧ ob' = (701, .spare (l ++ putOf k ts).length 2 36) :: Obs.forget 701 ob) := by
  refine Met.introH Tryz.func115 (by decide) rfl rfl rfl (fun hH => ?_)
  refine k2 ?_
  refine c_region ?_; refine l_neu (n_assign rfl rfl) rfl ?_; refine l_nil ?_
  refine k1 ?_; refine k2 ?_; refine k2 ?_
  refine c_region ?_; refine l_neu (n_move rfl rfl) rfl ?_; refine l_neu (n_len rfl (.pure _ _ _ _)) rfl ?_; refine l_neu (n_move rfl rfl) rfl ?_; refine l_nil ?_
  refine k1 ?_; refine k3 ?_
  refine c_while (X := Nat) (fun i => ([(0, .s (.one (.buf 701 PatchLine 2 plineC (l ++ putOf k (ts.take i))))), (1, .s (pByte k).s1), (9, sList Str 1 strC ts), (10, sInt ts.length), (11, sInt i)] ++ Fr.forget 701 gf, (701, .spare (l ++ putOf k (ts.take i)).length 2 36) :: Obs.forget 701 ob)) (fun i => i ≤ ts.length) (fun i => ts.length - i) 0 (Nat.zero_le _) ?_ ?_
  · have e : l ++ putOf k (ts.take 0) = l := by simp [putOf]
    rw [e]
    exact Sees.tailF 701 ⟨le1 rfl, le1 rfl, le1 rfl, le1 rfl, le1 rfl, trivial⟩ hH (by repeat (first | exact tail_refl | refine tail_cons rfl ?_)) hk
  intro i hi
  dsimp only at hi ⊢
  have hpl := putOf_len k (ts.take i)
  rw [List.length_take] at hpl
  refine k2 ?_
  refine c_region ?_; refine l_neu (n_lss rfl rfl) rfl ?_; refine l_nil ?_
  refine k1 ?_; refine k2 ?_
  refine c_cond rfl (fun ht => ?_) (fun ht => ?_)
  · have hlt : i < ts.length := by have := of_decide_eq_true ht; omega
    have hv : ts[i]? = some ts[i] := by simp [hlt]
    have hsucc := putOf_succ k ts i hlt
    refine k5 ?_; refine k1 ?_; refine k2 ?_; refine k3 ?_; refine k2 ?_
    refine c_region ?_; refine l_neu (n_indexAddr rfl (.pure _ _ _ _) rfl (by omega) hv) rfl ?_; refine l_neu (n_load_eref rfl rfl) rfl ?_; refine l_neu (n_assign rfl rfl) rfl ?_; refine l_nil ?_
    refine k1 ?_
    refine c_region ?_; refine l_neu (n_move rfl rfl) rfl ?_; refine l_neu (n_move rfl rfl) rfl ?_; refine l_neu (n_move rfl rfl) rfl ?_; refine l_neu (n_build rfl) rfl ?_; refine l_neu (n_buildSlice (c := plineC) (ys := [⟨k, ts[i]⟩]) (asm_cons rfl rfl rfl rfl asm_nil) rfl rfl rfl) rfl ?_; refine l_effv (e_append rfl rfl rfl (.pure _ _ _ _) (by (simp only [List.length_append, List.length_cons, List.length_nil]; omega)) rfl) rfl ?_; refine l_neu (n_assign rfl rfl) rfl ?_; refine l_nil ?_
    refine k4 ?_; refine k1 ?_
    refine c_region ?_; refine l_neu (n_add rfl rfl (by omega)) rfl ?_; refine l_neu (n_move rfl rfl) rfl ?_; refine l_nil ?_
    refine k1 ?_
    refine ⟨i + 1, hlt, by omega, ?_⟩
    rw [hsucc, ← List.append_assoc]
    exact Sees.tailed ⟨le1 rfl, le1 rfl, le1 rfl, le1 rfl, le1 rfl, trivial⟩ (high_forget hH) (by repeat (first | exact tail_refl | refine tail_cons rfl ?_ | refine tail_forget' _ ?_)) obs_step
  · have hi' : i = ts.length := by have := of_decide_eq_false ht; omega
    subst hi'
    rw [List.take_length]
    refine k6 ?_; refine k2 ?_
    refine c_region ?_; refine l_neu (n_move rfl rfl) rfl ?_; refine l_neu (n_assign rfl rfl) rfl ?_; refine l_nil ?_
    refine k1 ?_; refine k10 ?_
    exact met_ret (rets1 rfl rfl) (by repeat (first | exact tail_refl | refine tail_cons rfl ?_ | refine tail_forget _ ?_)) (fun _ _ h => h) ⟨rfl, rfl⟩
theorem ubuild_ok (l : List Change) (x y : List Str) (q : Hunk) (hsc : ScOk 0 0 l x.length y.length) (hq : HunkOk l x.length l.length q) (hxl : x.length ≤ 4096) (hyl : y.length ≤ 4096) (hll : l.length ≤ 4097) :
    FnOk Tryz.prog 74 [pHunk q, pChanges l, pStrs x, pStrs y] (fun rs => rs = [pPhunk (hunkOfG l x y q)]) := by
  obtain ⟨a, b, q1, q2, q3, q4, q5, q6, q7, q8, q9, q10⟩ := hq
  have hgb := hsc.get b q4
  obtain ⟨ds, hds⟩ : ∃ ds, ds = (l.drop a).take (b + 1 - a) := ⟨_, rfl⟩
  have hdl : ds.length = b + 1 - a := by rw [hds, List.length_take, List.length_drop]; omega
  have hdv : ∀ t, a + t ≤ b → ds[t]? = some (cAt l (a + t)) := by
    intro t ht
    rw [hds, List.getElem?_take_of_lt (by omega), List.getElem?_drop]
    exact cAt_get (by omega)
  have hslice : (l.drop q.First.toNat).take (q.Last.toNat - q.First.toNat) = ds := by
    rw [hds, q1, q2, show ((b : Int) + 1).toNat = b + 1 by omega, show ((a : Nat) : Int).toNat = a by omega]
  refine FnOk.intro Tryz.func74 (by decide) rfl rfl rfl rfl ?_
  refine k2 ?_
  refine c_region ?_; refine l_effv (f_box 4 rfl rfl rfl) rfl ?_; refine l_effv (f_alloc 8 rfl) rfl ?_; refine l_nil ?_
  refine k1 ?_; refine k2 ?_
  refine c_region ?_; refine l_neu (n_field_ref rfl) rfl ?_; refine l_neu (n_field_ref rfl) rfl ?_; refine l_neu (n_load_ref rfl rfl rfl) rfl ?_; refine l_neu (n_field_ref rfl) rfl ?_; refine l_neu (n_field_ref rfl) rfl ?_; refine l_neu (n_load_ref rfl rfl rfl) rfl ?_; refine l_neu (n_build rfl) rfl ?_; refine l_effv (f_alloc 9 rfl) rfl ?_; refine l_eff (e_store_ref TySz.out rfl rfl rfl rfl rfl rfl) ?_; refine l_nil ?_
  refine k1 ?_; refine k2 ?_
  refine c_sees (Sees.adoptB 701 PatchLine 2 plineC 36 (kb := 9) (o := 2) rfl rfl rfl) ?_
  refine c_region ?_; refine l_neu (n_field_ref rfl) rfl ?_; refine l_neu (n_field_ref rfl) rfl ?_; refine l_neu (n_load_ref rfl rfl rfl) rfl ?_; refine l_neu (n_assign rfl rfl) rfl ?_; refine l_nil ?_
  refine k1 ?_; refine k2 ?_; refine k2 ?_
  refine c_region ?_; refine l_neu (n_move rfl rfl) rfl ?_; refine l_neu (n_field_ref rfl) rfl ?_; refine l_neu (n_load_ref rfl rfl rfl) rfl ?_; refine l_neu (n_field_ref rfl) rfl ?_; refine l_neu (n_load_ref rfl rfl rfl) rfl ?_; refine l_neu (n_slice_lh rfl (.pure _ _ _ _) rfl rfl (by (first | (rw [q1]; omega) | (rw [q1, q2]; omega) | (rw [q2]; omega))) (by (first | (rw [q1]; omega) | (rw [q1, q2]; omega) | (rw [q2]; omega))) (by (first | (rw [q1]; omega) | (rw [q1, q2]; omega) | (rw [q2]; omega)))) rfl ?_; refine l_neu (n_len rfl (.pure _ _ _ _)) rfl ?_; refine l_neu (n_move rfl rfl) rfl ?_; refine l_nil ?_
  rw [hslice]
  refine k1 ?_; refine k3 ?_
  refine c_while (X := Nat) (fun t => ([(2, sList Str 1 strC x), (3, sList Str 1 strC y), (4, .s (.one (.ref 4 0))), (8, .s (.one (.ref 8 0))), (9, .s (.one (.ref 9 0))), (10, sInt (posTo l q.Old.From a t)), (28, sList Change 4 changeC ds), (29, sInt ds.length), (30, sInt t)], [(4, .box (pHunk q).s1.cells), (8, .box [.p (.v (.int .i64 0)), .p (.v (.int .i64 0)), .p (.v (.slice none 0 0))]), (9, .box [.p (.v (.int .i64 q.Old.From)), .p (.v (.int .i64 q.New.From)), .buf 701 PatchLine 2 plineC (madeTo l x y q.Old.From a t)]), (701, .spare (madeTo l x y q.Old.From a t).length 2 36)])) (fun t => a + t ≤ b + 1) (fun t => b + 1 - t) 0 (by omega) ?_ ?_
  · have e1 : posTo l q.Old.From a 0 = q.Old.From := if_pos rfl
    rw [e1]
    exact Sees.of ⟨le1 rfl, le1 rfl, le1 rfl, le1 rfl, le1 rfl, le1 rfl, le1 rfl, le1 rfl, le1 rfl, trivial⟩ ⟨rfl, rfl, rfl, rfl, trivial⟩
  intro t hat
  dsimp only at hat ⊢
  have hml := madeTo_len l x y q.Old.From a t
  have hml2 : (madeTo l x y q.Old.From a t).length ≤ 4097 * 12288 := Nat.le_trans hml (Nat.mul_le_mul (by omega) (by omega))
  refine k2 ?_
  refine c_region ?_; refine l_neu (n_lss rfl rfl) rfl ?_; refine l_nil ?_
  refine k1 ?_; refine k2 ?_
  refine c_cond rfl (fun ht => ?_) (fun ht => ?_)
  · have hlt2 : a + t ≤ b := by have : ((t : Nat) : Int) < ds.length := of_decide_eq_true ht; omega
    obtain ⟨c, hc⟩ : ∃ c, c = cAt l (a + t) := ⟨_, rfl⟩
    have hcv := hdv t hlt2
    rw [← hc] at hcv
    have hgc := hsc.get (a + t) (by omega)
    rw [← hc] at hgc
    obtain ⟨⟨g1, g2⟩, ⟨g3, g4⟩, ⟨g5, g6⟩, ⟨g7, g8⟩, g9, g10⟩ := hgc
    obtain ⟨i0, hi0⟩ : ∃ i0, i0 = posTo l q.Old.From a t := ⟨_, rfl⟩
    have hpos : 0 ≤ i0 ∧ i0 ≤ c.Old := by
      rw [hi0, hc]; unfold posTo endC
      split
      · rename_i h0; subst h0; exact ⟨q5, q6⟩
      · have h4 := hsc.next (a + t - 1) (by omega)
        have h5 := hsc.get (a + t - 1) (by omega)
        rw [show a + t - 1 + 1 = a + t by omega] at h4
        unfold in81 at h5; omega
    obtain ⟨ls, hls⟩ : ∃ ls, ls = madeTo l x y q.Old.From a t := ⟨_, rfl⟩
    obtain ⟨p1, hp1⟩ : ∃ p1, p1 = putOf 32 (sub x i0 c.Old) := ⟨_, rfl⟩
    obtain ⟨p2, hp2⟩ : ∃ p2, p2 = putOf 45 (sub x c.Old (endC c)) := ⟨_, rfl⟩
    obtain ⟨p3, hp3⟩ : ∃ p3, p3 = putOf 43 (sub y c.New (c.New + c.NewLen)) := ⟨_, rfl⟩
    have hsucc : madeTo l x y q.Old.From a (t + 1) = ls ++ p1 ++ p2 ++ p3 := by rw [hls, hp1, hp2, hp3, hi0, hc]; rfl
    have hps : posTo l q.Old.From a (t + 1) = endC c := by rw [posTo_succ, hc]
    have l1 := sub_len x i0 c.Old
    have l2 := sub_len x c.Old (endC c)
    have l3 := sub_len y c.New (c.New + c.NewLen)
    have m1 : p1.length = (sub x i0 c.Old).length := by rw [hp1, putOf_len]
    have m2 : p2.length = (sub x c.Old (endC c)).length := by rw [hp2, putOf_len]
    have hend : endC c = c.Old + c.OldLen := rfl
    rw [← hls] at hml2 ⊢
    rw [← hi0]
    refine k5 ?_; refine k1 ?_; refine k2 ?_; refine k3 ?_; refine k2 ?_
    refine c_region ?_; refine l_neu (n_indexAddr rfl (.pure _ _ _ _) rfl (by omega) hcv) rfl ?_; refine l_neu (n_loads_eref rfl rfl) rfl ?_; refine l_effv (f_alloc 12 rfl) rfl ?_; refine l_eff (e_store_ref TySz.out rfl rfl rfl rfl rfl rfl) ?_; refine l_nil ?_
    refine k1 ?_; refine k2 ?_
    refine c_region_turn 7 (by kernel_rfl) (by kernel_rfl) rfl ?_; refine d_neu (n_field_ref rfl) rfl rfl ?_; refine d_neu (n_load_ref rfl rfl rfl) rfl rfl ?_; refine d_neu (n_move rfl rfl) rfl rfl ?_; refine d_neu (n_move rfl rfl) rfl rfl ?_; refine d_neu (n_field_ref rfl) rfl rfl ?_; refine d_neu (n_load_ref rfl rfl rfl) rfl rfl ?_; refine d_neu (n_slice_lh rfl (.pure _ _ _ _) rfl rfl (by omega) (by omega) (by omega)) rfl rfl ?_; refine d_nil ?_; refine met_step (ulines_met ls 32 (sub x i0 c.Old) rfl (by omega)) rfl rfl rfl ?_; rintro _ _ ⟨rfl, rfl⟩; refine ⟨_, rfl, ?_⟩; refine d_neu (n_field_ref rfl) rfl rfl ?_; refine d_eff (e_store_ref TySz.out rfl rfl rfl rfl rfl rfl) rfl ?_; refine d_nil ?_
    rw [← hp1]
    refine k1 ?_; refine k2 ?_
    refine c_region ?_; refine l_neu (n_field_ref rfl) rfl ?_; refine l_neu (n_load_ref rfl rfl rfl) rfl ?_; refine l_neu (n_field_ref rfl) rfl ?_; refine l_neu (n_load_ref rfl rfl rfl) rfl ?_; refine l_neu (n_add rfl rfl (by omega)) rfl ?_; refine l_neu (n_assign rfl rfl) rfl ?_; refine l_nil ?_
    rw [show c.Old + c.OldLen = endC c from rfl]
    refine k1 ?_; refine k2 ?_
    refine c_region_turn 7 (by kernel_rfl) (by kernel_rfl) rfl ?_; refine d_neu (n_field_ref rfl) rfl rfl ?_; refine d_neu (n_load_ref rfl rfl rfl) rfl rfl ?_; refine d_neu (n_move rfl rfl) rfl rfl ?_; refine d_neu (n_field_ref rfl) rfl rfl ?_; refine d_neu (n_load_ref rfl rfl rfl) rfl rfl ?_; refine d_neu (n_move rfl rfl) rfl rfl ?_; refine d_neu (n_slice_lh rfl (.pure _ _ _ _) rfl rfl (by omega) (by omega) (by omega)) rfl rfl ?_; refine d_nil ?_; refine met_step (ulines_met (ls ++ p1) 45 (sub x c.Old (endC c)) rfl (by simp only [List.length_append]; omega)) rfl rfl rfl ?_; rintro _ _ ⟨rfl, rfl⟩; refine ⟨_, rfl, ?_⟩; refine d_neu (n_field_ref rfl) rfl rfl ?_; refine d_eff (e_store_ref TySz.out rfl rfl rfl rfl rfl rfl) rfl ?_; refine d_nil ?_
    rw [← hp2]
    refine k1 ?_
    refine c_region_turn 11 (by kernel_rfl) (by kernel_rfl) rfl ?_; refine d_neu (n_field_ref rfl) rfl rfl ?_; refine d_neu (n_load_ref rfl rfl rfl) rfl rfl ?_; refine d_neu (n_move rfl rfl) rfl rfl ?_; refine d_neu (n_field_ref rfl) rfl rfl ?_; refine d_neu (n_load_ref rfl rfl rfl) rfl rfl ?_; refine d_neu (n_field_ref rfl) rfl rfl ?_; refine d_neu (n_load_ref rfl rfl rfl) rfl rfl ?_; refine d_neu (n_field_ref rfl) rfl rfl ?_; refine d_neu (n_load_ref rfl rfl rfl) rfl rfl ?_; refine d_neu (n_add rfl rfl (by omega)) rfl rfl ?_; refine d_neu (n_slice_lh rfl (.pure _ _ _ _) rfl rfl (by omega) (by omega) (by omega)) rfl rfl ?_; refine d_nil ?_; refine met_step (ulines_met (ls ++ p1 ++ p2) 43 (sub y c.New (c.New + c.NewLen)) rfl (by simp only [List.length_append]; omega)) rfl rfl rfl ?_; rintro _ _ ⟨rfl, rfl⟩; refine ⟨_, rfl, ?_⟩; refine d_neu (n_field_ref rfl) rfl rfl ?_; refine d_eff (e_store_ref TySz.out rfl rfl rfl rfl rfl rfl) rfl ?_; refine d_nil ?_
    rw [← hp3]
    refine k4 ?_; refine k1 ?_
    refine c_region ?_; refine l_neu (n_add rfl rfl (by omega)) rfl ?_; refine l_neu (n_move rfl rfl) rfl ?_; refine l_nil ?_
    refine k1 ?_
    refine ⟨t + 1, by omega, by omega, ?_⟩
    rw [hsucc, hps]
    exact Sees.of ⟨le1 rfl, le1 rfl, le1 rfl, le1 rfl, le1 rfl, le1 rfl, le1 rfl, le1 rfl, le1 rfl, trivial⟩ ⟨rfl, rfl, rfl, rfl, trivial⟩
  · have htb : a + t = b + 1 := by
      have h0 : ¬ ((t : Nat) : Int) < ds.length := of_decide_eq_false ht
      omega
    obtain ⟨i0, hi0⟩ : ∃ i0, i0 = posTo l q.Old.From a t := ⟨_, rfl⟩
    have hib : i0 = (cAt l b).Old + (cAt l b).OldLen := by
      rw [hi0]; unfold posTo endC
      rw [if_neg (by omega), show a + t - 1 = b by omega]
    unfold in81 at hgb
    obtain ⟨ls, hls⟩ : ∃ ls, ls = madeTo l x y q.Old.From a t := ⟨_, rfl⟩
    have hG : hunkOfG l x y q = ⟨q.Old.From, q.New.From, ls ++ putOf 32 (sub x i0 q.Old.To)⟩ := by
      rw [hunkOfG, q1, q2, show ((a : Nat) : Int).toNat = a by omega, show ((b : Int) + 1).toNat - a = t by omega, ← hls, ← hi0]
    have l1 := sub_len x i0 q.Old.To
    rw [← hls] at hml2 ⊢
    rw [← hi0]
    refine k6 ?_; refine k2 ?_
    refine c_region_turn 8 (by kernel_rfl) (by kernel_rfl) rfl ?_; refine d_neu (n_field_ref rfl) rfl rfl ?_; refine d_neu (n_load_ref rfl rfl rfl) rfl rfl ?_; refine d_neu (n_move rfl rfl) rfl rfl ?_; refine d_neu (n_move rfl rfl) rfl rfl ?_; refine d_neu (n_field_ref rfl) rfl rfl ?_; refine d_neu (n_field_ref rfl) rfl rfl ?_; refine d_neu (n_load_ref rfl rfl rfl) rfl rfl ?_; refine d_neu (n_slice_lh rfl (.pure _ _ _ _) rfl rfl (by omega) (by omega) (by omega)) rfl rfl ?_; refine d_nil ?_; refine met_step (ulines_met ls 32 (sub x i0 q.Old.To) rfl (by omega)) rfl rfl rfl ?_; rintro _ _ ⟨rfl, rfl⟩; refine ⟨_, rfl, ?_⟩; refine d_neu (n_field_ref rfl) rfl rfl ?_; refine d_eff (e_store_ref TySz.out rfl rfl rfl rfl rfl rfl) rfl ?_; refine d_nil ?_
    refine k1 ?_; refine k2 ?_
    refine c_region ?_; refine l_neu (n_loads_ref rfl rfl rfl) rfl ?_; refine l_eff (e_store_ref TySz.out rfl rfl rfl rfl rfl rfl) ?_; refine l_nil ?_
    refine k1 ?_; refine k10 ?_
    exact ret_ret (rs := [pPhunk (hunkOfG l x y q)]) (by rw [hG]; exact retc rfl rfl rfl rfl rfl) rfl
end Go.Proofs.YtjjidificdmnmaaGreatDoor
namespace Go.Proofs.YtjjidificdmnmaaGreatDoor
open Go Go.AL
set_option maxRecDepth 100000
theorem tid_old {gf : Fr} {ob : Obs} (names : List Str) (s : Str) (hs : s ∈ names) (h0 : getO ob 710 = some (.box [.mut 711, .buf 712 Str 1 strC names])) (h1 : getO ob 711 = some (.map Str strK (kvOf names 0))) :
    Met Tryz.prog 150 [.one (.ref 710 0), .one (.p (.v (.string ⟨s.toArray⟩)))] gf ob [] (fun rs ob' => rs = [.one (.p (.v (.int .i64 (placeOf names s 0))))] ∧ ob' = ob) := by
  have hg := kv_get_in s names 0 hs
  refine Met.intro Tryz.func150 (by decide) rfl rfl rfl ?_
  refine k2 ?_
  refine c_region ?_; refine l_neu (n_assign rfl rfl) rfl ?_; refine l_nil ?_
  refine k1 ?_; refine k2 ?_
  refine c_region ?_; refine l_neu (n_move rfl rfl) rfl ?_; refine l_neu (n_nilCheck_ref rfl) rfl ?_; refine l_neu (n_field_ref rfl) rfl ?_; refine l_neu (n_load_ref rfl h0 rfl) rfl ?_; refine l_neu (n_move rfl rfl) rfl ?_; refine l_neu (n_lookup (s) (r := some (.v (.int .i64 (placeOf names s 0)))) rfl h1 rfl strK_key strK_inj (hg)) rfl ?_; refine l_neu (n_move rfl rfl) rfl ?_; refine l_neu (n_extract rfl rfl) rfl ?_; refine l_neu (n_extract rfl rfl) rfl ?_; refine l_neu (n_assign rfl rfl) rfl ?_; refine l_neu (n_assign rfl rfl) rfl ?_; refine l_nil ?_
  refine k1 ?_; refine k2 ?_; refine k2 ?_
  refine c_region ?_; refine l_neu (n_move rfl rfl) rfl ?_; refine l_neu (n_not rfl) rfl ?_; refine l_nil ?_
  refine k1 ?_
  refine c_cond rfl (fun ht => ?_) (fun ht => ?_)
  · cases ht
  refine k5 ?_; refine k1 ?_; refine k2 ?_
  refine c_region ?_; refine l_neu (n_move rfl rfl) rfl ?_; refine l_neu (n_assign rfl rfl) rfl ?_; refine l_nil ?_
  refine k1 ?_; refine k10 ?_
  exact met_ret (rets1 rfl rfl) (by repeat (first | exact tail_refl | refine tail_cons rfl ?_ | refine tail_forget _ ?_)) (fun _ _ h => h) ⟨rfl, rfl⟩
theorem tid_new {gf : Fr} {ob : Obs} (names : List Str) (s : Str) (hs : s ∉ names) (hl : names.length ≤ 1073741823) (h0 : getO ob 710 = some (.box [.mut 711, .buf 712 Str 1 strC names])) (h1 : getO ob 711 = some (.map Str strK (kvOf names 0)))
    (h2 : getO ob 712 = some (.spare names.length 1 9)) :
    Met Tryz.prog 150 [.one (.ref 710 0), .one (.p (.v (.string ⟨s.toArray⟩)))] gf ob [712] (fun rs ob' => rs = [.one (.p (.v (.int .i64 names.length)))] ∧ ob' = (710, .box [.mut 711, .buf 712 Str 1 strC (names ++ [s])]) :: (712, .spare (names ++ [s]).length 1 9) :: Obs.forget 712 ((711, .map Str strK (kvOf names 0 ++ [(s, .v (.int .i64 names.length))])) :: ob)) := by
  have hg := kv_get_out s names 0 hs
  refine Met.intro Tryz.func150 (by decide) rfl rfl rfl ?_
  refine k2 ?_
  refine c_region ?_; refine l_neu (n_assign rfl rfl) rfl ?_; refine l_nil ?_
  refine k1 ?_; refine k2 ?_
  refine c_region ?_; refine l_neu (n_move rfl rfl) rfl ?_; refine l_neu (n_nilCheck_ref rfl) rfl ?_; refine l_neu (n_field_ref rfl) rfl ?_; refine l_neu (n_load_ref rfl h0 rfl) rfl ?_; refine l_neu (n_move rfl rfl) rfl ?_; refine l_neu (n_lookup (s) (r := none) rfl h1 rfl strK_key strK_inj (hg)) rfl ?_; refine l_neu (n_move rfl rfl) rfl ?_; refine l_neu (n_extract rfl rfl) rfl ?_; refine l_neu (n_extract rfl rfl) rfl ?_; refine l_neu (n_assign rfl rfl) rfl ?_; refine l_neu (n_assign rfl rfl) rfl ?_; refine l_nil ?_
  refine k1 ?_; refine k2 ?_; refine k2 ?_
  refine c_region ?_; refine l_neu (n_move rfl rfl) rfl ?_; refine l_neu (n_not rfl) rfl ?_; refine l_nil ?_
  refine k1 ?_
  refine c_cond rfl (fun ht => ?_) (fun ht => ?_)
  · refine k2 ?_
    refine c_region ?_; refine l_neu (n_move rfl rfl) rfl ?_; refine l_neu (n_nilCheck_ref rfl) rfl ?_; refine l_neu (n_field_ref rfl) rfl ?_; refine l_neu (n_load_ref rfl h0 rfl) rfl ?_; refine l_neu (n_len rfl (.buf _ _ _ _ _)) rfl ?_; refine l_neu (n_assign rfl rfl) rfl ?_; refine l_nil ?_
    refine k1 ?_; refine k2 ?_
    refine c_region ?_; refine l_neu (n_move rfl rfl) rfl ?_; refine l_neu (n_nilCheck_ref rfl) rfl ?_; refine l_neu (n_field_ref rfl) rfl ?_; refine l_neu (n_load_ref rfl h0 rfl) rfl ?_; refine l_neu (n_move rfl rfl) rfl ?_; refine l_neu (n_move rfl rfl) rfl ?_; refine l_eff (e_mapNew (s) rfl h1 rfl rfl rfl strK_key strK_inj (hg)) ?_; refine l_nil ?_
    refine k1 ?_
    have h0' : getO ((711, Ob.map Str strK (kvOf names 0 ++ [(s, .v (.int .i64 names.length))])) :: ob) 710 = some (.box [.mut 711, .buf 712 Str 1 strC names]) := by rw [getO_cons_other (by decide)]; exact h0
    have h2' : getO ((711, Ob.map Str strK (kvOf names 0 ++ [(s, .v (.int .i64 names.length))])) :: ob) 712 = some (.spare names.length 1 9) := by rw [getO_cons_other (by decide)]; exact h2
    have h0'' : getO ((712, Ob.spare (names ++ [s]).length 1 9) :: Obs.forget 712 ((711, Ob.map Str strK (kvOf names 0 ++ [(s, .v (.int .i64 names.length))])) :: ob)) 710 = some (.box [.mut 711, .p (.list Str 1 strC names)]) := by
      rw [getO_cons_other (by decide), getO_forget, h0']; rfl
    refine c_region ?_; refine l_neu (n_move rfl rfl) rfl ?_; refine l_neu (n_move rfl rfl) rfl ?_; refine l_neu (n_nilCheck_ref rfl) rfl ?_; refine l_neu (n_field_ref rfl) rfl ?_; refine l_neu (n_load_ref rfl h0' rfl) rfl ?_; refine l_neu (n_move rfl rfl) rfl ?_; refine l_neu (n_buildSlice (c := strC) (ys := [s]) (asm_cons rfl rfl rfl rfl asm_nil) rfl rfl rfl) rfl ?_; refine l_effv (e_append rfl h2' rfl (.pure _ _ _ _) (by (simp only [List.length_cons, List.length_nil]; omega)) rfl) rfl ?_; refine l_neu (n_nilCheck_ref rfl) rfl ?_; refine l_neu (n_field_ref rfl) rfl ?_; refine l_eff (e_store_ref TySz.out rfl h0'' rfl rfl rfl rfl) ?_; refine l_nil ?_
    refine k1 ?_; refine k2 ?_
    refine c_region ?_; refine l_neu (n_move rfl rfl) rfl ?_; refine l_neu (n_assign rfl rfl) rfl ?_; refine l_nil ?_
    refine k1 ?_; refine k10 ?_
    exact met_ret (rets1 rfl rfl) (by repeat (first | exact tail_refl | refine tail_cons rfl ?_ | refine tail_forget _ ?_)) (fun _ _ h => h) ⟨rfl, rfl⟩
  · cases ht
theorem rowsN_free (files : List (List Str)) (i m : Nat) : (rowsN files i).all (TC.free m) = true := by
  rw [List.all_eq_true]
  intro t ht
  unfold rowsN at ht
  obtain ⟨r, _, rfl⟩ := List.mem_map.1 ht
  split <;> rfl
theorem rows_back {files : List (List Str)} {i : Nat} (b x : TC) (m : Nat) : (((rowsN files i).set i b).map (TC.forget m)).set i x = (rowsN files i).set i x := by
  have e1 : (rowsN files i).map (TC.forget m) = rowsN files i := by
    unfold rowsN
    rw [List.map_map]
    apply List.map_congr_left
    intro r _
    simp only [Function.comp]
    split <;> rfl
  rw [List.map_set, e1, List.set_set]
theorem rows_back2 {files : List (List Str)} {i : Nat} (b x : TC) (m m' : Nat) : ((((rowsN files i).set i b).map (TC.forget m)).map (TC.forget m')).set i x = (rowsN files i).set i x := by
  have e1 : ∀ m, (rowsN files i).map (TC.forget m) = rowsN files i := by
    intro m
    unfold rowsN
    rw [List.map_map]
    apply List.map_congr_left
    intro r _
    simp only [Function.comp]
    split <;> rfl
  rw [List.map_set, e1, List.map_set, e1, List.set_set]
theorem number_ok (files : List (List Str)) (hn : files.length ≤ 1048576) (hl : files.flatten.length ≤ 536870911) : FnOk Tryz.prog 106 [pStrss files] (fun rs => rs = [pIntss (files.map (idsOf (namesOf files))), pStrs (namesOf files)]) := by
  refine FnOk.intro Tryz.func106 (by decide) rfl rfl rfl rfl ?_
  refine k2 ?_
  refine c_region ?_; refine l_neu (n_assign rfl rfl) rfl ?_; refine l_neu (n_assign rfl rfl) rfl ?_; refine l_nil ?_
  refine k1 ?_; refine k2 ?_
  refine c_region ?_; refine l_effv (f_makeMap 711 Str strK rfl) rfl ?_; refine l_neu (n_build rfl) rfl ?_; refine l_effv (f_box 710 rfl rfl rfl) rfl ?_; refine l_neu (n_assign rfl rfl) rfl ?_; refine l_nil ?_
  refine k1 ?_; refine k2 ?_
  refine c_sees (Sees.adoptB 712 Str 1 strC 9 (kb := 710) (o := 1) rfl rfl rfl) ?_
  refine c_region ?_; refine l_neu (n_move rfl rfl) rfl ?_; refine l_neu (n_len rfl (.pure _ _ _ _)) rfl ?_; refine l_effv (f_makeZ 20 Unit (fun _ _ => .v (.slice none 0 0)) () rfl rfl (by omega) (by omega) (fun _ => by first | exact ⟨⟨rfl, rfl⟩, trivial⟩ | exact ⟨rep_nil _ _ _, trivial⟩) (by first | rfl | (simp [frFree, obFree, Ob.free, SV.free, S1.free, TC.free] <;> rfl))) rfl ?_; refine l_neu (n_assign rfl rfl) rfl ?_; refine l_nil ?_
  refine k1 ?_; refine k2 ?_; refine k2 ?_
  refine c_sees (Sees.toT1 20 rfl) ?_
  have hz : ((List.replicate ((files.length : Nat) : Int).toNat ()).map fun x => TC.p ((fun (_ : Unit) (_ : Nat) => Cell.v (.slice none 0 0)) x 0)) = rowsN files 0 := by
    rw [Int.toNat_natCast, ← rowsN_zero]; simp
  have hz2 : (List.replicate ((files.length : Nat) : Int).toNat ()).length = files.length := by simp
  rw [hz, hz2]
  refine c_region ?_; refine l_neu (n_move rfl rfl) rfl ?_; refine l_neu (n_len rfl (.pure _ _ _ _)) rfl ?_; refine l_neu (n_move rfl rfl) rfl ?_; refine l_nil ?_
  refine k1 ?_; refine k3 ?_
  refine c_while (X := Nat) (fun i => ([(4, .s (.one (.ref 710 0))), (5, .s (.one (.mut 20))), (16, sList (List Str) 1 strsC files), (17, sInt files.length), (18, sInt i)], [(710, .box [.mut 711, .buf 712 Str 1 strC (namesTo files i 0)]), (711, .map Str strK (kvOf (namesTo files i 0) 0)), (712, .spare (namesTo files i 0).length 1 9), (20, .tarr files.length 1 (rowsN files i))])) (fun i => i ≤ files.length) (fun i => files.length - i) 0 (Nat.zero_le _) ?_ ?_
  · rw [show namesTo files 0 0 = [] from rfl]
    exact Sees.of ⟨le1 rfl, le1 rfl, le1 rfl, le1 rfl, le1 rfl, trivial⟩ ⟨rfl, rfl, rfl, rfl, trivial⟩
  intro i hi
  dsimp only at hi ⊢
  refine k2 ?_
  refine c_region ?_; refine l_neu (n_lss rfl rfl) rfl ?_; refine l_nil ?_
  refine k1 ?_; refine k2 ?_
  refine c_cond rfl (fun ht => ?_) (fun ht => ?_)
  · have hlt : i < files.length := by have := of_decide_eq_true ht; omega
    obtain ⟨f, hf⟩ : ∃ f, f = files.getD i [] := ⟨_, rfl⟩
    have hv : files[i]? = some f := by rw [hf]; simp [hlt]
    have hfl : f.length ≤ files.flatten.length := by
      have h1 : f ∈ files := List.mem_of_getElem? hv
      have : ∀ (fs : List (List Str)), f ∈ fs → f.length ≤ fs.flatten.length := by
        intro fs
        induction fs with
        | nil => intro h; simp at h
        | cons x r ih =>
          intro h
          simp only [List.flatten_cons, List.length_append]
          rcases List.mem_cons.1 h with rfl | h
          · omega
          · have := ih h; omega
      exact this files h1
    have hrl : (rowsN files i).length = files.length := by simp [rowsN]
    refine k5 ?_; refine k1 ?_; refine k2 ?_; refine k3 ?_; refine k2 ?_
    refine c_region ?_; refine l_neu (n_move rfl rfl) rfl ?_; refine l_neu (n_indexAddr rfl (.pure _ _ _ _) rfl (by omega) hv) rfl ?_; refine l_neu (n_load_eref rfl rfl) rfl ?_; refine l_neu (n_assign rfl rfl) rfl ?_; refine l_neu (n_assign rfl rfl) rfl ?_; refine l_nil ?_
    refine k1 ?_; refine k2 ?_
    refine c_region ?_; refine l_neu (n_move rfl rfl) rfl ?_; refine l_neu (n_len rfl (.pure _ _ _ _)) rfl ?_; refine l_neu (n_move rfl rfl) rfl ?_; refine l_nil ?_
    refine k1 ?_; refine k3 ?_
    refine c_sees (Sees.adoptE 713 Int 1 intC 3 (kb := 20) (o := i) rfl (rowsN_get hlt) (by simp [frFree, obFree, Ob.free, SV.free, S1.free, TC.free, rowsN_free]; repeat' (first | rfl | constructor))) ?_
    refine c_while (X := Nat) (fun j => ([(4, .s (.one (.ref 710 0))), (5, .s (.one (.mut 20))), (6, sInt i), (16, sList (List Str) 1 strsC files), (17, sInt files.length), (18, sInt i), (23, sList Str 1 strC f), (24, sInt f.length), (25, sInt j)], [(20, .tarr files.length 1 ((rowsN files i).set i (.buf 713 Int 1 intC (idsOf (namesOf files) (f.take j))))), (710, .box [.mut 711, .buf 712 Str 1 strC (namesTo files i j)]), (711, .map Str strK (kvOf (namesTo files i j) 0)), (712, .spare (namesTo files i j).length 1 9), (713, .spare (idsOf (namesOf files) (f.take j)).length 1 3)])) (fun j => j ≤ f.length) (fun j => f.length - j) 0 (Nat.zero_le _) ?_ ?_
    · exact Sees.of ⟨le1 rfl, le1 rfl, le1 rfl, le1 rfl, le1 rfl, le1 rfl, le1 rfl, le1 rfl, le1 rfl, trivial⟩ ⟨rfl, rfl, rfl, rfl, rfl, trivial⟩
    intro j hj
    dsimp only at hj ⊢
    refine k2 ?_
    refine c_region ?_; refine l_neu (n_lss rfl rfl) rfl ?_; refine l_nil ?_
    refine k1 ?_; refine k2 ?_
    refine c_cond rfl (fun ht => ?_) (fun ht => ?_)
    · have hlt2 : j < f.length := by have := of_decide_eq_true ht; omega
      obtain ⟨s, hs⟩ : ∃ s, s = f[j] := ⟨_, rfl⟩
      have hvs : f[j]? = some s := by rw [hs]; simp [hlt2]
      have hstep := namesTo_step files i j s (by rw [← hf]; exact hvs)
      obtain ⟨names, hnm⟩ : ∃ names, names = namesTo files i j := ⟨_, rfl⟩
      have hnl := namesTo_length files i j
      obtain ⟨rest, hrest⟩ := namesTo_sub files i (j + 1)
      obtain ⟨ids, hids⟩ : ∃ ids, ids = idsOf (namesOf files) (f.take j) := ⟨_, rfl⟩
      have hil : ids.length = j := by rw [hids]; simp [idsOf]; omega
      have hnext : idsOf (namesOf files) (f.take (j + 1)) = ids ++ [placeOf (namesOf files) s 0] := by
        rw [hids, List.take_succ_eq_append_getElem hlt2, ← hs]; unfold idsOf; rw [List.map_append]; rfl
      rw [hstep] at hrest
      rw [← hnm] at hstep hnl hrest ⊢
      rw [← hids]
      have hTi : ((rowsN files i).set i (.buf 713 Int 1 intC ids))[((i : Nat) : Int).toNat]? = some (.buf 713 Int 1 intC ids) := by
        rw [Int.toNat_natCast, List.getElem?_set_self (by rw [hrl]; omega)]
      have hTi2 : (((rowsN files i).set i (.buf 713 Int 1 intC ids)).map (TC.forget 712))[((i : Nat) : Int).toNat]? = some (.buf 713 Int 1 intC ids) := by
        rw [List.getElem?_map, hTi]; rfl
      refine k5 ?_; refine k1 ?_; refine k2 ?_; refine k3 ?_; refine k2 ?_
      refine c_region ?_; refine l_neu (n_indexAddr rfl (.pure _ _ _ _) rfl (by omega) hvs) rfl ?_; refine l_neu (n_load_eref rfl rfl) rfl ?_; refine l_neu (n_assign rfl rfl) rfl ?_; refine l_nil ?_
      by_cases hmem : s ∈ names
      · have hns : namesStep names s = names := by unfold namesStep; rw [if_pos hmem]
        rw [hns] at hstep hrest
        have hpl : placeOf (namesOf files) s 0 = placeOf names s 0 := by rw [hrest]; exact placeOf_app s rest names 0 hmem
        refine then_normal ?_
        refine c_cut ((9, sStr s) :: [(4, .s (.one (.ref 710 0))), (5, .s (.one (.mut 20))), (6, sInt i), (16, sList (List Str) 1 strsC files), (17, sInt files.length), (18, sInt i), (23, sList Str 1 strC f), (24, sInt f.length), (25, sInt j)]) [(20, .tarr files.length 1 ((rowsN files i).set i (.buf 713 Int 1 intC ids))), (710, .box [.mut 711, .buf 712 Str 1 strC names]), (711, .map Str strK (kvOf names 0)), (712, .spare names.length 1 9), (713, .spare ids.length 1 3)] (Sees.of ⟨le1 rfl, le1 rfl, le1 rfl, le1 rfl, le1 rfl, le1 rfl, le1 rfl, le1 rfl, le1 rfl, le1 rfl, trivial⟩ ⟨rfl, rfl, rfl, rfl, rfl, trivial⟩) ?_
        refine c_region_ord [12, 10, 8] [[], [8], [10, 8], [12, 10, 8]] [(8, ([], [])), (10, ([713], [34])), (12, ([], []))] [(0, []), (1, []), (2, []), (3, []), (4, []), (5, []), (6, []), (7, []), (8, []), (9, [8]), (10, [8]), (11, [10, 8]), (12, [10, 8])] [(0, [8]), (0, [10, 8]), (1, [8]), (1, [10, 8]), (2, [8]), (3, [8]), (4, [8]), (5, [8])] (by kernel_rfl) (by kernel_rfl) ?_; refine w_neu rfl rfl rfl rfl rfl (n_move rfl rfl) ?_; refine w_neu rfl rfl rfl rfl rfl (n_move rfl rfl) ?_; refine w_neu rfl rfl rfl rfl rfl (n_move rfl rfl) ?_; refine w_neu rfl rfl rfl rfl rfl (n_move rfl rfl) ?_; refine w_neu rfl rfl rfl rfl rfl (n_indexAddr_mutT rfl rfl rfl (by omega) (by omega)) ?_; refine w_neu rfl rfl rfl rfl rfl (n_load_mrefT1 rfl rfl (by first | exact hTi | exact hTi2)) ?_; refine w_neu rfl rfl rfl rfl rfl (n_move rfl rfl) ?_; refine w_neu rfl rfl rfl rfl rfl (n_move rfl rfl) ?_; refine w_eff rfl rfl rfl rfl rfl (r_met (fun gf => tid_old names s hmem rfl rfl) rfl rfl) rfl ?_; refine w_neu rfl rfl rfl rfl rfl (n_buildSlice (c := intC) (ys := [placeOf names s 0]) (asm_cons rfl rfl rfl rfl asm_nil) rfl rfl rfl) ?_; refine w_eff rfl rfl rfl rfl rfl (r_turn (fun frc hU => e_append (opvU hU rfl) rfl (opvU hU rfl) (.pure _ _ _ _) (by (simp only [List.length_cons, List.length_nil]; omega)) rfl)) rfl ?_; refine w_neu rfl rfl rfl rfl rfl (n_indexAddr_mutT rfl rfl rfl (by omega) (by omega)) ?_; refine w_eff rfl rfl rfl rfl rfl (r_eff (fun frc hU => e_store_mrefT1 TySz.out (opvU hU rfl) rfl (by (simp; omega)) (opvU hU rfl) rfl)) rfl ?_; refine w_nil rfl rfl ?_ ?_
        · refine x_neu rfl rfl rfl rfl rfl (n_move rfl rfl) ?_; refine x_neu rfl rfl rfl rfl rfl (n_move rfl rfl) ?_; refine x_neu rfl rfl rfl rfl rfl (n_move rfl rfl) ?_; refine x_neu rfl rfl rfl rfl rfl (n_move rfl rfl) ?_; refine x_neu rfl rfl rfl rfl rfl (n_move rfl rfl) ?_; refine x_neu rfl rfl rfl rfl rfl (n_move rfl rfl) ?_; refine x_neu rfl rfl rfl rfl rfl (n_indexAddr_mutT rfl rfl rfl (by omega) (by omega)) ?_; refine x_neu rfl rfl rfl rfl rfl (n_load_mrefT1 rfl rfl (by first | exact hTi | exact hTi2)) ?_; exact x_nil
        refine c_cut [(4, .s (.one (.ref 710 0))), (5, .s (.one (.mut 20))), (6, sInt i), (16, sList (List Str) 1 strsC files), (17, sInt files.length), (18, sInt i), (23, sList Str 1 strC f), (24, sInt f.length), (25, sInt j)] [(20, .tarr files.length 1 ((rowsN files i).set i (.buf 713 Int 1 intC (ids ++ [placeOf names s 0])))), (710, .box [.mut 711, .buf 712 Str 1 strC (names)]), (711, .map Str strK (kvOf (names) 0)), (712, .spare (names).length 1 9), (713, .spare (ids ++ [placeOf names s 0]).length 1 3)] (by rw [Int.toNat_natCast i, rows_back]; exact Sees.of ⟨le1 rfl, le1 rfl, le1 rfl, le1 rfl, le1 rfl, le1 rfl, le1 rfl, le1 rfl, le1 rfl, trivial⟩ ⟨rfl, rfl, rfl, rfl, rfl, trivial⟩) ?_
        refine c_region ?_; refine l_neu (n_add rfl rfl (by omega)) rfl ?_; refine l_neu (n_move rfl rfl) rfl ?_; refine l_nil ?_
        refine k1 ?_
        exact ⟨j + 1, hlt2, by omega, by rw [hstep, hnext, hpl]; exact Sees.of ⟨le1 rfl, le1 rfl, le1 rfl, le1 rfl, le1 rfl, le1 rfl, le1 rfl, le1 rfl, le1 rfl, trivial⟩ ⟨rfl, rfl, rfl, rfl, rfl, trivial⟩⟩
      · refine then_normal ?_
        have hns : namesStep names s = names ++ [s] := by unfold namesStep; rw [if_neg hmem]
        rw [hns] at hstep hrest
        have hkv : kvOf (names ++ [s]) 0 = kvOf names 0 ++ [(s, .v (.int .i64 (names.length : Int)))] := by rw [kvOf_snoc]; simp only [Int.zero_add]
        have hpl : placeOf (namesOf files) s 0 = names.length := by
          rw [hrest, placeOf_app s rest (names ++ [s]) 0 (by simp), placeOf_new s names 0 hmem]; omega
        refine c_cut ((9, sStr s) :: [(4, .s (.one (.ref 710 0))), (5, .s (.one (.mut 20))), (6, sInt i), (16, sList (List Str) 1 strsC files), (17, sInt files.length), (18, sInt i), (23, sList Str 1 strC f), (24, sInt f.length), (25, sInt j)]) [(20, .tarr files.length 1 ((rowsN files i).set i (.buf 713 Int 1 intC (ids)))), (710, .box [.mut 711, .buf 712 Str 1 strC (names)]), (711, .map Str strK (kvOf (names) 0)), (712, .spare (names).length 1 9), (713, .spare (ids).length 1 3)] (Sees.of ⟨le1 rfl, le1 rfl, le1 rfl, le1 rfl, le1 rfl, le1 rfl, le1 rfl, le1 rfl, le1 rfl, le1 rfl, trivial⟩ ⟨rfl, rfl, rfl, rfl, rfl, trivial⟩) ?_
        refine c_region_ord [12, 10, 8] [[], [8], [10, 8], [12, 10, 8]] [(8, ([712], [])), (10, ([713], [34])), (12, ([], []))] [(0, []), (1, []), (2, []), (3, []), (4, []), (5, []), (6, []), (7, []), (8, []), (9, [8]), (10, [8]), (11, [10, 8]), (12, [10, 8])] [(0, [8]), (0, [10, 8]), (1, [8]), (1, [10, 8]), (2, [8]), (3, [8]), (4, [8]), (5, [8])] (by kernel_rfl) (by kernel_rfl) ?_; refine w_neu rfl rfl rfl rfl rfl (n_move rfl rfl) ?_; refine w_neu rfl rfl rfl rfl rfl (n_move rfl rfl) ?_; refine w_neu rfl rfl rfl rfl rfl (n_move rfl rfl) ?_; refine w_neu rfl rfl rfl rfl rfl (n_move rfl rfl) ?_; refine w_neu rfl rfl rfl rfl rfl (n_indexAddr_mutT rfl rfl rfl (by omega) (by omega)) ?_; refine w_neu rfl rfl rfl rfl rfl (n_load_mrefT1 rfl rfl (by first | exact hTi | exact hTi2)) ?_; refine w_neu rfl rfl rfl rfl rfl (n_move rfl rfl) ?_; refine w_neu rfl rfl rfl rfl rfl (n_move rfl rfl) ?_; refine w_eff rfl rfl rfl rfl rfl (r_met (fun gf => tid_new names s hmem (by omega) rfl rfl rfl) rfl rfl) rfl ?_; refine w_neu rfl rfl rfl rfl rfl (n_buildSlice (c := intC) (ys := [(names.length : Int)]) (asm_cons rfl rfl rfl rfl asm_nil) rfl rfl rfl) ?_; refine w_eff rfl rfl rfl rfl rfl (r_turn (fun frc hU => e_append (opvU hU rfl) rfl (opvU hU rfl) (.pure _ _ _ _) (by (simp only [List.length_cons, List.length_nil]; omega)) rfl)) rfl ?_; refine w_neu rfl rfl rfl rfl rfl (n_indexAddr_mutT rfl rfl rfl (by omega) (by omega)) ?_; refine w_eff rfl rfl rfl rfl rfl (r_eff (fun frc hU => e_store_mrefT1 TySz.out (opvU hU rfl) rfl (by (simp; omega)) (opvU hU rfl) rfl)) rfl ?_; refine w_nil rfl rfl ?_ ?_
        · refine x_neu rfl rfl rfl rfl rfl (n_move rfl rfl) ?_; refine x_neu rfl rfl rfl rfl rfl (n_move rfl rfl) ?_; refine x_neu rfl rfl rfl rfl rfl (n_move rfl rfl) ?_; refine x_neu rfl rfl rfl rfl rfl (n_move rfl rfl) ?_; refine x_neu rfl rfl rfl rfl rfl (n_move rfl rfl) ?_; refine x_neu rfl rfl rfl rfl rfl (n_move rfl rfl) ?_; refine x_neu rfl rfl rfl rfl rfl (n_indexAddr_mutT rfl rfl rfl (by omega) (by omega)) ?_; refine x_neu rfl rfl rfl rfl rfl (n_load_mrefT1 rfl rfl (by first | exact hTi | exact hTi2)) ?_; exact x_nil
        refine c_cut [(4, .s (.one (.ref 710 0))), (5, .s (.one (.mut 20))), (6, sInt i), (16, sList (List Str) 1 strsC files), (17, sInt files.length), (18, sInt i), (23, sList Str 1 strC f), (24, sInt f.length), (25, sInt j)] [(20, .tarr files.length 1 ((rowsN files i).set i (.buf 713 Int 1 intC (ids ++ [(names.length : Int)])))), (710, .box [.mut 711, .buf 712 Str 1 strC (names ++ [s])]), (711, .map Str strK (kvOf (names ++ [s]) 0)), (712, .spare (names ++ [s]).length 1 9), (713, .spare (ids ++ [(names.length : Int)]).length 1 3)] (by rw [Int.toNat_natCast i, rows_back2, hkv]; exact Sees.of ⟨le1 rfl, le1 rfl, le1 rfl, le1 rfl, le1 rfl, le1 rfl, le1 rfl, le1 rfl, le1 rfl, trivial⟩ ⟨rfl, rfl, rfl, rfl, rfl, trivial⟩) ?_
        refine c_region ?_; refine l_neu (n_add rfl rfl (by omega)) rfl ?_; refine l_neu (n_move rfl rfl) rfl ?_; refine l_nil ?_
        refine k1 ?_
        exact ⟨j + 1, hlt2, by omega, by rw [hstep, hnext, hpl]; exact Sees.of ⟨le1 rfl, le1 rfl, le1 rfl, le1 rfl, le1 rfl, le1 rfl, le1 rfl, le1 rfl, le1 rfl, trivial⟩ ⟨rfl, rfl, rfl, rfl, rfl, trivial⟩⟩
    · have hj2 : j = f.length := by have := of_decide_eq_false ht; omega
      subst hj2
      rw [List.take_length]
      refine k6 ?_; refine k7 ?_; refine k7 ?_; refine k8 rfl ?_; refine k4 ?_; refine k1 ?_
      refine c_sees (Sees.forget 713) ?_
      have hfr : ((rowsN files i).set i (.buf 713 Int 1 intC (idsOf (namesOf files) f))).map (TC.forget 713) = rowsN files (i + 1) := by rw [hf]; exact rowsN_forget files i 713 hlt
      have hnr : namesTo files (i + 1) 0 = namesTo files i f.length := by rw [hf]; exact namesTo_row files i
      refine c_cut [(4, .s (.one (.ref 710 0))), (5, .s (.one (.mut 20))), (16, sList (List Str) 1 strsC files), (17, sInt files.length), (18, sInt i)] [(710, .box [.mut 711, .buf 712 Str 1 strC (namesTo files (i + 1) 0)]), (711, .map Str strK (kvOf (namesTo files (i + 1) 0) 0)), (712, .spare (namesTo files (i + 1) 0).length 1 9), (20, .tarr files.length 1 (rowsN files (i + 1)))] (by rw [hnr, ← hfr]; exact Sees.of ⟨le1 rfl, le1 rfl, le1 rfl, le1 rfl, le1 rfl, trivial⟩ ⟨rfl, rfl, rfl, rfl, trivial⟩) ?_
      refine c_region ?_; refine l_neu (n_add rfl rfl (by omega)) rfl ?_; refine l_neu (n_move rfl rfl) rfl ?_; refine l_nil ?_
      refine k1 ?_
      exact ⟨i + 1, hlt, by omega, Sees.of ⟨le1 rfl, le1 rfl, le1 rfl, le1 rfl, le1 rfl, trivial⟩ ⟨rfl, rfl, rfl, rfl, trivial⟩⟩
  · have hi2 : i = files.length := by have := of_decide_eq_false ht; omega
    rw [hi2, namesTo_all]
    refine c_sees (Sees.ofT1 20 (c := intsC) (files.map (idsOf (namesOf files))) rfl (by simp) (rowsN_full files)) ?_
    refine c_sees (Sees.freeze (k := 20) rfl) ?_
    refine c_sees (Sees.forget 712) ?_
    refine k6 ?_; refine k2 ?_
    refine c_region_draw (by kernel_rfl) (by kernel_rfl) ?_; refine d_neu (n_move rfl rfl) rfl rfl ?_; refine d_neu (n_move rfl rfl) rfl rfl ?_; refine d_neu (n_nilCheck_ref rfl) rfl rfl ?_; refine d_neu (n_field_ref rfl) rfl rfl ?_; refine d_neu (n_load_ref rfl rfl rfl) rfl rfl ?_; refine d_neu (n_assign rfl rfl) rfl rfl ?_; refine d_neu (n_assign rfl rfl) rfl rfl ?_; refine d_nil ?_
    refine k1 ?_; refine k10 ?_
    exact ret_ret (ret2 rfl rfl rfl rfl rfl) rfl
theorem internIds_ok (files : List (List Str)) (hn : files.length ≤ 1048576) (hl : files.flatten.length ≤ 536870911) : FnOk Tryz.prog 70 [pStrss files] (fun rs => rs = [pIntss (files.map (idsOf (namesOf files)))]) := by
  refine FnOk.intro Tryz.func70 (by decide) rfl rfl rfl rfl ?_
  refine k2 ?_
  refine c_region ?_; refine l_neu (n_assign rfl rfl) rfl ?_; refine l_nil ?_
  refine k1 ?_; refine k2 ?_
  refine c_region ?_; refine l_neu (n_move rfl rfl) rfl ?_; refine l_call (number_ok files hn hl) rfl rfl rfl ?_; rintro _ rfl; refine l_neu (n_move rfl rfl) rfl ?_; refine l_neu (n_extract rfl rfl) rfl ?_; refine l_neu (n_extract rfl rfl) rfl ?_; refine l_neu (n_assign rfl rfl) rfl ?_; refine l_neu (n_assign rfl rfl) rfl ?_; refine l_nil ?_
  refine k1 ?_; refine k2 ?_
  refine c_region ?_; refine l_neu (n_move rfl rfl) rfl ?_; refine l_neu (n_assign rfl rfl) rfl ?_; refine l_nil ?_
  refine k1 ?_; refine k10 ?_
  exact ret_ret (ret1 rfl rfl rfl) rfl
end Go.Proofs.YtjjidificdmnmaaGreatDoor
namespace Go.Proofs.YtjjidificdmnmaaGreatDoor
open Go Go.AL
set_option maxRecDepth 100000
abbrev iBox (i : Int) : Ob := .box [.p (.v (.int .i64 i))]
theorem spairs1_met {gf : Fr} {ob : Obs} (e i j : Int) (out : List Span) (he : e ≤ 1048576) (hj : 0 ≤ j) (hj2 : j ≤ 536870912) (ho : (out.length : Int) ≤ i)
    (h5 : getO ob 5 = some (.box [.buf 20 Span 2 spanC out])) (h6 : getO ob 6 = some (iBox i)) (h7 : getO ob 7 = some (iBox j)) (h20 : getO ob 20 = some (.spare out.length 2 109)) :
    Met Tryz.prog 196 [.one (.p (.v (.int .i64 e))), .one (.ref 6 0), .one (.ref 5 0), .one (.ref 7 0)] gf ob [20]
      (fun rs ob' => rs = [] ∧ ob' = (5, .box [.buf 20 Span 2 spanC (out ++ spanRun i j (e - i).toNat)]) :: (6, iBox (i + (e - i).toNat)) :: (7, iBox (j + (e - i).toNat)) :: (20, .spare (out ++ spanRun i j (e - i).toNat).length 2 109) :: Obs.forget 20 ob) := by
  refine Met.introH Tryz.func196 (by decide) rfl rfl rfl (fun hH => ?_)
  refine k3 ?_
  refine c_while (X := Nat) (fun t => ([(0, sInt e), (1, .s (.one (.ref 6 0))), (2, .s (.one (.ref 5 0))), (3, .s (.one (.ref 7 0)))] ++ Fr.forget 20 gf, (5, .box [.buf 20 Span 2 spanC (out ++ spanRun i j t)]) :: (6, iBox (i + t)) :: (7, iBox (j + t)) :: (20, .spare (out ++ spanRun i j t).length 2 109) :: Obs.forget 20 ob)) (fun t => t ≤ (e - i).toNat) (fun t => (e - i).toNat - t) 0 (Nat.zero_le _) ?_ ?_
  · rw [spanRun_zero, List.append_nil, show i + ((0 : Nat) : Int) = i by omega, show j + ((0 : Nat) : Int) = j by omega]
    exact Sees.tailL 20 (l := [(0, sInt e), (1, .s (.one (.ref 6 0))), (2, .s (.one (.ref 5 0))), (3, .s (.one (.ref 7 0)))]) (L := [(5, _), (6, _), (7, _), (20, _)]) ⟨le1 rfl, le1 rfl, le1 rfl, le1 rfl, trivial⟩ hH (by repeat (first | exact tail_refl | refine tail_cons rfl ?_)) ⟨h5, h6, h7, h20, trivial⟩
  intro t ht0
  dsimp only at ht0 ⊢
  have hsl := spanRun_length i j t
  refine k2 ?_; refine k2 ?_
  refine c_region ?_; refine l_neu (n_load_ref rfl rfl rfl) rfl ?_; refine l_neu (n_move rfl rfl) rfl ?_; refine l_neu (n_lss rfl rfl) rfl ?_; refine l_nil ?_
  refine k1 ?_
  refine c_cond rfl (fun ht => ?_) (fun ht => ?_)
  · have h1 := of_decide_eq_true ht
    refine k5 ?_; refine k1 ?_; refine k2 ?_; refine k3 ?_; refine k2 ?_
    refine c_region ?_; refine l_neu (n_load_ref rfl rfl rfl) rfl ?_; refine l_neu (n_load_ref rfl rfl rfl) rfl ?_; refine l_neu (n_load_ref rfl rfl rfl) rfl ?_; refine l_neu (n_build rfl) rfl ?_; refine l_neu (n_buildSlice (c := spanC) (ys := [⟨i + t, j + t⟩]) (asm_cons rfl rfl rfl rfl asm_nil) rfl rfl rfl) rfl ?_; refine l_effv (e_append rfl rfl rfl (.pure _ _ _ _) (by (simp only [List.length_append, List.length_cons, List.length_nil]; omega)) rfl) rfl ?_; refine l_eff (e_store_ref TySz.out rfl rfl rfl rfl rfl rfl) ?_; refine l_nil ?_
    refine k1 ?_
    refine c_region ?_; refine l_neu (n_load_ref rfl rfl rfl) rfl ?_; refine l_neu (n_add rfl rfl (by omega)) rfl ?_; refine l_eff (e_store_ref TySz.out rfl rfl rfl rfl rfl rfl) ?_; refine l_nil ?_
    refine k4 ?_; refine k1 ?_
    refine c_region ?_; refine l_neu (n_load_ref rfl rfl rfl) rfl ?_; refine l_neu (n_add rfl rfl (by omega)) rfl ?_; refine l_eff (e_store_ref TySz.out rfl rfl rfl rfl rfl rfl) ?_; refine l_nil ?_
    refine k1 ?_
    refine ⟨t + 1, by omega, by omega, ?_⟩
    rw [spanRun_snoc, ← List.append_assoc, show i + ((t + 1 : Nat) : Int) = i + t + 1 by omega, show j + ((t + 1 : Nat) : Int) = j + t + 1 by omega]
    exact Sees.tailed ⟨le1 rfl, le1 rfl, le1 rfl, le1 rfl, trivial⟩ (high_forget hH) (by repeat (first | exact tail_refl | refine tail_cons rfl ?_ | refine tail_forget' _ ?_)) (obs_put (L := [(5, _), (6, _), (7, _), (20, _)]) ⟨rfl, rfl, rfl, rfl, trivial⟩ (by repeat (first | exact obs_refl | refine obs_skip rfl ?_ | refine obs_fgt _ ?_)))
  · have h1 := of_decide_eq_false ht
    have h2 : t = (e - i).toNat := by omega
    subst h2
    refine k6 ?_; refine k7 ?_; refine k7 ?_; refine k8 rfl ?_
    exact met_normal (rets0 rfl) (by repeat (first | exact tail_refl | refine tail_cons rfl ?_ | refine tail_forget _ ?_)) (fun _ _ h => h) ⟨rfl, rfl⟩
theorem spairs_ok (l : List Change) (m : Int) (hl : l.length ≤ 32768) (hm : m ≤ 4096) (hb : ∀ c ∈ l, c.Old ≤ 4096 ∧ 0 ≤ c.OldLen ∧ c.OldLen ≤ 4096 ∧ 0 ≤ c.NewLen ∧ c.NewLen ≤ 4096) :
    FnOk Tryz.prog 183 [pChanges l, pInt m] (fun rs => rs = [pSpans (matchedOf l m)]) := by
  refine FnOk.intro Tryz.func183 (by decide) rfl rfl rfl rfl ?_
  refine k2 ?_
  refine c_region ?_; refine l_neu (n_assign rfl rfl) rfl ?_; refine l_nil ?_
  refine k1 ?_; refine k2 ?_
  refine c_region ?_; refine l_effv (f_alloc 5 rfl) rfl ?_; refine l_nil ?_
  refine c_sees (Sees.adoptB 20 Span 2 spanC 109 (kb := 5) (o := 0) rfl rfl rfl) ?_
  refine k2 ?_
  refine c_region ?_; refine l_effv (f_alloc 6 rfl) rfl ?_; refine l_effv (f_alloc 7 rfl) rfl ?_; refine l_eff (e_store_ref TySz.out rfl rfl rfl rfl rfl rfl) ?_; refine l_eff (e_store_ref TySz.out rfl rfl rfl rfl rfl rfl) ?_; refine l_nil ?_
  refine k1 ?_; refine k2 ?_
  refine c_region ?_; refine l_neu (n_makeFunc rfl rfl) rfl ?_; refine l_neu (n_assign rfl rfl) rfl ?_; refine l_nil ?_
  refine k1 ?_; refine k2 ?_; refine k2 ?_
  refine c_region ?_; refine l_neu (n_move rfl rfl) rfl ?_; refine l_neu (n_len rfl (.pure _ _ _ _)) rfl ?_; refine l_neu (n_move rfl rfl) rfl ?_; refine l_nil ?_
  refine k1 ?_; refine k3 ?_
  refine c_while (X := Nat × Int × Int × List Span) (fun x => ([(1, sInt m), (5, .s (.one (.ref 5 0))), (6, .s (.one (.ref 6 0))), (7, .s (.one (.ref 7 0))), (8, .s (.one (.clo 196 [] [(6, 0), (5, 0), (7, 0)]))), (12, sList Change 4 changeC l), (13, sInt l.length), (14, sInt x.1)], [(5, .box [.buf 20 Span 2 spanC x.2.2.2]), (6, iBox x.2.1), (7, iBox x.2.2.1), (20, .spare x.2.2.2.length 2 109)]))
    (fun x => x.1 ≤ l.length ∧ 0 ≤ x.2.1 ∧ (x.2.2.2.length : Int) ≤ x.2.1 ∧ x.2.1 ≤ 4096 + x.1 * 4096 ∧ 0 ≤ x.2.2.1 ∧ x.2.2.1 ≤ x.1 * 8192 ∧ x.2.2.2 ++ matchedGo x.2.1 x.2.2.1 (l.drop x.1) m = matchedOf l m)
    (fun x => l.length - x.1) (0, 0, 0, []) (by simp [matchedOf]) (Sees.of ⟨le1 rfl, le1 rfl, le1 rfl, le1 rfl, le1 rfl, le1 rfl, le1 rfl, le1 rfl, trivial⟩ ⟨rfl, rfl, rfl, rfl, trivial⟩) ?_
  rintro ⟨k, i, j, out⟩ ⟨hk, hi, ho, hi2, hj, hj2, hp⟩
  dsimp only at hk hi ho hi2 hj hj2 hp ⊢
  refine k2 ?_
  refine c_region ?_; refine l_neu (n_lss rfl rfl) rfl ?_; refine l_nil ?_
  refine k1 ?_; refine k2 ?_
  refine c_cond rfl (fun ht => ?_) (fun ht => ?_)
  · have hlt : k < l.length := by have := of_decide_eq_true ht; omega
    obtain ⟨c, hcd⟩ : ∃ c, c = l[k] := ⟨_, rfl⟩
    have hv : l[k]? = some c := by rw [hcd]; simp [hlt]
    have hc := hb c (List.mem_of_getElem? hv)
    rw [List.drop_eq_getElem_cons hlt, ← hcd, matchedGo] at hp
    refine k5 ?_; refine k1 ?_; refine k2 ?_; refine k3 ?_; refine k2 ?_
    refine c_region ?_; refine l_neu (n_indexAddr rfl (.pure _ _ _ _) rfl (by omega) hv) rfl ?_; refine l_neu (n_loads_eref rfl rfl) rfl ?_; refine l_effv (f_alloc 10 rfl) rfl ?_; refine l_eff (e_store_ref TySz.out rfl rfl rfl rfl rfl rfl) ?_; refine l_nil ?_
    refine k1 ?_; refine k2 ?_
    refine c_cut [(1, sInt m), (5, .s (.one (.ref 5 0))), (6, .s (.one (.ref 6 0))), (7, .s (.one (.ref 7 0))), (8, .s (.one (.clo 196 [] [(6, 0), (5, 0), (7, 0)]))), (10, .s (.one (.ref 10 0))), (12, sList Change 4 changeC l), (13, sInt l.length), (14, sInt k)] [(5, .box [.buf 20 Span 2 spanC out]), (6, iBox i), (7, iBox j), (20, .spare out.length 2 109), (10, .box [.p (.v (.int .i64 c.Old)), .p (.v (.int .i64 c.OldLen)), .p (.v (.int .i64 c.New)), .p (.v (.int .i64 c.NewLen))])] (Sees.of ⟨le1 rfl, le1 rfl, le1 rfl, le1 rfl, le1 rfl, le1 rfl, le1 rfl, le1 rfl, le1 rfl, trivial⟩ ⟨rfl, rfl, rfl, rfl, rfl, trivial⟩) ?_
    refine c_region ?_; refine l_neu (n_move rfl rfl) rfl ?_; refine l_neu (n_field_ref rfl) rfl ?_; refine l_neu (n_load_ref rfl rfl rfl) rfl ?_; refine l_metF (spairs1_met c.Old i j out (by omega) hj (by omega) ho rfl rfl rfl rfl) rfl rfl rfl rfl ?_; rintro _ _ ⟨rfl, rfl⟩; refine l_nil ?_
    refine k1 ?_
    obtain ⟨n, hn⟩ : ∃ n, n = (c.Old - i).toNat := ⟨_, rfl⟩
    rw [← hn] at hp ⊢
    refine c_cut [(1, sInt m), (5, .s (.one (.ref 5 0))), (6, .s (.one (.ref 6 0))), (7, .s (.one (.ref 7 0))), (8, .s (.one (.clo 196 [] [(6, 0), (5, 0), (7, 0)]))), (10, .s (.one (.ref 10 0))), (12, sList Change 4 changeC l), (13, sInt l.length), (14, sInt k)] [(5, .box [.buf 20 Span 2 spanC (out ++ spanRun i j n)]), (6, iBox (i + n)), (7, iBox (j + n)), (20, .spare (out ++ spanRun i j n).length 2 109), (10, .box [.p (.v (.int .i64 c.Old)), .p (.v (.int .i64 c.OldLen)), .p (.v (.int .i64 c.New)), .p (.v (.int .i64 c.NewLen))])] (Sees.of ⟨le1 rfl, le1 rfl, le1 rfl, le1 rfl, le1 rfl, le1 rfl, le1 rfl, le1 rfl, le1 rfl, trivial⟩ ⟨rfl, rfl, rfl, rfl, rfl, trivial⟩) ?_
    refine c_region_any [9, 8] [[], [8], [9, 8]] [(4, [8]), (5, [8]), (6, [8]), (7, [8])] (by kernel_rfl) (by kernel_rfl) ?_; refine a_neu rfl (n_load_ref rfl rfl rfl) ?_; refine a_neu rfl (n_field_ref rfl) ?_; refine a_neu rfl (n_load_ref rfl rfl rfl) ?_; refine a_neu rfl (n_add rfl rfl (by omega)) ?_; refine a_neu rfl (n_load_ref rfl rfl rfl) ?_; refine a_neu rfl (n_field_ref rfl) ?_; refine a_neu rfl (n_load_ref rfl rfl rfl) ?_; refine a_neu rfl (n_add rfl rfl (by omega)) ?_; refine a_store (u_store_ref TySz.out rfl rfl rfl rfl rfl rfl) ?_; refine a_store (u_store_ref TySz.out rfl rfl rfl rfl rfl rfl) ?_; refine a_nil rfl ?_ ?_
    · refine o_neu rfl rfl (n_load_ref rfl rfl rfl) ?_; refine o_neu rfl rfl (n_field_ref rfl) ?_; refine o_neu rfl rfl (n_load_ref rfl rfl rfl) ?_; refine o_neu rfl rfl (n_add rfl rfl (by omega)) ?_; exact o_nil
    refine k4 ?_; refine k1 ?_
    refine c_region ?_; refine l_neu (n_add rfl rfl (by omega)) rfl ?_; refine l_neu (n_move rfl rfl) rfl ?_; refine l_nil ?_
    refine k1 ?_
    have hsl := spanRun_length i j n
    have h3 : max i c.Old = i + n := by omega
    rw [h3] at hp
    exact ⟨(k + 1, i + n + c.OldLen, j + n + c.NewLen, out ++ spanRun i j n), ⟨by dsimp only; omega, by dsimp only; omega, by dsimp only; rw [List.length_append, hsl]; omega, by dsimp only; omega, by dsimp only; omega, by dsimp only; omega, by dsimp only; rw [List.append_assoc]; exact hp⟩, by dsimp only; omega, Sees.of ⟨le1 rfl, le1 rfl, le1 rfl, le1 rfl, le1 rfl, le1 rfl, le1 rfl, le1 rfl, trivial⟩ ⟨rfl, rfl, rfl, rfl, trivial⟩⟩
  · have hk' : k = l.length := by have := of_decide_eq_false ht; omega
    rw [hk', List.drop_eq_nil_of_le (Nat.le_refl _), matchedGo] at hp
    refine k6 ?_; refine k2 ?_
    refine c_region ?_; refine l_neu (n_move rfl rfl) rfl ?_; refine l_neu (n_move rfl rfl) rfl ?_; refine l_metF (spairs1_met m i j out (by omega) hj (by omega) ho rfl rfl rfl rfl) rfl rfl rfl rfl ?_; rintro _ _ ⟨rfl, rfl⟩; refine l_nil ?_
    refine k1 ?_; refine k2 ?_
    rw [hp]
    refine c_sees (Sees.forget 20) ?_
    refine c_region ?_; refine l_neu (n_load_ref rfl rfl rfl) rfl ?_; refine l_neu (n_assign rfl rfl) rfl ?_; refine l_nil ?_
    refine k1 ?_; refine k10 ?_
    exact ret_ret (ret1 rfl rfl rfl) rfl
theorem script_cs {l : List Change} {m n : Int} (hok : ScOk 0 0 l m n) : ∀ c ∈ l, c.Old ≤ 4096 ∧ 0 ≤ c.OldLen ∧ c.OldLen ≤ 4096 ∧ 0 ≤ c.NewLen ∧ c.NewLen ≤ 4096 := by
  intro c hc
  obtain ⟨k, hk, rfl⟩ := List.mem_iff_getElem.1 hc
  have := hok.get k hk
  have e : cAt l k = l[k] := by unfold cAt; simp [hk]
  rw [e] at this
  obtain ⟨⟨_, h1⟩, ⟨h2, h3⟩, _, ⟨h4, h5⟩, _⟩ := this
  exact ⟨h1, h2, h3, h4, h5⟩
theorem matched_len {l : List Change} {m n : Int} (hm : m ≤ 4096) (hok : ScOk 0 0 l m n) : (matchedOf l m).length ≤ 4096 := by
  have := matchedGo_length l 0 0 m (by omega) 4096 (by omega) (fun c hc => ⟨by have := (script_cs hok c hc).1; omega, (script_cs hok c hc).2.1⟩)
  unfold matchedOf; omega
def PairAt (a b : List Int) (p : Span) : Prop := 0 ≤ p.From ∧ 0 ≤ p.To ∧ ∃ v, a[p.From.toNat]? = some v ∧ b[p.To.toNat]? = some v
theorem sFits_ok (l : List Change) (a b : List Int) (hl : l.length ≤ 32768) (hc : check8 l a.length b.length = 0) (hp : ∀ p ∈ matchedOf l a.length, PairAt a b p) :
    FnOk Tryz.prog 156 [pChanges l, pInts a, pInts b] (fun rs => rs = [pBool true]) := by
  obtain ⟨⟨_, ha⟩, ⟨_, hb⟩, hok⟩ := check8_ok hc
  have hcs := script_cs hok
  have hpl := matched_len (by omega) hok
  obtain ⟨ps, hps⟩ : ∃ ps, ps = matchedOf l a.length := ⟨_, rfl⟩
  rw [← hps] at hpl
  refine FnOk.intro Tryz.func156 (by decide) rfl rfl rfl rfl ?_
  refine k2 ?_
  refine c_region ?_; refine l_neu (n_assign rfl rfl) rfl ?_; refine l_nil ?_
  refine k1 ?_; refine k2 ?_; refine k2 ?_
  refine c_region ?_; refine l_neu (n_move rfl rfl) rfl ?_; refine l_neu (n_move rfl rfl) rfl ?_; refine l_neu (n_len rfl (.pure _ _ _ _)) rfl ?_; refine l_neu (n_move rfl rfl) rfl ?_; refine l_neu (n_len rfl (.pure _ _ _ _)) rfl ?_; refine l_call (scheck_ok l a.length b.length (by omega)) rfl rfl rfl ?_; rintro _ rfl; refine l_neu (n_neq rfl rfl) rfl ?_; refine l_nil ?_
  rw [hc]
  refine k1 ?_
  refine c_cond rfl (fun ht => ?_) (fun ht => ?_)
  · cases ht
  refine k5 ?_; refine k1 ?_; refine k2 ?_; refine k2 ?_
  refine c_region ?_; refine l_neu (n_move rfl rfl) rfl ?_; refine l_neu (n_move rfl rfl) rfl ?_; refine l_neu (n_len rfl (.pure _ _ _ _)) rfl ?_; refine l_call (spairs_ok l a.length hl ha hcs) rfl rfl rfl ?_; rintro _ rfl; refine l_neu (n_len rfl (.pure _ _ _ _)) rfl ?_; refine l_neu (n_move rfl rfl) rfl ?_; refine l_nil ?_
  rw [← hps] at hp ⊢
  refine k1 ?_; refine k3 ?_
  refine c_while (X := Nat) (fun k => ([(1, sList Int 1 intC a), (2, sList Int 1 intC b), (19, sList Span 2 spanC ps), (20, sInt ps.length), (21, sInt k)], [])) (fun k => k ≤ ps.length) (fun k => ps.length - k) 0 (Nat.zero_le _) (Sees.of ⟨le1 rfl, le1 rfl, le1 rfl, le1 rfl, le1 rfl, trivial⟩ trivial) ?_
  intro k hk
  dsimp only at hk ⊢
  refine k2 ?_
  refine c_region ?_; refine l_neu (n_lss rfl rfl) rfl ?_; refine l_nil ?_
  refine k1 ?_; refine k2 ?_
  refine c_cond rfl (fun ht => ?_) (fun ht => ?_)
  · have hlt : k < ps.length := by have := of_decide_eq_true ht; omega
    obtain ⟨p, hpd⟩ : ∃ p, p = ps[k] := ⟨_, rfl⟩
    have hv : ps[k]? = some p := by rw [hpd]; simp [hlt]
    obtain ⟨h1, h2, v, h3, h4⟩ := hp p (List.mem_of_getElem? hv)
    have h5 := (List.getElem?_eq_some_iff.1 h3).1
    have h6 := (List.getElem?_eq_some_iff.1 h4).1
    refine k5 ?_; refine k1 ?_; refine k2 ?_; refine k3 ?_; refine k2 ?_
    refine c_region ?_; refine l_neu (n_indexAddr rfl (.pure _ _ _ _) rfl (by omega) hv) rfl ?_; refine l_neu (n_loads_eref rfl rfl) rfl ?_; refine l_effv (f_alloc 8 rfl) rfl ?_; refine l_eff (e_store_ref TySz.out rfl rfl rfl rfl rfl rfl) ?_; refine l_nil ?_
    refine k1 ?_; refine k2 ?_
    refine c_region_draw (by kernel_rfl) (by kernel_rfl) ?_; refine d_neu (n_move rfl rfl) rfl rfl ?_; refine d_neu (n_field_ref rfl) rfl rfl ?_; refine d_neu (n_load_ref rfl rfl rfl) rfl rfl ?_; refine d_neu (n_indexAddr rfl (.pure _ _ _ _) rfl (by omega) h3) rfl rfl ?_; refine d_neu (n_load_eref rfl rfl) rfl rfl ?_; refine d_neu (n_move rfl rfl) rfl rfl ?_; refine d_neu (n_field_ref rfl) rfl rfl ?_; refine d_neu (n_load_ref rfl rfl rfl) rfl rfl ?_; refine d_neu (n_indexAddr rfl (.pure _ _ _ _) rfl (by omega) h4) rfl rfl ?_; refine d_neu (n_load_eref rfl rfl) rfl rfl ?_; refine d_neu (n_neq rfl rfl) rfl rfl ?_; refine d_nil ?_
    refine k1 ?_
    refine c_cond rfl (fun ht => ?_) (fun ht => ?_)
    · exact absurd (of_decide_eq_true ht) (by simp)
    refine k5 ?_; refine k4 ?_; refine k1 ?_
    refine c_region ?_; refine l_neu (n_add rfl rfl (by omega)) rfl ?_; refine l_neu (n_move rfl rfl) rfl ?_; refine l_nil ?_
    refine k1 ?_
    exact ⟨k + 1, hlt, by omega, Sees.of ⟨le1 rfl, le1 rfl, le1 rfl, le1 rfl, le1 rfl, trivial⟩ trivial⟩
  · refine k6 ?_; refine k2 ?_
    refine c_region ?_; refine l_neu (n_assign rfl rfl) rfl ?_; refine l_nil ?_
    refine k1 ?_; refine k10 ?_
    exact ret_ret (ret1 rfl rfl rfl) rfl
theorem rPairs8_ok (l : List Change) (m n : Int) (hl : l.length ≤ 32768) (hc : check8 l m n = 0) :
    FnOk Tryz.prog 162 [pChanges l, pInt m, pInt n] (fun rs => rs = [pSpans (matchedOf l m), pInt 0]) := by
  obtain ⟨⟨_, hm⟩, _, hok⟩ := check8_ok hc
  have hcs : ∀ c ∈ l, c.Old ≤ 536870911 ∧ 0 ≤ c.OldLen ∧ c.OldLen ≤ 1048576 ∧ 0 ≤ c.NewLen ∧ c.NewLen ≤ 1048576 := by
    intro c hc
    have := script_cs hok c hc
    omega
  refine FnOk.intro Tryz.func162 (by decide) rfl rfl rfl rfl ?_
  refine k2 ?_
  refine c_region ?_; refine l_neu (n_assign rfl rfl) rfl ?_; refine l_neu (n_assign rfl rfl) rfl ?_; refine l_nil ?_
  refine k1 ?_; refine k2 ?_; refine k2 ?_
  refine c_region ?_; refine l_neu (n_move rfl rfl) rfl ?_; refine l_neu (n_move rfl rfl) rfl ?_; refine l_neu (n_move rfl rfl) rfl ?_; refine l_call (check8_walk l m n (by omega)) rfl rfl rfl ?_; rintro _ rfl; refine l_neu (n_assign rfl rfl) rfl ?_; refine l_nil ?_
  rw [hc]
  refine k1 ?_; refine k2 ?_
  refine c_region ?_; refine l_neu (n_move rfl rfl) rfl ?_; refine l_neu (n_neq rfl rfl) rfl ?_; refine l_nil ?_
  refine k1 ?_
  refine c_cond rfl (fun ht => ?_) (fun ht => ?_)
  · cases ht
  refine k5 ?_; refine k1 ?_; refine k2 ?_
  refine c_region ?_; refine l_neu (n_move rfl rfl) rfl ?_; refine l_neu (n_move rfl rfl) rfl ?_; refine l_call (matched_ok l m (by omega) (by omega) hcs) rfl rfl rfl ?_; rintro _ rfl; refine l_neu (n_assign rfl rfl) rfl ?_; refine l_neu (n_assign rfl rfl) rfl ?_; refine l_nil ?_
  refine k1 ?_; refine k10 ?_
  exact ret_ret (ret2 rfl rfl rfl rfl rfl) rfl
theorem rFits8_ok (l : List Change) (a b : List Int) (hl : l.length ≤ 32768) (hc : check8 l a.length b.length = 0) (hp : ∀ p ∈ matchedOf l a.length, PairAt a b p) :
    FnOk Tryz.prog 120 [pChanges l, pInts a, pInts b] (fun rs => rs = [pBool true]) := by
  obtain ⟨⟨_, ha⟩, ⟨_, hb⟩, hok⟩ := check8_ok hc
  have hpl := matched_len (by omega) hok
  obtain ⟨ps, hps⟩ : ∃ ps, ps = matchedOf l a.length := ⟨_, rfl⟩
  rw [← hps] at hpl
  refine FnOk.intro Tryz.func120 (by decide) rfl rfl rfl rfl ?_
  refine k2 ?_
  refine c_region ?_; refine l_neu (n_assign rfl rfl) rfl ?_; refine l_nil ?_
  refine k1 ?_; refine k2 ?_
  refine c_region ?_; refine l_neu (n_move rfl rfl) rfl ?_; refine l_neu (n_move rfl rfl) rfl ?_; refine l_neu (n_len rfl (.pure _ _ _ _)) rfl ?_; refine l_neu (n_move rfl rfl) rfl ?_; refine l_neu (n_len rfl (.pure _ _ _ _)) rfl ?_; refine l_call (rPairs8_ok l a.length b.length hl hc) rfl rfl rfl ?_; rintro _ rfl; refine l_neu (n_move rfl rfl) rfl ?_; refine l_neu (n_extract rfl rfl) rfl ?_; refine l_neu (n_extract rfl rfl) rfl ?_; refine l_neu (n_assign rfl rfl) rfl ?_; refine l_neu (n_assign rfl rfl) rfl ?_; refine l_nil ?_
  rw [← hps] at hp ⊢
  refine k1 ?_; refine k2 ?_; refine k2 ?_
  refine c_region ?_; refine l_neu (n_move rfl rfl) rfl ?_; refine l_neu (n_neq rfl rfl) rfl ?_; refine l_nil ?_
  refine k1 ?_
  refine c_cond rfl (fun ht => ?_) (fun ht => ?_)
  · cases ht
  refine k5 ?_; refine k1 ?_; refine k2 ?_; refine k2 ?_
  refine c_region ?_; refine l_neu (n_assign rfl rfl) rfl ?_; refine l_nil ?_
  refine k1 ?_; refine k3 ?_
  refine c_while (X := Nat) (fun k => ([(1, sList Int 1 intC a), (2, sList Int 1 intC b), (7, sList Span 2 spanC ps), (9, sInt k)], [])) (fun k => k ≤ ps.length) (fun k => ps.length - k) 0 (Nat.zero_le _) (Sees.of ⟨le1 rfl, le1 rfl, le1 rfl, le1 rfl, trivial⟩ trivial) ?_
  intro k hk
  dsimp only at hk ⊢
  refine k2 ?_; refine k2 ?_
  refine c_region ?_; refine l_neu (n_move rfl rfl) rfl ?_; refine l_neu (n_move rfl rfl) rfl ?_; refine l_neu (n_len rfl (.pure _ _ _ _)) rfl ?_; refine l_neu (n_lss rfl rfl) rfl ?_; refine l_nil ?_
  refine k1 ?_
  refine c_cond rfl (fun ht => ?_) (fun ht => ?_)
  · have hlt : k < ps.length := by have := of_decide_eq_true ht; omega
    obtain ⟨p, hpd⟩ : ∃ p, p = ps[k] := ⟨_, rfl⟩
    have hv : ps[k]? = some p := by rw [hpd]; simp [hlt]
    obtain ⟨h1, h2, v, h3, h4⟩ := hp p (List.mem_of_getElem? hv)
    have h5 := (List.getElem?_eq_some_iff.1 h3).1
    have h6 := (List.getElem?_eq_some_iff.1 h4).1
    refine k5 ?_; refine k1 ?_; refine k2 ?_; refine k3 ?_; refine k2 ?_
    refine c_region_draw (by kernel_rfl) (by kernel_rfl) ?_; refine d_neu (n_move rfl rfl) rfl rfl ?_; refine d_neu (n_move rfl rfl) rfl rfl ?_; refine d_neu (n_move rfl rfl) rfl rfl ?_; refine d_neu (n_indexAddr rfl (.pure _ _ _ _) rfl (by omega) hv) rfl rfl ?_; refine d_neu (n_field_eref rfl) rfl rfl ?_; refine d_neu (n_load_eref rfl rfl) rfl rfl ?_; refine d_neu (n_indexAddr rfl (.pure _ _ _ _) rfl (by omega) h3) rfl rfl ?_; refine d_neu (n_load_eref rfl rfl) rfl rfl ?_; refine d_neu (n_move rfl rfl) rfl rfl ?_; refine d_neu (n_move rfl rfl) rfl rfl ?_; refine d_neu (n_move rfl rfl) rfl rfl ?_; refine d_neu (n_indexAddr rfl (.pure _ _ _ _) rfl (by omega) hv) rfl rfl ?_; refine d_neu (n_field_eref rfl) rfl rfl ?_; refine d_neu (n_load_eref rfl rfl) rfl rfl ?_; refine d_neu (n_indexAddr rfl (.pure _ _ _ _) rfl (by omega) h4) rfl rfl ?_; refine d_neu (n_load_eref rfl rfl) rfl rfl ?_; refine d_neu (n_neq rfl rfl) rfl rfl ?_; refine d_nil ?_
    refine k1 ?_
    refine c_cond rfl (fun ht => ?_) (fun ht => ?_)
    · exact absurd (of_decide_eq_true ht) (by simp)
    refine k5 ?_; refine k4 ?_; refine k1 ?_
    refine c_region ?_; refine l_neu (n_move rfl rfl) rfl ?_; refine l_neu (n_add rfl rfl (by omega)) rfl ?_; refine l_neu (n_assign rfl rfl) rfl ?_; refine l_nil ?_
    refine k1 ?_
    exact ⟨k + 1, hlt, by omega, Sees.of ⟨le1 rfl, le1 rfl, le1 rfl, le1 rfl, trivial⟩ trivial⟩
  · refine k6 ?_; refine k2 ?_
    refine c_region ?_; refine l_neu (n_assign rfl rfl) rfl ?_; refine l_nil ?_
    refine k1 ?_; refine k10 ?_
    exact ret_ret (ret1 rfl rfl rfl) rfl
end Go.Proofs.YtjjidificdmnmaaGreatDoor
namespace Go.Proofs.YtjjidificdmnmaaGreatDoor
open Go Go.AL
set_option maxRecDepth 100000
abbrev pChange (c : Change) : PV := .agg [.v (.int .i64 c.Old), .v (.int .i64 c.OldLen), .v (.int .i64 c.New), .v (.int .i64 c.NewLen)]
def sideRes (c : Change) (a b : List Int) : List PV := if c.NewLen = 0 then [pInts a, pInt c.Old, pInt c.OldLen, pBool true] else if c.OldLen = 0 then [pInts b, pInt c.New, pInt c.NewLen, pBool true] else [.one (.v (.slice none 0 0)), pInt 0, pInt 0, pBool false]
theorem side10_ok (c : Change) (a b : List Int) : FnOk Tryz.prog 163 [pChange c, pInts a, pInts b] (fun rs => rs = sideRes c a b) := by
  refine FnOk.intro Tryz.func163 (by decide) rfl rfl rfl rfl ?_
  refine k2 ?_
  refine c_region ?_; refine l_effv (f_box 3 rfl rfl rfl) rfl ?_; refine l_neu (n_assign rfl rfl) rfl ?_; refine l_neu (n_assign rfl rfl) rfl ?_; refine l_neu (n_assign rfl rfl) rfl ?_; refine l_neu (n_assign rfl rfl) rfl ?_; refine l_nil ?_
  refine k1 ?_; refine k2 ?_; refine k3 ?_; refine k2 ?_
  refine c_region ?_; refine l_neu (n_field_ref rfl) rfl ?_; refine l_neu (n_load_ref rfl rfl rfl) rfl ?_; refine l_neu (n_eql rfl rfl) rfl ?_; refine l_neu (n_assign rfl rfl) rfl ?_; refine l_nil ?_
  refine k1 ?_
  refine c_cond rfl (fun ht => ?_) (fun ht => ?_)
  · have h1 := of_decide_eq_true ht
    refine k2 ?_
    refine c_region_draw (by kernel_rfl) (by kernel_rfl) ?_; refine d_neu (n_move rfl rfl) rfl rfl ?_; refine d_neu (n_field_ref rfl) rfl rfl ?_; refine d_neu (n_load_ref rfl rfl rfl) rfl rfl ?_; refine d_neu (n_field_ref rfl) rfl rfl ?_; refine d_neu (n_load_ref rfl rfl rfl) rfl rfl ?_; refine d_neu (n_assign rfl rfl) rfl rfl ?_; refine d_neu (n_assign rfl rfl) rfl rfl ?_; refine d_neu (n_assign rfl rfl) rfl rfl ?_; refine d_neu (n_assign rfl rfl) rfl rfl ?_; refine d_nil ?_
    refine k1 ?_; refine k10 ?_; refine k12 ?_; refine k11 ?_
    exact ret_ret (ret4 rfl rfl rfl rfl rfl rfl rfl rfl rfl) (by unfold sideRes; rw [if_pos h1])
  · have h1 := of_decide_eq_false ht
    refine k2 ?_
    refine c_region ?_; refine l_neu (n_field_ref rfl) rfl ?_; refine l_neu (n_load_ref rfl rfl rfl) rfl ?_; refine l_neu (n_eql rfl rfl) rfl ?_; refine l_neu (n_assign rfl rfl) rfl ?_; refine l_nil ?_
    refine k1 ?_
    refine c_cond rfl (fun ht => ?_) (fun ht => ?_)
    · have h2 := of_decide_eq_true ht
      refine k2 ?_
      refine c_region_draw (by kernel_rfl) (by kernel_rfl) ?_; refine d_neu (n_move rfl rfl) rfl rfl ?_; refine d_neu (n_field_ref rfl) rfl rfl ?_; refine d_neu (n_load_ref rfl rfl rfl) rfl rfl ?_; refine d_neu (n_field_ref rfl) rfl rfl ?_; refine d_neu (n_load_ref rfl rfl rfl) rfl rfl ?_; refine d_neu (n_assign rfl rfl) rfl rfl ?_; refine d_neu (n_assign rfl rfl) rfl rfl ?_; refine d_neu (n_assign rfl rfl) rfl rfl ?_; refine d_neu (n_assign rfl rfl) rfl rfl ?_; refine d_nil ?_
      refine k1 ?_; refine k10 ?_; refine k12 ?_; refine k11 ?_
      exact ret_ret (ret4 rfl rfl rfl rfl rfl rfl rfl rfl rfl) (by unfold sideRes; rw [if_neg h1, if_pos h2])
    · have h2 := of_decide_eq_false ht
      refine k5 ?_; refine k2 ?_
      refine c_region ?_; refine l_neu (n_assign rfl rfl) rfl ?_; refine l_neu (n_assign rfl rfl) rfl ?_; refine l_neu (n_assign rfl rfl) rfl ?_; refine l_neu (n_assign rfl rfl) rfl ?_; refine l_nil ?_
      refine k1 ?_; refine k10 ?_
      exact ret_ret (ret4 rfl rfl rfl rfl rfl rfl rfl rfl rfl) (by unfold sideRes; rw [if_neg h1, if_neg h2])
theorem down10_ok (l : List Change) (a b : List Int) (k : Nat) (hk : k < l.length) (hl : l.length ≤ 32768) (ha : a.length ≤ 4096) (hb : b.length ≤ 4096) (hok : ScOk 0 0 l a.length b.length) :
    FnOk Tryz.prog 121 [pChanges l, pInts a, pInts b, pInt k] (fun rs => rs = [pBool (canDown l a b k)]) := by
  obtain ⟨c, hc⟩ : ∃ c, c = cAt l k := ⟨_, rfl⟩
  have hv : l[k]? = some c := by rw [hc]; exact cAt_get hk
  have hg := hok.get k hk
  rw [← hc] at hg
  obtain ⟨⟨c1, _⟩, ⟨c2, _⟩, ⟨c3, _⟩, ⟨c4, _⟩, c5, c6⟩ := hg
  have hnx : k + 1 < l.length → l[k + 1]? = some (cAt l (k + 1)) ∧ 0 ≤ (cAt l (k + 1)).Old ∧ (cAt l (k + 1)).Old ≤ 4096 := fun h => by
    have := hok.get (k + 1) h
    exact ⟨cAt_get h, this.1.1, this.1.2⟩
  have hnx' : k + 1 < l.length → l[((k : Int) + 1).toNat]? = some (cAt l (k + 1)) := fun h => by
    rw [show ((k : Int) + 1).toNat = k + 1 by omega]; exact cAt_get h
  have hcase : (∃ (t : List Int) (f n : Int), sideRes c a b = [pInts t, pInt f, pInt n, pBool true] ∧ canDown l a b k = decide (downT l k t f n) ∧ t.length ≤ 4096 ∧ 0 ≤ f ∧ 0 ≤ n ∧ f + n ≤ t.length) ∨ (sideRes c a b = [.one (.v (.slice none 0 0)), pInt 0, pInt 0, pBool false] ∧ canDown l a b k = false) := by
    unfold sideRes canDown
    rw [← hc]
    by_cases h1 : c.NewLen = 0
    · rw [if_pos h1, if_pos h1]; exact .inl ⟨_, _, _, rfl, rfl, ha, c1, c2, c5⟩
    · rw [if_neg h1, if_neg h1]
      by_cases h2 : c.OldLen = 0
      · rw [if_pos h2, if_pos h2]; exact .inl ⟨_, _, _, rfl, rfl, hb, c3, c4, c6⟩
      · rw [if_neg h2, if_neg h2]; exact .inr ⟨rfl, rfl⟩
  have hs := side10_ok c a b
  rcases hcase with ⟨t, f, n, hr, hcd, ht4, f0, n0, fn⟩ | ⟨hr, hcd⟩
  · rw [hr] at hs
    refine FnOk.intro Tryz.func121 (by decide) rfl rfl rfl rfl ?_
    refine k2 ?_
    refine c_region ?_; refine l_neu (n_assign rfl rfl) rfl ?_; refine l_nil ?_
    refine k1 ?_; refine k2 ?_
    refine c_region ?_; refine l_neu (n_move rfl rfl) rfl ?_; refine l_neu (n_move rfl rfl) rfl ?_; refine l_neu (n_indexAddr rfl (.pure _ _ _ _) rfl (by omega) hv) rfl ?_; refine l_neu (n_loads_eref rfl rfl) rfl ?_; refine l_neu (n_move rfl rfl) rfl ?_; refine l_neu (n_move rfl rfl) rfl ?_; refine l_call (hs) rfl rfl rfl ?_; rintro _ rfl; refine l_neu (n_move rfl rfl) rfl ?_; refine l_neu (n_extract rfl rfl) rfl ?_; refine l_neu (n_extract rfl rfl) rfl ?_; refine l_neu (n_extract rfl rfl) rfl ?_; refine l_neu (n_extract rfl rfl) rfl ?_; refine l_neu (n_assign rfl rfl) rfl ?_; refine l_neu (n_assign rfl rfl) rfl ?_; refine l_neu (n_assign rfl rfl) rfl ?_; refine l_neu (n_assign rfl rfl) rfl ?_; refine l_nil ?_
    refine c_cut [(0, sList Change 4 changeC l), (3, sInt k), (9, sList Int 1 intC t), (10, sInt f), (11, sInt n), (12, sVal (.bool true))] [] (Sees.of ⟨le1 rfl, le1 rfl, le1 rfl, le1 rfl, le1 rfl, le1 rfl, trivial⟩ trivial) ?_
    have hat : ∀ i : Int, 0 ≤ i → i < t.length → t[i.toNat]? = some (atI t i) := fun i h0 h1 => by
      unfold atI; rw [List.getD_eq_getElem?_getD, List.getElem?_eq_getElem (show i.toNat < t.length by omega)]; rfl
    refine k2 ?_; refine k2 ?_
    refine c_region_draw (by kernel_rfl) (by kernel_rfl) ?_; refine d_neu (n_move rfl rfl) rfl rfl ?_; refine d_neu (n_not rfl) rfl rfl ?_; refine d_neu (n_move rfl rfl) rfl rfl ?_; refine d_guard rfl rfl (fun hg => by rw [hg]; exact n_move rfl rfl) rfl rfl ?_; refine d_guard rfl rfl (fun hg => by rw [hg]; exact n_move rfl rfl) rfl rfl ?_; refine d_guard rfl rfl (fun hg => by have hq := hg; (try simp at hq); rw [hg]; exact n_add rfl rfl (by omega)) rfl rfl ?_; refine d_guard rfl rfl (fun hg => by rw [hg]; exact n_move rfl rfl) rfl rfl ?_; refine d_guard rfl rfl (fun hg => by rw [hg]; exact n_len rfl (.pure _ _ _ _)) rfl rfl ?_; refine d_guard rfl rfl (fun hg => by rw [hg]; exact n_geq rfl rfl) rfl rfl ?_; refine d_neu (n_pick_bool rfl (fun h => by first | rfl | (rw [h]; rfl)) (fun h => by first | rfl | (rw [h]; rfl))) rfl rfl ?_; refine d_neu (n_move rfl rfl) rfl rfl ?_; refine d_guard rfl rfl (fun hg => by rw [hg]; exact n_move rfl rfl) rfl rfl ?_; refine d_guard rfl rfl (fun hg => by rw [hg]; exact n_move rfl rfl) rfl rfl ?_; refine d_guard rfl rfl (fun hg => by have hq := hg; (try simp at hq); rw [hg]; exact n_indexAddr rfl (.pure _ _ _ _) rfl (by omega) (hat f f0 (by omega))) rfl rfl ?_; refine d_guard rfl rfl (fun hg => by rw [hg]; exact n_load_eref rfl rfl) rfl rfl ?_; refine d_guard rfl rfl (fun hg => by rw [hg]; exact n_move rfl rfl) rfl rfl ?_; refine d_guard rfl rfl (fun hg => by rw [hg]; exact n_move rfl rfl) rfl rfl ?_; refine d_guard rfl rfl (fun hg => by rw [hg]; exact n_move rfl rfl) rfl rfl ?_; refine d_guard rfl rfl (fun hg => by have hq := hg; (try simp at hq); rw [hg]; exact n_add rfl rfl (by omega)) rfl rfl ?_; refine d_guard rfl rfl (fun hg => by have hq := hg; (try simp at hq); rw [hg]; exact n_indexAddr rfl (.pure _ _ _ _) rfl (by omega) (hat (f + n) (by omega) hq)) rfl rfl ?_; refine d_guard rfl rfl (fun hg => by rw [hg]; exact n_load_eref rfl rfl) rfl rfl ?_; refine d_guard rfl rfl (fun hg => by rw [hg]; exact n_neq rfl rfl) rfl rfl ?_; refine d_neu (n_pick_bool rfl (fun h => by first | rfl | (rw [h]; rfl)) (fun h => by first | rfl | (rw [h]; rfl))) rfl rfl ?_; refine d_nil ?_
    refine k1 ?_
    refine c_cond rfl (fun ht => ?_) (fun ht => ?_)
    · have h1 : ¬ ((f + n < t.length ∧ atI t f = atI t (f + n)) ∧ (k + 1 = l.length ∨ (cAt l k).Old + (cAt l k).OldLen + 1 < (cAt l (k + 1)).Old)) := by
        rintro ⟨⟨q1, q2⟩, _⟩
        simp [q2] at ht
        omega
      refine k2 ?_
      refine c_region ?_; refine l_neu (n_assign rfl rfl) rfl ?_; refine l_nil ?_
      refine k1 ?_; refine k10 ?_; refine k11 ?_
      exact ret_ret (ret1 rfl rfl rfl) (by rw [hcd]; unfold downT; rw [decide_eq_false h1])
    · have h1 : f + n < t.length := Classical.byContradiction fun q => by simp [show (t.length : Int) ≤ f + n by omega] at ht
      have h2 : atI t f = atI t (f + n) := Classical.byContradiction fun q => by simp [q] at ht
      refine k5 ?_; refine k1 ?_; refine k2 ?_
      refine c_region_draw (by kernel_rfl) (by kernel_rfl) ?_; refine d_neu (n_move rfl rfl) rfl rfl ?_; refine d_neu (n_add rfl rfl (by omega)) rfl rfl ?_; refine d_neu (n_move rfl rfl) rfl rfl ?_; refine d_neu (n_len rfl (.pure _ _ _ _)) rfl rfl ?_; refine d_neu (n_eql rfl rfl) rfl rfl ?_; refine d_neu (n_move rfl rfl) rfl rfl ?_; refine d_guard rfl rfl (fun hg => by rw [hg]; exact n_move rfl rfl) rfl rfl ?_; refine d_guard rfl rfl (fun hg => by rw [hg]; exact n_move rfl rfl) rfl rfl ?_; refine d_guard rfl rfl (fun hg => by have hq := hg; (try simp at hq); rw [hg]; exact n_add rfl rfl (by omega)) rfl rfl ?_; refine d_guard rfl rfl (fun hg => by have hq := hg; (try simp at hq); rw [hg]; exact n_indexAddr rfl (.pure _ _ _ _) rfl (by omega) (hnx' (by omega))) rfl rfl ?_; refine d_guard rfl rfl (fun hg => by rw [hg]; exact n_field_eref rfl) rfl rfl ?_; refine d_guard rfl rfl (fun hg => by rw [hg]; exact n_load_eref rfl rfl) rfl rfl ?_; refine d_guard rfl rfl (fun hg => by rw [hg]; exact n_move rfl rfl) rfl rfl ?_; refine d_guard rfl rfl (fun hg => by rw [hg]; exact n_move rfl rfl) rfl rfl ?_; refine d_guard rfl rfl (fun hg => by have hq := hg; (try simp at hq); rw [hg]; exact n_indexAddr rfl (.pure _ _ _ _) rfl (by omega) hv) rfl rfl ?_; refine d_guard rfl rfl (fun hg => by rw [hg]; exact n_field_eref rfl) rfl rfl ?_; refine d_guard rfl rfl (fun hg => by rw [hg]; exact n_load_eref rfl rfl) rfl rfl ?_; refine d_guard rfl rfl (fun hg => by rw [hg]; exact n_move rfl rfl) rfl rfl ?_; refine d_guard rfl rfl (fun hg => by rw [hg]; exact n_move rfl rfl) rfl rfl ?_; refine d_guard rfl rfl (fun hg => by have hq := hg; (try simp at hq); rw [hg]; exact n_indexAddr rfl (.pure _ _ _ _) rfl (by omega) hv) rfl rfl ?_; refine d_guard rfl rfl (fun hg => by rw [hg]; exact n_field_eref rfl) rfl rfl ?_; refine d_guard rfl rfl (fun hg => by rw [hg]; exact n_load_eref rfl rfl) rfl rfl ?_; refine d_guard rfl rfl (fun hg => by have hq := hg; (try simp at hq); rw [hg]; exact n_add rfl rfl (by omega)) rfl rfl ?_; refine d_guard rfl rfl (fun hg => by have hq := hg; (try simp at hq); have hn2 := hnx (by omega); rw [hg]; exact n_add rfl rfl (by omega)) rfl rfl ?_; refine d_guard rfl rfl (fun hg => by rw [hg]; exact n_gtr rfl rfl) rfl rfl ?_; refine d_neu (n_pick_bool rfl (fun h => by first | rfl | (rw [h]; rfl)) (fun h => by first | rfl | (rw [h]; rfl))) rfl rfl ?_; refine d_neu (n_assign rfl rfl) rfl rfl ?_; refine d_nil ?_
      refine k1 ?_; refine k10 ?_
      have h3 : canDown l a b k = if decide ((k : Int) + 1 = l.length) = true then true else decide (c.Old + c.OldLen + 1 < (cAt l (k + 1)).Old) := by
        rw [hcd, hc]
        by_cases q : k + 1 = l.length
        · have h4 : downT l k t f n := ⟨⟨h1, h2⟩, .inl q⟩
          simp [h4, show (k : Int) + 1 = l.length by omega]
        · have q2 : ¬ ((k : Int) + 1 = l.length) := by omega
          have h4 : downT l k t f n ↔ (cAt l k).Old + (cAt l k).OldLen + 1 < (cAt l (k + 1)).Old := ⟨fun h => h.2.resolve_left q, fun h => ⟨⟨h1, h2⟩, .inr h⟩⟩
          simp [h4, q2]
      exact ret_ret (ret1 rfl rfl rfl) (by rw [h3])
  · rw [hr] at hs
    refine FnOk.intro Tryz.func121 (by decide) rfl rfl rfl rfl ?_
    refine k2 ?_
    refine c_region ?_; refine l_neu (n_assign rfl rfl) rfl ?_; refine l_nil ?_
    refine k1 ?_; refine k2 ?_
    refine c_region ?_; refine l_neu (n_move rfl rfl) rfl ?_; refine l_neu (n_move rfl rfl) rfl ?_; refine l_neu (n_indexAddr rfl (.pure _ _ _ _) rfl (by omega) hv) rfl ?_; refine l_neu (n_loads_eref rfl rfl) rfl ?_; refine l_neu (n_move rfl rfl) rfl ?_; refine l_neu (n_move rfl rfl) rfl ?_; refine l_call (hs) rfl rfl rfl ?_; rintro _ rfl; refine l_neu (n_move rfl rfl) rfl ?_; refine l_neu (n_extract rfl rfl) rfl ?_; refine l_neu (n_extract rfl rfl) rfl ?_; refine l_neu (n_extract rfl rfl) rfl ?_; refine l_neu (n_extract rfl rfl) rfl ?_; refine l_neu (n_assign rfl rfl) rfl ?_; refine l_neu (n_assign rfl rfl) rfl ?_; refine l_neu (n_assign rfl rfl) rfl ?_; refine l_neu (n_assign rfl rfl) rfl ?_; refine l_nil ?_
    refine k1 ?_; refine k2 ?_; refine k2 ?_
    refine c_region_draw (by kernel_rfl) (by kernel_rfl) ?_; refine d_neu (n_move rfl rfl) rfl rfl ?_; refine d_neu (n_not rfl) rfl rfl ?_; refine d_neu (n_move rfl rfl) rfl rfl ?_; refine d_skip rfl rfl (by decide) rfl rfl ?_; refine d_skip rfl rfl (by decide) rfl rfl ?_; refine d_skip rfl rfl (by decide) rfl rfl ?_; refine d_skip rfl rfl (by decide) rfl rfl ?_; refine d_skip rfl rfl (by decide) rfl rfl ?_; refine d_skip rfl rfl (by decide) rfl rfl ?_; refine d_neu (n_pick_t rfl (rfl) rfl) rfl rfl ?_; refine d_neu (n_move rfl rfl) rfl rfl ?_; refine d_skip rfl rfl (by decide) rfl rfl ?_; refine d_skip rfl rfl (by decide) rfl rfl ?_; refine d_skip rfl rfl (by decide) rfl rfl ?_; refine d_skip rfl rfl (by decide) rfl rfl ?_; refine d_skip rfl rfl (by decide) rfl rfl ?_; refine d_skip rfl rfl (by decide) rfl rfl ?_; refine d_skip rfl rfl (by decide) rfl rfl ?_; refine d_skip rfl rfl (by decide) rfl rfl ?_; refine d_skip rfl rfl (by decide) rfl rfl ?_; refine d_skip rfl rfl (by decide) rfl rfl ?_; refine d_skip rfl rfl (by decide) rfl rfl ?_; refine d_neu (n_pick_t rfl (rfl) rfl) rfl rfl ?_; refine d_nil ?_
    refine k1 ?_
    refine c_cond rfl (fun ht => ?_) (fun ht => ?_)
    · refine k2 ?_
      refine c_region ?_; refine l_neu (n_assign rfl rfl) rfl ?_; refine l_nil ?_
      refine k1 ?_; refine k10 ?_; refine k11 ?_
      exact ret_ret (ret1 rfl rfl rfl) (by rw [hcd])
    · cases ht
theorem moved10_ok (l : List Change) (k : Nat) (hk : k < l.length) (hl : l.length ≤ 32768) (h1 : -4096 ≤ (cAt l k).Old ∧ (cAt l k).Old ≤ 4096) (h2 : -4096 ≤ (cAt l k).New ∧ (cAt l k).New ≤ 4096) :
    FnOk Tryz.prog 122 [pChanges l, pInt k, pInt 1] (fun rs => rs = [pChanges (movedOf l k)]) := by
  obtain ⟨c, hc⟩ : ∃ c, c = cAt l k := ⟨_, rfl⟩
  have hv : l[k]? = some c := by rw [hc]; exact cAt_get hk
  rw [← hc] at h1 h2
  obtain ⟨c', hc'⟩ : ∃ c' : Change, c' = { c with Old := c.Old + 1 } := ⟨_, rfl⟩
  have hv' : (l.set k c')[k]? = some c' := List.getElem?_set_self hk
  have hfin : (l.set k c').set k ({ c' with New := c'.New + 1 } : Change) = movedOf l k := by
    rw [List.set_set]; unfold movedOf; rw [← hc, hc']; rfl
  have hl' : (l.set k c').length = l.length := by simp
  refine FnOk.intro Tryz.func122 (by decide) rfl rfl rfl rfl ?_
  refine k2 ?_
  refine c_region ?_; refine l_neu (n_assign rfl rfl) rfl ?_; refine l_nil ?_
  refine k1 ?_; refine k2 ?_
  refine c_region ?_; refine l_effv (f_buildG 5 _ changeC rfl (by first | rfl | (simp [frFree, obFree, Ob.free, SV.free, S1.free, TC.free] <;> rfl))) rfl ?_; refine l_neu (n_move rfl rfl) rfl ?_; refine l_effv (e_append_g rfl rfl rfl (.pure _ _ _ _) (by (simp; omega)) rfl) rfl ?_; refine l_neu (n_assign rfl rfl) rfl ?_; refine l_nil ?_
  simp only [List.nil_append]
  refine k1 ?_; refine k2 ?_
  refine c_region ?_; refine l_neu (n_move rfl rfl) rfl ?_; refine l_neu (n_move rfl rfl) rfl ?_; refine l_neu (n_move rfl rfl) rfl ?_; refine l_neu (n_move rfl rfl) rfl ?_; refine l_neu (n_indexAddr_g rfl rfl rfl (by omega) (by omega)) rfl ?_; refine l_neu (n_field_mref rfl) rfl ?_; refine l_neu (n_load_g rfl rfl hv rfl) rfl ?_; refine l_neu (n_move rfl rfl) rfl ?_; refine l_neu (n_add rfl rfl (by omega)) rfl ?_; refine l_neu (n_indexAddr_g rfl rfl rfl (by omega) (by omega)) rfl ?_; refine l_neu (n_field_mref rfl) rfl ?_; refine l_eff (e_store_g (({ c with Old := c.Old + 1 } : Change)) TySz.out rfl rfl hv rfl rfl rfl rfl (fun _ _ _ h => all2_unp h) (by intro j h1 h2; rcases j with _ | _ | _ | _ | _ | _ | _ | j <;> first | rfl | omega)) ?_; refine l_nil ?_
  rw [Int.toNat_natCast, ← hc']
  refine k1 ?_; refine k2 ?_
  refine c_region ?_; refine l_neu (n_move rfl rfl) rfl ?_; refine l_neu (n_move rfl rfl) rfl ?_; refine l_neu (n_move rfl rfl) rfl ?_; refine l_neu (n_move rfl rfl) rfl ?_; refine l_neu (n_indexAddr_g rfl rfl rfl (by omega) (by (rw [hl']; omega))) rfl ?_; refine l_neu (n_field_mref rfl) rfl ?_; refine l_neu (n_load_g rfl rfl hv' rfl) rfl ?_; refine l_neu (n_move rfl rfl) rfl ?_; refine l_neu (n_add rfl rfl (by (rw [hc']; dsimp only; omega))) rfl ?_; refine l_neu (n_indexAddr_g rfl rfl rfl (by omega) (by (rw [hl']; omega))) rfl ?_; refine l_neu (n_field_mref rfl) rfl ?_; refine l_eff (e_store_g (({ c' with New := c'.New + 1 } : Change)) TySz.out rfl rfl hv' rfl rfl rfl rfl (fun _ _ _ h => all2_unp h) (by intro j h1 h2; rcases j with _ | _ | _ | _ | _ | _ | _ | j <;> first | rfl | omega)) ?_; refine l_nil ?_
  rw [Int.toNat_natCast, hfin]
  refine k1 ?_; refine k2 ?_
  refine c_sees (Sees.growBuf (t := 7) rfl rfl rfl) ?_
  refine c_region ?_; refine l_neu (n_move rfl rfl) rfl ?_; refine l_neu (n_assign rfl rfl) rfl ?_; refine l_nil ?_
  refine k1 ?_; refine k10 ?_
  exact ret_ret (ret1 rfl rfl rfl) rfl
theorem fit_pairs {x y : List Str} {names : List Str} {l : List Change} (h : ScFit x y l) : ∀ p ∈ matchedOf l ((idsOf names x).length : Int), PairAt (idsOf names x) (idsOf names y) p := by
  intro p hp
  rw [show ((idsOf names x).length : Int) = x.length by simp [idsOf]] at hp
  obtain ⟨h1, h2, v, h3, h4⟩ := h.pairs p hp
  refine ⟨h1, h2, placeOf names v 0, ?_, ?_⟩
  · unfold idsOf; rw [List.getElem?_map, h3]; rfl
  · unfold idsOf; rw [List.getElem?_map, h4]; rfl
theorem rDown10_ok (x y names : List Str) (l : List Change) (h : ScFit x y l) (hl : l.length ≤ 32768) (hx : ∀ s ∈ x, s ∈ names) (hy : ∀ s ∈ y, s ∈ names) :
    FnOk Tryz.prog 79 [pChanges l, pInts (idsOf names x), pInts (idsOf names y)] (fun rs => rs = [pChanges (downOf l (idsOf names x) (idsOf names y)), pInt 0]) := by
  obtain ⟨a, ha⟩ : ∃ a, a = idsOf names x := ⟨_, rfl⟩
  obtain ⟨b, hb⟩ : ∃ b, b = idsOf names y := ⟨_, rfl⟩
  have hpp := fit_pairs (names := names) h
  have ia : IdsOf x a := by rw [ha]; exact idsOf_ids hx
  have ib : IdsOf y b := by rw [hb]; exact idsOf_ids hy
  rw [← ha, ← hb] at hpp ⊢
  have hla := ia.len
  have hlb := ib.len
  have hxl := h.lx
  have hyl := h.ly
  have hck := h.check
  rw [← hla, ← hlb] at hck
  refine FnOk.intro Tryz.func79 (by decide) rfl rfl rfl rfl ?_
  refine k2 ?_
  refine c_region ?_; refine l_neu (n_assign rfl rfl) rfl ?_; refine l_neu (n_assign rfl rfl) rfl ?_; refine l_nil ?_
  refine k1 ?_; refine k2 ?_; refine k2 ?_
  refine c_region ?_; refine l_neu (n_move rfl rfl) rfl ?_; refine l_neu (n_move rfl rfl) rfl ?_; refine l_neu (n_move rfl rfl) rfl ?_; refine l_call (rFits8_ok l a b hl hck hpp) rfl rfl rfl ?_; rintro _ rfl; refine l_neu (n_not rfl) rfl ?_; refine l_nil ?_
  refine k1 ?_
  refine c_cond rfl (fun ht => ?_) (fun ht => ?_)
  · cases ht
  refine k5 ?_; refine k1 ?_; refine k2 ?_; refine k2 ?_
  refine c_region ?_; refine l_neu (n_move rfl rfl) rfl ?_; refine l_neu (n_len rfl (.pure _ _ _ _)) rfl ?_; refine l_neu (n_sub rfl rfl (by omega)) rfl ?_; refine l_neu (n_assign rfl rfl) rfl ?_; refine l_nil ?_
  refine k1 ?_; refine k3 ?_
  refine c_while (X := Nat × List Change) (fun s => ([(0, sList Change 4 changeC s.2), (1, sList Int 1 intC a), (2, sList Int 1 intC b), (8, sInt ((s.1 : Int) - 1))], [])) (fun s => s.1 ≤ l.length ∧ s.2.length = l.length ∧ ScFit x y s.2 ∧ slideAll a b s.1 s.2 = downOf l a b) (fun s => s.1) (l.length, l) ⟨Nat.le_refl _, rfl, h, rfl⟩ (Sees.of ⟨le1 rfl, le1 rfl, le1 rfl, le1 rfl, trivial⟩ trivial) ?_
  rintro ⟨n, l1⟩ ⟨hn, hl1, hf1, hs1⟩
  dsimp only at hn hl1 hf1 hs1 ⊢
  refine k2 ?_; refine k2 ?_
  refine c_region ?_; refine l_neu (n_move rfl rfl) rfl ?_; refine l_neu (n_geq rfl rfl) rfl ?_; refine l_nil ?_
  refine k1 ?_
  refine c_cond rfl (fun ht => ?_) (fun ht => ?_)
  · have hn0 : 0 < n := by have := of_decide_eq_true ht; omega
    obtain ⟨k, rfl⟩ : ∃ k, n = k + 1 := ⟨n - 1, by omega⟩
    rw [show ((k + 1 : Nat) : Int) - 1 = k by omega]
    refine k5 ?_; refine k1 ?_; refine k2 ?_; refine k3 ?_; refine k3 ?_
    refine c_while (X := List Change) (fun l2 => ([(0, sList Change 4 changeC l2), (1, sList Int 1 intC a), (2, sList Int 1 intC b), (8, sInt k)], [])) (fun l2 => l2.length = l.length ∧ ScFit x y l2 ∧ slideOne a b l2 k = slideOne a b l1 k) (fun l2 => measK l2 a b k) l1 ⟨hl1, hf1, rfl⟩ (Sees.of ⟨le1 rfl, le1 rfl, le1 rfl, le1 rfl, trivial⟩ trivial) ?_
    rintro l2 ⟨hl2, hf2, hs2⟩
    dsimp only at hl2 hf2 hs2 ⊢
    have hok2 := hf2.ok
    rw [← hla, ← hlb] at hok2
    have hk2 : k < l2.length := by omega
    refine k2 ?_; refine k2 ?_
    refine c_region ?_; refine l_neu (n_move rfl rfl) rfl ?_; refine l_neu (n_move rfl rfl) rfl ?_; refine l_neu (n_move rfl rfl) rfl ?_; refine l_neu (n_move rfl rfl) rfl ?_; refine l_call (down10_ok l2 a b k hk2 (by omega) (by omega) (by omega) hok2) rfl rfl rfl ?_; rintro _ rfl; refine l_nil ?_
    refine k1 ?_
    refine c_cond rfl (fun ht => ?_) (fun ht => ?_)
    · have hg := hok2.get k hk2
      have hst := slideOne_down ia ib hf2 hk2 ht
      have hm := meas_down ia ib hf2 hk2 ht
      obtain ⟨⟨g1, g2⟩, _, ⟨g3, g4⟩, _⟩ := hg
      refine k5 ?_; refine k1 ?_; refine k3 ?_
      refine c_region ?_; refine l_neu (n_move rfl rfl) rfl ?_; refine l_neu (n_move rfl rfl) rfl ?_; refine l_call (moved10_ok l2 k hk2 (by omega) ⟨by omega, g2⟩ ⟨by omega, g4⟩) rfl rfl rfl ?_; rintro _ rfl; refine l_neu (n_assign rfl rfl) rfl ?_; refine l_nil ?_
      refine k4 ?_; refine k1 ?_
      exact ⟨movedOf l2 k, ⟨by rw [movedOf_length]; exact hl2, hf2.down ia ib hk2 ht, by rw [← hst]; exact hs2⟩, hm, Sees.of ⟨le1 rfl, le1 rfl, le1 rfl, le1 rfl, trivial⟩ trivial⟩
    · have hst := slideOne_stop (a := a) (b := b) ht
      rw [hst] at hs2
      have hsl : slideAll a b (k + 1) l1 = slideAll a b k l2 := by rw [hs2]; rfl
      rw [hsl] at hs1
      refine k6 ?_; refine k7 ?_; refine k7 ?_; refine k8 rfl ?_; refine k4 ?_; refine k1 ?_
      refine c_region ?_; refine l_neu (n_move rfl rfl) rfl ?_; refine l_neu (n_sub rfl rfl (by omega)) rfl ?_; refine l_neu (n_assign rfl rfl) rfl ?_; refine l_nil ?_
      refine k1 ?_
      exact ⟨(k, l2), ⟨by dsimp only; omega, hl2, hf2, hs1⟩, by dsimp only; omega, Sees.of ⟨le1 rfl, le1 rfl, le1 rfl, le1 rfl, trivial⟩ trivial⟩
  · have hn0 : n = 0 := by have := of_decide_eq_false ht; omega
    subst hn0
    have hs1 : l1 = downOf l a b := hs1
    refine k6 ?_; refine k2 ?_
    refine c_region ?_; refine l_effv (f_buildBuf 9 (c := changeC) (ys := []) asm_nil rfl rfl rfl (by first | rfl | (simp [frFree, obFree, Ob.free, SV.free, S1.free, TC.free] <;> rfl))) rfl ?_; refine l_neu (n_move rfl rfl) rfl ?_; refine l_effv (e_append rfl rfl rfl (.pure _ _ _ _) (by (simp; omega)) rfl) rfl ?_; refine l_neu (n_assign rfl rfl) rfl ?_; refine l_neu (n_assign rfl rfl) rfl ?_; refine l_nil ?_
    simp only [List.nil_append]
    refine k1 ?_; refine k10 ?_
    exact ret_ret (ret2 rfl rfl rfl rfl rfl) (by rw [hs1])
end Go.Proofs.YtjjidificdmnmaaGreatDoor
