/- Walks of the program's functions. -/
import Derived.Test.YtjjidificdmnmaaGreatDoorFb
import Derived.Test.YtjjidificdmnmaaGreatDoorFs
import Derived.Test.YtjjidificdmnmaaGreatDoorAn
namespace Go.Proofs.YtjjidificdmnmaaGreatDoor
open Go Go.AL
set_option maxRecDepth 100000
theorem in8_ok (n : Int) : FnOk Tryz.prog 164 [pInt n] (fun rs => rs = [pBool (decide (in81 n))]) := by
  refine FnOk.intro Tryz.func164 (by decide) rfl rfl rfl rfl ?_
  refine k2 ?_
  refine c_region ?_; refine l_neu (n_assign rfl rfl) rfl ?_; refine l_nil ?_
  refine k1 ?_; refine k2 ?_
  refine c_region ?_; refine l_neu (n_move rfl rfl) rfl ?_; refine l_neu (n_geq rfl rfl) rfl ?_; refine l_neu (n_move rfl rfl) rfl ?_; refine l_guard rfl rfl rfl rfl (fun hg => by rw [hg]; exact n_move rfl rfl) ?_; refine l_guard rfl rfl rfl rfl (fun hg => by rw [hg]; exact n_leq rfl rfl) ?_; refine l_neu (n_pick_bool rfl (fun h => by first | rfl | (rw [h]; rfl)) (fun h => by first | rfl | (rw [h]; rfl))) rfl ?_; refine l_neu (n_assign rfl rfl) rfl ?_; refine l_nil ?_
  refine k1 ?_; refine k10 ?_
  refine ret_ret (ret1 rfl rfl rfl) ?_
  simp only [and_pick]
  rfl
theorem check8_walk (l : List Change) (m n : Int) (hl : l.length ≤ 1073741824) : FnOk Tryz.prog 123 [pChanges l, pInt m, pInt n] (fun rs => rs = [pInt (check8 l m n)]) := by
  refine FnOk.intro Tryz.func123 (by decide) rfl rfl rfl rfl ?_
  refine k2 ?_
  refine c_region ?_; refine l_neu (n_assign rfl rfl) rfl ?_; refine l_nil ?_
  refine k1 ?_; refine k2 ?_; refine k2 ?_
  refine c_region ?_; refine l_neu (n_move rfl rfl) rfl ?_; refine l_call (in8_ok m) rfl rfl rfl ?_; rintro _ rfl; refine l_neu (n_not rfl) rfl ?_; refine l_neu (n_move rfl rfl) rfl ?_; refine l_guard rfl rfl rfl rfl (fun hg => by rw [hg]; exact n_move rfl rfl) ?_; refine l_guard rfl rfl rfl rfl (fun hg => by have hq := hg; (try simp at hq); rw [hg]; exact n_call1 (in8_ok n) rfl rfl) ?_; refine l_guard rfl rfl rfl rfl (fun hg => by rw [hg]; exact n_not rfl) ?_; refine l_neu (n_pick_bool rfl (fun h => by first | rfl | (rw [h]; rfl)) (fun h => by first | rfl | (rw [h]; rfl))) rfl ?_; refine l_nil ?_
  refine k1 ?_
  refine c_cond rfl (fun ht => ?_) (fun ht => ?_)
  · simp only [← decide_not, or_pick] at ht
    have h : ¬ in81 m ∨ ¬ in81 n := of_decide_eq_true ht
    refine k2 ?_
    refine c_region ?_; refine l_neu (n_assign rfl rfl) rfl ?_; refine l_nil ?_
    refine k1 ?_; refine k10 ?_; refine k11 ?_
    exact ret_ret (ret1 rfl rfl rfl) (by rw [check8, if_pos h])
  simp only [← decide_not, or_pick] at ht
  have h : ¬ (¬ in81 m ∨ ¬ in81 n) := of_decide_eq_false ht
  have hm : 0 ≤ m ∧ m ≤ 4096 := by by_cases hm : in81 m; exact hm; exact absurd (.inl hm) h
  have hn : 0 ≤ n ∧ n ≤ 4096 := by by_cases hn : in81 n; exact hn; exact absurd (.inr hn) h
  refine k5 ?_; refine k1 ?_; refine k2 ?_
  refine c_region ?_; refine l_neu (n_assign rfl rfl) rfl ?_; refine l_neu (n_assign rfl rfl) rfl ?_; refine l_nil ?_
  refine k1 ?_; refine k2 ?_; refine k2 ?_
  refine c_region ?_; refine l_neu (n_assign rfl rfl) rfl ?_; refine l_nil ?_
  refine k1 ?_; refine k3 ?_
  refine c_while (X := Nat × Int × Int) (fun x => ([(0, sList Change 4 changeC l), (1, sInt m), (2, sInt n), (7, sInt x.2.1), (8, sInt x.2.2), (9, sInt x.1)], [])) (fun x => x.1 ≤ l.length ∧ scriptGo 0 0 0 l m n = scriptGo x.1 x.2.1 x.2.2 (l.drop x.1) m n ∧ 0 ≤ x.2.1 ∧ x.2.1 ≤ 8192 ∧ 0 ≤ x.2.2 ∧ x.2.2 ≤ 8192) (fun x => l.length - x.1) (0, 0, 0) ⟨Nat.zero_le _, rfl, by decide, by decide, by decide, by decide⟩ (Sees.of ⟨le1 rfl, le1 rfl, le1 rfl, le1 rfl, le1 rfl, le1 rfl, trivial⟩ trivial) ?_
  rintro ⟨k, i, j⟩ ⟨hk, hp, hi, hi2, hj, hj2⟩
  dsimp only at hk hp hi hi2 hj hj2 ⊢
  refine k2 ?_; refine k2 ?_
  refine c_region ?_; refine l_neu (n_move rfl rfl) rfl ?_; refine l_neu (n_move rfl rfl) rfl ?_; refine l_neu (n_len rfl (.pure _ _ _ _)) rfl ?_; refine l_neu (n_lss rfl rfl) rfl ?_; refine l_nil ?_
  refine k1 ?_
  refine c_cond rfl (fun ht => ?_) (fun ht => ?_)
  · have hlt : k < l.length := by have := of_decide_eq_true ht; omega
    have hv : l[k]? = some l[k] := by simp [hlt]
    obtain ⟨c, hc⟩ : ∃ c, c = l[k] := ⟨_, rfl⟩
    rw [List.drop_eq_getElem_cons hlt, scriptGo] at hp
    rw [← hc] at hv hp
    refine k5 ?_; refine k1 ?_; refine k2 ?_; refine k3 ?_; refine k2 ?_
    refine c_region ?_; refine l_neu (n_move rfl rfl) rfl ?_; refine l_neu (n_move rfl rfl) rfl ?_; refine l_neu (n_indexAddr rfl (.pure _ _ _ _) rfl (by omega) hv) rfl ?_; refine l_neu (n_loads_eref rfl rfl) rfl ?_; refine l_effv (f_alloc 10 rfl) rfl ?_; refine l_eff (e_store_ref TySz.out rfl rfl rfl rfl rfl rfl) ?_; refine l_nil ?_
    refine k1 ?_; refine k2 ?_; refine k2 ?_
    refine c_region ?_; refine l_neu (n_field_ref rfl) rfl ?_; refine l_neu (n_load_ref rfl rfl rfl) rfl ?_; refine l_call (in8_ok c.Old) rfl rfl rfl ?_; rintro _ rfl; refine l_neu (n_not rfl) rfl ?_; refine l_neu (n_move rfl rfl) rfl ?_; refine l_guard rfl rfl rfl rfl (fun hg => by rw [hg]; exact n_field_ref rfl) ?_; refine l_guard rfl rfl rfl rfl (fun hg => by rw [hg]; exact n_load_ref rfl rfl rfl) ?_; refine l_guard rfl rfl rfl rfl (fun hg => by have hq := hg; (try simp at hq); rw [hg]; exact n_call1 (in8_ok c.OldLen) rfl rfl) ?_; refine l_guard rfl rfl rfl rfl (fun hg => by rw [hg]; exact n_not rfl) ?_; refine l_neu (n_pick_bool rfl (fun h => by first | rfl | (rw [h]; rfl)) (fun h => by first | rfl | (rw [h]; rfl))) rfl ?_; refine l_neu (n_move rfl rfl) rfl ?_; refine l_guard rfl rfl rfl rfl (fun hg => by rw [hg]; exact n_field_ref rfl) ?_; refine l_guard rfl rfl rfl rfl (fun hg => by rw [hg]; exact n_load_ref rfl rfl rfl) ?_; refine l_guard rfl rfl rfl rfl (fun hg => by have hq := hg; (try simp at hq); rw [hg]; exact n_call1 (in8_ok c.New) rfl rfl) ?_; refine l_guard rfl rfl rfl rfl (fun hg => by rw [hg]; exact n_not rfl) ?_; refine l_neu (n_pick_bool rfl (fun h => by first | rfl | (rw [h]; rfl)) (fun h => by first | rfl | (rw [h]; rfl))) rfl ?_; refine l_neu (n_move rfl rfl) rfl ?_; refine l_guard rfl rfl rfl rfl (fun hg => by rw [hg]; exact n_field_ref rfl) ?_; refine l_guard rfl rfl rfl rfl (fun hg => by rw [hg]; exact n_load_ref rfl rfl rfl) ?_; refine l_guard rfl rfl rfl rfl (fun hg => by have hq := hg; (try simp at hq); rw [hg]; exact n_call1 (in8_ok c.NewLen) rfl rfl) ?_; refine l_guard rfl rfl rfl rfl (fun hg => by rw [hg]; exact n_not rfl) ?_; refine l_neu (n_pick_bool rfl (fun h => by first | rfl | (rw [h]; rfl)) (fun h => by first | rfl | (rw [h]; rfl))) rfl ?_; refine l_neu (n_move rfl rfl) rfl ?_; refine l_guard rfl rfl rfl rfl (fun hg => by rw [hg]; exact n_field_ref rfl) ?_; refine l_guard rfl rfl rfl rfl (fun hg => by rw [hg]; exact n_load_ref rfl rfl rfl) ?_; refine l_guard rfl rfl rfl rfl (fun hg => by rw [hg]; exact n_field_ref rfl) ?_; refine l_guard rfl rfl rfl rfl (fun hg => by rw [hg]; exact n_load_ref rfl rfl rfl) ?_; refine l_guard rfl rfl rfl rfl (fun hg => by have hq := hg; (try simp at hq); simp [in81] at hq; rw [hg]; exact n_add rfl rfl (by omega)) ?_; refine l_guard rfl rfl rfl rfl (fun hg => by rw [hg]; exact n_eql rfl rfl) ?_; refine l_neu (n_pick_bool rfl (fun h => by first | rfl | (rw [h]; rfl)) (fun h => by first | rfl | (rw [h]; rfl))) rfl ?_; refine l_neu (n_move rfl rfl) rfl ?_; refine l_guard rfl rfl rfl rfl (fun hg => by rw [hg]; exact n_field_ref rfl) ?_; refine l_guard rfl rfl rfl rfl (fun hg => by rw [hg]; exact n_load_ref rfl rfl rfl) ?_; refine l_guard rfl rfl rfl rfl (fun hg => by rw [hg]; exact n_move rfl rfl) ?_; refine l_guard rfl rfl rfl rfl (fun hg => by have hq := hg; (try simp at hq); simp [in81] at hq; rw [hg]; exact n_sub rfl rfl (by omega)) ?_; refine l_guard rfl rfl rfl rfl (fun hg => by rw [hg]; exact n_field_ref rfl) ?_
    refine l_guard rfl rfl rfl rfl (fun hg => by rw [hg]; exact n_load_ref rfl rfl rfl) ?_; refine l_guard rfl rfl rfl rfl (fun hg => by rw [hg]; exact n_move rfl rfl) ?_; refine l_guard rfl rfl rfl rfl (fun hg => by have hq := hg; (try simp at hq); simp [in81] at hq; rw [hg]; exact n_sub rfl rfl (by omega)) ?_; refine l_guard rfl rfl rfl rfl (fun hg => by rw [hg]; exact n_neq rfl rfl) ?_; refine l_neu (n_pick_bool rfl (fun h => by first | rfl | (rw [h]; rfl)) (fun h => by first | rfl | (rw [h]; rfl))) rfl ?_; refine l_neu (n_move rfl rfl) rfl ?_; refine l_guard rfl rfl rfl rfl (fun hg => by rw [hg]; exact n_field_ref rfl) ?_; refine l_guard rfl rfl rfl rfl (fun hg => by rw [hg]; exact n_load_ref rfl rfl rfl) ?_; refine l_guard rfl rfl rfl rfl (fun hg => by rw [hg]; exact n_move rfl rfl) ?_; refine l_guard rfl rfl rfl rfl (fun hg => by rw [hg]; exact n_lss rfl rfl) ?_; refine l_neu (n_pick_bool rfl (fun h => by first | rfl | (rw [h]; rfl)) (fun h => by first | rfl | (rw [h]; rfl))) rfl ?_; refine l_neu (n_move rfl rfl) rfl ?_; refine l_guard rfl rfl rfl rfl (fun hg => by rw [hg]; exact n_move rfl rfl) ?_; refine l_guard rfl rfl rfl rfl (fun hg => by rw [hg]; exact n_gtr rfl rfl) ?_; refine l_guard rfl rfl rfl rfl (fun hg => by rw [hg]; exact n_move rfl rfl) ?_; refine l_guardW rfl rfl rfl (.gd (.val _)) rfl (fun hg => by obtain ⟨hg1, hg2⟩ := gd_and hg; (try rw [hg1]); (try rw [hg2]); exact n_field_ref rfl) ?_; refine l_guardW rfl rfl rfl (.gd (.val _)) rfl (fun hg => by obtain ⟨hg1, hg2⟩ := gd_and hg; (try rw [hg1]); (try rw [hg2]); exact n_load_ref rfl rfl rfl) ?_; refine l_guardW rfl rfl rfl (.gd (.val _)) rfl (fun hg => by obtain ⟨hg1, hg2⟩ := gd_and hg; (try rw [hg1]); (try rw [hg2]); exact n_move rfl rfl) ?_; refine l_guardW rfl rfl rfl (.gd (.val _)) rfl (fun hg => by obtain ⟨hg1, hg2⟩ := gd_and hg; (try rw [hg1]); (try rw [hg2]); exact n_eql rfl rfl) ?_; refine l_guard rfl rfl rfl rfl (fun hg => by rw [hg]; exact n_pick_bool rfl (fun h => by first | rfl | (rw [h]; rfl)) (fun h => by first | rfl | (rw [h]; rfl))) ?_; refine l_neu (n_pick_bool rfl (fun h => by first | rfl | (rw [h]; rfl)) (fun h => by first | rfl | (rw [h]; rfl))) rfl ?_; refine l_nil ?_
    refine k1 ?_
    refine c_cond rfl (fun ht => ?_) (fun ht => ?_)
    · simp only [← decide_not, or_pick, and_pick] at ht
      have h : badC k i j c := of_decide_eq_true ht
      refine k2 ?_
      refine c_region ?_; refine l_neu (n_assign rfl rfl) rfl ?_; refine l_nil ?_
      refine k1 ?_; refine k10 ?_; refine k11 ?_; refine k12 ?_; refine k11 ?_; refine k11 ?_; refine k12 ?_; refine k11 ?_
      exact ret_ret (ret1 rfl rfl rfl) (by rw [check8, if_neg ‹¬ (¬ in81 m ∨ ¬ in81 n)›, hp, decide_eq_false (fun hh => hh h)]; rfl)
    · simp only [← decide_not, or_pick, and_pick] at ht
      have h : ¬ badC k i j c := of_decide_eq_false ht
      have hr : (0 ≤ c.Old ∧ c.Old ≤ 4096) ∧ (0 ≤ c.OldLen ∧ c.OldLen ≤ 4096) ∧ (0 ≤ c.New ∧ c.New ≤ 4096) ∧ (0 ≤ c.NewLen ∧ c.NewLen ≤ 4096) := by
        unfold badC at h
        by_cases a1 : in81 c.Old <;> by_cases a2 : in81 c.OldLen <;> by_cases a3 : in81 c.New <;> by_cases a4 : in81 c.NewLen <;> simp [a1, a2, a3, a4] at h
        exact ⟨a1, a2, a3, a4⟩
      rw [decide_eq_true h, Bool.true_and] at hp
      refine k5 ?_; refine k1 ?_
      refine c_region_draw (by kernel_rfl) (by kernel_rfl) ?_; refine d_neu (n_field_ref rfl) rfl rfl ?_; refine d_neu (n_load_ref rfl rfl rfl) rfl rfl ?_; refine d_neu (n_field_ref rfl) rfl rfl ?_; refine d_neu (n_load_ref rfl rfl rfl) rfl rfl ?_; refine d_neu (n_add rfl rfl (by omega)) rfl rfl ?_; refine d_neu (n_field_ref rfl) rfl rfl ?_; refine d_neu (n_load_ref rfl rfl rfl) rfl rfl ?_; refine d_neu (n_field_ref rfl) rfl rfl ?_; refine d_neu (n_load_ref rfl rfl rfl) rfl rfl ?_; refine d_neu (n_add rfl rfl (by omega)) rfl rfl ?_; refine d_neu (n_assign rfl rfl) rfl rfl ?_; refine d_neu (n_assign rfl rfl) rfl rfl ?_; refine d_nil ?_
      refine k4 ?_; refine k1 ?_
      refine c_region ?_; refine l_neu (n_move rfl rfl) rfl ?_; refine l_neu (n_add rfl rfl (by omega)) rfl ?_; refine l_neu (n_assign rfl rfl) rfl ?_; refine l_nil ?_
      refine k1 ?_
      exact ⟨(k + 1, c.Old + c.OldLen, c.New + c.NewLen), ⟨by dsimp only; omega, hp, by dsimp only; omega, by dsimp only; omega, by dsimp only; omega, by dsimp only; omega⟩, by dsimp only; omega, Sees.of ⟨le1 rfl, le1 rfl, le1 rfl, le1 rfl, le1 rfl, le1 rfl, trivial⟩ trivial⟩
  · have hk' : k = l.length := by have := of_decide_eq_false ht; omega
    rw [hk', List.drop_eq_nil_of_le (Nat.le_refl _), scriptGo] at hp
    refine k6 ?_; refine k2 ?_; refine k2 ?_
    refine c_region ?_; refine l_neu (n_move rfl rfl) rfl ?_; refine l_neu (n_move rfl rfl) rfl ?_; refine l_neu (n_sub rfl rfl (by omega)) rfl ?_; refine l_neu (n_move rfl rfl) rfl ?_; refine l_neu (n_move rfl rfl) rfl ?_; refine l_neu (n_sub rfl rfl (by omega)) rfl ?_; refine l_neu (n_neq rfl rfl) rfl ?_; refine l_neu (n_move rfl rfl) rfl ?_; refine l_guard rfl rfl rfl rfl (fun hg => by rw [hg]; exact n_move rfl rfl) ?_; refine l_guard rfl rfl rfl rfl (fun hg => by rw [hg]; exact n_move rfl rfl) ?_; refine l_guard rfl rfl rfl rfl (fun hg => by rw [hg]; exact n_lss rfl rfl) ?_; refine l_neu (n_pick_bool rfl (fun h => by first | rfl | (rw [h]; rfl)) (fun h => by first | rfl | (rw [h]; rfl))) rfl ?_; refine l_nil ?_
    refine k1 ?_
    refine c_cond rfl (fun ht => ?_) (fun ht => ?_)
    · have h2 := of_decide_eq_true (or_pick.symm.trans ht)
      refine k2 ?_
      refine c_region ?_; refine l_neu (n_assign rfl rfl) rfl ?_; refine l_nil ?_
      refine k1 ?_; refine k10 ?_; refine k11 ?_
      exact ret_ret (ret1 rfl rfl rfl) (by rw [check8, if_neg h, hp, decide_eq_false (fun hh => hh h2)]; rfl)
    · have h2 := of_decide_eq_false (or_pick.symm.trans ht)
      refine k5 ?_; refine k1 ?_; refine k2 ?_
      refine c_region ?_; refine l_neu (n_assign rfl rfl) rfl ?_; refine l_nil ?_
      refine k1 ?_; refine k10 ?_
      exact ret_ret (ret1 rfl rfl rfl) (by rw [check8, if_neg h, hp, decide_eq_true h2]; rfl)
theorem group_walk (l : List Change) (m n ctx : Int) (hl : l.length ≤ 1073741824) : FnOk Tryz.prog 80 [pChanges l, pInt m, pInt n, pInt ctx] (fun rs => rs = [pHunks (groupOf l m n ctx).1, pInt (groupOf l m n ctx).2]) := by
  refine FnOk.intro Tryz.func80 (by decide) rfl rfl rfl rfl ?_
  refine k2 ?_
  refine c_region ?_; refine l_neu (n_assign rfl rfl) rfl ?_; refine l_neu (n_assign rfl rfl) rfl ?_; refine l_nil ?_
  refine k1 ?_; refine k2 ?_; refine k2 ?_
  refine c_region ?_; refine l_neu (n_move rfl rfl) rfl ?_; refine l_neu (n_lss rfl rfl) rfl ?_; refine l_neu (n_move rfl rfl) rfl ?_; refine l_guard rfl rfl rfl rfl (fun hg => by rw [hg]; exact n_move rfl rfl) ?_; refine l_guard rfl rfl rfl rfl (fun hg => by rw [hg]; exact n_gtr rfl rfl) ?_; refine l_neu (n_pick_bool rfl (fun h => by first | rfl | (rw [h]; rfl)) (fun h => by first | rfl | (rw [h]; rfl))) rfl ?_; refine l_nil ?_
  refine k1 ?_
  refine c_cond rfl (fun ht => ?_) (fun ht => ?_)
  · have h := of_decide_eq_true (or_pick.symm.trans ht)
    refine k2 ?_
    refine c_region ?_; refine l_neu (n_assign_nil _ 6 hunkC) rfl ?_; refine l_neu (n_assign rfl rfl) rfl ?_; refine l_nil ?_
    refine k1 ?_; refine k10 ?_; refine k11 ?_
    exact ret_ret (ret2 rfl rfl rfl rfl rfl) (by rw [groupOf, if_pos (by omega)])
  have h := of_decide_eq_false (or_pick.symm.trans ht)
  refine k5 ?_; refine k1 ?_; refine k2 ?_; refine k2 ?_
  refine c_region ?_; refine l_neu (n_move rfl rfl) rfl ?_; refine l_neu (n_move rfl rfl) rfl ?_; refine l_neu (n_move rfl rfl) rfl ?_; refine l_call (check8_walk l m n hl) rfl rfl rfl ?_; rintro _ rfl; refine l_neu (n_assign rfl rfl) rfl ?_; refine l_nil ?_
  refine k1 ?_; refine k2 ?_
  refine c_region ?_; refine l_neu (n_move rfl rfl) rfl ?_; refine l_neu (n_neq rfl rfl) rfl ?_; refine l_nil ?_
  refine k1 ?_
  refine c_cond rfl (fun ht => ?_) (fun ht => ?_)
  · have h1 : check8 l m n ≠ 0 := of_decide_eq_true ht
    refine k2 ?_
    refine c_region ?_; refine l_neu (n_move rfl rfl) rfl ?_; refine l_neu (n_assign_nil _ 6 hunkC) rfl ?_; refine l_neu (n_assign rfl rfl) rfl ?_; refine l_nil ?_
    refine k1 ?_; refine k10 ?_; refine k11 ?_
    exact ret_ret (ret2 rfl rfl rfl rfl rfl) (by rw [groupOf, if_neg (by omega), if_pos h1])
  have h1 : check8 l m n = 0 := by simpa using ht
  obtain ⟨hm, hn, hs⟩ := check8_ok h1
  unfold in81 at hm hn
  refine k5 ?_; refine k1 ?_; refine k2 ?_
  refine c_cut [(0, sList Change 4 changeC l), (1, sInt m), (2, sInt n), (3, sInt ctx)] [] (Sees.of ⟨le1 rfl, le1 rfl, le1 rfl, le1 rfl, trivial⟩ trivial) ?_
  refine c_region ?_; refine l_effv (f_adoptG 11 _ hunkC rfl) rfl ?_; refine l_nil ?_
  refine k1 ?_; refine k2 ?_; refine k2 ?_
  refine c_region ?_; refine l_neu (n_assign rfl rfl) rfl ?_; refine l_nil ?_
  refine k1 ?_; refine k3 ?_
  refine c_while (X := Nat) (fun k => ([(0, sList Change 4 changeC l), (1, sInt m), (3, sInt ctx), (11, .s (.one (.mut 11))), (12, sInt k)], [(11, .grow 111 Hunk 6 hunkC (groupTo l m ctx k))])) (fun k => k ≤ l.length) (fun k => l.length - k) 0 (Nat.zero_le _) (Sees.of ⟨le1 rfl, le1 rfl, le1 rfl, le1 rfl, le1 rfl, trivial⟩ ⟨rfl, trivial⟩) ?_
  intro k hk
  dsimp only at hk ⊢
  have hgl := groupTo_len l m ctx k
  refine k2 ?_; refine k2 ?_
  refine c_region ?_; refine l_neu (n_move rfl rfl) rfl ?_; refine l_neu (n_move rfl rfl) rfl ?_; refine l_neu (n_len rfl (.pure _ _ _ _)) rfl ?_; refine l_neu (n_lss rfl rfl) rfl ?_; refine l_nil ?_
  refine k1 ?_
  refine c_cond rfl (fun ht => ?_) (fun ht => ?_)
  · have hlt : k < l.length := by have := of_decide_eq_true ht; omega
    have hv : l[k]? = some (cAt l k) := cAt_get hlt
    obtain ⟨⟨g1, g2⟩, ⟨g3, g4⟩, ⟨g5, g6⟩, ⟨g7, g8⟩, g9, g10⟩ := hs.get k hlt
    refine c_skip ?_
    refine then_normal ?_
    refine c_seq ?_
    refine c_block ?_
    refine c_join [(0, sList Change 4 changeC l), (1, sInt m), (3, sInt ctx), (11, .s (.one (.mut 11))), (12, sInt k)] [(11, .grow 111 Hunk 6 hunkC (groupOpen l ctx k (groupTo l m ctx k)))] ?_ ?_
    · refine k2 ?_
      have hp1 : k ≠ 0 → l[((k : Int) - 1).toNat]? = some (cAt l (k - 1)) ∧ (0 ≤ (cAt l (k - 1)).Old ∧ (cAt l (k - 1)).Old ≤ 4096) ∧ 0 ≤ (cAt l (k - 1)).OldLen ∧ (cAt l (k - 1)).OldLen ≤ 4096 := fun hk0 => by
        have := hs.get (k - 1) (by omega)
        refine ⟨?_, this.1, this.2.1⟩
        rw [show ((k : Int) - 1).toNat = k - 1 by omega]; exact cAt_get (by omega)
      refine c_region_draw (by kernel_rfl) (by kernel_rfl) ?_; refine d_neu (n_move rfl rfl) rfl rfl ?_; refine d_neu (n_eql rfl rfl) rfl rfl ?_; refine d_neu (n_move rfl rfl) rfl rfl ?_; refine d_guard rfl rfl (fun hg => by rw [hg]; exact n_move rfl rfl) rfl rfl ?_; refine d_guard rfl rfl (fun hg => by rw [hg]; exact n_move rfl rfl) rfl rfl ?_; refine d_guard rfl rfl (fun hg => by have hq := hg; (try simp at hq); rw [hg]; exact n_indexAddr rfl (.pure _ _ _ _) rfl (by omega) hv) rfl rfl ?_; refine d_guard rfl rfl (fun hg => by rw [hg]; exact n_field_eref rfl) rfl rfl ?_; refine d_guard rfl rfl (fun hg => by rw [hg]; exact n_load_eref rfl rfl) rfl rfl ?_; refine d_guard rfl rfl (fun hg => by rw [hg]; exact n_move rfl rfl) rfl rfl ?_; refine d_guard rfl rfl (fun hg => by rw [hg]; exact n_move rfl rfl) rfl rfl ?_; refine d_guard rfl rfl (fun hg => by have hq := hg; (try simp at hq); rw [hg]; exact n_sub rfl rfl (by omega)) rfl rfl ?_; refine d_guard rfl rfl (fun hg => by have hq := hg; (try simp at hq); rw [hg]; exact n_indexAddr rfl (.pure _ _ _ _) rfl (by omega) (hp1 (by simpa using hq)).1) rfl rfl ?_; refine d_guard rfl rfl (fun hg => by rw [hg]; exact n_field_eref rfl) rfl rfl ?_; refine d_guard rfl rfl (fun hg => by rw [hg]; exact n_load_eref rfl rfl) rfl rfl ?_; refine d_guard rfl rfl (fun hg => by have hq := hg; (try simp at hq); have hp2 := hp1 (by simpa using hq); rw [hg]; exact n_sub rfl rfl (by omega)) rfl rfl ?_; refine d_guard rfl rfl (fun hg => by rw [hg]; exact n_move rfl rfl) rfl rfl ?_; refine d_guard rfl rfl (fun hg => by rw [hg]; exact n_move rfl rfl) rfl rfl ?_; refine d_guard rfl rfl (fun hg => by have hq := hg; (try simp at hq); rw [hg]; exact n_sub rfl rfl (by omega)) rfl rfl ?_; refine d_guard rfl rfl (fun hg => by have hq := hg; (try simp at hq); rw [hg]; exact n_indexAddr rfl (.pure _ _ _ _) rfl (by omega) (hp1 (by simpa using hq)).1) rfl rfl ?_; refine d_guard rfl rfl (fun hg => by rw [hg]; exact n_field_eref rfl) rfl rfl ?_; refine d_guard rfl rfl (fun hg => by rw [hg]; exact n_load_eref rfl rfl) rfl rfl ?_; refine d_guard rfl rfl (fun hg => by have hq := hg; (try simp at hq); have hp2 := hp1 (by simpa using hq); rw [hg]; exact n_sub rfl rfl (by omega)) rfl rfl ?_; refine d_guard rfl rfl (fun hg => by rw [hg]; exact n_move rfl rfl) rfl rfl ?_; refine d_guard rfl rfl (fun hg => by have hq := hg; (try simp at hq); rw [hg]; exact n_mul rfl rfl (by omega)) rfl rfl ?_; refine d_guard rfl rfl (fun hg => by rw [hg]; exact n_gtr rfl rfl) rfl rfl ?_; refine d_neu (n_pick_bool rfl (fun h => by first | rfl | (rw [h]; rfl)) (fun h => by first | rfl | (rw [h]; rfl))) rfl rfl ?_; refine d_nil ?_
      refine k1 ?_
      refine c_cond rfl (fun ht => ?_) (fun ht => ?_)
      · have h2 := of_decide_eq_true (or_pick.symm.trans ht)
        have ho : opens l ctx k := by unfold opens; omega
        have hmin : 0 ≤ minI ctx (cAt l k).Old ∧ minI ctx (cAt l k).Old ≤ (cAt l k).Old := by unfold minI; split <;> omega
        refine k2 ?_
        refine c_region ?_; refine l_neu (n_move rfl rfl) rfl ?_; refine l_neu (n_move rfl rfl) rfl ?_; refine l_neu (n_move rfl rfl) rfl ?_; refine l_neu (n_indexAddr rfl (.pure _ _ _ _) rfl (by omega) hv) rfl ?_; refine l_neu (n_field_eref rfl) rfl ?_; refine l_neu (n_load_eref rfl rfl) rfl ?_; refine l_neu (n_min rfl rfl) rfl ?_; refine l_neu (n_assign rfl rfl) rfl ?_; refine l_nil ?_
        rw [show (if (cAt l k).Old < ctx then (cAt l k).Old else ctx) = minI ctx (cAt l k).Old from rfl]
        refine k1 ?_
        refine c_region_draw (by kernel_rfl) (by kernel_rfl) ?_; refine d_neu (n_move rfl rfl) rfl rfl ?_; refine d_neu (n_move rfl rfl) rfl rfl ?_; refine d_neu (n_move rfl rfl) rfl rfl ?_; refine d_neu (n_move rfl rfl) rfl rfl ?_; refine d_neu (n_indexAddr rfl (.pure _ _ _ _) rfl (by omega) hv) rfl rfl ?_; refine d_neu (n_field_eref rfl) rfl rfl ?_; refine d_neu (n_load_eref rfl rfl) rfl rfl ?_; refine d_neu (n_move rfl rfl) rfl rfl ?_; refine d_neu (n_sub rfl rfl (by omega)) rfl rfl ?_; refine d_neu (n_build rfl) rfl rfl ?_; refine d_neu (n_move rfl rfl) rfl rfl ?_; refine d_neu (n_move rfl rfl) rfl rfl ?_; refine d_neu (n_indexAddr rfl (.pure _ _ _ _) rfl (by omega) hv) rfl rfl ?_; refine d_neu (n_field_eref rfl) rfl rfl ?_; refine d_neu (n_load_eref rfl rfl) rfl rfl ?_; refine d_neu (n_move rfl rfl) rfl rfl ?_; refine d_neu (n_sub rfl rfl (by omega)) rfl rfl ?_; refine d_neu (n_build rfl) rfl rfl ?_; refine d_neu (n_build rfl) rfl rfl ?_; refine d_neu (n_buildSlice (c := hunkC) (ys := [hunkOpen l ctx k]) (asm_cons rfl rfl rfl rfl asm_nil) rfl rfl rfl) rfl rfl ?_; refine d_effv (e_append_g rfl rfl rfl (.pure _ _ _ _) (by simp; omega) rfl) rfl rfl ?_; refine d_neu (n_assign rfl rfl) rfl rfl ?_; refine d_nil ?_
        refine k1 ?_
        rw [groupOpen, if_pos ho]
        exact Sees.of ⟨le1 rfl, le1 rfl, le1 rfl, le1 rfl, le1 rfl, trivial⟩ ⟨rfl, trivial⟩
      · have h2 := of_decide_eq_false (or_pick.symm.trans ht)
        have ho : ¬ opens l ctx k := by unfold opens; omega
        refine k5 ?_; refine k1 ?_
        rw [groupOpen, if_neg ho]
        exact Sees.of ⟨le1 rfl, le1 rfl, le1 rfl, le1 rfl, le1 rfl, trivial⟩ ⟨rfl, trivial⟩
    · obtain ⟨out, hout⟩ : ∃ out, out = groupOpen l ctx k (groupTo l m ctx k) := ⟨_, rfl⟩
      have hsucc : groupTo l m ctx (k + 1) = out.set (out.length - 1) (hunkEnd l m ctx k (out.getD (out.length - 1) hunk0)) := by rw [hout]; rfl
      have hol : 0 < out.length ∧ out.length ≤ k + 1 := by
        rw [hout, groupOpen]
        split
        · simp only [List.length_append, List.length_cons, List.length_nil]; omega
        · rename_i ho
          have : k ≠ 0 := fun e => ho (.inl e)
          omega
      rw [← hout]
      obtain ⟨h0, hh0⟩ : ∃ h0, h0 = out.getD (out.length - 1) hunk0 := ⟨_, rfl⟩
      have hvo : out[out.length - 1]? = some h0 := by rw [hh0, List.getD_eq_getElem?_getD, List.getElem?_eq_getElem (by omega)]; rfl
      rw [← hh0] at hsucc
      have hi : ((out.length : Int) - 1).toNat = out.length - 1 := by omega
      have hmin : 0 ≤ minI ctx (m - ((cAt l k).Old + (cAt l k).OldLen)) ∧ minI ctx (m - ((cAt l k).Old + (cAt l k).OldLen)) ≤ m - ((cAt l k).Old + (cAt l k).OldLen) := by unfold minI; split <;> omega
      refine k2 ?_
      refine c_region ?_; refine l_neu (n_move rfl rfl) rfl ?_; refine l_neu (n_len_g rfl rfl) rfl ?_; refine l_neu (n_sub rfl rfl (by omega)) rfl ?_; refine l_neu (n_assign rfl rfl) rfl ?_; refine l_nil ?_
      refine k1 ?_; refine k2 ?_
      refine c_region_draw (by kernel_rfl) (by kernel_rfl) ?_; refine d_neu (n_move rfl rfl) rfl rfl ?_; refine d_neu (n_move rfl rfl) rfl rfl ?_; refine d_neu (n_indexAddr rfl (.pure _ _ _ _) rfl (by omega) hv) rfl rfl ?_; refine d_neu (n_field_eref rfl) rfl rfl ?_; refine d_neu (n_load_eref rfl rfl) rfl rfl ?_; refine d_neu (n_move rfl rfl) rfl rfl ?_; refine d_neu (n_move rfl rfl) rfl rfl ?_; refine d_neu (n_indexAddr rfl (.pure _ _ _ _) rfl (by omega) hv) rfl rfl ?_; refine d_neu (n_field_eref rfl) rfl rfl ?_; refine d_neu (n_load_eref rfl rfl) rfl rfl ?_; refine d_neu (n_add rfl rfl (by omega)) rfl rfl ?_; refine d_neu (n_move rfl rfl) rfl rfl ?_; refine d_neu (n_move rfl rfl) rfl rfl ?_; refine d_neu (n_indexAddr rfl (.pure _ _ _ _) rfl (by omega) hv) rfl rfl ?_; refine d_neu (n_field_eref rfl) rfl rfl ?_; refine d_neu (n_load_eref rfl rfl) rfl rfl ?_; refine d_neu (n_move rfl rfl) rfl rfl ?_; refine d_neu (n_move rfl rfl) rfl rfl ?_; refine d_neu (n_indexAddr rfl (.pure _ _ _ _) rfl (by omega) hv) rfl rfl ?_; refine d_neu (n_field_eref rfl) rfl rfl ?_; refine d_neu (n_load_eref rfl rfl) rfl rfl ?_; refine d_neu (n_add rfl rfl (by omega)) rfl rfl ?_; refine d_neu (n_assign rfl rfl) rfl rfl ?_; refine d_neu (n_assign rfl rfl) rfl rfl ?_; refine d_nil ?_
      refine k1 ?_; refine k2 ?_
      refine c_region ?_; refine l_neu (n_move rfl rfl) rfl ?_; refine l_neu (n_move rfl rfl) rfl ?_; refine l_neu (n_move rfl rfl) rfl ?_; refine l_neu (n_sub rfl rfl (by omega)) rfl ?_; refine l_neu (n_min rfl rfl) rfl ?_; refine l_neu (n_assign rfl rfl) rfl ?_; refine l_nil ?_
      refine k1 ?_; refine k2 ?_
      rw [show (if m - ((cAt l k).Old + (cAt l k).OldLen) < ctx then m - ((cAt l k).Old + (cAt l k).OldLen) else ctx) = minI ctx (m - ((cAt l k).Old + (cAt l k).OldLen)) from rfl]
      refine c_region ?_; refine l_neu (n_move rfl rfl) rfl ?_; refine l_neu (n_move rfl rfl) rfl ?_; refine l_neu (n_move rfl rfl) rfl ?_; refine l_neu (n_add rfl rfl (by omega)) rfl ?_; refine l_neu (n_indexAddr_g rfl rfl rfl (by omega) (by omega)) rfl ?_; refine l_neu (n_field_mref rfl) rfl ?_; refine l_eff (e_store_g (({ h0 with Last := (k : Int) + 1 } : Hunk)) TySz.out rfl rfl (by rw [hi]; exact hvo) rfl rfl rfl rfl (fun _ _ _ h => all2_unp h) (by intro j h1 h2; rcases j with _ | _ | _ | _ | _ | _ | _ | j <;> first | rfl | omega)) ?_; refine l_nil ?_
      rw [hi]
      refine k1 ?_; refine k2 ?_
      have hv2 : (out.set (out.length - 1) { h0 with Last := (k : Int) + 1 })[out.length - 1]? = some { h0 with Last := (k : Int) + 1 } := List.getElem?_set_self (by omega)
      obtain ⟨h2, hh2⟩ : ∃ h2 : Hunk, h2 = { h0 with Last := (k : Int) + 1 } := ⟨_, rfl⟩
      rw [← hh2] at hv2 ⊢
      obtain ⟨out2, ho2⟩ : ∃ out2, out2 = out.set (out.length - 1) h2 := ⟨_, rfl⟩
      have hol2 : out2.length = out.length := by rw [ho2]; simp
      rw [← ho2] at hv2 ⊢
      refine c_region ?_; refine l_neu (n_move rfl rfl) rfl ?_; refine l_neu (n_move rfl rfl) rfl ?_; refine l_neu (n_move rfl rfl) rfl ?_; refine l_neu (n_move rfl rfl) rfl ?_; refine l_neu (n_add rfl rfl (by omega)) rfl ?_; refine l_neu (n_indexAddr_g rfl rfl rfl (by omega) (by (simp only [hol2]; omega))) rfl ?_; refine l_neu (n_field_mref rfl) rfl ?_; refine l_neu (n_field_mref rfl) rfl ?_; refine l_eff (e_store_g (({ h2 with Old := ⟨h2.Old.From, (cAt l k).Old + (cAt l k).OldLen + minI ctx (m - ((cAt l k).Old + (cAt l k).OldLen))⟩ } : Hunk)) TySz.out rfl rfl (by rw [hi]; exact hv2) rfl rfl rfl rfl (fun _ _ _ h => all2_unp h) (by intro j h1 h2; rcases j with _ | _ | _ | _ | _ | _ | _ | j <;> first | rfl | omega)) ?_; refine l_nil ?_
      rw [hi]
      refine k1 ?_
      obtain ⟨h3, hh3⟩ : ∃ h3 : Hunk, h3 = { h2 with Old := ⟨h2.Old.From, (cAt l k).Old + (cAt l k).OldLen + minI ctx (m - ((cAt l k).Old + (cAt l k).OldLen))⟩ } := ⟨_, rfl⟩
      have hv3 : (out2.set (out.length - 1) h3)[out.length - 1]? = some h3 := List.getElem?_set_self (by omega)
      rw [← hh3]
      obtain ⟨out3, ho3⟩ : ∃ out3, out3 = out2.set (out.length - 1) h3 := ⟨_, rfl⟩
      have hol3 : out3.length = out.length := by rw [ho3]; simp [hol2]
      rw [← ho3] at hv3 ⊢
      refine c_region ?_; refine l_neu (n_move rfl rfl) rfl ?_; refine l_neu (n_move rfl rfl) rfl ?_; refine l_neu (n_move rfl rfl) rfl ?_; refine l_neu (n_move rfl rfl) rfl ?_; refine l_neu (n_add rfl rfl (by omega)) rfl ?_; refine l_neu (n_indexAddr_g rfl rfl rfl (by omega) (by (simp only [hol3]; omega))) rfl ?_; refine l_neu (n_field_mref rfl) rfl ?_; refine l_neu (n_field_mref rfl) rfl ?_; refine l_eff (e_store_g (({ h3 with New := ⟨h3.New.From, (cAt l k).New + (cAt l k).NewLen + minI ctx (m - ((cAt l k).Old + (cAt l k).OldLen))⟩ } : Hunk)) TySz.out rfl rfl (by rw [hi]; exact hv3) rfl rfl rfl rfl (fun _ _ _ h => all2_unp h) (by intro j h1 h2; rcases j with _ | _ | _ | _ | _ | _ | _ | j <;> first | rfl | omega)) ?_; refine l_nil ?_
      rw [hi]
      have hfin : out3.set (out.length - 1) { h3 with New := ⟨h3.New.From, (cAt l k).New + (cAt l k).NewLen + minI ctx (m - ((cAt l k).Old + (cAt l k).OldLen))⟩ } = groupTo l m ctx (k + 1) := by
        rw [hsucc, ho3, ho2, List.set_set, List.set_set, hh3, hh2]; rfl
      rw [hfin]
      refine k4 ?_; refine k1 ?_
      refine c_region ?_; refine l_neu (n_move rfl rfl) rfl ?_; refine l_neu (n_add rfl rfl (by omega)) rfl ?_; refine l_neu (n_assign rfl rfl) rfl ?_; refine l_nil ?_
      refine k1 ?_
      exact ⟨k + 1, by omega, by omega, Sees.of ⟨le1 rfl, le1 rfl, le1 rfl, le1 rfl, le1 rfl, trivial⟩ ⟨rfl, trivial⟩⟩
  · have hk' : k = l.length := by have := of_decide_eq_false ht; omega
    subst hk'
    refine k6 ?_; refine k2 ?_
    refine c_sees (Sees.growBuf (t := 11) (k := 11) rfl rfl rfl) ?_
    refine c_region ?_; refine l_neu (n_move rfl rfl) rfl ?_; refine l_neu (n_assign rfl rfl) rfl ?_; refine l_neu (n_assign rfl rfl) rfl ?_; refine l_nil ?_
    refine k1 ?_; refine k10 ?_
    exact ret_ret (ret2 rfl rfl rfl rfl rfl) (by rw [groupOf, if_neg (by omega), if_neg (by rw [h1]; decide)])
theorem rlines9_ok (a b : List Str) (ha : a.length ≤ 4096) (hb : b.length ≤ 4096) : FnOk Tryz.prog 77 [pStrs a, pStrs b] (fun rs => rs = [pChanges (walkOf (idsOf (namesOf [a, b]) a) (idsOf (namesOf [a, b]) b))]) := by
  have h1 : (idsOf (namesOf [a, b]) a).length = a.length := by simp [idsOf]
  have h2 : (idsOf (namesOf [a, b]) b).length = b.length := by simp [idsOf]
  refine FnOk.intro Tryz.func77 (by decide) rfl rfl rfl rfl ?_
  refine k2 ?_
  refine c_region ?_; refine l_neu (n_assign rfl rfl) rfl ?_; refine l_nil ?_
  refine k1 ?_; refine k2 ?_
  refine c_region ?_; refine l_neu (n_move rfl rfl) rfl ?_; refine l_neu (n_move rfl rfl) rfl ?_; refine l_neu (n_buildSlice (c := strsC) (ys := [a, b]) (asm_cons rfl rfl rfl rfl (asm_cons rfl rfl rfl rfl asm_nil)) rfl rfl rfl) rfl ?_; refine l_call (ids_ok [a, b] (by simp; omega) (by simp)) rfl rfl rfl ?_; rintro _ rfl; refine l_neu (n_assign rfl rfl) rfl ?_; refine l_nil ?_
  refine k1 ?_; refine k2 ?_
  refine c_region_draw (by kernel_rfl) (by kernel_rfl) ?_; refine d_neu (n_move rfl rfl) rfl rfl ?_; refine d_neu (n_indexAddr rfl (.pure _ _ _ _) rfl (by omega) rfl) rfl rfl ?_; refine d_neu (n_load_eref rfl rfl) rfl rfl ?_; refine d_neu (n_move rfl rfl) rfl rfl ?_; refine d_neu (n_indexAddr rfl (.pure _ _ _ _) rfl (by omega) rfl) rfl rfl ?_; refine d_neu (n_load_eref rfl rfl) rfl rfl ?_; refine d_neu (n_call1 (walk_ok _ _ (by omega) (by omega)) rfl rfl) rfl rfl ?_; refine d_neu (n_assign rfl rfl) rfl rfl ?_; refine d_nil ?_
  refine k1 ?_; refine k10 ?_
  exact ret_ret (ret1 rfl rfl rfl) rfl
end Go.Proofs.YtjjidificdmnmaaGreatDoor
namespace Go.Proofs.YtjjidificdmnmaaGreatDoor
open Go Go.AL
set_option maxRecDepth 100000
theorem kind_ne (a b : UInt8) : decide ((a.toNat : Int) ≠ (b.toNat : Int)) = decide (a ≠ b) := by
  by_cases h : a = b
  · subst h; simp
  · have : (a.toNat : Int) ≠ (b.toNat : Int) := fun e => h (UInt8.toNat_inj.1 (by omega))
    rw [decide_eq_true this, decide_eq_true h]
theorem rname_ok (s : Str) : FnOk Tryz.prog 75 [pStr s] (fun rs => rs = [pBool (nameOk s)]) := by
  refine FnOk.intro Tryz.func75 (by decide) rfl rfl rfl rfl ?_
  refine k2 ?_
  refine c_region ?_; refine l_neu (n_assign rfl rfl) rfl ?_; refine l_nil ?_
  refine k1 ?_; refine k2 ?_
  refine c_region ?_; refine l_neu (n_move rfl rfl) rfl ?_; refine l_neu (n_len_s rfl) rfl ?_; refine l_neu (n_geq rfl rfl) rfl ?_; refine l_neu (n_move rfl rfl) rfl ?_; refine l_guard rfl rfl rfl rfl (fun hg => by rw [hg]; exact n_move rfl rfl) ?_; refine l_guard rfl rfl rfl rfl (fun hg => by rw [hg]; exact n_len_s rfl) ?_; refine l_guard rfl rfl rfl rfl (fun hg => by rw [hg]; exact n_leq rfl rfl) ?_; refine l_neu (n_pick_bool rfl (fun h => by first | rfl | (rw [h]; rfl)) (fun h => by first | rfl | (rw [h]; rfl))) rfl ?_; refine l_neu (n_assign rfl rfl) rfl ?_; refine l_nil ?_
  refine k1 ?_; refine k10 ?_
  refine ret_ret (ret1 rfl rfl rfl) ?_
  simp only [and_pick]
  congr 4
  unfold nameOk
  congr 1
  apply propext
  omega
theorem rlines12_ok (h : PatchHunk) (k : UInt8) (hl : h.Lines.length ≤ 268435456) : FnOk Tryz.prog 44 [pPhunk h, pByte k] (fun rs => rs = [pStrs (linesNot h.Lines k)]) := by
  obtain ⟨ls, hls⟩ : ∃ ls, ls = h.Lines := ⟨_, rfl⟩
  refine FnOk.intro Tryz.func44 (by decide) rfl rfl rfl rfl ?_
  refine k2 ?_
  refine c_region ?_; refine l_effv (f_box 2 rfl rfl rfl) rfl ?_; refine l_neu (n_assign rfl rfl) rfl ?_; refine l_nil ?_
  refine k1 ?_; refine k2 ?_
  refine c_region ?_; refine l_effv (f_adopt 5 _ strC rfl) rfl ?_; refine l_nil ?_
  refine k1 ?_; refine k2 ?_; refine k2 ?_
  refine c_region ?_; refine l_neu (n_assign rfl rfl) rfl ?_; refine l_nil ?_
  refine k1 ?_; refine k3 ?_
  refine c_while (X := Nat) (fun i => ([(1, .s (pByte k).s1), (2, .s (.one (.ref 2 0))), (5, .s (.one (.buf 5 Str 1 strC (linesNot (h.Lines.take i) k)))), (6, sInt i)], [(2, .box (pPhunk h).s1.cells), (5, .spare (linesNot (h.Lines.take i) k).length 1 9)])) (fun i => i ≤ h.Lines.length) (fun i => h.Lines.length - i) 0 (Nat.zero_le _) (Sees.of ⟨le1 rfl, le1 rfl, le1 rfl, le1 rfl, trivial⟩ ⟨rfl, rfl, trivial⟩) ?_
  intro i hi
  dsimp only at hi ⊢
  have hlen := linesNot_len (h.Lines.take i) k
  rw [List.length_take] at hlen
  refine k2 ?_; refine k2 ?_
  refine c_region ?_; refine l_neu (n_move rfl rfl) rfl ?_; refine l_neu (n_field_ref rfl) rfl ?_; refine l_neu (n_load_ref rfl rfl rfl) rfl ?_; refine l_neu (n_len rfl (.pure _ _ _ _)) rfl ?_; refine l_neu (n_lss rfl rfl) rfl ?_; refine l_nil ?_
  refine k1 ?_
  refine c_cond rfl (fun ht => ?_) (fun ht => ?_)
  · have hlt : i < h.Lines.length := by have := of_decide_eq_true ht; omega
    have hv : h.Lines[i]? = some h.Lines[i] := by simp [hlt]
    have hsucc := linesNot_succ h.Lines k i hlt
    obtain ⟨x, hx⟩ : ∃ x, x = h.Lines[i] := ⟨_, rfl⟩
    rw [← hx] at hv hsucc
    refine k5 ?_; refine k1 ?_; refine k2 ?_; refine k3 ?_; refine k2 ?_
    refine c_region ?_; refine l_neu (n_field_ref rfl) rfl ?_; refine l_neu (n_load_ref rfl rfl rfl) rfl ?_; refine l_neu (n_move rfl rfl) rfl ?_; refine l_neu (n_indexAddr rfl (.pure _ _ _ _) rfl (by omega) hv) rfl ?_; refine l_neu (n_field_eref rfl) rfl ?_; refine l_neu (n_load_eref rfl rfl) rfl ?_; refine l_neu (n_move rfl rfl) rfl ?_; refine l_neu (n_neq rfl rfl) rfl ?_; refine l_nil ?_
    refine k1 ?_
    refine c_cond rfl (fun ht => ?_) (fun ht => ?_)
    · have h1 : x.Kind ≠ k := of_decide_eq_true ((kind_ne _ _).symm.trans ht)
      rw [if_pos h1] at hsucc
      skip
      refine c_region ?_; refine l_neu (n_move rfl rfl) rfl ?_; refine l_neu (n_field_ref rfl) rfl ?_; refine l_neu (n_load_ref rfl rfl rfl) rfl ?_; refine l_neu (n_move rfl rfl) rfl ?_; refine l_neu (n_indexAddr rfl (.pure _ _ _ _) rfl (by omega) hv) rfl ?_; refine l_neu (n_field_eref rfl) rfl ?_; refine l_neu (n_load_eref rfl rfl) rfl ?_; refine l_neu (n_buildSlice (c := strC) (ys := [_]) (asm_cons rfl rfl rfl rfl asm_nil) rfl rfl rfl) rfl ?_; refine l_effv (e_append rfl rfl rfl (.pure _ _ _ _) (by simp; omega) rfl) rfl ?_; refine l_neu (n_assign rfl rfl) rfl ?_; refine l_nil ?_
      refine k4 ?_; refine k1 ?_
      refine c_region ?_; refine l_neu (n_move rfl rfl) rfl ?_; refine l_neu (n_add rfl rfl (by omega)) rfl ?_; refine l_neu (n_assign rfl rfl) rfl ?_; refine l_nil ?_
      refine k1 ?_
      refine ⟨i + 1, by omega, by omega, ?_⟩
      rw [hsucc]
      exact Sees.of ⟨le1 rfl, le1 rfl, le1 rfl, le1 rfl, trivial⟩ ⟨rfl, rfl, trivial⟩
    · have h1 : ¬ x.Kind ≠ k := of_decide_eq_false ((kind_ne _ _).symm.trans ht)
      rw [if_neg h1] at hsucc
      refine k5 ?_; refine k4 ?_; refine k1 ?_
      refine c_region ?_; refine l_neu (n_move rfl rfl) rfl ?_; refine l_neu (n_add rfl rfl (by omega)) rfl ?_; refine l_neu (n_assign rfl rfl) rfl ?_; refine l_nil ?_
      refine k1 ?_
      refine ⟨i + 1, by omega, by omega, ?_⟩
      rw [hsucc]
      exact Sees.of ⟨le1 rfl, le1 rfl, le1 rfl, le1 rfl, trivial⟩ ⟨rfl, rfl, trivial⟩
  · have hi' : i = h.Lines.length := by have := of_decide_eq_false ht; omega
    subst hi'
    refine k6 ?_; refine k2 ?_
    refine c_region ?_; refine l_neu (n_move rfl rfl) rfl ?_; refine l_neu (n_assign rfl rfl) rfl ?_; refine l_nil ?_
    refine k1 ?_; refine k10 ?_
    exact ret_ret (ret1 rfl rfl rfl) (by rw [List.take_length])
theorem rside_ok (p : Patch) (k : UInt8) (hp : szP p.Hunks ≤ 268435456) : FnOk Tryz.prog 125 [pPatch p, pByte k] (fun rs => rs = [pBool (sideOk p.Hunks k)]) := by
  have hsl := szP_len p.Hunks
  refine FnOk.intro Tryz.func125 (by decide) rfl rfl rfl rfl ?_
  refine k2 ?_
  refine c_region ?_; refine l_effv (f_box 2 rfl rfl rfl) rfl ?_; refine l_neu (n_assign rfl rfl) rfl ?_; refine l_nil ?_
  refine k1 ?_; refine k2 ?_
  refine c_region ?_; refine l_effv (f_adopt 5 _ strC rfl) rfl ?_; refine l_nil ?_
  refine k1 ?_; refine k2 ?_; refine k2 ?_
  refine c_region ?_; refine l_neu (n_assign rfl rfl) rfl ?_; refine l_nil ?_
  refine k1 ?_; refine k3 ?_
  refine c_while (X := Nat) (fun i => ([(1, .s (pByte k).s1), (2, .s (.one (.ref 2 0))), (5, .s (.one (.buf 5 Str 1 strC (sideLines (p.Hunks.take i) k)))), (6, sInt i)], [(2, .box (pPatch p).s1.cells), (5, .spare (sideLines (p.Hunks.take i) k).length 1 9)])) (fun i => i ≤ p.Hunks.length) (fun i => p.Hunks.length - i) 0 (Nat.zero_le _) (Sees.of ⟨le1 rfl, le1 rfl, le1 rfl, le1 rfl, trivial⟩ ⟨rfl, rfl, trivial⟩) ?_
  intro i hi
  dsimp only at hi ⊢
  have hlen := sideLines_len (p.Hunks.take i) k
  have hle := szP_take p.Hunks i
  refine k2 ?_; refine k2 ?_
  refine c_region ?_; refine l_neu (n_move rfl rfl) rfl ?_; refine l_neu (n_field_ref rfl) rfl ?_; refine l_neu (n_load_ref rfl rfl rfl) rfl ?_; refine l_neu (n_len rfl (.pure _ _ _ _)) rfl ?_; refine l_neu (n_lss rfl rfl) rfl ?_; refine l_nil ?_
  refine k1 ?_
  refine c_cond rfl (fun ht => ?_) (fun ht => ?_)
  · have hlt : i < p.Hunks.length := by have := of_decide_eq_true ht; omega
    have hv : p.Hunks[i]? = some p.Hunks[i] := by simp [hlt]
    have hsucc := sideLines_succ p.Hunks k i hlt
    have hmem : p.Hunks[i] ∈ p.Hunks := List.getElem_mem hlt
    obtain ⟨h, hx⟩ : ∃ x, x = p.Hunks[i] := ⟨_, rfl⟩
    rw [← hx] at hv hsucc hmem
    have h1 := szP_mem hmem
    have h2 := linesNot_len h.Lines k
    have h3 := szL_len h.Lines
    unfold szH at h1
    refine k5 ?_; refine k1 ?_; refine k2 ?_; refine k3 ?_
    refine c_region ?_; refine l_neu (n_move rfl rfl) rfl ?_; refine l_neu (n_field_ref rfl) rfl ?_; refine l_neu (n_load_ref rfl rfl rfl) rfl ?_; refine l_neu (n_move rfl rfl) rfl ?_; refine l_neu (n_indexAddr rfl (.pure _ _ _ _) rfl (by omega) hv) rfl ?_; refine l_neu (n_loads_eref rfl rfl) rfl ?_; refine l_neu (n_move rfl rfl) rfl ?_; refine l_call (rlines12_ok h k (by omega)) rfl rfl rfl ?_; rintro _ rfl; refine l_effv (e_append rfl rfl rfl (.pure _ _ _ _) (by omega) rfl) rfl ?_; refine l_neu (n_assign rfl rfl) rfl ?_; refine l_nil ?_
    refine k4 ?_; refine k1 ?_
    refine c_region ?_; refine l_neu (n_move rfl rfl) rfl ?_; refine l_neu (n_add rfl rfl (by omega)) rfl ?_; refine l_neu (n_assign rfl rfl) rfl ?_; refine l_nil ?_
    refine k1 ?_
    refine ⟨i + 1, by omega, by omega, ?_⟩
    rw [hsucc]
    exact Sees.of ⟨le1 rfl, le1 rfl, le1 rfl, le1 rfl, trivial⟩ ⟨rfl, rfl, trivial⟩
  · have hi' : i = p.Hunks.length := by have := of_decide_eq_false ht; omega
    subst hi'
    rw [List.take_length] at hlen ⊢
    obtain ⟨all, hall⟩ : ∃ all, all = sideLines p.Hunks k := ⟨_, rfl⟩
    have hmem : ∀ s ∈ all, s.length ≤ szP p.Hunks := fun s hs => sideLines_mem (k := k) (by rw [← hall]; exact hs)
    rw [sideOk, ← hall]
    rw [← hall] at hlen
    refine k6 ?_; refine k2 ?_; refine k2 ?_
    refine c_region ?_; refine l_neu (n_assign rfl rfl) rfl ?_; refine l_nil ?_
    refine k1 ?_; refine k3 ?_
    refine c_while (X := Nat) (fun i => ([(5, sList Str 1 strC all), (7, sInt i)], [])) (fun i => i ≤ all.length + 1 ∧ endedBut all = endedBut (all.drop i)) (fun i => all.length + 1 - i) 0 ⟨Nat.zero_le _, rfl⟩ (Sees.of ⟨leL rfl, le1 rfl, trivial⟩ trivial) ?_
    rintro i ⟨hi, he⟩
    dsimp only at hi he ⊢
    refine k2 ?_; refine k2 ?_
    refine c_region ?_; refine l_neu (n_move rfl rfl) rfl ?_; refine l_neu (n_add rfl rfl (by omega)) rfl ?_; refine l_neu (n_move rfl rfl) rfl ?_; refine l_neu (n_len rfl (.pure _ _ _ _)) rfl ?_; refine l_neu (n_lss rfl rfl) rfl ?_; refine l_nil ?_
    refine k1 ?_
    refine c_cond rfl (fun ht => ?_) (fun ht => ?_)
    · have hlt : i + 1 < all.length := by have := of_decide_eq_true ht; omega
      have hv : all[i]? = some all[i] := by simp
      have h1 := hmem all[i] (List.getElem_mem _)
      rw [endedBut_drop all i hlt] at he
      refine k5 ?_; refine k1 ?_; refine k2 ?_; refine k3 ?_; refine k2 ?_
      refine c_region ?_; refine l_neu (n_move rfl rfl) rfl ?_; refine l_neu (n_move rfl rfl) rfl ?_; refine l_neu (n_indexAddr rfl (.pure _ _ _ _) rfl (by omega) hv) rfl ?_; refine l_neu (n_load_eref rfl rfl) rfl ?_; refine l_call (ended_ok all[i] (by omega)) rfl rfl rfl ?_; rintro _ rfl; refine l_neu (n_not rfl) rfl ?_; refine l_nil ?_
      refine k1 ?_
      refine c_cond rfl (fun ht => ?_) (fun ht => ?_)
      · have h2 : ended all[i] = false := by simpa using ht
        rw [h2] at he
        refine k2 ?_
        refine c_region ?_; refine l_neu (n_assign rfl rfl) rfl ?_; refine l_nil ?_
        refine k1 ?_; refine k10 ?_; refine k12 ?_; refine k11 ?_; refine k11 ?_; refine k12 ?_; refine k11 ?_
        exact ret_ret (ret1 rfl rfl rfl) (by rw [he]; rfl)
      · have h2 : ended all[i] = true := by simpa using ht
        rw [h2, Bool.true_and] at he
        refine k5 ?_; refine k4 ?_; refine k1 ?_
        refine c_region ?_; refine l_neu (n_move rfl rfl) rfl ?_; refine l_neu (n_add rfl rfl (by omega)) rfl ?_; refine l_neu (n_assign rfl rfl) rfl ?_; refine l_nil ?_
        refine k1 ?_
        exact ⟨i + 1, ⟨by omega, he⟩, by omega, Sees.of ⟨le1 rfl, le1 rfl, trivial⟩ trivial⟩
    · have hge : all.length ≤ i + 1 := by have := of_decide_eq_false ht; omega
      rw [endedBut_last all i hge] at he
      refine k6 ?_; refine k2 ?_
      refine c_region ?_; refine l_neu (n_assign rfl rfl) rfl ?_; refine l_nil ?_
      refine k1 ?_; refine k10 ?_
      exact ret_ret (ret1 rfl rfl rfl) (by rw [he])
theorem kn32 (c : UInt8) : decide ((c.toNat : Int) ≠ 32) = decide (c ≠ 32) := kind_ne c 32
theorem kn45 (c : UInt8) : decide ((c.toNat : Int) ≠ 45) = decide (c ≠ 45) := kind_ne c 45
theorem kn43 (c : UInt8) : decide ((c.toNat : Int) ≠ 43) = decide (c ≠ 43) := kind_ne c 43
theorem notB (b : Bool) : (!b) = decide (b = false) := by cases b <;> rfl
theorem someCh_succ (ls : List PatchLine) (n : Nat) (h : n < ls.length) : someCh (ls.take (n + 1)) = (if someCh (ls.take n) = true then true else decide (ls[n].Kind ≠ 32)) := by
  unfold someCh
  rw [List.take_succ_eq_append_getElem h, List.any_append]
  cases (ls.take n).any _ <;> simp
theorem rgood_ok (p : Patch) (hp : szP p.Hunks ≤ 268435456) : FnOk Tryz.prog 82 [pPatch p] (fun rs => rs = [pBool (goodOf p.Hunks)]) := by
  have hsl := szP_len p.Hunks
  refine FnOk.intro Tryz.func82 (by decide) rfl rfl rfl rfl ?_
  refine k2 ?_
  refine c_region ?_; refine l_effv (f_box 1 rfl rfl rfl) rfl ?_; refine l_neu (n_assign rfl rfl) rfl ?_; refine l_nil ?_
  refine k1 ?_; refine k2 ?_
  refine c_region ?_; refine l_neu (n_assign rfl rfl) rfl ?_; refine l_neu (n_assign rfl rfl) rfl ?_; refine l_nil ?_
  refine k1 ?_; refine k2 ?_; refine k2 ?_
  refine c_region ?_; refine l_neu (n_assign rfl rfl) rfl ?_; refine l_nil ?_
  refine k1 ?_; refine k3 ?_
  refine c_while (X := Nat × Int × Int) (fun x => ([(1, .s (.one (.ref 1 0))), (3, sInt x.2.1), (4, sInt x.2.2), (5, sInt x.1)], [(1, .box (pPatch p).s1.cells)])) (fun x => x.1 ≤ p.Hunks.length ∧ goodGo 0 0 p.Hunks = goodGo x.2.1 x.2.2 (p.Hunks.drop x.1) ∧ 0 ≤ x.2.1 ∧ x.2.1 ≤ 4096 ∧ 0 ≤ x.2.2 ∧ x.2.2 ≤ 4096) (fun x => p.Hunks.length - x.1) (0, 0, 0) ⟨Nat.zero_le _, rfl, by decide, by decide, by decide, by decide⟩ (Sees.of ⟨le1 rfl, le1 rfl, le1 rfl, le1 rfl, trivial⟩ ⟨rfl, trivial⟩) ?_
  rintro ⟨k, i, j⟩ ⟨hk, hg, hi, hi2, hj, hj2⟩
  dsimp only at hk hg hi hi2 hj hj2 ⊢
  refine k2 ?_; refine k2 ?_
  refine c_region ?_; refine l_neu (n_move rfl rfl) rfl ?_; refine l_neu (n_field_ref rfl) rfl ?_; refine l_neu (n_load_ref rfl rfl rfl) rfl ?_; refine l_neu (n_len rfl (.pure _ _ _ _)) rfl ?_; refine l_neu (n_lss rfl rfl) rfl ?_; refine l_nil ?_
  refine k1 ?_
  refine c_cond rfl (fun ht => ?_) (fun ht => ?_)
  · have hlt : k < p.Hunks.length := by have := of_decide_eq_true ht; omega
    have hv : p.Hunks[k]? = some p.Hunks[k] := by simp [hlt]
    have hmem : p.Hunks[k] ∈ p.Hunks := List.getElem_mem hlt
    rw [List.drop_eq_getElem_cons hlt, goodGo] at hg
    obtain ⟨h, hx⟩ : ∃ x, x = p.Hunks[k] := ⟨_, rfl⟩
    rw [← hx] at hv hmem hg
    have h1 := szP_mem hmem
    have h3 := szL_len h.Lines
    have ho := linesNot_len h.Lines 43
    have hn := linesNot_len h.Lines 45
    unfold szH at h1
    refine k5 ?_; refine k1 ?_; refine k2 ?_; refine k3 ?_; refine k2 ?_
    refine c_region ?_; refine l_neu (n_field_ref rfl) rfl ?_; refine l_neu (n_load_ref rfl rfl rfl) rfl ?_; refine l_neu (n_move rfl rfl) rfl ?_; refine l_neu (n_indexAddr rfl (.pure _ _ _ _) rfl (by omega) hv) rfl ?_; refine l_neu (n_loads_eref rfl rfl) rfl ?_; refine l_effv (f_alloc 6 rfl) rfl ?_; refine l_eff (e_store_ref TySz.out rfl rfl rfl rfl rfl rfl) ?_; refine l_nil ?_
    refine k1 ?_; refine k2 ?_
    refine c_region ?_; refine l_neu (n_assign rfl rfl) rfl ?_; refine l_nil ?_
    refine k1 ?_; refine k2 ?_; refine k2 ?_
    refine c_region ?_; refine l_neu (n_assign rfl rfl) rfl ?_; refine l_nil ?_
    refine k1 ?_; refine k3 ?_
    refine c_while (X := Nat) (fun n => ([(1, .s (.one (.ref 1 0))), (3, sInt i), (4, sInt j), (5, sInt k), (6, .s (.one (.ref 6 0))), (7, sVal (.bool (someCh (h.Lines.take n)))), (8, sInt n)], [(1, .box (pPatch p).s1.cells), (6, .box (pPhunk h).s1.cells)])) (fun n => n ≤ h.Lines.length ∧ h.Lines.all goodLn = (h.Lines.drop n).all goodLn) (fun n => h.Lines.length - n) 0 ⟨Nat.zero_le _, rfl⟩ (Sees.of ⟨le1 rfl, le1 rfl, le1 rfl, le1 rfl, le1 rfl, le1 rfl, le1 rfl, trivial⟩ ⟨rfl, rfl, trivial⟩) ?_
    rintro n ⟨hn1, hn2⟩
    dsimp only at hn1 hn2 ⊢
    refine k2 ?_; refine k2 ?_
    refine c_region ?_; refine l_neu (n_move rfl rfl) rfl ?_; refine l_neu (n_field_ref rfl) rfl ?_; refine l_neu (n_load_ref rfl rfl rfl) rfl ?_; refine l_neu (n_len rfl (.pure _ _ _ _)) rfl ?_; refine l_neu (n_lss rfl rfl) rfl ?_; refine l_nil ?_
    refine k1 ?_
    refine c_cond rfl (fun ht => ?_) (fun ht => ?_)
    · have hlt2 : n < h.Lines.length := by have := of_decide_eq_true ht; omega
      have hv2 : h.Lines[n]? = some h.Lines[n] := by simp [hlt2]
      have hmem2 := szL_mem (List.getElem_mem hlt2)
      have hsucc := someCh_succ h.Lines n hlt2
      rw [List.drop_eq_getElem_cons hlt2, List.all_cons] at hn2
      obtain ⟨x, hx2⟩ : ∃ x, x = h.Lines[n] := ⟨_, rfl⟩
      rw [← hx2] at hv2 hmem2 hsucc hn2
      refine k5 ?_; refine k1 ?_; refine k2 ?_; refine k3 ?_; refine k2 ?_
      refine c_region ?_; refine l_neu (n_field_ref rfl) rfl ?_; refine l_neu (n_load_ref rfl rfl rfl) rfl ?_; refine l_neu (n_move rfl rfl) rfl ?_; refine l_neu (n_indexAddr rfl (.pure _ _ _ _) rfl (by omega) hv2) rfl ?_; refine l_neu (n_field_eref rfl) rfl ?_; refine l_neu (n_load_eref rfl rfl) rfl ?_; refine l_neu (n_assign rfl rfl) rfl ?_; refine l_nil ?_
      refine k1 ?_; refine k2 ?_; refine k2 ?_
      refine c_region ?_; refine l_neu (n_move rfl rfl) rfl ?_; refine l_neu (n_neq rfl rfl) rfl ?_; refine l_neu (n_move rfl rfl) rfl ?_; refine l_guard rfl rfl rfl rfl (fun hg => by rw [hg]; exact n_move rfl rfl) ?_; refine l_guard rfl rfl rfl rfl (fun hg => by rw [hg]; exact n_neq rfl rfl) ?_; refine l_neu (n_pick_bool rfl (fun h => by first | rfl | (rw [h]; rfl)) (fun h => by first | rfl | (rw [h]; rfl))) rfl ?_; refine l_neu (n_move rfl rfl) rfl ?_; refine l_guard rfl rfl rfl rfl (fun hg => by rw [hg]; exact n_move rfl rfl) ?_; refine l_guard rfl rfl rfl rfl (fun hg => by rw [hg]; exact n_neq rfl rfl) ?_; refine l_neu (n_pick_bool rfl (fun h => by first | rfl | (rw [h]; rfl)) (fun h => by first | rfl | (rw [h]; rfl))) rfl ?_; refine l_neu (n_move rfl rfl) rfl ?_; refine l_guard rfl rfl rfl rfl (fun hg => by rw [hg]; exact n_field_ref rfl) ?_; refine l_guard rfl rfl rfl rfl (fun hg => by rw [hg]; exact n_load_ref rfl rfl rfl) ?_; refine l_guard rfl rfl rfl rfl (fun hg => by rw [hg]; exact n_move rfl rfl) ?_; refine l_guard rfl rfl rfl rfl (fun hg => by have hq := hg; (try simp at hq); rw [hg]; exact n_indexAddr rfl (.pure _ _ _ _) rfl (by omega) hv2) ?_; refine l_guard rfl rfl rfl rfl (fun hg => by rw [hg]; exact n_field_eref rfl) ?_; refine l_guard rfl rfl rfl rfl (fun hg => by rw [hg]; exact n_load_eref rfl rfl) ?_; refine l_guard rfl rfl rfl rfl (fun hg => by have hq := hg; (try simp at hq); rw [hg]; exact n_call1 (line_ok x.Text (by omega)) rfl rfl) ?_; refine l_guard rfl rfl rfl rfl (fun hg => by rw [hg]; exact n_not rfl) ?_; refine l_neu (n_pick_bool rfl (fun h => by first | rfl | (rw [h]; rfl)) (fun h => by first | rfl | (rw [h]; rfl))) rfl ?_; refine l_nil ?_
      refine k1 ?_
      refine c_cond rfl (fun ht => ?_) (fun ht => ?_)
      · simp only [kn32, kn45, kn43, and_pick, notB, or_pick] at ht
        have hb : badLn x := of_decide_eq_true ht
        refine k2 ?_
        refine c_region ?_; refine l_neu (n_assign rfl rfl) rfl ?_; refine l_nil ?_
        refine k1 ?_; refine k10 ?_; refine k11 ?_; refine k12 ?_; refine k11 ?_; refine k11 ?_; refine k12 ?_; refine k11 ?_; refine k12 ?_; refine k11 ?_; refine k11 ?_; refine k12 ?_; refine k11 ?_
        refine ret_ret (ret1 rfl rfl rfl) ?_
        have : goodLn x = false := decide_eq_false (fun hh => hh hb)
        rw [goodOf, hg, hn2, this]; rfl
      · simp only [kn32, kn45, kn43, and_pick, notB, or_pick] at ht
        have hb : ¬ badLn x := of_decide_eq_false ht
        have hgl : goodLn x = true := decide_eq_true hb
        rw [hgl, Bool.true_and] at hn2
        refine k5 ?_; refine k1 ?_
        refine c_region ?_; refine l_neu (n_move rfl rfl) rfl ?_; refine l_neu (n_move rfl rfl) rfl ?_; refine l_guard rfl rfl rfl rfl (fun hg => by rw [hg]; exact n_move rfl rfl) ?_; refine l_guard rfl rfl rfl rfl (fun hg => by rw [hg]; exact n_neq rfl rfl) ?_; refine l_neu (n_pick_bool rfl (fun h => by first | rfl | (rw [h]; rfl)) (fun h => by first | rfl | (rw [h]; rfl))) rfl ?_; refine l_neu (n_assign rfl rfl) rfl ?_; refine l_nil ?_
        refine k4 ?_; refine k1 ?_
        refine c_region ?_; refine l_neu (n_move rfl rfl) rfl ?_; refine l_neu (n_add rfl rfl (by omega)) rfl ?_; refine l_neu (n_assign rfl rfl) rfl ?_; refine l_nil ?_
        refine k1 ?_
        refine ⟨n + 1, ⟨by omega, hn2⟩, by omega, ?_⟩
        rw [kn32, ← hsucc]
        exact Sees.of ⟨le1 rfl, le1 rfl, le1 rfl, le1 rfl, le1 rfl, le1 rfl, le1 rfl, trivial⟩ ⟨rfl, rfl, trivial⟩
    · have hn' : n = h.Lines.length := by have := of_decide_eq_false ht; omega
      subst hn'
      rw [List.take_length]
      rw [List.drop_eq_nil_of_le (Nat.le_refl _)] at hn2
      rw [hn2, List.all_nil, Bool.true_and] at hg
      refine k6 ?_; refine k2 ?_; refine k2 ?_
      refine c_region ?_; refine l_neu (n_move rfl rfl) rfl ?_; refine l_neu (n_not rfl) rfl ?_; refine l_neu (n_move rfl rfl) rfl ?_; refine l_guard rfl rfl rfl rfl (fun hg => by rw [hg]; exact n_field_ref rfl) ?_; refine l_guard rfl rfl rfl rfl (fun hg => by rw [hg]; exact n_load_ref rfl rfl rfl) ?_; refine l_guard rfl rfl rfl rfl (fun hg => by rw [hg]; exact n_move rfl rfl) ?_; refine l_guard rfl rfl rfl rfl (fun hg => by rw [hg]; exact n_lss rfl rfl) ?_; refine l_neu (n_pick_bool rfl (fun h => by first | rfl | (rw [h]; rfl)) (fun h => by first | rfl | (rw [h]; rfl))) rfl ?_; refine l_neu (n_move rfl rfl) rfl ?_; refine l_guard rfl rfl rfl rfl (fun hg => by rw [hg]; exact n_field_ref rfl) ?_; refine l_guard rfl rfl rfl rfl (fun hg => by rw [hg]; exact n_load_ref rfl rfl rfl) ?_; refine l_guard rfl rfl rfl rfl (fun hg => by rw [hg]; exact n_move rfl rfl) ?_; refine l_guard rfl rfl rfl rfl (fun hg => by rw [hg]; exact n_lss rfl rfl) ?_; refine l_neu (n_pick_bool rfl (fun h => by first | rfl | (rw [h]; rfl)) (fun h => by first | rfl | (rw [h]; rfl))) rfl ?_; refine l_neu (n_move rfl rfl) rfl ?_; refine l_guard rfl rfl rfl rfl (fun hg => by rw [hg]; exact n_field_ref rfl) ?_; refine l_guard rfl rfl rfl rfl (fun hg => by rw [hg]; exact n_load_ref rfl rfl rfl) ?_; refine l_guard rfl rfl rfl rfl (fun hg => by rw [hg]; exact n_gtr rfl rfl) ?_; refine l_neu (n_pick_bool rfl (fun h => by first | rfl | (rw [h]; rfl)) (fun h => by first | rfl | (rw [h]; rfl))) rfl ?_; refine l_neu (n_move rfl rfl) rfl ?_; refine l_guard rfl rfl rfl rfl (fun hg => by rw [hg]; exact n_field_ref rfl) ?_; refine l_guard rfl rfl rfl rfl (fun hg => by rw [hg]; exact n_load_ref rfl rfl rfl) ?_; refine l_guard rfl rfl rfl rfl (fun hg => by rw [hg]; exact n_gtr rfl rfl) ?_; refine l_neu (n_pick_bool rfl (fun h => by first | rfl | (rw [h]; rfl)) (fun h => by first | rfl | (rw [h]; rfl))) rfl ?_; refine l_neu (n_move rfl rfl) rfl ?_; refine l_guard rfl rfl rfl rfl (fun hg => by rw [hg]; exact n_field_ref rfl) ?_; refine l_guard rfl rfl rfl rfl (fun hg => by rw [hg]; exact n_load_ref rfl rfl rfl) ?_; refine l_guard rfl rfl rfl rfl (fun hg => by rw [hg]; exact n_move rfl rfl) ?_; refine l_guard rfl rfl rfl rfl (fun hg => by have hq := hg; (try simp at hq); rw [hg]; exact n_sub rfl rfl (by omega)) ?_; refine l_guard rfl rfl rfl rfl (fun hg => by rw [hg]; exact n_field_ref rfl) ?_; refine l_guard rfl rfl rfl rfl (fun hg => by rw [hg]; exact n_load_ref rfl rfl rfl) ?_; refine l_guard rfl rfl rfl rfl (fun hg => by rw [hg]; exact n_move rfl rfl) ?_; refine l_guard rfl rfl rfl rfl (fun hg => by have hq := hg; (try simp at hq); rw [hg]; exact n_sub rfl rfl (by omega)) ?_; refine l_guard rfl rfl rfl rfl (fun hg => by rw [hg]; exact n_neq rfl rfl) ?_; refine l_neu (n_pick_bool rfl (fun h => by first | rfl | (rw [h]; rfl)) (fun h => by first | rfl | (rw [h]; rfl))) rfl ?_; refine l_nil ?_
      refine k1 ?_
      refine c_cond rfl (fun ht => ?_) (fun ht => ?_)
      · simp only [notB, or_pick] at ht
        have hb : offPlace (someCh h.Lines) i j h := of_decide_eq_true ht
        refine k2 ?_
        refine c_region ?_; refine l_neu (n_assign rfl rfl) rfl ?_; refine l_nil ?_
        refine k1 ?_; refine k10 ?_; refine k11 ?_; refine k12 ?_; refine k11 ?_; refine k11 ?_; refine k12 ?_; refine k11 ?_
        exact ret_ret (ret1 rfl rfl rfl) (by rw [goodOf, hg, decide_eq_false (fun hh => hh hb)]; rfl)
      · simp only [notB, or_pick] at ht
        have hb : ¬ offPlace (someCh h.Lines) i j h := of_decide_eq_false ht
        rw [decide_eq_true hb, Bool.true_and] at hg
        have hb2 : i ≤ h.Old ∧ j ≤ h.New ∧ h.Old ≤ 4096 ∧ h.New ≤ 4096 := by unfold offPlace at hb; omega
        refine k5 ?_; refine k1 ?_; refine k2 ?_
        refine c_region_draw (by kernel_rfl) (by kernel_rfl) ?_; refine d_neu (n_field_ref rfl) rfl rfl ?_; refine d_neu (n_load_ref rfl rfl rfl) rfl rfl ?_; refine d_neu (n_loads_ref rfl rfl rfl) rfl rfl ?_; refine d_neu (n_call1 (rlines12_ok h 43 (by omega)) rfl rfl) rfl rfl ?_; refine d_neu (n_len rfl (.pure _ _ _ _)) rfl rfl ?_; refine d_neu (n_add rfl rfl (by omega)) rfl rfl ?_; refine d_neu (n_field_ref rfl) rfl rfl ?_; refine d_neu (n_load_ref rfl rfl rfl) rfl rfl ?_; refine d_neu (n_loads_ref rfl rfl rfl) rfl rfl ?_; refine d_neu (n_call1 (rlines12_ok h 45 (by omega)) rfl rfl) rfl rfl ?_; refine d_neu (n_len rfl (.pure _ _ _ _)) rfl rfl ?_; refine d_neu (n_add rfl rfl (by omega)) rfl rfl ?_; refine d_neu (n_assign rfl rfl) rfl rfl ?_; refine d_neu (n_assign rfl rfl) rfl rfl ?_; refine d_nil ?_
        refine k1 ?_; refine k2 ?_
        refine c_region ?_; refine l_neu (n_move rfl rfl) rfl ?_; refine l_neu (n_gtr rfl rfl) rfl ?_; refine l_neu (n_move rfl rfl) rfl ?_; refine l_guard rfl rfl rfl rfl (fun hg => by rw [hg]; exact n_move rfl rfl) ?_; refine l_guard rfl rfl rfl rfl (fun hg => by rw [hg]; exact n_gtr rfl rfl) ?_; refine l_neu (n_pick_bool rfl (fun h => by first | rfl | (rw [h]; rfl)) (fun h => by first | rfl | (rw [h]; rfl))) rfl ?_; refine l_nil ?_
        refine k1 ?_
        refine c_cond rfl (fun ht => ?_) (fun ht => ?_)
        · have hb3 := of_decide_eq_true (or_pick.symm.trans ht)
          refine k2 ?_
          refine c_region ?_; refine l_neu (n_assign rfl rfl) rfl ?_; refine l_nil ?_
          refine k1 ?_; refine k10 ?_; refine k12 ?_; refine k11 ?_; refine k11 ?_; refine k12 ?_; refine k11 ?_
          exact ret_ret (ret1 rfl rfl rfl) (by rw [goodOf, hg, decide_eq_false (fun hh => hh hb3)]; rfl)
        · have hb3 := of_decide_eq_false (or_pick.symm.trans ht)
          rw [decide_eq_true (p := ¬ (4096 < h.Old + oldN h ∨ 4096 < h.New + newN h)) hb3, Bool.true_and] at hg
          refine k5 ?_; refine k4 ?_; refine k1 ?_
          refine c_region ?_; refine l_neu (n_move rfl rfl) rfl ?_; refine l_neu (n_add rfl rfl (by omega)) rfl ?_; refine l_neu (n_assign rfl rfl) rfl ?_; refine l_nil ?_
          refine k1 ?_
          exact ⟨(k + 1, h.Old + oldN h, h.New + newN h), ⟨by dsimp only; omega, hg, by unfold oldN; dsimp only; omega, by unfold oldN; dsimp only; omega, by unfold newN; dsimp only; omega, by unfold newN; dsimp only; omega⟩, by dsimp only; omega, Sees.of ⟨le1 rfl, le1 rfl, le1 rfl, le1 rfl, trivial⟩ ⟨rfl, trivial⟩⟩
  · have hk' : k = p.Hunks.length := by have := of_decide_eq_false ht; omega
    rw [hk', List.drop_eq_nil_of_le (Nat.le_refl _), goodGo] at hg
    refine k6 ?_; refine k2 ?_
    refine c_region ?_; refine l_neu (n_loads_ref rfl rfl rfl) rfl ?_; refine l_call (rside_ok p 43 hp) rfl rfl rfl ?_; rintro _ rfl; refine l_neu (n_move rfl rfl) rfl ?_; refine l_guard rfl rfl rfl rfl (fun hg => by rw [hg]; exact n_loads_ref rfl rfl rfl) ?_; refine l_guard rfl rfl rfl rfl (fun hg => by have hq := hg; (try simp at hq); rw [hg]; exact n_call1 (rside_ok p 45 hp) rfl rfl) ?_; refine l_neu (n_pick_bool rfl (fun h => by first | rfl | (rw [h]; rfl)) (fun h => by first | rfl | (rw [h]; rfl))) rfl ?_; refine l_neu (n_assign rfl rfl) rfl ?_; refine l_nil ?_
    refine k1 ?_; refine k10 ?_
    refine ret_ret (ret1 rfl rfl rfl) ?_
    rw [goodOf, hg]
    cases sideOk p.Hunks 43 <;> rfl
end Go.Proofs.YtjjidificdmnmaaGreatDoor
namespace Go.Proofs.YtjjidificdmnmaaGreatDoor
open Go Go.AL
set_option maxRecDepth 100000
theorem rwrite_ok (p : Patch) (hp : PFit p) (hrange : ∀ h ∈ p.Hunks, (-4611686018427387904 ≤ h.Old ∧ h.Old ≤ 4611686018427387904) ∧ (-4611686018427387904 ≤ h.New ∧ h.New ≤ 4611686018427387904)) : FnOk Tryz.prog 58 [pPatch p] (fun rs => rs = [pStr (writeOf p)]) := by
  have hsl := szP_len p.Hunks
  have hpl := hp.hunks
  have hpo := hp.old
  have hpn := hp.new
  have hq1 := quoteOf_len p.OldName
  have hq2 := quoteOf_len p.NewName
  have hnf := namePs_flat p
  have hnl : (namePs p).length = 2 := rfl
  refine FnOk.intro Tryz.func58 (by decide) rfl rfl rfl rfl ?_
  refine k2 ?_
  refine c_region ?_; refine l_effv (f_box 1 rfl rfl rfl) rfl ?_; refine l_neu (n_assign rfl rfl) rfl ?_; refine l_nil ?_
  refine k1 ?_; refine k2 ?_
  refine c_region_turn 10 (by kernel_rfl) (by kernel_rfl) rfl ?_; refine d_neu (n_field_ref rfl) rfl rfl ?_; refine d_neu (n_load_ref rfl rfl rfl) rfl rfl ?_; refine d_neu (n_call1 (rquote_ok p.OldName (by omega)) rfl rfl) rfl rfl ?_; refine d_neu (n_add_s rfl rfl (by (simp only [List.length_cons, List.length_nil]; omega))) rfl rfl ?_; refine d_neu (n_add_s rfl rfl (by (simp only [List.length_append, List.length_cons, List.length_nil]; omega))) rfl rfl ?_; refine d_neu (n_field_ref rfl) rfl rfl ?_; refine d_neu (n_load_ref rfl rfl rfl) rfl rfl ?_; refine d_neu (n_call1 (rquote_ok p.NewName (by omega)) rfl rfl) rfl rfl ?_; refine d_neu (n_add_s rfl rfl (by (simp only [List.length_cons, List.length_nil]; omega))) rfl rfl ?_; refine d_neu (n_add_s rfl rfl (by (simp only [List.length_append, List.length_cons, List.length_nil]; omega))) rfl rfl ?_; refine d_nil ?_; refine d_turn (f_buildBuf 3 (c := strC) (ys := (namePs p)) (asm_cons rfl rfl rfl rfl (asm_cons rfl rfl rfl rfl asm_nil)) rfl rfl rfl (by first | rfl | (simp [frFree, obFree, Ob.free, SV.free, S1.free, TC.free] <;> rfl))) rfl ?_; refine d_neu (n_assign rfl rfl) rfl rfl ?_; refine d_nil ?_
  refine k1 ?_; refine k2 ?_; refine k2 ?_
  refine c_region ?_; refine l_neu (n_assign rfl rfl) rfl ?_; refine l_nil ?_
  refine k1 ?_; refine k3 ?_
  refine c_while (X := Nat) (fun k => ([(1, .s (.one (.ref 1 0))), (3, .s (.one (.buf 3 Str 1 strC (namePs p ++ ((p.Hunks.take k).map hunkPs).flatten)))), (4, sInt k)], [(1, .box (pPatch p).s1.cells), (3, .spare (namePs p ++ ((p.Hunks.take k).map hunkPs).flatten).length 1 9)])) (fun k => k ≤ p.Hunks.length) (fun k => p.Hunks.length - k) 0 (Nat.zero_le _) (Sees.of ⟨le1 rfl, le1 rfl, le1 rfl, trivial⟩ ⟨rfl, rfl, trivial⟩) ?_
  intro k hk
  dsimp only at hk ⊢
  have hle := szP_take p.Hunks k
  have hlb := hunksPs_len (p.Hunks.take k)
  refine k2 ?_; refine k2 ?_
  refine c_region ?_; refine l_neu (n_move rfl rfl) rfl ?_; refine l_neu (n_field_ref rfl) rfl ?_; refine l_neu (n_load_ref rfl rfl rfl) rfl ?_; refine l_neu (n_len rfl (.pure _ _ _ _)) rfl ?_; refine l_neu (n_lss rfl rfl) rfl ?_; refine l_nil ?_
  refine k1 ?_
  refine c_cond rfl (fun ht => ?_) (fun ht => ?_)
  · have hlt : k < p.Hunks.length := by have := of_decide_eq_true ht; omega
    have hv : p.Hunks[k]? = some p.Hunks[k] := by simp [hlt]
    have hmem : p.Hunks[k] ∈ p.Hunks := List.getElem_mem hlt
    have hsucc := hunkTo_succ p.Hunks k hlt
    obtain ⟨h, hx⟩ : ∃ x, x = p.Hunks[k] := ⟨_, rfl⟩
    rw [← hx] at hv hmem hsucc
    have h1 := szP_mem hmem
    have h3 := szL_len h.Lines
    have ho := linesNot_len h.Lines 43
    have hn := linesNot_len h.Lines 45
    have hr1 := rangeOf_len h.Old (oldN h)
    have hr2 := rangeOf_len h.New (newN h)
    unfold szH at h1
    obtain ⟨base, hbase⟩ : ∃ base, base = namePs p ++ ((p.Hunks.take k).map hunkPs).flatten := ⟨_, rfl⟩
    have hbl : base.length ≤ 2 + szP p.Hunks := by rw [hbase, List.length_append]; omega
    rw [← hbase]
    have hho : -4611686018427387904 ≤ h.Old ∧ h.Old ≤ 4611686018427387904 := (hrange h hmem).1
    have hhn : -4611686018427387904 ≤ h.New ∧ h.New ≤ 4611686018427387904 := (hrange h hmem).2
    refine k5 ?_; refine k1 ?_; refine k2 ?_; refine k3 ?_; refine k2 ?_
    refine c_region ?_; refine l_neu (n_field_ref rfl) rfl ?_; refine l_neu (n_load_ref rfl rfl rfl) rfl ?_; refine l_neu (n_move rfl rfl) rfl ?_; refine l_neu (n_indexAddr rfl (.pure _ _ _ _) rfl (by omega) hv) rfl ?_; refine l_neu (n_loads_eref rfl rfl) rfl ?_; refine l_effv (f_alloc 5 rfl) rfl ?_; refine l_eff (e_store_ref TySz.out rfl rfl rfl rfl rfl rfl) ?_; refine l_nil ?_
    refine k1 ?_; refine k2 ?_
    refine c_region_draw (by kernel_rfl) (by kernel_rfl) ?_; refine d_neu (n_move rfl rfl) rfl rfl ?_; refine d_neu (n_field_ref rfl) rfl rfl ?_; refine d_neu (n_load_ref rfl rfl rfl) rfl rfl ?_; refine d_neu (n_loads_ref rfl rfl rfl) rfl rfl ?_; refine d_neu (n_call1 (rlines12_ok h 43 (by omega)) rfl rfl) rfl rfl ?_; refine d_neu (n_len rfl (.pure _ _ _ _)) rfl rfl ?_; refine d_neu (n_call1 (rrange_ok h.Old _ hho (by omega)) rfl rfl) rfl rfl ?_; refine d_neu (n_add_s rfl rfl (by (simp only [List.length_cons, List.length_nil]; unfold oldN at hr1; omega))) rfl rfl ?_; refine d_neu (n_add_s rfl rfl (by (simp only [List.length_append, List.length_cons, List.length_nil]; unfold oldN at hr1; omega))) rfl rfl ?_; refine d_neu (n_field_ref rfl) rfl rfl ?_; refine d_neu (n_load_ref rfl rfl rfl) rfl rfl ?_; refine d_neu (n_loads_ref rfl rfl rfl) rfl rfl ?_; refine d_neu (n_call1 (rlines12_ok h 45 (by omega)) rfl rfl) rfl rfl ?_; refine d_neu (n_len rfl (.pure _ _ _ _)) rfl rfl ?_; refine d_neu (n_call1 (rrange_ok h.New _ hhn (by omega)) rfl rfl) rfl rfl ?_; refine d_neu (n_add_s rfl rfl (by (simp only [List.length_append, List.length_cons, List.length_nil]; unfold oldN at hr1; unfold newN at hr2; omega))) rfl rfl ?_; refine d_neu (n_add_s rfl rfl (by (simp only [List.length_append, List.length_cons, List.length_nil]; unfold oldN at hr1; unfold newN at hr2; omega))) rfl rfl ?_; refine d_neu (n_buildSlice (c := strC) (ys := [headW h]) (asm_cons rfl rfl rfl rfl asm_nil) rfl rfl rfl) rfl rfl ?_; refine d_effv (e_append rfl rfl rfl (.pure _ _ _ _) (by (simp only [List.length_cons, List.length_nil]; omega)) rfl) rfl rfl ?_; refine d_neu (n_assign rfl rfl) rfl rfl ?_; refine d_nil ?_
    refine k1 ?_; refine k2 ?_
    refine c_region ?_; refine l_neu (n_assign rfl rfl) rfl ?_; refine l_nil ?_
    refine k1 ?_; refine k3 ?_
    refine c_while (X := Nat) (fun n => ([(1, .s (.one (.ref 1 0))), (3, .s (.one (.buf 3 Str 1 strC (base ++ (headW h :: ((h.Lines.take n).map linePs).flatten))))), (4, sInt k), (5, .s (.one (.ref 5 0))), (6, sInt n)], [(1, .box (pPatch p).s1.cells), (3, .spare (base ++ (headW h :: ((h.Lines.take n).map linePs).flatten)).length 1 9), (5, .box (pPhunk h).s1.cells)])) (fun n => n ≤ h.Lines.length) (fun n => h.Lines.length - n) 0 (Nat.zero_le _) (Sees.of ⟨le1 rfl, le1 rfl, le1 rfl, le1 rfl, le1 rfl, trivial⟩ ⟨rfl, rfl, rfl, trivial⟩) ?_
    intro n hn1
    dsimp only at hn1 ⊢
    have hll := linesPs_len (h.Lines.take n)
    have hlt3 : (h.Lines.take n).length ≤ h.Lines.length := by rw [List.length_take]; omega
    refine k2 ?_; refine k2 ?_
    refine c_region ?_; refine l_neu (n_move rfl rfl) rfl ?_; refine l_neu (n_field_ref rfl) rfl ?_; refine l_neu (n_load_ref rfl rfl rfl) rfl ?_; refine l_neu (n_len rfl (.pure _ _ _ _)) rfl ?_; refine l_neu (n_lss rfl rfl) rfl ?_; refine l_nil ?_
    refine k1 ?_
    refine c_cond rfl (fun ht => ?_) (fun ht => ?_)
    · have hlt2 : n < h.Lines.length := by have := of_decide_eq_true ht; omega
      have hv2 : h.Lines[n]? = some h.Lines[n] := by simp [hlt2]
      have hmem2 := szL_mem (List.getElem_mem hlt2)
      have hsucc2 := lineTo_succ h.Lines n hlt2
      obtain ⟨x, hx2⟩ : ∃ x, x = h.Lines[n] := ⟨_, rfl⟩
      rw [← hx2] at hv2 hmem2 hsucc2
      refine k5 ?_; refine k1 ?_; refine k2 ?_; refine k3 ?_; refine k2 ?_
      refine c_region_draw (by kernel_rfl) (by kernel_rfl) ?_; refine d_neu (n_move rfl rfl) rfl rfl ?_; refine d_neu (n_field_ref rfl) rfl rfl ?_; refine d_neu (n_load_ref rfl rfl rfl) rfl rfl ?_; refine d_neu (n_move rfl rfl) rfl rfl ?_; refine d_neu (n_indexAddr rfl (.pure _ _ _ _) rfl (by omega) hv2) rfl rfl ?_; refine d_neu (n_field_eref rfl) rfl rfl ?_; refine d_neu (n_load_eref rfl rfl) rfl rfl ?_; refine d_neu (n_buildSlice (c := u8C) (ys := [x.Kind]) (asm_cons rfl rfl rfl rfl asm_nil) rfl rfl rfl) rfl rfl ?_; refine d_neu (n_bytes_string TyStr.out rfl (.pure _ _ _ _)) rfl rfl ?_; refine d_neu (n_field_ref rfl) rfl rfl ?_; refine d_neu (n_load_ref rfl rfl rfl) rfl rfl ?_; refine d_neu (n_move rfl rfl) rfl rfl ?_; refine d_neu (n_indexAddr rfl (.pure _ _ _ _) rfl (by omega) hv2) rfl rfl ?_; refine d_neu (n_field_eref rfl) rfl rfl ?_; refine d_neu (n_load_eref rfl rfl) rfl rfl ?_; refine d_neu (n_add_s rfl rfl (by (simp only [List.length_cons, List.length_nil]; omega))) rfl rfl ?_; refine d_neu (n_buildSlice (c := strC) (ys := [_]) (asm_cons rfl rfl rfl rfl asm_nil) rfl rfl rfl) rfl rfl ?_; refine d_effv (e_append rfl rfl rfl (.pure _ _ _ _) (by (simp only [List.length_append, List.length_cons, List.length_nil]; omega)) rfl) rfl rfl ?_; refine d_neu (n_assign rfl rfl) rfl rfl ?_; refine d_nil ?_
      have hcons : ∀ a b : List Str, base ++ headW h :: (a ++ b) = base ++ headW h :: a ++ b := fun a b => by simp
      refine k1 ?_; refine k2 ?_
      refine c_region ?_; refine l_neu (n_field_ref rfl) rfl ?_; refine l_neu (n_load_ref rfl rfl rfl) rfl ?_; refine l_neu (n_move rfl rfl) rfl ?_; refine l_neu (n_indexAddr rfl (.pure _ _ _ _) rfl (by omega) hv2) rfl ?_; refine l_neu (n_field_eref rfl) rfl ?_; refine l_neu (n_load_eref rfl rfl) rfl ?_; refine l_call (ended_ok x.Text (by omega)) rfl rfl rfl ?_; rintro _ rfl; refine l_neu (n_not rfl) rfl ?_; refine l_nil ?_
      refine k1 ?_
      refine c_cond rfl (fun ht => ?_) (fun ht => ?_)
      · have h2 : ended x.Text = false := by simpa using ht
        have e : linePs x = [[x.Kind] ++ x.Text] ++ [markS] := by rw [linePs, h2]; rfl
        skip
        refine c_region ?_; refine l_neu (n_move rfl rfl) rfl ?_; refine l_neu (n_buildSlice (c := strC) (ys := [markS]) (asm_cons rfl rfl rfl rfl asm_nil) rfl rfl rfl) rfl ?_; refine l_effv (e_append rfl rfl rfl (.pure _ _ _ _) (by (simp only [List.length_append, List.length_cons, List.length_nil]; omega)) rfl) rfl ?_; refine l_neu (n_assign rfl rfl) rfl ?_; refine l_nil ?_
        refine k4 ?_; refine k1 ?_
        refine c_region ?_; refine l_neu (n_move rfl rfl) rfl ?_; refine l_neu (n_add rfl rfl (by omega)) rfl ?_; refine l_neu (n_assign rfl rfl) rfl ?_; refine l_nil ?_
        refine k1 ?_
        refine ⟨n + 1, by omega, by omega, ?_⟩
        rw [hsucc2, e, ← List.append_assoc, hcons, hcons]
        exact Sees.of ⟨le1 rfl, le1 rfl, le1 rfl, le1 rfl, le1 rfl, trivial⟩ ⟨rfl, rfl, rfl, trivial⟩
      · have h2 : ended x.Text = true := by simpa using ht
        have e : linePs x = [[x.Kind] ++ x.Text] := by rw [linePs, h2]; rfl
        refine k5 ?_; refine k4 ?_; refine k1 ?_
        refine c_region ?_; refine l_neu (n_move rfl rfl) rfl ?_; refine l_neu (n_add rfl rfl (by omega)) rfl ?_; refine l_neu (n_assign rfl rfl) rfl ?_; refine l_nil ?_
        refine k1 ?_
        refine ⟨n + 1, by omega, by omega, ?_⟩
        rw [hsucc2, e, hcons]
        exact Sees.of ⟨le1 rfl, le1 rfl, le1 rfl, le1 rfl, le1 rfl, trivial⟩ ⟨rfl, rfl, rfl, trivial⟩
    · have hn' : n = h.Lines.length := by have := of_decide_eq_false ht; omega
      subst hn'
      rw [List.take_length]
      refine k6 ?_; refine k7 ?_; refine k7 ?_; refine k8 rfl ?_; refine k4 ?_; refine k1 ?_
      refine c_region ?_; refine l_neu (n_move rfl rfl) rfl ?_; refine l_neu (n_add rfl rfl (by omega)) rfl ?_; refine l_neu (n_assign rfl rfl) rfl ?_; refine l_nil ?_
      refine k1 ?_
      refine ⟨k + 1, by omega, by omega, ?_⟩
      rw [hsucc, ← List.append_assoc, ← hbase]
      exact Sees.of ⟨le1 rfl, le1 rfl, le1 rfl, trivial⟩ ⟨rfl, rfl, trivial⟩
  · have hk' : k = p.Hunks.length := by have := of_decide_eq_false ht; omega
    subst hk'
    have hff := hunksPs_flat p.Hunks
    rw [List.take_length] at hlb ⊢
    have hall : (namePs p ++ (p.Hunks.map hunkPs).flatten).flatten.length ≤ 536870912 := by simp only [List.flatten_append, List.length_append]; omega
    refine k6 ?_; refine k2 ?_
    refine c_region ?_; refine l_neu (n_move rfl rfl) rfl ?_; refine l_call (all_ok _ hall) rfl rfl rfl ?_; rintro _ rfl; refine l_neu (n_assign rfl rfl) rfl ?_; refine l_nil ?_
    refine k1 ?_; refine k10 ?_
    exact ret_ret (ret1 rfl rfl rfl) rfl
theorem rcheck12_ok (p : Patch) (hp : szP p.Hunks ≤ 268435456) : FnOk Tryz.prog 42 [pPatch p] (fun rs => rs = [pInt (check12 p)]) := by
  refine FnOk.intro Tryz.func42 (by decide) rfl rfl rfl rfl ?_
  refine k2 ?_
  refine c_region ?_; refine l_effv (f_box 1 rfl rfl rfl) rfl ?_; refine l_neu (n_assign rfl rfl) rfl ?_; refine l_nil ?_
  refine k1 ?_; refine k2 ?_; refine k3 ?_; refine k2 ?_
  refine c_region ?_; refine l_neu (n_field_ref rfl) rfl ?_; refine l_neu (n_load_ref rfl rfl rfl) rfl ?_; refine l_call (rname_ok p.OldName) rfl rfl rfl ?_; rintro _ rfl; refine l_neu (n_not rfl) rfl ?_; refine l_neu (n_move rfl rfl) rfl ?_; refine l_guard rfl rfl rfl rfl (fun hg => by rw [hg]; exact n_field_ref rfl) ?_; refine l_guard rfl rfl rfl rfl (fun hg => by rw [hg]; exact n_load_ref rfl rfl rfl) ?_; refine l_guard rfl rfl rfl rfl (fun hg => by have hq := hg; (try simp at hq); rw [hg]; exact n_call1 (rname_ok p.NewName) rfl rfl) ?_; refine l_guard rfl rfl rfl rfl (fun hg => by rw [hg]; exact n_not rfl) ?_; refine l_neu (n_pick_bool rfl (fun h => by first | rfl | (rw [h]; rfl)) (fun h => by first | rfl | (rw [h]; rfl))) rfl ?_; refine l_neu (n_assign rfl rfl) rfl ?_; refine l_nil ?_
  refine k1 ?_
  refine c_cond rfl (fun ht => ?_) (fun ht => ?_)
  · simp only [notB, or_pick] at ht
    have h := of_decide_eq_true ht
    refine k2 ?_
    refine c_region ?_; refine l_neu (n_assign rfl rfl) rfl ?_; refine l_nil ?_
    refine k1 ?_; refine k10 ?_; refine k12 ?_; refine k11 ?_
    exact ret_ret (ret1 rfl rfl rfl) (by rw [check12, if_pos h])
  · simp only [notB, or_pick] at ht
    have h := of_decide_eq_false ht
    refine k2 ?_
    refine c_region ?_; refine l_neu (n_loads_ref rfl rfl rfl) rfl ?_; refine l_call (rgood_ok p hp) rfl rfl rfl ?_; rintro _ rfl; refine l_neu (n_not rfl) rfl ?_; refine l_neu (n_assign rfl rfl) rfl ?_; refine l_nil ?_
    refine k1 ?_
    refine c_cond rfl (fun ht => ?_) (fun ht => ?_)
    · have h2 : goodOf p.Hunks = false := by simpa using ht
      refine k2 ?_
      refine c_region ?_; refine l_neu (n_assign rfl rfl) rfl ?_; refine l_nil ?_
      refine k1 ?_; refine k10 ?_; refine k12 ?_; refine k11 ?_
      exact ret_ret (ret1 rfl rfl rfl) (by rw [check12, if_neg h, if_pos h2])
    · have h2 : goodOf p.Hunks = true := by simpa using ht
      have hr := goodOf_range h2
      have hn1 : nameOk p.OldName = true := by by_cases hh : nameOk p.OldName = true; exact hh; exact absurd (.inl (by simpa using hh)) h
      have hn2 : nameOk p.NewName = true := by by_cases hh : nameOk p.NewName = true; exact hh; exact absurd (.inr (by simpa using hh)) h
      have hn3 := of_decide_eq_true hn1
      have hn4 := of_decide_eq_true hn2
      have hpf : PFit p := ⟨by omega, by omega, hp⟩
      refine k2 ?_
      refine c_region ?_; refine l_neu (n_loads_ref rfl rfl rfl) rfl ?_; refine l_call (rwrite_ok p hpf (fun x hx => by have := hr x hx; omega)) rfl rfl rfl ?_; rintro _ rfl; refine l_neu (n_len_s rfl) rfl ?_; refine l_neu (n_gtr rfl rfl) rfl ?_; refine l_neu (n_assign rfl rfl) rfl ?_; refine l_nil ?_
      refine k1 ?_
      refine c_cond rfl (fun ht => ?_) (fun ht => ?_)
      · have h3 := of_decide_eq_true ht
        refine k2 ?_
        refine c_region ?_; refine l_neu (n_assign rfl rfl) rfl ?_; refine l_nil ?_
        refine k1 ?_; refine k10 ?_; refine k12 ?_; refine k11 ?_
        exact ret_ret (ret1 rfl rfl rfl) (by rw [check12, if_neg h, if_neg (by rw [h2]; decide), if_pos (by omega)])
      · have h3 := of_decide_eq_false ht
        refine k5 ?_; refine k2 ?_
        refine c_region ?_; refine l_neu (n_assign rfl rfl) rfl ?_; refine l_nil ?_
        refine k1 ?_; refine k10 ?_
        exact ret_ret (ret1 rfl rfl rfl) (by rw [check12, if_neg h, if_neg (by rw [h2]; decide), if_neg (by omega)])
end Go.Proofs.YtjjidificdmnmaaGreatDoor
namespace Go.Proofs.YtjjidificdmnmaaGreatDoor
open Go Go.AL
set_option maxRecDepth 100000
theorem rput_met {gf : Fr} {ob : Obs} (l : List PatchLine) (k : UInt8) (ts : List Str) (hk : getO ob 701 = some (.spare l.length 2 36)) (hlen : l.length + ts.length ≤ 1073741824) :
    Met Tryz.prog 81 [.one (.buf 701 PatchLine 2 plineC l), .one (.p (.v (.int .u8 k.toNat))), .one (.p (.list Str 1 strC ts))] gf ob [701]
      (fun rs ob' => rs = [.one (.buf 701 PatchLine 2 plineC (l ++ putOf k ts))] ∧ ob' = (701, .spare (l ++ putOf k ts).length 2 36) :: Obs.forget 701 ob) := by
  refine Met.introH Tryz.func81 (by decide) rfl rfl rfl (fun hH => ?_)
  refine k2 ?_
  refine c_region ?_; refine l_neu (n_assign rfl rfl) rfl ?_; refine l_nil ?_
  refine k1 ?_; refine k2 ?_; refine k2 ?_
  refine c_region ?_; refine l_neu (n_assign rfl rfl) rfl ?_; refine l_nil ?_
  refine k1 ?_; refine k3 ?_
  refine c_while (X := Nat) (fun i => ([(0, .s (.one (.buf 701 PatchLine 2 plineC (l ++ putOf k (ts.take i))))), (1, .s (pByte k).s1), (2, sList Str 1 strC ts), (7, sInt i)] ++ Fr.forget 701 gf, (701, .spare (l ++ putOf k (ts.take i)).length 2 36) :: Obs.forget 701 ob)) (fun i => i ≤ ts.length) (fun i => ts.length - i) 0 (Nat.zero_le _) ?_ ?_
  · have e : l ++ putOf k (ts.take 0) = l := by simp [putOf]
    rw [e]
    exact Sees.tailF 701 ⟨le1 rfl, le1 rfl, le1 rfl, le1 rfl, trivial⟩ hH (by repeat (first | exact tail_refl | refine tail_cons rfl ?_)) hk
  intro i hi
  dsimp only at hi ⊢
  have hpl := putOf_len k (ts.take i)
  rw [List.length_take] at hpl
  refine k2 ?_; refine k2 ?_
  refine c_region ?_; refine l_neu (n_move rfl rfl) rfl ?_; refine l_neu (n_move rfl rfl) rfl ?_; refine l_neu (n_len rfl (.pure _ _ _ _)) rfl ?_; refine l_neu (n_lss rfl rfl) rfl ?_; refine l_nil ?_
  refine k1 ?_
  refine c_cond rfl (fun ht => ?_) (fun ht => ?_)
  · have hlt : i < ts.length := by have := of_decide_eq_true ht; omega
    have hv : ts[i]? = some ts[i] := by simp [hlt]
    have hsucc := putOf_succ k ts i hlt
    refine k5 ?_; refine k1 ?_; refine k2 ?_; refine k3 ?_
    refine c_region ?_; refine l_neu (n_move rfl rfl) rfl ?_; refine l_neu (n_move rfl rfl) rfl ?_; refine l_neu (n_move rfl rfl) rfl ?_; refine l_neu (n_move rfl rfl) rfl ?_; refine l_neu (n_indexAddr rfl (.pure _ _ _ _) rfl (by omega) hv) rfl ?_; refine l_neu (n_load_eref rfl rfl) rfl ?_; refine l_neu (n_build rfl) rfl ?_; refine l_neu (n_buildSlice (c := plineC) (ys := [⟨k, ts[i]⟩]) (asm_cons rfl rfl rfl rfl asm_nil) rfl rfl rfl) rfl ?_; refine l_effv (e_append rfl rfl rfl (.pure _ _ _ _) (by (simp only [List.length_append, List.length_cons, List.length_nil]; omega)) rfl) rfl ?_; refine l_neu (n_assign rfl rfl) rfl ?_; refine l_nil ?_
    refine k4 ?_; refine k1 ?_
    refine c_region ?_; refine l_neu (n_move rfl rfl) rfl ?_; refine l_neu (n_add rfl rfl (by omega)) rfl ?_; refine l_neu (n_assign rfl rfl) rfl ?_; refine l_nil ?_
    refine k1 ?_
    refine ⟨i + 1, hlt, by omega, ?_⟩
    rw [hsucc, ← List.append_assoc]
    exact Sees.tailed ⟨le1 rfl, le1 rfl, le1 rfl, le1 rfl, trivial⟩ (high_forget hH) (by repeat (first | exact tail_refl | refine tail_cons rfl ?_ | refine tail_forget' _ ?_)) obs_step
  · have hi' : i = ts.length := by have := of_decide_eq_false ht; omega
    subst hi'
    rw [List.take_length]
    refine k6 ?_; refine k2 ?_
    refine c_region ?_; refine l_neu (n_move rfl rfl) rfl ?_; refine l_neu (n_assign rfl rfl) rfl ?_; refine l_nil ?_
    refine k1 ?_; refine k10 ?_
    exact met_ret (rets1 rfl rfl) (by repeat (first | exact tail_refl | refine tail_cons rfl ?_ | refine tail_forget _ ?_)) (fun _ _ h => h) ⟨rfl, rfl⟩
end Go.Proofs.YtjjidificdmnmaaGreatDoor
namespace Go.Proofs.YtjjidificdmnmaaGreatDoor
open Go Go.AL
set_option maxRecDepth 100000
set_option maxHeartbeats 1000000
end Go.Proofs.YtjjidificdmnmaaGreatDoor
namespace Go.Proofs.YtjjidificdmnmaaGreatDoor
open Go Go.AL
set_option maxRecDepth 100000
end Go.Proofs.YtjjidificdmnmaaGreatDoor
namespace Go.Proofs.YtjjidificdmnmaaGreatDoor
open Go Go.AL
set_option maxRecDepth 100000
end Go.Proofs.YtjjidificdmnmaaGreatDoor
namespace Go.Proofs.YtjjidificdmnmaaGreatDoor
open Go Go.AL
set_option maxRecDepth 100000
theorem unamed_ok (s : Str) : FnOk Tryz.prog 66 [pStr s] (fun rs => rs = [pBool (nameOk s)]) := by
  refine FnOk.intro Tryz.func66 (by decide) rfl rfl rfl rfl ?_
  refine k2 ?_
  refine c_region ?_; refine l_neu (n_assign rfl rfl) rfl ?_; refine l_nil ?_
  refine k1 ?_; refine k2 ?_
  refine c_region ?_; refine l_neu (n_move rfl rfl) rfl ?_; refine l_neu (n_len_s rfl) rfl ?_; refine l_neu (n_geq rfl rfl) rfl ?_; refine l_neu (n_move rfl rfl) rfl ?_; refine l_guard rfl rfl rfl rfl (fun hg => by rw [hg]; exact n_move rfl rfl) ?_; refine l_guard rfl rfl rfl rfl (fun hg => by rw [hg]; exact n_len_s rfl) ?_; refine l_guard rfl rfl rfl rfl (fun hg => by rw [hg]; exact n_leq rfl rfl) ?_; refine l_neu (n_pick_bool rfl (fun h => by first | rfl | (rw [h]; rfl)) (fun h => by first | rfl | (rw [h]; rfl))) rfl ?_; refine l_neu (n_assign rfl rfl) rfl ?_; refine l_nil ?_
  refine k1 ?_; refine k10 ?_
  refine ret_ret (ret1 rfl rfl rfl) ?_
  simp only [and_pick]
  congr 4
  unfold nameOk
  congr 1
  apply propext
  omega
theorem usingle_ok (s : Str) (hs : s.length ≤ 1099511627776) : FnOk Tryz.prog 148 [pStr s] (fun rs => rs = [pBool (lineOk s)]) := by
  refine FnOk.intro Tryz.func148 (by decide) rfl rfl rfl rfl ?_
  refine k2 ?_
  refine c_region ?_; refine l_neu (n_assign rfl rfl) rfl ?_; refine l_nil ?_
  refine k1 ?_; refine k2 ?_
  refine c_region ?_; refine l_neu (n_move rfl rfl) rfl ?_; refine l_neu (n_neq_s rfl rfl) rfl ?_; refine l_neu (n_move rfl rfl) rfl ?_; refine l_guard rfl rfl rfl rfl (fun hg => by rw [hg]; exact n_move rfl rfl) ?_; refine l_guard rfl rfl rfl rfl (fun hg => by have hq := hg; (try simp at hq); rw [hg]; exact n_call1 (tbare_ok s hs) rfl rfl) ?_; refine l_guard rfl rfl rfl rfl (fun hg => by have hq := hg; (try simp at hq); rw [hg]; exact n_call1 (contains1_ok (bareOf s) 10) rfl rfl) ?_; refine l_guard rfl rfl rfl rfl (fun hg => by rw [hg]; exact n_not rfl) ?_; refine l_neu (n_pick_bool rfl (fun h => by first | rfl | (rw [h]; rfl)) (fun h => by first | rfl | (rw [h]; rfl))) rfl ?_; refine l_neu (n_assign rfl rfl) rfl ?_; refine l_nil ?_
  refine k1 ?_; refine k10 ?_
  exact ret_ret (ret1 rfl rfl rfl) (by rw [single_eq])
theorem usizes_ok (h : PatchHunk) (hl : h.Lines.length ≤ 268435456) : FnOk Tryz.prog 145 [pPhunk h] (fun rs => rs = [pInt (oldN h), pInt (newN h)]) := by
  refine FnOk.intro Tryz.func145 (by decide) rfl rfl rfl rfl ?_
  refine k2 ?_
  refine c_region ?_; refine l_effv (f_box 1 rfl rfl rfl) rfl ?_; refine l_neu (n_assign rfl rfl) rfl ?_; refine l_neu (n_assign rfl rfl) rfl ?_; refine l_nil ?_
  refine k1 ?_; refine k2 ?_
  refine c_region ?_; refine l_neu (n_assign rfl rfl) rfl ?_; refine l_neu (n_assign rfl rfl) rfl ?_; refine l_nil ?_
  refine k1 ?_; refine k2 ?_; refine k2 ?_
  refine c_region ?_; refine l_neu (n_field_ref rfl) rfl ?_; refine l_neu (n_load_ref rfl rfl rfl) rfl ?_; refine l_neu (n_len rfl (.pure _ _ _ _)) rfl ?_; refine l_neu (n_move rfl rfl) rfl ?_; refine l_nil ?_
  refine k1 ?_; refine k3 ?_
  refine c_while (X := Nat) (fun i => ([(4, sInt (linesNot (h.Lines.take i) 43).length), (5, sInt (linesNot (h.Lines.take i) 45).length), (9, sList PatchLine 2 plineC h.Lines), (10, sInt h.Lines.length), (11, sInt i)], [])) (fun i => i ≤ h.Lines.length) (fun i => h.Lines.length - i) 0 (Nat.zero_le _) (Sees.of ⟨le1 rfl, le1 rfl, le1 rfl, le1 rfl, le1 rfl, trivial⟩ trivial) ?_
  intro i hi
  dsimp only at hi ⊢
  have h1 := linesNot_len (h.Lines.take i) 43
  have h2 := linesNot_len (h.Lines.take i) 45
  rw [List.length_take] at h1 h2
  refine k2 ?_
  refine c_region ?_; refine l_neu (n_lss rfl rfl) rfl ?_; refine l_nil ?_
  refine k1 ?_; refine k2 ?_
  refine c_cond rfl (fun ht => ?_) (fun ht => ?_)
  · have hlt : i < h.Lines.length := by have := of_decide_eq_true ht; omega
    have hv : h.Lines[i]? = some h.Lines[i] := by simp [hlt]
    have s1 := linesNot_succ h.Lines 43 i hlt
    have s2 := linesNot_succ h.Lines 45 i hlt
    obtain ⟨x, hx⟩ : ∃ x, x = h.Lines[i] := ⟨_, rfl⟩
    rw [← hx] at hv s1 s2
    refine k5 ?_; refine k1 ?_; refine k2 ?_; refine k3 ?_; refine k2 ?_
    refine c_region ?_; refine l_neu (n_indexAddr rfl (.pure _ _ _ _) rfl (by omega) hv) rfl ?_; refine l_neu (n_loads_eref rfl rfl) rfl ?_; refine l_effv (f_alloc 7 rfl) rfl ?_; refine l_eff (e_store_ref TySz.out rfl rfl rfl rfl rfl rfl) ?_; refine l_nil ?_
    refine then_normal ?_
    refine c_join [(4, sInt (linesNot (h.Lines.take (i + 1)) 43).length), (5, sInt (linesNot (h.Lines.take i) 45).length), (7, .s (.one (.ref 7 0))), (9, sList PatchLine 2 plineC h.Lines), (10, sInt h.Lines.length), (11, sInt i)] [(7, .box [.p (.v (.int .u8 x.Kind.toNat)), .p (.v (.string ⟨x.Text.toArray⟩))])] ?_ ?_
    · refine k2 ?_
      refine c_region ?_; refine l_neu (n_field_ref rfl) rfl ?_; refine l_neu (n_load_ref rfl rfl rfl) rfl ?_; refine l_neu (n_neq rfl rfl) rfl ?_; refine l_nil ?_
      refine k1 ?_
      refine c_cond rfl (fun ht => ?_) (fun ht => ?_)
      · rw [kn43] at ht
        have h3 : x.Kind ≠ 43 := of_decide_eq_true ht
        rw [if_pos h3] at s1
        skip
        refine c_region ?_; refine l_neu (n_move rfl rfl) rfl ?_; refine l_neu (n_add rfl rfl (by omega)) rfl ?_; refine l_neu (n_assign rfl rfl) rfl ?_; refine l_nil ?_
        refine k1 ?_
        rw [s1, List.length_append, Int.natCast_add]
        exact Sees.of ⟨le1 rfl, le1 rfl, le1 rfl, le1 rfl, le1 rfl, le1 rfl, trivial⟩ ⟨rfl, trivial⟩
      · rw [kn43] at ht
        have h3 : ¬ x.Kind ≠ 43 := of_decide_eq_false ht
        rw [if_neg h3] at s1
        refine k5 ?_; refine k1 ?_
        rw [s1]
        exact Sees.of ⟨le1 rfl, le1 rfl, le1 rfl, le1 rfl, le1 rfl, le1 rfl, trivial⟩ ⟨rfl, trivial⟩
    · refine k2 ?_
      refine c_region ?_; refine l_neu (n_field_ref rfl) rfl ?_; refine l_neu (n_load_ref rfl rfl rfl) rfl ?_; refine l_neu (n_neq rfl rfl) rfl ?_; refine l_nil ?_
      refine k1 ?_
      refine c_cond rfl (fun ht => ?_) (fun ht => ?_)
      · rw [kn45] at ht
        have h3 : x.Kind ≠ 45 := of_decide_eq_true ht
        rw [if_pos h3] at s2
        skip
        refine c_region ?_; refine l_neu (n_move rfl rfl) rfl ?_; refine l_neu (n_add rfl rfl (by omega)) rfl ?_; refine l_neu (n_assign rfl rfl) rfl ?_; refine l_nil ?_
        refine k4 ?_; refine k1 ?_
        refine c_region ?_; refine l_neu (n_add rfl rfl (by omega)) rfl ?_; refine l_neu (n_move rfl rfl) rfl ?_; refine l_nil ?_
        refine k1 ?_
        refine ⟨i + 1, by omega, by omega, ?_⟩
        rw [s2, List.length_append, Int.natCast_add]
        exact Sees.of ⟨le1 rfl, le1 rfl, le1 rfl, le1 rfl, le1 rfl, trivial⟩ trivial
      · rw [kn45] at ht
        have h3 : ¬ x.Kind ≠ 45 := of_decide_eq_false ht
        rw [if_neg h3] at s2
        refine k5 ?_; refine k4 ?_; refine k1 ?_
        refine c_region ?_; refine l_neu (n_add rfl rfl (by omega)) rfl ?_; refine l_neu (n_move rfl rfl) rfl ?_; refine l_nil ?_
        refine k1 ?_
        refine ⟨i + 1, by omega, by omega, ?_⟩
        rw [s2]
        exact Sees.of ⟨le1 rfl, le1 rfl, le1 rfl, le1 rfl, le1 rfl, trivial⟩ trivial
  · have hi' : i = h.Lines.length := by have := of_decide_eq_false ht; omega
    subst hi'
    rw [List.take_length]
    refine k6 ?_; refine k2 ?_
    refine c_region ?_; refine l_neu (n_move rfl rfl) rfl ?_; refine l_neu (n_move rfl rfl) rfl ?_; refine l_neu (n_assign rfl rfl) rfl ?_; refine l_neu (n_assign rfl rfl) rfl ?_; refine l_nil ?_
    refine k1 ?_; refine k10 ?_
    exact ret_ret (ret2 rfl rfl rfl rfl rfl) rfl
theorem uheader_ok (h : PatchHunk) (hl : h.Lines.length ≤ 268435456) (ho : -4611686018427387904 ≤ h.Old ∧ h.Old ≤ 4611686018427387904) (hn : -4611686018427387904 ≤ h.New ∧ h.New ≤ 4611686018427387904) : FnOk Tryz.prog 98 [pPhunk h] (fun rs => rs = [pStr (headW h)]) := by
  have h1 := linesNot_len h.Lines 43
  have h2 := linesNot_len h.Lines 45
  have h3 : 0 ≤ oldN h ∧ oldN h ≤ 268435456 := by unfold oldN; omega
  have h4 : 0 ≤ newN h ∧ newN h ≤ 268435456 := by unfold newN; omega
  have h5 := rangeOf_len h.Old (oldN h)
  have h6 := rangeOf_len h.New (newN h)
  refine FnOk.intro Tryz.func98 (by decide) rfl rfl rfl rfl ?_
  refine k2 ?_
  refine c_region ?_; refine l_effv (f_box 1 rfl rfl rfl) rfl ?_; refine l_neu (n_assign rfl rfl) rfl ?_; refine l_nil ?_
  refine k1 ?_; refine k2 ?_
  refine c_region ?_; refine l_neu (n_loads_ref rfl rfl rfl) rfl ?_; refine l_call (usizes_ok h hl) rfl rfl rfl ?_; rintro _ rfl; refine l_neu (n_move rfl rfl) rfl ?_; refine l_neu (n_extract rfl rfl) rfl ?_; refine l_neu (n_extract rfl rfl) rfl ?_; refine l_neu (n_assign rfl rfl) rfl ?_; refine l_neu (n_assign rfl rfl) rfl ?_; refine l_nil ?_
  refine k1 ?_; refine k2 ?_
  refine c_region_draw (by kernel_rfl) (by kernel_rfl) ?_; refine d_neu (n_field_ref rfl) rfl rfl ?_; refine d_neu (n_load_ref rfl rfl rfl) rfl rfl ?_; refine d_neu (n_move rfl rfl) rfl rfl ?_; refine d_neu (n_call1 (srange_ok h.Old (oldN h) ho (by omega)) rfl rfl) rfl rfl ?_; refine d_neu (n_add_s rfl rfl (by (simp only [List.length_cons, List.length_nil]; omega))) rfl rfl ?_; refine d_neu (n_add_s rfl rfl (by (simp only [List.length_append, List.length_cons, List.length_nil]; omega))) rfl rfl ?_; refine d_neu (n_field_ref rfl) rfl rfl ?_; refine d_neu (n_load_ref rfl rfl rfl) rfl rfl ?_; refine d_neu (n_move rfl rfl) rfl rfl ?_; refine d_neu (n_call1 (srange_ok h.New (newN h) hn (by omega)) rfl rfl) rfl rfl ?_; refine d_neu (n_add_s rfl rfl (by (simp only [List.length_append, List.length_cons, List.length_nil]; omega))) rfl rfl ?_; refine d_neu (n_add_s rfl rfl (by (simp only [List.length_append, List.length_cons, List.length_nil]; omega))) rfl rfl ?_; refine d_neu (n_assign rfl rfl) rfl rfl ?_; refine d_nil ?_
  refine k1 ?_; refine k10 ?_
  exact ret_ret (ret1 rfl rfl rfl) rfl
end Go.Proofs.YtjjidificdmnmaaGreatDoor
namespace Go.Proofs.YtjjidificdmnmaaGreatDoor
open Go Go.AL
set_option maxRecDepth 100000
theorem uproper_ok (h : PatchHunk) (hl : (h.Lines.map szL).sum ≤ 1099511627776) : FnOk Tryz.prog 102 [pPhunk h] (fun rs => rs = [pBool (h.Lines.all goodLn && someCh h.Lines)]) := by
  have h3 := szL_len h.Lines
  refine FnOk.intro Tryz.func102 (by decide) rfl rfl rfl rfl ?_
  refine k2 ?_
  refine c_region ?_; refine l_effv (f_box 1 rfl rfl rfl) rfl ?_; refine l_neu (n_assign rfl rfl) rfl ?_; refine l_nil ?_
  refine k1 ?_; refine k2 ?_
  refine c_region ?_; refine l_neu (n_assign rfl rfl) rfl ?_; refine l_nil ?_
  refine k1 ?_; refine k2 ?_; refine k2 ?_
  refine c_region ?_; refine l_neu (n_field_ref rfl) rfl ?_; refine l_neu (n_load_ref rfl rfl rfl) rfl ?_; refine l_neu (n_len rfl (.pure _ _ _ _)) rfl ?_; refine l_neu (n_move rfl rfl) rfl ?_; refine l_nil ?_
  refine k1 ?_; refine k3 ?_
  refine c_while (X := Nat) (fun n => ([(3, sVal (.bool (someCh (h.Lines.take n)))), (7, sList PatchLine 2 plineC h.Lines), (8, sInt h.Lines.length), (9, sInt n)], [])) (fun n => n ≤ h.Lines.length ∧ h.Lines.all goodLn = (h.Lines.drop n).all goodLn) (fun n => h.Lines.length - n) 0 ⟨Nat.zero_le _, rfl⟩ (Sees.of ⟨le1 rfl, le1 rfl, le1 rfl, le1 rfl, trivial⟩ trivial) ?_
  rintro n ⟨hn1, hn2⟩
  dsimp only at hn1 hn2 ⊢
  refine k2 ?_
  refine c_region ?_; refine l_neu (n_lss rfl rfl) rfl ?_; refine l_nil ?_
  refine k1 ?_; refine k2 ?_
  refine c_cond rfl (fun ht => ?_) (fun ht => ?_)
  · have hlt2 : n < h.Lines.length := by have := of_decide_eq_true ht; omega
    have hv2 : h.Lines[n]? = some h.Lines[n] := by simp [hlt2]
    have hmem2 := szL_mem (List.getElem_mem hlt2)
    have hsucc := someCh_succ h.Lines n hlt2
    rw [List.drop_eq_getElem_cons hlt2, List.all_cons] at hn2
    obtain ⟨x, hx2⟩ : ∃ x, x = h.Lines[n] := ⟨_, rfl⟩
    rw [← hx2] at hv2 hmem2 hsucc hn2
    refine k5 ?_; refine k1 ?_; refine k2 ?_; refine k3 ?_; refine k2 ?_
    refine c_region ?_; refine l_neu (n_indexAddr rfl (.pure _ _ _ _) rfl (by omega) hv2) rfl ?_; refine l_neu (n_loads_eref rfl rfl) rfl ?_; refine l_effv (f_alloc 5 rfl) rfl ?_; refine l_eff (e_store_ref TySz.out rfl rfl rfl rfl rfl rfl) ?_; refine l_nil ?_
    refine k1 ?_; refine k2 ?_; refine k2 ?_
    refine c_region ?_; refine l_neu (n_field_ref rfl) rfl ?_; refine l_neu (n_load_ref rfl rfl rfl) rfl ?_; refine l_neu (n_neq rfl rfl) rfl ?_; refine l_neu (n_move rfl rfl) rfl ?_; refine l_guard rfl rfl rfl rfl (fun hg => by rw [hg]; exact n_field_ref rfl) ?_; refine l_guard rfl rfl rfl rfl (fun hg => by rw [hg]; exact n_load_ref rfl rfl rfl) ?_; refine l_guard rfl rfl rfl rfl (fun hg => by rw [hg]; exact n_neq rfl rfl) ?_; refine l_neu (n_pick_bool rfl (fun h => by first | rfl | (rw [h]; rfl)) (fun h => by first | rfl | (rw [h]; rfl))) rfl ?_; refine l_neu (n_move rfl rfl) rfl ?_; refine l_guard rfl rfl rfl rfl (fun hg => by rw [hg]; exact n_field_ref rfl) ?_; refine l_guard rfl rfl rfl rfl (fun hg => by rw [hg]; exact n_load_ref rfl rfl rfl) ?_; refine l_guard rfl rfl rfl rfl (fun hg => by rw [hg]; exact n_neq rfl rfl) ?_; refine l_neu (n_pick_bool rfl (fun h => by first | rfl | (rw [h]; rfl)) (fun h => by first | rfl | (rw [h]; rfl))) rfl ?_; refine l_neu (n_move rfl rfl) rfl ?_; refine l_guard rfl rfl rfl rfl (fun hg => by rw [hg]; exact n_field_ref rfl) ?_; refine l_guard rfl rfl rfl rfl (fun hg => by rw [hg]; exact n_load_ref rfl rfl rfl) ?_; refine l_guard rfl rfl rfl rfl (fun hg => by have hq := hg; (try simp at hq); rw [hg]; exact n_call1 (usingle_ok x.Text (by omega)) rfl rfl) ?_; refine l_guard rfl rfl rfl rfl (fun hg => by rw [hg]; exact n_not rfl) ?_; refine l_neu (n_pick_bool rfl (fun h => by first | rfl | (rw [h]; rfl)) (fun h => by first | rfl | (rw [h]; rfl))) rfl ?_; refine l_nil ?_
    refine k1 ?_
    refine c_cond rfl (fun ht => ?_) (fun ht => ?_)
    · simp only [kn32, kn45, kn43, and_pick, notB, or_pick] at ht
      have hb : badLn x := of_decide_eq_true ht
      refine k2 ?_
      refine c_region ?_; refine l_neu (n_assign rfl rfl) rfl ?_; refine l_nil ?_
      refine k1 ?_; refine k10 ?_; refine k11 ?_; refine k12 ?_; refine k11 ?_; refine k11 ?_; refine k12 ?_; refine k11 ?_
      refine ret_ret (ret1 rfl rfl rfl) ?_
      have : goodLn x = false := decide_eq_false (fun hh => hh hb)
      rw [hn2, this]; rfl
    · simp only [kn32, kn45, kn43, and_pick, notB, or_pick] at ht
      have hb : ¬ badLn x := of_decide_eq_false ht
      have hgl : goodLn x = true := decide_eq_true hb
      rw [hgl, Bool.true_and] at hn2
      refine k5 ?_; refine k1 ?_
      refine c_region ?_; refine l_neu (n_move rfl rfl) rfl ?_; refine l_neu (n_move rfl rfl) rfl ?_; refine l_guard rfl rfl rfl rfl (fun hg => by rw [hg]; exact n_field_ref rfl) ?_; refine l_guard rfl rfl rfl rfl (fun hg => by rw [hg]; exact n_load_ref rfl rfl rfl) ?_; refine l_guard rfl rfl rfl rfl (fun hg => by rw [hg]; exact n_neq rfl rfl) ?_; refine l_neu (n_pick_bool rfl (fun h => by first | rfl | (rw [h]; rfl)) (fun h => by first | rfl | (rw [h]; rfl))) rfl ?_; refine l_neu (n_assign rfl rfl) rfl ?_; refine l_nil ?_
      refine k4 ?_; refine k1 ?_
      refine c_region ?_; refine l_neu (n_add rfl rfl (by omega)) rfl ?_; refine l_neu (n_move rfl rfl) rfl ?_; refine l_nil ?_
      refine k1 ?_
      refine ⟨n + 1, ⟨by omega, hn2⟩, by omega, ?_⟩
      rw [kn32, ← hsucc]
      exact Sees.of ⟨le1 rfl, le1 rfl, le1 rfl, le1 rfl, trivial⟩ trivial
  · have hn' : n = h.Lines.length := by have := of_decide_eq_false ht; omega
    subst hn'
    rw [List.take_length]
    rw [List.drop_eq_nil_of_le (Nat.le_refl _)] at hn2
    refine k6 ?_; refine k2 ?_
    refine c_region ?_; refine l_neu (n_move rfl rfl) rfl ?_; refine l_neu (n_assign rfl rfl) rfl ?_; refine l_nil ?_
    refine k1 ?_; refine k10 ?_
    exact ret_ret (ret1 rfl rfl rfl) (by rw [hn2]; rfl)
theorem uline_met {gf : Fr} {ob : Obs} {k : Nat} {e : Int} {o : Bool} {t : Str} (hk : getO ob k = some (.box [.p (.v (.int .i64 e)), .p (.v (.bool o))])) (hs : t.length ≤ 1099511627776) :
    Met Tryz.prog 149 [.one (.ref k 0), .one (.p (.v (.string ⟨t.toArray⟩)))] gf ob [] (fun rs ob' => rs = [.one (.p (.v (.bool (!o))))] ∧ ob' = (k, .box [.p (.v (.int .i64 e)), .p (.v (.bool (!ended t)))]) :: ob) := by
  refine Met.intro Tryz.func149 (by decide) rfl rfl rfl ?_
  refine k2 ?_
  refine c_region ?_; refine l_neu (n_assign rfl rfl) rfl ?_; refine l_nil ?_
  refine k1 ?_; refine k2 ?_
  refine c_region ?_; refine l_neu (n_move rfl rfl) rfl ?_; refine l_neu (n_nilCheck_ref rfl) rfl ?_; refine l_neu (n_field_ref rfl) rfl ?_; refine l_neu (n_load_ref rfl hk rfl) rfl ?_; refine l_neu (n_not rfl) rfl ?_; refine l_neu (n_assign rfl rfl) rfl ?_; refine l_nil ?_
  refine k1 ?_; refine k2 ?_
  refine c_region ?_; refine l_neu (n_move rfl rfl) rfl ?_; refine l_neu (n_move rfl rfl) rfl ?_; refine l_call (tended_ok t hs) rfl rfl rfl ?_; rintro _ rfl; refine l_neu (n_not rfl) rfl ?_; refine l_neu (n_nilCheck_ref rfl) rfl ?_; refine l_neu (n_field_ref rfl) rfl ?_; refine l_eff (e_store_ref TySz.out rfl hk rfl rfl rfl rfl) ?_; refine l_nil ?_
  refine k1 ?_; refine k2 ?_
  refine c_region ?_; refine l_neu (n_move rfl rfl) rfl ?_; refine l_neu (n_assign rfl rfl) rfl ?_; refine l_nil ?_
  refine k1 ?_; refine k10 ?_
  exact met_ret (rets1 rfl rfl) (by repeat (first | exact tail_refl | refine tail_cons rfl ?_ | refine tail_forget _ ?_)) (fun _ _ h => h) ⟨rfl, rfl⟩
end Go.Proofs.YtjjidificdmnmaaGreatDoor
namespace Go.Proofs.YtjjidificdmnmaaGreatDoor
open Go Go.AL
set_option maxRecDepth 100000
end Go.Proofs.YtjjidificdmnmaaGreatDoor
namespace Go.Proofs.YtjjidificdmnmaaGreatDoor
open Go Go.AL
set_option maxRecDepth 100000
def wTo (p : Patch) (k : Nat) : Str := (namePs p ++ ((p.Hunks.take k).map hunkPs).flatten).flatten
theorem wTo_succ (p : Patch) (k : Nat) (h : k < p.Hunks.length) : wTo p (k + 1) = wTo p k ++ (hunkPs p.Hunks[k]).flatten := by
  unfold wTo
  rw [hunkTo_succ _ _ h]; simp only [List.flatten_append, List.append_assoc]
def lTo (ls : List PatchLine) (n : Nat) : Str := ((ls.take n).map linePs).flatten.flatten
theorem lTo_succ (ls : List PatchLine) (n : Nat) (h : n < ls.length) : lTo ls (n + 1) = lTo ls n ++ (linePs ls[n]).flatten := by
  unfold lTo; rw [lineTo_succ _ _ h, List.flatten_append]
theorem uwritten_ok (p : Patch) (hp : PFit p) (hrange : ∀ h ∈ p.Hunks, (-4611686018427387904 ≤ h.Old ∧ h.Old ≤ 4611686018427387904) ∧ (-4611686018427387904 ≤ h.New ∧ h.New ≤ 4611686018427387904)) : FnOk Tryz.prog 65 [pPatch p] (fun rs => rs = [pStr (writeOf p)]) := by
  have hsl := szP_len p.Hunks
  have hpl := hp.hunks
  have hpo := hp.old
  have hpn := hp.new
  have hq1 := quoteOf_len p.OldName
  have hq2 := quoteOf_len p.NewName
  have hnf := namePs_flat p
  have hw0 : wTo p 0 = [45, 45, 45, 32] ++ quoteOf p.OldName ++ [10, 43, 43, 43, 32] ++ quoteOf p.NewName ++ [10] := by
    unfold wTo namePs; simp
  have hwl : ∀ k, (wTo p k).length ≤ 33554446 + szP p.Hunks := fun k => by
    have h1 := hunksPs_flat (p.Hunks.take k)
    have h2 := szP_take p.Hunks k
    unfold wTo; rw [List.flatten_append, List.length_append]; omega
  refine FnOk.intro Tryz.func65 (by decide) rfl rfl rfl rfl ?_
  refine k2 ?_
  refine c_region ?_; refine l_effv (f_box 1 rfl rfl rfl) rfl ?_; refine l_neu (n_assign rfl rfl) rfl ?_; refine l_nil ?_
  refine k1 ?_; refine k2 ?_
  refine c_region ?_; refine l_effv (f_allocT 700 rfl) rfl ?_; refine l_nil ?_
  refine k1 ?_; refine k2 ?_
  refine c_sees (Sees.adoptT 701 UInt8 1 u8C 5 (kb := 700) (o := 1) rfl rfl rfl) ?_
  have hwl0 := hwl 0
  rw [hw0] at hwl0
  refine c_region_turn 10 (by kernel_rfl) (by kernel_rfl) rfl ?_; refine d_neu (n_field_ref rfl) rfl rfl ?_; refine d_neu (n_load_ref rfl rfl rfl) rfl rfl ?_; refine d_neu (n_call1 (squote_ok p.OldName (by omega)) rfl rfl) rfl rfl ?_; refine d_neu (n_add_s rfl rfl (by (simp only [List.length_cons, List.length_nil]; omega))) rfl rfl ?_; refine d_neu (n_add_s rfl rfl (by (simp only [List.length_append, List.length_cons, List.length_nil]; omega))) rfl rfl ?_; refine d_neu (n_field_ref rfl) rfl rfl ?_; refine d_neu (n_load_ref rfl rfl rfl) rfl rfl ?_; refine d_neu (n_call1 (squote_ok p.NewName (by omega)) rfl rfl) rfl rfl ?_; refine d_neu (n_add_s rfl rfl (by (simp only [List.length_append, List.length_cons, List.length_nil]; omega))) rfl rfl ?_; refine d_neu (n_add_s rfl rfl (by (simp only [List.length_append, List.length_cons, List.length_nil]; omega))) rfl rfl ?_; refine d_nil ?_; refine met_step (writeString_met (xs := []) ⟨⟨_, .inl rfl, rfl⟩, rfl⟩ (by simp only [List.length_nil]; omega)) rfl rfl rfl ?_; rintro _ _ ⟨rfl, rfl⟩; refine ⟨_, rfl, ?_⟩; refine d_nil ?_
  rw [← hw0]
  refine k1 ?_; refine k2 ?_; refine k2 ?_
  refine c_region ?_; refine l_neu (n_field_ref rfl) rfl ?_; refine l_neu (n_load_ref rfl rfl rfl) rfl ?_; refine l_neu (n_len rfl (.pure _ _ _ _)) rfl ?_; refine l_neu (n_move rfl rfl) rfl ?_; refine l_nil ?_
  refine k1 ?_; refine k3 ?_
  refine c_while (X := Nat) (fun k => ([(3, .s (.one (.ref 700 0))), (20, sList PatchHunk 3 phunkC p.Hunks), (21, sInt p.Hunks.length), (22, sInt k)], [(700, .tbx 132 [.ref 700 0, .buf 701 UInt8 1 u8C (wTo p k)]), (701, .spare (wTo p k).length 1 5)])) (fun k => k ≤ p.Hunks.length) (fun k => p.Hunks.length - k) 0 (Nat.zero_le _) (Sees.of ⟨le1 rfl, le1 rfl, le1 rfl, le1 rfl, trivial⟩ ⟨rfl, rfl, trivial⟩) ?_
  intro k hk
  dsimp only at hk ⊢
  refine k2 ?_
  refine c_region ?_; refine l_neu (n_lss rfl rfl) rfl ?_; refine l_nil ?_
  refine k1 ?_; refine k2 ?_
  refine c_cond rfl (fun ht => ?_) (fun ht => ?_)
  · have hlt : k < p.Hunks.length := by have := of_decide_eq_true ht; omega
    have hv : p.Hunks[k]? = some p.Hunks[k] := by simp [hlt]
    have hmem : p.Hunks[k] ∈ p.Hunks := List.getElem_mem hlt
    have hsucc := wTo_succ p k hlt
    have hwk := hwl k
    obtain ⟨h, hx⟩ : ∃ x, x = p.Hunks[k] := ⟨_, rfl⟩
    rw [← hx] at hv hmem hsucc
    have h1 := szP_mem hmem
    have h3 := szL_len h.Lines
    have h4 := headW_len h
    have hr := hrange h hmem
    unfold szH at h1
    obtain ⟨base, hbase⟩ : ∃ base, base = wTo p k := ⟨_, rfl⟩
    rw [← hbase] at hsucc hwk ⊢
    refine k5 ?_; refine k1 ?_; refine k2 ?_; refine k3 ?_; refine k2 ?_
    refine c_region ?_; refine l_neu (n_indexAddr rfl (.pure _ _ _ _) rfl (by omega) hv) rfl ?_; refine l_neu (n_loads_eref rfl rfl) rfl ?_; refine l_effv (f_alloc 5 rfl) rfl ?_; refine l_eff (e_store_ref TySz.out rfl rfl rfl rfl rfl rfl) ?_; refine l_nil ?_
    refine k1 ?_; refine k2 ?_
    refine c_region ?_; refine l_neu (n_loads_ref rfl rfl rfl) rfl ?_; refine l_call (uheader_ok h (by omega) hr.1 hr.2) rfl rfl rfl ?_; rintro _ rfl; refine l_met (writeString_met (xs := base) (s := headW h) ⟨⟨_, .inr rfl, rfl⟩, rfl⟩ (by omega)) rfl rfl rfl ?_; rintro _ _ ⟨rfl, rfl⟩; refine l_nil ?_
    refine k1 ?_; refine k2 ?_
    refine c_region ?_; refine l_neu (n_field_ref rfl) rfl ?_; refine l_neu (n_load_ref rfl rfl rfl) rfl ?_; refine l_neu (n_len rfl (.pure _ _ _ _)) rfl ?_; refine l_neu (n_move rfl rfl) rfl ?_; refine l_nil ?_
    refine k1 ?_; refine k3 ?_
    refine c_while (X := Nat) (fun n => ([(3, .s (.one (.ref 700 0))), (20, sList PatchHunk 3 phunkC p.Hunks), (21, sInt p.Hunks.length), (22, sInt k), (30, sList PatchLine 2 plineC h.Lines), (31, sInt h.Lines.length), (32, sInt n)], [(700, .tbx 132 [.ref 700 0, .buf 701 UInt8 1 u8C (base ++ headW h ++ lTo h.Lines n)]), (701, .spare (base ++ headW h ++ lTo h.Lines n).length 1 5)])) (fun n => n ≤ h.Lines.length) (fun n => h.Lines.length - n) 0 (Nat.zero_le _) ?_ ?_
    · have e : base ++ headW h ++ lTo h.Lines 0 = base ++ headW h := by simp [lTo]
      rw [e]
      exact Sees.of ⟨le1 rfl, le1 rfl, le1 rfl, le1 rfl, le1 rfl, le1 rfl, le1 rfl, trivial⟩ ⟨rfl, rfl, trivial⟩
    intro n hn1
    dsimp only at hn1 ⊢
    have hll := linesPs_flat (h.Lines.take n)
    have hl2 := szL_take h.Lines n
    have hlt0 : (lTo h.Lines n).length ≤ (h.Lines.map szL).sum := by unfold lTo; omega
    refine k2 ?_
    refine c_region ?_; refine l_neu (n_lss rfl rfl) rfl ?_; refine l_nil ?_
    refine k1 ?_; refine k2 ?_
    refine c_cond rfl (fun ht => ?_) (fun ht => ?_)
    · have hlt2 : n < h.Lines.length := by have := of_decide_eq_true ht; omega
      have hv2 : h.Lines[n]? = some h.Lines[n] := by simp [hlt2]
      have hmem2 := szL_mem (List.getElem_mem hlt2)
      have hsucc2 := lTo_succ h.Lines n hlt2
      obtain ⟨x, hx2⟩ : ∃ x, x = h.Lines[n] := ⟨_, rfl⟩
      rw [← hx2] at hv2 hmem2 hsucc2
      obtain ⟨bs, hbs⟩ : ∃ bs, bs = base ++ headW h ++ lTo h.Lines n := ⟨_, rfl⟩
      have hbl : bs.length ≤ 33554446 + szP p.Hunks + 52 + szP p.Hunks := by rw [hbs, List.length_append, List.length_append]; omega
      rw [← hbs]
      have hm29 : markS.length = 29 := rfl
      refine k5 ?_; refine k1 ?_; refine k2 ?_; refine k3 ?_; refine k2 ?_
      refine c_region ?_; refine l_neu (n_indexAddr rfl (.pure _ _ _ _) rfl (by omega) hv2) rfl ?_; refine l_neu (n_loads_eref rfl rfl) rfl ?_; refine l_effv (f_alloc 7 rfl) rfl ?_; refine l_eff (e_store_ref TySz.out rfl rfl rfl rfl rfl rfl) ?_; refine l_nil ?_
      refine k1 ?_; refine k2 ?_
      refine c_region ?_; refine l_neu (n_field_ref rfl) rfl ?_; refine l_neu (n_load_ref rfl rfl rfl) rfl ?_; refine l_met (writeByte_met (xs := bs) (c := x.Kind) ⟨⟨_, .inr rfl, rfl⟩, rfl⟩ (by omega)) rfl rfl rfl ?_; rintro _ _ ⟨rfl, rfl⟩; refine l_nil ?_
      refine k1 ?_; refine k2 ?_
      refine c_region ?_; refine l_neu (n_field_ref rfl) rfl ?_; refine l_neu (n_load_ref rfl rfl rfl) rfl ?_; refine l_met (writeString_met (xs := bs ++ [x.Kind]) (s := x.Text) ⟨⟨_, .inr rfl, rfl⟩, rfl⟩ (by simp only [List.length_append, List.length_cons, List.length_nil]; omega)) rfl rfl rfl ?_; rintro _ _ ⟨rfl, rfl⟩; refine l_nil ?_
      refine k1 ?_; refine k2 ?_
      refine c_region ?_; refine l_neu (n_field_ref rfl) rfl ?_; refine l_neu (n_load_ref rfl rfl rfl) rfl ?_; refine l_call (tended_ok x.Text (by omega)) rfl rfl rfl ?_; rintro _ rfl; refine l_neu (n_not rfl) rfl ?_; refine l_nil ?_
      refine k1 ?_
      refine c_cond rfl (fun ht => ?_) (fun ht => ?_)
      · have h2 : ended x.Text = false := by simpa using ht
        have e : base ++ headW h ++ lTo h.Lines (n + 1) = bs ++ [x.Kind] ++ x.Text ++ markS := by
          rw [hsucc2, hbs, linePs, h2]; simp
        skip
        refine c_region ?_; refine l_met (writeString_met (xs := bs ++ [x.Kind] ++ x.Text) (s := markS) ⟨⟨_, .inr rfl, rfl⟩, rfl⟩ (by simp only [List.length_append, List.length_cons, List.length_nil]; omega)) rfl rfl rfl ?_; rintro _ _ ⟨rfl, rfl⟩; refine l_nil ?_
        refine k4 ?_; refine k1 ?_
        refine c_region ?_; refine l_neu (n_add rfl rfl (by omega)) rfl ?_; refine l_neu (n_move rfl rfl) rfl ?_; refine l_nil ?_
        refine k1 ?_
        refine ⟨n + 1, by omega, by omega, ?_⟩
        rw [e]
        exact Sees.of ⟨le1 rfl, le1 rfl, le1 rfl, le1 rfl, le1 rfl, le1 rfl, le1 rfl, trivial⟩ ⟨rfl, rfl, trivial⟩
      · have h2 : ended x.Text = true := by simpa using ht
        have e : base ++ headW h ++ lTo h.Lines (n + 1) = bs ++ [x.Kind] ++ x.Text := by
          rw [hsucc2, hbs, linePs, h2]; simp
        refine k5 ?_; refine k4 ?_; refine k1 ?_
        refine c_region ?_; refine l_neu (n_add rfl rfl (by omega)) rfl ?_; refine l_neu (n_move rfl rfl) rfl ?_; refine l_nil ?_
        refine k1 ?_
        refine ⟨n + 1, by omega, by omega, ?_⟩
        rw [e]
        exact Sees.of ⟨le1 rfl, le1 rfl, le1 rfl, le1 rfl, le1 rfl, le1 rfl, le1 rfl, trivial⟩ ⟨rfl, rfl, trivial⟩
    · have hn' : n = h.Lines.length := by have := of_decide_eq_false ht; omega
      subst hn'
      have e : wTo p (k + 1) = base ++ headW h ++ lTo h.Lines h.Lines.length := by
        rw [hsucc, hunkPs, lTo, List.take_length]; simp
      rw [← e]
      refine k6 ?_; refine k7 ?_; refine k7 ?_; refine k8 rfl ?_; refine k4 ?_; refine k1 ?_
      refine c_region ?_; refine l_neu (n_add rfl rfl (by omega)) rfl ?_; refine l_neu (n_move rfl rfl) rfl ?_; refine l_nil ?_
      refine k1 ?_
      exact ⟨k + 1, by omega, by omega, Sees.of ⟨le1 rfl, le1 rfl, le1 rfl, le1 rfl, trivial⟩ ⟨rfl, rfl, trivial⟩⟩
  · have hk' : k = p.Hunks.length := by have := of_decide_eq_false ht; omega
    subst hk'
    have e : wTo p p.Hunks.length = writeOf p := by unfold wTo writeOf writePs; rw [List.take_length]
    rw [e]
    refine k6 ?_; refine k2 ?_
    refine c_region ?_; refine l_bstring (k := 700) (k' := 701) ⟨_, rfl, rfl, rfl⟩ bstring_calls rfl rfl rfl rfl rfl (.inr rfl) rfl ?_; refine l_neu (n_assign rfl rfl) rfl ?_; refine l_nil ?_
    refine k1 ?_; refine k10 ?_
    exact ret_ret (ret1 rfl rfl rfl) rfl
end Go.Proofs.YtjjidificdmnmaaGreatDoor
namespace Go.Proofs.YtjjidificdmnmaaGreatDoor
open Go Go.AL
set_option maxRecDepth 100000
theorem usize_ok (p : Patch) (hp : PFit p) (hrange : ∀ h ∈ p.Hunks, (-4611686018427387904 ≤ h.Old ∧ h.Old ≤ 4611686018427387904) ∧ (-4611686018427387904 ≤ h.New ∧ h.New ≤ 4611686018427387904)) : FnOk Tryz.prog 68 [pPatch p] (fun rs => rs = [pInt (writeOf p).length]) := by
  have hsl := szP_len p.Hunks
  have hpl := hp.hunks
  have hpo := hp.old
  have hpn := hp.new
  have hnf := namePs_flat p
  have hw0 : (writeOf ⟨p.OldName, p.NewName, []⟩).length = (wTo p 0).length := by
    unfold writeOf wTo writePs namePs; simp
  have hwl : ∀ k, (wTo p k).length ≤ 33554446 + szP p.Hunks := fun k => by
    have h1 := hunksPs_flat (p.Hunks.take k)
    have h2 := szP_take p.Hunks k
    unfold wTo; rw [List.flatten_append, List.length_append]; omega
  refine FnOk.intro Tryz.func68 (by decide) rfl rfl rfl rfl ?_
  refine k2 ?_
  refine c_region ?_; refine l_effv (f_box 1 rfl rfl rfl) rfl ?_; refine l_neu (n_assign rfl rfl) rfl ?_; refine l_nil ?_
  refine k1 ?_; refine k2 ?_
  refine c_region ?_; refine l_neu (n_field_ref rfl) rfl ?_; refine l_neu (n_load_ref rfl rfl rfl) rfl ?_; refine l_neu (n_field_ref rfl) rfl ?_; refine l_neu (n_load_ref rfl rfl rfl) rfl ?_; refine l_neu (n_build rfl) rfl ?_; refine l_sees (Sees.aggNil PatchHunk 3 phunkC 12 2 rfl rfl) ?_; refine l_call (uwritten_ok ⟨p.OldName, p.NewName, []⟩ ⟨by dsimp only; omega, by dsimp only; omega, by simp [szP]⟩ (by simp)) rfl rfl rfl ?_; rintro _ rfl; refine l_neu (n_len_s rfl) rfl ?_; refine l_neu (n_assign rfl rfl) rfl ?_; refine l_nil ?_
  rw [hw0]
  refine k1 ?_; refine k2 ?_; refine k2 ?_
  refine c_region ?_; refine l_neu (n_field_ref rfl) rfl ?_; refine l_neu (n_load_ref rfl rfl rfl) rfl ?_; refine l_neu (n_len rfl (.pure _ _ _ _)) rfl ?_; refine l_neu (n_move rfl rfl) rfl ?_; refine l_nil ?_
  refine k1 ?_; refine k3 ?_
  refine c_while (X := Nat) (fun k => ([(3, sInt (wTo p k).length), (16, sList PatchHunk 3 phunkC p.Hunks), (17, sInt p.Hunks.length), (18, sInt k)], [])) (fun k => k ≤ p.Hunks.length) (fun k => p.Hunks.length - k) 0 (Nat.zero_le _) (Sees.of ⟨le1 rfl, le1 rfl, le1 rfl, le1 rfl, trivial⟩ trivial) ?_
  intro k hk
  dsimp only at hk ⊢
  have hwk := hwl k
  refine k2 ?_
  refine c_region ?_; refine l_neu (n_lss rfl rfl) rfl ?_; refine l_nil ?_
  refine k1 ?_; refine k2 ?_
  refine c_cond rfl (fun ht => ?_) (fun ht => ?_)
  · have hlt : k < p.Hunks.length := by have := of_decide_eq_true ht; omega
    have hv : p.Hunks[k]? = some p.Hunks[k] := by simp [hlt]
    have hmem : p.Hunks[k] ∈ p.Hunks := List.getElem_mem hlt
    have hsucc := wTo_succ p k hlt
    obtain ⟨h, hx⟩ : ∃ x, x = p.Hunks[k] := ⟨_, rfl⟩
    rw [← hx] at hv hmem hsucc
    have h1 := szP_mem hmem
    have h3 := szL_len h.Lines
    have h4 := headW_len h
    have hr := hrange h hmem
    unfold szH at h1
    obtain ⟨base, hbase⟩ : ∃ base, base = (wTo p k).length := ⟨_, rfl⟩
    rw [← hbase] at hwk ⊢
    have hsl2 : (wTo p (k + 1)).length = base + (headW h).length + (lTo h.Lines h.Lines.length).length := by
      rw [hsucc, hunkPs, lTo, List.take_length, hbase]; simp; omega
    refine k5 ?_; refine k1 ?_; refine k2 ?_; refine k3 ?_; refine k2 ?_
    refine c_region ?_; refine l_neu (n_indexAddr rfl (.pure _ _ _ _) rfl (by omega) hv) rfl ?_; refine l_neu (n_loads_eref rfl rfl) rfl ?_; refine l_effv (f_alloc 5 rfl) rfl ?_; refine l_eff (e_store_ref TySz.out rfl rfl rfl rfl rfl rfl) ?_; refine l_nil ?_
    refine k1 ?_; refine k2 ?_
    refine c_region ?_; refine l_neu (n_move rfl rfl) rfl ?_; refine l_neu (n_loads_ref rfl rfl rfl) rfl ?_; refine l_call (uheader_ok h (by omega) hr.1 hr.2) rfl rfl rfl ?_; rintro _ rfl; refine l_neu (n_len_s rfl) rfl ?_; refine l_neu (n_add rfl rfl (by omega)) rfl ?_; refine l_neu (n_assign rfl rfl) rfl ?_; refine l_nil ?_
    refine k1 ?_; refine k2 ?_
    refine c_region ?_; refine l_neu (n_field_ref rfl) rfl ?_; refine l_neu (n_load_ref rfl rfl rfl) rfl ?_; refine l_neu (n_len rfl (.pure _ _ _ _)) rfl ?_; refine l_neu (n_move rfl rfl) rfl ?_; refine l_nil ?_
    refine k1 ?_; refine k3 ?_
    refine c_while (X := Nat) (fun n => ([(3, sInt (base + (headW h).length + (lTo h.Lines n).length : Nat)), (16, sList PatchHunk 3 phunkC p.Hunks), (17, sInt p.Hunks.length), (18, sInt k), (28, sList PatchLine 2 plineC h.Lines), (29, sInt h.Lines.length), (30, sInt n)], [])) (fun n => n ≤ h.Lines.length) (fun n => h.Lines.length - n) 0 (Nat.zero_le _) ?_ ?_
    · have e : ((base + (headW h).length + (lTo h.Lines 0).length : Nat) : Int) = (base : Int) + ((headW h).length : Int) := by simp [lTo]
      rw [e]
      exact Sees.of ⟨le1 rfl, le1 rfl, le1 rfl, le1 rfl, le1 rfl, le1 rfl, le1 rfl, trivial⟩ trivial
    intro n hn1
    dsimp only at hn1 ⊢
    have hll := linesPs_flat (h.Lines.take n)
    have hl2 := szL_take h.Lines n
    have hlt0 : (lTo h.Lines n).length ≤ (h.Lines.map szL).sum := by unfold lTo; omega
    refine k2 ?_
    refine c_region ?_; refine l_neu (n_lss rfl rfl) rfl ?_; refine l_nil ?_
    refine k1 ?_; refine k2 ?_
    refine c_cond rfl (fun ht => ?_) (fun ht => ?_)
    · have hlt2 : n < h.Lines.length := by have := of_decide_eq_true ht; omega
      have hv2 : h.Lines[n]? = some h.Lines[n] := by simp [hlt2]
      have hmem2 := szL_mem (List.getElem_mem hlt2)
      have hsucc2 := lTo_succ h.Lines n hlt2
      obtain ⟨x, hx2⟩ : ∃ x, x = h.Lines[n] := ⟨_, rfl⟩
      rw [← hx2] at hv2 hmem2 hsucc2
      have hm29 : markS.length = 29 := rfl
      refine k5 ?_; refine k1 ?_; refine k2 ?_; refine k3 ?_; refine k2 ?_
      refine c_region ?_; refine l_neu (n_indexAddr rfl (.pure _ _ _ _) rfl (by omega) hv2) rfl ?_; refine l_neu (n_loads_eref rfl rfl) rfl ?_; refine l_effv (f_alloc 7 rfl) rfl ?_; refine l_eff (e_store_ref TySz.out rfl rfl rfl rfl rfl rfl) ?_; refine l_nil ?_
      refine k1 ?_; refine k2 ?_
      refine c_region ?_; refine l_neu (n_move rfl rfl) rfl ?_; refine l_neu (n_field_ref rfl) rfl ?_; refine l_neu (n_load_ref rfl rfl rfl) rfl ?_; refine l_neu (n_len_s rfl) rfl ?_; refine l_neu (n_add rfl rfl (by omega)) rfl ?_; refine l_neu (n_add rfl rfl (by omega)) rfl ?_; refine l_neu (n_assign rfl rfl) rfl ?_; refine l_nil ?_
      refine k1 ?_; refine k2 ?_
      refine c_region ?_; refine l_neu (n_field_ref rfl) rfl ?_; refine l_neu (n_load_ref rfl rfl rfl) rfl ?_; refine l_call (tended_ok x.Text (by omega)) rfl rfl rfl ?_; rintro _ rfl; refine l_neu (n_not rfl) rfl ?_; refine l_nil ?_
      refine k1 ?_
      refine c_cond rfl (fun ht => ?_) (fun ht => ?_)
      · have h2 : ended x.Text = false := by simpa using ht
        have e : ((base + (headW h).length + (lTo h.Lines (n + 1)).length : Nat) : Int) = ((base + (headW h).length + (lTo h.Lines n).length : Nat) : Int) + (1 + (x.Text.length : Int)) + 29 := by
          rw [hsucc2, linePs, h2]; simp [hm29]; omega
        skip
        refine c_region ?_; refine l_neu (n_move rfl rfl) rfl ?_; refine l_neu (n_add rfl rfl (by omega)) rfl ?_; refine l_neu (n_assign rfl rfl) rfl ?_; refine l_nil ?_
        refine k4 ?_; refine k1 ?_
        refine c_region ?_; refine l_neu (n_add rfl rfl (by omega)) rfl ?_; refine l_neu (n_move rfl rfl) rfl ?_; refine l_nil ?_
        refine k1 ?_
        refine ⟨n + 1, by omega, by omega, ?_⟩
        rw [e]
        exact Sees.of ⟨le1 rfl, le1 rfl, le1 rfl, le1 rfl, le1 rfl, le1 rfl, le1 rfl, trivial⟩ trivial
      · have h2 : ended x.Text = true := by simpa using ht
        have e : ((base + (headW h).length + (lTo h.Lines (n + 1)).length : Nat) : Int) = ((base + (headW h).length + (lTo h.Lines n).length : Nat) : Int) + (1 + (x.Text.length : Int)) := by
          rw [hsucc2, linePs, h2]; simp; omega
        refine k5 ?_; refine k4 ?_; refine k1 ?_
        refine c_region ?_; refine l_neu (n_add rfl rfl (by omega)) rfl ?_; refine l_neu (n_move rfl rfl) rfl ?_; refine l_nil ?_
        refine k1 ?_
        refine ⟨n + 1, by omega, by omega, ?_⟩
        rw [e]
        exact Sees.of ⟨le1 rfl, le1 rfl, le1 rfl, le1 rfl, le1 rfl, le1 rfl, le1 rfl, trivial⟩ trivial
    · have hn' : n = h.Lines.length := by have := of_decide_eq_false ht; omega
      subst hn'
      rw [← hsl2]
      refine k6 ?_; refine k7 ?_; refine k7 ?_; refine k8 rfl ?_; refine k4 ?_; refine k1 ?_
      refine c_region ?_; refine l_neu (n_add rfl rfl (by omega)) rfl ?_; refine l_neu (n_move rfl rfl) rfl ?_; refine l_nil ?_
      refine k1 ?_
      exact ⟨k + 1, by omega, by omega, Sees.of ⟨le1 rfl, le1 rfl, le1 rfl, le1 rfl, trivial⟩ trivial⟩
  · have hk' : k = p.Hunks.length := by have := of_decide_eq_false ht; omega
    subst hk'
    have e : wTo p p.Hunks.length = writeOf p := by unfold wTo writeOf writePs; rw [List.take_length]
    rw [e]
    refine k6 ?_; refine k2 ?_
    refine c_region ?_; refine l_neu (n_move rfl rfl) rfl ?_; refine l_neu (n_assign rfl rfl) rfl ?_; refine l_nil ?_
    refine k1 ?_; refine k10 ?_
    exact ret_ret (ret1 rfl rfl rfl) rfl
end Go.Proofs.YtjjidificdmnmaaGreatDoor
namespace Go.Proofs.YtjjidificdmnmaaGreatDoor
open Go Go.AL
set_option maxRecDepth 100000
abbrev sideBox (e : Int) (o : Bool) : Ob := .box [.p (.v (.int .i64 e)), .p (.v (.bool o))]
theorem uplaced_met {gf : Fr} (h h' : PatchHunk) (i j : Int) (o n : Bool) (hl : (h.Lines.map szL).sum ≤ 268435456) (hi : 0 ≤ i ∧ i ≤ 8192) (hj : 0 ≤ j ∧ j ≤ 8192) (hf3 : frFree 3 gf = true) (hf8 : frFree 8 gf = true) :
    Met Tryz.prog 103 [(pPhunk h).s1, .one (.ref 710 0), .one (.ref 711 0)] gf [(6, .box (pPhunk h').s1.cells), (710, sideBox i o), (711, sideBox j n)] []
      (fun rs ob' => ∃ b, rs = [.one (.p (.v (.bool b)))] ∧ b = (decide (¬ badPlace i j h) && match openGo o n h.Lines with
        | none => false
        | some _ => decide (h.Old + oldN h ≤ 4096 ∧ h.New + newN h ≤ 4096)) ∧
        (b = true → ∃ o' n', openGo o n h.Lines = some (o', n') ∧ ob' = [(6, .box (pPhunk h').s1.cells), (710, sideBox (h.Old + oldN h) o'), (711, sideBox (h.New + newN h) n')])) := by
  refine Met.introH Tryz.func103 (by decide) rfl rfl rfl (fun hH => ?_)
  refine k2 ?_
  refine c_region ?_; refine l_effv (f_box 3 rfl rfl (show ((frFree 3 gf && true) && true) = true by rw [hf3]; rfl)) rfl ?_; refine l_neu (n_assign rfl rfl) rfl ?_; refine l_nil ?_
  refine k1 ?_; refine k2 ?_; refine k2 ?_
  refine c_region_draw (by kernel_rfl) (by kernel_rfl) ?_; refine d_neu (n_field_ref rfl) rfl rfl ?_; refine d_neu (n_load_ref rfl rfl rfl) rfl rfl ?_; refine d_neu (n_lss rfl rfl) rfl rfl ?_; refine d_neu (n_move rfl rfl) rfl rfl ?_; refine d_guard rfl rfl (fun hg => by rw [hg]; exact n_field_ref rfl) rfl rfl ?_; refine d_guard rfl rfl (fun hg => by rw [hg]; exact n_load_ref rfl rfl rfl) rfl rfl ?_; refine d_guard rfl rfl (fun hg => by rw [hg]; exact n_lss rfl rfl) rfl rfl ?_; refine d_neu (n_pick_bool rfl (fun h => by first | rfl | (rw [h]; rfl)) (fun h => by first | rfl | (rw [h]; rfl))) rfl rfl ?_; refine d_neu (n_move rfl rfl) rfl rfl ?_; refine d_guard rfl rfl (fun hg => by rw [hg]; exact n_field_ref rfl) rfl rfl ?_; refine d_guard rfl rfl (fun hg => by rw [hg]; exact n_load_ref rfl rfl rfl) rfl rfl ?_; refine d_guard rfl rfl (fun hg => by rw [hg]; exact n_gtr rfl rfl) rfl rfl ?_; refine d_neu (n_pick_bool rfl (fun h => by first | rfl | (rw [h]; rfl)) (fun h => by first | rfl | (rw [h]; rfl))) rfl rfl ?_; refine d_neu (n_move rfl rfl) rfl rfl ?_; refine d_guard rfl rfl (fun hg => by rw [hg]; exact n_field_ref rfl) rfl rfl ?_; refine d_guard rfl rfl (fun hg => by rw [hg]; exact n_load_ref rfl rfl rfl) rfl rfl ?_; refine d_guard rfl rfl (fun hg => by rw [hg]; exact n_gtr rfl rfl) rfl rfl ?_; refine d_neu (n_pick_bool rfl (fun h => by first | rfl | (rw [h]; rfl)) (fun h => by first | rfl | (rw [h]; rfl))) rfl rfl ?_; refine d_neu (n_move rfl rfl) rfl rfl ?_; refine d_guard rfl rfl (fun hg => by rw [hg]; exact n_field_ref rfl) rfl rfl ?_; refine d_guard rfl rfl (fun hg => by rw [hg]; exact n_load_ref rfl rfl rfl) rfl rfl ?_; refine d_guard rfl rfl (fun hg => by rw [hg]; exact n_move rfl rfl) rfl rfl ?_; refine d_guard rfl rfl (fun hg => by rw [hg]; exact n_nilCheck_ref rfl) rfl rfl ?_; refine d_guard rfl rfl (fun hg => by rw [hg]; exact n_field_ref rfl) rfl rfl ?_; refine d_guard rfl rfl (fun hg => by rw [hg]; exact n_load_ref rfl rfl rfl) rfl rfl ?_; refine d_guard rfl rfl (fun hg => by rw [hg]; exact n_lss rfl rfl) rfl rfl ?_; refine d_neu (n_pick_bool rfl (fun h => by first | rfl | (rw [h]; rfl)) (fun h => by first | rfl | (rw [h]; rfl))) rfl rfl ?_; refine d_neu (n_move rfl rfl) rfl rfl ?_; refine d_guard rfl rfl (fun hg => by rw [hg]; exact n_field_ref rfl) rfl rfl ?_; refine d_guard rfl rfl (fun hg => by rw [hg]; exact n_load_ref rfl rfl rfl) rfl rfl ?_; refine d_guard rfl rfl (fun hg => by rw [hg]; exact n_move rfl rfl) rfl rfl ?_; refine d_guard rfl rfl (fun hg => by rw [hg]; exact n_nilCheck_ref rfl) rfl rfl ?_; refine d_guard rfl rfl (fun hg => by rw [hg]; exact n_field_ref rfl) rfl rfl ?_; refine d_guard rfl rfl (fun hg => by rw [hg]; exact n_load_ref rfl rfl rfl) rfl rfl ?_; refine d_guard rfl rfl (fun hg => by have hq := hg; (try simp at hq); rw [hg]; exact n_sub rfl rfl (by omega)) rfl rfl ?_; refine d_guard rfl rfl (fun hg => by rw [hg]; exact n_field_ref rfl) rfl rfl ?_; refine d_guard rfl rfl (fun hg => by rw [hg]; exact n_load_ref rfl rfl rfl) rfl rfl ?_
  refine d_guard rfl rfl (fun hg => by rw [hg]; exact n_move rfl rfl) rfl rfl ?_; refine d_guard rfl rfl (fun hg => by rw [hg]; exact n_nilCheck_ref rfl) rfl rfl ?_; refine d_guard rfl rfl (fun hg => by rw [hg]; exact n_field_ref rfl) rfl rfl ?_; refine d_guard rfl rfl (fun hg => by rw [hg]; exact n_load_ref rfl rfl rfl) rfl rfl ?_; refine d_guard rfl rfl (fun hg => by have hq := hg; (try simp at hq); rw [hg]; exact n_sub rfl rfl (by omega)) rfl rfl ?_; refine d_guard rfl rfl (fun hg => by rw [hg]; exact n_neq rfl rfl) rfl rfl ?_; refine d_neu (n_pick_bool rfl (fun h => by first | rfl | (rw [h]; rfl)) (fun h => by first | rfl | (rw [h]; rfl))) rfl rfl ?_; refine d_nil ?_
  refine k1 ?_
  refine c_cond rfl (fun ht => ?_) (fun ht => ?_)
  · simp only [or_pick] at ht
    have hb : badPlace i j h := of_decide_eq_true ht
    refine k2 ?_
    refine c_region ?_; refine l_neu (n_assign rfl rfl) rfl ?_; refine l_nil ?_
    refine k1 ?_; refine k10 ?_; refine k11 ?_
    refine met_ret (rets1 rfl rfl) (by repeat (first | exact tail_refl | refine tail_cons rfl ?_ | refine tail_forget _ ?_)) (fun _ _ h => h) ⟨false, rfl, by rw [decide_eq_false (fun hh => hh hb)]; rfl, fun hh => by cases hh⟩
  · simp only [or_pick] at ht
    have hb : ¬ badPlace i j h := of_decide_eq_false ht
    have hln := szL_len h.Lines
    refine k5 ?_; refine k1 ?_; refine k2 ?_; refine k2 ?_
    refine c_region ?_; refine l_neu (n_field_ref rfl) rfl ?_; refine l_neu (n_load_ref rfl rfl rfl) rfl ?_; refine l_neu (n_len rfl (.pure _ _ _ _)) rfl ?_; refine l_neu (n_move rfl rfl) rfl ?_; refine l_nil ?_
    refine k1 ?_; refine k3 ?_
    refine c_while (X := Nat × Bool × Bool) (fun z => ([(1, .s (.one (.ref 710 0))), (2, .s (.one (.ref 711 0))), (3, .s (.one (.ref 3 0))), (56, sList PatchLine 2 plineC h.Lines), (57, sInt h.Lines.length), (58, sInt z.1)] ++ gf, [(3, .box (pPhunk h).s1.cells), (6, .box (pPhunk h').s1.cells), (710, sideBox i z.2.1), (711, sideBox j z.2.2)])) (fun z => z.1 ≤ h.Lines.length ∧ openGo o n h.Lines = openGo z.2.1 z.2.2 (h.Lines.drop z.1)) (fun z => h.Lines.length - z.1) (0, o, n) ⟨Nat.zero_le _, rfl⟩ ?_ ?_
    · exact Sees.tailed ⟨le1 rfl, le1 rfl, le1 rfl, le1 rfl, le1 rfl, le1 rfl, trivial⟩ hH (by repeat (first | exact tail_refl | refine tail_cons rfl ?_)) (fun _ _ hh => hh)
    rintro ⟨k, ok, nk⟩ ⟨hk, hp⟩
    dsimp only at hk hp ⊢
    refine k2 ?_
    refine c_region ?_; refine l_neu (n_lss rfl rfl) rfl ?_; refine l_nil ?_
    refine k1 ?_; refine k2 ?_
    refine c_cond rfl (fun ht => ?_) (fun ht => ?_)
    · have hlt : k < h.Lines.length := by have := of_decide_eq_true ht; omega
      have hv : h.Lines[k]? = some h.Lines[k] := by simp [hlt]
      have hmem2 := szL_mem (List.getElem_mem hlt)
      rw [List.drop_eq_getElem_cons hlt, openGo] at hp
      obtain ⟨x, hx⟩ : ∃ x, x = h.Lines[k] := ⟨_, rfl⟩
      rw [← hx] at hv hmem2 hp
      refine k5 ?_; refine k1 ?_; refine k2 ?_; refine k3 ?_; refine k2 ?_
      refine c_region ?_; refine l_neu (n_indexAddr rfl (.pure _ _ _ _) rfl (by omega) hv) rfl ?_; refine l_neu (n_loads_eref rfl rfl) rfl ?_; refine l_effv (f_alloc 8 (show ((frFree 8 gf && true) = true) by rw [hf8]; rfl)) rfl ?_; refine l_eff (e_store_ref TySz.out rfl rfl rfl rfl rfl rfl) ?_; refine l_nil ?_
      refine k1 ?_; refine k2 ?_
      refine c_cut ([(1, .s (.one (.ref 710 0))), (2, .s (.one (.ref 711 0))), (3, .s (.one (.ref 3 0))), (8, .s (.one (.ref 8 0))), (56, sList PatchLine 2 plineC h.Lines), (57, sInt h.Lines.length), (58, sInt k)] ++ gf) [(8, .box [.p (.v (.int .u8 x.Kind.toNat)), .p (.v (.string ⟨x.Text.toArray⟩))]), (3, .box (pPhunk h).s1.cells), (6, .box (pPhunk h').s1.cells), (710, sideBox i ok), (711, sideBox j nk)] (Sees.tailed ⟨le1 rfl, le1 rfl, le1 rfl, le1 rfl, le1 rfl, le1 rfl, le1 rfl, trivial⟩ hH (by repeat (first | exact tail_refl | refine tail_cons rfl ?_ | refine tail_forget' _ ?_)) (ObIn.spec ⟨rfl, rfl, rfl, rfl, rfl, trivial⟩)) ?_
      have hneg : ∀ {b : Bool}, b = (decide (¬ badPlace i j h) && match openGo o n h.Lines with
        | none => false
        | some _ => decide (h.Old + oldN h ≤ 4096 ∧ h.New + newN h ≤ 4096)) → openGo o n h.Lines = none → b = false := fun h1 h2 => by rw [h1, h2]; simp
      by_cases c1 : x.Kind ≠ 43
      · have c1n : (x.Kind.toNat : Int) ≠ 43 := (decide_eq_decide.1 (kind_ne x.Kind 43)).2 c1
        cases ok with
        | true =>
          rw [if_pos ⟨c1, rfl⟩] at hp
          refine c_region ?_; refine l_neu (n_field_ref rfl) rfl ?_; refine l_neu (n_load_ref rfl rfl rfl) rfl ?_; refine l_neu (n_neq rfl rfl) rfl ?_; refine l_neu (n_move rfl rfl) rfl ?_; refine l_run rfl rfl rfl (by simp [c1n]) ?_; refine l_neu (n_move rfl rfl) rfl ?_; refine l_run rfl rfl rfl (by simp [c1n]) ?_; refine l_neu (n_field_ref rfl) rfl ?_; refine l_run rfl rfl rfl (by simp [c1n]) ?_; refine l_neu (n_load_ref rfl rfl rfl) rfl ?_; refine l_run rfl rfl rfl (by simp [c1n]) ?_; refine l_met (uline_met (k := 710) (e := i) (o := true) rfl (by omega)) rfl rfl rfl ?_; rintro _ _ ⟨rfl, rfl⟩; refine l_run rfl rfl rfl (by simp [c1n]) ?_; refine l_neu (n_not rfl) rfl ?_; refine l_neu (n_pick_bool rfl (fun h => by first | rfl | (rw [h]; rfl)) (fun h => by first | rfl | (rw [h]; rfl))) rfl ?_; refine l_neu (n_move rfl rfl) rfl ?_; refine l_skip rfl rfl rfl (by simp [c1n]) rfl ?_; refine l_skip rfl rfl rfl (by simp [c1n]) rfl ?_; refine l_skip rfl rfl rfl (by simp [c1n]) rfl ?_; refine l_skip rfl rfl rfl (by simp [c1n]) rfl ?_; refine l_guardW (s := .any) rfl rfl rfl .un rfl (fun h => absurd h (by decide)) ?_; refine l_guardW (s := .any) rfl rfl rfl .un rfl (fun h => absurd h (by decide)) ?_; refine l_guardW (s := .any) rfl rfl rfl .un rfl (fun h => absurd h (by decide)) ?_; refine l_guardW (s := .any) rfl rfl rfl .un rfl (fun h => absurd h (by decide)) ?_; refine l_guardW (s := .any) rfl rfl rfl .un rfl (fun h => absurd h (by decide)) ?_; refine l_skip rfl rfl rfl (by simp [c1n]) rfl ?_; refine l_neu (n_pick_t rfl ((by simp [c1n])) rfl) rfl ?_; refine l_nil ?_
          refine k1 ?_
          refine c_cond rfl (fun ht => ?_) (fun ht => ?_)
          · refine k2 ?_
            refine c_region ?_; refine l_neu (n_assign rfl rfl) rfl ?_; refine l_nil ?_
            refine k1 ?_; refine k10 ?_; refine k12 ?_; refine k11 ?_; refine k11 ?_; refine k12 ?_; refine k11 ?_
            refine met_ret (rets1 rfl rfl) (by repeat (first | exact tail_refl | refine tail_cons rfl ?_ | refine tail_forget _ ?_)) (fun _ _ h => h) ⟨false, rfl, by rw [hp]; simp, fun hh => by cases hh⟩
          · cases ht
        | false =>
          rw [if_neg (by simp)] at hp
          by_cases c2 : x.Kind ≠ 45
          · have c2n : (x.Kind.toNat : Int) ≠ 45 := (decide_eq_decide.1 (kind_ne x.Kind 45)).2 c2
            refine c_region ?_; refine l_neu (n_field_ref rfl) rfl ?_; refine l_neu (n_load_ref rfl rfl rfl) rfl ?_; refine l_neu (n_neq rfl rfl) rfl ?_; refine l_neu (n_move rfl rfl) rfl ?_; refine l_run rfl rfl rfl (by simp [c1n]) ?_; refine l_neu (n_move rfl rfl) rfl ?_; refine l_run rfl rfl rfl (by simp [c1n]) ?_; refine l_neu (n_field_ref rfl) rfl ?_; refine l_run rfl rfl rfl (by simp [c1n]) ?_; refine l_neu (n_load_ref rfl rfl rfl) rfl ?_; refine l_run rfl rfl rfl (by simp [c1n]) ?_; refine l_met (uline_met (k := 710) (e := i) (o := false) rfl (by omega)) rfl rfl rfl ?_; rintro _ _ ⟨rfl, rfl⟩; refine l_run rfl rfl rfl (by simp [c1n]) ?_; refine l_neu (n_not rfl) rfl ?_; refine l_neu (n_pick_bool rfl (fun h => by first | rfl | (rw [h]; rfl)) (fun h => by first | rfl | (rw [h]; rfl))) rfl ?_; refine l_neu (n_move rfl rfl) rfl ?_; refine l_run rfl rfl rfl (by simp [c1n]) ?_; refine l_neu (n_field_ref rfl) rfl ?_; refine l_run rfl rfl rfl (by simp [c1n]) ?_; refine l_neu (n_load_ref rfl rfl rfl) rfl ?_; refine l_run rfl rfl rfl (by simp [c1n]) ?_; refine l_neu (n_neq rfl rfl) rfl ?_; refine l_run rfl rfl rfl (by simp [c1n]) ?_; refine l_neu (n_move rfl rfl) rfl ?_; refine l_run rfl rfl rfl (by simp [c1n, c2n]) ?_; refine l_neu (n_move rfl rfl) rfl ?_; refine l_run rfl rfl rfl (by simp [c1n, c2n]) ?_; refine l_neu (n_field_ref rfl) rfl ?_; refine l_run rfl rfl rfl (by simp [c1n, c2n]) ?_; refine l_neu (n_load_ref rfl rfl rfl) rfl ?_; refine l_run rfl rfl rfl (by simp [c1n, c2n]) ?_; refine l_met (uline_met (k := 711) (e := j) (o := nk) rfl (by omega)) rfl rfl rfl ?_; rintro _ _ ⟨rfl, rfl⟩; refine l_run rfl rfl rfl (by simp [c1n, c2n]) ?_; refine l_neu (n_not rfl) rfl ?_; refine l_run rfl rfl rfl (by simp [c1n]) ?_; refine l_neu (n_pick_bool rfl (fun h => by first | rfl | (rw [h]; rfl)) (fun h => by first | rfl | (rw [h]; rfl))) rfl ?_; refine l_neu (n_pick_bool rfl (fun h => by first | rfl | (rw [h]; rfl)) (fun h => by first | rfl | (rw [h]; rfl))) rfl ?_; refine l_nil ?_
            refine k1 ?_
            refine c_cond rfl (fun ht => ?_) (fun ht => ?_)
            · have hnk : nk = true := by revert ht; simp [c1n, c2n]
              rw [if_pos ⟨c2, hnk⟩] at hp
              refine k2 ?_
              refine c_region ?_; refine l_neu (n_assign rfl rfl) rfl ?_; refine l_nil ?_
              refine k1 ?_; refine k10 ?_; refine k12 ?_; refine k11 ?_; refine k11 ?_; refine k12 ?_; refine k11 ?_
              refine met_ret (rets1 rfl rfl) (by repeat (first | exact tail_refl | refine tail_cons rfl ?_ | refine tail_forget _ ?_)) (fun _ _ h => h) ⟨false, rfl, by rw [hp]; simp, fun hh => by cases hh⟩
            · have hnk : nk = false := by revert ht; simp [c1n, c2n]
              rw [if_neg (by simp [hnk]), if_pos c1, if_pos c2] at hp
              refine k5 ?_; refine k4 ?_; refine k1 ?_
              refine c_region ?_; refine l_neu (n_add rfl rfl (by omega)) rfl ?_; refine l_neu (n_move rfl rfl) rfl ?_; refine l_nil ?_
              refine k1 ?_
              exact ⟨(k + 1, !ended x.Text, !ended x.Text), ⟨by dsimp only; omega, hp⟩, by dsimp only; omega, Sees.tailed ⟨le1 rfl, le1 rfl, le1 rfl, le1 rfl, le1 rfl, le1 rfl, trivial⟩ hH (by repeat (first | exact tail_refl | refine tail_cons rfl ?_ | refine tail_forget' _ ?_)) (ObIn.spec ⟨rfl, rfl, rfl, rfl, trivial⟩)⟩
          · have c2n : (x.Kind.toNat : Int) = 45 := Decidable.not_not.1 (fun hh => c2 ((decide_eq_decide.1 (kind_ne x.Kind 45)).1 hh))
            refine c_region ?_; refine l_neu (n_field_ref rfl) rfl ?_; refine l_neu (n_load_ref rfl rfl rfl) rfl ?_; refine l_neu (n_neq rfl rfl) rfl ?_; refine l_neu (n_move rfl rfl) rfl ?_; refine l_run rfl rfl rfl (by simp [c1n]) ?_; refine l_neu (n_move rfl rfl) rfl ?_; refine l_run rfl rfl rfl (by simp [c1n]) ?_; refine l_neu (n_field_ref rfl) rfl ?_; refine l_run rfl rfl rfl (by simp [c1n]) ?_; refine l_neu (n_load_ref rfl rfl rfl) rfl ?_; refine l_run rfl rfl rfl (by simp [c1n]) ?_; refine l_met (uline_met (k := 710) (e := i) (o := false) rfl (by omega)) rfl rfl rfl ?_; rintro _ _ ⟨rfl, rfl⟩; refine l_run rfl rfl rfl (by simp [c1n]) ?_; refine l_neu (n_not rfl) rfl ?_; refine l_neu (n_pick_bool rfl (fun h => by first | rfl | (rw [h]; rfl)) (fun h => by first | rfl | (rw [h]; rfl))) rfl ?_; refine l_neu (n_move rfl rfl) rfl ?_; refine l_run rfl rfl rfl (by simp [c1n]) ?_; refine l_neu (n_field_ref rfl) rfl ?_; refine l_run rfl rfl rfl (by simp [c1n]) ?_; refine l_neu (n_load_ref rfl rfl rfl) rfl ?_; refine l_run rfl rfl rfl (by simp [c1n]) ?_; refine l_neu (n_neq rfl rfl) rfl ?_; refine l_run rfl rfl rfl (by simp [c1n]) ?_; refine l_neu (n_move rfl rfl) rfl ?_; refine l_skip rfl rfl rfl (by simp [c1n, c2n]) rfl ?_; refine l_skip rfl rfl rfl (by simp [c1n, c2n]) rfl ?_; refine l_skip rfl rfl rfl (by simp [c1n, c2n]) rfl ?_; refine l_skip rfl rfl rfl (by simp [c1n, c2n]) rfl ?_; refine l_skip rfl rfl rfl (by simp [c1n, c2n]) rfl ?_; refine l_run rfl rfl rfl (by simp [c1n]) ?_; refine l_neu (n_pick_f rfl ((by simp [c1n, c2n])) rfl) rfl ?_; refine l_neu (n_pick_bool rfl (fun h => by first | rfl | (rw [h]; rfl)) (fun h => by first | rfl | (rw [h]; rfl))) rfl ?_; refine l_nil ?_
            refine k1 ?_
            refine c_cond rfl (fun ht => ?_) (fun ht => ?_)
            · exfalso; revert ht; simp [c1n, c2n]
            · rw [if_neg (by simp [c2]), if_pos c1, if_neg c2] at hp
              refine k5 ?_; refine k4 ?_; refine k1 ?_
              refine c_region ?_; refine l_neu (n_add rfl rfl (by omega)) rfl ?_; refine l_neu (n_move rfl rfl) rfl ?_; refine l_nil ?_
              refine k1 ?_
              exact ⟨(k + 1, !ended x.Text, nk), ⟨by dsimp only; omega, hp⟩, by dsimp only; omega, Sees.tailed ⟨le1 rfl, le1 rfl, le1 rfl, le1 rfl, le1 rfl, le1 rfl, trivial⟩ hH (by repeat (first | exact tail_refl | refine tail_cons rfl ?_ | refine tail_forget' _ ?_)) (ObIn.spec ⟨rfl, rfl, rfl, rfl, trivial⟩)⟩
      · have c2 : x.Kind ≠ 45 := by rw [Decidable.not_not.1 c1]; decide
        have c1n : (x.Kind.toNat : Int) = 43 := Decidable.not_not.1 (fun hh => c1 ((decide_eq_decide.1 (kind_ne x.Kind 43)).1 hh))
        have c2n : (x.Kind.toNat : Int) ≠ 45 := (decide_eq_decide.1 (kind_ne x.Kind 45)).2 c2
        rw [if_neg (by simp [c1])] at hp
        refine c_region ?_; refine l_neu (n_field_ref rfl) rfl ?_; refine l_neu (n_load_ref rfl rfl rfl) rfl ?_; refine l_neu (n_neq rfl rfl) rfl ?_; refine l_neu (n_move rfl rfl) rfl ?_; refine l_skip rfl rfl rfl (by simp [c1n]) rfl ?_; refine l_skip rfl rfl rfl (by simp [c1n]) rfl ?_; refine l_skip rfl rfl rfl (by simp [c1n]) rfl ?_; refine l_skip rfl rfl rfl (by simp [c1n]) rfl ?_; refine l_skip rfl rfl rfl (by simp [c1n]) rfl ?_; refine l_neu (n_pick_f rfl ((by simp [c1n])) rfl) rfl ?_; refine l_neu (n_move rfl rfl) rfl ?_; refine l_run rfl rfl rfl (by simp [c1n]) ?_; refine l_neu (n_field_ref rfl) rfl ?_; refine l_run rfl rfl rfl (by simp [c1n]) ?_; refine l_neu (n_load_ref rfl rfl rfl) rfl ?_; refine l_run rfl rfl rfl (by simp [c1n]) ?_; refine l_neu (n_neq rfl rfl) rfl ?_; refine l_run rfl rfl rfl (by simp [c1n]) ?_; refine l_neu (n_move rfl rfl) rfl ?_; refine l_run rfl rfl rfl (by simp [c1n, c2n]) ?_; refine l_neu (n_move rfl rfl) rfl ?_; refine l_run rfl rfl rfl (by simp [c1n, c2n]) ?_; refine l_neu (n_field_ref rfl) rfl ?_; refine l_run rfl rfl rfl (by simp [c1n, c2n]) ?_; refine l_neu (n_load_ref rfl rfl rfl) rfl ?_; refine l_run rfl rfl rfl (by simp [c1n, c2n]) ?_; refine l_met (uline_met (k := 711) (e := j) (o := nk) rfl (by omega)) rfl rfl rfl ?_; rintro _ _ ⟨rfl, rfl⟩; refine l_run rfl rfl rfl (by simp [c1n, c2n]) ?_; refine l_neu (n_not rfl) rfl ?_; refine l_run rfl rfl rfl (by simp [c1n]) ?_; refine l_neu (n_pick_bool rfl (fun h => by first | rfl | (rw [h]; rfl)) (fun h => by first | rfl | (rw [h]; rfl))) rfl ?_; refine l_neu (n_pick_bool rfl (fun h => by first | rfl | (rw [h]; rfl)) (fun h => by first | rfl | (rw [h]; rfl))) rfl ?_; refine l_nil ?_
        refine k1 ?_
        refine c_cond rfl (fun ht => ?_) (fun ht => ?_)
        · have hnk : nk = true := by revert ht; simp [c1n, c2n]
          rw [if_pos ⟨c2, hnk⟩] at hp
          refine k2 ?_
          refine c_region ?_; refine l_neu (n_assign rfl rfl) rfl ?_; refine l_nil ?_
          refine k1 ?_; refine k10 ?_; refine k12 ?_; refine k11 ?_; refine k11 ?_; refine k12 ?_; refine k11 ?_
          refine met_ret (rets1 rfl rfl) (by repeat (first | exact tail_refl | refine tail_cons rfl ?_ | refine tail_forget _ ?_)) (fun _ _ h => h) ⟨false, rfl, by rw [hp]; simp, fun hh => by cases hh⟩
        · have hnk : nk = false := by revert ht; simp [c1n, c2n]
          rw [if_neg (by simp [hnk]), if_neg c1, if_pos c2] at hp
          refine k5 ?_; refine k4 ?_; refine k1 ?_
          refine c_region ?_; refine l_neu (n_add rfl rfl (by omega)) rfl ?_; refine l_neu (n_move rfl rfl) rfl ?_; refine l_nil ?_
          refine k1 ?_
          exact ⟨(k + 1, ok, !ended x.Text), ⟨by dsimp only; omega, hp⟩, by dsimp only; omega, Sees.tailed ⟨le1 rfl, le1 rfl, le1 rfl, le1 rfl, le1 rfl, le1 rfl, trivial⟩ hH (by repeat (first | exact tail_refl | refine tail_cons rfl ?_ | refine tail_forget' _ ?_)) (ObIn.spec ⟨rfl, rfl, rfl, rfl, trivial⟩)⟩
    · have hk' : k = h.Lines.length := by have := of_decide_eq_false ht; omega
      subst hk'
      rw [List.drop_eq_nil_of_le (Nat.le_refl _), openGo] at hp
      have hbb : (0 ≤ h.Old ∧ h.Old ≤ 4096) ∧ (0 ≤ h.New ∧ h.New ≤ 4096) := by unfold badPlace at hb; simp only [not_or] at hb; omega
      have hon := linesNot_len h.Lines 43
      have hnn := linesNot_len h.Lines 45
      have hon2 : oldN h ≤ h.Lines.length ∧ 0 ≤ oldN h := by unfold oldN; omega
      have hnn2 : newN h ≤ h.Lines.length ∧ 0 ≤ newN h := by unfold newN; omega
      refine k6 ?_; refine k2 ?_
      refine c_region ?_; refine l_neu (n_loads_ref rfl rfl rfl) rfl ?_; refine l_call (usizes_ok h (by omega)) rfl rfl rfl ?_; rintro _ rfl; refine l_neu (n_move rfl rfl) rfl ?_; refine l_neu (n_extract rfl rfl) rfl ?_; refine l_neu (n_extract rfl rfl) rfl ?_; refine l_neu (n_assign rfl rfl) rfl ?_; refine l_neu (n_assign rfl rfl) rfl ?_; refine l_nil ?_
      refine k1 ?_; refine k2 ?_
      have hbx : decide (¬ badPlace i j h) = true := decide_eq_true hb
      refine c_region_store 12 [(101, .s (.one (.ref 710 0))), (95, sInt (h.Old + oldN h))] (by kernel_rfl) (by kernel_rfl) rfl (u_store_ref TySz.out rfl rfl rfl rfl rfl rfl) rfl rfl ?_; refine s_neu (n_move rfl rfl) rfl (n_move rfl rfl) ?_; refine s_neu (n_move rfl rfl) rfl (n_move rfl rfl) ?_; refine s_neu (n_field_ref rfl) rfl (n_field_ref rfl) ?_; refine s_neu (n_load_ref rfl rfl rfl) rfl (n_load_ref rfl rfl rfl) ?_; refine s_neu (n_move rfl rfl) rfl (n_move rfl rfl) ?_; refine s_neu (n_add rfl rfl (by omega)) rfl (n_add rfl rfl (by omega)) ?_; refine s_neu (n_field_ref rfl) rfl (n_field_ref rfl) ?_; refine s_neu (n_load_ref rfl rfl rfl) rfl (n_load_ref rfl rfl rfl) ?_; refine s_neu (n_move rfl rfl) rfl (n_move rfl rfl) ?_; refine s_neu (n_add rfl rfl (by omega)) rfl (n_add rfl rfl (by omega)) ?_; refine s_neu (n_nilCheck_ref rfl) rfl (n_nilCheck_ref rfl) ?_; refine s_neu (n_field_ref rfl) rfl (n_field_ref rfl) ?_; refine s_nil ⟨rfl, rfl, trivial⟩ ?_; refine d_neu (n_nilCheck_ref rfl) rfl rfl ?_; refine d_neu (n_field_ref rfl) rfl rfl ?_; refine d_eff (e_store_ref TySz.out rfl rfl rfl rfl rfl rfl) rfl ?_; refine d_nil ?_
      refine k1 ?_; refine k2 ?_
      refine c_region ?_; refine l_neu (n_move rfl rfl) rfl ?_; refine l_neu (n_nilCheck_ref rfl) rfl ?_; refine l_neu (n_field_ref rfl) rfl ?_; refine l_neu (n_load_ref rfl rfl rfl) rfl ?_; refine l_neu (n_leq rfl rfl) rfl ?_; refine l_neu (n_move rfl rfl) rfl ?_; refine l_guard rfl rfl rfl rfl (fun hg => by rw [hg]; exact n_move rfl rfl) ?_; refine l_guard rfl rfl rfl rfl (fun hg => by rw [hg]; exact n_nilCheck_ref rfl) ?_; refine l_guard rfl rfl rfl rfl (fun hg => by rw [hg]; exact n_field_ref rfl) ?_; refine l_guard rfl rfl rfl rfl (fun hg => by rw [hg]; exact n_load_ref rfl rfl rfl) ?_; refine l_guard rfl rfl rfl rfl (fun hg => by rw [hg]; exact n_leq rfl rfl) ?_; refine l_neu (n_pick_bool rfl (fun h => by first | rfl | (rw [h]; rfl)) (fun h => by first | rfl | (rw [h]; rfl))) rfl ?_; refine l_neu (n_assign rfl rfl) rfl ?_; refine l_nil ?_
      refine k1 ?_; refine k10 ?_
      refine met_ret (ob' := [(6, .box (pPhunk h').s1.cells), (710, sideBox (h.Old + oldN h) ok), (711, sideBox (h.New + newN h) nk)]) (rets1 rfl rfl) (by repeat (first | exact tail_refl | refine tail_cons rfl ?_ | refine tail_forget _ ?_)) (ObIn.spec ⟨rfl, rfl, rfl, trivial⟩) ⟨_, rfl, ?_, fun hh => ⟨ok, nk, hp, rfl⟩⟩
      rw [hp, hbx]
      simp only [and_pick, Bool.true_and]
end Go.Proofs.YtjjidificdmnmaaGreatDoor
namespace Go.Proofs.YtjjidificdmnmaaGreatDoor
open Go Go.AL
set_option maxRecDepth 100000
theorem uwell_ok (hs : List PatchHunk) (hsz : szP hs ≤ 268435456) : FnOk Tryz.prog 67 [pPhunks hs] (fun rs => rs = [pBool (goodOf hs)]) := by
  have hsl := szP_len hs
  rw [← well_good]
  refine FnOk.intro Tryz.func67 (by decide) rfl rfl rfl rfl ?_
  refine k2 ?_
  refine c_region ?_; refine l_neu (n_assign rfl rfl) rfl ?_; refine l_nil ?_
  refine k1 ?_; refine k2 ?_
  refine c_region ?_; refine l_effv (f_alloc 710 rfl) rfl ?_; refine l_effv (f_alloc 711 rfl) rfl ?_; refine l_nil ?_
  refine k1 ?_; refine k2 ?_; refine k2 ?_
  refine c_region ?_; refine l_neu (n_move rfl rfl) rfl ?_; refine l_neu (n_len rfl (.pure _ _ _ _)) rfl ?_; refine l_neu (n_move rfl rfl) rfl ?_; refine l_nil ?_
  refine k1 ?_; refine k3 ?_
  refine c_while (X := Nat × (Int × Int) × Bool × Bool) (fun z => ([(3, .s (.one (.ref 710 0))), (4, .s (.one (.ref 711 0))), (7, sList PatchHunk 3 phunkC hs), (8, sInt hs.length), (9, sInt z.1)], [(710, sideBox z.2.1.1 z.2.2.1), (711, sideBox z.2.1.2 z.2.2.2)])) (fun z => z.1 ≤ hs.length ∧ ((0 ≤ z.2.1.1 ∧ z.2.1.1 ≤ 8192) ∧ (0 ≤ z.2.1.2 ∧ z.2.1.2 ≤ 8192)) ∧ wellGo 0 0 false false hs = wellGo z.2.1.1 z.2.1.2 z.2.2.1 z.2.2.2 (hs.drop z.1)) (fun z => hs.length - z.1) (0, (0, 0), false, false) ⟨Nat.zero_le _, by decide, rfl⟩ (Sees.of ⟨le1 rfl, le1 rfl, le1 rfl, le1 rfl, le1 rfl, trivial⟩ ⟨rfl, rfl, trivial⟩) ?_
  rintro ⟨k, ⟨i, j⟩, o, n⟩ ⟨hk, ⟨hi, hj⟩, hp⟩
  dsimp only at hk hi hj hp ⊢
  refine k2 ?_
  refine c_region ?_; refine l_neu (n_lss rfl rfl) rfl ?_; refine l_nil ?_
  refine k1 ?_; refine k2 ?_
  refine c_cond rfl (fun ht => ?_) (fun ht => ?_)
  · have hlt : k < hs.length := by have := of_decide_eq_true ht; omega
    have hv : hs[k]? = some hs[k] := by simp [hlt]
    have hmem : hs[k] ∈ hs := List.getElem_mem hlt
    rw [List.drop_eq_getElem_cons hlt, wellGo] at hp
    obtain ⟨h, hx⟩ : ∃ x, x = hs[k] := ⟨_, rfl⟩
    rw [← hx] at hv hmem hp
    have h1 := szP_mem hmem
    have h3 := szL_len h.Lines
    unfold szH at h1
    refine k5 ?_; refine k1 ?_; refine k2 ?_; refine k3 ?_; refine k2 ?_
    refine c_region ?_; refine l_neu (n_indexAddr rfl (.pure _ _ _ _) rfl (by omega) hv) rfl ?_; refine l_neu (n_loads_eref rfl rfl) rfl ?_; refine l_effv (f_alloc 6 rfl) rfl ?_; refine l_eff (e_store_ref TySz.out rfl rfl rfl rfl rfl rfl) ?_; refine l_nil ?_
    refine k1 ?_; refine k2 ?_
    refine c_cut [(3, .s (.one (.ref 710 0))), (4, .s (.one (.ref 711 0))), (6, .s (.one (.ref 6 0))), (7, sList PatchHunk 3 phunkC hs), (8, sInt hs.length), (9, sInt k)] [(6, .box (pPhunk h).s1.cells), (710, sideBox i o), (711, sideBox j n)] (Sees.of ⟨le1 rfl, le1 rfl, le1 rfl, le1 rfl, le1 rfl, le1 rfl, trivial⟩ ⟨rfl, rfl, rfl, trivial⟩) ?_
    cases hpr : (h.Lines.all goodLn && someCh h.Lines) with
    | false =>
      rw [hpr] at hp
      refine c_region ?_; refine l_neu (n_loads_ref rfl rfl rfl) rfl ?_; refine l_call (uproper_ok h (by omega)) rfl rfl rfl ?_; rintro _ rfl; refine l_neu (n_not rfl) rfl ?_; refine l_neu (n_move rfl rfl) rfl ?_; refine l_skip rfl rfl rfl (by rw [hpr]; decide) rfl ?_; refine l_skip rfl rfl rfl (by rw [hpr]; decide) rfl ?_; refine l_skip rfl rfl rfl (by rw [hpr]; decide) rfl ?_; refine l_neu (n_pick_t rfl ((by rw [hpr]; rfl)) rfl) rfl ?_; refine l_nil ?_
      refine k1 ?_
      refine c_cond rfl (fun ht => ?_) (fun ht => ?_)
      · refine k2 ?_
        refine c_region ?_; refine l_neu (n_assign rfl rfl) rfl ?_; refine l_nil ?_
        refine k1 ?_; refine k10 ?_; refine k12 ?_; refine k11 ?_; refine k11 ?_; refine k12 ?_; refine k11 ?_
        exact ret_ret (ret1 rfl rfl rfl) (by rw [hp]; rfl)
      · cases ht
    | true =>
      rw [hpr] at hp
      refine c_region ?_; refine l_neu (n_loads_ref rfl rfl rfl) rfl ?_; refine l_call (uproper_ok h (by omega)) rfl rfl rfl ?_; rintro _ rfl; refine l_neu (n_not rfl) rfl ?_; refine l_neu (n_move rfl rfl) rfl ?_; refine l_run rfl rfl rfl (by rw [hpr]; rfl) ?_; refine l_neu (n_loads_ref rfl rfl rfl) rfl ?_; refine l_run rfl rfl rfl (by rw [hpr]; rfl) ?_; refine l_met (uplaced_met h h i j o n (by omega) hi hj rfl rfl) rfl rfl rfl ?_; rintro _ _ ⟨b, rfl, hb, hpost⟩; refine l_run rfl rfl rfl (by rw [hpr]; rfl) ?_; refine l_neu (n_not rfl) rfl ?_; refine l_neu (n_pick_f rfl ((by rw [hpr]; rfl)) rfl) rfl ?_; refine l_nil ?_
      refine k1 ?_
      refine c_cond rfl (fun ht => ?_) (fun ht => ?_)
      · have hbf : b = false := by simpa using ht
        refine k2 ?_
        refine c_region ?_; refine l_neu (n_assign rfl rfl) rfl ?_; refine l_nil ?_
        refine k1 ?_; refine k10 ?_; refine k12 ?_; refine k11 ?_; refine k11 ?_; refine k12 ?_; refine k11 ?_
        refine ret_ret (ret1 rfl rfl rfl) ?_
        subst hbf
        rw [hp]
        cases hbp : decide (¬ badPlace i j h) with
        | false => rfl
        | true =>
          rw [hbp] at hb
          cases hop : openGo o n h.Lines with
          | none => rfl
          | some q =>
            rw [hop] at hb
            obtain ⟨q1, q2⟩ := q
            have hb2 : decide (h.Old + oldN h ≤ 4096 ∧ h.New + newN h ≤ 4096) = false := hb.symm
            show [pBool false] = [pBool (decide (h.Old + oldN h ≤ 4096 ∧ h.New + newN h ≤ 4096) && wellGo (h.Old + oldN h) (h.New + newN h) q1 q2 (List.drop (k + 1) hs))]
            rw [hb2]; rfl
      · have hbt : b = true := by simpa using ht
        obtain ⟨o', n', e1, rfl⟩ := hpost hbt
        rw [hbt, e1] at hb
        have hb2 := (Bool.and_eq_true _ _ ▸ hb.symm : _ ∧ _)
        have hb1 := of_decide_eq_true hb2.1
        have hb3 := of_decide_eq_true hb2.2
        rw [e1, hb2.1] at hp
        simp only [Bool.true_and] at hp
        rw [decide_eq_true hb3, Bool.true_and] at hp
        have hbb : (0 ≤ h.Old ∧ h.Old ≤ 4096) ∧ (0 ≤ h.New ∧ h.New ≤ 4096) := by unfold badPlace at hb1; simp only [not_or] at hb1; omega
        have hon2 : 0 ≤ oldN h := by unfold oldN; omega
        have hnn2 : 0 ≤ newN h := by unfold newN; omega
        refine k5 ?_; refine k4 ?_; refine k1 ?_
        refine c_region ?_; refine l_neu (n_add rfl rfl (by omega)) rfl ?_; refine l_neu (n_move rfl rfl) rfl ?_; refine l_nil ?_
        refine k1 ?_
        exact ⟨(k + 1, (h.Old + oldN h, h.New + newN h), o', n'), ⟨by dsimp only; omega, by dsimp only; omega, hp⟩, by dsimp only; omega, Sees.of ⟨le1 rfl, le1 rfl, le1 rfl, le1 rfl, le1 rfl, trivial⟩ ⟨rfl, rfl, trivial⟩⟩
  · have hk' : k = hs.length := by have := of_decide_eq_false ht; omega
    subst hk'
    rw [List.drop_eq_nil_of_le (Nat.le_refl _), wellGo] at hp
    refine k6 ?_; refine k2 ?_
    refine c_region ?_; refine l_neu (n_assign rfl rfl) rfl ?_; refine l_nil ?_
    refine k1 ?_; refine k10 ?_
    exact ret_ret (ret1 rfl rfl rfl) (by rw [hp])
end Go.Proofs.YtjjidificdmnmaaGreatDoor
namespace Go.Proofs.YtjjidificdmnmaaGreatDoor
open Go Go.AL
set_option maxRecDepth 100000
theorem ucheck_ok (p : Patch) (hp : szP p.Hunks ≤ 268435456) : FnOk Tryz.prog 37 [pPatch p] (fun rs => rs = [pInt (check12 p)]) := by
  refine FnOk.intro Tryz.func37 (by decide) rfl rfl rfl rfl ?_
  refine k2 ?_
  refine c_region ?_; refine l_effv (f_box 1 rfl rfl rfl) rfl ?_; refine l_neu (n_assign rfl rfl) rfl ?_; refine l_nil ?_
  refine k1 ?_; refine k2 ?_; refine k3 ?_; refine k2 ?_
  refine c_region ?_; refine l_neu (n_field_ref rfl) rfl ?_; refine l_neu (n_load_ref rfl rfl rfl) rfl ?_; refine l_call (unamed_ok p.OldName) rfl rfl rfl ?_; rintro _ rfl; refine l_neu (n_not rfl) rfl ?_; refine l_neu (n_move rfl rfl) rfl ?_; refine l_guard rfl rfl rfl rfl (fun hg => by rw [hg]; exact n_field_ref rfl) ?_; refine l_guard rfl rfl rfl rfl (fun hg => by rw [hg]; exact n_load_ref rfl rfl rfl) ?_; refine l_guard rfl rfl rfl rfl (fun hg => by have hq := hg; (try simp at hq); rw [hg]; exact n_call1 (unamed_ok p.NewName) rfl rfl) ?_; refine l_guard rfl rfl rfl rfl (fun hg => by rw [hg]; exact n_not rfl) ?_; refine l_neu (n_pick_bool rfl (fun h => by first | rfl | (rw [h]; rfl)) (fun h => by first | rfl | (rw [h]; rfl))) rfl ?_; refine l_neu (n_assign rfl rfl) rfl ?_; refine l_nil ?_
  refine k1 ?_
  refine c_cond rfl (fun ht => ?_) (fun ht => ?_)
  · simp only [notB, or_pick] at ht
    have h := of_decide_eq_true ht
    refine k2 ?_
    refine c_region ?_; refine l_neu (n_assign rfl rfl) rfl ?_; refine l_nil ?_
    refine k1 ?_; refine k10 ?_; refine k12 ?_; refine k11 ?_
    exact ret_ret (ret1 rfl rfl rfl) (by rw [check12, if_pos h])
  · simp only [notB, or_pick] at ht
    have h := of_decide_eq_false ht
    refine k2 ?_
    refine c_region ?_; refine l_neu (n_field_ref rfl) rfl ?_; refine l_neu (n_load_ref rfl rfl rfl) rfl ?_; refine l_call (uwell_ok p.Hunks hp) rfl rfl rfl ?_; rintro _ rfl; refine l_neu (n_not rfl) rfl ?_; refine l_neu (n_assign rfl rfl) rfl ?_; refine l_nil ?_
    refine k1 ?_
    refine c_cond rfl (fun ht => ?_) (fun ht => ?_)
    · have h2 : goodOf p.Hunks = false := by simpa using ht
      refine k2 ?_
      refine c_region ?_; refine l_neu (n_assign rfl rfl) rfl ?_; refine l_nil ?_
      refine k1 ?_; refine k10 ?_; refine k12 ?_; refine k11 ?_
      exact ret_ret (ret1 rfl rfl rfl) (by rw [check12, if_neg h, if_pos h2])
    · have h2 : goodOf p.Hunks = true := by simpa using ht
      have hr := goodOf_range h2
      have hn1 : nameOk p.OldName = true := by by_cases hh : nameOk p.OldName = true; exact hh; exact absurd (.inl (by simpa using hh)) h
      have hn2 : nameOk p.NewName = true := by by_cases hh : nameOk p.NewName = true; exact hh; exact absurd (.inr (by simpa using hh)) h
      have hn3 := of_decide_eq_true hn1
      have hn4 := of_decide_eq_true hn2
      have hpf : PFit p := ⟨by omega, by omega, hp⟩
      refine k2 ?_
      refine c_region ?_; refine l_neu (n_loads_ref rfl rfl rfl) rfl ?_; refine l_call (usize_ok p hpf (fun x hx => by have := hr x hx; omega)) rfl rfl rfl ?_; rintro _ rfl; refine l_neu (n_gtr rfl rfl) rfl ?_; refine l_neu (n_assign rfl rfl) rfl ?_; refine l_nil ?_
      refine k1 ?_
      refine c_cond rfl (fun ht => ?_) (fun ht => ?_)
      · have h3 := of_decide_eq_true ht
        refine k2 ?_
        refine c_region ?_; refine l_neu (n_assign rfl rfl) rfl ?_; refine l_nil ?_
        refine k1 ?_; refine k10 ?_; refine k12 ?_; refine k11 ?_
        exact ret_ret (ret1 rfl rfl rfl) (by rw [check12, if_neg h, if_neg (by rw [h2]; decide), if_pos (by omega)])
      · have h3 := of_decide_eq_false ht
        refine k5 ?_; refine k2 ?_
        refine c_region ?_; refine l_neu (n_assign rfl rfl) rfl ?_; refine l_nil ?_
        refine k1 ?_; refine k10 ?_
        exact ret_ret (ret1 rfl rfl rfl) (by rw [check12, if_neg h, if_neg (by rw [h2]; decide), if_neg (by omega)])
theorem check12_good {p : Patch} (h1 : ¬ check12 p ≠ 0) : goodOf p.Hunks = true := by
  by_cases hg : goodOf p.Hunks = true
  · exact hg
  · exfalso; apply h1; unfold check12; split
    · decide
    · rw [if_pos (by simpa using hg)]; decide
end Go.Proofs.YtjjidificdmnmaaGreatDoor
namespace Go.Proofs.YtjjidificdmnmaaGreatDoor
open Go Go.AL
set_option maxRecDepth 100000
end Go.Proofs.YtjjidificdmnmaaGreatDoor
