/- Walks of the program's functions. -/
import Derived.Test.YtjjidificdmnmaaGreatDoorFe
import Derived.Test.YtjjidificdmnmaaGreatDoorFc
namespace Go.Proofs.YtjjidificdmnmaaGreatDoor
open Go Go.AL
set_option maxRecDepth 100000
def wghTo (l : List Str) (i : Nat) : Nat := ((l.take i).map fun t => t.length + 65).sum
theorem wghTo_succ {l : List Str} {i : Nat} (h : i < l.length) : wghTo l (i + 1) = wghTo l i + l[i].length + 65 := by
  unfold wghTo
  rw [List.take_succ_eq_append_getElem h, List.map_append, List.sum_append]
  simp only [List.map_cons, List.map_nil, List.sum_cons, List.sum_nil]
  omega
theorem wghTo_over {l : List Str} {i : Nat} (h : l.length ≤ i) : wghTo l i = wghTo l l.length := by unfold wghTo; rw [List.take_of_length_le h, List.take_length]
theorem bodyR_sz (l : List Str) : ∀ (f i : Nat) (m n : Int) (acc ls : List PatchLine) (j : Nat), l.length - i ≤ f → bodyR l i m n acc = some (ls, j) → i ≤ j ∧ (ls.map szL).sum + wghTo l i ≤ (acc.map szL).sum + wghTo l j := by
  intro f
  induction f with
  | zero =>
    intro i m n acc ls j hf h
    rw [bodyR] at h
    split at h
    · rw [dif_neg (by omega)] at h; cases h
    · cases h; exact ⟨Nat.le_refl _, Nat.le_refl _⟩
  | succ f ih =>
    intro i m n acc ls j hf h
    rw [bodyR] at h
    split at h
    · by_cases hi : i < l.length
      · rw [dif_pos hi] at h
        have hw := wghTo_succ hi
        split at h
        · cases h
        · rename_i c t hl
          rw [hl] at hw
          simp only [List.length_cons] at hw
          split at h
          · rename_i h2
            have hi2 := (List.getElem?_eq_some_iff.1 h2).1
            have hw2 := wghTo_succ hi2
            rw [show i + 1 + 1 = i + 2 from rfl] at hw2
            obtain ⟨a1, a2⟩ := ih _ _ _ _ _ _ (by omega) h
            rw [szL_app] at a2
            simp only [List.map_cons, List.map_nil, List.sum_cons, List.sum_nil, szL] at a2
            exact ⟨by omega, by omega⟩
          · obtain ⟨a1, a2⟩ := ih _ _ _ _ _ _ (by omega) h
            rw [szL_app] at a2
            simp only [List.map_cons, List.map_nil, List.sum_cons, List.sum_nil, szL, List.length_append, List.length_cons, List.length_nil] at a2
            exact ⟨by omega, by omega⟩
      · rw [dif_neg hi] at h; cases h
    · cases h; exact ⟨Nat.le_refl _, Nat.le_refl _⟩
theorem hunksR_sz (l : List Str) : ∀ (f i : Nat) (hs hs' : List PatchHunk), l.length - i ≤ f → hunksR l i hs = some hs' → szP hs' + wghTo l i ≤ szP hs + wghTo l l.length := by
  intro f
  induction f with
  | zero =>
    intro i hs hs' hf h
    rw [hunksR_end (by omega)] at h
    cases h
    rw [wghTo_over (by omega)]; exact Nat.le_refl _
  | succ f ih =>
    intro i hs hs' hf h
    by_cases hi : i < l.length
    · have hv : l[i]? = some l[i] := by simp [hi]
      have hw := wghTo_succ hi
      cases h2 : headAt l[i] with
      | none => rw [hunksR_bad hv h2] at h; cases h
      | some q =>
        obtain ⟨a, m, b, n⟩ := q
        cases h3 : bodyR l (i + 1) m n [] with
        | none => rw [hunksR_none hv h2 h3] at h; cases h
        | some r =>
          obtain ⟨ls, j⟩ := r
          obtain ⟨b1, b2⟩ := bodyR_sz l _ _ _ _ _ _ _ (Nat.le_refl _) h3
          rw [hunksR_step hv h2 h3 b1] at h
          have := ih _ _ _ (by omega) h
          rw [szP_app] at this
          have e : szP [(⟨a, b, ls⟩ : PatchHunk)] = 64 + (ls.map szL).sum := by simp [szP, szH]
          rw [e] at this
          simp only [List.map_nil, List.sum_nil] at b2
          omega
    · rw [hunksR_end (by omega)] at h
      cases h
      rw [wghTo_over (by omega)]; exact Nat.le_refl _
theorem readR_sz {l : List Str} {p : Patch} (h : readR l = some p) : szP p.Hunks ≤ (l.map fun t => t.length + 65).sum := by
  unfold readR at h
  split at h
  · split at h
    · rename_i hs h2
      cases h
      have := hunksR_sz l _ _ _ _ (Nat.le_refl _) h2
      have e : wghTo l l.length = (l.map fun t => t.length + 65).sum := by unfold wghTo; rw [List.take_length]
      have e0 : szP ([] : List PatchHunk) = 0 := rfl
      dsimp only
      omega
    · cases h
  · cases h
theorem rParse_ok (s : Str) (hs : s.length ≤ 1048576) : FnOk Tryz.prog 31 [pStr s] (fun rs => rs = strictR parseP s) := by
  rw [show strictR parseP s = strictR readR s by unfold strictR; rw [strict_same]]
  have h16 : ¬ 16777216 < s.length := by omega
  have hL := r13Lines_ok s (by omega)
  have hfail : ∀ {x : Patch × Int}, strictBy readR s = x → x = (patch0, 4) → [pPatch patch0, pInt 4] = strictR readR s := by
    intro x h1 h2
    unfold strictR; rw [h1, h2]
  refine FnOk.intro Tryz.func31 (by decide) rfl rfl rfl rfl ?_
  refine k2 ?_
  refine c_region ?_; refine l_effv (f_alloc 2 rfl) rfl ?_; refine l_neu (n_assign rfl rfl) rfl ?_; refine l_nil ?_
  refine k1 ?_; refine k2 ?_; refine k2 ?_
  refine c_region ?_; refine l_neu (n_move rfl rfl) rfl ?_; refine l_neu (n_len_s rfl) rfl ?_; refine l_neu (n_gtr rfl rfl) rfl ?_; refine l_nil ?_
  refine k1 ?_
  refine c_cond rfl (fun ht => ?_) (fun ht => ?_)
  · exact absurd (of_decide_eq_true ht) (by omega)
  cases hl : linesS s with
  | none =>
    unfold linesR at hL
    rw [hl] at hL
    refine k5 ?_; refine k1 ?_; refine k2 ?_
    refine c_region ?_; refine l_neu (n_move rfl rfl) rfl ?_; refine l_call (hL) rfl rfl rfl ?_; rintro _ rfl; refine l_neu (n_move rfl rfl) rfl ?_; refine l_neu (n_extract rfl rfl) rfl ?_; refine l_neu (n_extract rfl rfl) rfl ?_; refine l_neu (n_assign rfl rfl) rfl ?_; refine l_neu (n_assign rfl rfl) rfl ?_; refine l_nil ?_
    refine k1 ?_; refine k2 ?_; refine k2 ?_
    refine c_region ?_; refine l_neu (n_move rfl rfl) rfl ?_; refine l_neu (n_not rfl) rfl ?_; refine l_nil ?_
    refine k1 ?_
    refine c_cond rfl (fun ht => ?_) (fun ht => ?_)
    · refine k2 ?_
      refine c_region ?_; refine l_neu (n_build rfl) rfl ?_; refine l_eff (e_store_ref TySz.out rfl rfl rfl rfl rfl rfl) ?_; refine l_neu (n_assign rfl rfl) rfl ?_; refine l_nil ?_
      refine k1 ?_
      refine c_sees (Sees.listB PatchHunk 3 phunkC 2 2 rfl rfl) ?_
      refine k10 ?_; refine k11 ?_
      exact ret_ret (rs := [pPatch patch0, pInt 4]) (retc2 rfl rfl rfl rfl rfl rfl rfl) (hfail rfl (by unfold strictBy; rw [if_neg h16, hl]))
    · cases ht
  | some l =>
    unfold linesR at hL
    rw [hl] at hL
    obtain ⟨z1, z2⟩ := linesS_sz hl
    have zl : 65 * l.length ≤ (l.map fun t => t.length + 65).sum := by
      clear z1 z2 hL hl
      induction l with
      | nil => simp
      | cons x r ih => simp only [List.map_cons, List.sum_cons, List.length_cons]; omega
    have hP := rread_ok l (by omega) (fun t ht => by have := z2 t ht; omega)
    cases hp : readR l with
    | none =>
      rw [hp] at hP
      refine k5 ?_; refine k1 ?_; refine k2 ?_
      refine c_region ?_; refine l_neu (n_move rfl rfl) rfl ?_; refine l_call (hL) rfl rfl rfl ?_; rintro _ rfl; refine l_neu (n_move rfl rfl) rfl ?_; refine l_neu (n_extract rfl rfl) rfl ?_; refine l_neu (n_extract rfl rfl) rfl ?_; refine l_neu (n_assign rfl rfl) rfl ?_; refine l_neu (n_assign rfl rfl) rfl ?_; refine l_nil ?_
      refine k1 ?_; refine k2 ?_; refine k2 ?_
      refine c_region ?_; refine l_neu (n_move rfl rfl) rfl ?_; refine l_neu (n_not rfl) rfl ?_; refine l_nil ?_
      refine k1 ?_
      refine c_cond rfl (fun ht => ?_) (fun ht => ?_)
      · cases ht
      refine k5 ?_; refine k1 ?_; refine k2 ?_
      refine c_region ?_; refine l_neu (n_move rfl rfl) rfl ?_; refine l_call (hP) rfl rfl rfl ?_; rintro _ ⟨p, ok, rfl, rfl⟩; refine l_neu (n_move rfl rfl) rfl ?_; refine l_neu (n_extract rfl rfl) rfl ?_; refine l_neu (n_extract rfl rfl) rfl ?_; refine l_effv (f_alloc 6 rfl) rfl ?_; refine l_eff (e_store_ref TySz.out rfl rfl rfl rfl rfl rfl) ?_; refine l_neu (n_assign rfl rfl) rfl ?_; refine l_nil ?_
      refine k1 ?_; refine k2 ?_; refine k2 ?_
      refine c_region ?_; refine l_neu (n_move rfl rfl) rfl ?_; refine l_neu (n_not rfl) rfl ?_; refine l_neu (n_move rfl rfl) rfl ?_; refine l_skip rfl rfl rfl (by decide) rfl ?_; refine l_skip rfl rfl rfl (by decide) rfl ?_; refine l_skip rfl rfl rfl (by decide) rfl ?_; refine l_neu (n_pick_t rfl (rfl) rfl) rfl ?_; refine l_neu (n_move rfl rfl) rfl ?_; refine l_skip rfl rfl rfl (by decide) rfl ?_; refine l_skip rfl rfl rfl (by decide) rfl ?_; refine l_skip rfl rfl rfl (by decide) rfl ?_; refine l_skip rfl rfl rfl (by decide) rfl ?_; refine l_neu (n_pick_t rfl (rfl) rfl) rfl ?_; refine l_nil ?_
      refine k1 ?_
      refine c_cond rfl (fun ht => ?_) (fun ht => ?_)
      · refine k2 ?_
        refine c_region ?_; refine l_neu (n_build rfl) rfl ?_; refine l_eff (e_store_ref TySz.out rfl rfl rfl rfl rfl rfl) ?_; refine l_neu (n_assign rfl rfl) rfl ?_; refine l_nil ?_
        refine k1 ?_
        refine c_sees (Sees.listB PatchHunk 3 phunkC 2 2 rfl rfl) ?_
        refine k10 ?_; refine k11 ?_
        exact ret_ret (rs := [pPatch patch0, pInt 4]) (retc2 rfl rfl rfl rfl rfl rfl rfl) (hfail rfl (by unfold strictBy; rw [if_neg h16, hl]; dsimp only; rw [hp]))
      · cases ht
    | some p =>
      rw [hp] at hP
      have hsz := readR_sz hp
      have hC := rcheck12_ok p (by omega)
      have hS : strictBy readR s = if check12 p ≠ 0 ∨ writeOf p ≠ s then (patch0, 4) else (p, 0) := by unfold strictBy; rw [if_neg h16, hl]; dsimp only; rw [hp]
      by_cases hc : check12 p = 0
      · have hnames : p.OldName.length ≤ 200 ∧ p.NewName.length ≤ 200 := by
          unfold check12 at hc
          split at hc
          · cases hc
          · rename_i h
            have h1 : nameOk p.OldName = true := by cases q : nameOk p.OldName <;> simp [q] at h ⊢
            have h2 : nameOk p.NewName = true := by cases q : nameOk p.NewName <;> simp [q] at h ⊢
            exact ⟨(of_decide_eq_true h1).2, (of_decide_eq_true h2).2⟩
        have hW := rwrite_ok p ⟨by omega, by omega, by omega⟩ (fun h hm => by have := goodOf_range (Go.AL.check12_good hc) h hm; omega)
        have hne : ¬ check12 p ≠ 0 := fun h => h hc
        rw [hc] at hC
        obtain ⟨w, hw⟩ : ∃ w, w = writeOf p := ⟨_, rfl⟩
        rw [← hw] at hW hS
        refine k5 ?_; refine k1 ?_; refine k2 ?_
        refine c_region ?_; refine l_neu (n_move rfl rfl) rfl ?_; refine l_call (hL) rfl rfl rfl ?_; rintro _ rfl; refine l_neu (n_move rfl rfl) rfl ?_; refine l_neu (n_extract rfl rfl) rfl ?_; refine l_neu (n_extract rfl rfl) rfl ?_; refine l_neu (n_assign rfl rfl) rfl ?_; refine l_neu (n_assign rfl rfl) rfl ?_; refine l_nil ?_
        refine k1 ?_; refine k2 ?_; refine k2 ?_
        refine c_region ?_; refine l_neu (n_move rfl rfl) rfl ?_; refine l_neu (n_not rfl) rfl ?_; refine l_nil ?_
        refine k1 ?_
        refine c_cond rfl (fun ht => ?_) (fun ht => ?_)
        · cases ht
        refine k5 ?_; refine k1 ?_; refine k2 ?_
        refine c_region ?_; refine l_neu (n_move rfl rfl) rfl ?_; refine l_call (hP) rfl rfl rfl ?_; rintro _ ⟨p', ok, rfl, rfl, rfl⟩; refine l_neu (n_move rfl rfl) rfl ?_; refine l_neu (n_extract rfl rfl) rfl ?_; refine l_neu (n_extract rfl rfl) rfl ?_; refine l_effv (f_alloc 6 rfl) rfl ?_; refine l_eff (e_store_ref TySz.out rfl rfl rfl rfl rfl rfl) ?_; refine l_neu (n_assign rfl rfl) rfl ?_; refine l_nil ?_
        refine k1 ?_; refine k2 ?_; refine k2 ?_
        refine c_region ?_; refine l_neu (n_move rfl rfl) rfl ?_; refine l_neu (n_not rfl) rfl ?_; refine l_neu (n_move rfl rfl) rfl ?_; refine l_run rfl rfl rfl rfl ?_; refine l_neu (n_loads_ref rfl rfl rfl) rfl ?_; refine l_run rfl rfl rfl rfl ?_; refine l_call (hC) rfl rfl rfl ?_; rintro _ rfl; refine l_run rfl rfl rfl rfl ?_; refine l_neu (n_neq rfl rfl) rfl ?_; refine l_neu (n_pick_f rfl (rfl) rfl) rfl ?_; refine l_neu (n_move rfl rfl) rfl ?_; refine l_run rfl rfl rfl rfl ?_; refine l_neu (n_loads_ref rfl rfl rfl) rfl ?_; refine l_run rfl rfl rfl rfl ?_; refine l_call (hW) rfl rfl rfl ?_; rintro _ rfl; refine l_run rfl rfl rfl rfl ?_; refine l_neu (n_move rfl rfl) rfl ?_; refine l_run rfl rfl rfl rfl ?_; refine l_neu (n_neq_s rfl rfl) rfl ?_; refine l_neu (n_pick_f rfl (rfl) rfl) rfl ?_; refine l_nil ?_
        refine k1 ?_
        by_cases hb : w = s
        · rw [if_neg (by simp [hc, hb])] at hS
          refine c_cond rfl (fun ht => ?_) (fun ht => ?_)
          · exact absurd hb (of_decide_eq_true ht)
          refine k5 ?_; refine k1 ?_; refine k2 ?_
          refine c_region ?_; refine l_neu (n_loads_ref rfl rfl rfl) rfl ?_; refine l_eff (e_store_ref TySz.out rfl rfl rfl rfl rfl rfl) ?_; refine l_neu (n_assign rfl rfl) rfl ?_; refine l_nil ?_
          refine k1 ?_; refine k10 ?_
          exact ret_ret (rs := [pPatch p', pInt 0]) (retc2 rfl rfl rfl rfl rfl rfl rfl) (by unfold strictR; rw [hS])
        · rw [if_pos (.inr hb)] at hS
          refine c_cond rfl (fun ht => ?_) (fun ht => ?_)
          rotate_left
          · exact absurd (Decidable.not_not.1 (of_decide_eq_false ht)) hb
          refine k2 ?_
          refine c_region ?_; refine l_neu (n_build rfl) rfl ?_; refine l_eff (e_store_ref TySz.out rfl rfl rfl rfl rfl rfl) ?_; refine l_neu (n_assign rfl rfl) rfl ?_; refine l_nil ?_
          refine k1 ?_
          refine c_sees (Sees.listB PatchHunk 3 phunkC 2 2 rfl rfl) ?_
          refine k10 ?_; refine k11 ?_
          exact ret_ret (rs := [pPatch patch0, pInt 4]) (retc2 rfl rfl rfl rfl rfl rfl rfl) (hfail hS rfl)
      · rw [if_pos (.inl hc)] at hS
        refine k5 ?_; refine k1 ?_; refine k2 ?_
        refine c_region ?_; refine l_neu (n_move rfl rfl) rfl ?_; refine l_call (hL) rfl rfl rfl ?_; rintro _ rfl; refine l_neu (n_move rfl rfl) rfl ?_; refine l_neu (n_extract rfl rfl) rfl ?_; refine l_neu (n_extract rfl rfl) rfl ?_; refine l_neu (n_assign rfl rfl) rfl ?_; refine l_neu (n_assign rfl rfl) rfl ?_; refine l_nil ?_
        refine k1 ?_; refine k2 ?_; refine k2 ?_
        refine c_region ?_; refine l_neu (n_move rfl rfl) rfl ?_; refine l_neu (n_not rfl) rfl ?_; refine l_nil ?_
        refine k1 ?_
        refine c_cond rfl (fun ht => ?_) (fun ht => ?_)
        · cases ht
        refine k5 ?_; refine k1 ?_; refine k2 ?_
        refine c_region ?_; refine l_neu (n_move rfl rfl) rfl ?_; refine l_call (hP) rfl rfl rfl ?_; rintro _ ⟨p', ok, rfl, rfl, rfl⟩; refine l_neu (n_move rfl rfl) rfl ?_; refine l_neu (n_extract rfl rfl) rfl ?_; refine l_neu (n_extract rfl rfl) rfl ?_; refine l_effv (f_alloc 6 rfl) rfl ?_; refine l_eff (e_store_ref TySz.out rfl rfl rfl rfl rfl rfl) ?_; refine l_neu (n_assign rfl rfl) rfl ?_; refine l_nil ?_
        refine k1 ?_; refine k2 ?_; refine k2 ?_
        refine c_region ?_; refine l_neu (n_move rfl rfl) rfl ?_; refine l_neu (n_not rfl) rfl ?_; refine l_neu (n_move rfl rfl) rfl ?_; refine l_run rfl rfl rfl rfl ?_; refine l_neu (n_loads_ref rfl rfl rfl) rfl ?_; refine l_run rfl rfl rfl rfl ?_; refine l_call (hC) rfl rfl rfl ?_; rintro _ rfl; refine l_run rfl rfl rfl rfl ?_; refine l_neu (n_neq rfl rfl) rfl ?_; refine l_neu (n_pick_f rfl (rfl) rfl) rfl ?_; refine l_neu (n_move rfl rfl) rfl ?_; refine l_skip rfl rfl rfl (by simp [hc]) rfl ?_; refine l_skip rfl rfl rfl (by simp [hc]) rfl ?_; refine l_skip rfl rfl rfl (by simp [hc]) rfl ?_; refine l_skip rfl rfl rfl (by simp [hc]) rfl ?_; refine l_neu (n_pick_t rfl ((by simp [hc])) rfl) rfl ?_; refine l_nil ?_
        refine k1 ?_
        refine c_cond rfl (fun ht => ?_) (fun ht => ?_)
        rotate_left
        · cases ht
        refine k2 ?_
        refine c_region ?_; refine l_neu (n_build rfl) rfl ?_; refine l_eff (e_store_ref TySz.out rfl rfl rfl rfl rfl rfl) ?_; refine l_neu (n_assign rfl rfl) rfl ?_; refine l_nil ?_
        refine k1 ?_
        refine c_sees (Sees.listB PatchHunk 3 phunkC 2 2 rfl rfl) ?_
        refine k10 ?_; refine k11 ?_
        exact ret_ret (rs := [pPatch patch0, pInt 4]) (retc2 rfl rfl rfl rfl rfl rfl rfl) (hfail hS rfl)
end Go.Proofs.YtjjidificdmnmaaGreatDoor
namespace Go.Proofs.YtjjidificdmnmaaGreatDoor
open Go Go.AL
set_option maxRecDepth 100000
theorem take_step {a b : List Str} {k : Nat} (ha : k < a.length) (hb : k < b.length) (h : a.take k = b.take k) (hk : a[k] = b[k]) : a.take (k + 1) = b.take (k + 1) := by
  rw [List.take_succ_eq_append_getElem ha, List.take_succ_eq_append_getElem hb, h, hk]
theorem gstrings_ok (a b : List Str) (ha : a.length ≤ 1073741824) : FnOk Tryz.prog 35 [pStrs a, pStrs b] (fun rs => rs = [pBool (decide (a = b))]) := by
  refine FnOk.intro Tryz.func35 (by decide) rfl rfl rfl rfl ?_
  refine k2 ?_
  refine c_region ?_; refine l_neu (n_assign rfl rfl) rfl ?_; refine l_nil ?_
  refine k1 ?_; refine k2 ?_; refine k2 ?_
  refine c_region ?_; refine l_neu (n_move rfl rfl) rfl ?_; refine l_neu (n_len rfl (.pure _ _ _ _)) rfl ?_; refine l_neu (n_move rfl rfl) rfl ?_; refine l_neu (n_len rfl (.pure _ _ _ _)) rfl ?_; refine l_neu (n_neq rfl rfl) rfl ?_; refine l_nil ?_
  refine k1 ?_
  refine c_cond rfl (fun ht => ?_) (fun ht => ?_)
  · have h1 : a ≠ b := fun h => by subst h; exact absurd (of_decide_eq_true ht) (by simp)
    refine k2 ?_
    refine c_region ?_; refine l_neu (n_assign rfl rfl) rfl ?_; refine l_nil ?_
    refine k1 ?_; refine k10 ?_; refine k11 ?_
    exact ret_ret (ret1 rfl rfl rfl) (by rw [decide_eq_false h1])
  have hl : a.length = b.length := by have := of_decide_eq_false ht; omega
  refine k5 ?_; refine k1 ?_; refine k2 ?_; refine k2 ?_
  refine c_region ?_; refine l_neu (n_assign rfl rfl) rfl ?_; refine l_nil ?_
  refine k1 ?_; refine k3 ?_
  refine c_while (X := Nat) (fun k => ([(0, sList Str 1 strC a), (1, sList Str 1 strC b), (5, sInt k)], [])) (fun k => k ≤ a.length ∧ a.take k = b.take k) (fun k => a.length - k) 0 ⟨Nat.zero_le _, rfl⟩ (Sees.of ⟨le1 rfl, le1 rfl, le1 rfl, trivial⟩ trivial) ?_
  rintro k ⟨hk, he⟩
  dsimp only at hk he ⊢
  refine k2 ?_; refine k2 ?_
  refine c_region ?_; refine l_neu (n_move rfl rfl) rfl ?_; refine l_neu (n_move rfl rfl) rfl ?_; refine l_neu (n_len rfl (.pure _ _ _ _)) rfl ?_; refine l_neu (n_lss rfl rfl) rfl ?_; refine l_nil ?_
  refine k1 ?_
  refine c_cond rfl (fun ht => ?_) (fun ht => ?_)
  · have hlt : k < a.length := by have := of_decide_eq_true ht; omega
    have hlt' : k < b.length := by omega
    have hnext := fun q => take_step hlt hlt' he q
    have hno : a[k] ≠ b[k] → a ≠ b := fun q h => by subst h; exact q rfl
    obtain ⟨u, hu⟩ : ∃ u, u = a[k] := ⟨_, rfl⟩
    obtain ⟨v, hv⟩ : ∃ v, v = b[k] := ⟨_, rfl⟩
    have hau : a[k]? = some u := by rw [hu]; simp [hlt]
    have hbv : b[k]? = some v := by rw [hv]; simp [hlt']
    rw [← hu, ← hv] at hnext hno
    refine k5 ?_; refine k1 ?_; refine k2 ?_; refine k3 ?_; refine k2 ?_
    refine c_region_draw (by kernel_rfl) (by kernel_rfl) ?_; refine d_neu (n_move rfl rfl) rfl rfl ?_; refine d_neu (n_move rfl rfl) rfl rfl ?_; refine d_neu (n_indexAddr rfl (.pure _ _ _ _) rfl (by omega) hau) rfl rfl ?_; refine d_neu (n_load_eref rfl rfl) rfl rfl ?_; refine d_neu (n_move rfl rfl) rfl rfl ?_; refine d_neu (n_move rfl rfl) rfl rfl ?_; refine d_neu (n_indexAddr rfl (.pure _ _ _ _) rfl (by omega) hbv) rfl rfl ?_; refine d_neu (n_load_eref rfl rfl) rfl rfl ?_; refine d_neu (n_neq_s rfl rfl) rfl rfl ?_; refine d_nil ?_
    refine k1 ?_
    refine c_cond rfl (fun ht => ?_) (fun ht => ?_)
    · have h1 : u ≠ v := by simpa using ht
      refine k2 ?_
      refine c_region ?_; refine l_neu (n_assign rfl rfl) rfl ?_; refine l_nil ?_
      refine k1 ?_; refine k10 ?_; refine k12 ?_; refine k11 ?_; refine k11 ?_; refine k12 ?_; refine k11 ?_
      exact ret_ret (ret1 rfl rfl rfl) (by rw [decide_eq_false (hno h1)])
    · have h1 : u = v := by simpa using ht
      refine k5 ?_; refine k4 ?_; refine k1 ?_
      refine c_region ?_; refine l_neu (n_move rfl rfl) rfl ?_; refine l_neu (n_add rfl rfl (by omega)) rfl ?_; refine l_neu (n_assign rfl rfl) rfl ?_; refine l_nil ?_
      refine k1 ?_
      exact ⟨k + 1, ⟨hlt, hnext h1⟩, by omega, Sees.of ⟨le1 rfl, le1 rfl, le1 rfl, trivial⟩ trivial⟩
  · have h1 : a = b := take_all_eq hl (by have := of_decide_eq_false ht; omega) he
    refine k6 ?_; refine k2 ?_
    refine c_region ?_; refine l_neu (n_assign rfl rfl) rfl ?_; refine l_nil ?_
    refine k1 ?_; refine k10 ?_
    exact ret_ret (ret1 rfl rfl rfl) (by rw [decide_eq_true h1])
set_option maxHeartbeats 1000000
end Go.Proofs.YtjjidificdmnmaaGreatDoor
namespace Go.Proofs.YtjjidificdmnmaaGreatDoor
open Go Go.AL
set_option maxRecDepth 100000
theorem strictBy_sz (s : Str) : szP (strictBy parseP s).1.Hunks ≤ 66 * s.length := by
  have h0 : szP patch0.Hunks ≤ 66 * s.length := Nat.zero_le _
  unfold strictBy
  split
  · exact h0
  · split
    · exact h0
    · rename_i l hl
      split
      · exact h0
      · rename_i p hp
        split
        · exact h0
        · have := parseP_sz hp
          have := (linesS_sz hl).1
          dsimp only; omega
theorem linesR_is (s : Str) : ∃ (l : List Str) (b : Bool), linesR s = [pStrs l, pBool b] ∧ l.length ≤ 66 * s.length := by
  unfold linesR
  cases h : linesS s with
  | none => exact ⟨[], false, rfl, Nat.zero_le _⟩
  | some l =>
    refine ⟨l, true, rfl, ?_⟩
    have := (linesS_sz h).1
    have zl : ∀ L : List Str, 65 * L.length ≤ (L.map fun t => t.length + 65).sum := by
      intro L
      induction L with
      | nil => simp
      | cons x r ih => simp only [List.map_cons, List.sum_cons, List.length_cons]; omega
    have := zl l
    omega
set_option maxHeartbeats 1000000
theorem lawStrictAny_ok (s : Str) : FnOk Tryz.prog 7 [pStr s] (fun rs => rs = [pBool true]) := by
  by_cases hl : 120 < s.length
  · refine FnOk.intro Tryz.func7 (by decide) rfl rfl rfl rfl ?_
    refine k2 ?_
    refine c_region ?_; refine l_neu (n_assign rfl rfl) rfl ?_; refine l_nil ?_
    refine k1 ?_; refine k2 ?_; refine k2 ?_
    refine c_region ?_; refine l_neu (n_move rfl rfl) rfl ?_; refine l_neu (n_len_s rfl) rfl ?_; refine l_neu (n_gtr rfl rfl) rfl ?_; refine l_nil ?_
    refine k1 ?_
    refine c_cond rfl (fun ht => ?_) (fun ht => ?_)
    · refine k2 ?_
      refine c_region ?_; refine l_call (awake13_ok) rfl rfl rfl ?_; rintro _ rfl; refine l_neu (n_assign rfl rfl) rfl ?_; refine l_nil ?_
      refine k1 ?_; refine k10 ?_; refine k11 ?_
      exact ret_ret (ret1 rfl rfl rfl) rfl
    · exact absurd (of_decide_eq_false ht) (by omega)
  obtain ⟨t, ht0⟩ : ∃ t : Str, t = [45, 45, 45, 32, 97, 10, 43, 43, 43, 32, 98, 10, 64, 64, 32, 45, 49, 32, 43, 49, 32, 64, 64, 10] ++ s := ⟨_, rfl⟩
  have htl : t.length = s.length + 24 := by rw [ht0]; simp
  have h1 := stParse_ok s (by omega)
  have h2 := rParse_ok s (by omega)
  have h3 := stParse_ok t (by omega)
  have h4 := rParse_ok t (by omega)
  have h5 := stLines_ok s (by omega)
  have h6 := r13Lines_ok s (by omega)
  have z1 := strictBy_sz s
  have z2 := strictBy_sz t
  obtain ⟨l, b, hlr, hll⟩ := linesR_is s
  rw [hlr] at h5 h6
  unfold strictR at h1 h2 h3 h4
  obtain ⟨x, hx⟩ : ∃ x, x = strictBy parseP s := ⟨_, rfl⟩
  obtain ⟨y, hy⟩ : ∃ y, y = strictBy parseP t := ⟨_, rfl⟩
  rw [← hx] at h1 h2 z1
  rw [← hy] at h3 h4 z2
  have hG1 := gpatch_ok x.1 x.1 (by omega)
  have hG2 := gpatch_ok y.1 y.1 (by omega)
  have hG3 := gstrings_ok l l (by omega)
  refine FnOk.intro Tryz.func7 (by decide) rfl rfl rfl rfl ?_
  refine k2 ?_
  refine c_region ?_; refine l_neu (n_assign rfl rfl) rfl ?_; refine l_nil ?_
  refine k1 ?_; refine k2 ?_; refine k2 ?_
  refine c_region ?_; refine l_neu (n_move rfl rfl) rfl ?_; refine l_neu (n_len_s rfl) rfl ?_; refine l_neu (n_gtr rfl rfl) rfl ?_; refine l_nil ?_
  refine k1 ?_
  refine c_cond rfl (fun ht => ?_) (fun ht => ?_)
  · exact absurd (of_decide_eq_true ht) (by omega)
  refine k5 ?_; refine k1 ?_; refine k2 ?_
  refine c_region ?_; refine l_neu (n_move rfl rfl) rfl ?_; refine l_call (h1) rfl rfl rfl ?_; rintro _ rfl; refine l_neu (n_move rfl rfl) rfl ?_; refine l_neu (n_extract rfl rfl) rfl ?_; refine l_neu (n_extract rfl rfl) rfl ?_; refine l_effv (f_alloc 3 rfl) rfl ?_; refine l_eff (e_store_ref TySz.out rfl rfl rfl rfl rfl rfl) ?_; refine l_neu (n_assign rfl rfl) rfl ?_; refine l_nil ?_
  refine k1 ?_; refine k2 ?_
  refine c_region ?_; refine l_neu (n_move rfl rfl) rfl ?_; refine l_call (h2) rfl rfl rfl ?_; rintro _ rfl; refine l_neu (n_move rfl rfl) rfl ?_; refine l_neu (n_extract rfl rfl) rfl ?_; refine l_neu (n_extract rfl rfl) rfl ?_; refine l_effv (f_alloc 5 rfl) rfl ?_; refine l_eff (e_store_ref TySz.out rfl rfl rfl rfl rfl rfl) ?_; refine l_neu (n_assign rfl rfl) rfl ?_; refine l_nil ?_
  refine k1 ?_; refine k2 ?_
  refine c_region ?_; refine l_neu (n_move rfl rfl) rfl ?_; refine l_neu (n_add_s rfl rfl (by simp; omega)) rfl ?_; refine l_neu (n_assign rfl rfl) rfl ?_; refine l_nil ?_
  rw [← ht0]
  refine k1 ?_; refine k2 ?_
  refine c_region ?_; refine l_neu (n_move rfl rfl) rfl ?_; refine l_call (h3) rfl rfl rfl ?_; rintro _ rfl; refine l_neu (n_move rfl rfl) rfl ?_; refine l_neu (n_extract rfl rfl) rfl ?_; refine l_neu (n_extract rfl rfl) rfl ?_; refine l_effv (f_alloc 8 rfl) rfl ?_; refine l_eff (e_store_ref TySz.out rfl rfl rfl rfl rfl rfl) ?_; refine l_neu (n_assign rfl rfl) rfl ?_; refine l_nil ?_
  refine k1 ?_; refine k2 ?_
  refine c_region ?_; refine l_neu (n_move rfl rfl) rfl ?_; refine l_call (h4) rfl rfl rfl ?_; rintro _ rfl; refine l_neu (n_move rfl rfl) rfl ?_; refine l_neu (n_extract rfl rfl) rfl ?_; refine l_neu (n_extract rfl rfl) rfl ?_; refine l_effv (f_alloc 10 rfl) rfl ?_; refine l_eff (e_store_ref TySz.out rfl rfl rfl rfl rfl rfl) ?_; refine l_neu (n_assign rfl rfl) rfl ?_; refine l_nil ?_
  refine k1 ?_; refine k2 ?_
  refine c_region ?_; refine l_neu (n_move rfl rfl) rfl ?_; refine l_call (h5) rfl rfl rfl ?_; rintro _ rfl; refine l_neu (n_move rfl rfl) rfl ?_; refine l_neu (n_extract rfl rfl) rfl ?_; refine l_neu (n_extract rfl rfl) rfl ?_; refine l_neu (n_assign rfl rfl) rfl ?_; refine l_neu (n_assign rfl rfl) rfl ?_; refine l_nil ?_
  refine k1 ?_; refine k2 ?_
  refine c_region ?_; refine l_neu (n_move rfl rfl) rfl ?_; refine l_call (h6) rfl rfl rfl ?_; rintro _ rfl; refine l_neu (n_move rfl rfl) rfl ?_; refine l_neu (n_extract rfl rfl) rfl ?_; refine l_neu (n_extract rfl rfl) rfl ?_; refine l_neu (n_assign rfl rfl) rfl ?_; refine l_neu (n_assign rfl rfl) rfl ?_; refine l_nil ?_
  refine k1 ?_; refine k2 ?_
  refine c_region ?_; refine l_neu (n_loads_ref rfl rfl rfl) rfl ?_; refine l_neu (n_loads_ref rfl rfl rfl) rfl ?_; refine l_call (hG1) rfl rfl rfl ?_; rintro _ rfl; refine l_neu (n_move rfl rfl) rfl ?_; refine l_guard rfl rfl rfl rfl (fun hg => by rw [hg]; exact n_move rfl rfl) ?_; refine l_guard rfl rfl rfl rfl (fun hg => by rw [hg]; exact n_move rfl rfl) ?_; refine l_guard rfl rfl rfl rfl (fun hg => by rw [hg]; exact n_eql rfl rfl) ?_; refine l_neu (n_pick_bool rfl (fun h => by first | rfl | (rw [h]; rfl)) (fun h => by first | rfl | (rw [h]; rfl))) rfl ?_; refine l_neu (n_move rfl rfl) rfl ?_; refine l_guard rfl rfl rfl rfl (fun hg => by rw [hg]; exact n_loads_ref rfl rfl rfl) ?_; refine l_guard rfl rfl rfl rfl (fun hg => by rw [hg]; exact n_loads_ref rfl rfl rfl) ?_; refine l_guard rfl rfl rfl rfl (fun hg => by have hq := hg; (try simp at hq); rw [hg]; exact n_call1 (hG2) rfl rfl) ?_; refine l_neu (n_pick_bool rfl (fun h => by first | rfl | (rw [h]; rfl)) (fun h => by first | rfl | (rw [h]; rfl))) rfl ?_; refine l_neu (n_move rfl rfl) rfl ?_; refine l_guard rfl rfl rfl rfl (fun hg => by rw [hg]; exact n_move rfl rfl) ?_; refine l_guard rfl rfl rfl rfl (fun hg => by rw [hg]; exact n_move rfl rfl) ?_; refine l_guard rfl rfl rfl rfl (fun hg => by rw [hg]; exact n_eql rfl rfl) ?_; refine l_neu (n_pick_bool rfl (fun h => by first | rfl | (rw [h]; rfl)) (fun h => by first | rfl | (rw [h]; rfl))) rfl ?_; refine l_neu (n_move rfl rfl) rfl ?_; refine l_guard rfl rfl rfl rfl (fun hg => by rw [hg]; exact n_move rfl rfl) ?_; refine l_guard rfl rfl rfl rfl (fun hg => by rw [hg]; exact n_move rfl rfl) ?_; refine l_guard rfl rfl rfl rfl (fun hg => by have hq := hg; (try simp at hq); rw [hg]; exact n_call1 (hG3) rfl rfl) ?_; refine l_neu (n_pick_bool rfl (fun h => by first | rfl | (rw [h]; rfl)) (fun h => by first | rfl | (rw [h]; rfl))) rfl ?_; refine l_neu (n_move rfl rfl) rfl ?_; refine l_guard rfl rfl rfl rfl (fun hg => by rw [hg]; exact n_move rfl rfl) ?_; refine l_guard rfl rfl rfl rfl (fun hg => by rw [hg]; exact n_move rfl rfl) ?_; refine l_guard rfl rfl rfl rfl (fun hg => by rw [hg]; exact n_eql_b rfl rfl TyBool.out) ?_; refine l_neu (n_pick_bool rfl (fun h => by first | rfl | (rw [h]; rfl)) (fun h => by first | rfl | (rw [h]; rfl))) rfl ?_; refine l_neu (n_move rfl rfl) rfl ?_; refine l_guard rfl rfl rfl rfl (fun hg => by have hq := hg; (try simp at hq); rw [hg]; exact n_call1 (awake13_ok) rfl rfl) ?_; refine l_neu (n_pick_bool rfl (fun h => by first | rfl | (rw [h]; rfl)) (fun h => by first | rfl | (rw [h]; rfl))) rfl ?_; refine l_neu (n_assign rfl rfl) rfl ?_; refine l_nil ?_
  refine k1 ?_; refine k10 ?_
  exact ret_ret (ret1 rfl rfl rfl) (by simp)
end Go.Proofs.YtjjidificdmnmaaGreatDoor
