/- Walks of the program's functions. -/
import Derived.Test.YtgejaedjnbjpoaaDoorFa
import Derived.Test.YtgejaedjnbjpoaaDoorFs
namespace Go.Proofs.YtgejaedjnbjpoaaDoor
open Go Go.AL
set_option maxRecDepth 100000
abbrev cBox (c : Comb) : Ob := .box (pComb c).s1.cells
theorem ccounts_new (rows : List Row) (n : Nat) (hn : n ≤ 32) (hr : rowsIn rows) (hl : rows.length ≤ 268435456) :
    AL.Met Tryd.prog 40 [(pRows rows).s1, (pInt n).s1] [] [] [] (fun rs ob' => rs = [.one (.mut 720)] ∧ ob' = [(720, .arr Int 1 intC (countsC rows n))]) := by
  have e0 : ((n : Int) + 1).toNat = n + 1 := by omega
  refine AL.Met.intro Tryd.func40 (by decide) rfl rfl rfl ?_
  refine k2 ?_
  refine c_region ?_; refine l_neu (n_assign rfl rfl) rfl ?_; refine l_nil ?_
  refine k1 ?_; refine k2 ?_
  refine c_region ?_; refine l_neu (n_move rfl rfl) rfl ?_; refine l_neu (n_add rfl rfl (by omega)) rfl ?_; refine l_effv (f_makeZ 720 Int intC 0 rfl rfl (by omega) (by omega) (fun _ => by first | exact ⟨⟨rfl, rfl⟩, trivial⟩ | exact ⟨rep_nil _ _ _, trivial⟩) (by first | rfl | (simp [frFree, obFree, Ob.free, SV.free, S1.free, TC.free] <;> rfl))) rfl ?_; refine l_neu (n_assign rfl rfl) rfl ?_; refine l_nil ?_
  rw [e0, ← cntAt_zero rows n]
  refine k1 ?_; refine k2 ?_; refine k2 ?_
  refine c_region ?_; refine l_neu (n_move rfl rfl) rfl ?_; refine l_neu (n_len rfl (.pure _ _ _ _)) rfl ?_; refine l_neu (n_move rfl rfl) rfl ?_; refine l_nil ?_
  refine k1 ?_; refine k3 ?_
  refine c_while (X := Nat) (fun i => ([(1, sInt n), (5, .s (.one (.mut 720))), (12, sList Row 3 rowC rows), (13, sInt rows.length), (14, sInt i)], [(720, .arr Int 1 intC (cntAt rows n i 0))])) (fun i => i ≤ rows.length) (fun i => rows.length - i) 0 (Nat.zero_le _) (Sees.of ⟨le1 rfl, le1 rfl, le1 rfl, le1 rfl, le1 rfl, trivial⟩ ⟨rfl, trivial⟩) ?_
  intro i hi
  dsimp only at hi ⊢
  refine k2 ?_
  refine c_region ?_; refine l_neu (n_lss rfl rfl) rfl ?_; refine l_nil ?_
  refine k1 ?_; refine k2 ?_
  refine c_cond rfl (fun ht => ?_) (fun ht => ?_)
  · have hlt : i < rows.length := by have := of_decide_eq_true ht; omega
    have hv : rows[i]? = some rows[i] := by simp [hlt]
    have hrow := hr _ (List.getElem_mem hlt)
    have hstep := fun p => cntAt_step rows n i p hlt
    obtain ⟨r, hrr⟩ : ∃ r, r = rows[i] := ⟨_, rfl⟩
    rw [← hrr] at hv hrow hstep
    have hcl := fun k => cnt_le (rows.take i) n k
    have htl : (rows.take i).length = i := by rw [List.length_take]; omega
    rw [htl] at hcl
    refine k5 ?_; refine k1 ?_; refine k2 ?_; refine k3 ?_; refine k2 ?_
    refine c_region ?_; refine l_neu (n_indexAddr rfl (.pure _ _ _ _) rfl (by omega) hv) rfl ?_; refine l_neu (n_loads_eref rfl rfl) rfl ?_; refine l_effv (f_alloc 7 rfl) rfl ?_; refine l_eff (e_store_ref TySz.out rfl rfl rfl rfl rfl rfl) ?_; refine l_nil ?_
    refine k1 ?_; refine k2 ?_; refine k2 ?_
    refine c_region ?_; refine l_neu (n_move rfl rfl) rfl ?_; refine l_neu (n_move rfl rfl) rfl ?_; refine l_nil ?_
    refine k1 ?_; refine k3 ?_
    refine c_while (X := Nat) (fun p => ([(1, sInt n), (5, .s (.one (.mut 720))), (7, .s (.one (.ref 7 0))), (12, sList Row 3 rowC rows), (13, sInt rows.length), (14, sInt i), (18, sInt n), (19, sInt p)], [(7, .box (pRow r).s1.cells), (720, .arr Int 1 intC (cntAt rows n i p))])) (fun p => p ≤ n) (fun p => n - p) 0 (Nat.zero_le _) (Sees.of ⟨le1 rfl, le1 rfl, le1 rfl, le1 rfl, le1 rfl, le1 rfl, le1 rfl, le1 rfl, trivial⟩ ⟨rfl, rfl, trivial⟩) ?_
    intro p hp
    dsimp only at hp ⊢
    have hlen := cntAt_len rows n i p
    have hget := cntAt_get rows n i p (by omega)
    have hcp := hcl p
    refine k2 ?_
    refine c_region ?_; refine l_neu (n_lss rfl rfl) rfl ?_; refine l_nil ?_
    refine k1 ?_; refine k2 ?_
    refine c_cond rfl (fun ht => ?_) (fun ht => ?_)
    · have hlt2 : p < n := by have := of_decide_eq_true ht; omega
      have hst := hstep p (by omega)
      rw [show colNum n p = (p : Int) by unfold colNum; rw [if_neg (by omega)]] at hst
      refine k5 ?_; refine k1 ?_; refine k2 ?_; refine k3 ?_; refine k2 ?_
      refine c_region ?_; refine l_neu (n_move rfl rfl) rfl ?_; refine l_neu (n_assign rfl rfl) rfl ?_; refine l_nil ?_
      refine k1 ?_; refine k2 ?_
      refine c_region ?_; refine l_neu (n_loads_ref rfl rfl rfl) rfl ?_; refine l_neu (n_move rfl rfl) rfl ?_; refine l_call (wvisible_ok r p hrow) rfl rfl rfl ?_; rintro _ rfl; refine l_nil ?_
      refine k1 ?_
      refine c_cond rfl (fun ht => ?_) (fun ht => ?_)
      · rw [if_pos ht] at hst
        skip
        refine c_region ?_; refine l_neu (n_move rfl rfl) rfl ?_; refine l_neu (n_move rfl rfl) rfl ?_; refine l_neu (n_indexAddr_mut rfl rfl rfl (by omega) (by (rw [hlen]; omega))) rfl ?_; refine l_neu (n_load_mref rfl rfl hget rfl) rfl ?_; refine l_neu (n_add rfl rfl (by omega)) rfl ?_; refine l_neu (n_indexAddr_mut rfl rfl rfl (by omega) (by (rw [hlen]; omega))) rfl ?_; refine l_eff (e_store_mref1 TySz.out rfl rfl (by (rw [hlen]; omega)) rfl rfl) ?_; refine l_nil ?_
        refine k4 ?_; refine k1 ?_
        refine c_region ?_; refine l_neu (n_add rfl rfl (by omega)) rfl ?_; refine l_neu (n_move rfl rfl) rfl ?_; refine l_nil ?_
        refine k1 ?_
        refine ⟨p + 1, by omega, by omega, ?_⟩
        rw [hst]
        exact Sees.of ⟨le1 rfl, le1 rfl, le1 rfl, le1 rfl, le1 rfl, le1 rfl, le1 rfl, le1 rfl, trivial⟩ ⟨rfl, rfl, trivial⟩
      · rw [if_neg (by rw [ht]; decide)] at hst
        refine k5 ?_; refine k4 ?_; refine k1 ?_
        refine c_region ?_; refine l_neu (n_add rfl rfl (by omega)) rfl ?_; refine l_neu (n_move rfl rfl) rfl ?_; refine l_nil ?_
        refine k1 ?_
        refine ⟨p + 1, by omega, by omega, ?_⟩
        rw [hst]
        exact Sees.of ⟨le1 rfl, le1 rfl, le1 rfl, le1 rfl, le1 rfl, le1 rfl, le1 rfl, le1 rfl, trivial⟩ ⟨rfl, rfl, trivial⟩
    · have hpn : p = n := by have := of_decide_eq_false ht; omega
      subst hpn
      have hst := hstep p (by omega)
      have hvis : visB r (colNum p p) = !r.Lost := by unfold colNum visB; rw [if_pos rfl, if_pos rfl]
      rw [hvis, cntAt_next] at hst
      refine k6 ?_; refine k2 ?_
      refine c_region ?_; refine l_neu (n_field_ref rfl) rfl ?_; refine l_neu (n_load_ref rfl rfl rfl) rfl ?_; refine l_neu (n_not rfl) rfl ?_; refine l_nil ?_
      refine k1 ?_
      refine c_cond rfl (fun ht => ?_) (fun ht => ?_)
      · rw [if_pos ht] at hst
        skip
        refine c_region ?_; refine l_neu (n_move rfl rfl) rfl ?_; refine l_neu (n_move rfl rfl) rfl ?_; refine l_neu (n_indexAddr_mut rfl rfl rfl (by omega) (by (rw [hlen]; omega))) rfl ?_; refine l_neu (n_load_mref rfl rfl hget rfl) rfl ?_; refine l_neu (n_add rfl rfl (by omega)) rfl ?_; refine l_neu (n_indexAddr_mut rfl rfl rfl (by omega) (by (rw [hlen]; omega))) rfl ?_; refine l_eff (e_store_mref1 TySz.out rfl rfl (by (rw [hlen]; omega)) rfl rfl) ?_; refine l_nil ?_
        refine k4 ?_; refine k1 ?_
        refine c_region ?_; refine l_neu (n_add rfl rfl (by omega)) rfl ?_; refine l_neu (n_move rfl rfl) rfl ?_; refine l_nil ?_
        refine k1 ?_
        refine ⟨i + 1, by omega, by omega, ?_⟩
        rw [hst]
        exact Sees.of ⟨le1 rfl, le1 rfl, le1 rfl, le1 rfl, le1 rfl, trivial⟩ ⟨rfl, trivial⟩
      · rw [if_neg (by rw [ht]; decide)] at hst
        refine k5 ?_; refine k4 ?_; refine k1 ?_
        refine c_region ?_; refine l_neu (n_add rfl rfl (by omega)) rfl ?_; refine l_neu (n_move rfl rfl) rfl ?_; refine l_nil ?_
        refine k1 ?_
        refine ⟨i + 1, by omega, by omega, ?_⟩
        rw [hst]
        exact Sees.of ⟨le1 rfl, le1 rfl, le1 rfl, le1 rfl, le1 rfl, trivial⟩ ⟨rfl, trivial⟩
  · have hil : i = rows.length := by have := of_decide_eq_false ht; omega
    subst hil
    rw [cntAt_full]
    refine k6 ?_; refine k2 ?_
    refine c_region ?_; refine l_neu (n_move rfl rfl) rfl ?_; refine l_neu (n_assign rfl rfl) rfl ?_; refine l_nil ?_
    refine k1 ?_; refine k10 ?_
    exact met_ret (rets1 rfl rfl) (by repeat (first | exact tail_refl | refine tail_cons rfl ?_ | refine tail_forget _ ?_)) (ObIn.spec (ob' := [(720, _)]) ⟨rfl, trivial⟩) ⟨rfl, rfl⟩
theorem cmarked_ok (c : Comb) (hn : 1 ≤ c.Parents ∧ c.Parents ≤ 32) (hr : ∀ h ∈ c.Hunks, rowsIn h.Rows) (hz : szC c.Hunks ≤ 268435456) : FnOk Tryd.prog 34 [pComb c] (fun rs => rs = [pBool (marksC c.Parents.toNat c.Hunks)]) := by
  obtain ⟨n, hN⟩ : ∃ n, n = c.Parents.toNat := ⟨_, rfl⟩
  rw [← hN]
  have hzl := szC_len c.Hunks
  refine FnOk.intro Tryd.func34 (by decide) rfl rfl rfl rfl ?_
  refine k2 ?_
  refine c_region ?_; refine l_effv (f_box 1 rfl rfl rfl) rfl ?_; refine l_neu (n_assign rfl rfl) rfl ?_; refine l_nil ?_
  refine k1 ?_; refine k2 ?_; refine k2 ?_
  refine c_region ?_; refine l_neu (n_field_ref rfl) rfl ?_; refine l_neu (n_load_ref rfl rfl rfl) rfl ?_; refine l_neu (n_len rfl (.pure _ _ _ _)) rfl ?_; refine l_neu (n_move rfl rfl) rfl ?_; refine l_nil ?_
  refine k1 ?_; refine k3 ?_
  refine c_while (X := Nat) (fun k => ([(1, .s (.one (.ref 1 0))), (8, sList CHunk 2 chunkC c.Hunks), (9, sInt c.Hunks.length), (10, sInt k)], [(1, cBox c)])) (fun k => k ≤ c.Hunks.length ∧ marksC n c.Hunks = marksC n (c.Hunks.drop k)) (fun k => c.Hunks.length - k) 0 ⟨Nat.zero_le _, rfl⟩ (Sees.of ⟨le1 rfl, le1 rfl, le1 rfl, le1 rfl, trivial⟩ ⟨rfl, trivial⟩) ?_
  rintro k ⟨hk, hp⟩
  dsimp only at hk hp ⊢
  refine k2 ?_
  refine c_region ?_; refine l_neu (n_lss rfl rfl) rfl ?_; refine l_nil ?_
  refine k1 ?_; refine k2 ?_
  refine c_cond rfl (fun ht => ?_) (fun ht => ?_)
  · have hlt : k < c.Hunks.length := by have := of_decide_eq_true ht; omega
    have hv : c.Hunks[k]? = some c.Hunks[k] := by simp [hlt]
    have hrw := hr _ (List.getElem_mem hlt)
    have hzm := szC_mem (List.getElem_mem hlt)
    rw [List.drop_eq_getElem_cons hlt] at hp
    obtain ⟨h, hx⟩ : ∃ x, x = c.Hunks[k] := ⟨_, rfl⟩
    rw [← hx] at hv hrw hp hzm
    have hz1 := szRow_len h.Rows
    unfold szCh at hzm
    have hp : marksC n c.Hunks = (marksOk h.Rows n && marksC n (c.Hunks.drop (k + 1))) := hp
    refine k5 ?_; refine k1 ?_; refine k2 ?_; refine k3 ?_; refine k2 ?_
    refine c_region ?_; refine l_neu (n_indexAddr rfl (.pure _ _ _ _) rfl (by omega) hv) rfl ?_; refine l_neu (n_loads_eref rfl rfl) rfl ?_; refine l_effv (f_alloc 4 rfl) rfl ?_; refine l_eff (e_store_ref TySz.out rfl rfl rfl rfl rfl rfl) ?_; refine l_nil ?_
    refine k1 ?_; refine k2 ?_
    refine c_region ?_; refine l_neu (n_field_ref rfl) rfl ?_; refine l_neu (n_load_ref rfl rfl rfl) rfl ?_; refine l_neu (n_len rfl (.pure _ _ _ _)) rfl ?_; refine l_neu (n_move rfl rfl) rfl ?_; refine l_nil ?_
    refine k1 ?_; refine k3 ?_
    refine c_while (X := Nat) (fun j => ([(1, .s (.one (.ref 1 0))), (8, sList CHunk 2 chunkC c.Hunks), (9, sInt c.Hunks.length), (10, sInt k), (15, sList Row 3 rowC h.Rows), (16, sInt h.Rows.length), (17, sInt j)], [(1, cBox c)])) (fun j => j ≤ h.Rows.length ∧ marksOk h.Rows n = marksOk (h.Rows.drop j) n) (fun j => h.Rows.length - j) 0 ⟨Nat.zero_le _, rfl⟩ (Sees.of ⟨le1 rfl, le1 rfl, le1 rfl, le1 rfl, le1 rfl, le1 rfl, le1 rfl, trivial⟩ ⟨rfl, trivial⟩) ?_
    rintro j ⟨hj, hq⟩
    dsimp only at hj hq ⊢
    refine k2 ?_
    refine c_region ?_; refine l_neu (n_lss rfl rfl) rfl ?_; refine l_nil ?_
    refine k1 ?_; refine k2 ?_
    refine c_cond rfl (fun ht => ?_) (fun ht => ?_)
    · have hlt2 : j < h.Rows.length := by have := of_decide_eq_true ht; omega
      have hv2 : h.Rows[j]? = some h.Rows[j] := by simp [hlt2]
      have hm := hrw _ (List.getElem_mem hlt2)
      rw [List.drop_eq_getElem_cons hlt2, marksOk_cons] at hq
      obtain ⟨r, hy⟩ : ∃ x, x = h.Rows[j] := ⟨_, rfl⟩
      rw [← hy] at hv2 hm hq
      have hw := wmarked_ok r c.Parents hn hm
      rw [← hN] at hw
      refine k5 ?_; refine k1 ?_; refine k2 ?_; refine k3 ?_; refine k2 ?_
      refine c_region ?_; refine l_neu (n_indexAddr rfl (.pure _ _ _ _) rfl (by omega) hv2) rfl ?_; refine l_neu (n_loads_eref rfl rfl) rfl ?_; refine l_effv (f_alloc 6 rfl) rfl ?_; refine l_eff (e_store_ref TySz.out rfl rfl rfl rfl rfl rfl) ?_; refine l_nil ?_
      refine k1 ?_; refine k2 ?_
      refine c_region ?_; refine l_neu (n_loads_ref rfl rfl rfl) rfl ?_; refine l_neu (n_field_ref rfl) rfl ?_; refine l_neu (n_load_ref rfl rfl rfl) rfl ?_; refine l_call (hw) rfl rfl rfl ?_; rintro _ rfl; refine l_neu (n_not rfl) rfl ?_; refine l_nil ?_
      refine k1 ?_
      refine c_cond rfl (fun ht => ?_) (fun ht => ?_)
      · have h2 : markOk n r = false := by simpa using ht
        rw [h2, Bool.false_and] at hq
        rw [hq, Bool.false_and] at hp
        refine k2 ?_
        refine c_region ?_; refine l_neu (n_assign rfl rfl) rfl ?_; refine l_nil ?_
        refine k1 ?_; refine k10 ?_; refine k12 ?_; refine k11 ?_; refine k11 ?_; refine k12 ?_; refine k12 ?_; refine k11 ?_; refine k11 ?_; refine k12 ?_; refine k11 ?_
        exact ret_ret (ret1 rfl rfl rfl) (by rw [hp])
      · have h2 : markOk n r = true := by simpa using ht
        rw [h2, Bool.true_and] at hq
        refine k5 ?_; refine k4 ?_; refine k1 ?_
        refine c_region ?_; refine l_neu (n_add rfl rfl (by omega)) rfl ?_; refine l_neu (n_move rfl rfl) rfl ?_; refine l_nil ?_
        refine k1 ?_
        exact ⟨j + 1, ⟨by omega, hq⟩, by omega, Sees.of ⟨le1 rfl, le1 rfl, le1 rfl, le1 rfl, le1 rfl, le1 rfl, le1 rfl, trivial⟩ ⟨rfl, trivial⟩⟩
    · have hjl : j = h.Rows.length := by have := of_decide_eq_false ht; omega
      rw [hjl, List.drop_eq_nil_of_le (Nat.le_refl _)] at hq
      have hq : marksOk h.Rows n = true := hq
      rw [hq, Bool.true_and] at hp
      refine k6 ?_; refine k7 ?_; refine k7 ?_; refine k8 rfl ?_; refine k4 ?_; refine k1 ?_
      refine c_region ?_; refine l_neu (n_add rfl rfl (by omega)) rfl ?_; refine l_neu (n_move rfl rfl) rfl ?_; refine l_nil ?_
      refine k1 ?_
      exact ⟨k + 1, ⟨by omega, hp⟩, by omega, Sees.of ⟨le1 rfl, le1 rfl, le1 rfl, le1 rfl, trivial⟩ ⟨rfl, trivial⟩⟩
  · have hkl : k = c.Hunks.length := by have := of_decide_eq_false ht; omega
    rw [hkl, List.drop_eq_nil_of_le (Nat.le_refl _)] at hp
    refine k6 ?_; refine k2 ?_
    refine c_region ?_; refine l_neu (n_assign rfl rfl) rfl ?_; refine l_nil ?_
    refine k1 ?_; refine k10 ?_
    exact ret_ret (ret1 rfl rfl rfl) (by rw [hp]; rfl)
theorem cfollows_ok (h : CHunk) (n : Nat) (ends : List Int) (hn : n ≤ 32) (hr : rowsIn h.Rows) (hl : h.Rows.length ≤ 268435456) (he : ends.length = n + 1) (he0 : ∀ e ∈ ends, 0 ≤ e) :
    FnOk Tryd.prog 55 [pChunk h, pInt n, pInts ends] (fun rs => rs = if followsB n ends h = true then [pInts (endsTo n h), pBool true] else [pInts [], pBool false]) := by
  have hnot : ∀ {Q : Prop}, (followsB n ends h = true → False) → (if followsB n ends h = true then [pInts (endsTo n h), pBool true] else [pInts [], pBool false]) = [pInts [], pBool false] := fun hq => if_neg hq
  have hF := follows_iff n ends h
  refine FnOk.intro Tryd.func55 (by decide) rfl rfl rfl rfl ?_
  refine k2 ?_
  refine c_region ?_; refine l_effv (f_box 3 rfl rfl rfl) rfl ?_; refine l_neu (n_assign rfl rfl) rfl ?_; refine l_neu (n_assign rfl rfl) rfl ?_; refine l_nil ?_
  refine k1 ?_; refine k2 ?_; refine k2 ?_
  refine c_region ?_; refine l_neu (n_field_ref rfl) rfl ?_; refine l_neu (n_load_ref rfl rfl rfl) rfl ?_; refine l_neu (n_len rfl (.pure _ _ _ _)) rfl ?_; refine l_neu (n_move rfl rfl) rfl ?_; refine l_neu (n_add rfl rfl (by omega)) rfl ?_; refine l_neu (n_neq rfl rfl) rfl ?_; refine l_neu (n_move rfl rfl) rfl ?_; refine l_guard rfl rfl rfl rfl (fun hg => by rw [hg]; exact n_field_ref rfl) ?_; refine l_guard rfl rfl rfl rfl (fun hg => by rw [hg]; exact n_load_ref rfl rfl rfl) ?_; refine l_guard rfl rfl rfl rfl (fun hg => by rw [hg]; exact n_len rfl (.pure _ _ _ _)) ?_; refine l_guard rfl rfl rfl rfl (fun hg => by rw [hg]; exact n_eql rfl rfl) ?_; refine l_neu (n_pick_bool rfl (fun h => by first | rfl | (rw [h]; rfl)) (fun h => by first | rfl | (rw [h]; rfl))) rfl ?_; refine l_nil ?_
  refine k1 ?_
  refine c_cond rfl (fun ht => ?_) (fun ht => ?_)
  · have h1 := of_decide_eq_true (or_pick.symm.trans ht)
    refine k2 ?_
    refine c_region ?_; refine l_neu (n_assign_nil _ 1 intC) rfl ?_; refine l_neu (n_assign rfl rfl) rfl ?_; refine l_nil ?_
    refine k1 ?_; refine k10 ?_; refine k11 ?_
    refine ret_ret (rs := [pInts [], pBool false]) (ret2 rfl rfl rfl rfl rfl) ?_
    rw [if_neg]
    intro hq
    have h2 := (hF.1 hq).1
    rcases h1 with h1 | h1
    · omega
    · exact h2.2 (List.length_eq_zero_iff.1 (by omega))
  · have h1 := of_decide_eq_false (or_pick.symm.trans ht)
    simp only [not_or, Decidable.not_not] at h1
    have hal : h.At.length = n + 1 := by omega
    have hne : h.Rows ≠ [] := fun e => h1.2 (by rw [e]; rfl)
    refine c_cut [(1, sInt n), (2, sList Int 1 intC ends), (3, .s (.one (.ref 3 0)))] [(3, .box (pChunk h).s1.cells)] (Sees.of ⟨le1 rfl, le1 rfl, le1 rfl, trivial⟩ ⟨rfl, trivial⟩) ?_
    refine k5 ?_; refine k1 ?_; refine k2 ?_
    refine c_region ?_; refine l_neu (n_field_ref rfl) rfl ?_; refine l_neu (n_load_ref rfl rfl rfl) rfl ?_; refine l_neu (n_move rfl rfl) rfl ?_; refine l_new (ccounts_new h.Rows n hn hr hl) rfl rfl rfl rfl ?_; rintro _ _ ⟨rfl, rfl⟩; refine ⟨rfl, ?_⟩; refine l_neu (n_assign rfl rfl) rfl ?_; refine l_nil ?_
    refine k1 ?_; refine k2 ?_; refine k2 ?_
    refine c_region ?_; refine l_neu (n_field_ref rfl) rfl ?_; refine l_neu (n_load_ref rfl rfl rfl) rfl ?_; refine l_neu (n_len rfl (.pure _ _ _ _)) rfl ?_; refine l_neu (n_move rfl rfl) rfl ?_; refine l_nil ?_
    refine k1 ?_; refine k3 ?_
    refine c_while (X := Nat) (fun k => ([(2, sList Int 1 intC ends), (8, .s (.one (.mut 720))), (28, sList Int 1 intC h.At), (29, sInt h.At.length), (30, sInt k)], [(720, .arr Int 1 intC (nextAt n h k))])) (fun k => k ≤ h.At.length ∧ ∀ j, j < k → ends.getD j 0 ≤ h.At.getD j 0 ∧ h.At.getD j 0 ≤ 4096) (fun k => h.At.length - k) 0 ⟨Nat.zero_le _, fun j hj => by omega⟩ (by rw [nextAt_zero]; exact Sees.of ⟨le1 rfl, le1 rfl, le1 rfl, le1 rfl, le1 rfl, trivial⟩ ⟨rfl, trivial⟩) ?_
    rintro k ⟨hk, hp⟩
    dsimp only at hk hp ⊢
    have hlen := nextAt_len n h k
    refine k2 ?_
    refine c_region ?_; refine l_neu (n_lss rfl rfl) rfl ?_; refine l_nil ?_
    refine k1 ?_; refine k2 ?_
    refine c_cond rfl (fun ht => ?_) (fun ht => ?_)
    · have hlt : k < h.At.length := by have := of_decide_eq_true ht; omega
      have hv := getI hlt
      have hve := getI (l := ends) (i := k) (by omega)
      have hget := nextAt_get n h k (by omega)
      have hset := nextAt_set n h k
      have hek : 0 ≤ ends.getD k 0 := he0 _ (List.mem_of_getElem? hve)
      have hcl := cnt_le h.Rows n k
      obtain ⟨a, ha⟩ : ∃ a, a = h.At.getD k 0 := ⟨_, rfl⟩
      obtain ⟨e, hee⟩ : ∃ e, e = ends.getD k 0 := ⟨_, rfl⟩
      obtain ⟨q, hqq⟩ : ∃ q, q = cntC h.Rows n k := ⟨_, rfl⟩
      rw [← ha] at hv hset
      rw [← hee] at hve hek
      rw [← hqq] at hget hset hcl
      refine k5 ?_; refine k1 ?_; refine k2 ?_; refine k3 ?_; refine k2 ?_
      refine c_region ?_; refine l_neu (n_move rfl rfl) rfl ?_; refine l_neu (n_indexAddr rfl (.pure _ _ _ _) rfl (by omega) hv) rfl ?_; refine l_neu (n_load_eref rfl rfl) rfl ?_; refine l_neu (n_assign rfl rfl) rfl ?_; refine l_neu (n_assign rfl rfl) rfl ?_; refine l_nil ?_
      refine k1 ?_; refine k2 ?_; refine k2 ?_
      refine c_region ?_; refine l_neu (n_move rfl rfl) rfl ?_; refine l_neu (n_move rfl rfl) rfl ?_; refine l_neu (n_move rfl rfl) rfl ?_; refine l_neu (n_indexAddr rfl (.pure _ _ _ _) rfl (by omega) hve) rfl ?_; refine l_neu (n_load_eref rfl rfl) rfl ?_; refine l_neu (n_lss rfl rfl) rfl ?_; refine l_neu (n_move rfl rfl) rfl ?_; refine l_guard rfl rfl rfl rfl (fun hg => by rw [hg]; exact n_move rfl rfl) ?_; refine l_guard rfl rfl rfl rfl (fun hg => by rw [hg]; exact n_gtr rfl rfl) ?_; refine l_neu (n_pick_bool rfl (fun h => by first | rfl | (rw [h]; rfl)) (fun h => by first | rfl | (rw [h]; rfl))) rfl ?_; refine l_nil ?_
      refine k1 ?_
      refine c_cond rfl (fun ht => ?_) (fun ht => ?_)
      · have h2 := of_decide_eq_true (or_pick.symm.trans ht)
        refine k2 ?_
        refine c_region ?_; refine l_neu (n_assign_nil _ 1 intC) rfl ?_; refine l_neu (n_assign rfl rfl) rfl ?_; refine l_nil ?_
        refine k1 ?_; refine k10 ?_; refine k11 ?_; refine k12 ?_; refine k11 ?_; refine k11 ?_; refine k12 ?_; refine k11 ?_
        refine ret_ret (rs := [pInts [], pBool false]) (ret2 rfl rfl rfl rfl rfl) ?_
        rw [if_neg]
        intro hq
        have h3 := (hF.1 hq).2 k (by omega)
        rw [← ha, ← hee] at h3
        omega
      · have h2 := of_decide_eq_false (or_pick.symm.trans ht)
        have h3 : e ≤ a ∧ a ≤ 4096 := by omega
        refine k5 ?_; refine k1 ?_
        refine c_region ?_; refine l_neu (n_move rfl rfl) rfl ?_; refine l_neu (n_move rfl rfl) rfl ?_; refine l_neu (n_indexAddr_mut rfl rfl rfl (by omega) (by (rw [hlen]; omega))) rfl ?_; refine l_neu (n_load_mref rfl rfl hget rfl) rfl ?_; refine l_neu (n_move rfl rfl) rfl ?_; refine l_neu (n_add rfl rfl (by omega)) rfl ?_; refine l_neu (n_indexAddr_mut rfl rfl rfl (by omega) (by (rw [hlen]; omega))) rfl ?_; refine l_eff (e_store_mref1 TySz.out rfl rfl (by (rw [hlen]; omega)) rfl rfl) ?_; refine l_nil ?_
        refine k4 ?_; refine k1 ?_
        refine c_region ?_; refine l_neu (n_add rfl rfl (by omega)) rfl ?_; refine l_neu (n_move rfl rfl) rfl ?_; refine l_nil ?_
        refine k1 ?_
        refine ⟨k + 1, ⟨by omega, fun j hj => ?_⟩, by omega, ?_⟩
        · by_cases e1 : j = k
          · subst e1; rw [← ha, ← hee]; exact h3
          · exact hp j (by omega)
        · rw [← hset]
          exact Sees.of ⟨le1 rfl, le1 rfl, le1 rfl, le1 rfl, le1 rfl, trivial⟩ ⟨rfl, trivial⟩
    · have hkl : k = n + 1 := by have := of_decide_eq_false ht; omega
      subst hkl
      rw [nextAt_full]
      have hq : followsB n ends h = true := hF.2 ⟨⟨hal, hne⟩, hp⟩
      refine c_sees (Sees.freeze (k := 720) rfl) ?_
      refine k6 ?_; refine k2 ?_
      refine c_region ?_; refine l_neu (n_move rfl rfl) rfl ?_; refine l_neu (n_assign rfl rfl) rfl ?_; refine l_neu (n_assign rfl rfl) rfl ?_; refine l_nil ?_
      refine k1 ?_; refine k10 ?_
      exact ret_ret (rs := [pInts (endsTo n h), pBool true]) (ret2 rfl rfl rfl rfl rfl) (by rw [if_pos hq])
theorem smax_ok (l : List Int) (hl : 0 < l.length) : FnOk Tryd.prog 58 [pInts l] (fun rs => ∃ m, rs = [pInt m] ∧ ∀ b, m ≤ b ↔ ∀ e ∈ l, e ≤ b) := by
  refine FnOk.intro Tryd.func58 (by decide) rfl rfl rfl rfl ?_
  refine c_bound (t := 0) rfl (.pure _ _ _ _) fun hb => ?_
  refine k2 ?_
  refine c_region ?_; refine l_neu (n_assign rfl rfl) rfl ?_; refine l_nil ?_
  refine k1 ?_; refine k2 ?_; refine k2 ?_
  refine c_region ?_; refine l_neu (n_move rfl rfl) rfl ?_; refine l_neu (n_len rfl (.pure _ _ _ _)) rfl ?_; refine l_neu (n_lss rfl rfl) rfl ?_; refine l_nil ?_
  refine k1 ?_
  refine c_cond rfl (fun ht => ?_) (fun ht => ?_)
  · exact absurd (of_decide_eq_true ht) (by omega)
  refine k5 ?_; refine k1 ?_; refine k2 ?_
  refine c_region ?_; refine l_neu (n_move rfl rfl) rfl ?_; refine l_neu (n_indexAddr rfl (.pure _ _ _ _) rfl (by omega) (getI (l := l) (i := 0) hl)) rfl ?_; refine l_neu (n_load_eref rfl rfl) rfl ?_; refine l_neu (n_assign rfl rfl) rfl ?_; refine l_nil ?_
  refine k1 ?_; refine k2 ?_; refine k2 ?_
  refine c_region ?_; refine l_neu (n_assign rfl rfl) rfl ?_; refine l_nil ?_
  refine k1 ?_; refine k3 ?_
  refine c_while (X := Nat × Int) (fun x => ([(0, sList Int 1 intC l), (3, sInt x.2), (4, sInt x.1)], [])) (fun x => (1 ≤ x.1 ∧ x.1 ≤ l.length) ∧ ∀ b, x.2 ≤ b ↔ ∀ e ∈ l.take x.1, e ≤ b) (fun x => l.length - x.1) (1, l.getD 0 0) ⟨⟨Nat.le_refl _, hl⟩, ?_⟩ (Sees.of ⟨le1 rfl, le1 rfl, le1 rfl, trivial⟩ trivial) ?_
  · intro b
    have : l.take 1 = [l.getD 0 0] := by
      cases l with
      | nil => cases hl
      | cons x r => rfl
    dsimp only
    rw [this]; simp
  rintro ⟨k, m⟩ ⟨⟨hk1, hk⟩, hp⟩
  dsimp only at hk1 hk hp ⊢
  refine k2 ?_; refine k2 ?_
  refine c_region ?_; refine l_neu (n_move rfl rfl) rfl ?_; refine l_neu (n_move rfl rfl) rfl ?_; refine l_neu (n_len rfl (.pure _ _ _ _)) rfl ?_; refine l_neu (n_lss rfl rfl) rfl ?_; refine l_nil ?_
  refine k1 ?_
  refine c_cond rfl (fun ht => ?_) (fun ht => ?_)
  · have hlt : k < l.length := by have := of_decide_eq_true ht; omega
    have hv := getI hlt
    refine k5 ?_; refine k1 ?_; refine k2 ?_; refine k3 ?_
    refine c_region ?_; refine l_neu (n_move rfl rfl) rfl ?_; refine l_neu (n_move rfl rfl) rfl ?_; refine l_neu (n_move rfl rfl) rfl ?_; refine l_neu (n_indexAddr rfl (.pure _ _ _ _) rfl (by omega) hv) rfl ?_; refine l_neu (n_load_eref rfl rfl) rfl ?_; refine l_neu (n_max rfl rfl) rfl ?_; refine l_neu (n_assign rfl rfl) rfl ?_; refine l_nil ?_
    refine k4 ?_; refine k1 ?_
    refine c_region ?_; refine l_neu (n_move rfl rfl) rfl ?_; refine l_neu (n_add rfl rfl (by omega)) rfl ?_; refine l_neu (n_assign rfl rfl) rfl ?_; refine l_nil ?_
    refine k1 ?_
    refine ⟨(k + 1, if m < l.getD k 0 then l.getD k 0 else m), ⟨⟨by dsimp only; omega, by dsimp only; omega⟩, ?_⟩, by dsimp only; omega, Sees.of ⟨le1 rfl, le1 rfl, le1 rfl, trivial⟩ trivial⟩
    intro b
    dsimp only
    have e : l.take (k + 1) = l.take k ++ [l.getD k 0] := by
      rw [List.take_succ_eq_append_getElem hlt, List.getD_eq_getElem?_getD, List.getElem?_eq_getElem hlt]; rfl
    have h1 := hp b
    rw [e]
    constructor
    · intro h x hx
      rcases List.mem_append.1 hx with hx | hx
      · exact h1.1 (by omega) x hx
      · simp only [List.mem_cons, List.not_mem_nil, or_false] at hx
        rw [hx]; omega
    · intro h
      have h2 := h1.2 (fun x hx => h x (List.mem_append.2 (.inl hx)))
      have h3 := h (l.getD k 0) (List.mem_append.2 (.inr (by simp)))
      omega
  · have hkl : k = l.length := by have := of_decide_eq_false ht; omega
    subst hkl
    rw [List.take_length] at hp
    refine k6 ?_; refine k2 ?_
    refine c_region ?_; refine l_neu (n_move rfl rfl) rfl ?_; refine l_neu (n_assign rfl rfl) rfl ?_; refine l_nil ?_
    refine k1 ?_; refine k10 ?_
    exact ret_ret (ret1 rfl rfl rfl) ⟨m, rfl, hp⟩
theorem cwell_ok (c : Comb) (hn : 1 ≤ c.Parents ∧ c.Parents ≤ 32) (hr : ∀ h ∈ c.Hunks, rowsIn h.Rows) (hz : szC c.Hunks ≤ 268435456) :
    FnOk Tryd.prog 35 [pComb c] (fun rs => rs = [pBool (wellGo18 c.Parents.toNat (List.replicate (c.Parents.toNat + 1) 0) false 0 c.Hunks)]) := by
  obtain ⟨n, hN⟩ : ∃ n, n = c.Parents.toNat := ⟨_, rfl⟩
  have hNc : c.Parents = (n : Int) := by omega
  rw [← hN]
  have e0 : (c.Parents + 1).toNat = n + 1 := by omega
  have hzl := szC_len c.Hunks
  obtain ⟨W, hW⟩ : ∃ W, W = wellGo18 n (List.replicate (n + 1) 0) false 0 c.Hunks := ⟨_, rfl⟩
  rw [← hW]
  refine FnOk.intro Tryd.func35 (by decide) rfl rfl rfl rfl ?_
  refine k2 ?_
  refine c_region ?_; refine l_effv (f_box 1 rfl rfl rfl) rfl ?_; refine l_neu (n_assign rfl rfl) rfl ?_; refine l_nil ?_
  refine k1 ?_; refine k2 ?_
  refine c_region ?_; refine l_effv (f_alloc 3 rfl) rfl ?_; refine l_nil ?_
  refine k1 ?_; refine k2 ?_
  refine c_region ?_; refine l_neu (n_field_ref rfl) rfl ?_; refine l_neu (n_load_ref rfl rfl rfl) rfl ?_; refine l_neu (n_add rfl rfl (by omega)) rfl ?_; refine l_effv (f_makeZ 720 Int intC 0 rfl rfl (by omega) (by omega) (fun _ => by first | exact ⟨⟨rfl, rfl⟩, trivial⟩ | exact ⟨rep_nil _ _ _, trivial⟩) (by first | rfl | (simp [frFree, obFree, Ob.free, SV.free, S1.free, TC.free] <;> rfl))) rfl ?_; refine l_neu (n_assign rfl rfl) rfl ?_; refine l_nil ?_
  rw [e0]
  refine k1 ?_; refine k2 ?_; refine k2 ?_
  refine c_sees (Sees.freeze (k := 720) rfl) ?_
  refine c_region ?_; refine l_neu (n_field_ref rfl) rfl ?_; refine l_neu (n_load_ref rfl rfl rfl) rfl ?_; refine l_neu (n_len rfl (.pure _ _ _ _)) rfl ?_; refine l_neu (n_move rfl rfl) rfl ?_; refine l_nil ?_
  refine k1 ?_; refine k3 ?_
  refine c_while (X := Nat × List Int × Bool × Int) (fun x => ([(1, .s (.one (.ref 1 0))), (3, .s (.one (.ref 3 0))), (4, sList Int 1 intC x.2.1), (15, sList CHunk 2 chunkC c.Hunks), (16, sInt c.Hunks.length), (17, sInt x.1)], [(1, cBox c), (3, .box [.p (.v (.bool x.2.2.1)), .p (.v (.int .u32 x.2.2.2))])])) (fun x => x.1 ≤ c.Hunks.length ∧ x.2.1.length = n + 1 ∧ (∀ e ∈ x.2.1, 0 ≤ e) ∧ W = wellGo18 n x.2.1 x.2.2.1 x.2.2.2 (c.Hunks.drop x.1)) (fun x => c.Hunks.length - x.1) (0, List.replicate (n + 1) 0, false, 0) ⟨Nat.zero_le _, by simp, fun e he => by have := (List.mem_replicate.1 he).2; omega, hW⟩ (Sees.of ⟨le1 rfl, le1 rfl, le1 rfl, le1 rfl, le1 rfl, le1 rfl, trivial⟩ ⟨rfl, rfl, trivial⟩) ?_
  rintro ⟨k, ends, res, par⟩ ⟨hk, hel, he0, hp⟩
  dsimp only at hk hel he0 hp ⊢
  refine k2 ?_
  refine c_region ?_; refine l_neu (n_lss rfl rfl) rfl ?_; refine l_nil ?_
  refine k1 ?_; refine k2 ?_
  refine c_cond rfl (fun ht => ?_) (fun ht => ?_)
  · have hlt : k < c.Hunks.length := by have := of_decide_eq_true ht; omega
    have hv : c.Hunks[k]? = some c.Hunks[k] := by simp [hlt]
    have hmem := List.getElem_mem hlt
    have hrw := hr _ hmem
    have hzm := szC_mem hmem
    rw [List.drop_eq_getElem_cons hlt, wellGo18] at hp
    obtain ⟨h, hx⟩ : ∃ x, x = c.Hunks[k] := ⟨_, rfl⟩
    rw [← hx] at hv hrw hzm hp
    have hz1 := szRow_len h.Rows
    have hz2 := szRow_text h.Rows
    unfold szCh at hzm
    have hf := cfollows_ok h n ends (by omega) hrw (by omega) hel he0
    rw [← hNc] at hf
    refine k5 ?_; refine k1 ?_; refine k2 ?_; refine k3 ?_; refine k2 ?_
    refine c_region ?_; refine l_neu (n_indexAddr rfl (.pure _ _ _ _) rfl (by omega) hv) rfl ?_; refine l_neu (n_loads_eref rfl rfl) rfl ?_; refine l_effv (f_alloc 6 rfl) rfl ?_; refine l_eff (e_store_ref TySz.out rfl rfl rfl rfl rfl rfl) ?_; refine l_nil ?_
    refine k1 ?_; refine k2 ?_
    refine c_region ?_; refine l_neu (n_assign rfl rfl) rfl ?_; refine l_nil ?_
    refine k1 ?_; refine k2 ?_; refine k2 ?_
    cases hfb : followsB n ends h with
    | false =>
      rw [hfb, if_neg (by decide)] at hf
      rw [hfb, Bool.false_and] at hp
      refine c_region ?_; refine l_neu (n_loads_ref rfl rfl rfl) rfl ?_; refine l_neu (n_field_ref rfl) rfl ?_; refine l_neu (n_load_ref rfl rfl rfl) rfl ?_; refine l_neu (n_move rfl rfl) rfl ?_; refine l_call (hf) rfl rfl rfl ?_; rintro _ rfl; refine l_neu (n_move rfl rfl) rfl ?_; refine l_neu (n_extract rfl rfl) rfl ?_; refine l_neu (n_extract rfl rfl) rfl ?_; refine l_neu (n_assign rfl rfl) rfl ?_; refine l_neu (n_assign rfl rfl) rfl ?_; refine l_nil ?_
      refine k1 ?_; refine k2 ?_
      refine c_region ?_; refine l_neu (n_move rfl rfl) rfl ?_; refine l_neu (n_not rfl) rfl ?_; refine l_nil ?_
      refine k1 ?_
      refine c_cond rfl (fun ht => ?_) (fun ht => ?_)
      · refine k2 ?_
        refine c_region ?_; refine l_neu (n_assign rfl rfl) rfl ?_; refine l_nil ?_
        refine k1 ?_; refine k10 ?_; refine k11 ?_; refine k12 ?_; refine k11 ?_; refine k11 ?_; refine k12 ?_; refine k11 ?_
        exact ret_ret (ret1 rfl rfl rfl) (by rw [hp])
      · cases ht
    | true =>
      rw [hfb, if_pos rfl] at hf
      rw [hfb, Bool.true_and] at hp
      have hpos : ∀ e ∈ endsTo n h, 0 ≤ e := by
        intro e hm
        obtain ⟨j, hj, rfl⟩ := List.mem_map.1 hm
        have hj := List.mem_range.1 hj
        have h1 := ((follows_iff n ends h).1 hfb).2 j hj
        have h2 := he0 _ (List.mem_of_getElem? (getI (l := ends) (i := j) (by omega)))
        have h3 := cnt_le h.Rows n j
        omega
      refine c_region ?_; refine l_neu (n_loads_ref rfl rfl rfl) rfl ?_; refine l_neu (n_field_ref rfl) rfl ?_; refine l_neu (n_load_ref rfl rfl rfl) rfl ?_; refine l_neu (n_move rfl rfl) rfl ?_; refine l_call (hf) rfl rfl rfl ?_; rintro _ rfl; refine l_neu (n_move rfl rfl) rfl ?_; refine l_neu (n_extract rfl rfl) rfl ?_; refine l_neu (n_extract rfl rfl) rfl ?_; refine l_neu (n_assign rfl rfl) rfl ?_; refine l_neu (n_assign rfl rfl) rfl ?_; refine l_nil ?_
      refine k1 ?_; refine k2 ?_
      refine c_region ?_; refine l_neu (n_move rfl rfl) rfl ?_; refine l_neu (n_not rfl) rfl ?_; refine l_nil ?_
      refine k1 ?_
      refine c_cond rfl (fun ht => ?_) (fun ht => ?_)
      · cases ht
      refine k5 ?_; refine k1 ?_; refine k2 ?_
      refine c_region ?_; refine l_neu (n_field_ref rfl) rfl ?_; refine l_neu (n_load_ref rfl rfl rfl) rfl ?_; refine l_neu (n_len rfl (.pure _ _ _ _)) rfl ?_; refine l_neu (n_move rfl rfl) rfl ?_; refine l_nil ?_
      refine k1 ?_; refine k3 ?_
      refine c_while (X := Nat × Bool × Int) (fun x => ([(1, .s (.one (.ref 1 0))), (3, .s (.one (.ref 3 0))), (4, sList Int 1 intC (endsTo n h)), (15, sList CHunk 2 chunkC c.Hunks), (16, sInt c.Hunks.length), (17, sInt k), (32, sList Row 3 rowC h.Rows), (33, sInt h.Rows.length), (34, sInt x.1)], [(1, cBox c), (3, .box [.p (.v (.bool x.2.1)), .p (.v (.int .u32 x.2.2))])])) (fun x => x.1 ≤ h.Rows.length ∧ addsOk res par h.Rows = addsOk x.2.1 x.2.2 (h.Rows.drop x.1) ∧ resAfter res h.Rows = resAfter x.2.1 (h.Rows.drop x.1) ∧ parAfter par h.Rows = parAfter x.2.2 (h.Rows.drop x.1)) (fun x => h.Rows.length - x.1) (0, res, par) ⟨Nat.zero_le _, rfl, rfl, rfl⟩ (Sees.of ⟨le1 rfl, le1 rfl, le1 rfl, le1 rfl, le1 rfl, le1 rfl, le1 rfl, le1 rfl, le1 rfl, trivial⟩ ⟨rfl, rfl, trivial⟩) ?_
      rintro ⟨j, res', par'⟩ ⟨hj, q1, q2, q3⟩
      dsimp only at hj q1 q2 q3 ⊢
      refine k2 ?_
      refine c_region ?_; refine l_neu (n_lss rfl rfl) rfl ?_; refine l_nil ?_
      refine k1 ?_; refine k2 ?_
      refine c_cond rfl (fun ht => ?_) (fun ht => ?_)
      · have hlt2 : j < h.Rows.length := by have := of_decide_eq_true ht; omega
        have hv2 : h.Rows[j]? = some h.Rows[j] := by simp [hlt2]
        have htl := text_len h.Rows _ (List.getElem_mem hlt2)
        rw [List.drop_eq_getElem_cons hlt2] at q1 q2 q3
        rw [addsOk] at q1
        obtain ⟨r, hy⟩ : ∃ x, x = h.Rows[j] := ⟨_, rfl⟩
        rw [← hy] at hv2 htl q1 q2 q3
        refine k5 ?_; refine k1 ?_; refine k2 ?_; refine k3 ?_; refine k2 ?_
        refine c_region ?_; refine l_neu (n_indexAddr rfl (.pure _ _ _ _) rfl (by omega) hv2) rfl ?_; refine l_neu (n_loads_eref rfl rfl) rfl ?_; refine l_effv (f_alloc 9 rfl) rfl ?_; refine l_eff (e_store_ref TySz.out rfl rfl rfl rfl rfl rfl) ?_; refine l_nil ?_
        refine k1 ?_; refine k2 ?_
        by_cases hs : lineOk r.Text = true
        · refine c_region ?_; refine l_neu (n_loads_ref rfl rfl rfl) rfl ?_; refine l_call (wsingle_ok r (by omega)) rfl rfl rfl ?_; rintro _ rfl; refine l_neu (n_not rfl) rfl ?_; refine l_neu (n_move rfl rfl) rfl ?_; refine l_run rfl rfl rfl (by rw [hs]; rfl) ?_; refine l_neu (n_loads_ref rfl rfl rfl) rfl ?_; refine l_run rfl rfl rfl (by rw [hs]; rfl) ?_; refine l_callio (wadd_ok r res' par' (by omega)) rfl rfl rfl rfl rfl rfl ?_; rintro _ _ ⟨rfl, rfl⟩; refine l_guard rfl rfl rfl rfl (fun hg => by rw [hg]; exact n_not rfl) ?_; refine l_neu (n_pick_bool rfl (fun h => by first | rfl | (rw [h]; rfl)) (fun h => by first | rfl | (rw [h]; rfl))) rfl ?_; refine l_nil ?_
          refine k1 ?_
          refine c_cond rfl (fun ht => ?_) (fun ht => ?_)
          · have h2 : addOk res' par' r = false := by rw [hs] at ht; simpa using ht
            rw [hs, h2, Bool.true_and, Bool.false_and] at q1
            rw [q1, Bool.false_and] at hp
            refine k2 ?_
            refine c_region ?_; refine l_neu (n_assign rfl rfl) rfl ?_; refine l_nil ?_
            refine k1 ?_; refine k10 ?_; refine k12 ?_; refine k11 ?_; refine k11 ?_; refine k12 ?_; refine k12 ?_; refine k11 ?_; refine k11 ?_; refine k12 ?_; refine k11 ?_
            exact ret_ret (ret1 rfl rfl rfl) (by rw [hp])
          · have h2 : addOk res' par' r = true := by rw [hs] at ht; simpa using ht
            rw [hs, h2, Bool.true_and, Bool.true_and] at q1
            refine k5 ?_; refine k4 ?_; refine k1 ?_
            refine c_region ?_; refine l_neu (n_add rfl rfl (by omega)) rfl ?_; refine l_neu (n_move rfl rfl) rfl ?_; refine l_nil ?_
            refine k1 ?_
            exact ⟨(j + 1, _, _), ⟨by dsimp only; omega, q1, q2, q3⟩, by dsimp only; omega, Sees.of ⟨le1 rfl, le1 rfl, le1 rfl, le1 rfl, le1 rfl, le1 rfl, le1 rfl, le1 rfl, le1 rfl, trivial⟩ ⟨rfl, rfl, trivial⟩⟩
        · have hs' : lineOk r.Text = false := by simpa using hs
          refine c_region ?_; refine l_neu (n_loads_ref rfl rfl rfl) rfl ?_; refine l_call (wsingle_ok r (by omega)) rfl rfl rfl ?_; rintro _ rfl; refine l_neu (n_not rfl) rfl ?_; refine l_neu (n_move rfl rfl) rfl ?_; refine l_guard rfl rfl rfl rfl (fun hg => by rw [hg]; exact n_loads_ref rfl rfl rfl) ?_; refine l_skip rfl rfl rfl (by rw [hs']; decide) rfl ?_; refine l_skip rfl rfl rfl (by rw [hs']; decide) rfl ?_; refine l_neu (n_pick_bool (q := true) rfl (fun h => rfl) (fun h => by rw [hs'] at h; cases h)) rfl ?_; refine l_nil ?_
          rw [hs', Bool.false_and, Bool.false_and] at q1
          rw [q1, Bool.false_and] at hp
          refine k1 ?_
          refine c_cond rfl (fun ht => ?_) (fun ht => ?_)
          · refine k2 ?_
            refine c_region ?_; refine l_neu (n_assign rfl rfl) rfl ?_; refine l_nil ?_
            refine k1 ?_; refine k10 ?_; refine k12 ?_; refine k11 ?_; refine k11 ?_; refine k12 ?_; refine k12 ?_; refine k11 ?_; refine k11 ?_; refine k12 ?_; refine k11 ?_
            exact ret_ret (ret1 rfl rfl rfl) (by rw [hp])
          · rw [hs'] at ht; cases ht
      · have hjl : j = h.Rows.length := by have := of_decide_eq_false ht; omega
        rw [hjl, List.drop_eq_nil_of_le (Nat.le_refl _)] at q1 q2 q3
        have q1 : addsOk res par h.Rows = true := q1
        have q2 : resAfter res h.Rows = res' := q2
        have q3 : parAfter par h.Rows = par' := q3
        rw [q1, q2, q3, Bool.true_and] at hp
        refine k6 ?_; refine k7 ?_; refine k7 ?_; refine k8 rfl ?_; refine k4 ?_; refine k1 ?_
        refine c_region ?_; refine l_neu (n_add rfl rfl (by omega)) rfl ?_; refine l_neu (n_move rfl rfl) rfl ?_; refine l_nil ?_
        refine k1 ?_
        exact ⟨(k + 1, _, _, _), ⟨by dsimp only; omega, endsTo_len n h, hpos, hp⟩, by dsimp only; omega, Sees.of ⟨le1 rfl, le1 rfl, le1 rfl, le1 rfl, le1 rfl, le1 rfl, trivial⟩ ⟨rfl, rfl, trivial⟩⟩
  · have hkl : k = c.Hunks.length := by have := of_decide_eq_false ht; omega
    rw [hkl, List.drop_eq_nil_of_le (Nat.le_refl _)] at hp
    have hp : W = decide (∀ e ∈ ends, e ≤ 4096) := hp
    refine k6 ?_; refine k2 ?_
    refine c_region ?_; refine l_neu (n_move rfl rfl) rfl ?_; refine l_call (smax_ok ends (by omega)) rfl rfl rfl ?_; rintro _ ⟨m, rfl, hm⟩; refine l_neu (n_leq rfl rfl) rfl ?_; refine l_neu (n_assign rfl rfl) rfl ?_; refine l_nil ?_
    refine k1 ?_; refine k10 ?_
    exact ret_ret (ret1 rfl rfl rfl) (by rw [hp]; simp only [hm 4096])
end Go.Proofs.YtgejaedjnbjpoaaDoor
namespace Go.Proofs.YtgejaedjnbjpoaaDoor
open Go Go.AL
set_option maxRecDepth 100000
theorem cnamed_ok (s : Str) : FnOk Tryd.prog 33 [pStr s] (fun rs => rs = [pBool (nameOk s)]) := by
  refine FnOk.intro Tryd.func33 (by decide) rfl rfl rfl rfl ?_
  refine k2 ?_
  refine c_region ?_; refine l_neu (n_assign rfl rfl) rfl ?_; refine l_nil ?_
  refine k1 ?_; refine k2 ?_
  refine c_region ?_; refine l_neu (n_move rfl rfl) rfl ?_; refine l_neu (n_len_s rfl) rfl ?_; refine l_neu (n_geq rfl rfl) rfl ?_; refine l_neu (n_move rfl rfl) rfl ?_; refine l_guard rfl rfl rfl rfl (fun hg => by rw [hg]; exact n_move rfl rfl) ?_; refine l_guard rfl rfl rfl rfl (fun hg => by rw [hg]; exact n_len_s rfl) ?_; refine l_guard rfl rfl rfl rfl (fun hg => by rw [hg]; exact n_leq rfl rfl) ?_; refine l_neu (n_pick_bool rfl (fun h => by first | rfl | (rw [h]; rfl)) (fun h => by first | rfl | (rw [h]; rfl))) rfl ?_; refine l_neu (n_assign rfl rfl) rfl ?_; refine l_nil ?_
  refine k1 ?_; refine k10 ?_
  refine ret_ret (ret1 rfl rfl rfl) ?_
  rw [and_pick]
  unfold nameOk
  congr 4
  apply decide_eq_decide.2
  omega
theorem ctitle_ok (c : Comb) (hp : c.Path.length ≤ 16777216) : FnOk Tryd.prog 21 [pComb c] (fun rs => rs = [pStr (titleS c)]) := by
  have hq := quote_lenC c.Path
  have hf := fmt_len c.Parents
  refine FnOk.intro Tryd.func21 (by decide) rfl rfl rfl rfl ?_
  refine k2 ?_
  refine c_region ?_; refine l_effv (f_box 1 rfl rfl rfl) rfl ?_; refine l_neu (n_assign rfl rfl) rfl ?_; refine l_nil ?_
  refine k1 ?_; refine k2 ?_
  refine c_region ?_; refine l_neu (n_assign rfl rfl) rfl ?_; refine l_nil ?_
  refine k1 ?_; refine k2 ?_; refine k2 ?_
  refine c_region ?_; refine l_neu (n_field_ref rfl) rfl ?_; refine l_neu (n_load_ref rfl rfl rfl) rfl ?_; refine l_nil ?_
  refine k1 ?_
  refine c_cond rfl (fun ht => ?_) (fun ht => ?_)
  · have hd : c.Dense = true := ht
    skip
    refine c_region ?_; refine l_neu (n_assign rfl rfl) rfl ?_; refine l_nil ?_
    refine k1 ?_; refine k2 ?_
    refine c_region_draw (by kernel_rfl) (by kernel_rfl) ?_; refine d_neu (n_move rfl rfl) rfl rfl ?_; refine d_neu (n_add_s rfl rfl (by (simp only [List.length_append, List.length_cons, List.length_nil]; omega))) rfl rfl ?_; refine d_neu (n_add_s rfl rfl (by (simp only [List.length_append, List.length_cons, List.length_nil]; omega))) rfl rfl ?_; refine d_neu (n_field_ref rfl) rfl rfl ?_; refine d_neu (n_load_ref rfl rfl rfl) rfl rfl ?_; refine d_neu (n_call1 (squote_ok c.Path (by omega)) rfl rfl) rfl rfl ?_; refine d_neu (n_add_s rfl rfl (by (simp only [List.length_append, List.length_cons, List.length_nil]; omega))) rfl rfl ?_; refine d_neu (n_add_s rfl rfl (by (simp only [List.length_append, List.length_cons, List.length_nil]; omega))) rfl rfl ?_; refine d_neu (n_field_ref rfl) rfl rfl ?_; refine d_neu (n_load_ref rfl rfl rfl) rfl rfl ?_; refine d_neu (n_call1 (sformat_ok c.Parents) rfl rfl) rfl rfl ?_; refine d_neu (n_add_s rfl rfl (by (simp only [List.length_append, List.length_cons, List.length_nil]; omega))) rfl rfl ?_; refine d_neu (n_add_s rfl rfl (by (simp only [List.length_append, List.length_cons, List.length_nil]; omega))) rfl rfl ?_; refine d_neu (n_assign rfl rfl) rfl rfl ?_; refine d_nil ?_
    refine k1 ?_; refine k10 ?_
    exact ret_ret (ret1 rfl rfl rfl) (by unfold titleS kindS; rw [if_pos hd]; simp [ccS, parS])
  · have hd : c.Dense = false := ht
    refine k5 ?_; refine k1 ?_; refine k2 ?_
    refine c_region_draw (by kernel_rfl) (by kernel_rfl) ?_; refine d_neu (n_move rfl rfl) rfl rfl ?_; refine d_neu (n_add_s rfl rfl (by (simp only [List.length_append, List.length_cons, List.length_nil]; omega))) rfl rfl ?_; refine d_neu (n_add_s rfl rfl (by (simp only [List.length_append, List.length_cons, List.length_nil]; omega))) rfl rfl ?_; refine d_neu (n_field_ref rfl) rfl rfl ?_; refine d_neu (n_load_ref rfl rfl rfl) rfl rfl ?_; refine d_neu (n_call1 (squote_ok c.Path (by omega)) rfl rfl) rfl rfl ?_; refine d_neu (n_add_s rfl rfl (by (simp only [List.length_append, List.length_cons, List.length_nil]; omega))) rfl rfl ?_; refine d_neu (n_add_s rfl rfl (by (simp only [List.length_append, List.length_cons, List.length_nil]; omega))) rfl rfl ?_; refine d_neu (n_field_ref rfl) rfl rfl ?_; refine d_neu (n_load_ref rfl rfl rfl) rfl rfl ?_; refine d_neu (n_call1 (sformat_ok c.Parents) rfl rfl) rfl rfl ?_; refine d_neu (n_add_s rfl rfl (by (simp only [List.length_append, List.length_cons, List.length_nil]; omega))) rfl rfl ?_; refine d_neu (n_add_s rfl rfl (by (simp only [List.length_append, List.length_cons, List.length_nil]; omega))) rfl rfl ?_; refine d_neu (n_assign rfl rfl) rfl rfl ?_; refine d_nil ?_
    refine k1 ?_; refine k10 ?_
    exact ret_ret (ret1 rfl rfl rfl) (by unfold titleS kindS; rw [hd, if_neg (by decide)]; simp [combS, parS])
theorem cheader_ok (h : CHunk) (n : Nat) (hn : n ≤ 32) (hr : rowsIn h.Rows) (hl : h.Rows.length ≤ 268435456) (ha : h.At.length = n + 1) (hb : ∀ a ∈ h.At, -4611686018427387904 ≤ a ∧ a ≤ 4611686018427387904) :
    FnOk Tryd.prog 22 [pChunk h, pInt n] (fun rs => rs = [pStr (headC n h ++ [10])]) := by
  have hrep : FnOk Tryd.prog 41 [pStr [64], pInt ((n : Int) + 1)] (fun rs => rs = [pStr (atS (n + 1))]) := by
    have := repeat_ok 64 (n + 1) (by omega)
    rwa [show ((n + 1 : Nat) : Int) = (n : Int) + 1 by omega] at this
  obtain ⟨A, hA⟩ : ∃ A, A = atS (n + 1) := ⟨_, rfl⟩
  have hAl : A.length = n + 1 := by rw [hA, atS_len]
  have hend : headC n h ++ [10] = A ++ sidesW n h n ++ ([32, 43] ++ rangeOf (h.At.getD n 0) (cntC h.Rows n n) ++ [32] ++ A ++ [10]) := by
    unfold headC
    rw [sidesW_succ, hA]
    unfold sideW sgnB
    rw [if_pos rfl]; simp
  rw [hend]
  rw [← hA] at hrep
  have hsl := fun k => sidesW_len n h k
  have hcnt := fun k => cnt_le h.Rows n k
  have hgA : ∀ k, k < n + 1 → h.At[k]? = some (h.At.getD k 0) := fun k hk => getI (by omega)
  have hgC : ∀ k, k < n + 1 → (countsC h.Rows n)[k]? = some (cntC h.Rows n k) := fun k hk => counts_get h.Rows n k hk
  have hrA : ∀ k, k < n + 1 → -4611686018427387904 ≤ h.At.getD k 0 ∧ h.At.getD k 0 ≤ 4611686018427387904 := fun k hk => hb _ (List.mem_of_getElem? (hgA k hk))
  refine FnOk.intro Tryd.func22 (by decide) rfl rfl rfl rfl ?_
  refine k2 ?_
  refine c_region ?_; refine l_effv (f_box 2 rfl rfl rfl) rfl ?_; refine l_neu (n_assign rfl rfl) rfl ?_; refine l_nil ?_
  refine k1 ?_; refine k2 ?_
  refine c_region ?_; refine l_neu (n_field_ref rfl) rfl ?_; refine l_neu (n_load_ref rfl rfl rfl) rfl ?_; refine l_neu (n_move rfl rfl) rfl ?_; refine l_new (ccounts_new h.Rows n hn hr hl) rfl rfl rfl rfl ?_; rintro _ _ ⟨rfl, rfl⟩; refine ⟨rfl, ?_⟩; refine l_neu (n_assign rfl rfl) rfl ?_; refine l_nil ?_
  refine k1 ?_; refine k2 ?_
  refine c_sees (Sees.freeze (k := 720) rfl) ?_
  refine c_region ?_; refine l_neu (n_move rfl rfl) rfl ?_; refine l_neu (n_add rfl rfl (by omega)) rfl ?_; refine l_call (hrep) rfl rfl rfl ?_; rintro _ rfl; refine l_neu (n_assign rfl rfl) rfl ?_; refine l_nil ?_
  refine k1 ?_; refine k2 ?_
  refine c_region ?_; refine l_effv (f_allocT 700 rfl) rfl ?_; refine l_nil ?_
  refine k1 ?_; refine k2 ?_
  refine c_sees (Sees.adoptT 701 UInt8 1 u8C 5 (kb := 700) (o := 1) rfl rfl rfl) ?_
  refine c_region ?_; refine l_neu (n_move rfl rfl) rfl ?_; refine l_met (writeString_met (xs := []) (s := A) ⟨⟨_, .inl rfl, rfl⟩, rfl⟩ (by simp only [List.length_nil]; omega)) rfl rfl rfl ?_; rintro _ _ ⟨rfl, rfl⟩; refine l_nil ?_
  refine k1 ?_; refine k2 ?_; refine k2 ?_
  refine c_region ?_; refine l_neu (n_move rfl rfl) rfl ?_; refine l_neu (n_move rfl rfl) rfl ?_; refine l_nil ?_
  refine k1 ?_; refine k3 ?_
  refine c_while (X := Nat) (fun p => ([(1, sInt n), (2, .s (.one (.ref 2 0))), (5, sList Int 1 intC (countsC h.Rows n)), (6, sStr A), (7, .s (.one (.ref 700 0))), (18, sInt n), (19, sInt p)], [(2, .box (pChunk h).s1.cells), (700, .tbx 62 [.ref 700 0, .buf 701 UInt8 1 u8C (A ++ sidesW n h p)]), (701, .spare (A ++ sidesW n h p).length 1 5)])) (fun p => p ≤ n) (fun p => n - p) 0 (Nat.zero_le _) ?_ ?_
  · rw [show sidesW n h 0 = [] from rfl, List.append_nil]
    exact Sees.of ⟨le1 rfl, le1 rfl, le1 rfl, le1 rfl, le1 rfl, le1 rfl, le1 rfl, trivial⟩ ⟨rfl, rfl, rfl, trivial⟩
  intro p hp
  dsimp only at hp ⊢
  have hsp := hsl p
  have hsucc := sidesW_succ n h p
  refine k2 ?_
  refine c_region ?_; refine l_neu (n_lss rfl rfl) rfl ?_; refine l_nil ?_
  refine k1 ?_; refine k2 ?_
  refine c_cond rfl (fun ht => ?_) (fun ht => ?_)
  · have hlt : p < n := by have := of_decide_eq_true ht; omega
    have hga := hgA p (by omega)
    have hgc := hgC p (by omega)
    have hra := hrA p (by omega)
    have hcp := hcnt p
    have hsw : sideW n h p = [32, 45] ++ rangeOf (h.At.getD p 0) (cntC h.Rows n p) := by
      unfold sideW sgnB; rw [if_neg (by omega)]
    have hrl := rangeOf_len (h.At.getD p 0) (cntC h.Rows n p)
    rw [hsw] at hsucc
    obtain ⟨a, haa⟩ : ∃ a, a = h.At.getD p 0 := ⟨_, rfl⟩
    obtain ⟨q, hqq⟩ : ∃ q, q = cntC h.Rows n p := ⟨_, rfl⟩
    rw [← haa] at hga hra hrl hsucc
    rw [← hqq] at hgc hcp hrl hsucc
    have hlb : (A ++ sidesW n h p).length ≤ 1000 := by rw [List.length_append]; omega
    obtain ⟨B, hB⟩ : ∃ B, B = A ++ sidesW n h p := ⟨_, rfl⟩
    rw [← hB] at hlb ⊢
    refine k5 ?_; refine k1 ?_; refine k2 ?_; refine k3 ?_; refine k2 ?_
    refine c_region ?_; refine l_neu (n_move rfl rfl) rfl ?_; refine l_neu (n_assign rfl rfl) rfl ?_; refine l_nil ?_
    refine k1 ?_
    refine c_region_turn 11 (by kernel_rfl) (by kernel_rfl) rfl ?_; refine d_neu (n_field_ref rfl) rfl rfl ?_; refine d_neu (n_load_ref rfl rfl rfl) rfl rfl ?_; refine d_neu (n_move rfl rfl) rfl rfl ?_; refine d_neu (n_indexAddr rfl (.pure _ _ _ _) rfl (by omega) hga) rfl rfl ?_; refine d_neu (n_load_eref rfl rfl) rfl rfl ?_; refine d_neu (n_move rfl rfl) rfl rfl ?_; refine d_neu (n_move rfl rfl) rfl rfl ?_; refine d_neu (n_indexAddr rfl (.pure _ _ _ _) rfl (by omega) hgc) rfl rfl ?_; refine d_neu (n_load_eref rfl rfl) rfl rfl ?_; refine d_neu (n_call1 (srange_ok a q hra (by omega)) rfl rfl) rfl rfl ?_; refine d_neu (n_add_s rfl rfl (by (simp only [List.length_append, List.length_cons, List.length_nil]; omega))) rfl rfl ?_; refine d_nil ?_; refine met_step (writeString_met (xs := B) (s := [32, 45] ++ rangeOf a q) ⟨⟨_, .inr rfl, rfl⟩, rfl⟩ (by simp only [List.length_append, List.length_cons, List.length_nil]; omega)) rfl rfl rfl ?_; rintro _ _ ⟨rfl, rfl⟩; refine ⟨_, rfl, ?_⟩; refine d_nil ?_
    refine k4 ?_; refine k1 ?_
    refine c_region ?_; refine l_neu (n_add rfl rfl (by omega)) rfl ?_; refine l_neu (n_move rfl rfl) rfl ?_; refine l_nil ?_
    refine k1 ?_
    refine ⟨p + 1, by omega, by omega, ?_⟩
    have hs2 : A ++ sidesW n h (p + 1) = B ++ ([32, 45] ++ rangeOf a q) := by rw [hsucc, hB, List.append_assoc]
    rw [hs2]
    exact Sees.of ⟨le1 rfl, le1 rfl, le1 rfl, le1 rfl, le1 rfl, le1 rfl, le1 rfl, trivial⟩ ⟨rfl, rfl, rfl, trivial⟩
  · have hpn : p = n := by have := of_decide_eq_false ht; omega
    subst hpn
    have hga := hgA p (by omega)
    have hgc := hgC p (by omega)
    have hra := hrA p (by omega)
    have hcp := hcnt p
    have hrl := rangeOf_len (h.At.getD p 0) (cntC h.Rows p p)
    obtain ⟨a, haa⟩ : ∃ a, a = h.At.getD p 0 := ⟨_, rfl⟩
    obtain ⟨q, hqq⟩ : ∃ q, q = cntC h.Rows p p := ⟨_, rfl⟩
    rw [← haa] at hga hra hrl ⊢
    rw [← hqq] at hgc hcp hrl ⊢
    have hlb : (A ++ sidesW p h p).length ≤ 1000 := by rw [List.length_append]; omega
    obtain ⟨B, hB⟩ : ∃ B, B = A ++ sidesW p h p := ⟨_, rfl⟩
    rw [← hB] at hlb ⊢
    refine k6 ?_; refine k2 ?_
    refine c_region_turn 15 (by kernel_rfl) (by kernel_rfl) rfl ?_; refine d_neu (n_field_ref rfl) rfl rfl ?_; refine d_neu (n_load_ref rfl rfl rfl) rfl rfl ?_; refine d_neu (n_move rfl rfl) rfl rfl ?_; refine d_neu (n_indexAddr rfl (.pure _ _ _ _) rfl (by omega) hga) rfl rfl ?_; refine d_neu (n_load_eref rfl rfl) rfl rfl ?_; refine d_neu (n_move rfl rfl) rfl rfl ?_; refine d_neu (n_move rfl rfl) rfl rfl ?_; refine d_neu (n_indexAddr rfl (.pure _ _ _ _) rfl (by omega) hgc) rfl rfl ?_; refine d_neu (n_load_eref rfl rfl) rfl rfl ?_; refine d_neu (n_call1 (srange_ok a q hra (by omega)) rfl rfl) rfl rfl ?_; refine d_neu (n_add_s rfl rfl (by (simp only [List.length_append, List.length_cons, List.length_nil]; omega))) rfl rfl ?_; refine d_neu (n_add_s rfl rfl (by (simp only [List.length_append, List.length_cons, List.length_nil]; omega))) rfl rfl ?_; refine d_neu (n_move rfl rfl) rfl rfl ?_; refine d_neu (n_add_s rfl rfl (by (simp only [List.length_append, List.length_cons, List.length_nil]; omega))) rfl rfl ?_; refine d_neu (n_add_s rfl rfl (by (simp only [List.length_append, List.length_cons, List.length_nil]; omega))) rfl rfl ?_; refine d_nil ?_; refine met_step (writeString_met (xs := B) (s := [32, 43] ++ rangeOf a q ++ [32] ++ A ++ [10]) ⟨⟨_, .inr rfl, rfl⟩, rfl⟩ (by simp only [List.length_append, List.length_cons, List.length_nil]; omega)) rfl rfl rfl ?_; rintro _ _ ⟨rfl, rfl⟩; refine ⟨_, rfl, ?_⟩; refine d_nil ?_
    refine k1 ?_; refine k2 ?_
    refine c_region ?_; refine l_bstring (k := 700) (k' := 701) ⟨_, rfl, rfl, rfl⟩ bstring_calls rfl rfl rfl rfl rfl (.inr rfl) rfl ?_; refine l_neu (n_assign rfl rfl) rfl ?_; refine l_nil ?_
    refine k1 ?_; refine k10 ?_
    exact ret_ret (ret1 rfl rfl rfl) rfl
def markC (r : Row) : UInt8 := if r.Lost then 45 else 43
theorem crow_ok (r : Row) (n : Nat) (hn : n ≤ 32) (hm : 0 ≤ r.Marks ∧ r.Marks < 4294967296) (hx : r.Text.length ≤ 268435456) :
    FnOk Tryd.prog 23 [pRow r, pInt n] (fun rs => rs = [pStr (rowPs n r).flatten]) := by
  rw [rowPs_flat]
  refine FnOk.intro Tryd.func23 (by decide) rfl rfl rfl rfl ?_
  refine k2 ?_
  refine c_region ?_; refine l_effv (f_box 2 rfl rfl rfl) rfl ?_; refine l_neu (n_assign rfl rfl) rfl ?_; refine l_nil ?_
  refine k1 ?_; refine k2 ?_
  refine c_region ?_; refine l_neu (n_assign rfl rfl) rfl ?_; refine l_nil ?_
  refine then_normal ?_
  refine c_join [(1, sInt n), (2, .s (.one (.ref 2 0))), (5, sVal (.int .u8 (markC r).toNat))] [(2, .box (pRow r).s1.cells)] ?_ ?_
  · refine k2 ?_
    refine c_region ?_; refine l_neu (n_field_ref rfl) rfl ?_; refine l_neu (n_load_ref rfl rfl rfl) rfl ?_; refine l_nil ?_
    refine k1 ?_
    refine c_cond rfl (fun ht => ?_) (fun ht => ?_)
    · have h : r.Lost = true := ht
      skip
      refine c_region ?_; refine l_neu (n_assign rfl rfl) rfl ?_; refine l_nil ?_
      refine k1 ?_
      rw [show markC r = 45 by unfold markC; rw [h]; rfl]
      exact Sees.of ⟨le1 rfl, le1 rfl, le1 rfl, trivial⟩ ⟨rfl, trivial⟩
    · have h : r.Lost = false := ht
      refine k5 ?_; refine k1 ?_
      rw [show markC r = 43 by unfold markC; rw [h]; rfl]
      exact Sees.of ⟨le1 rfl, le1 rfl, le1 rfl, trivial⟩ ⟨rfl, trivial⟩
  refine k2 ?_
  refine c_region ?_; refine l_neu (n_move rfl rfl) rfl ?_; refine l_neu (n_field_ref rfl) rfl ?_; refine l_neu (n_load_ref rfl rfl rfl) rfl ?_; refine l_neu (n_len_s rfl) rfl ?_; refine l_neu (n_add rfl rfl (by omega)) rfl ?_; refine l_neu (n_add rfl rfl (by omega)) rfl ?_; refine l_effv (f_makeCap 730 UInt8 u8C rfl rfl (by omega) (by omega) (by first | rfl | (simp [frFree, obFree, Ob.free, SV.free, S1.free, TC.free] <;> rfl))) rfl ?_; refine l_neu (n_assign rfl rfl) rfl ?_; refine l_nil ?_
  refine k1 ?_; refine k2 ?_; refine k2 ?_
  refine c_region ?_; refine l_neu (n_move rfl rfl) rfl ?_; refine l_neu (n_move rfl rfl) rfl ?_; refine l_nil ?_
  refine k1 ?_; refine k3 ?_
  refine c_while (X := Nat) (fun p => ([(1, sInt n), (2, .s (.one (.ref 2 0))), (5, sVal (.int .u8 (markC r).toNat)), (6, .s (.one (.buf 730 UInt8 1 u8C (marksS p r)))), (17, sInt n), (18, sInt p)], [(2, .box (pRow r).s1.cells), (730, .spare (marksS p r).length 1 5)])) (fun p => p ≤ n) (fun p => n - p) 0 (Nat.zero_le _) (Sees.of ⟨le1 rfl, le1 rfl, le1 rfl, le1 rfl, le1 rfl, le1 rfl, trivial⟩ ⟨rfl, rfl, trivial⟩) ?_
  intro p hp
  dsimp only at hp ⊢
  have hml := marks_len p r
  have hsucc := marksS_succ p r
  refine k2 ?_
  refine c_region ?_; refine l_neu (n_lss rfl rfl) rfl ?_; refine l_nil ?_
  refine k1 ?_; refine k2 ?_
  refine c_cond rfl (fun ht => ?_) (fun ht => ?_)
  · have hlt : p < n := by have := of_decide_eq_true ht; omega
    refine k5 ?_; refine k1 ?_; refine k2 ?_; refine k3 ?_; refine k2 ?_
    refine c_region ?_; refine l_neu (n_move rfl rfl) rfl ?_; refine l_neu (n_assign rfl rfl) rfl ?_; refine l_nil ?_
    refine k1 ?_; refine k2 ?_
    refine c_region ?_; refine l_neu (n_field_ref rfl) rfl ?_; refine l_neu (n_load_ref rfl rfl rfl) rfl ?_; refine l_neu (n_move rfl rfl) rfl ?_; refine l_neu (n_shr rfl rfl (by omega)) rfl ?_; refine l_neu (n_bits rfl rfl rfl (fun _ => rfl)) rfl ?_; refine l_neu (n_eql rfl rfl) rfl ?_; refine l_nil ?_
    refine k1 ?_
    have h3 : 0 ≤ r.Marks / 2 ^ p := Int.ediv_nonneg hm.1 (Int.pow_nonneg (by decide))
    have h4 : r.Marks / 2 ^ p ≤ r.Marks := Int.ediv_le_self _ hm.1
    have e32 : r.Marks.fdiv (2 ^ (min (p : Int).toNat IntKind.u32.bits)) = r.Marks / 2 ^ p := shr32 r.Marks p (by omega)
    have e1 := and1_u32 (r.Marks / 2 ^ p) (by omega)
    refine c_cond rfl (fun ht => ?_) (fun ht => ?_)
    · rw [e32, e1] at ht
      have hb : bitAt r.Marks p = true := by unfold bitAt; simpa using ht
      have hmk : markB r p = markC r := by unfold markB markC; rw [hb, if_neg (by decide)]
      rw [hmk] at hsucc
      skip
      refine c_region ?_; refine l_neu (n_move rfl rfl) rfl ?_; refine l_neu (n_move rfl rfl) rfl ?_; refine l_neu (n_buildSlice (c := u8C) (ys := [markC r]) (asm_cons rfl rfl rfl rfl asm_nil) rfl rfl rfl) rfl ?_; refine l_effv (e_append rfl rfl rfl (.pure _ _ _ _) (by (simp only [List.length_cons, List.length_nil]; omega)) rfl) rfl ?_; refine l_neu (n_assign rfl rfl) rfl ?_; refine l_nil ?_
      refine k4 ?_; refine k1 ?_
      refine c_region ?_; refine l_neu (n_add rfl rfl (by omega)) rfl ?_; refine l_neu (n_move rfl rfl) rfl ?_; refine l_nil ?_
      refine k1 ?_
      refine ⟨p + 1, by omega, by omega, ?_⟩
      rw [hsucc]
      exact Sees.of ⟨le1 rfl, le1 rfl, le1 rfl, le1 rfl, le1 rfl, le1 rfl, trivial⟩ ⟨rfl, rfl, trivial⟩
    · rw [e32, e1] at ht
      have hb : bitAt r.Marks p = false := by unfold bitAt; simpa using ht
      have hmk : markB r p = 32 := by unfold markB; rw [if_pos hb]
      rw [hmk] at hsucc
      skip
      refine c_region ?_; refine l_neu (n_move rfl rfl) rfl ?_; refine l_neu (n_buildSlice (c := u8C) (ys := [32]) (asm_cons rfl rfl rfl rfl asm_nil) rfl rfl rfl) rfl ?_; refine l_effv (e_append rfl rfl rfl (.pure _ _ _ _) (by (simp only [List.length_cons, List.length_nil]; omega)) rfl) rfl ?_; refine l_neu (n_assign rfl rfl) rfl ?_; refine l_nil ?_
      refine k4 ?_; refine k1 ?_
      refine c_region ?_; refine l_neu (n_add rfl rfl (by omega)) rfl ?_; refine l_neu (n_move rfl rfl) rfl ?_; refine l_nil ?_
      refine k1 ?_
      refine ⟨p + 1, by omega, by omega, ?_⟩
      rw [hsucc]
      exact Sees.of ⟨le1 rfl, le1 rfl, le1 rfl, le1 rfl, le1 rfl, le1 rfl, trivial⟩ ⟨rfl, rfl, trivial⟩
  · have hpn : p = n := by have := of_decide_eq_false ht; omega
    subst hpn
    refine k6 ?_; refine k2 ?_
    refine c_region ?_; refine l_neu (n_move rfl rfl) rfl ?_; refine l_neu (n_field_ref rfl) rfl ?_; refine l_neu (n_load_ref rfl rfl rfl) rfl ?_; refine l_effv (e_append_s TyStr.out rfl rfl rfl (by omega) rfl) rfl ?_; refine l_neu (n_assign rfl rfl) rfl ?_; refine l_nil ?_
    refine k1 ?_; refine k2 ?_; refine k2 ?_
    refine c_region ?_; refine l_neu (n_field_ref rfl) rfl ?_; refine l_neu (n_load_ref rfl rfl rfl) rfl ?_; refine l_call (tended_ok r.Text (by omega)) rfl rfl rfl ?_; rintro _ rfl; refine l_neu (n_not rfl) rfl ?_; refine l_nil ?_
    refine k1 ?_
    refine c_cond rfl (fun ht => ?_) (fun ht => ?_)
    · have h : ended r.Text = false := by simpa using ht
      skip
      refine c_region ?_; refine l_neu (n_move rfl rfl) rfl ?_; refine l_effv (e_append_s TyStr.out rfl rfl rfl (by (simp only [List.length_append, List.length_cons, List.length_nil]; omega)) rfl) rfl ?_; refine l_neu (n_assign rfl rfl) rfl ?_; refine l_nil ?_
      refine k1 ?_; refine k2 ?_
      refine c_region ?_; refine l_neu (n_move rfl rfl) rfl ?_; refine l_neu (n_bytes_string TyStr.out rfl (.buf _ _ _ _ _)) rfl ?_; refine l_neu (n_assign rfl rfl) rfl ?_; refine l_nil ?_
      refine k1 ?_; refine k10 ?_
      exact ret_ret (ret1 rfl rfl rfl) (by rw [h, if_neg (by decide)]; rfl)
    · have h : ended r.Text = true := by simpa using ht
      refine k5 ?_; refine k1 ?_; refine k2 ?_
      refine c_region ?_; refine l_neu (n_move rfl rfl) rfl ?_; refine l_neu (n_bytes_string TyStr.out rfl (.buf _ _ _ _ _)) rfl ?_; refine l_neu (n_assign rfl rfl) rfl ?_; refine l_nil ?_
      refine k1 ?_; refine k10 ?_
      exact ret_ret (ret1 rfl rfl rfl) (by rw [if_pos h, List.append_nil])
structure CFit (c : Comb) : Prop where
  par : 0 ≤ c.Parents ∧ c.Parents ≤ 32
  path : c.Path.length ≤ 4194304
  sz : szC c.Hunks ≤ 268435456
  rows : ∀ h ∈ c.Hunks, rowsIn h.Rows
  ats : ∀ h ∈ c.Hunks, h.At.length = c.Parents.toNat + 1 ∧ ∀ a ∈ h.At, -4611686018427387904 ≤ a ∧ a ≤ 4611686018427387904
theorem csize_ok (c : Comb) (hc : CFit c) : FnOk Tryd.prog 36 [pComb c] (fun rs => rs = [pInt (writeC c).length]) := by
  obtain ⟨h1, h2, h3, h4, h5⟩ := hc
  have hzl := szC_len c.Hunks
  have hm29 : markS.length = 29 := rfl
  obtain ⟨n, hN⟩ : ∃ n, n = c.Parents.toNat := ⟨_, rfl⟩
  have hNc : c.Parents = (n : Int) := by omega
  have hn : n ≤ 32 := by omega
  have hct := fun k => cTo_len c (by omega) k
  have hcs := fun k h => cTo_succ c k h
  rw [← hN] at h5 hcs
  refine FnOk.intro Tryd.func36 (by decide) rfl rfl rfl rfl ?_
  refine k2 ?_
  refine c_region ?_; refine l_effv (f_box 1 rfl rfl rfl) rfl ?_; refine l_neu (n_assign rfl rfl) rfl ?_; refine l_nil ?_
  refine k1 ?_; refine k2 ?_
  refine c_region ?_; refine l_neu (n_loads_ref rfl rfl rfl) rfl ?_; refine l_call (ctitle_ok c (by omega)) rfl rfl rfl ?_; rintro _ rfl; refine l_neu (n_len_s rfl) rfl ?_; refine l_neu (n_assign rfl rfl) rfl ?_; refine l_nil ?_
  refine k1 ?_; refine k2 ?_; refine k2 ?_
  refine c_region ?_; refine l_neu (n_field_ref rfl) rfl ?_; refine l_neu (n_load_ref rfl rfl rfl) rfl ?_; refine l_neu (n_len rfl (.pure _ _ _ _)) rfl ?_; refine l_neu (n_move rfl rfl) rfl ?_; refine l_nil ?_
  refine k1 ?_; refine k3 ?_
  refine c_while (X := Nat) (fun k => ([(1, .s (.one (.ref 1 0))), (3, sInt (cTo c k).length), (12, sList CHunk 2 chunkC c.Hunks), (13, sInt c.Hunks.length), (14, sInt k)], [(1, cBox c)])) (fun k => k ≤ c.Hunks.length) (fun k => c.Hunks.length - k) 0 (Nat.zero_le _) (by rw [cTo_zero]; exact Sees.of ⟨le1 rfl, le1 rfl, le1 rfl, le1 rfl, le1 rfl, trivial⟩ ⟨rfl, trivial⟩) ?_
  intro k hk
  dsimp only at hk ⊢
  have hck := hct k
  refine k2 ?_
  refine c_region ?_; refine l_neu (n_lss rfl rfl) rfl ?_; refine l_nil ?_
  refine k1 ?_; refine k2 ?_
  refine c_cond rfl (fun ht => ?_) (fun ht => ?_)
  · have hlt : k < c.Hunks.length := by have := of_decide_eq_true ht; omega
    have hv : c.Hunks[k]? = some c.Hunks[k] := by simp [hlt]
    have hmem := List.getElem_mem hlt
    have hrw := h4 _ hmem
    have hat := h5 _ hmem
    have hzm := szC_mem hmem
    have hsucc := hcs k hlt
    obtain ⟨h, hx⟩ : ∃ x, x = c.Hunks[k] := ⟨_, rfl⟩
    rw [← hx] at hv hrw hat hzm hsucc
    have hz1 := szRow_len h.Rows
    have hz2 := szRow_text h.Rows
    unfold szCh at hzm
    have hh := cheader_ok h n hn hrw (by omega) hat.1 hat.2
    rw [← hNc] at hh
    have hhl := headC_len hn h
    obtain ⟨base, hbase⟩ : ∃ base, base = (cTo c k).length := ⟨_, rfl⟩
    have hcl := congrArg List.length hsucc
    rw [List.length_append, chunk_rTo, List.length_append, ← hbase] at hcl
    rw [← hbase] at hck ⊢
    obtain ⟨hd, hhd⟩ : ∃ hd, hd = headC n h ++ [10] := ⟨_, rfl⟩
    have hdl : hd.length ≤ 926 := by rw [hhd, List.length_append]; simp only [List.length_cons, List.length_nil]; omega
    rw [← hhd] at hh hcl
    refine k5 ?_; refine k1 ?_; refine k2 ?_; refine k3 ?_; refine k2 ?_
    refine c_region ?_; refine l_neu (n_indexAddr rfl (.pure _ _ _ _) rfl (by omega) hv) rfl ?_; refine l_neu (n_loads_eref rfl rfl) rfl ?_; refine l_effv (f_alloc 5 rfl) rfl ?_; refine l_eff (e_store_ref TySz.out rfl rfl rfl rfl rfl rfl) ?_; refine l_nil ?_
    refine k1 ?_; refine k2 ?_
    refine c_region ?_; refine l_neu (n_move rfl rfl) rfl ?_; refine l_neu (n_loads_ref rfl rfl rfl) rfl ?_; refine l_neu (n_field_ref rfl) rfl ?_; refine l_neu (n_load_ref rfl rfl rfl) rfl ?_; refine l_call (hh) rfl rfl rfl ?_; rintro _ rfl; refine l_neu (n_len_s rfl) rfl ?_; refine l_neu (n_add rfl rfl (by omega)) rfl ?_; refine l_neu (n_assign rfl rfl) rfl ?_; refine l_nil ?_
    refine k1 ?_; refine k2 ?_
    refine c_region ?_; refine l_neu (n_field_ref rfl) rfl ?_; refine l_neu (n_load_ref rfl rfl rfl) rfl ?_; refine l_neu (n_len rfl (.pure _ _ _ _)) rfl ?_; refine l_neu (n_move rfl rfl) rfl ?_; refine l_nil ?_
    refine k1 ?_; refine k3 ?_
    refine c_while (X := Nat) (fun j => ([(1, .s (.one (.ref 1 0))), (3, sInt (base + hd.length + (rTo n h.Rows j).length : Nat)), (12, sList CHunk 2 chunkC c.Hunks), (13, sInt c.Hunks.length), (14, sInt k), (26, sList Row 3 rowC h.Rows), (27, sInt h.Rows.length), (28, sInt j)], [(1, cBox c)])) (fun j => j ≤ h.Rows.length) (fun j => h.Rows.length - j) 0 (Nat.zero_le _) ?_ ?_
    · have e : ((base + hd.length + (rTo n h.Rows 0).length : Nat) : Int) = (base : Int) + (hd.length : Int) := by rw [rTo_zero]; simp
      rw [e]
      exact Sees.of ⟨le1 rfl, le1 rfl, le1 rfl, le1 rfl, le1 rfl, le1 rfl, le1 rfl, le1 rfl, trivial⟩ ⟨rfl, trivial⟩
    intro j hj
    dsimp only at hj ⊢
    have hrl := rTo_len hn h.Rows j
    refine k2 ?_
    refine c_region ?_; refine l_neu (n_lss rfl rfl) rfl ?_; refine l_nil ?_
    refine k1 ?_; refine k2 ?_
    refine c_cond rfl (fun ht => ?_) (fun ht => ?_)
    · have hlt2 : j < h.Rows.length := by have := of_decide_eq_true ht; omega
      have hv2 : h.Rows[j]? = some h.Rows[j] := by simp [hlt2]
      have hrm := szRow_mem (List.getElem_mem hlt2)
      have hsucc2 := rTo_succ n h.Rows j hlt2
      obtain ⟨r, hy⟩ : ∃ x, x = h.Rows[j] := ⟨_, rfl⟩
      rw [← hy] at hv2 hrm hsucc2
      have hrm : r.Text.length + 96 ≤ (h.Rows.map szRow).sum := hrm
      have hl2 := congrArg List.length hsucc2
      have hml := marks_len n r
      rw [List.length_append, rowPs_flat, List.length_append, List.length_append, hml] at hl2
      refine k5 ?_; refine k1 ?_; refine k2 ?_; refine k3 ?_; refine k2 ?_
      refine c_region ?_; refine l_neu (n_indexAddr rfl (.pure _ _ _ _) rfl (by omega) hv2) rfl ?_; refine l_neu (n_loads_eref rfl rfl) rfl ?_; refine l_effv (f_alloc 7 rfl) rfl ?_; refine l_eff (e_store_ref TySz.out rfl rfl rfl rfl rfl rfl) ?_; refine l_nil ?_
      refine k1 ?_; refine k2 ?_
      refine c_region ?_; refine l_neu (n_move rfl rfl) rfl ?_; refine l_neu (n_field_ref rfl) rfl ?_; refine l_neu (n_load_ref rfl rfl rfl) rfl ?_; refine l_neu (n_field_ref rfl) rfl ?_; refine l_neu (n_load_ref rfl rfl rfl) rfl ?_; refine l_neu (n_len_s rfl) rfl ?_; refine l_neu (n_add rfl rfl (by omega)) rfl ?_; refine l_neu (n_add rfl rfl (by omega)) rfl ?_; refine l_neu (n_assign rfl rfl) rfl ?_; refine l_nil ?_
      refine k1 ?_; refine k2 ?_
      refine c_region ?_; refine l_neu (n_field_ref rfl) rfl ?_; refine l_neu (n_load_ref rfl rfl rfl) rfl ?_; refine l_call (tended_ok r.Text (by omega)) rfl rfl rfl ?_; rintro _ rfl; refine l_neu (n_not rfl) rfl ?_; refine l_nil ?_
      refine k1 ?_
      refine c_cond rfl (fun ht => ?_) (fun ht => ?_)
      · have h2 : ended r.Text = false := by simpa using ht
        rw [h2, if_neg (by decide), hm29] at hl2
        have e : ((base + hd.length + (rTo n h.Rows (j + 1)).length : Nat) : Int) = ((base + hd.length + (rTo n h.Rows j).length : Nat) : Int) + (c.Parents + (r.Text.length : Int)) + 29 := by omega
        skip
        refine c_region ?_; refine l_neu (n_move rfl rfl) rfl ?_; refine l_neu (n_add rfl rfl (by omega)) rfl ?_; refine l_neu (n_assign rfl rfl) rfl ?_; refine l_nil ?_
        refine k4 ?_; refine k1 ?_
        refine c_region ?_; refine l_neu (n_add rfl rfl (by omega)) rfl ?_; refine l_neu (n_move rfl rfl) rfl ?_; refine l_nil ?_
        refine k1 ?_
        refine ⟨j + 1, by omega, by omega, ?_⟩
        rw [e]
        exact Sees.of ⟨le1 rfl, le1 rfl, le1 rfl, le1 rfl, le1 rfl, le1 rfl, le1 rfl, le1 rfl, trivial⟩ ⟨rfl, trivial⟩
      · have h2 : ended r.Text = true := by simpa using ht
        rw [if_pos h2, List.length_nil] at hl2
        have e : ((base + hd.length + (rTo n h.Rows (j + 1)).length : Nat) : Int) = ((base + hd.length + (rTo n h.Rows j).length : Nat) : Int) + (c.Parents + (r.Text.length : Int)) := by omega
        refine k5 ?_; refine k4 ?_; refine k1 ?_
        refine c_region ?_; refine l_neu (n_add rfl rfl (by omega)) rfl ?_; refine l_neu (n_move rfl rfl) rfl ?_; refine l_nil ?_
        refine k1 ?_
        refine ⟨j + 1, by omega, by omega, ?_⟩
        rw [e]
        exact Sees.of ⟨le1 rfl, le1 rfl, le1 rfl, le1 rfl, le1 rfl, le1 rfl, le1 rfl, le1 rfl, trivial⟩ ⟨rfl, trivial⟩
    · have hjl : j = h.Rows.length := by have := of_decide_eq_false ht; omega
      subst hjl
      have e : base + hd.length + (rTo n h.Rows h.Rows.length).length = (cTo c (k + 1)).length := by omega
      rw [e]
      refine k6 ?_; refine k7 ?_; refine k7 ?_; refine k8 rfl ?_; refine k4 ?_; refine k1 ?_
      refine c_region ?_; refine l_neu (n_add rfl rfl (by omega)) rfl ?_; refine l_neu (n_move rfl rfl) rfl ?_; refine l_nil ?_
      refine k1 ?_
      exact ⟨k + 1, by omega, by omega, Sees.of ⟨le1 rfl, le1 rfl, le1 rfl, le1 rfl, le1 rfl, trivial⟩ ⟨rfl, trivial⟩⟩
  · have hkl : k = c.Hunks.length := by have := of_decide_eq_false ht; omega
    subst hkl
    rw [cTo_full]
    refine k6 ?_; refine k2 ?_
    refine c_region ?_; refine l_neu (n_move rfl rfl) rfl ?_; refine l_neu (n_assign rfl rfl) rfl ?_; refine l_nil ?_
    refine k1 ?_; refine k10 ?_
    exact ret_ret (ret1 rfl rfl rfl) rfl
theorem check_fit {c : Comb} (hp : c.Path.length ≤ 4194304) (hn : 1 ≤ c.Parents ∧ c.Parents ≤ 32) (hz : szC c.Hunks ≤ 268435456) (hr : ∀ h ∈ c.Hunks, rowsIn h.Rows) (hg : chunksOk c.Parents.toNat c.Hunks = true) : CFit c := by
  refine ⟨by omega, hp, hz, hr, fun h hm => ?_⟩
  unfold chunksOk at hg
  rw [Bool.and_eq_true] at hg
  obtain ⟨a1, a2, a3⟩ := chunks_go c.Hunks _ (fun k hk => by rw [List.getD_eq_getElem?_getD, List.getElem?_replicate_of_lt hk]; exact Int.le_refl _) hg.1 h hm
  refine ⟨a1, fun a ha => ?_⟩
  obtain ⟨k, hk, rfl⟩ := List.getElem_of_mem ha
  have h1 := a3 k (by omega)
  have h2 := cnt_le h.Rows c.Parents.toNat k
  have e : h.At.getD k 0 = h.At[k] := by rw [List.getD_eq_getElem?_getD, List.getElem?_eq_getElem hk]; rfl
  rw [e] at h1
  omega
theorem ccheck_ok (c : Comb) (hz : szC c.Hunks ≤ 268435456) (hr : ∀ h ∈ c.Hunks, rowsIn h.Rows) : FnOk Tryd.prog 19 [pComb c] (fun rs => rs = [pInt (check18 c)]) := by
  refine FnOk.intro Tryd.func19 (by decide) rfl rfl rfl rfl ?_
  refine k2 ?_
  refine c_region ?_; refine l_effv (f_box 1 rfl rfl rfl) rfl ?_; refine l_neu (n_assign rfl rfl) rfl ?_; refine l_nil ?_
  refine k1 ?_; refine k2 ?_; refine k3 ?_; refine k2 ?_
  refine c_region ?_; refine l_neu (n_field_ref rfl) rfl ?_; refine l_neu (n_load_ref rfl rfl rfl) rfl ?_; refine l_call (cnamed_ok c.Path) rfl rfl rfl ?_; rintro _ rfl; refine l_neu (n_not rfl) rfl ?_; refine l_neu (n_assign rfl rfl) rfl ?_; refine l_nil ?_
  refine k1 ?_
  refine c_cond rfl (fun ht => ?_) (fun ht => ?_)
  · have h : nameOk c.Path = false := by simpa using ht
    refine k2 ?_
    refine c_region ?_; refine l_neu (n_assign rfl rfl) rfl ?_; refine l_nil ?_
    refine k1 ?_; refine k10 ?_; refine k12 ?_; refine k11 ?_
    exact ret_ret (ret1 rfl rfl rfl) (by unfold check18; rw [if_pos h])
  have h : nameOk c.Path = true := by simpa using ht
  have hpl := of_decide_eq_true h
  refine k2 ?_
  refine c_region ?_; refine l_neu (n_field_ref rfl) rfl ?_; refine l_neu (n_load_ref rfl rfl rfl) rfl ?_; refine l_neu (n_lss rfl rfl) rfl ?_; refine l_neu (n_move rfl rfl) rfl ?_; refine l_guard rfl rfl rfl rfl (fun hg => by rw [hg]; exact n_field_ref rfl) ?_; refine l_guard rfl rfl rfl rfl (fun hg => by rw [hg]; exact n_load_ref rfl rfl rfl) ?_; refine l_guard rfl rfl rfl rfl (fun hg => by rw [hg]; exact n_gtr rfl rfl) ?_; refine l_neu (n_pick_bool rfl (fun h => by first | rfl | (rw [h]; rfl)) (fun h => by first | rfl | (rw [h]; rfl))) rfl ?_; refine l_neu (n_assign rfl rfl) rfl ?_; refine l_nil ?_
  refine k1 ?_
  refine c_cond rfl (fun ht => ?_) (fun ht => ?_)
  · have h1 := of_decide_eq_true (or_pick.symm.trans ht)
    refine k2 ?_
    refine c_region ?_; refine l_neu (n_assign rfl rfl) rfl ?_; refine l_nil ?_
    refine k1 ?_; refine k10 ?_; refine k12 ?_; refine k11 ?_
    exact ret_ret (ret1 rfl rfl rfl) (by unfold check18; rw [if_neg (by rw [h]; decide), if_pos (by omega)])
  have h1 := of_decide_eq_false (or_pick.symm.trans ht)
  have hn : 1 ≤ c.Parents ∧ c.Parents ≤ 32 := by omega
  refine k2 ?_
  refine c_region ?_; refine l_neu (n_loads_ref rfl rfl rfl) rfl ?_; refine l_call (cmarked_ok c hn hr hz) rfl rfl rfl ?_; rintro _ rfl; refine l_neu (n_not rfl) rfl ?_; refine l_neu (n_assign rfl rfl) rfl ?_; refine l_nil ?_
  refine k1 ?_
  refine c_cond rfl (fun ht => ?_) (fun ht => ?_)
  · have h2 : marksC c.Parents.toNat c.Hunks = false := by simpa using ht
    refine k2 ?_
    refine c_region ?_; refine l_neu (n_assign rfl rfl) rfl ?_; refine l_nil ?_
    refine k1 ?_; refine k10 ?_; refine k12 ?_; refine k11 ?_
    exact ret_ret (ret1 rfl rfl rfl) (by unfold check18; rw [if_neg (by rw [h]; decide), if_neg (by omega), if_pos h2])
  have h2 : marksC c.Parents.toNat c.Hunks = true := by simpa using ht
  have hw := cwell_ok c hn hr hz
  rw [well_chunks (by omega) h2] at hw
  refine k2 ?_
  refine c_region ?_; refine l_neu (n_loads_ref rfl rfl rfl) rfl ?_; refine l_call (hw) rfl rfl rfl ?_; rintro _ rfl; refine l_neu (n_not rfl) rfl ?_; refine l_neu (n_assign rfl rfl) rfl ?_; refine l_nil ?_
  refine k1 ?_
  refine c_cond rfl (fun ht => ?_) (fun ht => ?_)
  · have h3 : chunksOk c.Parents.toNat c.Hunks = false := by simpa using ht
    refine k2 ?_
    refine c_region ?_; refine l_neu (n_assign rfl rfl) rfl ?_; refine l_nil ?_
    refine k1 ?_; refine k10 ?_; refine k12 ?_; refine k11 ?_
    exact ret_ret (ret1 rfl rfl rfl) (by unfold check18; rw [if_neg (by rw [h]; decide), if_neg (by omega), if_neg (by rw [h2]; decide), if_pos h3])
  have h3 : chunksOk c.Parents.toNat c.Hunks = true := by simpa using ht
  refine k2 ?_
  refine c_region ?_; refine l_neu (n_loads_ref rfl rfl rfl) rfl ?_; refine l_call (csize_ok c (check_fit (by omega) hn hz hr h3)) rfl rfl rfl ?_; rintro _ rfl; refine l_neu (n_gtr rfl rfl) rfl ?_; refine l_neu (n_assign rfl rfl) rfl ?_; refine l_nil ?_
  refine k1 ?_
  refine c_cond rfl (fun ht => ?_) (fun ht => ?_)
  · have h4 := of_decide_eq_true ht
    refine k2 ?_
    refine c_region ?_; refine l_neu (n_assign rfl rfl) rfl ?_; refine l_nil ?_
    refine k1 ?_; refine k10 ?_; refine k12 ?_; refine k11 ?_
    exact ret_ret (ret1 rfl rfl rfl) (by unfold check18; rw [if_neg (by rw [h]; decide), if_neg (by omega), if_neg (by rw [h2]; decide), if_neg (by rw [h3]; decide), if_pos (by omega)])
  have h4 := of_decide_eq_false ht
  refine k5 ?_; refine k2 ?_
  refine c_region ?_; refine l_neu (n_assign rfl rfl) rfl ?_; refine l_nil ?_
  refine k1 ?_; refine k10 ?_
  exact ret_ret (ret1 rfl rfl rfl) (by unfold check18; rw [if_neg (by rw [h]; decide), if_neg (by omega), if_neg (by rw [h2]; decide), if_neg (by rw [h3]; decide), if_neg (by omega)])
theorem check0_fit {c : Comb} (h : check18 c = 0) (hz : szC c.Hunks ≤ 268435456) (hr : ∀ h ∈ c.Hunks, rowsIn h.Rows) : CFit c := by
  obtain ⟨h1, h2, h3, h4, h5⟩ := check_read h
  have hp := of_decide_eq_true h5
  have hg : chunksOk c.Parents.toNat c.Hunks = true := by
    cases hb : chunksOk c.Parents.toNat c.Hunks with
    | true => rfl
    | false =>
      exfalso
      unfold check18 at h
      rw [hb] at h
      rw [if_neg (by rw [h5]; decide), if_neg (by omega)] at h
      split at h
      · cases h
      · cases h
  exact check_fit (by omega) (by omega) hz hr hg
theorem cformat_ok (c : Comb) (hz : szC c.Hunks ≤ 268435456) (hr : ∀ h ∈ c.Hunks, rowsIn h.Rows) : FnOk Tryd.prog 14 [pComb c] (fun rs => rs = if check18 c = 0 then [pStr (writeC c), pInt 0] else [pStr [], pInt (check18 c)]) := by
  by_cases hck : check18 c = 0
  rotate_left
  · rw [if_neg hck]
    refine FnOk.intro Tryd.func14 (by decide) rfl rfl rfl rfl ?_
    refine k2 ?_
    refine c_region ?_; refine l_effv (f_box 1 rfl rfl rfl) rfl ?_; refine l_neu (n_assign rfl rfl) rfl ?_; refine l_neu (n_assign rfl rfl) rfl ?_; refine l_nil ?_
    refine k1 ?_; refine k2 ?_; refine k2 ?_
    refine c_region ?_; refine l_neu (n_loads_ref rfl rfl rfl) rfl ?_; refine l_call (ccheck_ok c hz hr) rfl rfl rfl ?_; rintro _ rfl; refine l_neu (n_assign rfl rfl) rfl ?_; refine l_nil ?_
    refine k1 ?_; refine k2 ?_
    refine c_region ?_; refine l_neu (n_move rfl rfl) rfl ?_; refine l_neu (n_neq rfl rfl) rfl ?_; refine l_nil ?_
    refine k1 ?_
    refine c_cond rfl (fun ht => ?_) (fun ht => ?_)
    rotate_left
    · exact absurd (Decidable.not_not.1 (of_decide_eq_false ht)) hck
    refine k2 ?_
    refine c_region ?_; refine l_neu (n_move rfl rfl) rfl ?_; refine l_neu (n_assign rfl rfl) rfl ?_; refine l_neu (n_assign rfl rfl) rfl ?_; refine l_nil ?_
    refine k1 ?_; refine k10 ?_; refine k11 ?_
    exact ret_ret (ret2 rfl rfl rfl rfl rfl) rfl
  rw [if_pos hck]
  have hcc := ccheck_ok c hz hr
  rw [hck] at hcc
  obtain ⟨h1, h2, _, h4, h5⟩ := check0_fit hck hz hr
  have hzl := szC_len c.Hunks
  obtain ⟨n, hN⟩ : ∃ n, n = c.Parents.toNat := ⟨_, rfl⟩
  have hNc : c.Parents = (n : Int) := by omega
  have hn : n ≤ 32 := by omega
  have hct := fun k => cTo_len c (by omega) k
  have hcs := fun k h => cTo_succ c k h
  rw [← hN] at h5 hcs
  refine FnOk.intro Tryd.func14 (by decide) rfl rfl rfl rfl ?_
  refine k2 ?_
  refine c_region ?_; refine l_effv (f_box 1 rfl rfl rfl) rfl ?_; refine l_neu (n_assign rfl rfl) rfl ?_; refine l_neu (n_assign rfl rfl) rfl ?_; refine l_nil ?_
  refine k1 ?_; refine k2 ?_; refine k2 ?_
  refine c_region ?_; refine l_neu (n_loads_ref rfl rfl rfl) rfl ?_; refine l_call (hcc) rfl rfl rfl ?_; rintro _ rfl; refine l_neu (n_assign rfl rfl) rfl ?_; refine l_nil ?_
  refine k1 ?_; refine k2 ?_
  refine c_region ?_; refine l_neu (n_move rfl rfl) rfl ?_; refine l_neu (n_neq rfl rfl) rfl ?_; refine l_nil ?_
  refine k1 ?_
  refine c_cond rfl (fun ht => ?_) (fun ht => ?_)
  · cases ht
  refine k5 ?_; refine k1 ?_; refine k2 ?_
  refine c_region ?_; refine l_effv (f_allocT 700 rfl) rfl ?_; refine l_nil ?_
  refine k1 ?_; refine k2 ?_
  refine c_sees (Sees.adoptT 701 UInt8 1 u8C 5 (kb := 700) (o := 1) rfl rfl rfl) ?_
  have hct0 := hct 0
  rw [cTo_zero] at hct0
  refine c_region ?_; refine l_neu (n_loads_ref rfl rfl rfl) rfl ?_; refine l_call (ctitle_ok c (by omega)) rfl rfl rfl ?_; rintro _ rfl; refine l_met (writeString_met (xs := []) (s := titleS c) ⟨⟨_, .inl rfl, rfl⟩, rfl⟩ (by simp only [List.length_nil]; omega)) rfl rfl rfl ?_; rintro _ _ ⟨rfl, rfl⟩; refine l_nil ?_
  refine k1 ?_; refine k2 ?_; refine k2 ?_
  refine c_region ?_; refine l_neu (n_field_ref rfl) rfl ?_; refine l_neu (n_load_ref rfl rfl rfl) rfl ?_; refine l_neu (n_len rfl (.pure _ _ _ _)) rfl ?_; refine l_neu (n_move rfl rfl) rfl ?_; refine l_nil ?_
  refine k1 ?_; refine k3 ?_
  refine c_while (X := Nat) (fun k => ([(1, .s (.one (.ref 1 0))), (5, .s (.one (.ref 700 0))), (19, sList CHunk 2 chunkC c.Hunks), (20, sInt c.Hunks.length), (21, sInt k)], [(1, cBox c), (700, .tbx 62 [.ref 700 0, .buf 701 UInt8 1 u8C (cTo c k)]), (701, .spare (cTo c k).length 1 5)])) (fun k => k ≤ c.Hunks.length) (fun k => c.Hunks.length - k) 0 (Nat.zero_le _) (by rw [cTo_zero]; exact Sees.of ⟨le1 rfl, le1 rfl, le1 rfl, le1 rfl, le1 rfl, trivial⟩ ⟨rfl, rfl, rfl, trivial⟩) ?_
  intro k hk
  dsimp only at hk ⊢
  have hck := hct k
  refine k2 ?_
  refine c_region ?_; refine l_neu (n_lss rfl rfl) rfl ?_; refine l_nil ?_
  refine k1 ?_; refine k2 ?_
  refine c_cond rfl (fun ht => ?_) (fun ht => ?_)
  · have hlt : k < c.Hunks.length := by have := of_decide_eq_true ht; omega
    have hv : c.Hunks[k]? = some c.Hunks[k] := by simp [hlt]
    have hmem := List.getElem_mem hlt
    have hrw := h4 _ hmem
    have hat := h5 _ hmem
    have hzm := szC_mem hmem
    have hsucc := hcs k hlt
    obtain ⟨h, hx⟩ : ∃ x, x = c.Hunks[k] := ⟨_, rfl⟩
    rw [← hx] at hv hrw hat hzm hsucc
    have hz1 := szRow_len h.Rows
    have hz2 := szRow_text h.Rows
    unfold szCh at hzm
    have hh := cheader_ok h n hn hrw (by omega) hat.1 hat.2
    rw [← hNc] at hh
    have hhl := headC_len hn h
    obtain ⟨base, hbase⟩ : ∃ base, base = cTo c k := ⟨_, rfl⟩
    rw [chunk_rTo, ← hbase] at hsucc
    rw [← hbase] at hck ⊢
    obtain ⟨hd, hhd⟩ : ∃ hd, hd = headC n h ++ [10] := ⟨_, rfl⟩
    have hdl : hd.length ≤ 926 := by rw [hhd, List.length_append]; simp only [List.length_cons, List.length_nil]; omega
    rw [← hhd] at hh hsucc
    refine k5 ?_; refine k1 ?_; refine k2 ?_; refine k3 ?_; refine k2 ?_
    refine c_region ?_; refine l_neu (n_indexAddr rfl (.pure _ _ _ _) rfl (by omega) hv) rfl ?_; refine l_neu (n_loads_eref rfl rfl) rfl ?_; refine l_effv (f_alloc 7 rfl) rfl ?_; refine l_eff (e_store_ref TySz.out rfl rfl rfl rfl rfl rfl) ?_; refine l_nil ?_
    refine k1 ?_; refine k2 ?_
    refine c_region ?_; refine l_neu (n_loads_ref rfl rfl rfl) rfl ?_; refine l_neu (n_field_ref rfl) rfl ?_; refine l_neu (n_load_ref rfl rfl rfl) rfl ?_; refine l_call (hh) rfl rfl rfl ?_; rintro _ rfl; refine l_met (writeString_met (xs := base) (s := hd) ⟨⟨_, .inr rfl, rfl⟩, rfl⟩ (by omega)) rfl rfl rfl ?_; rintro _ _ ⟨rfl, rfl⟩; refine l_nil ?_
    refine k1 ?_; refine k2 ?_
    refine c_region ?_; refine l_neu (n_field_ref rfl) rfl ?_; refine l_neu (n_load_ref rfl rfl rfl) rfl ?_; refine l_neu (n_len rfl (.pure _ _ _ _)) rfl ?_; refine l_neu (n_move rfl rfl) rfl ?_; refine l_nil ?_
    refine k1 ?_; refine k3 ?_
    refine c_while (X := Nat) (fun j => ([(1, .s (.one (.ref 1 0))), (5, .s (.one (.ref 700 0))), (19, sList CHunk 2 chunkC c.Hunks), (20, sInt c.Hunks.length), (21, sInt k), (31, sList Row 3 rowC h.Rows), (32, sInt h.Rows.length), (33, sInt j)], [(1, cBox c), (700, .tbx 62 [.ref 700 0, .buf 701 UInt8 1 u8C (base ++ hd ++ rTo n h.Rows j)]), (701, .spare (base ++ hd ++ rTo n h.Rows j).length 1 5)])) (fun j => j ≤ h.Rows.length) (fun j => h.Rows.length - j) 0 (Nat.zero_le _) ?_ ?_
    · rw [rTo_zero, List.append_nil]
      exact Sees.of ⟨le1 rfl, le1 rfl, le1 rfl, le1 rfl, le1 rfl, le1 rfl, le1 rfl, le1 rfl, trivial⟩ ⟨rfl, rfl, rfl, trivial⟩
    intro j hj
    dsimp only at hj ⊢
    have hrl := rTo_len hn h.Rows j
    refine k2 ?_
    refine c_region ?_; refine l_neu (n_lss rfl rfl) rfl ?_; refine l_nil ?_
    refine k1 ?_; refine k2 ?_
    refine c_cond rfl (fun ht => ?_) (fun ht => ?_)
    · have hlt2 : j < h.Rows.length := by have := of_decide_eq_true ht; omega
      have hv2 : h.Rows[j]? = some h.Rows[j] := by simp [hlt2]
      have hmem2 := List.getElem_mem hlt2
      have hrm := szRow_mem hmem2
      have hmm := hrw _ hmem2
      have hsucc2 := rTo_succ n h.Rows j hlt2
      obtain ⟨r, hy⟩ : ∃ x, x = h.Rows[j] := ⟨_, rfl⟩
      rw [← hy] at hv2 hrm hsucc2 hmm
      have hrp := rowPs_len hn r
      have hrk := crow_ok r n hn hmm (by have hrm : r.Text.length + 96 ≤ (h.Rows.map szRow).sum := hrm; omega)
      rw [← hNc] at hrk
      obtain ⟨bs, hbs⟩ : ∃ bs, bs = base ++ hd ++ rTo n h.Rows j := ⟨_, rfl⟩
      have hbl : bs.length ≤ 16777216 + 48 + 268435456 + 926 + 268435456 := by rw [hbs, List.length_append, List.length_append]; omega
      rw [← hbs]
      refine k5 ?_; refine k1 ?_; refine k2 ?_; refine k3 ?_; refine k2 ?_
      refine c_region ?_; refine l_neu (n_indexAddr rfl (.pure _ _ _ _) rfl (by omega) hv2) rfl ?_; refine l_neu (n_loads_eref rfl rfl) rfl ?_; refine l_effv (f_alloc 9 rfl) rfl ?_; refine l_eff (e_store_ref TySz.out rfl rfl rfl rfl rfl rfl) ?_; refine l_nil ?_
      refine k1 ?_
      refine c_region ?_; refine l_neu (n_loads_ref rfl rfl rfl) rfl ?_; refine l_neu (n_field_ref rfl) rfl ?_; refine l_neu (n_load_ref rfl rfl rfl) rfl ?_; refine l_call (hrk) rfl rfl rfl ?_; rintro _ rfl; refine l_met (writeString_met (xs := bs) (s := (rowPs n r).flatten) ⟨⟨_, .inr rfl, rfl⟩, rfl⟩ (by omega)) rfl rfl rfl ?_; rintro _ _ ⟨rfl, rfl⟩; refine l_nil ?_
      refine k4 ?_; refine k1 ?_
      refine c_region ?_; refine l_neu (n_add rfl rfl (by omega)) rfl ?_; refine l_neu (n_move rfl rfl) rfl ?_; refine l_nil ?_
      refine k1 ?_
      refine ⟨j + 1, by omega, by omega, ?_⟩
      rw [hsucc2, ← List.append_assoc, ← hbs]
      exact Sees.of ⟨le1 rfl, le1 rfl, le1 rfl, le1 rfl, le1 rfl, le1 rfl, le1 rfl, le1 rfl, trivial⟩ ⟨rfl, rfl, rfl, trivial⟩
    · have hjl : j = h.Rows.length := by have := of_decide_eq_false ht; omega
      subst hjl
      have e : base ++ hd ++ rTo n h.Rows h.Rows.length = cTo c (k + 1) := by rw [hsucc, List.append_assoc]
      rw [e]
      refine k6 ?_; refine k7 ?_; refine k7 ?_; refine k8 rfl ?_; refine k4 ?_; refine k1 ?_
      refine c_region ?_; refine l_neu (n_add rfl rfl (by omega)) rfl ?_; refine l_neu (n_move rfl rfl) rfl ?_; refine l_nil ?_
      refine k1 ?_
      exact ⟨k + 1, by omega, by omega, Sees.of ⟨le1 rfl, le1 rfl, le1 rfl, le1 rfl, le1 rfl, trivial⟩ ⟨rfl, rfl, rfl, trivial⟩⟩
  · have hkl : k = c.Hunks.length := by have := of_decide_eq_false ht; omega
    subst hkl
    rw [cTo_full]
    refine k6 ?_; refine k2 ?_
    refine c_region ?_; refine l_bstring (k := 700) (k' := 701) ⟨_, rfl, rfl, rfl⟩ bstring_calls rfl rfl rfl rfl rfl (.inr rfl) rfl ?_; refine l_neu (n_assign rfl rfl) rfl ?_; refine l_neu (n_assign rfl rfl) rfl ?_; refine l_nil ?_
    refine k1 ?_; refine k10 ?_
    exact ret_ret (ret2 rfl rfl rfl rfl rfl) rfl
end Go.Proofs.YtgejaedjnbjpoaaDoor
namespace Go.Proofs.YtgejaedjnbjpoaaDoor
open Go Go.AL
set_option maxRecDepth 100000
def rowR (s : Str) (n : Int) : List PV := match rowI s n with
  | some r => [pRow r, pBool true]
  | none => [pRow ⟨false, 0, []⟩, pBool false]
theorem rowR_none {s : Str} {n : Int} (h : rowI s n = none) : rowR s n = [pRow ⟨false, 0, []⟩, pBool false] := by unfold rowR; rw [h]
theorem rowR_some {s : Str} {n : Int} {r : Row} (h : rowI s n = some r) : rowR s n = [pRow r, pBool true] := by unfold rowR; rw [h]
theorem pRow_ok (s : Str) (n : Int) : FnOk Tryd.prog 7 [pStr s, pInt n] (fun rs => rs = rowR s n) := by
  refine FnOk.intro Tryd.func7 (by decide) rfl rfl rfl rfl ?_
  refine k2 ?_
  refine c_region ?_; refine l_effv (f_alloc 4 rfl) rfl ?_; refine l_neu (n_assign rfl rfl) rfl ?_; refine l_nil ?_
  refine k1 ?_; refine k2 ?_; refine k2 ?_
  refine c_region ?_; refine l_neu (n_move rfl rfl) rfl ?_; refine l_neu (n_lss rfl rfl) rfl ?_; refine l_neu (n_move rfl rfl) rfl ?_; refine l_guard rfl rfl rfl rfl (fun hg => by rw [hg]; exact n_move rfl rfl) ?_; refine l_guard rfl rfl rfl rfl (fun hg => by rw [hg]; exact n_gtr rfl rfl) ?_; refine l_neu (n_pick_bool rfl (fun h => by first | rfl | (rw [h]; rfl)) (fun h => by first | rfl | (rw [h]; rfl))) rfl ?_; refine l_neu (n_move rfl rfl) rfl ?_; refine l_guard rfl rfl rfl rfl (fun hg => by rw [hg]; exact n_move rfl rfl) ?_; refine l_guard rfl rfl rfl rfl (fun hg => by rw [hg]; exact n_len_s rfl) ?_; refine l_guard rfl rfl rfl rfl (fun hg => by rw [hg]; exact n_move rfl rfl) ?_; refine l_guard rfl rfl rfl rfl (fun hg => by rw [hg]; exact n_lss rfl rfl) ?_; refine l_neu (n_pick_bool rfl (fun h => by first | rfl | (rw [h]; rfl)) (fun h => by first | rfl | (rw [h]; rfl))) rfl ?_; refine l_nil ?_
  refine k1 ?_
  refine c_cond rfl (fun ht => ?_) (fun ht => ?_)
  · simp only [or_pick] at ht
    have h := of_decide_eq_true ht
    refine k2 ?_
    refine c_region ?_; refine l_neu (n_build rfl) rfl ?_; refine l_eff (e_store_ref TySz.out rfl rfl rfl rfl rfl rfl) ?_; refine l_neu (n_assign rfl rfl) rfl ?_; refine l_nil ?_
    refine k1 ?_; refine k10 ?_; refine k11 ?_
    exact ret_ret (rs := [pRow ⟨false, 0, []⟩, pBool false]) (retc2 rfl rfl rfl rfl rfl rfl rfl) (rowR_none (rowI_no (by omega))).symm
  simp only [or_pick] at ht
  have h := of_decide_eq_false ht
  obtain ⟨N, rfl⟩ : ∃ N : Nat, n = N := ⟨n.toNat, by omega⟩
  have hN1 : 1 ≤ N ∧ N ≤ 32 := by omega
  have hN2 : N ≤ s.length := by omega
  refine c_cut [(0, sStr s), (1, sInt N), (4, .s (.one (.ref 4 0)))] [(4, .box (pRow ⟨false, 0, []⟩).s1.cells)] (Sees.of ⟨le1 rfl, le1 rfl, le1 rfl, trivial⟩ ⟨rfl, trivial⟩) ?_
  refine k5 ?_; refine k1 ?_; refine k2 ?_
  refine c_region ?_; refine l_neu (n_assign rfl rfl) rfl ?_; refine l_neu (n_assign rfl rfl) rfl ?_; refine l_nil ?_
  refine k1 ?_; refine k2 ?_; refine k2 ?_
  refine c_region ?_; refine l_neu (n_move rfl rfl) rfl ?_; refine l_neu (n_move rfl rfl) rfl ?_; refine l_nil ?_
  refine k1 ?_; refine k3 ?_
  refine c_while (X := Nat) (fun p => ([(0, sStr s), (1, sInt N), (4, .s (.one (.ref 4 0))), (6, sVal (.int .u32 (bitsOf 43 s p : Nat))), (7, sVal (.int .u32 (bitsOf 45 s p : Nat))), (22, sInt N), (23, sInt p)], [(4, .box (pRow ⟨false, 0, []⟩).s1.cells)])) (fun p => p ≤ N ∧ (s.take p).all signB = true) (fun p => N - p) 0 ⟨Nat.zero_le _, rfl⟩ (Sees.of ⟨le1 rfl, le1 rfl, le1 rfl, le1 rfl, le1 rfl, le1 rfl, le1 rfl, trivial⟩ ⟨rfl, trivial⟩) ?_
  rintro p ⟨hp, hq⟩
  dsimp only at hp hq ⊢
  have hl3 := bits_lt 43 s p
  have hl5 := bits_lt 45 s p
  refine k2 ?_
  refine c_region ?_; refine l_neu (n_lss rfl rfl) rfl ?_; refine l_nil ?_
  refine k1 ?_; refine k2 ?_
  refine c_cond rfl (fun ht => ?_) (fun ht => ?_)
  · have hlt : p < N := by have := of_decide_eq_true ht; omega
    have hv : s[p]? = some s[p] := by simp
    have hst3 := bits_step hv 43
    have hst5 := bits_step hv 45
    have hsg := sign_step hv
    rw [hq, Bool.true_and] at hsg
    have hsh := shl_nat p (by omega)
    have ho3 := or_bit hl3 (by omega)
    have ho5 := or_bit hl5 (by omega)
    have hno : signB s[p] = false → (s.take N).all signB = false := fun hc => sign_no hlt hv hc
    obtain ⟨c, hcc⟩ : ∃ c, c = s[p] := ⟨_, rfl⟩
    rw [← hcc] at hv hst3 hst5 hsg hno
    refine k5 ?_; refine k1 ?_; refine k2 ?_; refine k3 ?_; refine k2 ?_
    refine c_region ?_; refine l_neu (n_move rfl rfl) rfl ?_; refine l_neu (n_assign rfl rfl) rfl ?_; refine l_nil ?_
    refine k1 ?_; refine k2 ?_
    refine c_region ?_; refine l_neu (n_move rfl rfl) rfl ?_; refine l_neu (n_move rfl rfl) rfl ?_; refine l_neu (n_index_s rfl rfl (by omega) hv) rfl ?_; refine l_nil ?_
    refine k1 ?_; refine k3 ?_; refine k2 ?_
    refine c_region ?_; refine l_neu (n_eql rfl rfl) rfl ?_; refine l_neu (n_assign rfl rfl) rfl ?_; refine l_nil ?_
    refine k1 ?_
    refine c_cond rfl (fun ht => ?_) (fun ht => ?_)
    · have hc : c = 43 := by simpa only [ke43, decide_eq_true_eq] using ht
      rw [if_pos hc] at hst3
      rw [if_neg (by rw [hc]; decide), Nat.add_zero (bitsOf 45 s p)] at hst5
      skip
      refine c_region ?_; refine l_neu (n_move rfl rfl) rfl ?_; refine l_neu (n_move rfl rfl) rfl ?_; refine l_neu (n_shl rfl rfl (by omega)) rfl ?_; refine l_neu (n_bits rfl rfl rfl (fun _ => rfl)) rfl ?_; refine l_neu (n_assign rfl rfl) rfl ?_; refine l_nil ?_
      refine k4 ?_; refine k4 ?_; refine k1 ?_
      refine c_region ?_; refine l_neu (n_add rfl rfl (by omega)) rfl ?_; refine l_neu (n_move rfl rfl) rfl ?_; refine l_nil ?_
      refine k1 ?_
      refine ⟨p + 1, ⟨by omega, by rw [hsg, hc]; rfl⟩, by omega, ?_⟩
      rw [hst3, hst5, ← ho3, ← hsh]
      exact Sees.of ⟨le1 rfl, le1 rfl, le1 rfl, le1 rfl, le1 rfl, le1 rfl, le1 rfl, trivial⟩ ⟨rfl, trivial⟩
    have hc3 : c ≠ 43 := by simpa only [ke43, decide_eq_false_iff_not] using ht
    rw [if_neg hc3, Nat.add_zero (bitsOf 43 s p)] at hst3
    refine k2 ?_
    refine c_region ?_; refine l_neu (n_eql rfl rfl) rfl ?_; refine l_neu (n_assign rfl rfl) rfl ?_; refine l_nil ?_
    refine k1 ?_
    refine c_cond rfl (fun ht => ?_) (fun ht => ?_)
    · have hc : c = 45 := by simpa only [ke45, decide_eq_true_eq] using ht
      rw [if_pos hc] at hst5
      skip
      refine c_region ?_; refine l_neu (n_move rfl rfl) rfl ?_; refine l_neu (n_move rfl rfl) rfl ?_; refine l_neu (n_shl rfl rfl (by omega)) rfl ?_; refine l_neu (n_bits rfl rfl rfl (fun _ => rfl)) rfl ?_; refine l_neu (n_assign rfl rfl) rfl ?_; refine l_nil ?_
      refine k4 ?_; refine k4 ?_; refine k1 ?_
      refine c_region ?_; refine l_neu (n_add rfl rfl (by omega)) rfl ?_; refine l_neu (n_move rfl rfl) rfl ?_; refine l_nil ?_
      refine k1 ?_
      refine ⟨p + 1, ⟨by omega, by rw [hsg, hc]; rfl⟩, by omega, ?_⟩
      rw [hst3, hst5, ← ho5, ← hsh]
      exact Sees.of ⟨le1 rfl, le1 rfl, le1 rfl, le1 rfl, le1 rfl, le1 rfl, le1 rfl, trivial⟩ ⟨rfl, trivial⟩
    have hc5 : c ≠ 45 := by simpa only [ke45, decide_eq_false_iff_not] using ht
    rw [if_neg hc5, Nat.add_zero (bitsOf 45 s p)] at hst5
    refine k2 ?_
    refine c_region ?_; refine l_neu (n_eql rfl rfl) rfl ?_; refine l_neu (n_assign rfl rfl) rfl ?_; refine l_nil ?_
    refine k1 ?_
    refine c_cond rfl (fun ht => ?_) (fun ht => ?_)
    · have hc : c = 32 := by simpa only [ke32, decide_eq_true_eq] using ht
      refine k5 ?_; refine k4 ?_; refine k4 ?_; refine k1 ?_
      refine c_region ?_; refine l_neu (n_add rfl rfl (by omega)) rfl ?_; refine l_neu (n_move rfl rfl) rfl ?_; refine l_nil ?_
      refine k1 ?_
      refine ⟨p + 1, ⟨by omega, by rw [hsg, hc]; rfl⟩, by omega, ?_⟩
      rw [hst3, hst5]
      exact Sees.of ⟨le1 rfl, le1 rfl, le1 rfl, le1 rfl, le1 rfl, le1 rfl, le1 rfl, trivial⟩ ⟨rfl, trivial⟩
    have hc2 : c ≠ 32 := by simpa only [ke32, decide_eq_false_iff_not] using ht
    refine k2 ?_
    refine c_region ?_; refine l_neu (n_build rfl) rfl ?_; refine l_eff (e_store_ref TySz.out rfl rfl rfl rfl rfl rfl) ?_; refine l_neu (n_assign rfl rfl) rfl ?_; refine l_nil ?_
    refine k1 ?_; refine k10 ?_; refine k12 ?_; refine k12 ?_; refine k11 ?_; refine k11 ?_; refine k12 ?_; refine k11 ?_
    exact ret_ret (rs := [pRow ⟨false, 0, []⟩, pBool false]) (retc2 rfl rfl rfl rfl rfl rfl rfl) (rowR_none (rowI_sign (hno (by unfold signB; simp [hc2, hc3, hc5])))).symm
  · have hpN : p = N := by have := of_decide_eq_false ht; omega
    subst hpN
    refine k6 ?_; refine k2 ?_; refine k2 ?_
    refine c_region ?_; refine l_neu (n_move rfl rfl) rfl ?_; refine l_neu (n_neq rfl rfl) rfl ?_; refine l_neu (n_move rfl rfl) rfl ?_; refine l_guard rfl rfl rfl rfl (fun hg => by rw [hg]; exact n_move rfl rfl) ?_; refine l_guard rfl rfl rfl rfl (fun hg => by rw [hg]; exact n_neq rfl rfl) ?_; refine l_neu (n_pick_bool rfl (fun h => by first | rfl | (rw [h]; rfl)) (fun h => by first | rfl | (rw [h]; rfl))) rfl ?_; refine l_nil ?_
    refine k1 ?_
    refine c_cond rfl (fun ht => ?_) (fun ht => ?_)
    · simp only [and_pick] at ht
      have h2 := of_decide_eq_true ht
      refine k2 ?_
      refine c_region ?_; refine l_neu (n_build rfl) rfl ?_; refine l_eff (e_store_ref TySz.out rfl rfl rfl rfl rfl rfl) ?_; refine l_neu (n_assign rfl rfl) rfl ?_; refine l_nil ?_
      refine k1 ?_; refine k10 ?_; refine k11 ?_
      exact ret_ret (rs := [pRow ⟨false, 0, []⟩, pBool false]) (retc2 rfl rfl rfl rfl rfl rfl rfl) (rowR_none (rowI_both (by omega))).symm
    · simp only [and_pick] at ht
      have h2 := of_decide_eq_false ht
      have h2' : ¬ (bitsOf 43 s p ≠ 0 ∧ bitsOf 45 s p ≠ 0) := by omega
      have hor := bits_or hN1.2 h2'
      have hyes := rowI_yes hN1 hN2 hq h2'
      refine k5 ?_; refine k1 ?_; refine k2 ?_
      refine c_region ?_; refine l_neu (n_move rfl rfl) rfl ?_; refine l_neu (n_neq rfl rfl) rfl ?_; refine l_neu (n_move rfl rfl) rfl ?_; refine l_neu (n_move rfl rfl) rfl ?_; refine l_neu (n_bits rfl rfl rfl (fun _ => rfl)) rfl ?_; refine l_neu (n_move rfl rfl) rfl ?_; refine l_neu (n_move rfl rfl) rfl ?_; refine l_neu (n_sub_l rfl rfl (by omega) (by omega)) rfl ?_; refine l_neu (n_build rfl) rfl ?_; refine l_eff (e_store_ref TySz.out rfl rfl rfl rfl rfl rfl) ?_; refine l_neu (n_assign rfl rfl) rfl ?_; refine l_nil ?_
      refine k1 ?_; refine k10 ?_
      refine ret_ret (rs := [pRow ⟨decide ((bitsOf 45 s p : Int) ≠ 0), orBit (bitsOf 43 s p : Nat) (bitsOf 45 s p : Nat), s.drop p⟩, pBool true]) (retc2 rfl rfl rfl rfl rfl rfl rfl) ?_
      rw [rowR_some hyes, hor]
      congr 3
      exact decide_eq_decide.2 (by omega)
end Go.Proofs.YtgejaedjnbjpoaaDoor
namespace Go.Proofs.YtgejaedjnbjpoaaDoor
open Go Go.AL
set_option maxRecDepth 100000
end Go.Proofs.YtgejaedjnbjpoaaDoor
namespace Go.Proofs.YtgejaedjnbjpoaaDoor
open Go Go.AL
set_option maxRecDepth 100000
set_option maxHeartbeats 1000000
end Go.Proofs.YtgejaedjnbjpoaaDoor
namespace Go.Proofs.YtgejaedjnbjpoaaDoor
open Go Go.AL
set_option maxRecDepth 100000
abbrev rowV (q : Row) : List Value := [.bool q.Lost, .int .u32 q.Marks, .string ⟨q.Text.toArray⟩]
theorem row_eq (q q' : Row) : eqVs (rowV q) (rowV q') = decide (q = q') := by
  rw [Bool.eq_iff_iff]
  simp only [eqVs, eqV, ByteArray.toList_mk, Bool.and_eq_true, beq_iff_eq, decide_eq_true_eq, Bool.and_true]
  constructor
  · rintro ⟨h1, h2, h3⟩
    obtain ⟨k, m, t⟩ := q
    obtain ⟨k', m', t'⟩ := q'
    obtain rfl : k = k' := h1
    obtain rfl : m = m' := h2
    obtain rfl : t = t' := h3
    rfl
  · rintro rfl; exact ⟨rfl, rfl, rfl⟩
end Go.Proofs.YtgejaedjnbjpoaaDoor
namespace Go.Proofs.YtgejaedjnbjpoaaDoor
open Go Go.AL
set_option maxRecDepth 100000
end Go.Proofs.YtgejaedjnbjpoaaDoor
namespace Go.Proofs.YtgejaedjnbjpoaaDoor
open Go Go.AL
set_option maxRecDepth 100000
theorem rngR_none {s : Str} {i : Nat} (h : rngAt (s.drop i) = none) : rngR s i = [pInt 0, pInt 0, pInt 0, pBool false] := by unfold rngR; rw [h]
theorem rngR_some {s : Str} {i k : Nat} {a n : Int} (h : rngAt (s.drop i) = some (a, n, k)) : rngR s i = [pInt a, pInt n, pInt ((i + k : Nat) : Int), pBool true] := by unfold rngR; rw [h]
end Go.Proofs.YtgejaedjnbjpoaaDoor
namespace Go.Proofs.YtgejaedjnbjpoaaDoor
open Go Go.AL
theorem szC_app (a b : List CHunk) : szC (a ++ b) = szC a + szC b := by simp [szC]
theorem szC_one (h : CHunk) : szC [h] = szCh h := by simp [szC]
theorem lastC {α : Type} {l : List α} {x : α} (h : l.getLast? = some x) : l = l.dropLast ++ [x] := by
  obtain ⟨ys, hy⟩ := List.getLast?_eq_some_iff.1 h
  rw [hy, List.dropLast_concat]
theorem szC_last {hs : List CHunk} {h : CHunk} (hl : hs.getLast? = some h) : szC hs = szC hs.dropLast + szCh h := by
  conv => lhs; rw [lastC hl, szC_app, szC_one]
theorem trimC_len (t : Str) : (trimS t).length ≤ t.length := by
  unfold trimS; split
  · rw [List.length_dropLast]; omega
  · omega
theorem szCh_eq (h : CHunk) : szCh h = 2048 + h.At.length + (h.Rows.map szRow).sum := rfl
def CInv (n : Nat) (hs : List CHunk) : Prop := ∀ h ∈ hs, h.At.length = n + 1 ∧ rowsIn h.Rows
theorem CInv.app {n : Nat} {hs : List CHunk} {h : CHunk} (hi : CInv n hs) (hh : h.At.length = n + 1 ∧ rowsIn h.Rows) : CInv n (hs ++ [h]) := by
  intro x hx
  rcases List.mem_append.1 hx with hx | hx
  · exact hi x hx
  · simp only [List.mem_cons, List.not_mem_nil, or_false] at hx
    rw [hx]; exact hh
theorem CInv.init {n : Nat} {hs : List CHunk} (hi : CInv n hs) : CInv n hs.dropLast := fun x hx => hi x ((List.dropLast_sublist _).subset hx)
theorem headP_facts {n : Nat} {l : Str} {a : List Int} (h : headP n l = some a) : a.length = n + 1 ∧ 2 * (n + 2) ≤ l.length := by
  unfold headP at h
  split at h
  · rename_i h1
    have hp : (preC n).length = n + 2 := by simp [preC, atS_len]
    have hs : (sufC n).length = n + 2 := by simp [sufC, atS_len]
    have l1 := congrArg List.length h1.1
    rw [List.length_take, hp] at l1
    have l2 := h1.2
    unfold endsWith at l2
    have l3 := (of_decide_eq_true l2).1
    rw [hs, List.length_drop] at l3
    split at h
    · rename_i b hb
      split at h
      · rename_i hbl
        cases h
        exact ⟨hbl, by omega⟩
      · cases h
    · cases h
  · cases h
def wLine (l : Str) : Nat := 420 * (l.length + 1)
theorem step_szC {n : Nat} (hn : 1 ≤ n ∧ n ≤ 32) {hs hs' : List CHunk} {l : Str} (h : stepC n hs l = some hs') (hi : CInv n hs) : szC hs' ≤ szC hs + wLine l ∧ CInv n hs' := by
  unfold stepC at h
  unfold wLine
  split at h
  · cases hp : headP n l with
    | none => rw [hp] at h; cases h
    | some a =>
      rw [hp] at h
      have h : hs ++ [⟨a, []⟩] = hs' := Option.some.inj h
      obtain ⟨f1, f2⟩ := headP_facts hp
      rw [← h]
      refine ⟨?_, hi.app ⟨f1, fun r hr => by cases hr⟩⟩
      rw [szC_app, szC_one, szCh_eq]
      dsimp only
      rw [f1, List.map_nil, List.sum_nil]
      omega
  · split at h
    · cases h
    · split at h
      · unfold cutRow at h
        cases hl : hs.getLast? with
        | none => rw [hl] at h; cases h
        | some g =>
          rw [hl] at h
          dsimp only at h
          have hg := hi g (List.mem_of_getLast? hl)
          cases hx : g.Rows.getLast? with
          | none => rw [hx] at h; cases h
          | some r =>
            rw [hx] at h
            have h : hs.dropLast ++ [⟨g.At, g.Rows.dropLast ++ [⟨r.Lost, r.Marks, trimS r.Text⟩]⟩] = hs' := Option.some.inj h
            have ht := trimC_len r.Text
            have hrr := lastC hx
            have hsum : (g.Rows.map szRow).sum = (g.Rows.dropLast.map szRow).sum + szRow r := by
              conv => lhs; rw [hrr, List.map_append, List.sum_append]
              simp
            rw [← h]
            refine ⟨?_, hi.init.app ⟨hg.1, fun x hx2 => ?_⟩⟩
            · rw [szC_app, szC_one, szCh_eq, szC_last hl, szCh_eq, hsum]
              simp only [List.map_append, List.sum_append, List.map_cons, List.map_nil, List.sum_cons, List.sum_nil, szRow]
              omega
            · rcases List.mem_append.1 hx2 with hx2 | hx2
              · exact hg.2 x ((List.dropLast_sublist _).subset hx2)
              · simp only [List.mem_cons, List.not_mem_nil, or_false] at hx2
                rw [hx2]; exact hg.2 r (List.mem_of_getLast? hx)
      · cases hr : AL.rowAt (l ++ [10]) n with
        | none => rw [hr] at h; cases h
        | some r =>
          rw [hr] at h
          dsimp only at h
          unfold addRow at h
          cases hl : hs.getLast? with
          | none => rw [hl] at h; cases h
          | some g =>
            rw [hl] at h
            have h : hs.dropLast ++ [⟨g.At, g.Rows ++ [r]⟩] = hs' := Option.some.inj h
            have hg := hi g (List.mem_of_getLast? hl)
            have hrI : rowI (l ++ [10]) (n : Int) = some r := by unfold rowI; rw [if_neg (by omega), Int.toNat_natCast]; exact hr
            obtain ⟨_, t1, t2, _⟩ := rowI_text hrI
            have t3 : r.Text.length ≤ l.length + 1 := by rw [t1, List.length_drop, List.length_append]; simp
            rw [← h]
            refine ⟨?_, hi.init.app ⟨hg.1, fun x hx2 => ?_⟩⟩
            · rw [szC_app, szC_one, szCh_eq, szC_last hl, szCh_eq]
              simp only [List.map_append, List.sum_append, List.map_cons, List.map_nil, List.sum_cons, List.sum_nil, szRow]
              omega
            · rcases List.mem_append.1 hx2 with hx2 | hx2
              · exact hg.2 x hx2
              · simp only [List.mem_cons, List.not_mem_nil, or_false] at hx2
                rw [hx2]; exact t2
theorem fold_szC {n : Nat} (hn : 1 ≤ n ∧ n ≤ 32) : ∀ (ls : List Str) (hs hs' : List CHunk), foldC n hs ls = some hs' → CInv n hs → szC hs' ≤ szC hs + (ls.map wLine).sum ∧ CInv n hs'
  | [], hs, hs', h, hi => by cases h; exact ⟨by simp, hi⟩
  | x :: r, hs, hs', h, hi => by
    rw [foldC] at h
    cases hx : stepC n hs x with
    | none => rw [hx] at h; cases h
    | some g =>
      rw [hx] at h
      obtain ⟨a1, a2⟩ := step_szC hn hx hi
      obtain ⟨b1, b2⟩ := fold_szC hn r g hs' h a2
      refine ⟨?_, b2⟩
      rw [List.map_cons, List.sum_cons]; omega
theorem title_par {q : Bool} {a b : Str} {d : Bool} {p : Str} {n : Int} (h : titleAt q a b = some (d, p, n)) : 1 ≤ n ∧ n ≤ 32 := by
  unfold titleAt at h
  split at h
  · cases h
  · split at h
    · split at h
      · split at h
        · rename_i h2
          cases h; omega
        · cases h
      · cases h
    · cases h
theorem parseC_sz {l : List Str} {c : Comb} (h : parseC l = some c) : (1 ≤ c.Parents ∧ c.Parents ≤ 32) ∧ szC c.Hunks ≤ (l.map wLine).sum ∧ CInv c.Parents.toNat c.Hunks := by
  unfold parseC at h
  split at h
  · rename_i a b r
    split at h
    · rename_i d p n ht
      have hn := title_par ht
      split at h
      · rename_i hs hf
        cases h
        obtain ⟨f1, f2⟩ := fold_szC (n := n.toNat) (by omega) r [] hs hf (fun x hx => by cases hx)
        refine ⟨hn, ?_, f2⟩
        have e0 : szC ([] : List CHunk) = 0 := rfl
        rw [e0] at f1
        simp only [List.map_cons, List.sum_cons]
        omega
      · cases h
    · cases h
  · cases h
def wgTo (l : List Str) (i : Nat) : Nat := ((l.take i).map wLine).sum
theorem wgTo_succ {l : List Str} {i : Nat} (h : i < l.length) : wgTo l (i + 1) = wgTo l i + wLine l[i] := by
  unfold wgTo
  rw [List.take_succ_eq_append_getElem h, List.map_append, List.sum_append]
  simp only [List.map_cons, List.map_nil, List.sum_cons, List.sum_nil]
  omega
end Go.Proofs.YtgejaedjnbjpoaaDoor
namespace Go.Proofs.YtgejaedjnbjpoaaDoor
open Go Go.AL
set_option maxRecDepth 100000
end Go.Proofs.YtgejaedjnbjpoaaDoor
namespace Go.Proofs.YtgejaedjnbjpoaaDoor
open Go Go.AL
set_option maxRecDepth 100000
theorem word_ex (s : Str) (i : Nat) : ∃ (w : Str) (e : Int) (b : Bool), wordR s i = [pStr w, pInt e, pBool b] ∧ match wordAt (s.drop i) with
    | some q => b = true ∧ w = q.1 ∧ e = ((i + q.2 : Nat) : Int)
    | none => b = false := by
  cases h : wordAt (s.drop i) with
  | none => exact ⟨_, _, _, wordR_none h, rfl⟩
  | some q => obtain ⟨w, k⟩ := q; exact ⟨_, _, _, wordR_some h, rfl, rfl, rfl⟩
theorem num_ex (s : Str) (i : Nat) : ∃ (n e : Int) (b : Bool), numR s i = [pInt n, pInt e, pBool b] ∧ match numAt (s.drop i) with
    | some q => b = true ∧ n = (q.1 : Int) ∧ e = ((i + q.2 : Nat) : Int)
    | none => b = false := by
  cases h : numAt (s.drop i) with
  | none => exact ⟨_, _, _, numR_none h, rfl⟩
  | some q => obtain ⟨n, k⟩ := q; exact ⟨_, _, _, numR_some h, rfl, rfl, rfl⟩
abbrev zBoxC : Ob := .box [.p (.v (.string ⟨#[]⟩)), .p (.v (.bool false)), .p (.v (.int .i64 0)), .p (.v (.slice none 0 0))]
set_option maxHeartbeats 4000000
end Go.Proofs.YtgejaedjnbjpoaaDoor
namespace Go.Proofs.YtgejaedjnbjpoaaDoor
open Go Go.AL
set_option maxRecDepth 100000
theorem cut_ex (s p : Str) : ∃ (c : Str) (b : Bool), cutP s p = [pStr c, pBool b] ∧ ((b = true ∧ s.take p.length = p ∧ c = s.drop p.length) ∨ (b = false ∧ s.take p.length ≠ p ∧ c = s)) := by
  unfold cutP
  by_cases h : s.take p.length = p
  · rw [if_pos h]; exact ⟨_, _, rfl, .inl ⟨rfl, h, rfl⟩⟩
  · rw [if_neg h]; exact ⟨_, _, rfl, .inr ⟨rfl, h, rfl⟩⟩
abbrev cpBox (w : Str) (d : Bool) (n : Int) : Ob := .box [.p (.v (.string ⟨w.toArray⟩)), .p (.v (.bool d)), .p (.v (.int .i64 n)), .p (.v (.slice none 0 0))]
theorem title_is {a b c x w : Str} {d okc okw okn : Bool} {e n en : Int} (hk : kindAt a = some (d, x)) (hc : (okc = true ∧ b.take parS.length = parS ∧ c = b.drop parS.length) ∨ (okc = false ∧ b.take parS.length ≠ parS ∧ c = b))
    (hw : match wordAt (x.drop 0) with | some q => okw = true ∧ w = q.1 ∧ e = ((0 + q.2 : Nat) : Int) | none => okw = false)
    (hn : match numAt (c.drop 0) with | some q => okn = true ∧ n = (q.1 : Int) ∧ en = ((0 + q.2 : Nat) : Int) | none => okn = false) :
    titleAt true a b = if okc = true ∧ okw = true ∧ e = x.length ∧ okn = true ∧ en = c.length ∧ 1 ≤ n ∧ n ≤ 32 then some (d, w, n) else none := by
  unfold titleAt
  rw [hk]
  dsimp only
  rw [List.drop_zero] at hw hn
  have h8 : parS.length = 8 := rfl
  rcases hc with ⟨h1, h2, h3⟩ | ⟨h1, h2, _⟩
  · rw [h8] at h2 h3
    rw [if_pos h2, ← h3]
    cases g1 : wordAt x with
    | none => rw [g1] at hw; have hw : okw = false := hw; rw [if_neg (by simp [hw])]
    | some q =>
      obtain ⟨w', k'⟩ := q
      rw [g1] at hw
      obtain ⟨rfl, rfl, rfl⟩ := hw
      cases g2 : numAt c with
      | none => rw [g2] at hn; have hn : okn = false := hn; rw [if_neg (by simp [hn])]
      | some q2 =>
        obtain ⟨m', k2⟩ := q2
        rw [g2] at hn
        obtain ⟨rfl, rfl, rfl⟩ := hn
        dsimp only
        by_cases hg : (true = true → k' = x.length ∧ k2 = c.length) ∧ 1 ≤ m' ∧ m' ≤ 32
        · obtain ⟨q1, q2⟩ := hg.1 rfl
          rw [if_pos hg, if_pos ⟨h1, rfl, by omega, rfl, by omega, by omega, by omega⟩]
        · rw [if_neg hg, if_neg]
          rintro ⟨_, _, p1, _, p2, p3, p4⟩
          exact hg ⟨fun _ => ⟨by omega, by omega⟩, by omega, by omega⟩
  · rw [h8] at h2
    rw [if_neg h2, if_neg (by simp [h1])]
set_option maxHeartbeats 1000000
theorem ptitle_met {gf : Fr} (a b : Str) (ha : a.length ≤ 4194304) (hb : b.length ≤ 4194304) :
    AL.Met Tryd.prog 17 [.one (.ref 730 0), .one (.p (.v (.string ⟨a.toArray⟩))), .one (.p (.v (.string ⟨b.toArray⟩)))] gf [(730, zBoxC), (2, zBoxC)] []
      (fun rs ob' => ∃ (w : Str) (d : Bool) (n : Int) (ok : Bool), rs = [tBo ok] ∧ ob' = [(730, cpBox w d n), (2, zBoxC)] ∧ match titleAt true a b with
        | some (d', p, m) => ok = true ∧ d = d' ∧ w = p ∧ n = m
        | none => ok = false) := by
  have hc1 := cutPrefix_ok a ccS
  have hc2 := cutPrefix_ok a combS
  have hc3 := cutPrefix_ok b parS
  unfold cutP at hc1 hc2
  obtain ⟨c, okc, hx, hcc⟩ := cut_ex b parS
  rw [hx] at hc3
  have hcl : c.length ≤ 4194304 := by
    rcases hcc with ⟨_, _, h⟩ | ⟨_, _, h⟩
    · rw [h, List.length_drop]; omega
    · rw [h]; exact hb
  have hNb := sNumber_ok c 0 (Nat.zero_le _) (by omega)
  obtain ⟨n, en, okn, hn1, hn2⟩ := num_ex c 0
  rw [hn1] at hNb
  by_cases h1 : a.take ccS.length = ccS
  · rw [if_pos h1] at hc1
    have hk : kindAt a = some (true, a.drop ccS.length) := by
      have h1 : a.take 10 = ccS := h1
      unfold kindAt; rw [if_pos h1]; rfl
    obtain ⟨x, hxx⟩ : ∃ x, x = a.drop ccS.length := ⟨_, rfl⟩
    have hxl : x.length ≤ 4194304 := by rw [hxx, List.length_drop]; omega
    rw [← hxx] at hc1 hk
    have hUq := sUnquote_ok x 0 (Nat.zero_le _) (by omega)
    obtain ⟨w, e, okw, hw1, hw2⟩ := word_ex x 0
    rw [hw1] at hUq
    have hT := title_is hk hcc hw2 hn2
    refine AL.Met.intro Tryd.func17 (by decide) rfl rfl rfl ?_
    refine k2 ?_
    refine c_region ?_; refine l_neu (n_assign rfl rfl) rfl ?_; refine l_nil ?_
    refine k1 ?_; refine k2 ?_
    refine c_region ?_; refine l_neu (n_move rfl rfl) rfl ?_; refine l_call (hc1) rfl rfl rfl ?_; rintro _ rfl; refine l_neu (n_move rfl rfl) rfl ?_; refine l_neu (n_extract rfl rfl) rfl ?_; refine l_neu (n_extract rfl rfl) rfl ?_; refine l_neu (n_assign rfl rfl) rfl ?_; refine l_neu (n_assign rfl rfl) rfl ?_; refine l_nil ?_
    refine k1 ?_; refine k2 ?_; refine k2 ?_
    refine c_region ?_; refine l_neu (n_move rfl rfl) rfl ?_; refine l_neu (n_not rfl) rfl ?_; refine l_nil ?_
    refine k1 ?_
    refine c_cond rfl (fun ht => ?_) (fun ht => ?_)
    · cases ht
    refine k5 ?_; refine k1 ?_; refine k2 ?_
    refine c_region ?_; refine l_neu (n_move rfl rfl) rfl ?_; refine l_call (hc3) rfl rfl rfl ?_; rintro _ rfl; refine l_neu (n_move rfl rfl) rfl ?_; refine l_neu (n_extract rfl rfl) rfl ?_; refine l_neu (n_extract rfl rfl) rfl ?_; refine l_neu (n_assign rfl rfl) rfl ?_; refine l_neu (n_assign rfl rfl) rfl ?_; refine l_nil ?_
    refine k1 ?_; refine k2 ?_
    refine c_region ?_; refine l_neu (n_move rfl rfl) rfl ?_; refine l_call (hUq) rfl rfl rfl ?_; rintro _ rfl; refine l_neu (n_move rfl rfl) rfl ?_; refine l_neu (n_extract rfl rfl) rfl ?_; refine l_neu (n_extract rfl rfl) rfl ?_; refine l_neu (n_extract rfl rfl) rfl ?_; refine l_neu (n_assign rfl rfl) rfl ?_; refine l_neu (n_assign rfl rfl) rfl ?_; refine l_neu (n_assign rfl rfl) rfl ?_; refine l_nil ?_
    refine k1 ?_; refine k2 ?_
    refine c_region ?_; refine l_neu (n_move rfl rfl) rfl ?_; refine l_call (hNb) rfl rfl rfl ?_; rintro _ rfl; refine l_neu (n_move rfl rfl) rfl ?_; refine l_neu (n_extract rfl rfl) rfl ?_; refine l_neu (n_extract rfl rfl) rfl ?_; refine l_neu (n_extract rfl rfl) rfl ?_; refine l_neu (n_assign rfl rfl) rfl ?_; refine l_neu (n_assign rfl rfl) rfl ?_; refine l_neu (n_assign rfl rfl) rfl ?_; refine l_nil ?_
    refine k1 ?_; refine k2 ?_
    refine c_region ?_; refine l_neu (n_move rfl rfl) rfl ?_; refine l_neu (n_move rfl rfl) rfl ?_; refine l_neu (n_move rfl rfl) rfl ?_; refine l_neu (n_move rfl rfl) rfl ?_; refine l_neu (n_build rfl) rfl ?_; refine l_neu (n_nilCheck_ref rfl) rfl ?_; refine l_neu (n_field_ref rfl) rfl ?_; refine l_eff (e_store_ref TySz.out rfl rfl rfl rfl rfl rfl) ?_; refine l_nil ?_
    refine k1 ?_; refine k2 ?_
    refine c_region ?_; refine l_neu (n_move rfl rfl) rfl ?_; refine l_neu (n_move rfl rfl) rfl ?_; refine l_guard rfl rfl rfl rfl (fun hg => by rw [hg]; exact n_move rfl rfl) ?_; refine l_neu (n_pick_bool rfl (fun h => by first | rfl | (rw [h]; rfl)) (fun h => by first | rfl | (rw [h]; rfl))) rfl ?_; refine l_neu (n_move rfl rfl) rfl ?_; refine l_guard rfl rfl rfl rfl (fun hg => by rw [hg]; exact n_move rfl rfl) ?_; refine l_guard rfl rfl rfl rfl (fun hg => by rw [hg]; exact n_move rfl rfl) ?_; refine l_guard rfl rfl rfl rfl (fun hg => by rw [hg]; exact n_len_s rfl) ?_; refine l_guard rfl rfl rfl rfl (fun hg => by rw [hg]; exact n_eql rfl rfl) ?_; refine l_neu (n_pick_bool rfl (fun h => by first | rfl | (rw [h]; rfl)) (fun h => by first | rfl | (rw [h]; rfl))) rfl ?_; refine l_neu (n_move rfl rfl) rfl ?_; refine l_guard rfl rfl rfl rfl (fun hg => by rw [hg]; exact n_move rfl rfl) ?_; refine l_neu (n_pick_bool rfl (fun h => by first | rfl | (rw [h]; rfl)) (fun h => by first | rfl | (rw [h]; rfl))) rfl ?_; refine l_neu (n_move rfl rfl) rfl ?_; refine l_guard rfl rfl rfl rfl (fun hg => by rw [hg]; exact n_move rfl rfl) ?_; refine l_guard rfl rfl rfl rfl (fun hg => by rw [hg]; exact n_move rfl rfl) ?_; refine l_guard rfl rfl rfl rfl (fun hg => by rw [hg]; exact n_len_s rfl) ?_; refine l_guard rfl rfl rfl rfl (fun hg => by rw [hg]; exact n_eql rfl rfl) ?_; refine l_neu (n_pick_bool rfl (fun h => by first | rfl | (rw [h]; rfl)) (fun h => by first | rfl | (rw [h]; rfl))) rfl ?_; refine l_neu (n_move rfl rfl) rfl ?_; refine l_guard rfl rfl rfl rfl (fun hg => by rw [hg]; exact n_move rfl rfl) ?_; refine l_guard rfl rfl rfl rfl (fun hg => by rw [hg]; exact n_geq rfl rfl) ?_; refine l_neu (n_pick_bool rfl (fun h => by first | rfl | (rw [h]; rfl)) (fun h => by first | rfl | (rw [h]; rfl))) rfl ?_; refine l_neu (n_move rfl rfl) rfl ?_; refine l_guard rfl rfl rfl rfl (fun hg => by rw [hg]; exact n_move rfl rfl) ?_; refine l_guard rfl rfl rfl rfl (fun hg => by rw [hg]; exact n_leq rfl rfl) ?_; refine l_neu (n_pick_bool rfl (fun h => by first | rfl | (rw [h]; rfl)) (fun h => by first | rfl | (rw [h]; rfl))) rfl ?_; refine l_neu (n_assign rfl rfl) rfl ?_; refine l_nil ?_
    refine k1 ?_; refine k10 ?_
    refine met_ret (rets1 rfl rfl) (by repeat (first | exact tail_refl | refine tail_cons rfl ?_ | refine tail_forget _ ?_)) (ObIn.spec (ob' := [(730, cpBox w _ n), (2, zBoxC)]) ⟨rfl, rfl, trivial⟩) ⟨w, _, n, _, rfl, rfl, ?_⟩
    rw [hT]
    by_cases hg : okc = true ∧ okw = true ∧ e = x.length ∧ okn = true ∧ en = c.length ∧ 1 ≤ n ∧ n ≤ 32
    · rw [if_pos hg]
      obtain ⟨g1, g2, g3, g4, g5, g6, g7⟩ := hg
      exact ⟨by simp [g1, g2, g3, g4, g5, g6, g7], rfl, rfl, rfl⟩
    · rw [if_neg hg]
      cases okc <;> cases okw <;> cases okn <;> first | rfl | (simp; done) | (simp at hg ⊢; exact hg) | (simp at hg ⊢; intros; omega)
  rw [if_neg h1] at hc1
  by_cases h2 : a.take combS.length = combS
  · rw [if_pos h2] at hc2
    have hk : kindAt a = some (false, a.drop combS.length) := by
      have h1 : ¬ a.take 10 = ccS := h1
      have h2 : a.take 16 = combS := h2
      unfold kindAt; rw [if_neg h1, if_pos h2]; rfl
    obtain ⟨x, hxx⟩ : ∃ x, x = a.drop combS.length := ⟨_, rfl⟩
    have hxl : x.length ≤ 4194304 := by rw [hxx, List.length_drop]; omega
    rw [← hxx] at hc2 hk
    have hUq := sUnquote_ok x 0 (Nat.zero_le _) (by omega)
    obtain ⟨w, e, okw, hw1, hw2⟩ := word_ex x 0
    rw [hw1] at hUq
    have hT := title_is hk hcc hw2 hn2
    refine AL.Met.intro Tryd.func17 (by decide) rfl rfl rfl ?_
    refine k2 ?_
    refine c_region ?_; refine l_neu (n_assign rfl rfl) rfl ?_; refine l_nil ?_
    refine k1 ?_; refine k2 ?_
    refine c_region ?_; refine l_neu (n_move rfl rfl) rfl ?_; refine l_call (hc1) rfl rfl rfl ?_; rintro _ rfl; refine l_neu (n_move rfl rfl) rfl ?_; refine l_neu (n_extract rfl rfl) rfl ?_; refine l_neu (n_extract rfl rfl) rfl ?_; refine l_neu (n_assign rfl rfl) rfl ?_; refine l_neu (n_assign rfl rfl) rfl ?_; refine l_nil ?_
    refine k1 ?_; refine k2 ?_; refine k2 ?_
    refine c_region ?_; refine l_neu (n_move rfl rfl) rfl ?_; refine l_neu (n_not rfl) rfl ?_; refine l_nil ?_
    refine k1 ?_
    refine c_cond rfl (fun ht => ?_) (fun ht => ?_)
    rotate_left
    · cases ht
    refine k2 ?_
    refine c_region ?_; refine l_neu (n_assign rfl rfl) rfl ?_; refine l_nil ?_
    refine k1 ?_; refine k2 ?_
    refine c_region ?_; refine l_neu (n_move rfl rfl) rfl ?_; refine l_call (hc2) rfl rfl rfl ?_; rintro _ rfl; refine l_neu (n_move rfl rfl) rfl ?_; refine l_neu (n_extract rfl rfl) rfl ?_; refine l_neu (n_extract rfl rfl) rfl ?_; refine l_neu (n_assign rfl rfl) rfl ?_; refine l_neu (n_assign rfl rfl) rfl ?_; refine l_nil ?_
    refine k1 ?_; refine k2 ?_
    refine c_region ?_; refine l_neu (n_move rfl rfl) rfl ?_; refine l_neu (n_not rfl) rfl ?_; refine l_nil ?_
    refine k1 ?_
    refine c_cond rfl (fun ht => ?_) (fun ht => ?_)
    · cases ht
    refine k5 ?_; refine k1 ?_; refine k2 ?_
    refine c_region ?_; refine l_neu (n_move rfl rfl) rfl ?_; refine l_call (hc3) rfl rfl rfl ?_; rintro _ rfl; refine l_neu (n_move rfl rfl) rfl ?_; refine l_neu (n_extract rfl rfl) rfl ?_; refine l_neu (n_extract rfl rfl) rfl ?_; refine l_neu (n_assign rfl rfl) rfl ?_; refine l_neu (n_assign rfl rfl) rfl ?_; refine l_nil ?_
    refine k1 ?_; refine k2 ?_
    refine c_region ?_; refine l_neu (n_move rfl rfl) rfl ?_; refine l_call (hUq) rfl rfl rfl ?_; rintro _ rfl; refine l_neu (n_move rfl rfl) rfl ?_; refine l_neu (n_extract rfl rfl) rfl ?_; refine l_neu (n_extract rfl rfl) rfl ?_; refine l_neu (n_extract rfl rfl) rfl ?_; refine l_neu (n_assign rfl rfl) rfl ?_; refine l_neu (n_assign rfl rfl) rfl ?_; refine l_neu (n_assign rfl rfl) rfl ?_; refine l_nil ?_
    refine k1 ?_; refine k2 ?_
    refine c_region ?_; refine l_neu (n_move rfl rfl) rfl ?_; refine l_call (hNb) rfl rfl rfl ?_; rintro _ rfl; refine l_neu (n_move rfl rfl) rfl ?_; refine l_neu (n_extract rfl rfl) rfl ?_; refine l_neu (n_extract rfl rfl) rfl ?_; refine l_neu (n_extract rfl rfl) rfl ?_; refine l_neu (n_assign rfl rfl) rfl ?_; refine l_neu (n_assign rfl rfl) rfl ?_; refine l_neu (n_assign rfl rfl) rfl ?_; refine l_nil ?_
    refine k1 ?_; refine k2 ?_
    refine c_region ?_; refine l_neu (n_move rfl rfl) rfl ?_; refine l_neu (n_move rfl rfl) rfl ?_; refine l_neu (n_move rfl rfl) rfl ?_; refine l_neu (n_move rfl rfl) rfl ?_; refine l_neu (n_build rfl) rfl ?_; refine l_neu (n_nilCheck_ref rfl) rfl ?_; refine l_neu (n_field_ref rfl) rfl ?_; refine l_eff (e_store_ref TySz.out rfl rfl rfl rfl rfl rfl) ?_; refine l_nil ?_
    refine k1 ?_; refine k2 ?_
    refine c_region ?_; refine l_neu (n_move rfl rfl) rfl ?_; refine l_neu (n_move rfl rfl) rfl ?_; refine l_guard rfl rfl rfl rfl (fun hg => by rw [hg]; exact n_move rfl rfl) ?_; refine l_neu (n_pick_bool rfl (fun h => by first | rfl | (rw [h]; rfl)) (fun h => by first | rfl | (rw [h]; rfl))) rfl ?_; refine l_neu (n_move rfl rfl) rfl ?_; refine l_guard rfl rfl rfl rfl (fun hg => by rw [hg]; exact n_move rfl rfl) ?_; refine l_guard rfl rfl rfl rfl (fun hg => by rw [hg]; exact n_move rfl rfl) ?_; refine l_guard rfl rfl rfl rfl (fun hg => by rw [hg]; exact n_len_s rfl) ?_; refine l_guard rfl rfl rfl rfl (fun hg => by rw [hg]; exact n_eql rfl rfl) ?_; refine l_neu (n_pick_bool rfl (fun h => by first | rfl | (rw [h]; rfl)) (fun h => by first | rfl | (rw [h]; rfl))) rfl ?_; refine l_neu (n_move rfl rfl) rfl ?_; refine l_guard rfl rfl rfl rfl (fun hg => by rw [hg]; exact n_move rfl rfl) ?_; refine l_neu (n_pick_bool rfl (fun h => by first | rfl | (rw [h]; rfl)) (fun h => by first | rfl | (rw [h]; rfl))) rfl ?_; refine l_neu (n_move rfl rfl) rfl ?_; refine l_guard rfl rfl rfl rfl (fun hg => by rw [hg]; exact n_move rfl rfl) ?_; refine l_guard rfl rfl rfl rfl (fun hg => by rw [hg]; exact n_move rfl rfl) ?_; refine l_guard rfl rfl rfl rfl (fun hg => by rw [hg]; exact n_len_s rfl) ?_; refine l_guard rfl rfl rfl rfl (fun hg => by rw [hg]; exact n_eql rfl rfl) ?_; refine l_neu (n_pick_bool rfl (fun h => by first | rfl | (rw [h]; rfl)) (fun h => by first | rfl | (rw [h]; rfl))) rfl ?_; refine l_neu (n_move rfl rfl) rfl ?_; refine l_guard rfl rfl rfl rfl (fun hg => by rw [hg]; exact n_move rfl rfl) ?_; refine l_guard rfl rfl rfl rfl (fun hg => by rw [hg]; exact n_geq rfl rfl) ?_; refine l_neu (n_pick_bool rfl (fun h => by first | rfl | (rw [h]; rfl)) (fun h => by first | rfl | (rw [h]; rfl))) rfl ?_; refine l_neu (n_move rfl rfl) rfl ?_; refine l_guard rfl rfl rfl rfl (fun hg => by rw [hg]; exact n_move rfl rfl) ?_; refine l_guard rfl rfl rfl rfl (fun hg => by rw [hg]; exact n_leq rfl rfl) ?_; refine l_neu (n_pick_bool rfl (fun h => by first | rfl | (rw [h]; rfl)) (fun h => by first | rfl | (rw [h]; rfl))) rfl ?_; refine l_neu (n_assign rfl rfl) rfl ?_; refine l_nil ?_
    refine k1 ?_; refine k10 ?_
    refine met_ret (rets1 rfl rfl) (by repeat (first | exact tail_refl | refine tail_cons rfl ?_ | refine tail_forget _ ?_)) (ObIn.spec (ob' := [(730, cpBox w _ n), (2, zBoxC)]) ⟨rfl, rfl, trivial⟩) ⟨w, _, n, _, rfl, rfl, ?_⟩
    rw [hT]
    by_cases hg : okc = true ∧ okw = true ∧ e = x.length ∧ okn = true ∧ en = c.length ∧ 1 ≤ n ∧ n ≤ 32
    · rw [if_pos hg]
      obtain ⟨g1, g2, g3, g4, g5, g6, g7⟩ := hg
      exact ⟨by simp [g1, g2, g3, g4, g5, g6, g7], rfl, rfl, rfl⟩
    · rw [if_neg hg]
      cases okc <;> cases okw <;> cases okn <;> first | rfl | (simp; done) | (simp at hg ⊢; exact hg) | (simp at hg ⊢; intros; omega)
  rw [if_neg h2] at hc2
  have hT : titleAt true a b = none := by
    have h1 : ¬ a.take 10 = ccS := h1
    have h2 : ¬ a.take 16 = combS := h2
    unfold titleAt kindAt
    rw [if_neg h1, if_neg h2]
  rw [hT]
  refine AL.Met.intro Tryd.func17 (by decide) rfl rfl rfl ?_
  refine k2 ?_
  refine c_region ?_; refine l_neu (n_assign rfl rfl) rfl ?_; refine l_nil ?_
  refine k1 ?_; refine k2 ?_
  refine c_region ?_; refine l_neu (n_move rfl rfl) rfl ?_; refine l_call (hc1) rfl rfl rfl ?_; rintro _ rfl; refine l_neu (n_move rfl rfl) rfl ?_; refine l_neu (n_extract rfl rfl) rfl ?_; refine l_neu (n_extract rfl rfl) rfl ?_; refine l_neu (n_assign rfl rfl) rfl ?_; refine l_neu (n_assign rfl rfl) rfl ?_; refine l_nil ?_
  refine k1 ?_; refine k2 ?_; refine k2 ?_
  refine c_region ?_; refine l_neu (n_move rfl rfl) rfl ?_; refine l_neu (n_not rfl) rfl ?_; refine l_nil ?_
  refine k1 ?_
  refine c_cond rfl (fun ht => ?_) (fun ht => ?_)
  rotate_left
  · cases ht
  refine k2 ?_
  refine c_region ?_; refine l_neu (n_assign rfl rfl) rfl ?_; refine l_nil ?_
  refine k1 ?_; refine k2 ?_
  refine c_region ?_; refine l_neu (n_move rfl rfl) rfl ?_; refine l_call (hc2) rfl rfl rfl ?_; rintro _ rfl; refine l_neu (n_move rfl rfl) rfl ?_; refine l_neu (n_extract rfl rfl) rfl ?_; refine l_neu (n_extract rfl rfl) rfl ?_; refine l_neu (n_assign rfl rfl) rfl ?_; refine l_neu (n_assign rfl rfl) rfl ?_; refine l_nil ?_
  refine k1 ?_; refine k2 ?_
  refine c_region ?_; refine l_neu (n_move rfl rfl) rfl ?_; refine l_neu (n_not rfl) rfl ?_; refine l_nil ?_
  refine k1 ?_
  refine c_cond rfl (fun ht => ?_) (fun ht => ?_)
  rotate_left
  · cases ht
  refine k2 ?_
  refine c_region ?_; refine l_neu (n_assign rfl rfl) rfl ?_; refine l_nil ?_
  refine k1 ?_; refine k10 ?_; refine k11 ?_
  exact met_ret (rets1 rfl rfl) (by repeat (first | exact tail_refl | refine tail_cons rfl ?_ | refine tail_forget _ ?_)) (fun _ _ h => h) ⟨[], false, 0, false, rfl, rfl, rfl⟩
end Go.Proofs.YtgejaedjnbjpoaaDoor
namespace Go.Proofs.YtgejaedjnbjpoaaDoor
open Go Go.AL
set_option maxRecDepth 100000
def chunkN : CHunk → Nat → Cell
  | h, 0 => .list Int 1 intC h.At
  | h, _ => match h.Rows with
    | [] => .v (.slice none 0 0)
    | _ :: _ => .list Row 3 rowC h.Rows
abbrev pcBox (w : Str) (d : Bool) (n : Int) : Ob := .box [.p (.v (.string ⟨w.toArray⟩)), .p (.v (.bool d)), .p (.v (.int .i64 n)), .mut 731]
abbrev pcShut (w : Str) (d : Bool) (n : Int) (hs : List CHunk) : Obs := [(730, pcBox w d n), (731, .grow 70 CHunk 2 chunkN hs), (2, zBoxC)]
abbrev pcOpen (w : Str) (d : Bool) (n : Int) (hs : List CHunk) (a : List Int) (rs : List Row) : Obs :=
  [(730, pcBox w d n), (731, .growA 70 CHunk 2 chunkN hs (hs.length - 1) [.p (.list Int 1 intC a), .mut 732]), (732, .grow 28 Row 3 rowC rs), (2, zBoxC)]
abbrev gfL (x : Str) (R : List Str) (k : Nat) : Fr := [(1000032, sStr x), (1000031, .s (.one (.ref 730 0))), (1000004, .s (.one (.ref 730 0))), (1000002, .s (.one (.ref 2 0))), (1000025, sList Str 1 strC R), (1000026, sInt R.length), (1000027, sInt k), (1000006, sStr x)]
abbrev gfH (x : Str) (R : List Str) (k : Nat) : Fr := [(1000012, sStr x), (1000011, .s (.one (.ref 730 0))), (1000000, .s (.one (.ref 730 0))), (1000001, sStr x), (2000032, sStr x), (2000031, .s (.one (.ref 730 0))), (2000004, .s (.one (.ref 730 0))), (2000002, .s (.one (.ref 2 0))), (2000025, sList Str 1 strC R), (2000026, sInt R.length), (2000027, sInt k), (2000006, sStr x)]
theorem words_step {n k : Nat} {w : Str} {r : List Str} {a c : Int} {e : Nat} (h1 : w.take 1 = [sgnB n k]) (h2 : rngAt (w.drop 1) = some (a, c, e)) (h3 : e = (w.drop 1).length) : wordsAt n k (w :: r) = (wordsAt n (k + 1) r).map (a :: ·) := by
  rw [wordsAt, if_pos h1, h2]
  dsimp only
  rw [if_pos h3]
theorem words_no1 {n k : Nat} {w : Str} {r : List Str} (h1 : w.take 1 ≠ [sgnB n k]) : wordsAt n k (w :: r) = none := by rw [wordsAt, if_neg h1]
theorem words_no2 {n k : Nat} {w : Str} {r : List Str} (h2 : rngAt (w.drop 1) = none) : wordsAt n k (w :: r) = none := by
  rw [wordsAt, h2]; split <;> rfl
theorem words_no3 {n k : Nat} {w : Str} {r : List Str} {a c : Int} {e : Nat} (h2 : rngAt (w.drop 1) = some (a, c, e)) (h3 : e ≠ (w.drop 1).length) : wordsAt n k (w :: r) = none := by
  rw [wordsAt, h2]
  dsimp only
  rw [if_neg h3]; split <;> rfl
theorem headP_out {n : Nat} {l : Str} (h : ¬ (l.take (n + 2) = preC n ∧ endsWith (l.drop (n + 2)) (sufC n) = true)) : headP n l = none := by unfold headP; rw [if_neg h]
theorem headP_in {n : Nat} {l : Str} (h : l.take (n + 2) = preC n ∧ endsWith (l.drop (n + 2)) (sufC n) = true) : headP n l = match wordsAt n 0 (cutsBy 32 ((l.drop (n + 2)).take ((l.drop (n + 2)).length - (n + 2)))) with
      | some a => if a.length = n + 1 then some a else none
      | none => none := by unfold headP; rw [if_pos h]; rfl
set_option maxHeartbeats 4000000
theorem pheader_met (x : Str) (R : List Str) (k : Nat) (w : Str) (d : Bool) (N : Nat) (hs : List CHunk) (hN : 1 ≤ N ∧ N ≤ 32) (hl : hs.length ≤ 16777216) (hx : x.length ≤ 4194304) :
    AL.Met Tryd.prog 31 [.one (.ref 730 0), .one (.p (.v (.string ⟨x.toArray⟩)))] (gfH x R k) (pcShut w d N hs) [731]
      (fun rs ob' => match headP N x with
        | none => rs = [tBo false] ∧ ob' = [(2, zBoxC)]
        | some a => rs = [tBo true] ∧ ob' = pcShut w d N (hs ++ [⟨a, []⟩])) := by
  have hrep : FnOk Tryd.prog 41 [pStr [64], pInt ((N : Int) + 1)] (fun rs => rs = [pStr (atS (N + 1))]) := by
    have := repeat_ok 64 (N + 1) (by omega)
    rwa [show ((N + 1 : Nat) : Int) = (N : Int) + 1 by omega] at this
  have hal := atS_len (N + 1)
  have hpl : (preC N).length = N + 2 := by simp [preC, atS_len]
  have hsl : (sufC N).length = N + 2 := by simp [sufC, atS_len]
  have hcp := cutPrefix_ok x (preC N)
  unfold cutP at hcp
  rw [hpl] at hcp
  obtain ⟨H, hH⟩ : ∃ H, H = headP N x := ⟨_, rfl⟩
  rw [← hH]
  by_cases h1 : x.take (N + 2) = preC N
  rotate_left
  · rw [if_neg h1] at hcp
    have hno : H = none := by rw [hH]; exact headP_out (fun h => h1 h.1)
    rw [hno]
    refine AL.Met.intro Tryd.func31 (by decide) rfl rfl rfl ?_
    refine k2 ?_
    refine c_region ?_; refine l_neu (n_assign rfl rfl) rfl ?_; refine l_nil ?_
    refine k1 ?_; refine k2 ?_
    refine c_region ?_; refine l_neu (n_move rfl rfl) rfl ?_; refine l_neu (n_nilCheck_ref rfl) rfl ?_; refine l_neu (n_field_ref rfl) rfl ?_; refine l_neu (n_field_ref rfl) rfl ?_; refine l_neu (n_load_ref rfl rfl rfl) rfl ?_; refine l_neu (n_add rfl rfl (by omega)) rfl ?_; refine l_call (hrep) rfl rfl rfl ?_; rintro _ rfl; refine l_neu (n_assign rfl rfl) rfl ?_; refine l_nil ?_
    refine k1 ?_; refine k2 ?_
    refine c_region ?_; refine l_neu (n_move rfl rfl) rfl ?_; refine l_neu (n_move rfl rfl) rfl ?_; refine l_neu (n_add_s rfl rfl (by (simp; omega))) rfl ?_; refine l_call (hcp) rfl rfl rfl ?_; rintro _ rfl; refine l_neu (n_move rfl rfl) rfl ?_; refine l_neu (n_extract rfl rfl) rfl ?_; refine l_neu (n_extract rfl rfl) rfl ?_; refine l_neu (n_assign rfl rfl) rfl ?_; refine l_neu (n_assign rfl rfl) rfl ?_; refine l_nil ?_
    refine k1 ?_; refine k2 ?_; refine k2 ?_
    refine c_region ?_; refine l_neu (n_move rfl rfl) rfl ?_; refine l_neu (n_not rfl) rfl ?_; refine l_nil ?_
    refine k1 ?_
    refine c_cond rfl (fun ht => ?_) (fun ht => ?_)
    · refine k2 ?_
      refine c_sees (Sees.forget 731) ?_
      refine c_region ?_; refine l_neu (n_assign rfl rfl) rfl ?_; refine l_nil ?_
      refine k1 ?_; refine k10 ?_; refine k11 ?_
      exact met_ret (rets1 rfl rfl) (by repeat (first | exact tail_refl | refine tail_cons rfl ?_ | refine tail_forget _ ?_)) (ObIn.spec (ob' := [(2, zBoxC)]) ⟨rfl, trivial⟩) ⟨rfl, rfl⟩
    · cases ht
  rw [if_pos h1] at hcp
  obtain ⟨y, hy⟩ : ∃ y, y = x.drop (N + 2) := ⟨_, rfl⟩
  have hyl : y.length ≤ x.length := by rw [hy, List.length_drop]; omega
  have hcs := cutSuffixP_ok y (sufC N) (by omega)
  unfold cutSf at hcs
  rw [hsl] at hcs
  rw [← hy] at hcp
  by_cases h2 : endsWith y (sufC N) = true
  rotate_left
  · rw [if_neg h2] at hcs
    have hno : H = none := by rw [hH]; exact headP_out (fun h => h2 (by rw [hy]; exact h.2))
    rw [hno]
    refine AL.Met.intro Tryd.func31 (by decide) rfl rfl rfl ?_
    refine k2 ?_
    refine c_region ?_; refine l_neu (n_assign rfl rfl) rfl ?_; refine l_nil ?_
    refine k1 ?_; refine k2 ?_
    refine c_region ?_; refine l_neu (n_move rfl rfl) rfl ?_; refine l_neu (n_nilCheck_ref rfl) rfl ?_; refine l_neu (n_field_ref rfl) rfl ?_; refine l_neu (n_field_ref rfl) rfl ?_; refine l_neu (n_load_ref rfl rfl rfl) rfl ?_; refine l_neu (n_add rfl rfl (by omega)) rfl ?_; refine l_call (hrep) rfl rfl rfl ?_; rintro _ rfl; refine l_neu (n_assign rfl rfl) rfl ?_; refine l_nil ?_
    refine k1 ?_; refine k2 ?_
    refine c_region ?_; refine l_neu (n_move rfl rfl) rfl ?_; refine l_neu (n_move rfl rfl) rfl ?_; refine l_neu (n_add_s rfl rfl (by (simp; omega))) rfl ?_; refine l_call (hcp) rfl rfl rfl ?_; rintro _ rfl; refine l_neu (n_move rfl rfl) rfl ?_; refine l_neu (n_extract rfl rfl) rfl ?_; refine l_neu (n_extract rfl rfl) rfl ?_; refine l_neu (n_assign rfl rfl) rfl ?_; refine l_neu (n_assign rfl rfl) rfl ?_; refine l_nil ?_
    refine k1 ?_; refine k2 ?_; refine k2 ?_
    refine c_region ?_; refine l_neu (n_move rfl rfl) rfl ?_; refine l_neu (n_not rfl) rfl ?_; refine l_nil ?_
    refine k1 ?_
    refine c_cond rfl (fun ht => ?_) (fun ht => ?_)
    · cases ht
    refine k5 ?_; refine k1 ?_; refine k2 ?_; refine k2 ?_
    refine c_region ?_; refine l_neu (n_move rfl rfl) rfl ?_; refine l_neu (n_move rfl rfl) rfl ?_; refine l_neu (n_add_s rfl rfl (by (simp; omega))) rfl ?_; refine l_call (hcs) rfl rfl rfl ?_; rintro _ rfl; refine l_neu (n_move rfl rfl) rfl ?_; refine l_neu (n_extract rfl rfl) rfl ?_; refine l_neu (n_extract rfl rfl) rfl ?_; refine l_neu (n_assign rfl rfl) rfl ?_; refine l_neu (n_assign rfl rfl) rfl ?_; refine l_nil ?_
    refine k1 ?_; refine k2 ?_
    refine c_region ?_; refine l_neu (n_move rfl rfl) rfl ?_; refine l_neu (n_not rfl) rfl ?_; refine l_nil ?_
    refine k1 ?_
    refine c_cond rfl (fun ht => ?_) (fun ht => ?_)
    · refine k2 ?_
      refine c_sees (Sees.forget 731) ?_
      refine c_region ?_; refine l_neu (n_assign rfl rfl) rfl ?_; refine l_nil ?_
      refine k1 ?_; refine k10 ?_; refine k11 ?_
      exact met_ret (rets1 rfl rfl) (by repeat (first | exact tail_refl | refine tail_cons rfl ?_ | refine tail_forget _ ?_)) (ObIn.spec (ob' := [(2, zBoxC)]) ⟨rfl, trivial⟩) ⟨rfl, rfl⟩
    · cases ht
  rw [if_pos h2] at hcs
  rw [headP_in ⟨h1, by rw [← hy]; exact h2⟩, ← hy] at hH
  obtain ⟨z, hz⟩ : ∃ z, z = y.take (y.length - (N + 2)) := ⟨_, rfl⟩
  have hzl : z.length ≤ x.length := by rw [hz, List.length_take]; omega
  rw [← hz] at hcs hH
  have hsp := splitB_ok z 32 (by omega)
  obtain ⟨W, hW⟩ : ∃ W, W = cutsBy 32 z := ⟨_, rfl⟩
  have hWl : W.length ≤ z.length + 1 := by
    have h3 := cutsBy_count 32 z
    have h4 : z.count 32 ≤ z.length := List.count_le_length
    rw [hW]; omega
  have hWm : ∀ v ∈ W, v.length ≤ 16777216 := by
    intro v hv
    rw [hW] at hv
    have := cutsBy_mem z v hv
    omega
  rw [← hW] at hsp hH
  have hfail : wordsAt N 0 W = none → H = none := fun h => by rw [hH, h]
  have hdone : ∀ a, wordsAt N 0 W = some a → H = if a.length = N + 1 then some a else none := fun a h => by rw [hH, h]
  refine AL.Met.intro Tryd.func31 (by decide) rfl rfl rfl ?_
  refine k2 ?_
  refine c_region ?_; refine l_neu (n_assign rfl rfl) rfl ?_; refine l_nil ?_
  refine k1 ?_; refine k2 ?_
  refine c_region ?_; refine l_neu (n_move rfl rfl) rfl ?_; refine l_neu (n_nilCheck_ref rfl) rfl ?_; refine l_neu (n_field_ref rfl) rfl ?_; refine l_neu (n_field_ref rfl) rfl ?_; refine l_neu (n_load_ref rfl rfl rfl) rfl ?_; refine l_neu (n_add rfl rfl (by omega)) rfl ?_; refine l_call (hrep) rfl rfl rfl ?_; rintro _ rfl; refine l_neu (n_assign rfl rfl) rfl ?_; refine l_nil ?_
  refine k1 ?_; refine k2 ?_
  refine c_region ?_; refine l_neu (n_move rfl rfl) rfl ?_; refine l_neu (n_move rfl rfl) rfl ?_; refine l_neu (n_add_s rfl rfl (by (simp; omega))) rfl ?_; refine l_call (hcp) rfl rfl rfl ?_; rintro _ rfl; refine l_neu (n_move rfl rfl) rfl ?_; refine l_neu (n_extract rfl rfl) rfl ?_; refine l_neu (n_extract rfl rfl) rfl ?_; refine l_neu (n_assign rfl rfl) rfl ?_; refine l_neu (n_assign rfl rfl) rfl ?_; refine l_nil ?_
  refine k1 ?_; refine k2 ?_; refine k2 ?_
  refine c_region ?_; refine l_neu (n_move rfl rfl) rfl ?_; refine l_neu (n_not rfl) rfl ?_; refine l_nil ?_
  refine k1 ?_
  refine c_cond rfl (fun ht => ?_) (fun ht => ?_)
  · cases ht
  refine k5 ?_; refine k1 ?_; refine k2 ?_; refine k2 ?_
  refine c_region ?_; refine l_neu (n_move rfl rfl) rfl ?_; refine l_neu (n_move rfl rfl) rfl ?_; refine l_neu (n_add_s rfl rfl (by (simp; omega))) rfl ?_; refine l_call (hcs) rfl rfl rfl ?_; rintro _ rfl; refine l_neu (n_move rfl rfl) rfl ?_; refine l_neu (n_extract rfl rfl) rfl ?_; refine l_neu (n_extract rfl rfl) rfl ?_; refine l_neu (n_assign rfl rfl) rfl ?_; refine l_neu (n_assign rfl rfl) rfl ?_; refine l_nil ?_
  refine k1 ?_; refine k2 ?_
  refine c_region ?_; refine l_neu (n_move rfl rfl) rfl ?_; refine l_neu (n_not rfl) rfl ?_; refine l_nil ?_
  refine k1 ?_
  refine c_cond rfl (fun ht => ?_) (fun ht => ?_)
  · cases ht
  refine c_cut [(0, .s (.one (.ref 730 0))), (6, sStr z), (1000012, sStr x), (1000011, .s (.one (.ref 730 0))), (1000000, .s (.one (.ref 730 0))), (1000001, sStr x), (2000032, sStr x), (2000031, .s (.one (.ref 730 0))), (2000004, .s (.one (.ref 730 0))), (2000002, .s (.one (.ref 2 0))), (2000025, sList Str 1 strC R), (2000026, sInt R.length), (2000027, sInt k), (2000006, sStr x)] (pcShut w d N hs) (Sees.of ⟨le1 rfl, le1 rfl, le1 rfl, le1 rfl, le1 rfl, le1 rfl, le1 rfl, le1 rfl, le1 rfl, le1 rfl, le1 rfl, le1 rfl, le1 rfl, le1 rfl, trivial⟩ ⟨rfl, rfl, rfl, trivial⟩) ?_
  refine k5 ?_; refine k1 ?_; refine k2 ?_
  refine c_region ?_; refine l_neu (n_build rfl) rfl ?_; refine l_effv (f_alloc 740 rfl) rfl ?_; refine l_eff (e_store_ref TySz.out rfl rfl rfl rfl rfl rfl) ?_; refine l_nil ?_
  refine k1 ?_; refine k2 ?_; refine k2 ?_
  refine c_sees (Sees.adoptB 741 Int 1 intC 3 (kb := 740) (o := 0) rfl rfl rfl) ?_
  refine c_region ?_; refine l_neu (n_move rfl rfl) rfl ?_; refine l_call (hsp) rfl rfl rfl ?_; rintro _ rfl; refine l_neu (n_len rfl (.pure _ _ _ _)) rfl ?_; refine l_neu (n_move rfl rfl) rfl ?_; refine l_nil ?_
  refine k1 ?_; refine k3 ?_
  refine c_while (X := Nat × List Int) (fun q => ([(0, .s (.one (.ref 730 0))), (8, .s (.one (.ref 740 0))), (45, sList Str 1 strC W), (46, sInt W.length), (47, sInt q.1), (1000012, sStr x), (1000011, .s (.one (.ref 730 0))), (1000000, .s (.one (.ref 730 0))), (1000001, sStr x), (2000032, sStr x), (2000031, .s (.one (.ref 730 0))), (2000004, .s (.one (.ref 730 0))), (2000002, .s (.one (.ref 2 0))), (2000025, sList Str 1 strC R), (2000026, sInt R.length), (2000027, sInt k), (2000006, sStr x)], [(730, pcBox w d N), (731, .grow 70 CHunk 2 chunkN hs), (2, zBoxC), (740, .box [.buf 741 Int 1 intC q.2, .p (.v (.slice none 0 0))]), (741, .spare q.2.length 1 3)])) (fun q => q.1 ≤ W.length ∧ q.2.length = q.1 ∧ wordsAt N 0 W = (wordsAt N q.1 (W.drop q.1)).map (q.2 ++ ·)) (fun q => W.length - q.1) (0, []) ⟨Nat.zero_le _, rfl, by simp⟩ (Sees.of ⟨le1 rfl, le1 rfl, le1 rfl, le1 rfl, le1 rfl, le1 rfl, le1 rfl, le1 rfl, le1 rfl, le1 rfl, le1 rfl, le1 rfl, le1 rfl, le1 rfl, le1 rfl, le1 rfl, le1 rfl, trivial⟩ ⟨rfl, rfl, rfl, rfl, rfl, trivial⟩) ?_
  rintro ⟨j, a⟩ ⟨hj, haj, hp⟩
  dsimp only at hj haj hp ⊢
  refine k2 ?_
  refine c_region ?_; refine l_neu (n_lss rfl rfl) rfl ?_; refine l_nil ?_
  refine k1 ?_; refine k2 ?_
  refine c_cond rfl (fun ht => ?_) (fun ht => ?_)
  · have hlt : j < W.length := by have := of_decide_eq_true ht; omega
    have hv : W[j]? = some W[j] := by simp [hlt]
    have hvm := hWm _ (List.getElem_mem hlt)
    rw [List.drop_eq_getElem_cons hlt] at hp
    obtain ⟨v, hvv⟩ : ∃ v, v = W[j] := ⟨_, rfl⟩
    rw [← hvv] at hv hvm hp
    have hcv := cutPrefix_ok v [sgnB N j]
    unfold cutP at hcv
    refine k5 ?_; refine k1 ?_; refine k2 ?_; refine k3 ?_; refine k2 ?_
    refine c_region ?_; refine l_neu (n_move rfl rfl) rfl ?_; refine l_neu (n_indexAddr rfl (.pure _ _ _ _) rfl (by omega) hv) rfl ?_; refine l_neu (n_load_eref rfl rfl) rfl ?_; refine l_neu (n_assign rfl rfl) rfl ?_; refine l_neu (n_assign rfl rfl) rfl ?_; refine l_nil ?_
    refine k1 ?_; refine k2 ?_
    refine c_region ?_; refine l_neu (n_assign rfl rfl) rfl ?_; refine l_nil ?_
    refine then_normal ?_
    refine c_join [(0, .s (.one (.ref 730 0))), (8, .s (.one (.ref 740 0))), (45, sList Str 1 strC W), (46, sInt W.length), (47, sInt j), (10, sStr v), (11, sStr [sgnB N j]), (1000012, sStr x), (1000011, .s (.one (.ref 730 0))), (1000000, .s (.one (.ref 730 0))), (1000001, sStr x), (2000032, sStr x), (2000031, .s (.one (.ref 730 0))), (2000004, .s (.one (.ref 730 0))), (2000002, .s (.one (.ref 2 0))), (2000025, sList Str 1 strC R), (2000026, sInt R.length), (2000027, sInt k), (2000006, sStr x)] ([(730, pcBox w d N), (731, .grow 70 CHunk 2 chunkN hs), (2, zBoxC), (740, .box [.buf 741 Int 1 intC a, .p (.v (.slice none 0 0))]), (741, .spare a.length 1 3)]) ?_ ?_
    · refine k2 ?_
      refine c_region ?_; refine l_neu (n_move rfl rfl) rfl ?_; refine l_neu (n_move rfl rfl) rfl ?_; refine l_neu (n_nilCheck_ref rfl) rfl ?_; refine l_neu (n_field_ref rfl) rfl ?_; refine l_neu (n_field_ref rfl) rfl ?_; refine l_neu (n_load_ref rfl rfl rfl) rfl ?_; refine l_neu (n_eql rfl rfl) rfl ?_; refine l_nil ?_
      refine k1 ?_
      refine c_cond rfl (fun ht => ?_) (fun ht => ?_)
      · have hjn := of_decide_eq_true ht
        skip
        refine c_region ?_; refine l_neu (n_assign rfl rfl) rfl ?_; refine l_nil ?_
        refine k1 ?_
        rw [show sgnB N j = 43 by unfold sgnB; rw [if_pos (by omega)]]
        exact Sees.of ⟨le1 rfl, le1 rfl, le1 rfl, le1 rfl, le1 rfl, le1 rfl, le1 rfl, le1 rfl, le1 rfl, le1 rfl, le1 rfl, le1 rfl, le1 rfl, le1 rfl, le1 rfl, le1 rfl, le1 rfl, le1 rfl, le1 rfl, trivial⟩ ⟨rfl, rfl, rfl, rfl, rfl, trivial⟩
      · have hjn := of_decide_eq_false ht
        refine k5 ?_; refine k1 ?_
        rw [show sgnB N j = 45 by unfold sgnB; rw [if_neg (by omega)]]
        exact Sees.of ⟨le1 rfl, le1 rfl, le1 rfl, le1 rfl, le1 rfl, le1 rfl, le1 rfl, le1 rfl, le1 rfl, le1 rfl, le1 rfl, le1 rfl, le1 rfl, le1 rfl, le1 rfl, le1 rfl, le1 rfl, le1 rfl, le1 rfl, trivial⟩ ⟨rfl, rfl, rfl, rfl, rfl, trivial⟩
    by_cases h3 : v.take 1 = [sgnB N j]
    rotate_left
    · have hcv : FnOk Tryd.prog 27 [pStr v, pStr [sgnB N j]] (fun rs => rs = [pStr v, pBool false]) := by
        have h4 : ¬ v.take ([sgnB N j] : Str).length = [sgnB N j] := h3
        rw [if_neg h4] at hcv; exact hcv
      have hno : H = none := hfail (by rw [hp, words_no1 h3]; rfl)
      have hrg := sRange_ok v 0 (Nat.zero_le _) (by omega)
      rw [hno]
      cases g : rngAt v with
      | none =>
        rw [rngR_none (by rw [List.drop_zero]; exact g)] at hrg
        refine k2 ?_
        refine c_region ?_; refine l_neu (n_move rfl rfl) rfl ?_; refine l_neu (n_move rfl rfl) rfl ?_; refine l_call (hcv) rfl rfl rfl ?_; rintro _ rfl; refine l_neu (n_move rfl rfl) rfl ?_; refine l_neu (n_extract rfl rfl) rfl ?_; refine l_neu (n_extract rfl rfl) rfl ?_; refine l_neu (n_assign rfl rfl) rfl ?_; refine l_neu (n_assign rfl rfl) rfl ?_; refine l_nil ?_
        refine k1 ?_; refine k2 ?_
        refine c_region ?_; refine l_neu (n_move rfl rfl) rfl ?_; refine l_call (hrg) rfl rfl rfl ?_; rintro _ rfl; refine l_neu (n_move rfl rfl) rfl ?_; refine l_neu (n_extract rfl rfl) rfl ?_; refine l_neu (n_extract rfl rfl) rfl ?_; refine l_neu (n_extract rfl rfl) rfl ?_; refine l_neu (n_extract rfl rfl) rfl ?_; refine l_neu (n_assign rfl rfl) rfl ?_; refine l_neu (n_assign rfl rfl) rfl ?_; refine l_neu (n_assign rfl rfl) rfl ?_; refine l_neu (n_assign rfl rfl) rfl ?_; refine l_nil ?_
        refine k1 ?_; refine k2 ?_; refine k2 ?_
        refine c_region ?_; refine l_neu (n_move rfl rfl) rfl ?_; refine l_neu (n_not rfl) rfl ?_; refine l_neu (n_move rfl rfl) rfl ?_; refine l_guard rfl rfl rfl rfl (fun hg => by rw [hg]; exact n_move rfl rfl) ?_; refine l_guard rfl rfl rfl rfl (fun hg => by rw [hg]; exact n_not rfl) ?_; refine l_neu (n_pick_bool rfl (fun h => by first | rfl | (rw [h]; rfl)) (fun h => by first | rfl | (rw [h]; rfl))) rfl ?_; refine l_neu (n_move rfl rfl) rfl ?_; refine l_guard rfl rfl rfl rfl (fun hg => by rw [hg]; exact n_move rfl rfl) ?_; refine l_guard rfl rfl rfl rfl (fun hg => by rw [hg]; exact n_move rfl rfl) ?_; refine l_guard rfl rfl rfl rfl (fun hg => by rw [hg]; exact n_len_s rfl) ?_; refine l_guard rfl rfl rfl rfl (fun hg => by rw [hg]; exact n_neq rfl rfl) ?_; refine l_neu (n_pick_bool rfl (fun h => by first | rfl | (rw [h]; rfl)) (fun h => by first | rfl | (rw [h]; rfl))) rfl ?_; refine l_nil ?_
        refine k1 ?_
        refine c_cond rfl (fun ht => ?_) (fun ht => ?_)
        · refine k2 ?_
          refine c_sees (Sees.forget 731) ?_
          refine c_region ?_; refine l_neu (n_assign rfl rfl) rfl ?_; refine l_nil ?_
          refine k1 ?_; refine k10 ?_; refine k11 ?_; refine k12 ?_; refine k11 ?_; refine k11 ?_; refine k12 ?_; refine k11 ?_
          exact met_ret (rets1 rfl rfl) (by repeat (first | exact tail_refl | refine tail_cons rfl ?_ | refine tail_forget _ ?_)) (ObIn.spec (ob' := [(2, zBoxC)]) ⟨rfl, trivial⟩) ⟨rfl, rfl⟩
        · exfalso; revert ht; simp
      | some q =>
        obtain ⟨s, c, e⟩ := q
        rw [rngR_some (k := e) (by rw [List.drop_zero]; exact g)] at hrg
        refine k2 ?_
        refine c_region ?_; refine l_neu (n_move rfl rfl) rfl ?_; refine l_neu (n_move rfl rfl) rfl ?_; refine l_call (hcv) rfl rfl rfl ?_; rintro _ rfl; refine l_neu (n_move rfl rfl) rfl ?_; refine l_neu (n_extract rfl rfl) rfl ?_; refine l_neu (n_extract rfl rfl) rfl ?_; refine l_neu (n_assign rfl rfl) rfl ?_; refine l_neu (n_assign rfl rfl) rfl ?_; refine l_nil ?_
        refine k1 ?_; refine k2 ?_
        refine c_region ?_; refine l_neu (n_move rfl rfl) rfl ?_; refine l_call (hrg) rfl rfl rfl ?_; rintro _ rfl; refine l_neu (n_move rfl rfl) rfl ?_; refine l_neu (n_extract rfl rfl) rfl ?_; refine l_neu (n_extract rfl rfl) rfl ?_; refine l_neu (n_extract rfl rfl) rfl ?_; refine l_neu (n_extract rfl rfl) rfl ?_; refine l_neu (n_assign rfl rfl) rfl ?_; refine l_neu (n_assign rfl rfl) rfl ?_; refine l_neu (n_assign rfl rfl) rfl ?_; refine l_neu (n_assign rfl rfl) rfl ?_; refine l_nil ?_
        refine k1 ?_; refine k2 ?_; refine k2 ?_
        refine c_region ?_; refine l_neu (n_move rfl rfl) rfl ?_; refine l_neu (n_not rfl) rfl ?_; refine l_neu (n_move rfl rfl) rfl ?_; refine l_guard rfl rfl rfl rfl (fun hg => by rw [hg]; exact n_move rfl rfl) ?_; refine l_guard rfl rfl rfl rfl (fun hg => by rw [hg]; exact n_not rfl) ?_; refine l_neu (n_pick_bool rfl (fun h => by first | rfl | (rw [h]; rfl)) (fun h => by first | rfl | (rw [h]; rfl))) rfl ?_; refine l_neu (n_move rfl rfl) rfl ?_; refine l_guard rfl rfl rfl rfl (fun hg => by rw [hg]; exact n_move rfl rfl) ?_; refine l_guard rfl rfl rfl rfl (fun hg => by rw [hg]; exact n_move rfl rfl) ?_; refine l_guard rfl rfl rfl rfl (fun hg => by rw [hg]; exact n_len_s rfl) ?_; refine l_guard rfl rfl rfl rfl (fun hg => by rw [hg]; exact n_neq rfl rfl) ?_; refine l_neu (n_pick_bool rfl (fun h => by first | rfl | (rw [h]; rfl)) (fun h => by first | rfl | (rw [h]; rfl))) rfl ?_; refine l_nil ?_
        refine k1 ?_
        refine c_cond rfl (fun ht => ?_) (fun ht => ?_)
        · refine k2 ?_
          refine c_sees (Sees.forget 731) ?_
          refine c_region ?_; refine l_neu (n_assign rfl rfl) rfl ?_; refine l_nil ?_
          refine k1 ?_; refine k10 ?_; refine k11 ?_; refine k12 ?_; refine k11 ?_; refine k11 ?_; refine k12 ?_; refine k11 ?_
          exact met_ret (rets1 rfl rfl) (by repeat (first | exact tail_refl | refine tail_cons rfl ?_ | refine tail_forget _ ?_)) (ObIn.spec (ob' := [(2, zBoxC)]) ⟨rfl, trivial⟩) ⟨rfl, rfl⟩
        · exfalso; revert ht; simp
    have hcv : FnOk Tryd.prog 27 [pStr v, pStr [sgnB N j]] (fun rs => rs = [pStr (v.drop 1), pBool true]) := by
      have h4 : v.take ([sgnB N j] : Str).length = [sgnB N j] := h3
      rw [if_pos h4] at hcv; exact hcv
    obtain ⟨u, huu⟩ : ∃ u, u = v.drop 1 := ⟨_, rfl⟩
    have hul : u.length ≤ 16777216 := by rw [huu, List.length_drop]; omega
    rw [← huu] at hcv
    have hrg := sRange_ok u 0 (Nat.zero_le _) (by omega)
    cases g : rngAt u with
    | none =>
      rw [rngR_none (by rw [List.drop_zero]; exact g)] at hrg
      have hno : H = none := hfail (by rw [hp, words_no2 (by rw [← huu]; exact g)]; rfl)
      rw [hno]
      refine k2 ?_
      refine c_region ?_; refine l_neu (n_move rfl rfl) rfl ?_; refine l_neu (n_move rfl rfl) rfl ?_; refine l_call (hcv) rfl rfl rfl ?_; rintro _ rfl; refine l_neu (n_move rfl rfl) rfl ?_; refine l_neu (n_extract rfl rfl) rfl ?_; refine l_neu (n_extract rfl rfl) rfl ?_; refine l_neu (n_assign rfl rfl) rfl ?_; refine l_neu (n_assign rfl rfl) rfl ?_; refine l_nil ?_
      refine k1 ?_; refine k2 ?_
      refine c_region ?_; refine l_neu (n_move rfl rfl) rfl ?_; refine l_call (hrg) rfl rfl rfl ?_; rintro _ rfl; refine l_neu (n_move rfl rfl) rfl ?_; refine l_neu (n_extract rfl rfl) rfl ?_; refine l_neu (n_extract rfl rfl) rfl ?_; refine l_neu (n_extract rfl rfl) rfl ?_; refine l_neu (n_extract rfl rfl) rfl ?_; refine l_neu (n_assign rfl rfl) rfl ?_; refine l_neu (n_assign rfl rfl) rfl ?_; refine l_neu (n_assign rfl rfl) rfl ?_; refine l_neu (n_assign rfl rfl) rfl ?_; refine l_nil ?_
      refine k1 ?_; refine k2 ?_; refine k2 ?_
      refine c_region ?_; refine l_neu (n_move rfl rfl) rfl ?_; refine l_neu (n_not rfl) rfl ?_; refine l_neu (n_move rfl rfl) rfl ?_; refine l_guard rfl rfl rfl rfl (fun hg => by rw [hg]; exact n_move rfl rfl) ?_; refine l_guard rfl rfl rfl rfl (fun hg => by rw [hg]; exact n_not rfl) ?_; refine l_neu (n_pick_bool rfl (fun h => by first | rfl | (rw [h]; rfl)) (fun h => by first | rfl | (rw [h]; rfl))) rfl ?_; refine l_neu (n_move rfl rfl) rfl ?_; refine l_guard rfl rfl rfl rfl (fun hg => by rw [hg]; exact n_move rfl rfl) ?_; refine l_guard rfl rfl rfl rfl (fun hg => by rw [hg]; exact n_move rfl rfl) ?_; refine l_guard rfl rfl rfl rfl (fun hg => by rw [hg]; exact n_len_s rfl) ?_; refine l_guard rfl rfl rfl rfl (fun hg => by rw [hg]; exact n_neq rfl rfl) ?_; refine l_neu (n_pick_bool rfl (fun h => by first | rfl | (rw [h]; rfl)) (fun h => by first | rfl | (rw [h]; rfl))) rfl ?_; refine l_nil ?_
      refine k1 ?_
      refine c_cond rfl (fun ht => ?_) (fun ht => ?_)
      · refine k2 ?_
        refine c_sees (Sees.forget 731) ?_
        refine c_region ?_; refine l_neu (n_assign rfl rfl) rfl ?_; refine l_nil ?_
        refine k1 ?_; refine k10 ?_; refine k11 ?_; refine k12 ?_; refine k11 ?_; refine k11 ?_; refine k12 ?_; refine k11 ?_
        exact met_ret (rets1 rfl rfl) (by repeat (first | exact tail_refl | refine tail_cons rfl ?_ | refine tail_forget _ ?_)) (ObIn.spec (ob' := [(2, zBoxC)]) ⟨rfl, trivial⟩) ⟨rfl, rfl⟩
      · exfalso; revert ht; simp
    | some q =>
      obtain ⟨s, c, e⟩ := q
      rw [rngR_some (k := e) (by rw [List.drop_zero]; exact g), Nat.zero_add] at hrg
      by_cases he : e = u.length
      rotate_left
      · have hno : H = none := hfail (by rw [hp, words_no3 (by rw [← huu]; exact g) (by rw [← huu]; exact he)]; rfl)
        rw [hno]
        refine k2 ?_
        refine c_region ?_; refine l_neu (n_move rfl rfl) rfl ?_; refine l_neu (n_move rfl rfl) rfl ?_; refine l_call (hcv) rfl rfl rfl ?_; rintro _ rfl; refine l_neu (n_move rfl rfl) rfl ?_; refine l_neu (n_extract rfl rfl) rfl ?_; refine l_neu (n_extract rfl rfl) rfl ?_; refine l_neu (n_assign rfl rfl) rfl ?_; refine l_neu (n_assign rfl rfl) rfl ?_; refine l_nil ?_
        refine k1 ?_; refine k2 ?_
        refine c_region ?_; refine l_neu (n_move rfl rfl) rfl ?_; refine l_call (hrg) rfl rfl rfl ?_; rintro _ rfl; refine l_neu (n_move rfl rfl) rfl ?_; refine l_neu (n_extract rfl rfl) rfl ?_; refine l_neu (n_extract rfl rfl) rfl ?_; refine l_neu (n_extract rfl rfl) rfl ?_; refine l_neu (n_extract rfl rfl) rfl ?_; refine l_neu (n_assign rfl rfl) rfl ?_; refine l_neu (n_assign rfl rfl) rfl ?_; refine l_neu (n_assign rfl rfl) rfl ?_; refine l_neu (n_assign rfl rfl) rfl ?_; refine l_nil ?_
        refine k1 ?_; refine k2 ?_; refine k2 ?_
        refine c_region ?_; refine l_neu (n_move rfl rfl) rfl ?_; refine l_neu (n_not rfl) rfl ?_; refine l_neu (n_move rfl rfl) rfl ?_; refine l_guard rfl rfl rfl rfl (fun hg => by rw [hg]; exact n_move rfl rfl) ?_; refine l_guard rfl rfl rfl rfl (fun hg => by rw [hg]; exact n_not rfl) ?_; refine l_neu (n_pick_bool rfl (fun h => by first | rfl | (rw [h]; rfl)) (fun h => by first | rfl | (rw [h]; rfl))) rfl ?_; refine l_neu (n_move rfl rfl) rfl ?_; refine l_guard rfl rfl rfl rfl (fun hg => by rw [hg]; exact n_move rfl rfl) ?_; refine l_guard rfl rfl rfl rfl (fun hg => by rw [hg]; exact n_move rfl rfl) ?_; refine l_guard rfl rfl rfl rfl (fun hg => by rw [hg]; exact n_len_s rfl) ?_; refine l_guard rfl rfl rfl rfl (fun hg => by rw [hg]; exact n_neq rfl rfl) ?_; refine l_neu (n_pick_bool rfl (fun h => by first | rfl | (rw [h]; rfl)) (fun h => by first | rfl | (rw [h]; rfl))) rfl ?_; refine l_nil ?_
        refine k1 ?_
        refine c_cond rfl (fun ht => ?_) (fun ht => ?_)
        · refine k2 ?_
          refine c_sees (Sees.forget 731) ?_
          refine c_region ?_; refine l_neu (n_assign rfl rfl) rfl ?_; refine l_nil ?_
          refine k1 ?_; refine k10 ?_; refine k11 ?_; refine k12 ?_; refine k11 ?_; refine k11 ?_; refine k12 ?_; refine k11 ?_
          exact met_ret (rets1 rfl rfl) (by repeat (first | exact tail_refl | refine tail_cons rfl ?_ | refine tail_forget _ ?_)) (ObIn.spec (ob' := [(2, zBoxC)]) ⟨rfl, trivial⟩) ⟨rfl, rfl⟩
        · exfalso; revert ht; simp; omega
      rw [words_step h3 (by rw [← huu]; exact g) (by rw [← huu]; exact he), Option.map_map] at hp
      refine k2 ?_
      refine c_region ?_; refine l_neu (n_move rfl rfl) rfl ?_; refine l_neu (n_move rfl rfl) rfl ?_; refine l_call (hcv) rfl rfl rfl ?_; rintro _ rfl; refine l_neu (n_move rfl rfl) rfl ?_; refine l_neu (n_extract rfl rfl) rfl ?_; refine l_neu (n_extract rfl rfl) rfl ?_; refine l_neu (n_assign rfl rfl) rfl ?_; refine l_neu (n_assign rfl rfl) rfl ?_; refine l_nil ?_
      refine k1 ?_; refine k2 ?_
      refine c_region ?_; refine l_neu (n_move rfl rfl) rfl ?_; refine l_call (hrg) rfl rfl rfl ?_; rintro _ rfl; refine l_neu (n_move rfl rfl) rfl ?_; refine l_neu (n_extract rfl rfl) rfl ?_; refine l_neu (n_extract rfl rfl) rfl ?_; refine l_neu (n_extract rfl rfl) rfl ?_; refine l_neu (n_extract rfl rfl) rfl ?_; refine l_neu (n_assign rfl rfl) rfl ?_; refine l_neu (n_assign rfl rfl) rfl ?_; refine l_neu (n_assign rfl rfl) rfl ?_; refine l_neu (n_assign rfl rfl) rfl ?_; refine l_nil ?_
      refine k1 ?_; refine k2 ?_; refine k2 ?_
      refine c_region ?_; refine l_neu (n_move rfl rfl) rfl ?_; refine l_neu (n_not rfl) rfl ?_; refine l_neu (n_move rfl rfl) rfl ?_; refine l_guard rfl rfl rfl rfl (fun hg => by rw [hg]; exact n_move rfl rfl) ?_; refine l_guard rfl rfl rfl rfl (fun hg => by rw [hg]; exact n_not rfl) ?_; refine l_neu (n_pick_bool rfl (fun h => by first | rfl | (rw [h]; rfl)) (fun h => by first | rfl | (rw [h]; rfl))) rfl ?_; refine l_neu (n_move rfl rfl) rfl ?_; refine l_guard rfl rfl rfl rfl (fun hg => by rw [hg]; exact n_move rfl rfl) ?_; refine l_guard rfl rfl rfl rfl (fun hg => by rw [hg]; exact n_move rfl rfl) ?_; refine l_guard rfl rfl rfl rfl (fun hg => by rw [hg]; exact n_len_s rfl) ?_; refine l_guard rfl rfl rfl rfl (fun hg => by rw [hg]; exact n_neq rfl rfl) ?_; refine l_neu (n_pick_bool rfl (fun h => by first | rfl | (rw [h]; rfl)) (fun h => by first | rfl | (rw [h]; rfl))) rfl ?_; refine l_nil ?_
      refine k1 ?_
      refine c_cond rfl (fun ht => ?_) (fun ht => ?_)
      · exfalso; revert ht; simp; omega
      refine c_cut [(0, .s (.one (.ref 730 0))), (8, .s (.one (.ref 740 0))), (45, sList Str 1 strC W), (46, sInt W.length), (47, sInt j), (14, sInt s), (1000012, sStr x), (1000011, .s (.one (.ref 730 0))), (1000000, .s (.one (.ref 730 0))), (1000001, sStr x), (2000032, sStr x), (2000031, .s (.one (.ref 730 0))), (2000004, .s (.one (.ref 730 0))), (2000002, .s (.one (.ref 2 0))), (2000025, sList Str 1 strC R), (2000026, sInt R.length), (2000027, sInt k), (2000006, sStr x)] ([(730, pcBox w d N), (731, .grow 70 CHunk 2 chunkN hs), (2, zBoxC), (740, .box [.buf 741 Int 1 intC a, .p (.v (.slice none 0 0))]), (741, .spare a.length 1 3)]) (Sees.of ⟨le1 rfl, le1 rfl, le1 rfl, le1 rfl, le1 rfl, le1 rfl, le1 rfl, le1 rfl, le1 rfl, le1 rfl, le1 rfl, le1 rfl, le1 rfl, le1 rfl, le1 rfl, le1 rfl, le1 rfl, le1 rfl, trivial⟩ ⟨rfl, rfl, rfl, rfl, rfl, trivial⟩) ?_
      refine k5 ?_; refine k1 ?_
      refine c_region ?_; refine l_neu (n_field_ref rfl) rfl ?_; refine l_neu (n_load_ref rfl rfl rfl) rfl ?_; refine l_neu (n_move rfl rfl) rfl ?_; refine l_neu (n_buildSlice (c := intC) (ys := [s]) (asm_cons rfl rfl rfl rfl asm_nil) rfl rfl rfl) rfl ?_; refine l_effv (e_append rfl rfl rfl (.pure _ _ _ _) (by (simp only [List.length_cons, List.length_nil]; omega)) rfl) rfl ?_; refine l_neu (n_field_ref rfl) rfl ?_; refine l_eff (e_store_ref TySz.out rfl rfl rfl rfl rfl rfl) ?_; refine l_nil ?_
      refine k4 ?_; refine k1 ?_
      refine c_region ?_; refine l_neu (n_add rfl rfl (by omega)) rfl ?_; refine l_neu (n_move rfl rfl) rfl ?_; refine l_nil ?_
      refine k1 ?_
      refine ⟨(j + 1, a ++ [s]), ⟨by dsimp only; omega, by dsimp only; rw [List.length_append]; simp; omega, ?_⟩, by dsimp only; omega, Sees.of ⟨le1 rfl, le1 rfl, le1 rfl, le1 rfl, le1 rfl, le1 rfl, le1 rfl, le1 rfl, le1 rfl, le1 rfl, le1 rfl, le1 rfl, le1 rfl, le1 rfl, le1 rfl, le1 rfl, le1 rfl, trivial⟩ ⟨rfl, rfl, rfl, rfl, rfl, trivial⟩⟩
      dsimp only
      rw [hp]
      congr 1
      funext q
      simp
  · have hjl : j = W.length := by have := of_decide_eq_false ht; omega
    rw [hjl, List.drop_eq_nil_of_le (Nat.le_refl _)] at hp
    have hp : wordsAt N 0 W = some a := by rw [hp, wordsAt]; simp
    have hHa := hdone a hp
    refine c_cut [(0, .s (.one (.ref 730 0))), (8, .s (.one (.ref 740 0))), (1000012, sStr x), (1000011, .s (.one (.ref 730 0))), (1000000, .s (.one (.ref 730 0))), (1000001, sStr x), (2000032, sStr x), (2000031, .s (.one (.ref 730 0))), (2000004, .s (.one (.ref 730 0))), (2000002, .s (.one (.ref 2 0))), (2000025, sList Str 1 strC R), (2000026, sInt R.length), (2000027, sInt k), (2000006, sStr x)] ([(730, pcBox w d N), (731, .grow 70 CHunk 2 chunkN hs), (2, zBoxC), (740, .box [.buf 741 Int 1 intC a, .p (.v (.slice none 0 0))]), (741, .spare a.length 1 3)]) (Sees.of ⟨le1 rfl, le1 rfl, le1 rfl, le1 rfl, le1 rfl, le1 rfl, le1 rfl, le1 rfl, le1 rfl, le1 rfl, le1 rfl, le1 rfl, le1 rfl, le1 rfl, trivial⟩ ⟨rfl, rfl, rfl, rfl, rfl, trivial⟩) ?_
    refine k6 ?_; refine k2 ?_
    refine c_region_ord [12, 8] [[], [8], [12, 8]] [(8, ([731], [96])), (12, ([], []))] [(0, []), (1, []), (2, []), (3, []), (4, []), (5, []), (6, []), (7, []), (8, []), (9, [8]), (10, [8]), (11, [8]), (12, [8])] [(0, [8])] (by kernel_rfl) (by kernel_rfl) ?_; refine w_neu rfl rfl (by kernel_rfl) rfl rfl (n_move rfl rfl) ?_; refine w_neu rfl rfl (by kernel_rfl) rfl rfl (n_move rfl rfl) ?_; refine w_neu rfl rfl (by kernel_rfl) rfl rfl (n_nilCheck_ref rfl) ?_; refine w_neu rfl rfl (by kernel_rfl) rfl rfl (n_field_ref rfl) ?_; refine w_neu rfl rfl (by kernel_rfl) rfl rfl (n_field_ref rfl) ?_; refine w_neu rfl rfl (by kernel_rfl) rfl rfl (n_load_ref rfl rfl rfl) ?_; refine w_neu rfl rfl (by kernel_rfl) rfl rfl (n_loads_ref rfl rfl rfl) ?_; refine w_neu rfl rfl (by kernel_rfl) rfl rfl (n_buildSlice (c := chunkN) (ys := [⟨a, []⟩]) (asm_cons rfl rfl rfl rfl asm_nil) rfl rfl rfl) ?_; refine w_eff rfl rfl (by kernel_rfl) rfl rfl (r_turn (fun frc hU => e_append_g (opvU hU rfl) rfl (opvU hU rfl) (.pure _ _ _ _) (by (simp; omega)) rfl)) rfl ?_; refine w_neu rfl rfl (by kernel_rfl) rfl rfl (n_nilCheck_ref rfl) ?_; refine w_neu rfl rfl (by kernel_rfl) rfl rfl (n_field_ref rfl) ?_; refine w_neu rfl rfl (by kernel_rfl) rfl rfl (n_field_ref rfl) ?_; refine w_eff rfl rfl (by kernel_rfl) rfl rfl (r_eff (fun frc hU => e_store_ref TySz.out (opvU hU rfl) rfl (opvU hU rfl) rfl rfl rfl)) rfl ?_; refine w_nil (by kernel_rfl) rfl ?_ ?_
    · refine x_neu rfl rfl (by kernel_rfl) rfl rfl (n_move rfl rfl) ?_; exact x_nil
    refine k1 ?_; refine k2 ?_
    refine c_region_draw (by kernel_rfl) (by kernel_rfl) ?_; refine d_neu (n_field_ref rfl) rfl rfl ?_; refine d_neu (n_load_ref rfl rfl rfl) rfl rfl ?_; refine d_neu (n_len rfl (.buf _ _ _ _ _)) rfl rfl ?_; refine d_neu (n_move rfl rfl) rfl rfl ?_; refine d_neu (n_nilCheck_ref rfl) rfl rfl ?_; refine d_neu (n_field_ref rfl) rfl rfl ?_; refine d_neu (n_field_ref rfl) rfl rfl ?_; refine d_neu (n_load_ref rfl rfl rfl) rfl rfl ?_; refine d_neu (n_add rfl rfl (by omega)) rfl rfl ?_; refine d_neu (n_eql rfl rfl) rfl rfl ?_; refine d_neu (n_assign rfl rfl) rfl rfl ?_; refine d_nil ?_
    refine k1 ?_; refine k10 ?_
    by_cases hal2 : a.length = N + 1
    · rw [if_pos hal2] at hHa
      rw [hHa]
      refine met_ret (ob' := pcShut w d N (hs ++ [⟨a, []⟩])) (rets1 rfl rfl) (by repeat (first | exact tail_refl | refine tail_cons rfl ?_ | refine tail_forget _ ?_)) (ObIn.spec ⟨rfl, rfl, rfl, trivial⟩) ⟨?_, rfl⟩
      rw [decide_eq_true (by omega)]
    · rw [if_neg hal2] at hHa
      rw [hHa]
      refine met_ret (ob' := [(2, zBoxC)]) (rets1 rfl rfl) (by repeat (first | exact tail_refl | refine tail_cons rfl ?_ | refine tail_forget _ ?_)) (ObIn.spec ⟨rfl, trivial⟩) ⟨?_, rfl⟩
      rw [decide_eq_false (by omega)]
end Go.Proofs.YtgejaedjnbjpoaaDoor
namespace Go.Proofs.YtgejaedjnbjpoaaDoor
open Go Go.AL
set_option maxRecDepth 100000
set_option maxHeartbeats 4000000
theorem pline_at (x : Str) (R : List Str) (k : Nat) (w : Str) (d : Bool) (N : Nat) (hs : List CHunk) (hN : 1 ≤ N ∧ N ≤ 32) (hl : hs.length ≤ 16777216) (hx : x.length ≤ 4194304) (h64 : x.take 1 = [64]) :
    AL.Met Tryd.prog 18 [.one (.ref 730 0), .one (.p (.v (.string ⟨x.toArray⟩)))] (gfL x R k) (pcShut w d N hs) [731]
      (fun rs ob' => match headP N x with
        | none => rs = [tBo false] ∧ ob' = [(2, zBoxC)]
        | some a => rs = [tBo true] ∧ ob' = pcShut w d N (hs ++ [⟨a, []⟩])) := by
  have hh := pheader_met x R k w d N hs hN hl hx
  have hp := hasPrefix_ok x [64]
  rw [show ([64] : Str).length = 1 from rfl, decide_eq_true h64] at hp
  cases hH : headP N x with
  | none =>
    rw [hH] at hh
    refine AL.Met.intro Tryd.func18 (by decide) rfl rfl rfl ?_
    refine k2 ?_
    refine c_region ?_; refine l_neu (n_assign rfl rfl) rfl ?_; refine l_nil ?_
    refine k1 ?_; refine k2 ?_; refine k2 ?_
    refine c_region ?_; refine l_neu (n_move rfl rfl) rfl ?_; refine l_call (hp) rfl rfl rfl ?_; rintro _ rfl; refine l_nil ?_
    refine k1 ?_
    refine c_cond rfl (fun ht => ?_) (fun ht => ?_)
    rotate_left
    · cases ht
    refine c_cut [(0, .s (.one (.ref 730 0))), (1, sStr x), (1000032, sStr x), (1000031, .s (.one (.ref 730 0))), (1000004, .s (.one (.ref 730 0))), (1000002, .s (.one (.ref 2 0))), (1000025, sList Str 1 strC R), (1000026, sInt R.length), (1000027, sInt k), (1000006, sStr x)] (pcShut w d N hs) (Sees.of ⟨le1 rfl, le1 rfl, le1 rfl, le1 rfl, le1 rfl, le1 rfl, le1 rfl, le1 rfl, le1 rfl, le1 rfl, trivial⟩ ⟨rfl, rfl, rfl, trivial⟩) ?_
    refine k2 ?_
    refine c_region ?_; refine l_neu (n_move rfl rfl) rfl ?_; refine l_neu (n_move rfl rfl) rfl ?_; refine l_met (hh) rfl rfl rfl ?_; rintro _ _ ⟨rfl, rfl⟩; refine l_neu (n_assign rfl rfl) rfl ?_; refine l_nil ?_
    refine k1 ?_; refine k10 ?_; refine k11 ?_
    exact met_ret (rets1 rfl rfl) (by repeat (first | exact tail_refl | refine tail_cons rfl ?_ | refine tail_forget _ ?_)) (ObIn.spec (ob' := [(2, zBoxC)]) ⟨rfl, trivial⟩) ⟨rfl, rfl⟩
  | some a =>
    rw [hH] at hh
    refine AL.Met.intro Tryd.func18 (by decide) rfl rfl rfl ?_
    refine k2 ?_
    refine c_region ?_; refine l_neu (n_assign rfl rfl) rfl ?_; refine l_nil ?_
    refine k1 ?_; refine k2 ?_; refine k2 ?_
    refine c_region ?_; refine l_neu (n_move rfl rfl) rfl ?_; refine l_call (hp) rfl rfl rfl ?_; rintro _ rfl; refine l_nil ?_
    refine k1 ?_
    refine c_cond rfl (fun ht => ?_) (fun ht => ?_)
    rotate_left
    · cases ht
    refine c_cut [(0, .s (.one (.ref 730 0))), (1, sStr x), (1000032, sStr x), (1000031, .s (.one (.ref 730 0))), (1000004, .s (.one (.ref 730 0))), (1000002, .s (.one (.ref 2 0))), (1000025, sList Str 1 strC R), (1000026, sInt R.length), (1000027, sInt k), (1000006, sStr x)] (pcShut w d N hs) (Sees.of ⟨le1 rfl, le1 rfl, le1 rfl, le1 rfl, le1 rfl, le1 rfl, le1 rfl, le1 rfl, le1 rfl, le1 rfl, trivial⟩ ⟨rfl, rfl, rfl, trivial⟩) ?_
    refine k2 ?_
    refine c_region ?_; refine l_neu (n_move rfl rfl) rfl ?_; refine l_neu (n_move rfl rfl) rfl ?_; refine l_met (hh) rfl rfl rfl ?_; rintro _ _ ⟨rfl, rfl⟩; refine l_neu (n_assign rfl rfl) rfl ?_; refine l_nil ?_
    refine k1 ?_; refine k10 ?_; refine k11 ?_
    exact met_ret (rets1 rfl rfl) (by repeat (first | exact tail_refl | refine tail_cons rfl ?_ | refine tail_forget _ ?_)) (ObIn.spec (ob' := pcShut w d N (hs ++ [⟨a, []⟩])) ⟨rfl, rfl, rfl, trivial⟩) ⟨rfl, rfl⟩
theorem pline_nil (x : Str) (R : List Str) (k : Nat) (w : Str) (d : Bool) (N : Nat) (h64 : x.take 1 ≠ [64]) :
    AL.Met Tryd.prog 18 [.one (.ref 730 0), .one (.p (.v (.string ⟨x.toArray⟩)))] (gfL x R k) (pcShut w d N []) [732] (fun rs ob' => rs = [tBo false] ∧ ob' = [(2, zBoxC)]) := by
  have hp := hasPrefix_ok x [64]
  rw [show ([64] : Str).length = 1 from rfl, decide_eq_false h64] at hp
  refine AL.Met.intro Tryd.func18 (by decide) rfl rfl rfl ?_
  refine k2 ?_
  refine c_region ?_; refine l_neu (n_assign rfl rfl) rfl ?_; refine l_nil ?_
  refine k1 ?_; refine k2 ?_; refine k2 ?_
  refine c_region ?_; refine l_neu (n_move rfl rfl) rfl ?_; refine l_call (hp) rfl rfl rfl ?_; rintro _ rfl; refine l_nil ?_
  refine k1 ?_
  refine c_cond rfl (fun ht => ?_) (fun ht => ?_)
  · cases ht
  refine k5 ?_; refine k1 ?_; refine k2 ?_; refine k2 ?_
  refine c_region ?_; refine l_neu (n_move rfl rfl) rfl ?_; refine l_neu (n_nilCheck_ref rfl) rfl ?_; refine l_neu (n_field_ref rfl) rfl ?_; refine l_neu (n_field_ref rfl) rfl ?_; refine l_neu (n_load_ref rfl rfl rfl) rfl ?_; refine l_neu (n_len_g rfl rfl) rfl ?_; refine l_neu (n_eql rfl rfl) rfl ?_; refine l_nil ?_
  refine k1 ?_
  refine c_cond rfl (fun ht => ?_) (fun ht => ?_)
  · refine k2 ?_
    refine c_sees (Sees.forget 732) ?_
    refine c_region ?_; refine l_neu (n_assign rfl rfl) rfl ?_; refine l_nil ?_
    refine k1 ?_; refine k10 ?_; refine k11 ?_
    exact met_ret (rets1 rfl rfl) (by repeat (first | exact tail_refl | refine tail_cons rfl ?_ | refine tail_forget _ ?_)) (ObIn.spec (ob' := [(2, zBoxC)]) ⟨rfl, trivial⟩) ⟨rfl, rfl⟩
  · cases ht
theorem pline_cut (R : List Str) (k : Nat) (w : Str) (d : Bool) (N : Nat) (hs : List CHunk) (a : List Int) (rs : List Row) (h0 : 0 < hs.length) (hl : hs.length ≤ 16777216) (hrl : rs.length ≤ 16777216) (htx : ∀ r ∈ rs, r.Text.length ≤ 1073741824) :
    AL.Met Tryd.prog 18 [.one (.ref 730 0), .one (.p (.v (.string ⟨noNl.toArray⟩)))] (gfL noNl R k) (pcOpen w d N hs a rs) []
      (fun res ob' => match rs.getLast? with
        | none => res = [tBo false] ∧ ob' = [(2, zBoxC)]
        | some r => res = [tBo true] ∧ ob' = pcOpen w d N hs a (rs.dropLast ++ [⟨r.Lost, r.Marks, trimS r.Text⟩])) := by
  have hp := hasPrefix_ok noNl [64]
  rw [show decide (noNl.take ([64] : Str).length = [64]) = false from rfl] at hp
  have hne0 : decide ((hs.length : Int) = 0) = false := decide_eq_false (by omega)
  cases hx : rs.getLast? with
  | none =>
    have hn : rs = [] := List.getLast?_eq_none_iff.1 hx
    subst hn
    refine AL.Met.intro Tryd.func18 (by decide) rfl rfl rfl ?_
    refine k2 ?_
    refine c_region ?_; refine l_neu (n_assign rfl rfl) rfl ?_; refine l_nil ?_
    refine k1 ?_; refine k2 ?_; refine k2 ?_
    refine c_region ?_; refine l_neu (n_move rfl rfl) rfl ?_; refine l_call (hp) rfl rfl rfl ?_; rintro _ rfl; refine l_nil ?_
    refine k1 ?_
    refine c_cond rfl (fun ht => ?_) (fun ht => ?_)
    · cases ht
    refine k5 ?_; refine k1 ?_; refine k2 ?_; refine k2 ?_
    refine c_region ?_; refine l_neu (n_move rfl rfl) rfl ?_; refine l_neu (n_nilCheck_ref rfl) rfl ?_; refine l_neu (n_field_ref rfl) rfl ?_; refine l_neu (n_field_ref rfl) rfl ?_; refine l_neu (n_load_ref rfl rfl rfl) rfl ?_; refine l_neu (n_len_gA rfl rfl) rfl ?_; refine l_neu (n_eql rfl rfl) rfl ?_; refine l_nil ?_
    refine k1 ?_
    refine c_cond rfl (fun ht => ?_) (fun ht => ?_)
    · exact absurd (of_decide_eq_true ht) (by omega)
    refine k5 ?_; refine k1 ?_; refine k2 ?_
    refine c_region_draw (by kernel_rfl) (by kernel_rfl) ?_; refine d_neu (n_move rfl rfl) rfl rfl ?_; refine d_neu (n_nilCheck_ref rfl) rfl rfl ?_; refine d_neu (n_field_ref rfl) rfl rfl ?_; refine d_neu (n_field_ref rfl) rfl rfl ?_; refine d_neu (n_load_ref rfl rfl rfl) rfl rfl ?_; refine d_neu (n_move rfl rfl) rfl rfl ?_; refine d_neu (n_nilCheck_ref rfl) rfl rfl ?_; refine d_neu (n_field_ref rfl) rfl rfl ?_; refine d_neu (n_field_ref rfl) rfl rfl ?_; refine d_neu (n_load_ref rfl rfl rfl) rfl rfl ?_; refine d_neu (n_len_gA rfl rfl) rfl rfl ?_; refine d_neu (n_sub rfl rfl (by omega)) rfl rfl ?_; refine d_neu (n_indexAddr_gA rfl rfl rfl (by omega) (by omega)) rfl rfl ?_; refine d_neu (n_assign rfl rfl) rfl rfl ?_; refine d_nil ?_
    refine k1 ?_; refine k2 ?_; refine k2 ?_
    refine c_region ?_; refine l_neu (n_move rfl rfl) rfl ?_; refine l_neu (n_eql_s rfl rfl) rfl ?_; refine l_nil ?_
    refine k1 ?_
    refine c_cond rfl (fun ht => ?_) (fun ht => ?_)
    rotate_left
    · exact absurd rfl (of_decide_eq_false ht)
    refine k2 ?_; refine k2 ?_
    refine c_region ?_; refine l_neu (n_move rfl rfl) rfl ?_; refine l_neu (n_nilCheck_mref rfl) rfl ?_; refine l_neu (n_field_mref rfl) rfl ?_; refine l_neu (n_load_gA rfl rfl (by first | rfl | omega) rfl) rfl ?_; refine l_neu (n_len_g rfl rfl) rfl ?_; refine l_neu (n_eql rfl rfl) rfl ?_; refine l_nil ?_
    refine k1 ?_
    refine c_cond rfl (fun ht => ?_) (fun ht => ?_)
    rotate_left
    · exact absurd rfl (of_decide_eq_false ht)
    refine k2 ?_
    refine c_region ?_; refine l_neu (n_assign rfl rfl) rfl ?_; refine l_nil ?_
    refine k1 ?_; refine k10 ?_; refine k11 ?_; refine k11 ?_
    exact met_ret (rets1 rfl rfl) (by repeat (first | exact tail_refl | refine tail_cons rfl ?_ | refine tail_forget _ ?_)) (ObIn.spec (ob' := [(2, zBoxC)]) ⟨rfl, trivial⟩) ⟨rfl, rfl⟩
  | some r =>
    have hne : rs ≠ [] := fun e => by rw [e] at hx; cases hx
    have hlen := List.length_pos_iff.2 hne
    have hv : rs[((rs.length : Int) - 1).toNat]? = some r := by rw [show ((rs.length : Int) - 1).toNat = rs.length - 1 by omega, ← List.getLast?_eq_getElem?]; exact hx
    have hset : ∀ y : Row, rs.set (((rs.length : Int) - 1).toNat) y = rs.dropLast ++ [y] := by
      intro y
      rw [show ((rs.length : Int) - 1).toNat = rs.length - 1 by omega]
      have hd := List.dropLast_concat_getLast hne
      conv => lhs; rw [← hd]
      rw [List.set_append_right _ _ (by rw [List.length_dropLast, List.length_append, List.length_dropLast]; simp)]
      simp
    have hxt := htx r (List.mem_of_getElem? hv)
    have htr := trimSuffix_ok r.Text [10] (by omega)
    rw [trimSuffix_lf, show bareOf r.Text = trimS r.Text from rfl] at htr
    refine AL.Met.intro Tryd.func18 (by decide) rfl rfl rfl ?_
    refine k2 ?_
    refine c_region ?_; refine l_neu (n_assign rfl rfl) rfl ?_; refine l_nil ?_
    refine k1 ?_; refine k2 ?_; refine k2 ?_
    refine c_region ?_; refine l_neu (n_move rfl rfl) rfl ?_; refine l_call (hp) rfl rfl rfl ?_; rintro _ rfl; refine l_nil ?_
    refine k1 ?_
    refine c_cond rfl (fun ht => ?_) (fun ht => ?_)
    · cases ht
    refine k5 ?_; refine k1 ?_; refine k2 ?_; refine k2 ?_
    refine c_region ?_; refine l_neu (n_move rfl rfl) rfl ?_; refine l_neu (n_nilCheck_ref rfl) rfl ?_; refine l_neu (n_field_ref rfl) rfl ?_; refine l_neu (n_field_ref rfl) rfl ?_; refine l_neu (n_load_ref rfl rfl rfl) rfl ?_; refine l_neu (n_len_gA rfl rfl) rfl ?_; refine l_neu (n_eql rfl rfl) rfl ?_; refine l_nil ?_
    refine k1 ?_
    refine c_cond rfl (fun ht => ?_) (fun ht => ?_)
    · exact absurd (of_decide_eq_true ht) (by omega)
    refine k5 ?_; refine k1 ?_; refine k2 ?_
    refine c_region_draw (by kernel_rfl) (by kernel_rfl) ?_; refine d_neu (n_move rfl rfl) rfl rfl ?_; refine d_neu (n_nilCheck_ref rfl) rfl rfl ?_; refine d_neu (n_field_ref rfl) rfl rfl ?_; refine d_neu (n_field_ref rfl) rfl rfl ?_; refine d_neu (n_load_ref rfl rfl rfl) rfl rfl ?_; refine d_neu (n_move rfl rfl) rfl rfl ?_; refine d_neu (n_nilCheck_ref rfl) rfl rfl ?_; refine d_neu (n_field_ref rfl) rfl rfl ?_; refine d_neu (n_field_ref rfl) rfl rfl ?_; refine d_neu (n_load_ref rfl rfl rfl) rfl rfl ?_; refine d_neu (n_len_gA rfl rfl) rfl rfl ?_; refine d_neu (n_sub rfl rfl (by omega)) rfl rfl ?_; refine d_neu (n_indexAddr_gA rfl rfl rfl (by omega) (by omega)) rfl rfl ?_; refine d_neu (n_assign rfl rfl) rfl rfl ?_; refine d_nil ?_
    refine k1 ?_; refine k2 ?_; refine k2 ?_
    refine c_region ?_; refine l_neu (n_move rfl rfl) rfl ?_; refine l_neu (n_eql_s rfl rfl) rfl ?_; refine l_nil ?_
    refine k1 ?_
    refine c_cond rfl (fun ht => ?_) (fun ht => ?_)
    rotate_left
    · exact absurd rfl (of_decide_eq_false ht)
    refine k2 ?_; refine k2 ?_
    refine c_region ?_; refine l_neu (n_move rfl rfl) rfl ?_; refine l_neu (n_nilCheck_mref rfl) rfl ?_; refine l_neu (n_field_mref rfl) rfl ?_; refine l_neu (n_load_gA rfl rfl (by first | rfl | omega) rfl) rfl ?_; refine l_neu (n_len_g rfl rfl) rfl ?_; refine l_neu (n_eql rfl rfl) rfl ?_; refine l_nil ?_
    refine k1 ?_
    refine c_cond rfl (fun ht => ?_) (fun ht => ?_)
    · exact absurd (of_decide_eq_true ht) (by omega)
    refine k5 ?_; refine k1 ?_; refine k2 ?_
    refine c_region_draw (by kernel_rfl) (by kernel_rfl) ?_; refine d_neu (n_move rfl rfl) rfl rfl ?_; refine d_neu (n_nilCheck_mref rfl) rfl rfl ?_; refine d_neu (n_field_mref rfl) rfl rfl ?_; refine d_neu (n_load_gA rfl rfl (by first | rfl | omega) rfl) rfl rfl ?_; refine d_neu (n_move rfl rfl) rfl rfl ?_; refine d_neu (n_nilCheck_mref rfl) rfl rfl ?_; refine d_neu (n_field_mref rfl) rfl rfl ?_; refine d_neu (n_load_gA rfl rfl (by first | rfl | omega) rfl) rfl rfl ?_; refine d_neu (n_len_g rfl rfl) rfl rfl ?_; refine d_neu (n_sub rfl rfl (by omega)) rfl rfl ?_; refine d_neu (n_indexAddr_g rfl rfl rfl (by omega) (by omega)) rfl rfl ?_; refine d_neu (n_assign rfl rfl) rfl rfl ?_; refine d_nil ?_
    refine k1 ?_; refine k2 ?_
    refine c_region ?_; refine l_neu (n_move rfl rfl) rfl ?_; refine l_neu (n_move rfl rfl) rfl ?_; refine l_neu (n_nilCheck_mref rfl) rfl ?_; refine l_neu (n_field_mref rfl) rfl ?_; refine l_neu (n_load_g rfl rfl hv rfl) rfl ?_; refine l_call (htr) rfl rfl rfl ?_; rintro _ rfl; refine l_neu (n_nilCheck_mref rfl) rfl ?_; refine l_neu (n_field_mref rfl) rfl ?_; refine l_eff (e_store_g (⟨r.Lost, r.Marks, trimS r.Text⟩) TySz.out rfl rfl hv rfl rfl rfl rfl (fun _ _ _ h => all2_unp h) (by intro j h1 h2; rcases j with _ | _ | _ | _ | _ | _ | _ | j <;> first | rfl | omega)) ?_; refine l_nil ?_
    rw [hset]
    refine k1 ?_; refine k2 ?_
    refine c_region ?_; refine l_neu (n_assign rfl rfl) rfl ?_; refine l_nil ?_
    refine k1 ?_; refine k10 ?_; refine k11 ?_
    exact met_ret (rets1 rfl rfl) (by repeat (first | exact tail_refl | refine tail_cons rfl ?_ | refine tail_forget _ ?_)) (ObIn.spec (ob' := pcOpen w d N hs a (rs.dropLast ++ [⟨r.Lost, r.Marks, trimS r.Text⟩])) ⟨rfl, rfl, rfl, rfl, trivial⟩) ⟨rfl, rfl⟩
theorem pline_row (x : Str) (R : List Str) (k : Nat) (w : Str) (d : Bool) (N : Nat) (hs : List CHunk) (a : List Int) (rs : List Row) (h0 : 0 < hs.length) (hl : hs.length ≤ 16777216) (hrl : rs.length ≤ 16777216) (hx : x.length ≤ 4194304) (h64 : x.take 1 ≠ [64]) (hno : x ≠ noNl) :
    AL.Met Tryd.prog 18 [.one (.ref 730 0), .one (.p (.v (.string ⟨x.toArray⟩)))] (gfL x R k) (pcOpen w d N hs a rs) [732]
      (fun res ob' => match rowI (x ++ [10]) N with
        | none => res = [tBo false] ∧ ob' = [(2, zBoxC)]
        | some r => res = [tBo true] ∧ ob' = pcOpen w d N hs a (rs ++ [r])) := by
  have hp := hasPrefix_ok x [64]
  rw [show ([64] : Str).length = 1 from rfl, decide_eq_false h64] at hp
  have hR := pRow_ok (x ++ [10]) N
  cases hr : rowI (x ++ [10]) (N : Int) with
  | none =>
    rw [rowR_none hr] at hR
    refine AL.Met.intro Tryd.func18 (by decide) rfl rfl rfl ?_
    refine k2 ?_
    refine c_region ?_; refine l_neu (n_assign rfl rfl) rfl ?_; refine l_nil ?_
    refine k1 ?_; refine k2 ?_; refine k2 ?_
    refine c_region ?_; refine l_neu (n_move rfl rfl) rfl ?_; refine l_call (hp) rfl rfl rfl ?_; rintro _ rfl; refine l_nil ?_
    refine k1 ?_
    refine c_cond rfl (fun ht => ?_) (fun ht => ?_)
    · cases ht
    refine k5 ?_; refine k1 ?_; refine k2 ?_; refine k2 ?_
    refine c_region ?_; refine l_neu (n_move rfl rfl) rfl ?_; refine l_neu (n_nilCheck_ref rfl) rfl ?_; refine l_neu (n_field_ref rfl) rfl ?_; refine l_neu (n_field_ref rfl) rfl ?_; refine l_neu (n_load_ref rfl rfl rfl) rfl ?_; refine l_neu (n_len_gA rfl rfl) rfl ?_; refine l_neu (n_eql rfl rfl) rfl ?_; refine l_nil ?_
    refine k1 ?_
    refine c_cond rfl (fun ht => ?_) (fun ht => ?_)
    · exact absurd (of_decide_eq_true ht) (by omega)
    refine k5 ?_; refine k1 ?_; refine k2 ?_
    refine c_region_draw (by kernel_rfl) (by kernel_rfl) ?_; refine d_neu (n_move rfl rfl) rfl rfl ?_; refine d_neu (n_nilCheck_ref rfl) rfl rfl ?_; refine d_neu (n_field_ref rfl) rfl rfl ?_; refine d_neu (n_field_ref rfl) rfl rfl ?_; refine d_neu (n_load_ref rfl rfl rfl) rfl rfl ?_; refine d_neu (n_move rfl rfl) rfl rfl ?_; refine d_neu (n_nilCheck_ref rfl) rfl rfl ?_; refine d_neu (n_field_ref rfl) rfl rfl ?_; refine d_neu (n_field_ref rfl) rfl rfl ?_; refine d_neu (n_load_ref rfl rfl rfl) rfl rfl ?_; refine d_neu (n_len_gA rfl rfl) rfl rfl ?_; refine d_neu (n_sub rfl rfl (by omega)) rfl rfl ?_; refine d_neu (n_indexAddr_gA rfl rfl rfl (by omega) (by omega)) rfl rfl ?_; refine d_neu (n_assign rfl rfl) rfl rfl ?_; refine d_nil ?_
    refine k1 ?_; refine k2 ?_; refine k2 ?_
    refine c_region ?_; refine l_neu (n_move rfl rfl) rfl ?_; refine l_neu (n_eql_s rfl rfl) rfl ?_; refine l_nil ?_
    refine k1 ?_
    refine c_cond rfl (fun ht => ?_) (fun ht => ?_)
    · exact absurd (of_decide_eq_true ht) hno
    refine c_cut [(0, .s (.one (.ref 730 0))), (1, sStr x), (5, .s (.one (.mref 731 2 ((hs.length : Int) - 1).toNat 0))), (1000032, sStr x), (1000031, .s (.one (.ref 730 0))), (1000004, .s (.one (.ref 730 0))), (1000002, .s (.one (.ref 2 0))), (1000025, sList Str 1 strC R), (1000026, sInt R.length), (1000027, sInt k), (1000006, sStr x)] (pcOpen w d N hs a rs) (Sees.of ⟨le1 rfl, le1 rfl, le1 rfl, le1 rfl, le1 rfl, le1 rfl, le1 rfl, le1 rfl, le1 rfl, le1 rfl, le1 rfl, trivial⟩ ⟨rfl, rfl, rfl, rfl, trivial⟩) ?_
    refine k5 ?_; refine k1 ?_; refine k2 ?_
    refine c_region ?_; refine l_neu (n_move rfl rfl) rfl ?_; refine l_neu (n_add_s rfl rfl (by (simp; omega))) rfl ?_; refine l_neu (n_move rfl rfl) rfl ?_; refine l_neu (n_nilCheck_ref rfl) rfl ?_; refine l_neu (n_field_ref rfl) rfl ?_; refine l_neu (n_field_ref rfl) rfl ?_; refine l_neu (n_load_ref rfl rfl rfl) rfl ?_; refine l_call (hR) rfl rfl rfl ?_; rintro _ rfl; refine l_neu (n_move rfl rfl) rfl ?_; refine l_neu (n_extract rfl rfl) rfl ?_; refine l_neu (n_extract rfl rfl) rfl ?_; refine l_effv (f_alloc 733 rfl) rfl ?_; refine l_eff (e_store_ref TySz.out rfl rfl rfl rfl rfl rfl) ?_; refine l_neu (n_assign rfl rfl) rfl ?_; refine l_nil ?_
    refine k1 ?_; refine k2 ?_
    refine c_region_ord [10, 7] [[], [7], [10, 7]] [(7, ([732], [76])), (10, ([], []))] [(0, []), (1, []), (2, []), (3, []), (4, []), (5, []), (6, []), (7, []), (8, [7]), (9, [7]), (10, [7])] [(0, [7])] (by kernel_rfl) (by kernel_rfl) ?_; refine w_neu rfl rfl (by kernel_rfl) rfl rfl (n_move rfl rfl) ?_; refine w_neu rfl rfl (by kernel_rfl) rfl rfl (n_move rfl rfl) ?_; refine w_neu rfl rfl (by kernel_rfl) rfl rfl (n_nilCheck_mref rfl) ?_; refine w_neu rfl rfl (by kernel_rfl) rfl rfl (n_field_mref rfl) ?_; refine w_neu rfl rfl (by kernel_rfl) rfl rfl (n_load_gA rfl rfl (by first | rfl | omega) rfl) ?_; refine w_neu rfl rfl (by kernel_rfl) rfl rfl (n_loads_ref rfl rfl rfl) ?_; refine w_neu rfl rfl (by kernel_rfl) rfl rfl (n_buildSlice (c := rowC) (ys := [⟨false, 0, []⟩]) (asm_cons rfl rfl rfl rfl asm_nil) rfl rfl rfl) ?_; refine w_eff rfl rfl (by kernel_rfl) rfl rfl (r_turn (fun frc hU => e_append_g (opvU hU rfl) rfl (opvU hU rfl) (.pure _ _ _ _) (by (simp; omega)) rfl)) rfl ?_; refine w_neu rfl rfl (by kernel_rfl) rfl rfl (n_nilCheck_mref rfl) ?_; refine w_neu rfl rfl (by kernel_rfl) rfl rfl (n_field_mref rfl) ?_; refine w_eff rfl rfl (by kernel_rfl) rfl rfl (r_eff (fun frc hU => e_store_gA TySz.out (opvU hU rfl) rfl (by first | rfl | omega) (opvU hU rfl) rfl rfl rfl)) rfl ?_; refine w_nil (by kernel_rfl) rfl ?_ ?_
    · refine x_neu rfl rfl (by kernel_rfl) rfl rfl (n_move rfl rfl) ?_; exact x_nil
    refine k1 ?_; refine k2 ?_
    refine c_region ?_; refine l_neu (n_move rfl rfl) rfl ?_; refine l_neu (n_assign rfl rfl) rfl ?_; refine l_nil ?_
    refine k1 ?_; refine k10 ?_
    exact met_ret (rets1 rfl rfl) (by repeat (first | exact tail_refl | refine tail_cons rfl ?_ | refine tail_forget _ ?_)) (ObIn.spec (ob' := [(2, zBoxC)]) ⟨rfl, trivial⟩) ⟨rfl, rfl⟩
  | some r =>
    rw [rowR_some hr] at hR
    refine AL.Met.intro Tryd.func18 (by decide) rfl rfl rfl ?_
    refine k2 ?_
    refine c_region ?_; refine l_neu (n_assign rfl rfl) rfl ?_; refine l_nil ?_
    refine k1 ?_; refine k2 ?_; refine k2 ?_
    refine c_region ?_; refine l_neu (n_move rfl rfl) rfl ?_; refine l_call (hp) rfl rfl rfl ?_; rintro _ rfl; refine l_nil ?_
    refine k1 ?_
    refine c_cond rfl (fun ht => ?_) (fun ht => ?_)
    · cases ht
    refine k5 ?_; refine k1 ?_; refine k2 ?_; refine k2 ?_
    refine c_region ?_; refine l_neu (n_move rfl rfl) rfl ?_; refine l_neu (n_nilCheck_ref rfl) rfl ?_; refine l_neu (n_field_ref rfl) rfl ?_; refine l_neu (n_field_ref rfl) rfl ?_; refine l_neu (n_load_ref rfl rfl rfl) rfl ?_; refine l_neu (n_len_gA rfl rfl) rfl ?_; refine l_neu (n_eql rfl rfl) rfl ?_; refine l_nil ?_
    refine k1 ?_
    refine c_cond rfl (fun ht => ?_) (fun ht => ?_)
    · exact absurd (of_decide_eq_true ht) (by omega)
    refine k5 ?_; refine k1 ?_; refine k2 ?_
    refine c_region_draw (by kernel_rfl) (by kernel_rfl) ?_; refine d_neu (n_move rfl rfl) rfl rfl ?_; refine d_neu (n_nilCheck_ref rfl) rfl rfl ?_; refine d_neu (n_field_ref rfl) rfl rfl ?_; refine d_neu (n_field_ref rfl) rfl rfl ?_; refine d_neu (n_load_ref rfl rfl rfl) rfl rfl ?_; refine d_neu (n_move rfl rfl) rfl rfl ?_; refine d_neu (n_nilCheck_ref rfl) rfl rfl ?_; refine d_neu (n_field_ref rfl) rfl rfl ?_; refine d_neu (n_field_ref rfl) rfl rfl ?_; refine d_neu (n_load_ref rfl rfl rfl) rfl rfl ?_; refine d_neu (n_len_gA rfl rfl) rfl rfl ?_; refine d_neu (n_sub rfl rfl (by omega)) rfl rfl ?_; refine d_neu (n_indexAddr_gA rfl rfl rfl (by omega) (by omega)) rfl rfl ?_; refine d_neu (n_assign rfl rfl) rfl rfl ?_; refine d_nil ?_
    refine k1 ?_; refine k2 ?_; refine k2 ?_
    refine c_region ?_; refine l_neu (n_move rfl rfl) rfl ?_; refine l_neu (n_eql_s rfl rfl) rfl ?_; refine l_nil ?_
    refine k1 ?_
    refine c_cond rfl (fun ht => ?_) (fun ht => ?_)
    · exact absurd (of_decide_eq_true ht) hno
    refine c_cut [(0, .s (.one (.ref 730 0))), (1, sStr x), (5, .s (.one (.mref 731 2 ((hs.length : Int) - 1).toNat 0))), (1000032, sStr x), (1000031, .s (.one (.ref 730 0))), (1000004, .s (.one (.ref 730 0))), (1000002, .s (.one (.ref 2 0))), (1000025, sList Str 1 strC R), (1000026, sInt R.length), (1000027, sInt k), (1000006, sStr x)] (pcOpen w d N hs a rs) (Sees.of ⟨le1 rfl, le1 rfl, le1 rfl, le1 rfl, le1 rfl, le1 rfl, le1 rfl, le1 rfl, le1 rfl, le1 rfl, le1 rfl, trivial⟩ ⟨rfl, rfl, rfl, rfl, trivial⟩) ?_
    refine k5 ?_; refine k1 ?_; refine k2 ?_
    refine c_region ?_; refine l_neu (n_move rfl rfl) rfl ?_; refine l_neu (n_add_s rfl rfl (by (simp; omega))) rfl ?_; refine l_neu (n_move rfl rfl) rfl ?_; refine l_neu (n_nilCheck_ref rfl) rfl ?_; refine l_neu (n_field_ref rfl) rfl ?_; refine l_neu (n_field_ref rfl) rfl ?_; refine l_neu (n_load_ref rfl rfl rfl) rfl ?_; refine l_call (hR) rfl rfl rfl ?_; rintro _ rfl; refine l_neu (n_move rfl rfl) rfl ?_; refine l_neu (n_extract rfl rfl) rfl ?_; refine l_neu (n_extract rfl rfl) rfl ?_; refine l_effv (f_alloc 733 rfl) rfl ?_; refine l_eff (e_store_ref TySz.out rfl rfl rfl rfl rfl rfl) ?_; refine l_neu (n_assign rfl rfl) rfl ?_; refine l_nil ?_
    refine k1 ?_; refine k2 ?_
    refine c_region_ord [10, 7] [[], [7], [10, 7]] [(7, ([732], [76])), (10, ([], []))] [(0, []), (1, []), (2, []), (3, []), (4, []), (5, []), (6, []), (7, []), (8, [7]), (9, [7]), (10, [7])] [(0, [7])] (by kernel_rfl) (by kernel_rfl) ?_; refine w_neu rfl rfl (by kernel_rfl) rfl rfl (n_move rfl rfl) ?_; refine w_neu rfl rfl (by kernel_rfl) rfl rfl (n_move rfl rfl) ?_; refine w_neu rfl rfl (by kernel_rfl) rfl rfl (n_nilCheck_mref rfl) ?_; refine w_neu rfl rfl (by kernel_rfl) rfl rfl (n_field_mref rfl) ?_; refine w_neu rfl rfl (by kernel_rfl) rfl rfl (n_load_gA rfl rfl (by first | rfl | omega) rfl) ?_; refine w_neu rfl rfl (by kernel_rfl) rfl rfl (n_loads_ref rfl rfl rfl) ?_; refine w_neu rfl rfl (by kernel_rfl) rfl rfl (n_buildSlice (c := rowC) (ys := [r]) (asm_cons rfl rfl rfl rfl asm_nil) rfl rfl rfl) ?_; refine w_eff rfl rfl (by kernel_rfl) rfl rfl (r_turn (fun frc hU => e_append_g (opvU hU rfl) rfl (opvU hU rfl) (.pure _ _ _ _) (by (simp; omega)) rfl)) rfl ?_; refine w_neu rfl rfl (by kernel_rfl) rfl rfl (n_nilCheck_mref rfl) ?_; refine w_neu rfl rfl (by kernel_rfl) rfl rfl (n_field_mref rfl) ?_; refine w_eff rfl rfl (by kernel_rfl) rfl rfl (r_eff (fun frc hU => e_store_gA TySz.out (opvU hU rfl) rfl (by first | rfl | omega) (opvU hU rfl) rfl rfl rfl)) rfl ?_; refine w_nil (by kernel_rfl) rfl ?_ ?_
    · refine x_neu rfl rfl (by kernel_rfl) rfl rfl (n_move rfl rfl) ?_; exact x_nil
    refine k1 ?_; refine k2 ?_
    refine c_region ?_; refine l_neu (n_move rfl rfl) rfl ?_; refine l_neu (n_assign rfl rfl) rfl ?_; refine l_nil ?_
    refine k1 ?_; refine k10 ?_
    exact met_ret (rets1 rfl rfl) (by repeat (first | exact tail_refl | refine tail_cons rfl ?_ | refine tail_forget _ ?_)) (ObIn.spec (ob' := pcOpen w d N hs a (rs ++ [r])) ⟨rfl, rfl, rfl, rfl, trivial⟩) ⟨rfl, rfl⟩
end Go.Proofs.YtgejaedjnbjpoaaDoor
namespace Go.Proofs.YtgejaedjnbjpoaaDoor
open Go Go.AL
set_option maxRecDepth 100000
def objC (w : Str) (d : Bool) (n : Int) (hs : List CHunk) : Obs := match hs.getLast? with
  | some h => (match h.Rows with
    | [] => pcShut w d n hs
    | _ :: _ => pcOpen w d n hs h.At h.Rows)
  | none => pcShut w d n hs
section
variable {P : Program} {nt : Nat} {fr : Fr} {w : Str} {d : Bool} {n : Int} {hs : List CHunk}
theorem shutC {h : CHunk} (hf : frFree 732 fr = true) (hl : hs.getLast? = some h) (hne : h.Rows ≠ []) : Sees P nt fr (pcOpen w d n hs h.At h.Rows) fr (pcShut w d n hs) := by
  have h1 := Sees.freezeG (P := P) (nt := nt) (fr := fr) (ob := pcOpen w d n hs h.At h.Rows) (k := 732) rfl rfl
  rw [mapS_free hf] at h1
  refine h1.trans ?_
  have hset : hs.set (hs.length - 1) h = hs := by
    have h2 := last_split hl
    have hlen : hs.length - 1 = hs.dropLast.length := by rw [List.length_dropLast]
    conv => lhs; rw [hlen]; arg 1; rw [h2]
    rw [List.set_append_right _ _ (Nat.le_refl _), Nat.sub_self, List.set_cons_zero, ← h2]
  have h3 := Sees.closeA (P := P) (nt := nt) (fr := fr) (ob := Obs.mapO (Ob.freeze 732 Row 3 rowC h.Rows) (Obs.drop 732 (pcOpen w d n hs h.At h.Rows))) 731 h rfl (by
    obtain ⟨a, ls⟩ := h
    cases ls with
    | nil => exact absurd rfl hne
    | cons x r => rfl)
  rw [hset] at h3
  refine h3.trans (Sees.fewer (ObIn.spec ⟨rfl, rfl, rfl, trivial⟩))
theorem openC2 {h : CHunk} (hf : frFree 732 fr = true) (hl : hs.getLast? = some h) (hne : h.Rows = []) : Sees P nt fr (pcShut w d n hs) fr (pcOpen w d n hs h.At []) := by
  have hv : hs[hs.length - 1]? = some h := by rw [← List.getLast?_eq_getElem?]; exact hl
  refine (Sees.openA 731 (hs.length - 1) (v := h) rfl hv).trans ?_
  have hcells : (cellsOf chunkN h 0 2).map TC.p = [.p (.list Int 1 intC h.At), .p (.v (.slice none 0 0))] := by
    obtain ⟨a, ls⟩ := h
    have hne : ls = [] := hne
    subst hne; rfl
  rw [hcells]
  refine (Sees.adoptA 732 Row 3 rowC 28 (kb := 731) (o := 1) rfl rfl (by rw [hf]; rfl)).trans ?_
  exact Sees.fewer (ObIn.spec ⟨rfl, rfl, rfl, rfl, trivial⟩)
theorem toShutC (hf : frFree 732 fr = true) : Sees P nt fr (objC w d n hs) fr (pcShut w d n hs) := by
  unfold objC
  cases hl : hs.getLast? with
  | none => exact Sees.fewer fun _ _ h => h
  | some h =>
    dsimp only
    cases hh : h.Rows with
    | nil => exact Sees.fewer fun _ _ h => h
    | cons x r =>
      dsimp only
      rw [← hh]
      exact shutC hf hl (by rw [hh]; simp)
theorem toOpenC {h : CHunk} (hf : frFree 732 fr = true) (hl : hs.getLast? = some h) : Sees P nt fr (objC w d n hs) fr (pcOpen w d n hs h.At h.Rows) := by
  unfold objC
  rw [hl]
  dsimp only
  cases hh : h.Rows with
  | nil => dsimp only; exact openC2 hf hl hh
  | cons x r => exact Sees.fewer fun _ _ h => h
theorem ofShutC {a : List Int} : objC w d n (hs ++ [⟨a, []⟩]) = pcShut w d n (hs ++ [⟨a, []⟩]) := by unfold objC; simp
theorem ofOpenC {h : CHunk} {ls : List Row} (hl : hs.getLast? = some h) (hne : ls ≠ []) : Sees P nt fr (pcOpen w d n hs h.At ls) fr (objC w d n (hs.dropLast ++ [⟨h.At, ls⟩])) := by
  have h2 := last_split hl
  have hlen : (hs.dropLast ++ [(⟨h.At, ls⟩ : CHunk)]).length = hs.length := by
    conv => rhs; rw [h2]
    simp
  have hO : objC w d n (hs.dropLast ++ [⟨h.At, ls⟩]) = pcOpen w d n (hs.dropLast ++ [⟨h.At, ls⟩]) h.At ls := by
    unfold objC
    cases ls with
    | nil => exact absurd rfl hne
    | cons x r => simp
  rw [hO]
  have h3 := Sees.reA (P := P) (nt := nt) (fr := fr) (ob := pcOpen w d n hs h.At ls) 731 (hs.dropLast ++ [⟨h.At, ls⟩]) rfl hlen (by
    intro i hi
    have hd : hs.dropLast.length = hs.length - 1 := by rw [List.length_dropLast]
    rcases Nat.lt_or_ge i (hs.length - 1) with h4 | h4
    · rw [List.getElem?_append_left (by omega)]
      conv => rhs; rw [h2]
      rw [List.getElem?_append_left (by omega)]
    · rw [List.getElem?_eq_none (by omega), List.getElem?_eq_none (by omega)])
  rw [show (hs.length - 1) = (hs.dropLast ++ [(⟨h.At, ls⟩ : CHunk)]).length - 1 by rw [hlen]] at h3
  exact h3.trans (Sees.fewer (ObIn.spec ⟨rfl, rfl, rfl, rfl, trivial⟩))
end
theorem chunk_cell {x : CHunk} (j : Nat) (rd : Rd) (u : Value) (h : (chunkN x j).rep rd u) : (chunkC x j).rep rd u := by
  match j with
  | 0 => exact h
  | j + 1 =>
    obtain ⟨a, ls⟩ := x
    cases ls with
    | nil =>
      have h : (Cell.v (.slice none 0 0)).rep rd u := h
      obtain ⟨rfl, _⟩ := h
      exact rep_nil _ _ _
    | cons y r => exact h
def parseResC (l : List Str) : List PV := match parseC l with
  | some p => [pComb p, pBool true]
  | none => [pComb comb0, pBool false]
set_option maxHeartbeats 4000000
theorem pparse_ok (l : List Str) (hw : (l.map wLine).sum ≤ 268435456) (hsz : ∀ s ∈ l, s.length ≤ 4194304) : FnOk Tryd.prog 13 [pStrs l] (fun rs => rs = parseResC l) := by
  have hll : 420 * l.length ≤ (l.map wLine).sum := by
    clear hw hsz
    induction l with
    | nil => simp
    | cons x r ih =>
      have e : wLine x = 420 * (x.length + 1) := rfl
      simp only [List.map_cons, List.sum_cons, List.length_cons, e]; omega
  by_cases hlen : l.length < 2
  · have hp : parseC l = none := by
      match l, hlen with
      | [], _ => rfl
      | [_], _ => rfl
    have hb : decide ((l.length : Int) < 2) = true := decide_eq_true (by omega)
    refine FnOk.intro Tryd.func13 (by decide) rfl rfl rfl rfl ?_
    refine k2 ?_
    refine c_region ?_; refine l_effv (f_alloc 2 rfl) rfl ?_; refine l_neu (n_assign rfl rfl) rfl ?_; refine l_nil ?_
    refine k1 ?_; refine k2 ?_
    refine c_region ?_; refine l_neu (n_build rfl) rfl ?_; refine l_effv (f_box 730 rfl rfl rfl) rfl ?_; refine l_neu (n_assign rfl rfl) rfl ?_; refine l_nil ?_
    refine k1 ?_; refine k2 ?_; refine k2 ?_
    refine c_region_draw (by kernel_rfl) (by kernel_rfl) ?_; refine d_neu (n_move rfl rfl) rfl rfl ?_; refine d_neu (n_len rfl (.pure _ _ _ _)) rfl rfl ?_; refine d_neu (n_lss rfl rfl) rfl rfl ?_; refine d_neu (n_move rfl rfl) rfl rfl ?_; refine d_skip rfl rfl (by rw [hb]; decide) rfl rfl ?_; refine d_skip rfl rfl (by rw [hb]; decide) rfl rfl ?_; refine d_skip rfl rfl (by rw [hb]; decide) rfl rfl ?_; refine d_skip rfl rfl (by rw [hb]; decide) rfl rfl ?_; refine d_skip rfl rfl (by rw [hb]; decide) rfl rfl ?_; refine d_skip rfl rfl (by rw [hb]; decide) rfl rfl ?_; refine d_skip rfl rfl (by rw [hb]; decide) rfl rfl ?_; refine d_skip rfl rfl (by rw [hb]; decide) rfl rfl ?_; refine d_skip rfl rfl (by rw [hb]; decide) rfl rfl ?_; refine d_neu (n_pick_t rfl (hb) rfl) rfl rfl ?_; refine d_nil ?_
    refine k1 ?_
    refine c_cond rfl (fun ht => ?_) (fun ht => ?_)
    rotate_left
    · cases ht
    refine k2 ?_
    refine c_region ?_; refine l_neu (n_build rfl) rfl ?_; refine l_eff (e_store_ref TySz.out rfl rfl rfl rfl rfl rfl) ?_; refine l_neu (n_assign rfl rfl) rfl ?_; refine l_nil ?_
    refine k1 ?_
    refine c_sees (Sees.listB CHunk 2 chunkC 2 3 rfl rfl) ?_
    refine k10 ?_; refine k11 ?_
    exact ret_ret (rs := [pComb comb0, pBool false]) (retc2 rfl rfl rfl rfl rfl rfl rfl) (by unfold parseResC; rw [hp])
  obtain ⟨l0, l1, R, rfl⟩ : ∃ a b r, l = a :: b :: r := by
    match l, hlen with
    | a :: b :: r, _ => exact ⟨a, b, r, rfl⟩
    | [], h => exact absurd (by simp) h
    | [_], h => exact absurd (by simp) h
  have z0 := hsz l0 (by simp)
  have z1 := hsz l1 (by simp)
  have hWR : (R.map wLine).sum ≤ 268435456 := by simp only [List.map_cons, List.sum_cons] at hw; omega
  have hRl : R.length ≤ 16777216 := by simp only [List.length_cons] at hll; omega
  clear hw hll
  have hb : decide (((l0 :: l1 :: R).length : Int) < 2) = false := decide_eq_false (by simp only [List.length_cons]; omega)
  have hg0 : (l0 :: l1 :: R)[(0 : Int).toNat]? = some l0 := rfl
  have hg1 : (l0 :: l1 :: R)[(1 : Int).toNat]? = some l1 := rfl
  have hm := fun gf => ptitle_met (gf := gf) l0 l1 z0 z1
  cases hT : titleAt true l0 l1 with
  | none =>
    rw [hT] at hm
    have hp : parseC (l0 :: l1 :: R) = none := by unfold parseC; dsimp only; rw [hT]
    refine FnOk.intro Tryd.func13 (by decide) rfl rfl rfl rfl ?_
    refine k2 ?_
    refine c_region ?_; refine l_effv (f_alloc 2 rfl) rfl ?_; refine l_neu (n_assign rfl rfl) rfl ?_; refine l_nil ?_
    refine k1 ?_; refine k2 ?_
    refine c_region ?_; refine l_neu (n_build rfl) rfl ?_; refine l_effv (f_box 730 rfl rfl rfl) rfl ?_; refine l_neu (n_assign rfl rfl) rfl ?_; refine l_nil ?_
    refine k1 ?_; refine k2 ?_; refine k2 ?_
    refine c_region_turnG 11 (by kernel_rfl) (by kernel_rfl) rfl ?_; refine d_neu (n_move rfl rfl) rfl rfl ?_; refine d_neu (n_len rfl (.pure _ _ _ _)) rfl rfl ?_; refine d_neu (n_lss rfl rfl) rfl rfl ?_; refine d_neu (n_move rfl rfl) rfl rfl ?_; refine d_go rfl rfl hb rfl ?_; refine d_neu (n_move rfl rfl) rfl rfl ?_; refine d_go rfl rfl hb rfl ?_; refine d_neu (n_move rfl rfl) rfl rfl ?_; refine d_go rfl rfl hb rfl ?_; refine d_neu (n_indexAddr rfl (.pure _ _ _ _) rfl (by omega) hg0) rfl rfl ?_; refine d_go rfl rfl hb rfl ?_; refine d_neu (n_load_eref rfl rfl) rfl rfl ?_; refine d_go rfl rfl hb rfl ?_; refine d_neu (n_move rfl rfl) rfl rfl ?_; refine d_go rfl rfl hb rfl ?_; refine d_neu (n_indexAddr rfl (.pure _ _ _ _) rfl (by omega) hg1) rfl rfl ?_; refine d_go rfl rfl hb rfl ?_; refine d_neu (n_load_eref rfl rfl) rfl rfl ?_; refine d_nil ?_; refine stepG_run rfl rfl hb ?_; refine met_step (hm _) rfl rfl rfl ?_; rintro _ _ ⟨w, d, n, ok, rfl, rfl, rfl⟩; refine ⟨_, rfl, ?_⟩; refine d_go rfl rfl hb rfl ?_; refine d_neu (n_not rfl) rfl rfl ?_; refine d_neu (n_pick_f rfl (hb) rfl) rfl rfl ?_; refine d_nil ?_
    refine k1 ?_
    refine c_cond rfl (fun ht => ?_) (fun ht => ?_)
    rotate_left
    · cases ht
    refine k2 ?_
    refine c_region ?_; refine l_neu (n_build rfl) rfl ?_; refine l_eff (e_store_ref TySz.out rfl rfl rfl rfl rfl rfl) ?_; refine l_neu (n_assign rfl rfl) rfl ?_; refine l_nil ?_
    refine k1 ?_
    refine c_sees (Sees.listB CHunk 2 chunkC 2 3 rfl rfl) ?_
    refine k10 ?_; refine k11 ?_
    exact ret_ret (rs := [pComb comb0, pBool false]) (retc2 rfl rfl rfl rfl rfl rfl rfl) (by unfold parseResC; rw [hp])
  | some q =>
    obtain ⟨d, w, n⟩ := q
    rw [hT] at hm
    have hn := title_par hT
    obtain ⟨N, rfl⟩ : ∃ N : Nat, n = N := ⟨n.toNat, by omega⟩
    have hN : 1 ≤ N ∧ N ≤ 32 := by omega
    have hPs : ∀ hs, foldC N [] R = some hs → [pComb ⟨w, d, N, hs⟩, pBool true] = parseResC (l0 :: l1 :: R) := by
      intro hs h
      have : parseC (l0 :: l1 :: R) = some ⟨w, d, N, hs⟩ := by unfold parseC; dsimp only; rw [hT]; dsimp only; rw [Int.toNat_natCast, h]
      unfold parseResC; rw [this]
    have hnone : foldC N [] R = none → [pComb comb0, pBool false] = parseResC (l0 :: l1 :: R) := by
      intro h
      have : parseC (l0 :: l1 :: R) = none := by unfold parseC; dsimp only; rw [hT]; dsimp only; rw [Int.toNat_natCast, h]
      unfold parseResC; rw [this]
    refine FnOk.intro Tryd.func13 (by decide) rfl rfl rfl rfl ?_
    refine k2 ?_
    refine c_region ?_; refine l_effv (f_alloc 2 rfl) rfl ?_; refine l_neu (n_assign rfl rfl) rfl ?_; refine l_nil ?_
    refine k1 ?_; refine k2 ?_
    refine c_region ?_; refine l_neu (n_build rfl) rfl ?_; refine l_effv (f_box 730 rfl rfl rfl) rfl ?_; refine l_neu (n_assign rfl rfl) rfl ?_; refine l_nil ?_
    refine k1 ?_; refine k2 ?_; refine k2 ?_
    refine c_region_turnG 11 (by kernel_rfl) (by kernel_rfl) rfl ?_; refine d_neu (n_move rfl rfl) rfl rfl ?_; refine d_neu (n_len rfl (.pure _ _ _ _)) rfl rfl ?_; refine d_neu (n_lss rfl rfl) rfl rfl ?_; refine d_neu (n_move rfl rfl) rfl rfl ?_; refine d_go rfl rfl hb rfl ?_; refine d_neu (n_move rfl rfl) rfl rfl ?_; refine d_go rfl rfl hb rfl ?_; refine d_neu (n_move rfl rfl) rfl rfl ?_; refine d_go rfl rfl hb rfl ?_; refine d_neu (n_indexAddr rfl (.pure _ _ _ _) rfl (by omega) hg0) rfl rfl ?_; refine d_go rfl rfl hb rfl ?_; refine d_neu (n_load_eref rfl rfl) rfl rfl ?_; refine d_go rfl rfl hb rfl ?_; refine d_neu (n_move rfl rfl) rfl rfl ?_; refine d_go rfl rfl hb rfl ?_; refine d_neu (n_indexAddr rfl (.pure _ _ _ _) rfl (by omega) hg1) rfl rfl ?_; refine d_go rfl rfl hb rfl ?_; refine d_neu (n_load_eref rfl rfl) rfl rfl ?_; refine d_nil ?_; refine stepG_run rfl rfl hb ?_; refine met_step (hm _) rfl rfl rfl ?_; rintro _ _ ⟨w', d', n', ok, rfl, rfl, rfl, rfl, rfl, rfl⟩; refine ⟨_, rfl, ?_⟩; refine d_go rfl rfl hb rfl ?_; refine d_neu (n_not rfl) rfl rfl ?_; refine d_neu (n_pick_f rfl (hb) rfl) rfl rfl ?_; refine d_nil ?_
    refine k1 ?_
    refine c_cond rfl (fun ht => ?_) (fun ht => ?_)
    · cases ht
    refine k5 ?_; refine k1 ?_; refine k2 ?_; refine k2 ?_
    refine c_region ?_; refine l_neu (n_move rfl rfl) rfl ?_; refine l_neu (n_slice_l rfl (.pure _ _ _ _) rfl (by (first | omega | (simp only [List.length_cons]; omega))) (by (first | omega | (simp only [List.length_cons]; omega)))) rfl ?_; refine l_neu (n_len rfl (.pure _ _ _ _)) rfl ?_; refine l_neu (n_move rfl rfl) rfl ?_; refine l_nil ?_
    refine k1 ?_; refine k3 ?_
    refine c_sees (Sees.adoptBG 731 CHunk 2 chunkN 70 (kb := 730) (o := 3) rfl rfl rfl) ?_
    refine c_while (X := Nat × List CHunk) (fun x => ([(4, .s (.one (.ref 730 0))), (2, .s (.one (.ref 2 0))), (25, sList Str 1 strC R), (26, sInt R.length), (27, sInt x.1)], objC w' d' N x.2)) (fun x => x.1 ≤ R.length ∧ CInv N x.2 ∧ szC x.2 ≤ wgTo R x.1 ∧ foldC N x.2 (R.drop x.1) = foldC N [] R) (fun x => R.length - x.1) (0, []) ⟨Nat.zero_le _, (fun h hh => (by cases hh)), (by simp [szC]), rfl⟩ (Sees.of ⟨le1 rfl, le1 rfl, le1 rfl, le1 rfl, le1 rfl, trivial⟩ ⟨rfl, rfl, rfl, trivial⟩) ?_
    rintro ⟨k, hs⟩ ⟨hk, hci, hz, hf⟩
    dsimp only at hk hci hz hf ⊢
    have hzb : wgTo R k ≤ (R.map wLine).sum := by
      unfold wgTo
      conv => rhs; rw [← List.take_append_drop k R, List.map_append, List.sum_append]
      omega
    have hsl := szC_len hs
    refine k2 ?_
    refine c_region ?_; refine l_neu (n_lss rfl rfl) rfl ?_; refine l_nil ?_
    refine k1 ?_; refine k2 ?_
    refine c_cond rfl (fun ht => ?_) (fun ht => ?_)
    · have hlt : k < R.length := by have := of_decide_eq_true ht; omega
      obtain ⟨x, hx⟩ : ∃ x, x = R[k] := ⟨_, rfl⟩
      have hv : R[k]? = some x := by rw [hx]; simp [hlt]
      have hxz := hsz x (by simp [List.mem_of_getElem? hv])
      have hwk := wgTo_succ hlt
      rw [← hx] at hwk
      rw [List.drop_eq_getElem_cons hlt, ← hx, foldC] at hf
      have hstep : ∀ {g}, stepC N hs x = some g → foldC N g (R.drop (k + 1)) = foldC N [] R ∧ szC g ≤ wgTo R (k + 1) ∧ CInv N g := by
        intro g hg
        rw [hg] at hf
        have h3 := step_szC hN hg hci
        exact ⟨hf, by omega, h3.2⟩
      have hfail : stepC N hs x = none → foldC N [] R = none := by intro h; rw [h] at hf; exact hf.symm
      clear hf hx
      refine k5 ?_; refine k1 ?_; refine k2 ?_; refine k3 ?_; refine k2 ?_
      refine c_region ?_; refine l_neu (n_indexAddr rfl (.pure _ _ _ _) rfl (by omega) hv) rfl ?_; refine l_neu (n_load_eref rfl rfl) rfl ?_; refine l_neu (n_assign rfl rfl) rfl ?_; refine l_nil ?_
      refine k1 ?_; refine k2 ?_
      by_cases h64 : x.take 1 = [64]
      · refine c_sees (toShutC rfl) ?_
        refine c_cut [(4, .s (.one (.ref 730 0))), (2, .s (.one (.ref 2 0))), (25, sList Str 1 strC R), (26, sInt R.length), (27, sInt k), (6, sStr x)] (pcShut w' d' N hs) (Sees.of ⟨le1 rfl, le1 rfl, le1 rfl, le1 rfl, le1 rfl, le1 rfl, trivial⟩ ⟨rfl, rfl, rfl, trivial⟩) ?_
        have hm := pline_at x R k w' d' N hs hN (by omega) hxz h64
        cases hh : headP N x with
        | none =>
          rw [hh] at hm
          have hst : stepC N hs x = none := by unfold stepC; rw [if_pos h64, hh]
          refine c_region ?_; refine l_neu (n_move rfl rfl) rfl ?_; refine l_neu (n_move rfl rfl) rfl ?_; refine l_met (hm) rfl rfl rfl ?_; rintro _ _ ⟨rfl, rfl⟩; refine l_neu (n_not rfl) rfl ?_; refine l_nil ?_
          refine k1 ?_
          refine c_cond rfl (fun ht => ?_) (fun ht => ?_)
          · refine k2 ?_
            refine c_region ?_; refine l_neu (n_build rfl) rfl ?_; refine l_eff (e_store_ref TySz.out rfl rfl rfl rfl rfl rfl) ?_; refine l_neu (n_assign rfl rfl) rfl ?_; refine l_nil ?_
            refine k1 ?_
            refine c_sees (Sees.listB CHunk 2 chunkC 2 3 rfl rfl) ?_
            refine k10 ?_; refine k12 ?_; refine k11 ?_; refine k11 ?_; refine k12 ?_; refine k11 ?_
            exact ret_ret (rs := [pComb comb0, pBool false]) (retc2 rfl rfl rfl rfl rfl rfl rfl) (hnone (hfail hst))
          · cases ht
        | some a =>
          rw [hh] at hm
          have hst : stepC N hs x = some (hs ++ [⟨a, []⟩]) := by unfold stepC; rw [if_pos h64, hh]
          obtain ⟨s1, s2, s3⟩ := hstep hst
          refine c_region ?_; refine l_neu (n_move rfl rfl) rfl ?_; refine l_neu (n_move rfl rfl) rfl ?_; refine l_met (hm) rfl rfl rfl ?_; rintro _ _ ⟨rfl, rfl⟩; refine l_neu (n_not rfl) rfl ?_; refine l_nil ?_
          refine k1 ?_
          refine c_cond rfl (fun ht => ?_) (fun ht => ?_)
          · cases ht
          refine k5 ?_; refine k4 ?_; refine k1 ?_
          refine c_region ?_; refine l_neu (n_add rfl rfl (by omega)) rfl ?_; refine l_neu (n_move rfl rfl) rfl ?_; refine l_nil ?_
          refine k1 ?_
          refine ⟨(k + 1, hs ++ [⟨a, []⟩]), ⟨hlt, s3, s2, s1⟩, by dsimp only; omega, ?_⟩
          dsimp only
          rw [ofShutC]
          exact Sees.of ⟨le1 rfl, le1 rfl, le1 rfl, le1 rfl, le1 rfl, trivial⟩ ⟨rfl, rfl, rfl, trivial⟩
      cases hl : hs.getLast? with
      | none =>
        have hn0 : hs = [] := List.getLast?_eq_none_iff.1 hl
        subst hn0
        have hst : stepC N [] x = none := by unfold stepC; rw [if_neg h64, if_pos rfl]
        have hm := pline_nil x R k w' d' N h64
        refine c_sees (toShutC rfl) ?_
        refine c_cut [(4, .s (.one (.ref 730 0))), (2, .s (.one (.ref 2 0))), (25, sList Str 1 strC R), (26, sInt R.length), (27, sInt k), (6, sStr x)] (pcShut w' d' N []) (Sees.of ⟨le1 rfl, le1 rfl, le1 rfl, le1 rfl, le1 rfl, le1 rfl, trivial⟩ ⟨rfl, rfl, rfl, trivial⟩) ?_
        refine c_region ?_; refine l_neu (n_move rfl rfl) rfl ?_; refine l_neu (n_move rfl rfl) rfl ?_; refine l_met (hm) rfl rfl rfl ?_; rintro _ _ ⟨rfl, rfl⟩; refine l_neu (n_not rfl) rfl ?_; refine l_nil ?_
        refine k1 ?_
        refine c_cond rfl (fun ht => ?_) (fun ht => ?_)
        · refine k2 ?_
          refine c_region ?_; refine l_neu (n_build rfl) rfl ?_; refine l_eff (e_store_ref TySz.out rfl rfl rfl rfl rfl rfl) ?_; refine l_neu (n_assign rfl rfl) rfl ?_; refine l_nil ?_
          refine k1 ?_
          refine c_sees (Sees.listB CHunk 2 chunkC 2 3 rfl rfl) ?_
          refine k10 ?_; refine k12 ?_; refine k11 ?_; refine k11 ?_; refine k12 ?_; refine k11 ?_
          exact ret_ret (rs := [pComb comb0, pBool false]) (retc2 rfl rfl rfl rfl rfl rfl rfl) (hnone (hfail hst))
        · cases ht
      | some h =>
        have hne : hs ≠ [] := by intro e; rw [e] at hl; cases hl
        have h0 : 0 < hs.length := List.length_pos_iff.2 hne
        have hmem := szC_mem (List.mem_of_getLast? hl)
        have hrl := szRow_len h.Rows
        have hmem2 : (h.Rows.map szRow).sum ≤ szC hs := by
          rw [szCh_eq] at hmem; omega
        refine c_sees (toOpenC rfl hl) ?_
        refine c_cut [(4, .s (.one (.ref 730 0))), (2, .s (.one (.ref 2 0))), (25, sList Str 1 strC R), (26, sInt R.length), (27, sInt k), (6, sStr x)] (pcOpen w' d' N hs h.At h.Rows) (Sees.of ⟨le1 rfl, le1 rfl, le1 rfl, le1 rfl, le1 rfl, le1 rfl, trivial⟩ ⟨rfl, rfl, rfl, rfl, trivial⟩) ?_
        by_cases hno : x = noNl
        · subst hno
          have hm := pline_cut R k w' d' N hs h.At h.Rows h0 (by omega) (by omega) (fun r hr => by
            have h5 := szRow_mem hr
            have h6 : szRow r = r.Text.length + 96 := rfl
            omega)
          cases hx2 : h.Rows.getLast? with
          | none =>
            rw [hx2] at hm
            have hst : stepC N hs noNl = none := by
              unfold stepC; rw [if_neg h64, if_neg hne, if_pos rfl]; unfold cutRow; rw [hl]; dsimp only; rw [hx2]
            refine c_region ?_; refine l_neu (n_move rfl rfl) rfl ?_; refine l_neu (n_move rfl rfl) rfl ?_; refine l_met (hm) rfl rfl rfl ?_; rintro _ _ ⟨rfl, rfl⟩; refine l_neu (n_not rfl) rfl ?_; refine l_nil ?_
            refine k1 ?_
            refine c_cond rfl (fun ht => ?_) (fun ht => ?_)
            · refine k2 ?_
              refine c_region ?_; refine l_neu (n_build rfl) rfl ?_; refine l_eff (e_store_ref TySz.out rfl rfl rfl rfl rfl rfl) ?_; refine l_neu (n_assign rfl rfl) rfl ?_; refine l_nil ?_
              refine k1 ?_
              refine c_sees (Sees.listB CHunk 2 chunkC 2 3 rfl rfl) ?_
              refine k10 ?_; refine k12 ?_; refine k11 ?_; refine k11 ?_; refine k12 ?_; refine k11 ?_
              exact ret_ret (rs := [pComb comb0, pBool false]) (retc2 rfl rfl rfl rfl rfl rfl rfl) (hnone (hfail hst))
            · cases ht
          | some r =>
            rw [hx2] at hm
            have hst : stepC N hs noNl = some (hs.dropLast ++ [⟨h.At, h.Rows.dropLast ++ [⟨r.Lost, r.Marks, trimS r.Text⟩]⟩]) := by
              unfold stepC; rw [if_neg h64, if_neg hne, if_pos rfl]; unfold cutRow; rw [hl]; dsimp only; rw [hx2]
            obtain ⟨s1, s2, s3⟩ := hstep hst
            refine c_region ?_; refine l_neu (n_move rfl rfl) rfl ?_; refine l_neu (n_move rfl rfl) rfl ?_; refine l_met (hm) rfl rfl rfl ?_; rintro _ _ ⟨rfl, rfl⟩; refine l_neu (n_not rfl) rfl ?_; refine l_nil ?_
            refine k1 ?_
            refine c_cond rfl (fun ht => ?_) (fun ht => ?_)
            · cases ht
            refine k5 ?_; refine k4 ?_; refine k1 ?_
            refine c_region ?_; refine l_neu (n_add rfl rfl (by omega)) rfl ?_; refine l_neu (n_move rfl rfl) rfl ?_; refine l_nil ?_
            refine k1 ?_
            refine ⟨(k + 1, hs.dropLast ++ [⟨h.At, h.Rows.dropLast ++ [⟨r.Lost, r.Marks, trimS r.Text⟩]⟩]), ⟨hlt, s3, s2, s1⟩, by dsimp only; omega, ?_⟩
            refine Sees.trans ?_ (ofOpenC hl (by simp))
            exact Sees.of ⟨le1 rfl, le1 rfl, le1 rfl, le1 rfl, le1 rfl, trivial⟩ ⟨rfl, rfl, rfl, rfl, trivial⟩
        · have hm := pline_row x R k w' d' N hs h.At h.Rows h0 (by omega) (by omega) hxz h64 hno
          have hro : AL.rowAt (x ++ [10]) N = rowI (x ++ [10]) (N : Int) := by unfold rowI; rw [if_neg (by omega), Int.toNat_natCast]
          cases hr : rowI (x ++ [10]) (N : Int) with
          | none =>
            rw [hr] at hm hro
            have hst : stepC N hs x = none := by unfold stepC; rw [if_neg h64, if_neg hne, if_neg hno, hro]
            refine c_region ?_; refine l_neu (n_move rfl rfl) rfl ?_; refine l_neu (n_move rfl rfl) rfl ?_; refine l_met (hm) rfl rfl rfl ?_; rintro _ _ ⟨rfl, rfl⟩; refine l_neu (n_not rfl) rfl ?_; refine l_nil ?_
            refine k1 ?_
            refine c_cond rfl (fun ht => ?_) (fun ht => ?_)
            · refine k2 ?_
              refine c_region ?_; refine l_neu (n_build rfl) rfl ?_; refine l_eff (e_store_ref TySz.out rfl rfl rfl rfl rfl rfl) ?_; refine l_neu (n_assign rfl rfl) rfl ?_; refine l_nil ?_
              refine k1 ?_
              refine c_sees (Sees.listB CHunk 2 chunkC 2 3 rfl rfl) ?_
              refine k10 ?_; refine k12 ?_; refine k11 ?_; refine k11 ?_; refine k12 ?_; refine k11 ?_
              exact ret_ret (rs := [pComb comb0, pBool false]) (retc2 rfl rfl rfl rfl rfl rfl rfl) (hnone (hfail hst))
            · cases ht
          | some r =>
            rw [hr] at hm hro
            have hst : stepC N hs x = some (hs.dropLast ++ [⟨h.At, h.Rows ++ [r]⟩]) := by unfold stepC; rw [if_neg h64, if_neg hne, if_neg hno, hro]; dsimp only; unfold addRow; rw [hl]
            obtain ⟨s1, s2, s3⟩ := hstep hst
            refine c_region ?_; refine l_neu (n_move rfl rfl) rfl ?_; refine l_neu (n_move rfl rfl) rfl ?_; refine l_met (hm) rfl rfl rfl ?_; rintro _ _ ⟨rfl, rfl⟩; refine l_neu (n_not rfl) rfl ?_; refine l_nil ?_
            refine k1 ?_
            refine c_cond rfl (fun ht => ?_) (fun ht => ?_)
            · cases ht
            refine k5 ?_; refine k4 ?_; refine k1 ?_
            refine c_region ?_; refine l_neu (n_add rfl rfl (by omega)) rfl ?_; refine l_neu (n_move rfl rfl) rfl ?_; refine l_nil ?_
            refine k1 ?_
            refine ⟨(k + 1, hs.dropLast ++ [⟨h.At, h.Rows ++ [r]⟩]), ⟨hlt, s3, s2, s1⟩, by dsimp only; omega, ?_⟩
            refine Sees.trans ?_ (ofOpenC hl (by simp))
            exact Sees.of ⟨le1 rfl, le1 rfl, le1 rfl, le1 rfl, le1 rfl, trivial⟩ ⟨rfl, rfl, rfl, rfl, trivial⟩
    · have hk2 : k = R.length := by have := of_decide_eq_false ht; omega
      subst hk2
      rw [List.drop_eq_nil_of_le (Nat.le_refl _)] at hf
      have hf : some hs = foldC N [] R := hf
      refine k6 ?_; refine k2 ?_
      refine c_sees (toShutC rfl) ?_
      refine c_sees (Sees.recell 731 chunkC rfl (fun x _ j _ rd u => chunk_cell j rd u)) ?_
      refine c_sees (Sees.freezeG (k := 731) rfl rfl) ?_
      refine c_cut [(4, .s (.one (.ref 730 0))), (2, .s (.one (.ref 2 0)))] [(730, .box [.p (.v (.string ⟨w'.toArray⟩)), .p (.v (.bool d')), .p (.v (.int .i64 N)), .p (.list CHunk 2 chunkC hs)]), (2, zBoxC)] (Sees.of ⟨le1 rfl, le1 rfl, trivial⟩ ⟨rfl, rfl, trivial⟩) ?_
      refine c_region ?_; refine l_neu (n_move rfl rfl) rfl ?_; refine l_neu (n_nilCheck_ref rfl) rfl ?_; refine l_neu (n_field_ref rfl) rfl ?_; refine l_neu (n_loads_ref rfl rfl rfl) rfl ?_; refine l_eff (e_store_ref TySz.out rfl rfl rfl rfl rfl rfl) ?_; refine l_neu (n_assign rfl rfl) rfl ?_; refine l_nil ?_
      refine k1 ?_; refine k10 ?_
      exact ret_ret (rs := [pComb ⟨w', d', N, hs⟩, pBool true]) (retc2 rfl rfl rfl rfl rfl rfl rfl) (hPs hs hf.symm)
end Go.Proofs.YtgejaedjnbjpoaaDoor
namespace Go.Proofs.YtgejaedjnbjpoaaDoor
open Go Go.AL
set_option maxRecDepth 100000
theorem linesS_w {s : Str} {l : List Str} (h : linesS s = some l) : (l.map wLine).sum ≤ 420 * s.length := by
  unfold linesS at h
  split at h
  · cases h; simp
  · split at h
    · have h : (linesOf s).map List.dropLast = l := Option.some.inj h
      obtain ⟨f1, f2⟩ := lines_flat s
      have hsum : ∀ L : List Str, (∀ x ∈ L, x ≠ []) → ((L.map List.dropLast).map wLine).sum ≤ 420 * L.flatten.length := by
        intro L
        induction L with
        | nil => intro _; simp
        | cons x r ih =>
          intro hne
          have ih := ih (fun y hy => hne y (by simp [hy]))
          have hx := List.length_pos_iff.2 (hne x (by simp))
          simp only [List.map_cons, List.sum_cons, List.flatten_cons, List.length_append]
          have e : wLine x.dropLast = 420 * (x.dropLast.length + 1) := rfl
          rw [e, List.length_dropLast]
          omega
      have hs := hsum (linesOf s) (fun x hx => ((lineOk_iff x).1 ((linesOf_ok s).1 x hx)).1)
      rw [h] at hs
      omega
    · cases h
def combR (f : List Str → Option Comb) (s : Str) : List PV := [pComb (combBy f s).1, pInt (combBy f s).2]
end Go.Proofs.YtgejaedjnbjpoaaDoor
