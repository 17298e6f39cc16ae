/- Walks of the program's functions. -/
import Derived.Test.YtjjidificdmnmaaGreatDoorFd
import Derived.Test.YtjjidificdmnmaaGreatDoorFs
import Derived.Test.YtjjidificdmnmaaGreatDoorFc
import Derived.Test.YtjjidificdmnmaaGreatDoorFb
namespace Go.Proofs.YtjjidificdmnmaaGreatDoor
open Go Go.AL
set_option maxRecDepth 100000
abbrev pChange (c : Change) : PV := .agg [.v (.int .i64 c.Old), .v (.int .i64 c.OldLen), .v (.int .i64 c.New), .v (.int .i64 c.NewLen)]
def sideRes (c : Change) (a b : List Int) : List PV := if c.NewLen = 0 then [pInts a, pInt c.Old, pInt c.OldLen, pBool true] else if c.OldLen = 0 then [pInts b, pInt c.New, pInt c.NewLen, pBool true] else [.one (.v (.slice none 0 0)), pInt 0, pInt 0, pBool false]
theorem side10_ok (c : Change) (a b : List Int) : FnOk Tryz.prog 163 [pChange c, pInts a, pInts b] (fun rs => rs = sideRes c a b) := by
  refine FnOk.intro Tryz.func163 (by decide) rfl rfl rfl rfl ?_
  refine k2 ?_
  refine c_region ?_; refine l_effv (f_box 3 rfl rfl rfl) rfl ?_; refine l_neu (n_assign rfl rfl) rfl ?_; refine l_neu (n_assign rfl rfl) rfl ?_; refine l_neu (n_assign rfl rfl) rfl ?_; refine l_neu (n_assign rfl rfl) rfl ?_; refine l_nil ?_
  refine k1 ?_; refine k2 ?_; refine k3 ?_; refine k2 ?_
  refine c_region ?_; refine l_neu (n_field_ref rfl) rfl ?_; refine l_neu (n_load_ref rfl rfl rfl) rfl ?_; refine l_neu (n_eql rfl rfl) rfl ?_; refine l_neu (n_assign rfl rfl) rfl ?_; refine l_nil ?_
  refine k1 ?_
  refine c_cond rfl (fun ht => ?_) (fun ht => ?_)
  · have h1 := of_decide_eq_true ht
    refine k2 ?_
    refine c_region_draw (by kernel_rfl) (by kernel_rfl) ?_; refine d_neu (n_move rfl rfl) rfl rfl ?_; refine d_neu (n_field_ref rfl) rfl rfl ?_; refine d_neu (n_load_ref rfl rfl rfl) rfl rfl ?_; refine d_neu (n_field_ref rfl) rfl rfl ?_; refine d_neu (n_load_ref rfl rfl rfl) rfl rfl ?_; refine d_neu (n_assign rfl rfl) rfl rfl ?_; refine d_neu (n_assign rfl rfl) rfl rfl ?_; refine d_neu (n_assign rfl rfl) rfl rfl ?_; refine d_neu (n_assign rfl rfl) rfl rfl ?_; refine d_nil ?_
    refine k1 ?_; refine k10 ?_; refine k12 ?_; refine k11 ?_
    exact ret_ret (ret4 rfl rfl rfl rfl rfl rfl rfl rfl rfl) (by unfold sideRes; rw [if_pos h1])
  · have h1 := of_decide_eq_false ht
    refine k2 ?_
    refine c_region ?_; refine l_neu (n_field_ref rfl) rfl ?_; refine l_neu (n_load_ref rfl rfl rfl) rfl ?_; refine l_neu (n_eql rfl rfl) rfl ?_; refine l_neu (n_assign rfl rfl) rfl ?_; refine l_nil ?_
    refine k1 ?_
    refine c_cond rfl (fun ht => ?_) (fun ht => ?_)
    · have h2 := of_decide_eq_true ht
      refine k2 ?_
      refine c_region_draw (by kernel_rfl) (by kernel_rfl) ?_; refine d_neu (n_move rfl rfl) rfl rfl ?_; refine d_neu (n_field_ref rfl) rfl rfl ?_; refine d_neu (n_load_ref rfl rfl rfl) rfl rfl ?_; refine d_neu (n_field_ref rfl) rfl rfl ?_; refine d_neu (n_load_ref rfl rfl rfl) rfl rfl ?_; refine d_neu (n_assign rfl rfl) rfl rfl ?_; refine d_neu (n_assign rfl rfl) rfl rfl ?_; refine d_neu (n_assign rfl rfl) rfl rfl ?_; refine d_neu (n_assign rfl rfl) rfl rfl ?_; refine d_nil ?_
      refine k1 ?_; refine k10 ?_; refine k12 ?_; refine k11 ?_
      exact ret_ret (ret4 rfl rfl rfl rfl rfl rfl rfl rfl rfl) (by unfold sideRes; rw [if_neg h1, if_pos h2])
    · have h2 := of_decide_eq_false ht
      refine k5 ?_; refine k2 ?_
      refine c_region ?_; refine l_neu (n_assign rfl rfl) rfl ?_; refine l_neu (n_assign rfl rfl) rfl ?_; refine l_neu (n_assign rfl rfl) rfl ?_; refine l_neu (n_assign rfl rfl) rfl ?_; refine l_nil ?_
      refine k1 ?_; refine k10 ?_
      exact ret_ret (ret4 rfl rfl rfl rfl rfl rfl rfl rfl rfl) (by unfold sideRes; rw [if_neg h1, if_neg h2])
theorem down10_ok (l : List Change) (a b : List Int) (k : Nat) (hk : k < l.length) (hl : l.length ≤ 32768) (ha : a.length ≤ 4096) (hb : b.length ≤ 4096) (hok : ScOk 0 0 l a.length b.length) :
    FnOk Tryz.prog 121 [pChanges l, pInts a, pInts b, pInt k] (fun rs => rs = [pBool (canDown l a b k)]) := by
  obtain ⟨c, hc⟩ : ∃ c, c = cAt l k := ⟨_, rfl⟩
  have hv : l[k]? = some c := by rw [hc]; exact cAt_get hk
  have hg := hok.get k hk
  rw [← hc] at hg
  obtain ⟨⟨c1, _⟩, ⟨c2, _⟩, ⟨c3, _⟩, ⟨c4, _⟩, c5, c6⟩ := hg
  have hnx : k + 1 < l.length → l[k + 1]? = some (cAt l (k + 1)) ∧ 0 ≤ (cAt l (k + 1)).Old ∧ (cAt l (k + 1)).Old ≤ 4096 := fun h => by
    have := hok.get (k + 1) h
    exact ⟨cAt_get h, this.1.1, this.1.2⟩
  have hnx' : k + 1 < l.length → l[((k : Int) + 1).toNat]? = some (cAt l (k + 1)) := fun h => by
    rw [show ((k : Int) + 1).toNat = k + 1 by omega]; exact cAt_get h
  have hcase : (∃ (t : List Int) (f n : Int), sideRes c a b = [pInts t, pInt f, pInt n, pBool true] ∧ canDown l a b k = decide (downT l k t f n) ∧ t.length ≤ 4096 ∧ 0 ≤ f ∧ 0 ≤ n ∧ f + n ≤ t.length) ∨ (sideRes c a b = [.one (.v (.slice none 0 0)), pInt 0, pInt 0, pBool false] ∧ canDown l a b k = false) := by
    unfold sideRes canDown
    rw [← hc]
    by_cases h1 : c.NewLen = 0
    · rw [if_pos h1, if_pos h1]; exact .inl ⟨_, _, _, rfl, rfl, ha, c1, c2, c5⟩
    · rw [if_neg h1, if_neg h1]
      by_cases h2 : c.OldLen = 0
      · rw [if_pos h2, if_pos h2]; exact .inl ⟨_, _, _, rfl, rfl, hb, c3, c4, c6⟩
      · rw [if_neg h2, if_neg h2]; exact .inr ⟨rfl, rfl⟩
  have hs := side10_ok c a b
  rcases hcase with ⟨t, f, n, hr, hcd, ht4, f0, n0, fn⟩ | ⟨hr, hcd⟩
  · rw [hr] at hs
    refine FnOk.intro Tryz.func121 (by decide) rfl rfl rfl rfl ?_
    refine k2 ?_
    refine c_region ?_; refine l_neu (n_assign rfl rfl) rfl ?_; refine l_nil ?_
    refine k1 ?_; refine k2 ?_
    refine c_region ?_; refine l_neu (n_move rfl rfl) rfl ?_; refine l_neu (n_move rfl rfl) rfl ?_; refine l_neu (n_indexAddr rfl (.pure _ _ _ _) rfl (by omega) hv) rfl ?_; refine l_neu (n_loads_eref rfl rfl) rfl ?_; refine l_neu (n_move rfl rfl) rfl ?_; refine l_neu (n_move rfl rfl) rfl ?_; refine l_call (hs) rfl rfl rfl ?_; rintro _ rfl; refine l_neu (n_move rfl rfl) rfl ?_; refine l_neu (n_extract rfl rfl) rfl ?_; refine l_neu (n_extract rfl rfl) rfl ?_; refine l_neu (n_extract rfl rfl) rfl ?_; refine l_neu (n_extract rfl rfl) rfl ?_; refine l_neu (n_assign rfl rfl) rfl ?_; refine l_neu (n_assign rfl rfl) rfl ?_; refine l_neu (n_assign rfl rfl) rfl ?_; refine l_neu (n_assign rfl rfl) rfl ?_; refine l_nil ?_
    refine c_cut [(0, sList Change 4 changeC l), (3, sInt k), (9, sList Int 1 intC t), (10, sInt f), (11, sInt n), (12, sVal (.bool true))] [] (Sees.of ⟨le1 rfl, le1 rfl, le1 rfl, le1 rfl, le1 rfl, le1 rfl, trivial⟩ trivial) ?_
    have hat : ∀ i : Int, 0 ≤ i → i < t.length → t[i.toNat]? = some (atI t i) := fun i h0 h1 => by
      unfold atI; rw [List.getD_eq_getElem?_getD, List.getElem?_eq_getElem (show i.toNat < t.length by omega)]; rfl
    refine k2 ?_; refine k2 ?_
    refine c_region_draw (by kernel_rfl) (by kernel_rfl) ?_; refine d_neu (n_move rfl rfl) rfl rfl ?_; refine d_neu (n_not rfl) rfl rfl ?_; refine d_neu (n_move rfl rfl) rfl rfl ?_; refine d_guard rfl rfl (fun hg => by rw [hg]; exact n_move rfl rfl) rfl rfl ?_; refine d_guard rfl rfl (fun hg => by rw [hg]; exact n_move rfl rfl) rfl rfl ?_; refine d_guard rfl rfl (fun hg => by have hq := hg; (try simp at hq); rw [hg]; exact n_add rfl rfl (by omega)) rfl rfl ?_; refine d_guard rfl rfl (fun hg => by rw [hg]; exact n_move rfl rfl) rfl rfl ?_; refine d_guard rfl rfl (fun hg => by rw [hg]; exact n_len rfl (.pure _ _ _ _)) rfl rfl ?_; refine d_guard rfl rfl (fun hg => by rw [hg]; exact n_geq rfl rfl) rfl rfl ?_; refine d_neu (n_pick_bool rfl (fun h => by first | rfl | (rw [h]; rfl)) (fun h => by first | rfl | (rw [h]; rfl))) rfl rfl ?_; refine d_neu (n_move rfl rfl) rfl rfl ?_; refine d_guard rfl rfl (fun hg => by rw [hg]; exact n_move rfl rfl) rfl rfl ?_; refine d_guard rfl rfl (fun hg => by rw [hg]; exact n_move rfl rfl) rfl rfl ?_; refine d_guard rfl rfl (fun hg => by have hq := hg; (try simp at hq); rw [hg]; exact n_indexAddr rfl (.pure _ _ _ _) rfl (by omega) (hat f f0 (by omega))) rfl rfl ?_; refine d_guard rfl rfl (fun hg => by rw [hg]; exact n_load_eref rfl rfl) rfl rfl ?_; refine d_guard rfl rfl (fun hg => by rw [hg]; exact n_move rfl rfl) rfl rfl ?_; refine d_guard rfl rfl (fun hg => by rw [hg]; exact n_move rfl rfl) rfl rfl ?_; refine d_guard rfl rfl (fun hg => by rw [hg]; exact n_move rfl rfl) rfl rfl ?_; refine d_guard rfl rfl (fun hg => by have hq := hg; (try simp at hq); rw [hg]; exact n_add rfl rfl (by omega)) rfl rfl ?_; refine d_guard rfl rfl (fun hg => by have hq := hg; (try simp at hq); rw [hg]; exact n_indexAddr rfl (.pure _ _ _ _) rfl (by omega) (hat (f + n) (by omega) hq)) rfl rfl ?_; refine d_guard rfl rfl (fun hg => by rw [hg]; exact n_load_eref rfl rfl) rfl rfl ?_; refine d_guard rfl rfl (fun hg => by rw [hg]; exact n_neq rfl rfl) rfl rfl ?_; refine d_neu (n_pick_bool rfl (fun h => by first | rfl | (rw [h]; rfl)) (fun h => by first | rfl | (rw [h]; rfl))) rfl rfl ?_; refine d_nil ?_
    refine k1 ?_
    refine c_cond rfl (fun ht => ?_) (fun ht => ?_)
    · have h1 : ¬ ((f + n < t.length ∧ atI t f = atI t (f + n)) ∧ (k + 1 = l.length ∨ (cAt l k).Old + (cAt l k).OldLen + 1 < (cAt l (k + 1)).Old)) := by
        rintro ⟨⟨q1, q2⟩, _⟩
        simp [q2] at ht
        omega
      refine k2 ?_
      refine c_region ?_; refine l_neu (n_assign rfl rfl) rfl ?_; refine l_nil ?_
      refine k1 ?_; refine k10 ?_; refine k11 ?_
      exact ret_ret (ret1 rfl rfl rfl) (by rw [hcd]; unfold downT; rw [decide_eq_false h1])
    · have h1 : f + n < t.length := Classical.byContradiction fun q => by simp [show (t.length : Int) ≤ f + n by omega] at ht
      have h2 : atI t f = atI t (f + n) := Classical.byContradiction fun q => by simp [q] at ht
      refine k5 ?_; refine k1 ?_; refine k2 ?_
      refine c_region_draw (by kernel_rfl) (by kernel_rfl) ?_; refine d_neu (n_move rfl rfl) rfl rfl ?_; refine d_neu (n_add rfl rfl (by omega)) rfl rfl ?_; refine d_neu (n_move rfl rfl) rfl rfl ?_; refine d_neu (n_len rfl (.pure _ _ _ _)) rfl rfl ?_; refine d_neu (n_eql rfl rfl) rfl rfl ?_; refine d_neu (n_move rfl rfl) rfl rfl ?_; refine d_guard rfl rfl (fun hg => by rw [hg]; exact n_move rfl rfl) rfl rfl ?_; refine d_guard rfl rfl (fun hg => by rw [hg]; exact n_move rfl rfl) rfl rfl ?_; refine d_guard rfl rfl (fun hg => by have hq := hg; (try simp at hq); rw [hg]; exact n_add rfl rfl (by omega)) rfl rfl ?_; refine d_guard rfl rfl (fun hg => by have hq := hg; (try simp at hq); rw [hg]; exact n_indexAddr rfl (.pure _ _ _ _) rfl (by omega) (hnx' (by omega))) rfl rfl ?_; refine d_guard rfl rfl (fun hg => by rw [hg]; exact n_field_eref rfl) rfl rfl ?_; refine d_guard rfl rfl (fun hg => by rw [hg]; exact n_load_eref rfl rfl) rfl rfl ?_; refine d_guard rfl rfl (fun hg => by rw [hg]; exact n_move rfl rfl) rfl rfl ?_; refine d_guard rfl rfl (fun hg => by rw [hg]; exact n_move rfl rfl) rfl rfl ?_; refine d_guard rfl rfl (fun hg => by have hq := hg; (try simp at hq); rw [hg]; exact n_indexAddr rfl (.pure _ _ _ _) rfl (by omega) hv) rfl rfl ?_; refine d_guard rfl rfl (fun hg => by rw [hg]; exact n_field_eref rfl) rfl rfl ?_; refine d_guard rfl rfl (fun hg => by rw [hg]; exact n_load_eref rfl rfl) rfl rfl ?_; refine d_guard rfl rfl (fun hg => by rw [hg]; exact n_move rfl rfl) rfl rfl ?_; refine d_guard rfl rfl (fun hg => by rw [hg]; exact n_move rfl rfl) rfl rfl ?_; refine d_guard rfl rfl (fun hg => by have hq := hg; (try simp at hq); rw [hg]; exact n_indexAddr rfl (.pure _ _ _ _) rfl (by omega) hv) rfl rfl ?_; refine d_guard rfl rfl (fun hg => by rw [hg]; exact n_field_eref rfl) rfl rfl ?_; refine d_guard rfl rfl (fun hg => by rw [hg]; exact n_load_eref rfl rfl) rfl rfl ?_; refine d_guard rfl rfl (fun hg => by have hq := hg; (try simp at hq); rw [hg]; exact n_add rfl rfl (by omega)) rfl rfl ?_; refine d_guard rfl rfl (fun hg => by have hq := hg; (try simp at hq); have hn2 := hnx (by omega); rw [hg]; exact n_add rfl rfl (by omega)) rfl rfl ?_; refine d_guard rfl rfl (fun hg => by rw [hg]; exact n_gtr rfl rfl) rfl rfl ?_; refine d_neu (n_pick_bool rfl (fun h => by first | rfl | (rw [h]; rfl)) (fun h => by first | rfl | (rw [h]; rfl))) rfl rfl ?_; refine d_neu (n_assign rfl rfl) rfl rfl ?_; refine d_nil ?_
      refine k1 ?_; refine k10 ?_
      have h3 : canDown l a b k = if decide ((k : Int) + 1 = l.length) = true then true else decide (c.Old + c.OldLen + 1 < (cAt l (k + 1)).Old) := by
        rw [hcd, hc]
        by_cases q : k + 1 = l.length
        · have h4 : downT l k t f n := ⟨⟨h1, h2⟩, .inl q⟩
          simp [h4, show (k : Int) + 1 = l.length by omega]
        · have q2 : ¬ ((k : Int) + 1 = l.length) := by omega
          have h4 : downT l k t f n ↔ (cAt l k).Old + (cAt l k).OldLen + 1 < (cAt l (k + 1)).Old := ⟨fun h => h.2.resolve_left q, fun h => ⟨⟨h1, h2⟩, .inr h⟩⟩
          simp [h4, q2]
      exact ret_ret (ret1 rfl rfl rfl) (by rw [h3])
  · rw [hr] at hs
    refine FnOk.intro Tryz.func121 (by decide) rfl rfl rfl rfl ?_
    refine k2 ?_
    refine c_region ?_; refine l_neu (n_assign rfl rfl) rfl ?_; refine l_nil ?_
    refine k1 ?_; refine k2 ?_
    refine c_region ?_; refine l_neu (n_move rfl rfl) rfl ?_; refine l_neu (n_move rfl rfl) rfl ?_; refine l_neu (n_indexAddr rfl (.pure _ _ _ _) rfl (by omega) hv) rfl ?_; refine l_neu (n_loads_eref rfl rfl) rfl ?_; refine l_neu (n_move rfl rfl) rfl ?_; refine l_neu (n_move rfl rfl) rfl ?_; refine l_call (hs) rfl rfl rfl ?_; rintro _ rfl; refine l_neu (n_move rfl rfl) rfl ?_; refine l_neu (n_extract rfl rfl) rfl ?_; refine l_neu (n_extract rfl rfl) rfl ?_; refine l_neu (n_extract rfl rfl) rfl ?_; refine l_neu (n_extract rfl rfl) rfl ?_; refine l_neu (n_assign rfl rfl) rfl ?_; refine l_neu (n_assign rfl rfl) rfl ?_; refine l_neu (n_assign rfl rfl) rfl ?_; refine l_neu (n_assign rfl rfl) rfl ?_; refine l_nil ?_
    refine k1 ?_; refine k2 ?_; refine k2 ?_
    refine c_region_draw (by kernel_rfl) (by kernel_rfl) ?_; refine d_neu (n_move rfl rfl) rfl rfl ?_; refine d_neu (n_not rfl) rfl rfl ?_; refine d_neu (n_move rfl rfl) rfl rfl ?_; refine d_skip rfl rfl (by decide) rfl rfl ?_; refine d_skip rfl rfl (by decide) rfl rfl ?_; refine d_skip rfl rfl (by decide) rfl rfl ?_; refine d_skip rfl rfl (by decide) rfl rfl ?_; refine d_skip rfl rfl (by decide) rfl rfl ?_; refine d_skip rfl rfl (by decide) rfl rfl ?_; refine d_neu (n_pick_t rfl (rfl) rfl) rfl rfl ?_; refine d_neu (n_move rfl rfl) rfl rfl ?_; refine d_skip rfl rfl (by decide) rfl rfl ?_; refine d_skip rfl rfl (by decide) rfl rfl ?_; refine d_skip rfl rfl (by decide) rfl rfl ?_; refine d_skip rfl rfl (by decide) rfl rfl ?_; refine d_skip rfl rfl (by decide) rfl rfl ?_; refine d_skip rfl rfl (by decide) rfl rfl ?_; refine d_skip rfl rfl (by decide) rfl rfl ?_; refine d_skip rfl rfl (by decide) rfl rfl ?_; refine d_skip rfl rfl (by decide) rfl rfl ?_; refine d_skip rfl rfl (by decide) rfl rfl ?_; refine d_skip rfl rfl (by decide) rfl rfl ?_; refine d_neu (n_pick_t rfl (rfl) rfl) rfl rfl ?_; refine d_nil ?_
    refine k1 ?_
    refine c_cond rfl (fun ht => ?_) (fun ht => ?_)
    · refine k2 ?_
      refine c_region ?_; refine l_neu (n_assign rfl rfl) rfl ?_; refine l_nil ?_
      refine k1 ?_; refine k10 ?_; refine k11 ?_
      exact ret_ret (ret1 rfl rfl rfl) (by rw [hcd])
    · cases ht
theorem moved10_ok (l : List Change) (k : Nat) (hk : k < l.length) (hl : l.length ≤ 32768) (h1 : -4096 ≤ (cAt l k).Old ∧ (cAt l k).Old ≤ 4096) (h2 : -4096 ≤ (cAt l k).New ∧ (cAt l k).New ≤ 4096) :
    FnOk Tryz.prog 122 [pChanges l, pInt k, pInt 1] (fun rs => rs = [pChanges (movedOf l k)]) := by
  obtain ⟨c, hc⟩ : ∃ c, c = cAt l k := ⟨_, rfl⟩
  have hv : l[k]? = some c := by rw [hc]; exact cAt_get hk
  rw [← hc] at h1 h2
  obtain ⟨c', hc'⟩ : ∃ c' : Change, c' = { c with Old := c.Old + 1 } := ⟨_, rfl⟩
  have hv' : (l.set k c')[k]? = some c' := List.getElem?_set_self hk
  have hfin : (l.set k c').set k ({ c' with New := c'.New + 1 } : Change) = movedOf l k := by
    rw [List.set_set]; unfold movedOf; rw [← hc, hc']; rfl
  have hl' : (l.set k c').length = l.length := by simp
  refine FnOk.intro Tryz.func122 (by decide) rfl rfl rfl rfl ?_
  refine k2 ?_
  refine c_region ?_; refine l_neu (n_assign rfl rfl) rfl ?_; refine l_nil ?_
  refine k1 ?_; refine k2 ?_
  refine c_region ?_; refine l_effv (f_buildG 5 _ changeC rfl (by first | rfl | (simp [frFree, obFree, Ob.free, SV.free, S1.free, TC.free] <;> rfl))) rfl ?_; refine l_neu (n_move rfl rfl) rfl ?_; refine l_effv (e_append_g rfl rfl rfl (.pure _ _ _ _) (by (simp; omega)) rfl) rfl ?_; refine l_neu (n_assign rfl rfl) rfl ?_; refine l_nil ?_
  simp only [List.nil_append]
  refine k1 ?_; refine k2 ?_
  refine c_region ?_; refine l_neu (n_move rfl rfl) rfl ?_; refine l_neu (n_move rfl rfl) rfl ?_; refine l_neu (n_move rfl rfl) rfl ?_; refine l_neu (n_move rfl rfl) rfl ?_; refine l_neu (n_indexAddr_g rfl rfl rfl (by omega) (by omega)) rfl ?_; refine l_neu (n_field_mref rfl) rfl ?_; refine l_neu (n_load_g rfl rfl hv rfl) rfl ?_; refine l_neu (n_move rfl rfl) rfl ?_; refine l_neu (n_add rfl rfl (by omega)) rfl ?_; refine l_neu (n_indexAddr_g rfl rfl rfl (by omega) (by omega)) rfl ?_; refine l_neu (n_field_mref rfl) rfl ?_; refine l_eff (e_store_g (({ c with Old := c.Old + 1 } : Change)) TySz.out rfl rfl hv rfl rfl rfl rfl (fun _ _ _ h => all2_unp h) (by intro j h1 h2; rcases j with _ | _ | _ | _ | _ | _ | _ | j <;> first | rfl | omega)) ?_; refine l_nil ?_
  rw [Int.toNat_natCast, ← hc']
  refine k1 ?_; refine k2 ?_
  refine c_region ?_; refine l_neu (n_move rfl rfl) rfl ?_; refine l_neu (n_move rfl rfl) rfl ?_; refine l_neu (n_move rfl rfl) rfl ?_; refine l_neu (n_move rfl rfl) rfl ?_; refine l_neu (n_indexAddr_g rfl rfl rfl (by omega) (by (rw [hl']; omega))) rfl ?_; refine l_neu (n_field_mref rfl) rfl ?_; refine l_neu (n_load_g rfl rfl hv' rfl) rfl ?_; refine l_neu (n_move rfl rfl) rfl ?_; refine l_neu (n_add rfl rfl (by (rw [hc']; dsimp only; omega))) rfl ?_; refine l_neu (n_indexAddr_g rfl rfl rfl (by omega) (by (rw [hl']; omega))) rfl ?_; refine l_neu (n_field_mref rfl) rfl ?_; refine l_eff (e_store_g (({ c' with New := c'.New + 1 } : Change)) TySz.out rfl rfl hv' rfl rfl rfl rfl (fun _ _ _ h => all2_unp h) (by intro j h1 h2; rcases j with _ | _ | _ | _ | _ | _ | _ | j <;> first | rfl | omega)) ?_; refine l_nil ?_
  rw [Int.toNat_natCast, hfin]
  refine k1 ?_; refine k2 ?_
  refine c_sees (Sees.growBuf (t := 7) rfl rfl rfl) ?_
  refine c_region ?_; refine l_neu (n_move rfl rfl) rfl ?_; refine l_neu (n_assign rfl rfl) rfl ?_; refine l_nil ?_
  refine k1 ?_; refine k10 ?_
  exact ret_ret (ret1 rfl rfl rfl) rfl
theorem fit_pairs {x y : List Str} {names : List Str} {l : List Change} (h : ScFit x y l) : ∀ p ∈ matchedOf l ((idsOf names x).length : Int), PairAt (idsOf names x) (idsOf names y) p := by
  intro p hp
  rw [show ((idsOf names x).length : Int) = x.length by simp [idsOf]] at hp
  obtain ⟨h1, h2, v, h3, h4⟩ := h.pairs p hp
  refine ⟨h1, h2, placeOf names v 0, ?_, ?_⟩
  · unfold idsOf; rw [List.getElem?_map, h3]; rfl
  · unfold idsOf; rw [List.getElem?_map, h4]; rfl
theorem rDown10_ok (x y names : List Str) (l : List Change) (h : ScFit x y l) (hl : l.length ≤ 32768) (hx : ∀ s ∈ x, s ∈ names) (hy : ∀ s ∈ y, s ∈ names) :
    FnOk Tryz.prog 79 [pChanges l, pInts (idsOf names x), pInts (idsOf names y)] (fun rs => rs = [pChanges (downOf l (idsOf names x) (idsOf names y)), pInt 0]) := by
  obtain ⟨a, ha⟩ : ∃ a, a = idsOf names x := ⟨_, rfl⟩
  obtain ⟨b, hb⟩ : ∃ b, b = idsOf names y := ⟨_, rfl⟩
  have hpp := fit_pairs (names := names) h
  have ia : IdsOf x a := by rw [ha]; exact idsOf_ids hx
  have ib : IdsOf y b := by rw [hb]; exact idsOf_ids hy
  rw [← ha, ← hb] at hpp ⊢
  have hla := ia.len
  have hlb := ib.len
  have hxl := h.lx
  have hyl := h.ly
  have hck := h.check
  rw [← hla, ← hlb] at hck
  refine FnOk.intro Tryz.func79 (by decide) rfl rfl rfl rfl ?_
  refine k2 ?_
  refine c_region ?_; refine l_neu (n_assign rfl rfl) rfl ?_; refine l_neu (n_assign rfl rfl) rfl ?_; refine l_nil ?_
  refine k1 ?_; refine k2 ?_; refine k2 ?_
  refine c_region ?_; refine l_neu (n_move rfl rfl) rfl ?_; refine l_neu (n_move rfl rfl) rfl ?_; refine l_neu (n_move rfl rfl) rfl ?_; refine l_call (rFits8_ok l a b hl hck hpp) rfl rfl rfl ?_; rintro _ rfl; refine l_neu (n_not rfl) rfl ?_; refine l_nil ?_
  refine k1 ?_
  refine c_cond rfl (fun ht => ?_) (fun ht => ?_)
  · cases ht
  refine k5 ?_; refine k1 ?_; refine k2 ?_; refine k2 ?_
  refine c_region ?_; refine l_neu (n_move rfl rfl) rfl ?_; refine l_neu (n_len rfl (.pure _ _ _ _)) rfl ?_; refine l_neu (n_sub rfl rfl (by omega)) rfl ?_; refine l_neu (n_assign rfl rfl) rfl ?_; refine l_nil ?_
  refine k1 ?_; refine k3 ?_
  refine c_while (X := Nat × List Change) (fun s => ([(0, sList Change 4 changeC s.2), (1, sList Int 1 intC a), (2, sList Int 1 intC b), (8, sInt ((s.1 : Int) - 1))], [])) (fun s => s.1 ≤ l.length ∧ s.2.length = l.length ∧ ScFit x y s.2 ∧ slideAll a b s.1 s.2 = downOf l a b) (fun s => s.1) (l.length, l) ⟨Nat.le_refl _, rfl, h, rfl⟩ (Sees.of ⟨le1 rfl, le1 rfl, le1 rfl, le1 rfl, trivial⟩ trivial) ?_
  rintro ⟨n, l1⟩ ⟨hn, hl1, hf1, hs1⟩
  dsimp only at hn hl1 hf1 hs1 ⊢
  refine k2 ?_; refine k2 ?_
  refine c_region ?_; refine l_neu (n_move rfl rfl) rfl ?_; refine l_neu (n_geq rfl rfl) rfl ?_; refine l_nil ?_
  refine k1 ?_
  refine c_cond rfl (fun ht => ?_) (fun ht => ?_)
  · have hn0 : 0 < n := by have := of_decide_eq_true ht; omega
    obtain ⟨k, rfl⟩ : ∃ k, n = k + 1 := ⟨n - 1, by omega⟩
    rw [show ((k + 1 : Nat) : Int) - 1 = k by omega]
    refine k5 ?_; refine k1 ?_; refine k2 ?_; refine k3 ?_; refine k3 ?_
    refine c_while (X := List Change) (fun l2 => ([(0, sList Change 4 changeC l2), (1, sList Int 1 intC a), (2, sList Int 1 intC b), (8, sInt k)], [])) (fun l2 => l2.length = l.length ∧ ScFit x y l2 ∧ slideOne a b l2 k = slideOne a b l1 k) (fun l2 => measK l2 a b k) l1 ⟨hl1, hf1, rfl⟩ (Sees.of ⟨le1 rfl, le1 rfl, le1 rfl, le1 rfl, trivial⟩ trivial) ?_
    rintro l2 ⟨hl2, hf2, hs2⟩
    dsimp only at hl2 hf2 hs2 ⊢
    have hok2 := hf2.ok
    rw [← hla, ← hlb] at hok2
    have hk2 : k < l2.length := by omega
    refine k2 ?_; refine k2 ?_
    refine c_region ?_; refine l_neu (n_move rfl rfl) rfl ?_; refine l_neu (n_move rfl rfl) rfl ?_; refine l_neu (n_move rfl rfl) rfl ?_; refine l_neu (n_move rfl rfl) rfl ?_; refine l_call (down10_ok l2 a b k hk2 (by omega) (by omega) (by omega) hok2) rfl rfl rfl ?_; rintro _ rfl; refine l_nil ?_
    refine k1 ?_
    refine c_cond rfl (fun ht => ?_) (fun ht => ?_)
    · have hg := hok2.get k hk2
      have hst := slideOne_down ia ib hf2 hk2 ht
      have hm := meas_down ia ib hf2 hk2 ht
      obtain ⟨⟨g1, g2⟩, _, ⟨g3, g4⟩, _⟩ := hg
      refine k5 ?_; refine k1 ?_; refine k3 ?_
      refine c_region ?_; refine l_neu (n_move rfl rfl) rfl ?_; refine l_neu (n_move rfl rfl) rfl ?_; refine l_call (moved10_ok l2 k hk2 (by omega) ⟨by omega, g2⟩ ⟨by omega, g4⟩) rfl rfl rfl ?_; rintro _ rfl; refine l_neu (n_assign rfl rfl) rfl ?_; refine l_nil ?_
      refine k4 ?_; refine k1 ?_
      exact ⟨movedOf l2 k, ⟨by rw [movedOf_length]; exact hl2, hf2.down ia ib hk2 ht, by rw [← hst]; exact hs2⟩, hm, Sees.of ⟨le1 rfl, le1 rfl, le1 rfl, le1 rfl, trivial⟩ trivial⟩
    · have hst := slideOne_stop (a := a) (b := b) ht
      rw [hst] at hs2
      have hsl : slideAll a b (k + 1) l1 = slideAll a b k l2 := by rw [hs2]; rfl
      rw [hsl] at hs1
      refine k6 ?_; refine k7 ?_; refine k7 ?_; refine k8 rfl ?_; refine k4 ?_; refine k1 ?_
      refine c_region ?_; refine l_neu (n_move rfl rfl) rfl ?_; refine l_neu (n_sub rfl rfl (by omega)) rfl ?_; refine l_neu (n_assign rfl rfl) rfl ?_; refine l_nil ?_
      refine k1 ?_
      exact ⟨(k, l2), ⟨by dsimp only; omega, hl2, hf2, hs1⟩, by dsimp only; omega, Sees.of ⟨le1 rfl, le1 rfl, le1 rfl, le1 rfl, trivial⟩ trivial⟩
  · have hn0 : n = 0 := by have := of_decide_eq_false ht; omega
    subst hn0
    have hs1 : l1 = downOf l a b := hs1
    refine k6 ?_; refine k2 ?_
    refine c_region ?_; refine l_effv (f_buildBuf 9 (c := changeC) (ys := []) asm_nil rfl rfl rfl (by first | rfl | (simp [frFree, obFree, Ob.free, SV.free, S1.free, TC.free] <;> rfl))) rfl ?_; refine l_neu (n_move rfl rfl) rfl ?_; refine l_effv (e_append rfl rfl rfl (.pure _ _ _ _) (by (simp; omega)) rfl) rfl ?_; refine l_neu (n_assign rfl rfl) rfl ?_; refine l_neu (n_assign rfl rfl) rfl ?_; refine l_nil ?_
    simp only [List.nil_append]
    refine k1 ?_; refine k10 ?_
    exact ret_ret (ret2 rfl rfl rfl rfl rfl) (by rw [hs1])
end Go.Proofs.YtjjidificdmnmaaGreatDoor
namespace Go.Proofs.YtjjidificdmnmaaGreatDoor
open Go Go.AL
set_option maxRecDepth 100000
end Go.Proofs.YtjjidificdmnmaaGreatDoor
namespace Go.Proofs.YtjjidificdmnmaaGreatDoor
open Go Go.AL
set_option maxRecDepth 100000
set_option maxHeartbeats 1000000
end Go.Proofs.YtjjidificdmnmaaGreatDoor
namespace Go.Proofs.YtjjidificdmnmaaGreatDoor
open Go Go.AL
set_option maxRecDepth 100000
set_option maxHeartbeats 1000000
theorem rmakeD_ok (on nn a b : Str) (ctx : Int) (d : Bool) (ha : a.length ≤ 4096) (hb : b.length ≤ 4096) :
    FnOk Tryz.prog 41 [pStr on, pStr nn, pStr a, pStr b, pInt ctx, pBool d] (fun rs => rs = [pPatch (made12 on nn a b ctx d).1, pInt (made12 on nn a b ctx d).2]) := by
  obtain ⟨x, hx⟩ : ∃ x, x = linesOf a := ⟨_, rfl⟩
  obtain ⟨y, hy⟩ : ∃ y, y = linesOf b := ⟨_, rfl⟩
  obtain ⟨f1, f2⟩ := lines_flat a
  obtain ⟨f3, f4⟩ := lines_flat b
  rw [← hx] at f1 f2
  rw [← hy] at f3 f4
  have hsa := splitOf_small ha
  have hsb := splitOf_small hb
  rw [← hx] at hsa
  rw [← hy] at hsb
  have hxm : ∀ s ∈ x, s ∈ namesOf [x, y] := fun s hs => namesOf_mem _ _ x (by simp) hs
  have hym : ∀ s ∈ y, s ∈ namesOf [x, y] := fun s hs => namesOf_mem _ _ y (by simp) hs
  have i1 : (idsOf (namesOf [x, y]) x).length = x.length := by simp [idsOf]
  have i2 : (idsOf (namesOf [x, y]) y).length = y.length := by simp [idsOf]
  have hs0 := script_fit x y (by omega) (by omega)
  have hs0l := scriptOf_len x y
  have hdf := (scriptD_fit x y d (by omega) (by omega)).1
  have hdl := scriptD_len x y d (by omega) (by omega)
  obtain ⟨l, hl⟩ : ∃ l, l = scriptD x y d := ⟨_, rfl⟩
  rw [← hl] at hdf hdl
  have hmk : made12 on nn a b ctx d = if nameOk on = false ∨ nameOk nn = false then (patch0, 120) else if ctx < 0 ∨ 1048576 < ctx then (patch0, 3) else (⟨on, nn, hunksOf l x y ctx⟩, 0) := by rw [hl, hx, hy]; rfl
  have hxl : x.length ≤ 4096 := by omega
  have hyl : y.length ≤ 4096 := by omega
  refine FnOk.intro Tryz.func41 (by decide) rfl rfl rfl rfl ?_
  refine k2 ?_
  refine c_region ?_; refine l_effv (f_alloc 12 rfl) rfl ?_; refine l_neu (n_assign rfl rfl) rfl ?_; refine l_nil ?_
  refine k1 ?_; refine k2 ?_; refine k2 ?_
  refine c_region ?_; refine l_neu (n_move rfl rfl) rfl ?_; refine l_call (rname_ok on) rfl rfl rfl ?_; rintro _ rfl; refine l_neu (n_not rfl) rfl ?_; refine l_neu (n_move rfl rfl) rfl ?_; refine l_guard rfl rfl rfl rfl (fun hg => by rw [hg]; exact n_move rfl rfl) ?_; refine l_guard rfl rfl rfl rfl (fun hg => by have hq := hg; (try simp at hq); rw [hg]; exact n_call1 (rname_ok nn) rfl rfl) ?_; refine l_guard rfl rfl rfl rfl (fun hg => by rw [hg]; exact n_not rfl) ?_; refine l_neu (n_pick_bool rfl (fun h => by first | rfl | (rw [h]; rfl)) (fun h => by first | rfl | (rw [h]; rfl))) rfl ?_; refine l_nil ?_
  refine k1 ?_
  refine c_cond rfl (fun ht => ?_) (fun ht => ?_)
  · simp only [notB, or_pick] at ht
    have h := of_decide_eq_true ht
    refine k2 ?_
    refine c_region ?_; refine l_neu (n_build rfl) rfl ?_; refine l_eff (e_store_ref TySz.out rfl rfl rfl rfl rfl rfl) ?_; refine l_neu (n_assign rfl rfl) rfl ?_; refine l_nil ?_
    refine k1 ?_
    refine c_sees (Sees.listB PatchHunk 3 phunkC 12 2 rfl rfl) ?_
    refine k10 ?_; refine k11 ?_
    exact ret_ret (rs := [pPatch patch0, pInt 120]) (retc2 rfl rfl rfl rfl rfl rfl rfl) (by rw [hmk, if_pos h])
  simp only [notB, or_pick] at ht
  have h := of_decide_eq_false ht
  rw [if_neg h] at hmk
  have hn1 : nameOk on = true := by cases q : nameOk on <;> simp [q] at h ⊢
  have hn2 : nameOk nn = true := by cases q : nameOk nn <;> simp [q] at h ⊢
  refine k5 ?_; refine k1 ?_; refine k2 ?_
  refine c_region ?_; refine l_neu (n_move rfl rfl) rfl ?_; refine l_call (rsplit_ok a (by omega)) rfl rfl rfl ?_; rintro _ rfl; refine l_neu (n_move rfl rfl) rfl ?_; refine l_neu (n_extract rfl rfl) rfl ?_; refine l_neu (n_extract rfl rfl) rfl ?_; refine l_neu (n_assign rfl rfl) rfl ?_; refine l_neu (n_assign rfl rfl) rfl ?_; refine l_nil ?_
  rw [hsa]
  refine k1 ?_; refine k2 ?_; refine k2 ?_
  refine c_region ?_; refine l_neu (n_move rfl rfl) rfl ?_; refine l_neu (n_neq rfl rfl) rfl ?_; refine l_nil ?_
  refine k1 ?_
  refine c_cond rfl (fun ht => ?_) (fun ht => ?_)
  · cases ht
  refine k5 ?_; refine k1 ?_; refine k2 ?_
  refine c_region ?_; refine l_neu (n_move rfl rfl) rfl ?_; refine l_call (rsplit_ok b (by omega)) rfl rfl rfl ?_; rintro _ rfl; refine l_neu (n_move rfl rfl) rfl ?_; refine l_neu (n_extract rfl rfl) rfl ?_; refine l_neu (n_extract rfl rfl) rfl ?_; refine l_neu (n_assign rfl rfl) rfl ?_; refine l_neu (n_assign rfl rfl) rfl ?_; refine l_nil ?_
  rw [hsb]
  refine k1 ?_; refine k2 ?_; refine k2 ?_
  refine c_region ?_; refine l_neu (n_move rfl rfl) rfl ?_; refine l_neu (n_neq rfl rfl) rfl ?_; refine l_nil ?_
  refine k1 ?_
  refine c_cond rfl (fun ht => ?_) (fun ht => ?_)
  · cases ht
  refine k5 ?_; refine k1 ?_; refine k2 ?_
  refine c_region ?_; refine l_neu (n_move rfl rfl) rfl ?_; refine l_neu (n_move rfl rfl) rfl ?_; refine l_call (rlines9_ok x y hxl hyl) rfl rfl rfl ?_; rintro _ rfl; refine l_neu (n_assign rfl rfl) rfl ?_; refine l_nil ?_
  rw [show walkOf (idsOf (namesOf [x, y]) x) (idsOf (namesOf [x, y]) y) = scriptOf x y from rfl]
  refine then_normal ?_
  refine c_cut [(0, sStr on), (1, sStr nn), (4, sInt ctx), (5, sVal (.bool d)), (12, .s (.one (.ref 12 0))), (14, sList Str 1 strC x), (16, sList Str 1 strC y), (17, sList Change 4 changeC (scriptOf x y))] [(12, .box [.p (.v (.string ⟨#[]⟩)), .p (.v (.string ⟨#[]⟩)), .p (.v (.slice none 0 0))])] (Sees.of ⟨le1 rfl, le1 rfl, le1 rfl, le1 rfl, le1 rfl, le1 rfl, le1 rfl, le1 rfl, trivial⟩ ⟨rfl, trivial⟩) ?_
  refine c_join [(0, sStr on), (1, sStr nn), (4, sInt ctx), (12, .s (.one (.ref 12 0))), (14, sList Str 1 strC x), (16, sList Str 1 strC y), (17, sList Change 4 changeC l)] [(12, .box [.p (.v (.string ⟨#[]⟩)), .p (.v (.string ⟨#[]⟩)), .p (.v (.slice none 0 0))])] ?_ ?_
  · refine k2 ?_
    refine c_region ?_; refine l_neu (n_move rfl rfl) rfl ?_; refine l_nil ?_
    refine k1 ?_
    refine c_cond rfl (fun ht => ?_) (fun ht => ?_)
    · have hd : d = true := ht
      have hl2 : l = downOf (scriptOf x y) (idsOf (namesOf [x, y]) x) (idsOf (namesOf [x, y]) y) := by rw [hl, hd]; rfl
      refine k2 ?_
      refine c_region ?_; refine l_neu (n_move rfl rfl) rfl ?_; refine l_neu (n_move rfl rfl) rfl ?_; refine l_neu (n_buildSlice (c := strsC) (ys := [x, y]) (asm_cons rfl rfl rfl rfl (asm_cons rfl rfl rfl rfl asm_nil)) rfl rfl rfl) rfl ?_; refine l_call (ids_ok [x, y] (by simp; omega) (by simp)) rfl rfl rfl ?_; rintro _ rfl; refine l_neu (n_assign rfl rfl) rfl ?_; refine l_nil ?_
      refine k1 ?_
      refine c_region_draw (by kernel_rfl) (by kernel_rfl) ?_; refine d_neu (n_move rfl rfl) rfl rfl ?_; refine d_neu (n_move rfl rfl) rfl rfl ?_; refine d_neu (n_indexAddr rfl (.pure _ _ _ _) rfl (by omega) (show ([x, y].map (idsOf (namesOf [x, y])))[(0 : Int).toNat]? = some (idsOf (namesOf [x, y]) x) from rfl)) rfl rfl ?_; refine d_neu (n_load_eref rfl rfl) rfl rfl ?_; refine d_neu (n_move rfl rfl) rfl rfl ?_; refine d_neu (n_indexAddr rfl (.pure _ _ _ _) rfl (by omega) (show ([x, y].map (idsOf (namesOf [x, y])))[(1 : Int).toNat]? = some (idsOf (namesOf [x, y]) y) from rfl)) rfl rfl ?_; refine d_neu (n_load_eref rfl rfl) rfl rfl ?_; refine d_neu (n_call1 (rDown10_ok x y (namesOf [x, y]) (scriptOf x y) hs0 (by omega) hxm hym) rfl rfl) rfl rfl ?_; refine d_neu (n_move rfl rfl) rfl rfl ?_; refine d_neu (n_extract rfl rfl) rfl rfl ?_; refine d_neu (n_extract rfl rfl) rfl rfl ?_; refine d_neu (n_assign rfl rfl) rfl rfl ?_; refine d_nil ?_
      rw [← hl2]
      refine k1 ?_
      exact Sees.of ⟨le1 rfl, le1 rfl, le1 rfl, le1 rfl, le1 rfl, le1 rfl, le1 rfl, trivial⟩ ⟨rfl, trivial⟩
    · have hd : d = false := ht
      have hl2 : l = scriptOf x y := by rw [hl, hd]; rfl
      rw [← hl2]
      refine k5 ?_; refine k1 ?_
      exact Sees.of ⟨le1 rfl, le1 rfl, le1 rfl, le1 rfl, le1 rfl, le1 rfl, le1 rfl, trivial⟩ ⟨rfl, trivial⟩
  refine k2 ?_
  refine c_region ?_; refine l_neu (n_move rfl rfl) rfl ?_; refine l_neu (n_move rfl rfl) rfl ?_; refine l_neu (n_len rfl (.pure _ _ _ _)) rfl ?_; refine l_neu (n_move rfl rfl) rfl ?_; refine l_neu (n_len rfl (.pure _ _ _ _)) rfl ?_; refine l_neu (n_move rfl rfl) rfl ?_; refine l_call (group_walk l x.length y.length ctx (by omega)) rfl rfl rfl ?_; rintro _ rfl; refine l_neu (n_move rfl rfl) rfl ?_; refine l_neu (n_extract rfl rfl) rfl ?_; refine l_neu (n_extract rfl rfl) rfl ?_; refine l_neu (n_assign rfl rfl) rfl ?_; refine l_neu (n_assign rfl rfl) rfl ?_; refine l_nil ?_
  refine k1 ?_; refine k2 ?_; refine k2 ?_
  by_cases hcx : ctx < 0 ∨ 1048576 < ctx
  · rw [group_err hcx]
    refine c_region ?_; refine l_neu (n_move rfl rfl) rfl ?_; refine l_neu (n_neq rfl rfl) rfl ?_; refine l_nil ?_
    refine k1 ?_
    refine c_cond rfl (fun ht => ?_) (fun ht => ?_)
    · refine k2 ?_
      refine c_region ?_; refine l_neu (n_build rfl) rfl ?_; refine l_neu (n_move rfl rfl) rfl ?_; refine l_eff (e_store_ref TySz.out rfl rfl rfl rfl rfl rfl) ?_; refine l_neu (n_assign rfl rfl) rfl ?_; refine l_nil ?_
      refine k1 ?_
      refine c_sees (Sees.listB PatchHunk 3 phunkC 12 2 rfl rfl) ?_
      refine k10 ?_; refine k11 ?_
      exact ret_ret (rs := [pPatch patch0, pInt 3]) (retc2 rfl rfl rfl rfl rfl rfl rfl) (by rw [hmk, if_pos hcx])
    · cases ht
  rw [group_fit hdf hcx]
  rw [if_neg hcx] at hmk
  have hmd := made12_is on nn a b l ctx hn1 hn2 hcx ha hb (by rw [← hx, ← hy]; exact hdf)
  have hsc := hdf.ok
  have hgo := groupTo_ok hdf.ok (by omega) (ctx := ctx) l.length (Nat.le_refl _)
  have hgl := (groupTo_len l x.length ctx l.length).1
  have hho : hunksOf l x y ctx = (groupTo l x.length ctx l.length).map (hunkOfG l x y) := rfl
  obtain ⟨g, hg⟩ : ∃ g, g = groupTo l x.length ctx l.length := ⟨_, rfl⟩
  have hscl := hdl
  rw [← hg] at hgo hgl hho ⊢
  refine c_region ?_; refine l_neu (n_move rfl rfl) rfl ?_; refine l_neu (n_neq rfl rfl) rfl ?_; refine l_nil ?_
  refine k1 ?_
  refine c_cond rfl (fun ht => ?_) (fun ht => ?_)
  · cases ht
  refine c_cut [(0, sStr on), (1, sStr nn), (12, .s (.one (.ref 12 0))), (14, sList Str 1 strC x), (16, sList Str 1 strC y), (17, sList Change 4 changeC l), (19, sList Hunk 6 hunkC g)] [(12, .box [.p (.v (.string ⟨#[]⟩)), .p (.v (.string ⟨#[]⟩)), .p (.v (.slice none 0 0))])] (Sees.of ⟨le1 rfl, le1 rfl, le1 rfl, le1 rfl, le1 rfl, le1 rfl, le1 rfl, trivial⟩ ⟨rfl, trivial⟩) ?_
  refine k5 ?_; refine k1 ?_; refine k2 ?_
  refine c_region ?_; refine l_neu (n_move rfl rfl) rfl ?_; refine l_neu (n_move rfl rfl) rfl ?_; refine l_neu (n_build rfl) rfl ?_; refine l_effv (f_alloc 20 rfl) rfl ?_; refine l_eff (e_store_ref TySz.out rfl rfl rfl rfl rfl rfl) ?_; refine l_nil ?_
  refine k1 ?_; refine k2 ?_; refine k2 ?_
  refine c_sees (Sees.adoptB 702 PatchHunk 3 phunkC 29 (kb := 20) (o := 2) rfl rfl rfl) ?_
  skip
  refine c_region ?_; refine l_neu (n_assign rfl rfl) rfl ?_; refine l_nil ?_
  refine k1 ?_; refine k3 ?_
  refine c_while (X := Nat) (fun k => ([(12, .s (.one (.ref 12 0))), (14, sList Str 1 strC x), (16, sList Str 1 strC y), (17, sList Change 4 changeC l), (19, sList Hunk 6 hunkC g), (20, .s (.one (.ref 20 0))), (21, sInt k)], [(12, .box [.p (.v (.string ⟨#[]⟩)), .p (.v (.string ⟨#[]⟩)), .p (.v (.slice none 0 0))]), (20, .box [.p (.v (.string ⟨on.toArray⟩)), .p (.v (.string ⟨nn.toArray⟩)), .buf 702 PatchHunk 3 phunkC ((g.take k).map (hunkOfG l x y))]), (702, .spare (((g.take k).map (hunkOfG l x y))).length 3 29)])) (fun k => k ≤ g.length) (fun k => g.length - k) 0 (Nat.zero_le _) (Sees.of ⟨le1 rfl, le1 rfl, le1 rfl, le1 rfl, le1 rfl, le1 rfl, le1 rfl, trivial⟩ ⟨rfl, rfl, rfl, trivial⟩) ?_
  intro k hk
  dsimp only at hk ⊢
  refine k2 ?_; refine k2 ?_
  refine c_region ?_; refine l_neu (n_move rfl rfl) rfl ?_; refine l_neu (n_move rfl rfl) rfl ?_; refine l_neu (n_len rfl (.pure _ _ _ _)) rfl ?_; refine l_neu (n_lss rfl rfl) rfl ?_; refine l_nil ?_
  refine k1 ?_
  refine c_cond rfl (fun ht => ?_) (fun ht => ?_)
  · have hlt : k < g.length := by have := of_decide_eq_true ht; omega
    have hv : g[k]? = some g[k] := by simp [hlt]
    have hq := hgo _ (List.getElem_mem hlt)
    have htk : (g.take (k + 1)).map (hunkOfG l x y) = (g.take k).map (hunkOfG l x y) ++ [hunkOfG l x y g[k]] := by rw [List.take_succ_eq_append_getElem hlt, List.map_append]; rfl
    obtain ⟨q, hqe⟩ : ∃ q, q = g[k] := ⟨_, rfl⟩
    rw [← hqe] at hv hq htk
    obtain ⟨hs, hhs⟩ : ∃ hs, hs = (g.take k).map (hunkOfG l x y) := ⟨_, rfl⟩
    have hhl : hs.length = k := by rw [hhs, List.length_map, List.length_take]; omega
    rw [← hhs] at htk ⊢
    obtain ⟨a, b, q1, q2, q3, q4, q5, q6, q7, q8, q9, q10⟩ := hq
    have hgb := hsc.get b q4
    refine k5 ?_; refine k1 ?_; refine k2 ?_; refine k3 ?_; refine k2 ?_
    refine c_region_alloc 13 22 (by kernel_rfl) (by kernel_rfl) rfl rfl rfl ?_; refine b_neu (n_move rfl rfl) rfl (n_move rfl rfl) ?_; refine b_neu (n_move rfl rfl) rfl (n_move rfl rfl) ?_; refine b_neu (n_indexAddr rfl (.pure _ _ _ _) rfl (by omega) hv) rfl (n_indexAddr rfl (.pure _ _ _ _) rfl (by omega) hv) ?_; refine b_neu (n_field_eref rfl) rfl (n_field_eref rfl) ?_; refine b_neu (n_field_eref rfl) rfl (n_field_eref rfl) ?_; refine b_neu (n_load_eref rfl rfl) rfl (n_load_eref rfl rfl) ?_; refine b_neu (n_move rfl rfl) rfl (n_move rfl rfl) ?_; refine b_neu (n_move rfl rfl) rfl (n_move rfl rfl) ?_; refine b_neu (n_indexAddr rfl (.pure _ _ _ _) rfl (by omega) hv) rfl (n_indexAddr rfl (.pure _ _ _ _) rfl (by omega) hv) ?_; refine b_neu (n_field_eref rfl) rfl (n_field_eref rfl) ?_; refine b_neu (n_field_eref rfl) rfl (n_field_eref rfl) ?_; refine b_neu (n_load_eref rfl rfl) rfl (n_load_eref rfl rfl) ?_; refine b_neu (n_build rfl) rfl (n_build rfl) ?_; refine b_nil rfl ?_; refine d_eff (e_store_ref TySz.out rfl rfl rfl rfl rfl rfl) rfl ?_; refine d_nil ?_
    refine k1 ?_; refine k2 ?_
    refine c_sees (Sees.adoptB 701 PatchLine 2 plineC 36 (kb := 22) (o := 2) rfl rfl rfl) ?_
    refine c_region ?_; refine l_neu (n_field_ref rfl) rfl ?_; refine l_neu (n_load_ref rfl rfl rfl) rfl ?_; refine l_neu (n_assign rfl rfl) rfl ?_; refine l_nil ?_
    refine k1 ?_; refine k2 ?_; refine k2 ?_
    refine c_region ?_; refine l_neu (n_move rfl rfl) rfl ?_; refine l_neu (n_move rfl rfl) rfl ?_; refine l_neu (n_indexAddr rfl (.pure _ _ _ _) rfl (by omega) hv) rfl ?_; refine l_neu (n_field_eref rfl) rfl ?_; refine l_neu (n_load_eref rfl rfl) rfl ?_; refine l_neu (n_assign rfl rfl) rfl ?_; refine l_nil ?_
    refine k1 ?_; refine k3 ?_
    refine c_while (X := Nat) (fun t => ([(12, .s (.one (.ref 12 0))), (14, sList Str 1 strC x), (16, sList Str 1 strC y), (17, sList Change 4 changeC l), (19, sList Hunk 6 hunkC g), (20, .s (.one (.ref 20 0))), (21, sInt k), (22, .s (.one (.ref 22 0))), (23, sInt (posTo l q.Old.From a t)), (24, sInt ((a + t : Nat) : Int))], [(12, .box [.p (.v (.string ⟨#[]⟩)), .p (.v (.string ⟨#[]⟩)), .p (.v (.slice none 0 0))]), (20, .box [.p (.v (.string ⟨on.toArray⟩)), .p (.v (.string ⟨nn.toArray⟩)), .buf 702 PatchHunk 3 phunkC hs]), (702, .spare (hs).length 3 29), (22, .box [.p (.v (.int .i64 q.Old.From)), .p (.v (.int .i64 q.New.From)), .buf 701 PatchLine 2 plineC (madeTo l x y q.Old.From a t)]), (701, .spare (madeTo l x y q.Old.From a t).length 2 36)])) (fun t => a + t ≤ b + 1) (fun t => b + 1 - (a + t)) 0 (by omega) ?_ ?_
    · have e1 : posTo l q.Old.From a 0 = q.Old.From := if_pos rfl
      rw [e1, show ((a + 0 : Nat) : Int) = q.First by rw [q1]; simp]
      exact Sees.of ⟨le1 rfl, le1 rfl, le1 rfl, le1 rfl, le1 rfl, le1 rfl, le1 rfl, le1 rfl, le1 rfl, le1 rfl, trivial⟩ ⟨rfl, rfl, rfl, rfl, rfl, trivial⟩
    intro t hat
    dsimp only at hat ⊢
    have hml := madeTo_len l x y q.Old.From a t
    have hml2 : (madeTo l x y q.Old.From a t).length ≤ 4097 * 12288 := Nat.le_trans hml (Nat.mul_le_mul (by omega) (by omega))
    refine k2 ?_; refine k2 ?_
    refine c_region ?_; refine l_neu (n_move rfl rfl) rfl ?_; refine l_neu (n_move rfl rfl) rfl ?_; refine l_neu (n_move rfl rfl) rfl ?_; refine l_neu (n_indexAddr rfl (.pure _ _ _ _) rfl (by omega) hv) rfl ?_; refine l_neu (n_field_eref rfl) rfl ?_; refine l_neu (n_load_eref rfl rfl) rfl ?_; refine l_neu (n_lss rfl rfl) rfl ?_; refine l_nil ?_
    refine k1 ?_
    refine c_cond rfl (fun ht => ?_) (fun ht => ?_)
    · have hlt2 : a + t ≤ b := by have : ((a + t : Nat) : Int) < q.Last := of_decide_eq_true ht; omega
      obtain ⟨c, hc⟩ : ∃ c, c = cAt l (a + t) := ⟨_, rfl⟩
      have hcv : l[((a + t : Nat) : Int).toNat]? = some c := by rw [hc]; exact cAt_get (by omega)
      have hgc := hsc.get (a + t) (by omega)
      rw [← hc] at hgc
      obtain ⟨⟨g1, g2⟩, ⟨g3, g4⟩, ⟨g5, g6⟩, ⟨g7, g8⟩, g9, g10⟩ := hgc
      obtain ⟨i0, hi0⟩ : ∃ i0, i0 = posTo l q.Old.From a t := ⟨_, rfl⟩
      have hpos : 0 ≤ i0 ∧ i0 ≤ c.Old := by
        rw [hi0, hc]; unfold posTo endC
        split
        · rename_i h0; subst h0; exact ⟨q5, q6⟩
        · have h4 := hsc.next (a + t - 1) (by omega)
          have h5 := hsc.get (a + t - 1) (by omega)
          rw [show a + t - 1 + 1 = a + t by omega] at h4
          unfold in81 at h5; omega
      obtain ⟨ls, hls⟩ : ∃ ls, ls = madeTo l x y q.Old.From a t := ⟨_, rfl⟩
      obtain ⟨p1, hp1⟩ : ∃ p1, p1 = putOf 32 (sub x i0 c.Old) := ⟨_, rfl⟩
      obtain ⟨p2, hp2⟩ : ∃ p2, p2 = putOf 45 (sub x c.Old (endC c)) := ⟨_, rfl⟩
      obtain ⟨p3, hp3⟩ : ∃ p3, p3 = putOf 43 (sub y c.New (c.New + c.NewLen)) := ⟨_, rfl⟩
      have hsucc : madeTo l x y q.Old.From a (t + 1) = ls ++ p1 ++ p2 ++ p3 := by rw [hls, hp1, hp2, hp3, hi0, hc]; rfl
      have hps : posTo l q.Old.From a (t + 1) = endC c := by rw [posTo_succ, hc]
      have l1 := sub_len x i0 c.Old
      have l2 := sub_len x c.Old (endC c)
      have l3 := sub_len y c.New (c.New + c.NewLen)
      have m1 : p1.length = (sub x i0 c.Old).length := by rw [hp1, putOf_len]
      have m2 : p2.length = (sub x c.Old (endC c)).length := by rw [hp2, putOf_len]
      have hend : endC c = c.Old + c.OldLen := rfl
      rw [← hls] at hml2 ⊢
      rw [← hi0]
      refine k5 ?_; refine k1 ?_; refine k2 ?_; refine k3 ?_; refine k2 ?_
      refine c_region_turn 10 (by kernel_rfl) (by kernel_rfl) rfl ?_; refine d_neu (n_field_ref rfl) rfl rfl ?_; refine d_neu (n_load_ref rfl rfl rfl) rfl rfl ?_; refine d_neu (n_move rfl rfl) rfl rfl ?_; refine d_neu (n_move rfl rfl) rfl rfl ?_; refine d_neu (n_move rfl rfl) rfl rfl ?_; refine d_neu (n_move rfl rfl) rfl rfl ?_; refine d_neu (n_indexAddr rfl (.pure _ _ _ _) rfl (by omega) hcv) rfl rfl ?_; refine d_neu (n_field_eref rfl) rfl rfl ?_; refine d_neu (n_load_eref rfl rfl) rfl rfl ?_; refine d_neu (n_slice_lh rfl (.pure _ _ _ _) rfl rfl (by omega) (by omega) (by omega)) rfl rfl ?_; refine d_nil ?_; refine met_step (rput_met ls 32 (sub x i0 c.Old) rfl (by omega)) rfl rfl rfl ?_; rintro _ _ ⟨rfl, rfl⟩; refine ⟨_, rfl, ?_⟩; refine d_neu (n_field_ref rfl) rfl rfl ?_; refine d_eff (e_store_ref TySz.out rfl rfl rfl rfl rfl rfl) rfl ?_; refine d_nil ?_
      rw [← hp1]
      refine k1 ?_; refine k2 ?_
      refine c_region_draw (by kernel_rfl) (by kernel_rfl) ?_; refine d_neu (n_move rfl rfl) rfl rfl ?_; refine d_neu (n_move rfl rfl) rfl rfl ?_; refine d_neu (n_indexAddr rfl (.pure _ _ _ _) rfl (by omega) hcv) rfl rfl ?_; refine d_neu (n_field_eref rfl) rfl rfl ?_; refine d_neu (n_load_eref rfl rfl) rfl rfl ?_; refine d_neu (n_move rfl rfl) rfl rfl ?_; refine d_neu (n_move rfl rfl) rfl rfl ?_; refine d_neu (n_indexAddr rfl (.pure _ _ _ _) rfl (by omega) hcv) rfl rfl ?_; refine d_neu (n_field_eref rfl) rfl rfl ?_; refine d_neu (n_load_eref rfl rfl) rfl rfl ?_; refine d_neu (n_add rfl rfl (by omega)) rfl rfl ?_; refine d_neu (n_assign rfl rfl) rfl rfl ?_; refine d_nil ?_
      rw [show c.Old + c.OldLen = endC c from rfl]
      refine k1 ?_; refine k2 ?_
      refine c_region_turn 10 (by kernel_rfl) (by kernel_rfl) rfl ?_; refine d_neu (n_field_ref rfl) rfl rfl ?_; refine d_neu (n_load_ref rfl rfl rfl) rfl rfl ?_; refine d_neu (n_move rfl rfl) rfl rfl ?_; refine d_neu (n_move rfl rfl) rfl rfl ?_; refine d_neu (n_move rfl rfl) rfl rfl ?_; refine d_neu (n_indexAddr rfl (.pure _ _ _ _) rfl (by omega) hcv) rfl rfl ?_; refine d_neu (n_field_eref rfl) rfl rfl ?_; refine d_neu (n_load_eref rfl rfl) rfl rfl ?_; refine d_neu (n_move rfl rfl) rfl rfl ?_; refine d_neu (n_slice_lh rfl (.pure _ _ _ _) rfl rfl (by omega) (by omega) (by omega)) rfl rfl ?_; refine d_nil ?_; refine met_step (rput_met (ls ++ p1) 45 (sub x c.Old (endC c)) rfl (by simp only [List.length_append]; omega)) rfl rfl rfl ?_; rintro _ _ ⟨rfl, rfl⟩; refine ⟨_, rfl, ?_⟩; refine d_neu (n_field_ref rfl) rfl rfl ?_; refine d_eff (e_store_ref TySz.out rfl rfl rfl rfl rfl rfl) rfl ?_; refine d_nil ?_
      rw [← hp2]
      refine k1 ?_
      refine c_region_turn 20 (by kernel_rfl) (by kernel_rfl) rfl ?_; refine d_neu (n_field_ref rfl) rfl rfl ?_; refine d_neu (n_load_ref rfl rfl rfl) rfl rfl ?_; refine d_neu (n_move rfl rfl) rfl rfl ?_; refine d_neu (n_move rfl rfl) rfl rfl ?_; refine d_neu (n_move rfl rfl) rfl rfl ?_; refine d_neu (n_indexAddr rfl (.pure _ _ _ _) rfl (by omega) hcv) rfl rfl ?_; refine d_neu (n_field_eref rfl) rfl rfl ?_; refine d_neu (n_load_eref rfl rfl) rfl rfl ?_; refine d_neu (n_move rfl rfl) rfl rfl ?_; refine d_neu (n_move rfl rfl) rfl rfl ?_; refine d_neu (n_indexAddr rfl (.pure _ _ _ _) rfl (by omega) hcv) rfl rfl ?_; refine d_neu (n_field_eref rfl) rfl rfl ?_; refine d_neu (n_load_eref rfl rfl) rfl rfl ?_; refine d_neu (n_move rfl rfl) rfl rfl ?_; refine d_neu (n_move rfl rfl) rfl rfl ?_; refine d_neu (n_indexAddr rfl (.pure _ _ _ _) rfl (by omega) hcv) rfl rfl ?_; refine d_neu (n_field_eref rfl) rfl rfl ?_; refine d_neu (n_load_eref rfl rfl) rfl rfl ?_; refine d_neu (n_add rfl rfl (by omega)) rfl rfl ?_; refine d_neu (n_slice_lh rfl (.pure _ _ _ _) rfl rfl (by omega) (by omega) (by omega)) rfl rfl ?_; refine d_nil ?_; refine met_step (rput_met (ls ++ p1 ++ p2) 43 (sub y c.New (c.New + c.NewLen)) rfl (by simp only [List.length_append]; omega)) rfl rfl rfl ?_; rintro _ _ ⟨rfl, rfl⟩; refine ⟨_, rfl, ?_⟩; refine d_neu (n_field_ref rfl) rfl rfl ?_; refine d_eff (e_store_ref TySz.out rfl rfl rfl rfl rfl rfl) rfl ?_; refine d_nil ?_
      rw [← hp3]
      refine k4 ?_; refine k1 ?_
      refine c_region ?_; refine l_neu (n_move rfl rfl) rfl ?_; refine l_neu (n_add rfl rfl (by omega)) rfl ?_; refine l_neu (n_assign rfl rfl) rfl ?_; refine l_nil ?_
      refine k1 ?_
      refine ⟨t + 1, by omega, by omega, ?_⟩
      rw [hsucc, hps, show ((a + (t + 1) : Nat) : Int) = ((a + t : Nat) : Int) + 1 by omega]
      exact Sees.of ⟨le1 rfl, le1 rfl, le1 rfl, le1 rfl, le1 rfl, le1 rfl, le1 rfl, le1 rfl, le1 rfl, le1 rfl, trivial⟩ ⟨rfl, rfl, rfl, rfl, rfl, trivial⟩
    · have htb : a + t = b + 1 := by
        have h0 : ¬ ((a + t : Nat) : Int) < q.Last := of_decide_eq_false ht
        omega
      obtain ⟨i0, hi0⟩ : ∃ i0, i0 = posTo l q.Old.From a t := ⟨_, rfl⟩
      have hib : i0 = (cAt l b).Old + (cAt l b).OldLen := by
        rw [hi0]; unfold posTo endC
        rw [if_neg (by omega), show a + t - 1 = b by omega]
      unfold in81 at hgb
      obtain ⟨ls, hls⟩ : ∃ ls, ls = madeTo l x y q.Old.From a t := ⟨_, rfl⟩
      have hG : hunkOfG l x y q = ⟨q.Old.From, q.New.From, ls ++ putOf 32 (sub x i0 q.Old.To)⟩ := by
        rw [hunkOfG, q1, q2, show ((a : Nat) : Int).toNat = a by omega, show ((b : Int) + 1).toNat - a = t by omega, ← hls, ← hi0]
      have l1 := sub_len x i0 q.Old.To
      have hgn : g.length ≤ l.length := hgl
      rw [← hls] at hml2 ⊢
      rw [← hi0]
      refine k6 ?_; refine k2 ?_
      refine c_region_turn 11 (by kernel_rfl) (by kernel_rfl) rfl ?_; refine d_neu (n_field_ref rfl) rfl rfl ?_; refine d_neu (n_load_ref rfl rfl rfl) rfl rfl ?_; refine d_neu (n_move rfl rfl) rfl rfl ?_; refine d_neu (n_move rfl rfl) rfl rfl ?_; refine d_neu (n_move rfl rfl) rfl rfl ?_; refine d_neu (n_move rfl rfl) rfl rfl ?_; refine d_neu (n_indexAddr rfl (.pure _ _ _ _) rfl (by omega) hv) rfl rfl ?_; refine d_neu (n_field_eref rfl) rfl rfl ?_; refine d_neu (n_field_eref rfl) rfl rfl ?_; refine d_neu (n_load_eref rfl rfl) rfl rfl ?_; refine d_neu (n_slice_lh rfl (.pure _ _ _ _) rfl rfl (by omega) (by omega) (by omega)) rfl rfl ?_; refine d_nil ?_; refine met_step (rput_met ls 32 (sub x i0 q.Old.To) rfl (by omega)) rfl rfl rfl ?_; rintro _ _ ⟨rfl, rfl⟩; refine ⟨_, rfl, ?_⟩; refine d_neu (n_field_ref rfl) rfl rfl ?_; refine d_eff (e_store_ref TySz.out rfl rfl rfl rfl rfl rfl) rfl ?_; refine d_nil ?_
      refine k1 ?_
      refine c_region ?_; refine l_neu (n_field_ref rfl) rfl ?_; refine l_neu (n_load_ref rfl rfl rfl) rfl ?_; refine l_neu (n_loads_ref rfl rfl rfl) rfl ?_; refine l_neu (n_buildSlice (c := phunkC) (ys := [⟨q.Old.From, q.New.From, ls ++ putOf 32 (sub x i0 q.Old.To)⟩]) (asm_cons rfl rfl rfl rfl asm_nil) rfl rfl rfl) rfl ?_; refine l_effv (e_append rfl rfl rfl (.pure _ _ _ _) (by (simp only [List.length_cons, List.length_nil]; omega)) rfl) rfl ?_; refine l_neu (n_field_ref rfl) rfl ?_; refine l_eff (e_store_ref TySz.out rfl rfl rfl rfl rfl rfl) ?_; refine l_nil ?_
      rw [← hG, ← htk]
      refine k4 ?_; refine k1 ?_
      refine c_region ?_; refine l_neu (n_move rfl rfl) rfl ?_; refine l_neu (n_add rfl rfl (by omega)) rfl ?_; refine l_neu (n_assign rfl rfl) rfl ?_; refine l_nil ?_
      refine k1 ?_
      exact ⟨k + 1, by omega, by omega, Sees.of ⟨le1 rfl, le1 rfl, le1 rfl, le1 rfl, le1 rfl, le1 rfl, le1 rfl, trivial⟩ ⟨rfl, rfl, rfl, trivial⟩⟩
  · have hk' : k = g.length := by have := of_decide_eq_false ht; omega
    subst hk'
    rw [List.take_length, ← hho]
    have hsz := hmd.sz
    have hch := hmd.chk
    rw [← hx, ← hy] at hsz hch
    refine k6 ?_; refine k2 ?_; refine k2 ?_
    refine c_region ?_; refine l_neu (n_loads_ref rfl rfl rfl) rfl ?_; refine l_call (rcheck12_ok ⟨on, nn, hunksOf l x y ctx⟩ hsz) rfl rfl rfl ?_; rintro _ rfl; refine l_neu (n_assign rfl rfl) rfl ?_; refine l_nil ?_
    rw [hch]
    refine k1 ?_; refine k2 ?_
    refine c_region ?_; refine l_neu (n_move rfl rfl) rfl ?_; refine l_neu (n_neq rfl rfl) rfl ?_; refine l_nil ?_
    refine k1 ?_
    refine c_cond rfl (fun ht => ?_) (fun ht => ?_)
    · cases ht
    · refine k5 ?_; refine k1 ?_; refine k2 ?_
      refine c_region ?_; refine l_neu (n_loads_ref rfl rfl rfl) rfl ?_; refine l_eff (e_store_ref TySz.out rfl rfl rfl rfl rfl rfl) ?_; refine l_neu (n_assign rfl rfl) rfl ?_; refine l_nil ?_
      refine k1 ?_; refine k10 ?_
      exact ret_ret (rs := [pPatch ⟨on, nn, hunksOf l x y ctx⟩, pInt 0]) (retc2 rfl rfl rfl rfl rfl rfl rfl) (by rw [hmk])
end Go.Proofs.YtjjidificdmnmaaGreatDoor
namespace Go.Proofs.YtjjidificdmnmaaGreatDoor
open Go Go.AL
set_option maxRecDepth 100000
theorem check12_names {p : Patch} (h1 : check12 p = 0) : nameOk p.OldName = true ∧ nameOk p.NewName = true := by
  have h : ¬ (nameOk p.OldName = false ∨ nameOk p.NewName = false) := fun q => by
    unfold check12 at h1; rw [if_pos q] at h1; exact absurd h1 (by decide)
  exact ⟨by cases q : nameOk p.OldName <;> simp [q] at h ⊢, by cases q : nameOk p.NewName <;> simp [q] at h ⊢⟩
theorem uformat_ok (p : Patch) (hp : szP p.Hunks ≤ 268435456) : FnOk Tryz.prog 36 [pPatch p] (fun rs => rs = [pStr (if check12 p ≠ 0 then [] else writeOf p), pInt (check12 p)]) := by
  refine FnOk.intro Tryz.func36 (by decide) rfl rfl rfl rfl ?_
  refine k2 ?_
  refine c_region ?_; refine l_effv (f_box 1 rfl rfl rfl) rfl ?_; refine l_neu (n_assign rfl rfl) rfl ?_; refine l_neu (n_assign rfl rfl) rfl ?_; refine l_nil ?_
  refine k1 ?_; refine k2 ?_; refine k2 ?_
  refine c_region ?_; refine l_neu (n_loads_ref rfl rfl rfl) rfl ?_; refine l_call (ucheck_ok p hp) rfl rfl rfl ?_; rintro _ rfl; refine l_neu (n_assign rfl rfl) rfl ?_; refine l_nil ?_
  refine k1 ?_; refine k2 ?_
  refine c_region ?_; refine l_neu (n_move rfl rfl) rfl ?_; refine l_neu (n_neq rfl rfl) rfl ?_; refine l_nil ?_
  refine k1 ?_
  refine c_cond rfl (fun ht => ?_) (fun ht => ?_)
  · have h1 : check12 p ≠ 0 := of_decide_eq_true ht
    rw [if_pos h1]
    refine k2 ?_
    refine c_region ?_; refine l_neu (n_move rfl rfl) rfl ?_; refine l_neu (n_assign rfl rfl) rfl ?_; refine l_neu (n_assign rfl rfl) rfl ?_; refine l_nil ?_
    refine k1 ?_; refine k10 ?_; refine k11 ?_
    exact ret_ret (ret2 rfl rfl rfl rfl rfl) rfl
  · have h1 : ¬ check12 p ≠ 0 := of_decide_eq_false ht
    have hr := goodOf_range (check12_good h1)
    obtain ⟨hn1, hn2⟩ := check12_names (Decidable.not_not.1 h1)
    have hn3 := of_decide_eq_true hn1
    have hn4 := of_decide_eq_true hn2
    have hpf : PFit p := ⟨by omega, by omega, hp⟩
    rw [if_neg h1, Decidable.not_not.1 h1]
    refine k5 ?_; refine k1 ?_; refine k2 ?_
    refine c_region ?_; refine l_neu (n_loads_ref rfl rfl rfl) rfl ?_; refine l_call (uwritten_ok p hpf (fun x hx => by have := hr x hx; omega)) rfl rfl rfl ?_; rintro _ rfl; refine l_neu (n_assign rfl rfl) rfl ?_; refine l_neu (n_assign rfl rfl) rfl ?_; refine l_nil ?_
    refine k1 ?_; refine k10 ?_
    exact ret_ret (ret2 rfl rfl rfl rfl rfl) rfl
end Go.Proofs.YtjjidificdmnmaaGreatDoor
namespace Go.Proofs.YtjjidificdmnmaaGreatDoor
open Go Go.AL
set_option maxRecDepth 100000
theorem szP_app (a b : List PatchHunk) : szP (a ++ b) = szP a + szP b := by simp [szP]
theorem szL_app (a b : List PatchLine) : ((a ++ b).map szL).sum = (a.map szL).sum + (b.map szL).sum := by simp
theorem last_split {α : Type} {l : List α} {x : α} (h : l.getLast? = some x) : l = l.dropLast ++ [x] := by
  obtain ⟨ys, hy⟩ := List.getLast?_eq_some_iff.1 h
  rw [hy, List.dropLast_concat]
theorem trimS_len (t : Str) : (trimS t).length ≤ t.length := by
  unfold trimS; split
  · rw [List.length_dropLast]; omega
  · omega
theorem szP_last {hs : List PatchHunk} {h : PatchHunk} (hl : hs.getLast? = some h) : szP hs = szP hs.dropLast + szH h := by
  conv => lhs; rw [last_split hl, szP_app]
  simp [szP]
theorem step_sz {hs hs' : List PatchHunk} {l : Str} (h : stepP hs l = some hs') : szP hs' ≤ szP hs + l.length + 65 := by
  cases l with
  | nil => cases h
  | cons c r =>
    simp only [stepP] at h
    split at h
    · cases hh : headAt (c :: r) with
      | none => rw [hh] at h; cases h
      | some q =>
        obtain ⟨a, m, b, n⟩ := q
        rw [hh] at h
        have h : hs ++ [⟨a, b, []⟩] = hs' := Option.some.inj h
        rw [← h, szP_app]; simp [szP, szH]; omega
    · split at h
      · unfold addLine at h
        cases hl : hs.getLast? with
        | none => rw [hl] at h; cases h
        | some g =>
          rw [hl] at h
          have h : hs.dropLast ++ [⟨g.Old, g.New, g.Lines ++ [⟨c, r ++ [10]⟩]⟩] = hs' := Option.some.inj h
          rw [← h, szP_app, szP_last hl]
          simp [szP, szH, szL]; omega
      · split at h
        · unfold cutLine at h
          cases hl : hs.getLast? with
          | none => rw [hl] at h; cases h
          | some g =>
            rw [hl] at h
            dsimp only at h
            cases hx : g.Lines.getLast? with
            | none => rw [hx] at h; cases h
            | some x =>
              rw [hx] at h
              dsimp only at h
              split at h
              · have h : hs.dropLast ++ [⟨g.Old, g.New, g.Lines.dropLast ++ [⟨x.Kind, trimS x.Text⟩]⟩] = hs' := Option.some.inj h
                have ht := trimS_len x.Text
                have hg : szH g = 64 + ((g.Lines.dropLast.map szL).sum + szL x) := by
                  unfold szH
                  conv => lhs; rw [last_split hx, szL_app]
                  simp
                rw [← h, szP_app, szP_last hl, hg]
                simp [szP, szH, szL]; omega
              · cases h
        · cases h
def wTo60 (R : List Str) (k : Nat) : Nat := ((R.take k).map fun s => s.length + 65).sum
theorem wTo60_succ (R : List Str) (k : Nat) (x : Str) (h : R[k]? = some x) : wTo60 R (k + 1) = wTo60 R k + (x.length + 65) := by
  obtain ⟨hi, rfl⟩ := List.getElem?_eq_some_iff.1 h
  unfold wTo60
  rw [List.take_succ_eq_append_getElem hi, List.map_append, List.sum_append]; simp
theorem wTo60_le (R : List Str) (k : Nat) : wTo60 R k ≤ (R.map fun s => s.length + 65).sum := by
  unfold wTo60
  conv => rhs; rw [← List.take_append_drop k R, List.map_append, List.sum_append]
  omega
def objP (o n : Str) (hs : List PatchHunk) : Obs := match hs.getLast? with
  | some h => (match h.Lines with
    | [] => psShut o n hs
    | _ :: _ => psOpen o n hs h.Old h.New h.Lines)
  | none => psShut o n hs
section
variable {P : Program} {nt : Nat} {fr : Fr} {o n : Str} {hs : List PatchHunk}
theorem shutP {h : PatchHunk} (hf : frFree 732 fr = true) (hl : hs.getLast? = some h) (hne : h.Lines ≠ []) : Sees P nt fr (psOpen o n hs h.Old h.New h.Lines) fr (psShut o n hs) := by
  have h1 := Sees.freezeG (P := P) (nt := nt) (fr := fr) (ob := psOpen o n hs h.Old h.New h.Lines) (k := 732) rfl rfl
  rw [mapS_free hf] at h1
  refine h1.trans ?_
  have hset : hs.set (hs.length - 1) h = hs := by
    have h2 := last_split hl
    have hlen : hs.length - 1 = hs.dropLast.length := by rw [List.length_dropLast]
    conv => lhs; rw [hlen]; arg 1; rw [h2]
    rw [List.set_append_right _ _ (Nat.le_refl _), Nat.sub_self, List.set_cons_zero, ← h2]
  have h3 := Sees.closeA (P := P) (nt := nt) (fr := fr) (ob := Obs.mapO (Ob.freeze 732 PatchLine 2 plineC h.Lines) (Obs.drop 732 (psOpen o n hs h.Old h.New h.Lines))) 731 h rfl (by
    obtain ⟨a, b, ls⟩ := h
    cases ls with
    | nil => exact absurd rfl hne
    | cons x r => rfl)
  rw [hset] at h3
  refine h3.trans (Sees.fewer (ObIn.spec ⟨rfl, rfl, rfl, trivial⟩))
theorem openP {h : PatchHunk} (hf : frFree 732 fr = true) (hl : hs.getLast? = some h) (hne : h.Lines = []) : Sees P nt fr (psShut o n hs) fr (psOpen o n hs h.Old h.New []) := by
  have hv : hs[hs.length - 1]? = some h := by rw [← List.getLast?_eq_getElem?]; exact hl
  refine (Sees.openA 731 (hs.length - 1) (v := h) rfl hv).trans ?_
  have hcells : (cellsOf phunkN h 0 3).map TC.p = [.p (.v (.int .i64 h.Old)), .p (.v (.int .i64 h.New)), .p (.v (.slice none 0 0))] := by
    obtain ⟨a, b, ls⟩ := h
    have hne : ls = [] := hne
    subst hne; rfl
  rw [hcells]
  refine (Sees.adoptA 732 PatchLine 2 plineC 36 (kb := 731) (o := 2) rfl rfl (by rw [hf]; rfl)).trans ?_
  exact Sees.fewer (ObIn.spec ⟨rfl, rfl, rfl, rfl, trivial⟩)
theorem toShut (hf : frFree 732 fr = true) : Sees P nt fr (objP o n hs) fr (psShut o n hs) := by
  unfold objP
  cases hl : hs.getLast? with
  | none => exact Sees.fewer fun _ _ h => h
  | some h =>
    dsimp only
    cases hh : h.Lines with
    | nil => exact Sees.fewer fun _ _ h => h
    | cons x r =>
      dsimp only
      rw [← hh]
      exact shutP hf hl (by rw [hh]; simp)
theorem toOpen {h : PatchHunk} (hf : frFree 732 fr = true) (hl : hs.getLast? = some h) : Sees P nt fr (objP o n hs) fr (psOpen o n hs h.Old h.New h.Lines) := by
  unfold objP
  rw [hl]
  dsimp only
  cases hh : h.Lines with
  | nil => dsimp only; exact openP hf hl hh
  | cons x r => exact Sees.fewer fun _ _ h => h
theorem ofShut {a b : Int} : objP o n (hs ++ [⟨a, b, []⟩]) = psShut o n (hs ++ [⟨a, b, []⟩]) := by unfold objP; simp
theorem ofOpen {h : PatchHunk} {ls : List PatchLine} (hl : hs.getLast? = some h) (hne : ls ≠ []) : Sees P nt fr (psOpen o n hs h.Old h.New ls) fr (objP o n (hs.dropLast ++ [⟨h.Old, h.New, ls⟩])) := by
  have h2 := last_split hl
  have hlen : (hs.dropLast ++ [(⟨h.Old, h.New, ls⟩ : PatchHunk)]).length = hs.length := by
    conv => rhs; rw [h2]
    simp
  have hO : objP o n (hs.dropLast ++ [⟨h.Old, h.New, ls⟩]) = psOpen o n (hs.dropLast ++ [⟨h.Old, h.New, ls⟩]) h.Old h.New ls := by
    unfold objP
    cases ls with
    | nil => exact absurd rfl hne
    | cons x r => simp
  rw [hO]
  have h3 := Sees.reA (P := P) (nt := nt) (fr := fr) (ob := psOpen o n hs h.Old h.New ls) 731 (hs.dropLast ++ [⟨h.Old, h.New, ls⟩]) rfl hlen (by
    intro i hi
    have hd : hs.dropLast.length = hs.length - 1 := by rw [List.length_dropLast]
    rcases Nat.lt_or_ge i (hs.length - 1) with h4 | h4
    · rw [List.getElem?_append_left (by omega)]
      conv => rhs; rw [h2]
      rw [List.getElem?_append_left (by omega)]
    · rw [List.getElem?_eq_none (by omega), List.getElem?_eq_none (by omega)])
  rw [show (hs.length - 1) = (hs.dropLast ++ [(⟨h.Old, h.New, ls⟩ : PatchHunk)]).length - 1 by rw [hlen]] at h3
  exact h3.trans (Sees.fewer (ObIn.spec ⟨rfl, rfl, rfl, rfl, trivial⟩))
end
end Go.Proofs.YtjjidificdmnmaaGreatDoor
namespace Go.Proofs.YtjjidificdmnmaaGreatDoor
open Go Go.AL
set_option maxRecDepth 100000
def parseRes (f : List Str → Option Patch) (l : List Str) : List PV := match f l with
  | some p => [pPatch p, pBool true]
  | none => [pPatch patch0, pBool false]
theorem choose_64 : chooseF 64 = .func (.func 132) #[] #[] := rfl
theorem choose_txt {c : UInt8} (h : c = 32 ∨ c = 45 ∨ c = 43) : chooseF c = .func (.func 133) #[] #[] := by rcases h with rfl | rfl | rfl <;> rfl
theorem choose_92 : chooseF 92 = .func (.func 134) #[] #[] := rfl
theorem choose_no {c : UInt8} (h1 : c ≠ 64) (h2 : ¬ (c = 32 ∨ c = 45 ∨ c = 43)) (h3 : c ≠ 92) : chooseF c = .nilFunc := by
  unfold chooseF meths
  have e : ∀ d : UInt8, d ≠ c → decide (d = c) = false := fun d h => decide_eq_false h
  have a1 : (32 : UInt8) ≠ c := fun e => h2 (.inl e.symm)
  have a2 : (45 : UInt8) ≠ c := fun e => h2 (.inr (.inl e.symm))
  have a3 : (43 : UInt8) ≠ c := fun e => h2 (.inr (.inr e.symm))
  simp only [List.find?_cons, e _ (Ne.symm h1), e _ a1, e _ a2, e _ a3, e _ (Ne.symm h3), List.find?_nil]
theorem phunk_cell {x : PatchHunk} (j : Nat) (rd : Rd) (u : Value) (h : (phunkN x j).rep rd u) : (phunkC x j).rep rd u := by
  match j with
  | 0 => exact h
  | 1 => exact h
  | j + 2 =>
    obtain ⟨a, b, ls⟩ := x
    cases ls with
    | nil =>
      have h : (Cell.v (.slice none 0 0)).rep rd u := h
      obtain ⟨rfl, _⟩ := h
      exact rep_nil _ _ _
    | cons y r => exact h
set_option maxHeartbeats 2000000
theorem stparse_ok (l : List Str) (hw : (l.map fun s => s.length + 65).sum ≤ 134217728) (hsz : ∀ s ∈ l, s.length ≤ 4194304) : FnOk Tryz.prog 59 [pStrs l] (fun rs => rs = parseRes parseP l) := by
  have hll : 65 * l.length ≤ (l.map fun s => s.length + 65).sum := by
    clear hw hsz
    induction l with
    | nil => simp
    | cons x r ih => simp only [List.map_cons, List.sum_cons, List.length_cons]; omega
  by_cases hlen : l.length < 2
  · have hp : parseP l = none := by
      match l, hlen with
      | [], _ => rfl
      | [_], _ => rfl
    refine FnOk.intro Tryz.func59 (by decide) rfl rfl rfl rfl ?_
    refine k2 ?_
    refine c_region ?_; refine l_effv (f_alloc 2 rfl) rfl ?_; refine l_neu (n_assign rfl rfl) rfl ?_; refine l_nil ?_
    refine k1 ?_; refine k2 ?_; refine k2 ?_
    refine c_region ?_; refine l_neu (n_move rfl rfl) rfl ?_; refine l_neu (n_len rfl (.pure _ _ _ _)) rfl ?_; refine l_neu (n_lss rfl rfl) rfl ?_; refine l_nil ?_
    refine k1 ?_
    refine c_cond rfl (fun ht => ?_) (fun ht => ?_)
    rotate_left
    · exact absurd (by omega) (of_decide_eq_false ht)
    refine k2 ?_
    refine c_region ?_; refine l_neu (n_build rfl) rfl ?_; refine l_eff (e_store_ref TySz.out rfl rfl rfl rfl rfl rfl) ?_; refine l_neu (n_assign rfl rfl) rfl ?_; refine l_nil ?_
    refine k1 ?_
    refine c_sees (Sees.listB PatchHunk 3 phunkC 2 2 rfl rfl) ?_
    refine k10 ?_; refine k11 ?_
    exact ret_ret (rs := [pPatch patch0, pBool false]) (retc2 rfl rfl rfl rfl rfl rfl rfl) (by unfold parseRes; rw [hp])
  obtain ⟨l0, l1, R, rfl⟩ : ∃ a b r, l = a :: b :: r := by
    match l, hlen with
    | a :: b :: r, _ => exact ⟨a, b, r, rfl⟩
    | [], h => exact absurd (by simp) h
    | [_], h => exact absurd (by simp) h
  have z0 := hsz l0 (by simp)
  have z1 := hsz l1 (by simp)
  have hWR : (R.map fun s => s.length + 65).sum ≤ 134217728 := by simp only [List.map_cons, List.sum_cons] at hw; omega
  have hRl : R.length ≤ 134217728 := by simp only [List.length_cons] at hll; omega
  clear hw hll
  refine FnOk.intro Tryz.func59 (by decide) rfl rfl rfl rfl ?_
  refine k2 ?_
  refine c_region ?_; refine l_effv (f_alloc 2 rfl) rfl ?_; refine l_neu (n_assign rfl rfl) rfl ?_; refine l_nil ?_
  refine k1 ?_; refine k2 ?_; refine k2 ?_
  refine c_region ?_; refine l_neu (n_move rfl rfl) rfl ?_; refine l_neu (n_len rfl (.pure _ _ _ _)) rfl ?_; refine l_neu (n_lss rfl rfl) rfl ?_; refine l_nil ?_
  refine k1 ?_
  refine c_cond rfl (fun ht => ?_) (fun ht => ?_)
  · exact absurd (of_decide_eq_true ht) (by simp only [List.length_cons]; omega)
  refine k5 ?_; refine k1 ?_; refine k2 ?_
  refine c_region ?_; refine l_neu (n_build rfl) rfl ?_; refine l_effv (f_box 730 rfl rfl rfl) rfl ?_; refine l_neu (n_assign rfl rfl) rfl ?_; refine l_nil ?_
  refine k1 ?_; refine k2 ?_
  refine c_region ?_; refine l_neu (n_assign rfl rfl) rfl ?_; refine l_neu (n_assign rfl rfl) rfl ?_; refine l_nil ?_
  refine k1 ?_; refine k2 ?_
  refine c_region ?_; refine l_neu (n_move rfl rfl) rfl ?_; refine l_neu (n_move rfl rfl) rfl ?_; refine l_neu (n_indexAddr rfl (.pure _ _ _ _) rfl (by omega) (show (l0 :: l1 :: R)[(0 : Int).toNat]? = some l0 from rfl)) rfl ?_; refine l_neu (n_load_eref rfl rfl) rfl ?_; refine l_call (stname_ok l0 [45, 45, 45, 32] (by omega)) rfl rfl rfl ?_; rintro _ ⟨w0, b0, rfl, h0⟩; refine l_neu (n_move rfl rfl) rfl ?_; refine l_neu (n_extract rfl rfl) rfl ?_; refine l_neu (n_extract rfl rfl) rfl ?_; refine l_neu (n_nilCheck_ref rfl) rfl ?_; refine l_neu (n_field_ref rfl) rfl ?_; refine l_neu (n_field_ref rfl) rfl ?_; refine l_eff (e_store_ref TySz.out rfl rfl rfl rfl rfl rfl) ?_; refine l_neu (n_assign rfl rfl) rfl ?_; refine l_nil ?_
  refine k1 ?_; refine k2 ?_
  refine c_region ?_; refine l_neu (n_move rfl rfl) rfl ?_; refine l_neu (n_move rfl rfl) rfl ?_; refine l_neu (n_indexAddr rfl (.pure _ _ _ _) rfl (by omega) (show (l0 :: l1 :: R)[(1 : Int).toNat]? = some l1 from rfl)) rfl ?_; refine l_neu (n_load_eref rfl rfl) rfl ?_; refine l_call (stname_ok l1 [43, 43, 43, 32] (by omega)) rfl rfl rfl ?_; rintro _ ⟨w1, b1, rfl, h1⟩; refine l_neu (n_move rfl rfl) rfl ?_; refine l_neu (n_extract rfl rfl) rfl ?_; refine l_neu (n_extract rfl rfl) rfl ?_; refine l_neu (n_nilCheck_ref rfl) rfl ?_; refine l_neu (n_field_ref rfl) rfl ?_; refine l_neu (n_field_ref rfl) rfl ?_; refine l_eff (e_store_ref TySz.out rfl rfl rfl rfl rfl rfl) ?_; refine l_neu (n_assign rfl rfl) rfl ?_; refine l_nil ?_
  refine k1 ?_; refine k2 ?_; refine k2 ?_
  refine c_region ?_; refine l_neu (n_move rfl rfl) rfl ?_; refine l_neu (n_not rfl) rfl ?_; refine l_neu (n_move rfl rfl) rfl ?_; refine l_guard rfl rfl rfl rfl (fun hg => by rw [hg]; exact n_move rfl rfl) ?_; refine l_guard rfl rfl rfl rfl (fun hg => by rw [hg]; exact n_not rfl) ?_; refine l_neu (n_pick_bool rfl (fun h => by first | rfl | (rw [h]; rfl)) (fun h => by first | rfl | (rw [h]; rfl))) rfl ?_; refine l_nil ?_
  refine k1 ?_
  have hfail : nameAt l0 [45, 45, 45, 32] = none ∨ nameAt l1 [43, 43, 43, 32] = none → parseP (l0 :: l1 :: R) = none := by
    intro h
    unfold parseP
    rcases h with h | h
    · simp only [h]
    · simp only [h]
      cases nameAt l0 [45, 45, 45, 32] <;> rfl
  by_cases hnm : nameAt l0 [45, 45, 45, 32] = none ∨ nameAt l1 [43, 43, 43, 32] = none
  · refine c_cond rfl (fun ht => ?_) (fun ht => ?_)
    rotate_left
    · exfalso
      rcases hnm with h | h
      · rw [h] at h0; have h0 : b0 = false := h0; rw [h0] at ht; cases ht
      · rw [h] at h1; have h1 : b1 = false := h1; rw [h1] at ht; cases b0 <;> cases ht
    refine k2 ?_
    refine c_region ?_; refine l_neu (n_build rfl) rfl ?_; refine l_eff (e_store_ref TySz.out rfl rfl rfl rfl rfl rfl) ?_; refine l_neu (n_assign rfl rfl) rfl ?_; refine l_nil ?_
    refine k1 ?_
    refine c_sees (Sees.listB PatchHunk 3 phunkC 2 2 rfl rfl) ?_
    refine k10 ?_; refine k11 ?_
    exact ret_ret (rs := [pPatch patch0, pBool false]) (retc2 rfl rfl rfl rfl rfl rfl rfl) (by unfold parseRes; rw [hfail hnm])
  obtain ⟨o, ho⟩ : ∃ o, nameAt l0 [45, 45, 45, 32] = some o := by
    cases h : nameAt l0 [45, 45, 45, 32] with
    | none => exact absurd (.inl h) hnm
    | some o => exact ⟨o, rfl⟩
  obtain ⟨n, hn⟩ : ∃ n, nameAt l1 [43, 43, 43, 32] = some n := by
    cases h : nameAt l1 [43, 43, 43, 32] with
    | none => exact absurd (.inr h) hnm
    | some n => exact ⟨n, rfl⟩
  rw [ho] at h0
  rw [hn] at h1
  obtain ⟨rfl, rfl⟩ := h0
  obtain ⟨rfl, rfl⟩ := h1
  have hPs : ∀ hs, foldP [] R = some hs → [pPatch ⟨w0, w1, hs⟩, pBool true] = parseRes parseP (l0 :: l1 :: R) := by
    intro hs h
    have : parseP (l0 :: l1 :: R) = some ⟨w0, w1, hs⟩ := by unfold parseP; simp only [ho, hn, h]
    unfold parseRes; rw [this]
  have hnone : foldP [] R = none → [pPatch patch0, pBool false] = parseRes parseP (l0 :: l1 :: R) := by
    intro h
    have : parseP (l0 :: l1 :: R) = none := by unfold parseP; simp only [ho, hn, h]
    unfold parseRes; rw [this]
  refine c_cond rfl (fun ht => ?_) (fun ht => ?_)
  · cases ht
  refine k5 ?_; refine k1 ?_; refine k2 ?_; refine k2 ?_
  refine c_region ?_; refine l_neu (n_move rfl rfl) rfl ?_; refine l_neu (n_slice_l rfl (.pure _ _ _ _) rfl (by (first | omega | (simp only [List.length_cons]; omega))) (by (first | omega | (simp only [List.length_cons]; omega)))) rfl ?_; refine l_neu (n_len rfl (.pure _ _ _ _)) rfl ?_; refine l_neu (n_move rfl rfl) rfl ?_; refine l_nil ?_
  refine k1 ?_; refine k3 ?_
  refine c_sees (Sees.adoptBG 731 PatchHunk 3 phunkN 29 (kb := 730) (o := 2) rfl rfl rfl) ?_
  refine c_while (X := Nat × List PatchHunk) (fun x => ([(4, .s (.one (.ref 730 0))), (2, .s (.one (.ref 2 0))), (46, sList Str 1 strC R), (47, sInt R.length), (48, sInt x.1)], objP w0 w1 x.2)) (fun x => x.1 ≤ R.length ∧ szP x.2 ≤ wTo60 R x.1 ∧ foldP x.2 (R.drop x.1) = foldP [] R) (fun x => R.length - x.1) (0, []) ⟨Nat.zero_le _, by simp [szP], rfl⟩ (Sees.of ⟨le1 rfl, le1 rfl, le1 rfl, le1 rfl, le1 rfl, trivial⟩ ⟨rfl, rfl, rfl, trivial⟩) ?_
  rintro ⟨k, hs⟩ ⟨hk, hz, hf⟩
  dsimp only at hk hz hf ⊢
  have hzb := wTo60_le R k
  have hzb2 : szP hs ≤ 134217728 := by omega
  have hsl := szP_len hs
  refine k2 ?_
  refine c_region ?_; refine l_neu (n_lss rfl rfl) rfl ?_; refine l_nil ?_
  refine k1 ?_; refine k2 ?_
  refine c_cond rfl (fun ht => ?_) (fun ht => ?_)
  · have hlt : k < R.length := by have := of_decide_eq_true ht; omega
    obtain ⟨x, hx⟩ : ∃ x, x = R[k] := ⟨_, rfl⟩
    have hv : R[k]? = some x := by rw [hx]; simp [hlt]
    have hxz := hsz x (by simp [List.mem_of_getElem? hv])
    have hwk := wTo60_succ R k x hv
    rw [List.drop_eq_getElem_cons hlt, ← hx, foldP] at hf
    refine k5 ?_; refine k1 ?_; refine k2 ?_; refine k3 ?_; refine k2 ?_
    refine c_region ?_; refine l_neu (n_indexAddr rfl (.pure _ _ _ _) rfl (by omega) hv) rfl ?_; refine l_neu (n_load_eref rfl rfl) rfl ?_; refine l_neu (n_assign rfl rfl) rfl ?_; refine l_nil ?_
    refine k1 ?_; refine k2 ?_; refine k2 ?_
    refine c_region ?_; refine l_neu (n_move rfl rfl) rfl ?_; refine l_neu (n_eql_s rfl rfl) rfl ?_; refine l_nil ?_
    refine k1 ?_
    refine c_cond rfl (fun ht => ?_) (fun ht => ?_)
    · have h0 : x = [] := of_decide_eq_true ht
      subst h0
      have hf : none = foldP [] R := hf
      refine k2 ?_
      refine c_sees (toShut rfl) ?_
      refine c_region ?_; refine l_neu (n_build rfl) rfl ?_; refine l_eff (e_store_ref TySz.out rfl rfl rfl rfl rfl rfl) ?_; refine l_neu (n_assign rfl rfl) rfl ?_; refine l_nil ?_
      refine k1 ?_
      refine c_sees (Sees.listB PatchHunk 3 phunkC 2 2 rfl rfl) ?_
      refine k10 ?_; refine k11 ?_; refine k12 ?_; refine k11 ?_; refine k11 ?_; refine k12 ?_; refine k11 ?_
      exact ret_ret (rs := [pPatch patch0, pBool false]) (retc2 rfl rfl rfl rfl rfl rfl rfl) (hnone hf.symm)
    have hne : x ≠ [] := of_decide_eq_false ht
    obtain ⟨c, r, rfl⟩ : ∃ c r, x = c :: r := by
      cases x with
      | nil => exact absurd rfl hne
      | cons c r => exact ⟨c, r, rfl⟩
    simp only [List.length_cons] at hxz hwk
    refine k5 ?_; refine k1 ?_; refine k2 ?_
    refine c_region ?_; refine l_neu (n_move rfl rfl) rfl ?_; refine l_neu (n_index_s rfl rfl (by omega) (show (c :: r)[(0 : Int).toNat]? = some c from rfl)) rfl ?_; refine l_call (choose_ok c) rfl rfl rfl ?_; rintro _ rfl; refine l_neu (n_assign rfl rfl) rfl ?_; refine l_nil ?_
    refine k1 ?_; refine k2 ?_
    by_cases c64 : c = 64
    · subst c64
      rw [choose_64]
      have hm := fun gf => header_met (gf := gf) w0 w1 hs (64 :: r) (by omega) (by simp only [List.length_cons]; omega)
      have hst : stepP hs (64 :: r) = match headAt (64 :: r) with | none => none | some (a, _, b, _) => some (hs ++ [⟨a, b, []⟩]) := rfl
      refine c_sees (toShut rfl) ?_
      cases hh : headAt (64 :: r) with
      | none =>
        rw [hh] at hm hst
        rw [hst] at hf
        have hf : none = foldP [] R := hf
        refine c_region ?_; refine l_neu (n_move rfl rfl) rfl ?_; refine l_neu (n_eql_fn1 rfl (by kernel_rfl)) rfl ?_; refine l_neu (n_move rfl rfl) rfl ?_; refine l_run rfl rfl rfl rfl ?_; refine l_neu (n_move rfl rfl) rfl ?_; refine l_run rfl rfl rfl rfl ?_; refine l_neu (n_move rfl rfl) rfl ?_; refine l_run rfl rfl rfl rfl ?_; refine l_neu (n_move rfl rfl) rfl ?_; refine l_run rfl rfl rfl rfl ?_; refine l_sees ((Sees.trans (clo_of_val (t := 61) rfl) (Sees.of (ob' := psShut w0 w1 hs) (fr' := [(60, sBool false), (61, .s (.one (.clo 132 [] []))), (62, .s (.one (.ref 730 0))), (63, sStr (64 :: r)), (4, .s (.one (.ref 730 0))), (2, .s (.one (.ref 2 0))), (46, sList Str 1 strC R), (47, sInt R.length), (48, sInt k)]) ⟨le1 rfl, le1 rfl, le1 rfl, le1 rfl, le1 rfl, le1 rfl, le1 rfl, le1 rfl, le1 rfl, trivial⟩ ⟨rfl, rfl, rfl, trivial⟩))) ?_; refine l_metF (hm _) rfl rfl rfl rfl ?_; rintro _ _ ⟨rfl, rfl⟩; refine l_run rfl rfl rfl rfl ?_; refine l_neu (n_not rfl) rfl ?_; refine l_neu (n_pick_f rfl (rfl) rfl) rfl ?_; refine l_nil ?_
        refine k1 ?_
        refine c_cond rfl (fun ht => ?_) (fun ht => ?_)
        · refine k2 ?_
          refine c_region ?_; refine l_neu (n_build rfl) rfl ?_; refine l_eff (e_store_ref TySz.out rfl rfl rfl rfl rfl rfl) ?_; refine l_neu (n_assign rfl rfl) rfl ?_; refine l_nil ?_
          refine k1 ?_
          refine c_sees (Sees.listB PatchHunk 3 phunkC 2 2 rfl rfl) ?_
          refine k10 ?_; refine k12 ?_; refine k11 ?_; refine k11 ?_; refine k12 ?_; refine k11 ?_
          exact ret_ret (rs := [pPatch patch0, pBool false]) (retc2 rfl rfl rfl rfl rfl rfl rfl) (hnone hf.symm)
        · cases ht
      | some q =>
        obtain ⟨a, m, b, e⟩ := q
        rw [hh] at hm hst
        rw [hst] at hf
        have hf : foldP (hs ++ [⟨a, b, []⟩]) (R.drop (k + 1)) = foldP [] R := hf
        have hsz2 := step_sz (hs := hs) (hs' := hs ++ [⟨a, b, []⟩]) (l := 64 :: r) hst
        simp only [List.length_cons] at hsz2
        refine c_region ?_; refine l_neu (n_move rfl rfl) rfl ?_; refine l_neu (n_eql_fn1 rfl (by kernel_rfl)) rfl ?_; refine l_neu (n_move rfl rfl) rfl ?_; refine l_run rfl rfl rfl rfl ?_; refine l_neu (n_move rfl rfl) rfl ?_; refine l_run rfl rfl rfl rfl ?_; refine l_neu (n_move rfl rfl) rfl ?_; refine l_run rfl rfl rfl rfl ?_; refine l_neu (n_move rfl rfl) rfl ?_; refine l_run rfl rfl rfl rfl ?_; refine l_sees ((Sees.trans (clo_of_val (t := 61) rfl) (Sees.of (ob' := psShut w0 w1 hs) (fr' := [(60, sBool false), (61, .s (.one (.clo 132 [] []))), (62, .s (.one (.ref 730 0))), (63, sStr (64 :: r)), (4, .s (.one (.ref 730 0))), (2, .s (.one (.ref 2 0))), (46, sList Str 1 strC R), (47, sInt R.length), (48, sInt k)]) ⟨le1 rfl, le1 rfl, le1 rfl, le1 rfl, le1 rfl, le1 rfl, le1 rfl, le1 rfl, le1 rfl, trivial⟩ ⟨rfl, rfl, rfl, trivial⟩))) ?_; refine l_metF (hm _) rfl rfl rfl rfl ?_; rintro _ _ ⟨rfl, rfl⟩; refine l_run rfl rfl rfl rfl ?_; refine l_neu (n_not rfl) rfl ?_; refine l_neu (n_pick_f rfl (rfl) rfl) rfl ?_; refine l_nil ?_
        refine k1 ?_
        refine c_cond rfl (fun ht => ?_) (fun ht => ?_)
        · cases ht
        refine k5 ?_; refine k4 ?_; refine k1 ?_
        refine c_region ?_; refine l_neu (n_add rfl rfl (by omega)) rfl ?_; refine l_neu (n_move rfl rfl) rfl ?_; refine l_nil ?_
        refine k1 ?_
        refine ⟨(k + 1, hs ++ [⟨a, b, []⟩]), ⟨hlt, by dsimp only; omega, hf⟩, by dsimp only; omega, ?_⟩
        dsimp only
        rw [ofShut]
        exact Sees.of ⟨le1 rfl, le1 rfl, le1 rfl, le1 rfl, le1 rfl, trivial⟩ ⟨rfl, rfl, rfl, trivial⟩
    have hst64 : ∀ hs', stepP hs (c :: r) = hs' ↔ (if c = 32 ∨ c = 45 ∨ c = 43 then addLine hs ⟨c, r ++ [10]⟩ else if c = 92 then cutLine hs (c :: r) else none) = hs' := by
      intro hs'
      simp only [stepP]
      rw [if_neg c64]
    by_cases ctx : c = 32 ∨ c = 45 ∨ c = 43
    · rw [choose_txt ctx]
      simp only [if_pos ctx] at hst64
      cases hl : hs.getLast? with
      | none =>
        have hn0 : hs = [] := List.getLast?_eq_none_iff.1 hl
        subst hn0
        have hst := (hst64 none).2 rfl
        rw [hst] at hf
        have hf : none = foldP [] R := hf
        refine c_sees (toShut rfl) ?_
        refine c_region ?_; refine l_neu (n_move rfl rfl) rfl ?_; refine l_neu (n_eql_fn1 rfl (by kernel_rfl)) rfl ?_; refine l_neu (n_move rfl rfl) rfl ?_; refine l_run rfl rfl rfl rfl ?_; refine l_neu (n_move rfl rfl) rfl ?_; refine l_run rfl rfl rfl rfl ?_; refine l_neu (n_move rfl rfl) rfl ?_; refine l_run rfl rfl rfl rfl ?_; refine l_neu (n_move rfl rfl) rfl ?_; refine l_run rfl rfl rfl rfl ?_; refine l_sees ((Sees.trans (clo_of_val (t := 61) rfl) (Sees.of (ob' := psShut w0 w1 []) (fr' := [(60, sBool false), (61, .s (.one (.clo 133 [] []))), (62, .s (.one (.ref 730 0))), (63, sStr (c :: r)), (4, .s (.one (.ref 730 0))), (2, .s (.one (.ref 2 0))), (46, sList Str 1 strC R), (47, sInt R.length), (48, sInt k)]) ⟨le1 rfl, le1 rfl, le1 rfl, le1 rfl, le1 rfl, le1 rfl, le1 rfl, le1 rfl, le1 rfl, trivial⟩ ⟨rfl, rfl, rfl, trivial⟩))) ?_; refine l_metF (content_shut w0 w1 (c :: r)) rfl rfl rfl rfl ?_; rintro _ _ ⟨rfl, rfl⟩; refine l_run rfl rfl rfl rfl ?_; refine l_neu (n_not rfl) rfl ?_; refine l_neu (n_pick_f rfl (rfl) rfl) rfl ?_; refine l_nil ?_
        refine k1 ?_
        refine c_cond rfl (fun ht => ?_) (fun ht => ?_)
        · refine k2 ?_
          refine c_region ?_; refine l_neu (n_build rfl) rfl ?_; refine l_eff (e_store_ref TySz.out rfl rfl rfl rfl rfl rfl) ?_; refine l_neu (n_assign rfl rfl) rfl ?_; refine l_nil ?_
          refine k1 ?_
          refine c_sees (Sees.listB PatchHunk 3 phunkC 2 2 rfl rfl) ?_
          refine k10 ?_; refine k12 ?_; refine k11 ?_; refine k11 ?_; refine k12 ?_; refine k11 ?_
          exact ret_ret (rs := [pPatch patch0, pBool false]) (retc2 rfl rfl rfl rfl rfl rfl rfl) (hnone hf.symm)
        · cases ht
      | some h =>
        have hst := (hst64 (some (hs.dropLast ++ [⟨h.Old, h.New, h.Lines ++ [⟨c, r ++ [10]⟩]⟩]))).2 (by unfold addLine; rw [hl])
        rw [hst] at hf
        have hf : foldP (hs.dropLast ++ [⟨h.Old, h.New, h.Lines ++ [⟨c, r ++ [10]⟩]⟩]) (R.drop (k + 1)) = foldP [] R := hf
        have hsz2 := step_sz hst
        simp only [List.length_cons] at hsz2
        have hmem := szP_mem (List.mem_of_getLast? hl)
        have hln := szL_len h.Lines
        unfold szH at hmem
        have h0 : 0 < hs.length := List.length_pos_iff.2 (by intro e; rw [e] at hl; cases hl)
        refine c_sees (toOpen rfl hl) ?_
        refine c_region ?_; refine l_neu (n_move rfl rfl) rfl ?_; refine l_neu (n_eql_fn1 rfl (by kernel_rfl)) rfl ?_; refine l_neu (n_move rfl rfl) rfl ?_; refine l_run rfl rfl rfl rfl ?_; refine l_neu (n_move rfl rfl) rfl ?_; refine l_run rfl rfl rfl rfl ?_; refine l_neu (n_move rfl rfl) rfl ?_; refine l_run rfl rfl rfl rfl ?_; refine l_neu (n_move rfl rfl) rfl ?_; refine l_run rfl rfl rfl rfl ?_; refine l_sees ((Sees.trans (clo_of_val (t := 61) rfl) (Sees.of (ob' := psOpen w0 w1 hs h.Old h.New h.Lines) (fr' := [(60, sBool false), (61, .s (.one (.clo 133 [] []))), (62, .s (.one (.ref 730 0))), (63, sStr (c :: r)), (4, .s (.one (.ref 730 0))), (2, .s (.one (.ref 2 0))), (46, sList Str 1 strC R), (47, sInt R.length), (48, sInt k)]) ⟨le1 rfl, le1 rfl, le1 rfl, le1 rfl, le1 rfl, le1 rfl, le1 rfl, le1 rfl, le1 rfl, trivial⟩ ⟨rfl, rfl, rfl, rfl, trivial⟩))) ?_; refine l_metF (content_open 133 R k w0 w1 hs h.Old h.New h.Lines c r h0 (by omega) (by omega) (by omega)) rfl rfl rfl rfl ?_; rintro _ _ ⟨rfl, rfl⟩; refine l_run rfl rfl rfl rfl ?_; refine l_neu (n_not rfl) rfl ?_; refine l_neu (n_pick_f rfl (rfl) rfl) rfl ?_; refine l_nil ?_
        refine k1 ?_
        refine c_cond rfl (fun ht => ?_) (fun ht => ?_)
        · cases ht
        refine k5 ?_; refine k4 ?_; refine k1 ?_
        refine c_region ?_; refine l_neu (n_add rfl rfl (by omega)) rfl ?_; refine l_neu (n_move rfl rfl) rfl ?_; refine l_nil ?_
        refine k1 ?_
        refine ⟨(k + 1, hs.dropLast ++ [⟨h.Old, h.New, h.Lines ++ [⟨c, r ++ [10]⟩]⟩]), ⟨hlt, by dsimp only; omega, hf⟩, by dsimp only; omega, ?_⟩
        refine Sees.trans ?_ (ofOpen hl (by simp))
        exact Sees.of ⟨le1 rfl, le1 rfl, le1 rfl, le1 rfl, le1 rfl, trivial⟩ ⟨rfl, rfl, rfl, rfl, trivial⟩
    simp only [if_neg ctx] at hst64
    by_cases c92 : c = 92
    · subst c92
      rw [choose_92]
      simp only [if_true] at hst64
      cases hl : hs.getLast? with
      | none =>
        have hn0 : hs = [] := List.getLast?_eq_none_iff.1 hl
        subst hn0
        have hst := (hst64 none).2 rfl
        rw [hst] at hf
        have hf : none = foldP [] R := hf
        refine c_sees (toShut rfl) ?_
        refine c_region ?_; refine l_neu (n_move rfl rfl) rfl ?_; refine l_neu (n_eql_fn1 rfl (by kernel_rfl)) rfl ?_; refine l_neu (n_move rfl rfl) rfl ?_; refine l_run rfl rfl rfl rfl ?_; refine l_neu (n_move rfl rfl) rfl ?_; refine l_run rfl rfl rfl rfl ?_; refine l_neu (n_move rfl rfl) rfl ?_; refine l_run rfl rfl rfl rfl ?_; refine l_neu (n_move rfl rfl) rfl ?_; refine l_run rfl rfl rfl rfl ?_; refine l_sees ((Sees.trans (clo_of_val (t := 61) rfl) (Sees.of (ob' := psShut w0 w1 []) (fr' := [(60, sBool false), (61, .s (.one (.clo 134 [] []))), (62, .s (.one (.ref 730 0))), (63, sStr (92 :: r)), (4, .s (.one (.ref 730 0))), (2, .s (.one (.ref 2 0))), (46, sList Str 1 strC R), (47, sInt R.length), (48, sInt k)]) ⟨le1 rfl, le1 rfl, le1 rfl, le1 rfl, le1 rfl, le1 rfl, le1 rfl, le1 rfl, le1 rfl, trivial⟩ ⟨rfl, rfl, rfl, trivial⟩))) ?_; refine l_metF (unended_shut w0 w1 (92 :: r)) rfl rfl rfl rfl ?_; rintro _ _ ⟨rfl, rfl⟩; refine l_run rfl rfl rfl rfl ?_; refine l_neu (n_not rfl) rfl ?_; refine l_neu (n_pick_f rfl (rfl) rfl) rfl ?_; refine l_nil ?_
        refine k1 ?_
        refine c_cond rfl (fun ht => ?_) (fun ht => ?_)
        · refine k2 ?_
          refine c_region ?_; refine l_neu (n_build rfl) rfl ?_; refine l_eff (e_store_ref TySz.out rfl rfl rfl rfl rfl rfl) ?_; refine l_neu (n_assign rfl rfl) rfl ?_; refine l_nil ?_
          refine k1 ?_
          refine c_sees (Sees.listB PatchHunk 3 phunkC 2 2 rfl rfl) ?_
          refine k10 ?_; refine k12 ?_; refine k11 ?_; refine k11 ?_; refine k12 ?_; refine k11 ?_
          exact ret_ret (rs := [pPatch patch0, pBool false]) (retc2 rfl rfl rfl rfl rfl rfl rfl) (hnone hf.symm)
        · cases ht
      | some h =>
        have hmem := szP_mem (List.mem_of_getLast? hl)
        have hln := szL_len h.Lines
        unfold szH at hmem
        have h0 : 0 < hs.length := List.length_pos_iff.2 (by intro e; rw [e] at hl; cases hl)
        have hm := fun gf => unended_open (gf := gf) w0 w1 hs h.Old h.New h.Lines (92 :: r) h0 (by omega) (by omega) (fun y hy => by have := szL_mem hy; omega)
        refine c_sees (toOpen rfl hl) ?_
        by_cases hx2 : ∃ y, h.Lines.getLast? = some y ∧ (92 :: r) = noNl
        · obtain ⟨y, hy, hno⟩ := hx2
          have hst := (hst64 (some (hs.dropLast ++ [⟨h.Old, h.New, h.Lines.dropLast ++ [⟨y.Kind, trimS y.Text⟩]⟩]))).2 (by unfold cutLine; rw [hl]; dsimp only; rw [hy]; dsimp only; rw [if_pos hno])
          rw [hst] at hf
          have hf : foldP (hs.dropLast ++ [⟨h.Old, h.New, h.Lines.dropLast ++ [⟨y.Kind, trimS y.Text⟩]⟩]) (R.drop (k + 1)) = foldP [] R := hf
          have hsz2 := step_sz hst
          simp only [List.length_cons] at hsz2
          have hm2 := fun gf => (hm gf).mono (post' := fun rs ob' => rs = [tBo true] ∧ ob' = psOpen w0 w1 hs h.Old h.New (h.Lines.dropLast ++ [⟨y.Kind, trimS y.Text⟩])) (fun rs ob' hh => by rw [hy] at hh; dsimp only at hh; rw [if_pos hno] at hh; exact hh)
          refine c_region ?_; refine l_neu (n_move rfl rfl) rfl ?_; refine l_neu (n_eql_fn1 rfl (by kernel_rfl)) rfl ?_; refine l_neu (n_move rfl rfl) rfl ?_; refine l_run rfl rfl rfl rfl ?_; refine l_neu (n_move rfl rfl) rfl ?_; refine l_run rfl rfl rfl rfl ?_; refine l_neu (n_move rfl rfl) rfl ?_; refine l_run rfl rfl rfl rfl ?_; refine l_neu (n_move rfl rfl) rfl ?_; refine l_run rfl rfl rfl rfl ?_; refine l_sees ((Sees.trans (clo_of_val (t := 61) rfl) (Sees.of (ob' := psOpen w0 w1 hs h.Old h.New h.Lines) (fr' := [(60, sBool false), (61, .s (.one (.clo 134 [] []))), (62, .s (.one (.ref 730 0))), (63, sStr (92 :: r)), (4, .s (.one (.ref 730 0))), (2, .s (.one (.ref 2 0))), (46, sList Str 1 strC R), (47, sInt R.length), (48, sInt k)]) ⟨le1 rfl, le1 rfl, le1 rfl, le1 rfl, le1 rfl, le1 rfl, le1 rfl, le1 rfl, le1 rfl, trivial⟩ ⟨rfl, rfl, rfl, rfl, trivial⟩))) ?_; refine l_metF (hm2 _) rfl rfl rfl rfl ?_; rintro _ _ ⟨rfl, rfl⟩; refine l_run rfl rfl rfl rfl ?_; refine l_neu (n_not rfl) rfl ?_; refine l_neu (n_pick_f rfl (rfl) rfl) rfl ?_; refine l_nil ?_
          refine k1 ?_
          refine c_cond rfl (fun ht => ?_) (fun ht => ?_)
          · cases ht
          refine k5 ?_; refine k4 ?_; refine k1 ?_
          refine c_region ?_; refine l_neu (n_add rfl rfl (by omega)) rfl ?_; refine l_neu (n_move rfl rfl) rfl ?_; refine l_nil ?_
          refine k1 ?_
          refine ⟨(k + 1, hs.dropLast ++ [⟨h.Old, h.New, h.Lines.dropLast ++ [⟨y.Kind, trimS y.Text⟩]⟩]), ⟨hlt, by dsimp only; omega, hf⟩, by dsimp only; omega, ?_⟩
          refine Sees.trans ?_ (ofOpen hl (by simp))
          exact Sees.of ⟨le1 rfl, le1 rfl, le1 rfl, le1 rfl, le1 rfl, trivial⟩ ⟨rfl, rfl, rfl, rfl, trivial⟩
        · have hst := (hst64 none).2 (by
            unfold cutLine; rw [hl]; dsimp only
            cases hy : h.Lines.getLast? with
            | none => rfl
            | some y => dsimp only; rw [if_neg (fun e => hx2 ⟨y, hy, e⟩)])
          rw [hst] at hf
          have hf : none = foldP [] R := hf
          have hm2 := fun gf => (hm gf).mono (post' := fun rs ob' => rs = [tBo false] ∧ ob' = [(2, zBox)]) (fun rs ob' hh => by
            cases hy : h.Lines.getLast? with
            | none => rw [hy] at hh; exact hh
            | some y => rw [hy] at hh; dsimp only at hh; rw [if_neg (fun e => hx2 ⟨y, hy, e⟩)] at hh; exact hh)
          refine c_region ?_; refine l_neu (n_move rfl rfl) rfl ?_; refine l_neu (n_eql_fn1 rfl (by kernel_rfl)) rfl ?_; refine l_neu (n_move rfl rfl) rfl ?_; refine l_run rfl rfl rfl rfl ?_; refine l_neu (n_move rfl rfl) rfl ?_; refine l_run rfl rfl rfl rfl ?_; refine l_neu (n_move rfl rfl) rfl ?_; refine l_run rfl rfl rfl rfl ?_; refine l_neu (n_move rfl rfl) rfl ?_; refine l_run rfl rfl rfl rfl ?_; refine l_sees ((Sees.trans (clo_of_val (t := 61) rfl) (Sees.of (ob' := psOpen w0 w1 hs h.Old h.New h.Lines) (fr' := [(60, sBool false), (61, .s (.one (.clo 134 [] []))), (62, .s (.one (.ref 730 0))), (63, sStr (92 :: r)), (4, .s (.one (.ref 730 0))), (2, .s (.one (.ref 2 0))), (46, sList Str 1 strC R), (47, sInt R.length), (48, sInt k)]) ⟨le1 rfl, le1 rfl, le1 rfl, le1 rfl, le1 rfl, le1 rfl, le1 rfl, le1 rfl, le1 rfl, trivial⟩ ⟨rfl, rfl, rfl, rfl, trivial⟩))) ?_; refine l_metF (hm2 _) rfl rfl rfl rfl ?_; rintro _ _ ⟨rfl, rfl⟩; refine l_run rfl rfl rfl rfl ?_; refine l_neu (n_not rfl) rfl ?_; refine l_neu (n_pick_f rfl (rfl) rfl) rfl ?_; refine l_nil ?_
          refine k1 ?_
          refine c_cond rfl (fun ht => ?_) (fun ht => ?_)
          · refine k2 ?_
            refine c_region ?_; refine l_neu (n_build rfl) rfl ?_; refine l_eff (e_store_ref TySz.out rfl rfl rfl rfl rfl rfl) ?_; refine l_neu (n_assign rfl rfl) rfl ?_; refine l_nil ?_
            refine k1 ?_
            refine c_sees (Sees.listB PatchHunk 3 phunkC 2 2 rfl rfl) ?_
            refine k10 ?_; refine k12 ?_; refine k11 ?_; refine k11 ?_; refine k12 ?_; refine k11 ?_
            exact ret_ret (rs := [pPatch patch0, pBool false]) (retc2 rfl rfl rfl rfl rfl rfl rfl) (hnone hf.symm)
          · cases ht
    rw [choose_no c64 ctx c92]
    have hst := (hst64 none).2 (by rw [if_neg c92])
    rw [hst] at hf
    have hf : none = foldP [] R := hf
    refine c_sees (toShut rfl) ?_
    refine c_region ?_; refine l_neu (n_move rfl rfl) rfl ?_; refine l_neu (n_eql_fn0 rfl (by kernel_rfl)) rfl ?_; refine l_neu (n_move rfl rfl) rfl ?_; refine l_skip rfl rfl rfl (by simp) rfl ?_; refine l_skip rfl rfl rfl (by simp) rfl ?_; refine l_skip rfl rfl rfl (by simp) rfl ?_; refine l_skip rfl rfl rfl (by simp) rfl ?_; refine l_skip rfl rfl rfl (by simp) rfl ?_; refine l_neu (n_pick_t rfl (rfl) rfl) rfl ?_; refine l_nil ?_
    refine k1 ?_
    refine c_cond rfl (fun ht => ?_) (fun ht => ?_)
    · refine k2 ?_
      refine c_region ?_; refine l_neu (n_build rfl) rfl ?_; refine l_eff (e_store_ref TySz.out rfl rfl rfl rfl rfl rfl) ?_; refine l_neu (n_assign rfl rfl) rfl ?_; refine l_nil ?_
      refine k1 ?_
      refine c_sees (Sees.listB PatchHunk 3 phunkC 2 2 rfl rfl) ?_
      refine k10 ?_; refine k12 ?_; refine k11 ?_; refine k11 ?_; refine k12 ?_; refine k11 ?_
      exact ret_ret (rs := [pPatch patch0, pBool false]) (retc2 rfl rfl rfl rfl rfl rfl rfl) (hnone hf.symm)
    · cases ht
  · have hk2 : k = R.length := by have := of_decide_eq_false ht; omega
    subst hk2
    rw [List.drop_eq_nil_of_le (Nat.le_refl _)] at hf
    have hf : some hs = foldP [] R := hf
    refine k6 ?_; refine k2 ?_
    refine c_sees (toShut rfl) ?_
    refine c_sees (Sees.recell 731 phunkC rfl (fun x _ j _ rd u => phunk_cell j rd u)) ?_
    refine c_sees (Sees.freezeG (k := 731) rfl rfl) ?_
    refine c_cut [(4, .s (.one (.ref 730 0))), (2, .s (.one (.ref 2 0)))] [(730, .box [.p (.v (.string ⟨w0.toArray⟩)), .p (.v (.string ⟨w1.toArray⟩)), .p (.list PatchHunk 3 phunkC hs)]), (2, zBox)] (Sees.of ⟨le1 rfl, le1 rfl, trivial⟩ ⟨rfl, rfl, trivial⟩) ?_
    refine c_region ?_; refine l_neu (n_move rfl rfl) rfl ?_; refine l_neu (n_nilCheck_ref rfl) rfl ?_; refine l_neu (n_field_ref rfl) rfl ?_; refine l_neu (n_loads_ref rfl rfl rfl) rfl ?_; refine l_eff (e_store_ref TySz.out rfl rfl rfl rfl rfl rfl) ?_; refine l_neu (n_assign rfl rfl) rfl ?_; refine l_nil ?_
    refine k1 ?_; refine k10 ?_
    exact ret_ret (rs := [pPatch ⟨w0, w1, hs⟩, pBool true]) (retc2 rfl rfl rfl rfl rfl rfl rfl) (hPs hs hf.symm)
end Go.Proofs.YtjjidificdmnmaaGreatDoor
namespace Go.Proofs.YtjjidificdmnmaaGreatDoor
open Go Go.AL
set_option maxRecDepth 100000
theorem linesS_sz {s : Str} {l : List Str} (h : linesS s = some l) : (l.map fun t => t.length + 65).sum ≤ 66 * s.length ∧ ∀ t ∈ l, t.length ≤ s.length := by
  unfold linesS at h
  split at h
  · cases h; simp
  · split at h
    · have h : (linesOf s).map List.dropLast = l := Option.some.inj h
      obtain ⟨f1, f2⟩ := lines_flat s
      have hl := linesOf_length s
      have hsum : ∀ L : List Str, ((L.map List.dropLast).map fun t => t.length + 65).sum ≤ L.flatten.length + 65 * L.length := by
        intro L
        induction L with
        | nil => simp
        | cons x r ih =>
          simp only [List.map_cons, List.sum_cons, List.flatten_cons, List.length_append, List.length_cons, List.length_dropLast] at ih ⊢
          omega
      have hs := hsum (linesOf s)
      rw [h] at hs
      have hs2 : (l.map fun (t : Str) => t.length + 65).sum ≤ (linesOf s).flatten.length + 65 * (linesOf s).length := hs
      refine ⟨by omega, fun t ht => ?_⟩
      rw [← h] at ht
      obtain ⟨x, hx, rfl⟩ := List.mem_map.1 ht
      have := (List.sublist_flatten_of_mem hx).length_le
      rw [List.length_dropLast]; omega
    · cases h
theorem fold_sz {R : List Str} : ∀ {hs hs' : List PatchHunk}, foldP hs R = some hs' → szP hs' ≤ szP hs + (R.map fun t => t.length + 65).sum := by
  induction R with
  | nil => intro hs hs' h; cases h; simp
  | cons x r ih =>
    intro hs hs' h
    rw [foldP] at h
    cases hx : stepP hs x with
    | none => rw [hx] at h; cases h
    | some g =>
      rw [hx] at h
      have h1 := step_sz hx
      have h2 := ih h
      simp only [List.map_cons, List.sum_cons]; omega
theorem parseP_sz {l : List Str} {p : Patch} (h : parseP l = some p) : szP p.Hunks ≤ (l.map fun t => t.length + 65).sum := by
  unfold parseP at h
  match l with
  | [] => cases h
  | [_] => cases h
  | a :: b :: r =>
    dsimp only at h
    cases h1 : nameAt a [45, 45, 45, 32] with
    | none => rw [h1] at h; cases h
    | some o =>
      cases h2 : nameAt b [43, 43, 43, 32] with
      | none => rw [h1, h2] at h; cases h
      | some n =>
        rw [h1, h2] at h
        dsimp only at h
        cases h3 : foldP [] r with
        | none => rw [h3] at h; cases h
        | some hs =>
          rw [h3] at h
          have h : (⟨o, n, hs⟩ : Patch) = p := Option.some.inj h
          rw [← h]
          have := fold_sz h3
          simp only [List.map_cons, List.sum_cons]
          have e : szP ([] : List PatchHunk) = 0 := rfl
          first | omega | (dsimp only; omega)
def strictR (f : List Str → Option Patch) (s : Str) : List PV := [pPatch (strictBy f s).1, pInt (strictBy f s).2]
theorem stParse_ok (s : Str) (hs : s.length ≤ 1048576) : FnOk Tryz.prog 30 [pStr s] (fun rs => rs = strictR parseP s) := by
  have h16 : ¬ 16777216 < s.length := by omega
  have hL := stLines_ok s (by omega)
  have hfail : ∀ {x : Patch × Int}, strictBy parseP s = x → x = (patch0, 4) → [pPatch patch0, pInt 4] = strictR parseP s := by
    intro x h1 h2
    unfold strictR; rw [h1, h2]
  refine FnOk.intro Tryz.func30 (by decide) rfl rfl rfl rfl ?_
  refine k2 ?_
  refine c_region ?_; refine l_effv (f_alloc 2 rfl) rfl ?_; refine l_neu (n_assign rfl rfl) rfl ?_; refine l_nil ?_
  refine k1 ?_; refine k2 ?_; refine k2 ?_
  refine c_region ?_; refine l_neu (n_move rfl rfl) rfl ?_; refine l_neu (n_len_s rfl) rfl ?_; refine l_neu (n_gtr rfl rfl) rfl ?_; refine l_nil ?_
  refine k1 ?_
  refine c_cond rfl (fun ht => ?_) (fun ht => ?_)
  · exact absurd (of_decide_eq_true ht) (by omega)
  cases hl : linesS s with
  | none =>
    unfold linesR at hL
    rw [hl] at hL
    refine k5 ?_; refine k1 ?_; refine k2 ?_
    refine c_region ?_; refine l_neu (n_move rfl rfl) rfl ?_; refine l_call (hL) rfl rfl rfl ?_; rintro _ rfl; refine l_neu (n_move rfl rfl) rfl ?_; refine l_neu (n_extract rfl rfl) rfl ?_; refine l_neu (n_extract rfl rfl) rfl ?_; refine l_neu (n_assign rfl rfl) rfl ?_; refine l_neu (n_assign rfl rfl) rfl ?_; refine l_nil ?_
    refine k1 ?_; refine k2 ?_; refine k2 ?_
    refine c_region ?_; refine l_neu (n_move rfl rfl) rfl ?_; refine l_neu (n_not rfl) rfl ?_; refine l_nil ?_
    refine k1 ?_
    refine c_cond rfl (fun ht => ?_) (fun ht => ?_)
    · refine k2 ?_
      refine c_region ?_; refine l_neu (n_build rfl) rfl ?_; refine l_eff (e_store_ref TySz.out rfl rfl rfl rfl rfl rfl) ?_; refine l_neu (n_assign rfl rfl) rfl ?_; refine l_nil ?_
      refine k1 ?_
      refine c_sees (Sees.listB PatchHunk 3 phunkC 2 2 rfl rfl) ?_
      refine k10 ?_; refine k11 ?_
      exact ret_ret (rs := [pPatch patch0, pInt 4]) (retc2 rfl rfl rfl rfl rfl rfl rfl) (hfail rfl (by unfold strictBy; rw [if_neg h16, hl]))
    · cases ht
  | some l =>
    unfold linesR at hL
    rw [hl] at hL
    obtain ⟨z1, z2⟩ := linesS_sz hl
    have hP := stparse_ok l (by omega) (fun t ht => by have := z2 t ht; omega)
    cases hp : parseP l with
    | none =>
      unfold parseRes at hP
      rw [hp] at hP
      refine k5 ?_; refine k1 ?_; refine k2 ?_
      refine c_region ?_; refine l_neu (n_move rfl rfl) rfl ?_; refine l_call (hL) rfl rfl rfl ?_; rintro _ rfl; refine l_neu (n_move rfl rfl) rfl ?_; refine l_neu (n_extract rfl rfl) rfl ?_; refine l_neu (n_extract rfl rfl) rfl ?_; refine l_neu (n_assign rfl rfl) rfl ?_; refine l_neu (n_assign rfl rfl) rfl ?_; refine l_nil ?_
      refine k1 ?_; refine k2 ?_; refine k2 ?_
      refine c_region ?_; refine l_neu (n_move rfl rfl) rfl ?_; refine l_neu (n_not rfl) rfl ?_; refine l_nil ?_
      refine k1 ?_
      refine c_cond rfl (fun ht => ?_) (fun ht => ?_)
      · cases ht
      refine k5 ?_; refine k1 ?_; refine k2 ?_
      refine c_region ?_; refine l_neu (n_move rfl rfl) rfl ?_; refine l_call (hP) rfl rfl rfl ?_; rintro _ rfl; refine l_neu (n_move rfl rfl) rfl ?_; refine l_neu (n_extract rfl rfl) rfl ?_; refine l_neu (n_extract rfl rfl) rfl ?_; refine l_effv (f_alloc 6 rfl) rfl ?_; refine l_eff (e_store_ref TySz.out rfl rfl rfl rfl rfl rfl) ?_; refine l_neu (n_assign rfl rfl) rfl ?_; refine l_nil ?_
      refine k1 ?_; refine k2 ?_; refine k2 ?_
      refine c_region ?_; refine l_neu (n_move rfl rfl) rfl ?_; refine l_neu (n_not rfl) rfl ?_; refine l_nil ?_
      refine k1 ?_
      refine c_cond rfl (fun ht => ?_) (fun ht => ?_)
      · refine k2 ?_
        refine c_region ?_; refine l_neu (n_build rfl) rfl ?_; refine l_eff (e_store_ref TySz.out rfl rfl rfl rfl rfl rfl) ?_; refine l_neu (n_assign rfl rfl) rfl ?_; refine l_nil ?_
        refine k1 ?_
        refine c_sees (Sees.listB PatchHunk 3 phunkC 2 2 rfl rfl) ?_
        refine k10 ?_; refine k11 ?_
        exact ret_ret (rs := [pPatch patch0, pInt 4]) (retc2 rfl rfl rfl rfl rfl rfl rfl) (hfail rfl (by unfold strictBy; rw [if_neg h16, hl]; dsimp only; rw [hp]))
      · cases ht
    | some p =>
      unfold parseRes at hP
      rw [hp] at hP
      have hsz := parseP_sz hp
      have hF := uformat_ok p (by omega)
      have hS : strictBy parseP s = if check12 p ≠ 0 ∨ writeOf p ≠ s then (patch0, 4) else (p, 0) := by unfold strictBy; rw [if_neg h16, hl]; dsimp only; rw [hp]
      obtain ⟨w, hw⟩ : ∃ w, w = if check12 p ≠ 0 then [] else writeOf p := ⟨_, rfl⟩
      rw [← hw] at hF
      refine k5 ?_; refine k1 ?_; refine k2 ?_
      refine c_region ?_; refine l_neu (n_move rfl rfl) rfl ?_; refine l_call (hL) rfl rfl rfl ?_; rintro _ rfl; refine l_neu (n_move rfl rfl) rfl ?_; refine l_neu (n_extract rfl rfl) rfl ?_; refine l_neu (n_extract rfl rfl) rfl ?_; refine l_neu (n_assign rfl rfl) rfl ?_; refine l_neu (n_assign rfl rfl) rfl ?_; refine l_nil ?_
      refine k1 ?_; refine k2 ?_; refine k2 ?_
      refine c_region ?_; refine l_neu (n_move rfl rfl) rfl ?_; refine l_neu (n_not rfl) rfl ?_; refine l_nil ?_
      refine k1 ?_
      refine c_cond rfl (fun ht => ?_) (fun ht => ?_)
      · cases ht
      refine k5 ?_; refine k1 ?_; refine k2 ?_
      refine c_region ?_; refine l_neu (n_move rfl rfl) rfl ?_; refine l_call (hP) rfl rfl rfl ?_; rintro _ rfl; refine l_neu (n_move rfl rfl) rfl ?_; refine l_neu (n_extract rfl rfl) rfl ?_; refine l_neu (n_extract rfl rfl) rfl ?_; refine l_effv (f_alloc 6 rfl) rfl ?_; refine l_eff (e_store_ref TySz.out rfl rfl rfl rfl rfl rfl) ?_; refine l_neu (n_assign rfl rfl) rfl ?_; refine l_nil ?_
      refine k1 ?_; refine k2 ?_; refine k2 ?_
      refine c_region ?_; refine l_neu (n_move rfl rfl) rfl ?_; refine l_neu (n_not rfl) rfl ?_; refine l_nil ?_
      refine k1 ?_
      refine c_cond rfl (fun ht => ?_) (fun ht => ?_)
      · cases ht
      refine k5 ?_; refine k1 ?_; refine k2 ?_; refine k2 ?_
      refine c_region ?_; refine l_neu (n_loads_ref rfl rfl rfl) rfl ?_; refine l_call (hF) rfl rfl rfl ?_; rintro _ rfl; refine l_neu (n_move rfl rfl) rfl ?_; refine l_neu (n_extract rfl rfl) rfl ?_; refine l_neu (n_extract rfl rfl) rfl ?_; refine l_neu (n_assign rfl rfl) rfl ?_; refine l_neu (n_assign rfl rfl) rfl ?_; refine l_nil ?_
      refine k1 ?_; refine k2 ?_
      refine c_region ?_; refine l_neu (n_move rfl rfl) rfl ?_; refine l_neu (n_neq rfl rfl) rfl ?_; refine l_neu (n_move rfl rfl) rfl ?_; refine l_guard rfl rfl rfl rfl (fun hg => by rw [hg]; exact n_move rfl rfl) ?_; refine l_guard rfl rfl rfl rfl (fun hg => by rw [hg]; exact n_move rfl rfl) ?_; refine l_guard rfl rfl rfl rfl (fun hg => by rw [hg]; exact n_neq_s rfl rfl) ?_; refine l_neu (n_pick_bool rfl (fun h => by first | rfl | (rw [h]; rfl)) (fun h => by first | rfl | (rw [h]; rfl))) rfl ?_; refine l_nil ?_
      simp only [or_pick]
      refine k1 ?_
      by_cases hb : check12 p ≠ 0 ∨ writeOf p ≠ s
      · rw [if_pos hb] at hS
        refine c_cond rfl (fun ht => ?_) (fun ht => ?_)
        rotate_left
        · exfalso
          have h1 := of_decide_eq_false ht
          by_cases hc : check12 p = 0
          · rw [if_neg (by simp [hc])] at hw
            rcases hb with h | h
            · exact h hc
            · exact h1 (.inr (by rw [hw]; exact h))
          · exact h1 (.inl hc)
        refine k2 ?_
        refine c_region ?_; refine l_neu (n_build rfl) rfl ?_; refine l_eff (e_store_ref TySz.out rfl rfl rfl rfl rfl rfl) ?_; refine l_neu (n_assign rfl rfl) rfl ?_; refine l_nil ?_
        refine k1 ?_
        refine c_sees (Sees.listB PatchHunk 3 phunkC 2 2 rfl rfl) ?_
        refine k10 ?_; refine k11 ?_
        exact ret_ret (rs := [pPatch patch0, pInt 4]) (retc2 rfl rfl rfl rfl rfl rfl rfl) (hfail hS rfl)
      · rw [if_neg hb] at hS
        have hc : check12 p = 0 := Decidable.not_not.1 fun h => hb (.inl h)
        have hws : writeOf p = s := Decidable.not_not.1 fun h => hb (.inr h)
        rw [if_neg (by simp [hc])] at hw
        refine c_cond rfl (fun ht => ?_) (fun ht => ?_)
        · exfalso
          rcases of_decide_eq_true ht with h | h
          · exact h hc
          · exact h (by rw [hw]; exact hws)
        refine k5 ?_; refine k1 ?_; refine k2 ?_
        refine c_region ?_; refine l_neu (n_loads_ref rfl rfl rfl) rfl ?_; refine l_eff (e_store_ref TySz.out rfl rfl rfl rfl rfl rfl) ?_; refine l_neu (n_assign rfl rfl) rfl ?_; refine l_nil ?_
        refine k1 ?_; refine k10 ?_
        exact ret_ret (rs := [pPatch p, pInt 0]) (retc2 rfl rfl rfl rfl rfl rfl rfl) (by unfold strictR; rw [hS])
end Go.Proofs.YtjjidificdmnmaaGreatDoor
namespace Go.Proofs.YtjjidificdmnmaaGreatDoor
open Go Go.AL
set_option maxRecDepth 100000
set_option maxHeartbeats 1000000
end Go.Proofs.YtjjidificdmnmaaGreatDoor
namespace Go.Proofs.YtjjidificdmnmaaGreatDoor
open Go Go.AL
set_option maxRecDepth 100000
theorem made_rt (on nn a b : Str) (c : Int) (hon : nameOk on = true) (hnn : nameOk nn = true) (ha : a.length ≤ 200) (hb : b.length ≤ 200) (hc : 0 ≤ c ∧ c ≤ 1048576) : ∃ hs : List PatchHunk,
    made12 on nn a b c false = (⟨on, nn, hs⟩, 0) ∧ check12 ⟨on, nn, hs⟩ = 0 ∧ szP hs ≤ 65536 ∧ (writeOf ⟨on, nn, hs⟩).length ≤ 131072 ∧ apply14 ⟨on, nn, hs⟩ a = (b, 0) := by
  obtain ⟨f1, h1⟩ := lines_flat a
  obtain ⟨f2, h2⟩ := lines_flat b
  obtain ⟨hf, _⟩ := scriptD_fit (linesOf a) (linesOf b) false (by omega) (by omega)
  have hm := made12_is on nn a b _ c hon hnn (by omega) (by omega) (by omega) hf
  have hz := hf.size hc.1 (linesOf_ok a).1 (linesOf_ok b).1
  have hch := hf.chain0 hc.1
  obtain ⟨hs, hhs⟩ : ∃ hs, hs = hunksOf (scriptD (linesOf a) (linesOf b) false) (linesOf a) (linesOf b) c := ⟨_, rfl⟩
  have hck := hm.chk
  rw [← hhs] at hz hch hck
  have o1 := of_decide_eq_true (show decide (1 ≤ on.length ∧ on.length ≤ 200) = true from hon)
  have o2 := of_decide_eq_true (show decide (1 ≤ nn.length ∧ nn.length ≤ 200) = true from hnn)
  have hw : (writeOf ⟨on, nn, hs⟩).length ≤ (namePs ⟨on, nn, hs⟩).flatten.length + szP hs := by
    unfold writeOf writePs
    rw [List.flatten_append, List.length_append]
    have := hunksPs_flat hs
    show _ + ((hs).map hunkPs).flatten.flatten.length ≤ _
    omega
  have hw2 : (namePs ⟨on, nn, hs⟩).flatten.length ≤ 4 * on.length + 4 * nn.length + 14 := namePs_flat ⟨on, nn, hs⟩
  refine ⟨hs, ?_, hck, by omega, by omega, apply14_chain hck (by omega) (by omega) hch⟩
  unfold made12
  rw [if_neg (by rw [hon, hnn]; decide), if_neg (by omega), hhs]
theorem parse_written {p : Patch} (hc : check12 p = 0) (hw : (writeOf p).length ≤ 1048576) : FnOk Tryz.prog 30 [pStr (writeOf p)] (fun rs => rs = [pPatch p, pInt 0]) := by
  have h := stParse_ok (writeOf p) hw
  unfold strictR at h
  rw [strictBy_of (fun p hg => parseP_back hg) hc] at h
  exact h
theorem awake13_ok : FnOk Tryz.prog 32 [] (fun rs => rs = [pBool true]) := by
  have e1 : writeOf ⟨[97], [98], []⟩ = [45, 45, 45, 32, 97, 10, 43, 43, 43, 32, 98, 10] := by decide
  have hp1 := parse_written (p := ⟨[97], [98], []⟩) (by decide) (by rw [e1]; decide)
  rw [e1] at hp1
  have hp2 := stParse_ok [] (by simp)
  have e2 : strictBy parseP [] = (patch0, 4) := rfl
  unfold strictR at hp2
  rw [e2] at hp2
  refine FnOk.intro Tryz.func32 (by decide) rfl rfl rfl rfl ?_
  refine k2 ?_
  refine c_region ?_; refine l_neu (n_assign rfl rfl) rfl ?_; refine l_nil ?_
  refine k1 ?_; refine k2 ?_
  refine c_region ?_; refine l_call (hp1) rfl rfl rfl ?_; rintro _ rfl; refine l_neu (n_move rfl rfl) rfl ?_; refine l_neu (n_extract rfl rfl) rfl ?_; refine l_neu (n_extract rfl rfl) rfl ?_; refine l_effv (f_alloc 1 rfl) rfl ?_; refine l_eff (e_store_ref TySz.out rfl rfl rfl rfl rfl rfl) ?_; refine l_neu (n_assign rfl rfl) rfl ?_; refine l_nil ?_
  refine k1 ?_; refine k2 ?_
  refine c_region ?_; refine l_call (hp2) rfl rfl rfl ?_; rintro _ rfl; refine l_neu (n_move rfl rfl) rfl ?_; refine l_neu (n_extract rfl rfl) rfl ?_; refine l_neu (n_extract rfl rfl) rfl ?_; refine l_effv (f_alloc 3 rfl) rfl ?_; refine l_eff (e_store_ref TySz.out rfl rfl rfl rfl rfl rfl) ?_; refine l_neu (n_assign rfl rfl) rfl ?_; refine l_nil ?_
  refine k1 ?_; refine k2 ?_
  refine c_region ?_; refine l_neu (n_move rfl rfl) rfl ?_; refine l_neu (n_eql rfl rfl) rfl ?_; refine l_neu (n_move rfl rfl) rfl ?_; refine l_guard rfl rfl rfl rfl (fun hg => by rw [hg]; exact n_field_ref rfl) ?_; refine l_guard rfl rfl rfl rfl (fun hg => by rw [hg]; exact n_load_ref rfl rfl rfl) ?_; refine l_guard rfl rfl rfl rfl (fun hg => by rw [hg]; exact n_eql_s rfl rfl) ?_; refine l_neu (n_pick_bool rfl (fun h => by first | rfl | (rw [h]; rfl)) (fun h => by first | rfl | (rw [h]; rfl))) rfl ?_; refine l_neu (n_move rfl rfl) rfl ?_; refine l_guard rfl rfl rfl rfl (fun hg => by rw [hg]; exact n_field_ref rfl) ?_; refine l_guard rfl rfl rfl rfl (fun hg => by rw [hg]; exact n_load_ref rfl rfl rfl) ?_; refine l_guard rfl rfl rfl rfl (fun hg => by rw [hg]; exact n_eql_s rfl rfl) ?_; refine l_neu (n_pick_bool rfl (fun h => by first | rfl | (rw [h]; rfl)) (fun h => by first | rfl | (rw [h]; rfl))) rfl ?_; refine l_neu (n_move rfl rfl) rfl ?_; refine l_guard rfl rfl rfl rfl (fun hg => by rw [hg]; exact n_field_ref rfl) ?_; refine l_guard rfl rfl rfl rfl (fun hg => by rw [hg]; exact n_load_ref rfl rfl rfl) ?_; refine l_guard rfl rfl rfl rfl (fun hg => by rw [hg]; exact n_len rfl (.pure _ _ _ _)) ?_; refine l_guard rfl rfl rfl rfl (fun hg => by rw [hg]; exact n_eql rfl rfl) ?_; refine l_neu (n_pick_bool rfl (fun h => by first | rfl | (rw [h]; rfl)) (fun h => by first | rfl | (rw [h]; rfl))) rfl ?_; refine l_neu (n_move rfl rfl) rfl ?_; refine l_guard rfl rfl rfl rfl (fun hg => by rw [hg]; exact n_move rfl rfl) ?_; refine l_guard rfl rfl rfl rfl (fun hg => by rw [hg]; exact n_eql rfl rfl) ?_; refine l_neu (n_pick_bool rfl (fun h => by first | rfl | (rw [h]; rfl)) (fun h => by first | rfl | (rw [h]; rfl))) rfl ?_; refine l_neu (n_assign rfl rfl) rfl ?_; refine l_nil ?_
  refine k1 ?_; refine k10 ?_
  exact ret_ret (ret1 rfl rfl rfl) rfl
def madeS (raw : List Int) (ctx : Int) : Patch := (made12 [111, 32, 120] [110] (pickA raw) (pickB raw) (modOf ctx 3) false).1
theorem madeS_facts (raw : List Int) (ctx : Int) : made12 [111, 32, 120] [110] (pickA raw) (pickB raw) (modOf ctx 3) false = (madeS raw ctx, 0) ∧ check12 (madeS raw ctx) = 0 ∧ szP (madeS raw ctx).Hunks ≤ 65536 ∧ (writeOf (madeS raw ctx)).length ≤ 131072 := by
  have h1 := pickA_len raw
  have h2 := pickB_len raw
  obtain ⟨h3, h4⟩ := modOf_in ctx (n := 3) (by omega)
  obtain ⟨hs, e, c, z, w, _⟩ := made_rt [111, 32, 120] [110] (pickA raw) (pickB raw) (modOf ctx 3) (by decide) (by decide) (by omega) (by omega) (by omega)
  unfold madeS
  rw [e]
  exact ⟨rfl, c, z, w⟩
end Go.Proofs.YtjjidificdmnmaaGreatDoor
namespace Go.Proofs.YtjjidificdmnmaaGreatDoor
open Go Go.AL
set_option maxRecDepth 100000
theorem write_good {p : Patch} (hc : check12 p = 0) (hz : szP p.Hunks ≤ 65536) (ho : p.OldName.length ≤ 200) (hn : p.NewName.length ≤ 200) : FnOk Tryz.prog 58 [pPatch p] (fun rs => rs = [pStr (writeOf p)]) :=
  rwrite_ok p ⟨by omega, by omega, by omega⟩ (fun h hm => by have := goodOf_range (Go.AL.check12_good hc) h hm; omega)
set_option maxHeartbeats 1000000
theorem made13_ok (raw : List Int) (ctx : Int) : FnOk Tryz.prog 28 [pInts raw, pInt ctx] (fun rs => rs = [pPatch (madeS raw ctx), pStr (writeOf (madeS raw ctx))]) := by
  have hal := pickA_len raw
  have hbl := pickB_len raw
  obtain ⟨m1, m2, m3, m4⟩ := madeS_facts raw ctx
  have hnames : (madeS raw ctx).OldName.length ≤ 200 ∧ (madeS raw ctx).NewName.length ≤ 200 := by
    unfold check12 at m2
    split at m2
    · cases m2
    · rename_i h
      have h1 : nameOk (madeS raw ctx).OldName = true := by cases q : nameOk (madeS raw ctx).OldName <;> simp [q] at h ⊢
      have h2 : nameOk (madeS raw ctx).NewName = true := by cases q : nameOk (madeS raw ctx).NewName <;> simp [q] at h ⊢
      exact ⟨(of_decide_eq_true h1).2, (of_decide_eq_true h2).2⟩
  have hM := rmakeD_ok [111, 32, 120] [110] (pickA raw) (pickB raw) (modOf ctx 3) false (by omega) (by omega)
  rw [m1] at hM
  have hW := write_good m2 m3 hnames.1 hnames.2
  obtain ⟨p, hp⟩ : ∃ p, p = madeS raw ctx := ⟨_, rfl⟩
  obtain ⟨w, hw⟩ : ∃ w, w = writeOf (madeS raw ctx) := ⟨_, rfl⟩
  rw [← hw] at hW
  rw [← hp] at hM hW
  rw [← hw, ← hp]
  refine FnOk.intro Tryz.func28 (by decide) rfl rfl rfl rfl ?_
  refine k2 ?_
  refine c_region ?_; refine l_effv (f_alloc 4 rfl) rfl ?_; refine l_neu (n_assign rfl rfl) rfl ?_; refine l_nil ?_
  refine k1 ?_; refine k2 ?_
  refine c_region ?_; refine l_neu (n_move rfl rfl) rfl ?_; refine l_call (blob_ok raw 0 9 5 (by omega) (by omega) (by omega)) rfl rfl rfl ?_; rintro _ rfl; refine l_neu (n_assign rfl rfl) rfl ?_; refine l_nil ?_
  rw [show blobOf raw 0 9 5 = pickA raw from rfl]
  refine k1 ?_; refine k2 ?_
  refine c_region ?_; refine l_neu (n_move rfl rfl) rfl ?_; refine l_neu (n_move rfl rfl) rfl ?_; refine l_neu (n_move rfl rfl) rfl ?_; refine l_call (near_ok (pickA raw) raw 100 (by omega) (by omega)) rfl rfl rfl ?_; rintro _ rfl; refine l_neu (n_move rfl rfl) rfl ?_; refine l_call (mod_ok ctx 3 (by omega) (by omega)) rfl rfl rfl ?_; rintro _ rfl; refine l_call (hM) rfl rfl rfl ?_; rintro _ rfl; refine l_neu (n_move rfl rfl) rfl ?_; refine l_neu (n_extract rfl rfl) rfl ?_; refine l_neu (n_extract rfl rfl) rfl ?_; refine l_effv (f_alloc 7 rfl) rfl ?_; refine l_eff (e_store_ref TySz.out rfl rfl rfl rfl rfl rfl) ?_; refine l_neu (n_assign rfl rfl) rfl ?_; refine l_nil ?_
  refine k1 ?_; refine k2 ?_
  refine c_region_draw (by kernel_rfl) (by kernel_rfl) ?_; refine d_neu (n_loads_ref rfl rfl rfl) rfl rfl ?_; refine d_neu (n_loads_ref rfl rfl rfl) rfl rfl ?_; refine d_neu (n_call1 (hW) rfl rfl) rfl rfl ?_; refine d_eff (e_store_ref TySz.out rfl rfl rfl rfl rfl rfl) rfl ?_; refine d_neu (n_assign rfl rfl) rfl rfl ?_; refine d_nil ?_
  refine k1 ?_; refine k10 ?_
  exact ret_ret (rs := [pPatch p, pStr w]) (retc2 rfl rfl rfl rfl rfl rfl rfl) rfl
end Go.Proofs.YtjjidificdmnmaaGreatDoor
namespace Go.Proofs.YtjjidificdmnmaaGreatDoor
open Go Go.AL
set_option maxRecDepth 100000
set_option maxHeartbeats 2000000
end Go.Proofs.YtjjidificdmnmaaGreatDoor
