/- Walks of the program's functions. -/
import Derived.Test.YtjjidificdmnmaaGreatDoorFc
import Derived.Test.YtjjidificdmnmaaGreatDoorFb
import Derived.Test.YtjjidificdmnmaaGreatDoorFs
namespace Go.Proofs.YtjjidificdmnmaaGreatDoor
open Go Go.AL
set_option maxRecDepth 100000
abbrev tI (i : Int) : S1 := .one (.p (.v (.int .i64 i)))
abbrev tIs (l : List Int) : S1 := .one (.p (.list Int 1 intC l))
abbrev tB (b : Bool) : S1 := .one (.p (.v (.bool b)))
abbrev mvO (l : List Change) (a b : List Int) : Obs := [(700, .box [.mut 701, .p (.list Int 1 intC a), .p (.list Int 1 intC b)]), (701, .grow 78 Change 4 changeC l)]
def sideS (c : Change) (a b : List Int) : List S1 := if c.NewLen = 0 then [tIs a, tI c.Old, tI c.OldLen, tB true] else if c.OldLen = 0 then [tIs b, tI c.New, tI c.NewLen, tB true] else [.one (.p (.v (.slice none 0 0))), tI 0, tI 0, tB false]
theorem region_met {gf : Fr} (l : List Change) (a b : List Int) (k : Nat) (c : Change) (hv : l[k]? = some c) :
    Met Tryz.prog 158 [.one (.ref 700 0), tI k] gf (mvO l a b) [708] (fun rs ob' => rs = sideS c a b ∧ ob' = mvO l a b) := by
  have hk := (List.getElem?_eq_some_iff.1 hv).1
  refine Met.intro Tryz.func158 (by decide) rfl rfl rfl ?_
  refine k2 ?_
  refine c_region ?_; refine l_neu (n_assign rfl rfl) rfl ?_; refine l_neu (n_assign rfl rfl) rfl ?_; refine l_neu (n_assign rfl rfl) rfl ?_; refine l_neu (n_assign rfl rfl) rfl ?_; refine l_nil ?_
  refine k1 ?_; refine k2 ?_
  refine c_region ?_; refine l_neu (n_move rfl rfl) rfl ?_; refine l_neu (n_nilCheck_ref rfl) rfl ?_; refine l_neu (n_field_ref rfl) rfl ?_; refine l_neu (n_load_ref rfl rfl rfl) rfl ?_; refine l_neu (n_move rfl rfl) rfl ?_; refine l_neu (n_indexAddr_g rfl rfl rfl (by omega) (by omega)) rfl ?_; refine l_neu (n_loads_g rfl rfl hv rfl) rfl ?_; refine l_effv (e_alloc 708 rfl (by decide)) rfl ?_; refine l_eff (e_store_ref TySz.out rfl rfl rfl rfl rfl rfl) ?_; refine l_nil ?_
  refine k1 ?_; refine k2 ?_; refine k3 ?_; refine k2 ?_
  refine c_region ?_; refine l_neu (n_field_ref rfl) rfl ?_; refine l_neu (n_load_ref rfl rfl rfl) rfl ?_; refine l_neu (n_eql rfl rfl) rfl ?_; refine l_neu (n_assign rfl rfl) rfl ?_; refine l_nil ?_
  refine k1 ?_
  refine c_cond rfl (fun ht => ?_) (fun ht => ?_)
  · have h1 := of_decide_eq_true ht
    refine k2 ?_
    refine c_region_draw (by kernel_rfl) (by kernel_rfl) ?_; refine d_neu (n_move rfl rfl) rfl rfl ?_; refine d_neu (n_nilCheck_ref rfl) rfl rfl ?_; refine d_neu (n_field_ref rfl) rfl rfl ?_; refine d_neu (n_load_ref rfl rfl rfl) rfl rfl ?_; refine d_neu (n_field_ref rfl) rfl rfl ?_; refine d_neu (n_load_ref rfl rfl rfl) rfl rfl ?_; refine d_neu (n_field_ref rfl) rfl rfl ?_; refine d_neu (n_load_ref rfl rfl rfl) rfl rfl ?_; refine d_neu (n_assign rfl rfl) rfl rfl ?_; refine d_neu (n_assign rfl rfl) rfl rfl ?_; refine d_neu (n_assign rfl rfl) rfl rfl ?_; refine d_neu (n_assign rfl rfl) rfl rfl ?_; refine d_nil ?_
    refine k1 ?_; refine k10 ?_; refine k12 ?_; refine k11 ?_
    exact met_ret (rets4 rfl rfl rfl rfl rfl) (by repeat (first | exact tail_refl | refine tail_cons rfl ?_ | refine tail_forget _ ?_)) (ObIn.spec (ob' := mvO l a b) ⟨rfl, rfl, trivial⟩) ⟨by unfold sideS; rw [if_pos h1]; rfl, rfl⟩
  · have h1 := of_decide_eq_false ht
    refine k2 ?_
    refine c_region ?_; refine l_neu (n_field_ref rfl) rfl ?_; refine l_neu (n_load_ref rfl rfl rfl) rfl ?_; refine l_neu (n_eql rfl rfl) rfl ?_; refine l_neu (n_assign rfl rfl) rfl ?_; refine l_nil ?_
    refine k1 ?_
    refine c_cond rfl (fun ht => ?_) (fun ht => ?_)
    · have h2 := of_decide_eq_true ht
      refine k2 ?_
      refine c_region_draw (by kernel_rfl) (by kernel_rfl) ?_; refine d_neu (n_move rfl rfl) rfl rfl ?_; refine d_neu (n_nilCheck_ref rfl) rfl rfl ?_; refine d_neu (n_field_ref rfl) rfl rfl ?_; refine d_neu (n_load_ref rfl rfl rfl) rfl rfl ?_; refine d_neu (n_field_ref rfl) rfl rfl ?_; refine d_neu (n_load_ref rfl rfl rfl) rfl rfl ?_; refine d_neu (n_field_ref rfl) rfl rfl ?_; refine d_neu (n_load_ref rfl rfl rfl) rfl rfl ?_; refine d_neu (n_assign rfl rfl) rfl rfl ?_; refine d_neu (n_assign rfl rfl) rfl rfl ?_; refine d_neu (n_assign rfl rfl) rfl rfl ?_; refine d_neu (n_assign rfl rfl) rfl rfl ?_; refine d_nil ?_
      refine k1 ?_; refine k10 ?_; refine k12 ?_; refine k11 ?_
      exact met_ret (rets4 rfl rfl rfl rfl rfl) (by repeat (first | exact tail_refl | refine tail_cons rfl ?_ | refine tail_forget _ ?_)) (ObIn.spec (ob' := mvO l a b) ⟨rfl, rfl, trivial⟩) ⟨by unfold sideS; rw [if_neg h1, if_pos h2]; rfl, rfl⟩
    · have h2 := of_decide_eq_false ht
      refine k5 ?_; refine k2 ?_
      refine c_region ?_; refine l_neu (n_assign rfl rfl) rfl ?_; refine l_neu (n_assign rfl rfl) rfl ?_; refine l_neu (n_assign rfl rfl) rfl ?_; refine l_neu (n_assign rfl rfl) rfl ?_; refine l_nil ?_
      refine k1 ?_; refine k10 ?_
      exact met_ret (rets4 rfl rfl rfl rfl rfl) (by repeat (first | exact tail_refl | refine tail_cons rfl ?_ | refine tail_forget _ ?_)) (ObIn.spec (ob' := mvO l a b) ⟨rfl, rfl, trivial⟩) ⟨by unfold sideS; rw [if_neg h1, if_neg h2], rfl⟩
theorem end_met {gf : Fr} (l : List Change) (a b : List Int) (k : Nat) (c : Change) (hv : l[k]? = some c) (h1 : 0 ≤ c.Old ∧ c.Old ≤ 4096) (h2 : 0 ≤ c.OldLen ∧ c.OldLen ≤ 4096) :
    Met Tryz.prog 159 [.one (.ref 700 0), tI k] gf (mvO l a b) [] (fun rs ob' => rs = [tI (c.Old + c.OldLen)] ∧ ob' = mvO l a b) := by
  have hk := (List.getElem?_eq_some_iff.1 hv).1
  refine Met.intro Tryz.func159 (by decide) rfl rfl rfl ?_
  refine k2 ?_
  refine c_region ?_; refine l_neu (n_assign rfl rfl) rfl ?_; refine l_nil ?_
  refine k1 ?_; refine k2 ?_
  refine c_region_draw (by kernel_rfl) (by kernel_rfl) ?_; refine d_neu (n_move rfl rfl) rfl rfl ?_; refine d_neu (n_nilCheck_ref rfl) rfl rfl ?_; refine d_neu (n_field_ref rfl) rfl rfl ?_; refine d_neu (n_load_ref rfl rfl rfl) rfl rfl ?_; refine d_neu (n_move rfl rfl) rfl rfl ?_; refine d_neu (n_indexAddr_g rfl rfl rfl (by omega) (by omega)) rfl rfl ?_; refine d_neu (n_field_mref rfl) rfl rfl ?_; refine d_neu (n_load_g rfl rfl hv rfl) rfl rfl ?_; refine d_neu (n_move rfl rfl) rfl rfl ?_; refine d_neu (n_nilCheck_ref rfl) rfl rfl ?_; refine d_neu (n_field_ref rfl) rfl rfl ?_; refine d_neu (n_load_ref rfl rfl rfl) rfl rfl ?_; refine d_neu (n_move rfl rfl) rfl rfl ?_; refine d_neu (n_indexAddr_g rfl rfl rfl (by omega) (by omega)) rfl rfl ?_; refine d_neu (n_field_mref rfl) rfl rfl ?_; refine d_neu (n_load_g rfl rfl hv rfl) rfl rfl ?_; refine d_neu (n_add rfl rfl (by omega)) rfl rfl ?_; refine d_neu (n_assign rfl rfl) rfl rfl ?_; refine d_nil ?_
  refine k1 ?_; refine k10 ?_
  exact met_ret (rets1 rfl rfl) (by repeat (first | exact tail_refl | refine tail_cons rfl ?_ | refine tail_forget _ ?_)) (ObIn.spec (ob' := mvO l a b) ⟨rfl, rfl, trivial⟩) ⟨rfl, rfl⟩
theorem sdown_met {gf : Fr} (l : List Change) (a b : List Int) (k : Nat) (hk : k < l.length) (hl : l.length ≤ 32768) (ha : a.length ≤ 4096) (hb : b.length ≤ 4096) (hsc : scriptGo 0 0 0 l a.length b.length = true) :
    Met Tryz.prog 112 [.one (.ref 700 0), tI k] gf (mvO l a b) [708] (fun rs ob' => rs = [tB (canDown l a b k)] ∧ ob' = mvO (if canDown l a b k = true then movedOf l k else l) a b) := by
  have hok := scriptGo_ok _ _ _ _ _ _ hsc
  obtain ⟨c, hc⟩ : ∃ c, c = cAt l k := ⟨_, rfl⟩
  have hv : l[k]? = some c := by rw [hc]; exact cAt_get hk
  have hg := hok.get k hk
  rw [← hc] at hg
  obtain ⟨c1, c2, c3, c4, c5, c6⟩ := hg
  unfold in81 at c1 c2 c3 c4
  have hnx : k + 1 < l.length → l[k + 1]? = some (cAt l (k + 1)) ∧ 0 ≤ (cAt l (k + 1)).Old ∧ (cAt l (k + 1)).Old ≤ a.length := fun h => by
    have := hok.get (k + 1) h
    unfold in81 at this
    exact ⟨cAt_get h, this.1.1, by omega⟩
  have hnx' : k + 1 < l.length → l[((k : Int) + 1).toNat]? = some (cAt l (k + 1)) := fun h => by
    rw [show ((k : Int) + 1).toNat = k + 1 by omega]; exact cAt_get h
  obtain ⟨z, hz⟩ : ∃ z : Int, z = if k + 1 < l.length then (cAt l (k + 1)).Old - (c.Old + c.OldLen) - 1 else a.length - (c.Old + c.OldLen) := ⟨_, rfl⟩
  have hge := sc_end _ _ _ 0 0 0 hsc
  have hcase : (∃ (t : List Int) (f n : Int), sideS c a b = [tIs t, tI f, tI n, tB true] ∧ canDown l a b k = decide (1 ≤ z ∧ atI t f = atI t (f + n)) ∧ t.length ≤ 4096 ∧ 0 ≤ f ∧ 0 ≤ n ∧ (1 ≤ z → f + n < t.length)) ∨ (sideS c a b = [.one (.p (.v (.slice none 0 0))), tI 0, tI 0, tB false] ∧ canDown l a b k = false) := by
    have hzr : (1 ≤ z ↔ (k + 1 = l.length ∨ c.Old + c.OldLen + 1 < (cAt l (k + 1)).Old) ∧ c.Old + c.OldLen < a.length) ∧ (1 ≤ z ↔ (k + 1 = l.length ∨ c.Old + c.OldLen + 1 < (cAt l (k + 1)).Old) ∧ c.New + c.NewLen < b.length) := by
      by_cases q : k + 1 < l.length
      · rw [if_pos q] at hz
        have g1 := hnx q
        have g2 := hok.get (k + 1) q
        have g3 := sc_get _ _ _ 0 0 0 hsc (k + 1) q
        rw [eoI_succ, enI_succ, ← hc] at g3
        unfold in81 endC endN at g3
        unfold in81 at g2
        omega
      · rw [if_neg q] at hz
        have q2 : l.length = k + 1 := by omega
        rw [q2, eoI_succ, enI_succ, ← hc] at hge
        unfold endC endN at hge
        omega
    unfold sideS canDown
    rw [← hc]
    by_cases h1 : c.NewLen = 0
    · rw [if_pos h1, if_pos h1]
      refine .inl ⟨_, _, _, rfl, ?_, ha, c1.1, c2.1, fun h => (hzr.1.1 h).2⟩
      have e : downT l k a c.Old c.OldLen ↔ 1 ≤ z ∧ atI a c.Old = atI a (c.Old + c.OldLen) := by
        unfold downT
        rw [← hc, hzr.1]
        constructor
        · rintro ⟨⟨q1, q2⟩, q3⟩; exact ⟨⟨q3, q1⟩, q2⟩
        · rintro ⟨⟨q3, q1⟩, q2⟩; exact ⟨⟨q1, q2⟩, q3⟩
      simp only [e]
    · rw [if_neg h1, if_neg h1]
      by_cases h2 : c.OldLen = 0
      · rw [if_pos h2, if_pos h2]
        refine .inl ⟨_, _, _, rfl, ?_, hb, c3.1, c4.1, fun h => (hzr.2.1 h).2⟩
        have e : downT l k b c.New c.NewLen ↔ 1 ≤ z ∧ atI b c.New = atI b (c.New + c.NewLen) := by
          unfold downT
          rw [← hc, hzr.2]
          constructor
          · rintro ⟨⟨q1, q2⟩, q3⟩; exact ⟨⟨q3, q1⟩, q2⟩
          · rintro ⟨⟨q3, q1⟩, q2⟩; exact ⟨⟨q1, q2⟩, q3⟩
        simp only [e]
      · rw [if_neg h2, if_neg h2]; exact .inr ⟨rfl, rfl⟩
  rcases hcase with ⟨t, f, n, hr, hcd, ht4, f0, n0, fn⟩ | ⟨hr, hcd⟩
  · have hrm := fun gf => region_met (gf := gf) l a b k c hv
    rw [hr] at hrm
    have hat : ∀ i : Int, 0 ≤ i → i < t.length → t[i.toNat]? = some (atI t i) := fun i h0 h1 => by
      unfold atI; rw [List.getD_eq_getElem?_getD, List.getElem?_eq_getElem (show i.toNat < t.length by omega)]; rfl
    refine Met.introH Tryz.func112 (by decide) rfl rfl rfl (fun hH => ?_)
    refine k2 ?_
    refine c_region ?_; refine l_neu (n_assign rfl rfl) rfl ?_; refine l_nil ?_
    refine k1 ?_; refine k2 ?_
    refine c_region ?_; refine l_neu (n_move rfl rfl) rfl ?_; refine l_neu (n_move rfl rfl) rfl ?_; refine l_met (hrm _) rfl rfl rfl ?_; rintro _ _ ⟨rfl, rfl⟩; refine l_neu (n_move rfl rfl) rfl ?_; refine l_neu (n_extract rfl rfl) rfl ?_; refine l_neu (n_extract rfl rfl) rfl ?_; refine l_neu (n_extract rfl rfl) rfl ?_; refine l_neu (n_extract rfl rfl) rfl ?_; refine l_neu (n_assign rfl rfl) rfl ?_; refine l_neu (n_assign rfl rfl) rfl ?_; refine l_neu (n_assign rfl rfl) rfl ?_; refine l_neu (n_assign rfl rfl) rfl ?_; refine l_nil ?_
    refine k1 ?_; refine k2 ?_; refine k2 ?_
    refine c_region ?_; refine l_neu (n_move rfl rfl) rfl ?_; refine l_neu (n_not rfl) rfl ?_; refine l_nil ?_
    refine k1 ?_
    refine c_cond rfl (fun ht => ?_) (fun ht => ?_)
    · cases ht
    refine k5 ?_; refine k1 ?_; refine k2 ?_
    refine c_cut ([(0, .s (.one (.ref 700 0))), (1, sInt k), (5, sList Int 1 intC t), (6, sInt f), (7, sInt n)] ++ Fr.forget 708 gf) (mvO l a b) (Sees.tailed ⟨le1 rfl, le1 rfl, le1 rfl, le1 rfl, le1 rfl, trivial⟩ (high_forget hH) (by repeat (first | exact tail_refl | refine tail_drop rfl ?_ | refine tail_cons rfl ?_ | refine tail_forget' _ ?_)) (ObIn.spec (ob' := mvO l a b) ⟨rfl, rfl, trivial⟩)) ?_
    refine c_region_ord [7] [[], [7]] [(7, ([], []))] [(0, []), (1, []), (2, []), (3, []), (4, []), (5, []), (6, []), (7, []), (8, [7]), (9, [7])] [(0, [7]), (1, [7]), (2, [7]), (3, [7]), (4, [7])] (by kernel_rfl) (by kernel_rfl) ?_; refine w_neu rfl rfl rfl rfl rfl (n_move rfl rfl) ?_; refine w_neu rfl rfl rfl rfl rfl (n_nilCheck_ref rfl) ?_; refine w_neu rfl rfl rfl rfl rfl (n_field_ref rfl) ?_; refine w_neu rfl rfl rfl rfl rfl (n_load_ref rfl rfl rfl) ?_; refine w_neu rfl rfl rfl rfl rfl (n_len rfl (.pure _ _ _ _)) ?_; refine w_neu rfl rfl rfl rfl rfl (n_move rfl rfl) ?_; refine w_neu rfl rfl rfl rfl rfl (n_move rfl rfl) ?_; refine w_eff rfl rfl rfl rfl rfl (r_met (fun gf => end_met l a b k c hv c1 c2) rfl rfl) rfl ?_; refine w_neu rfl rfl rfl rfl rfl (n_sub rfl rfl (by omega)) ?_; refine w_neu rfl rfl rfl rfl rfl (n_assign rfl rfl) ?_; refine w_nil rfl rfl ?_ ?_
    · refine x_neu rfl rfl rfl rfl rfl (n_move rfl rfl) ?_; refine x_neu rfl rfl rfl rfl rfl (n_nilCheck_ref rfl) ?_; refine x_neu rfl rfl rfl rfl rfl (n_field_ref rfl) ?_; refine x_neu rfl rfl rfl rfl rfl (n_load_ref rfl rfl rfl) ?_; refine x_neu rfl rfl rfl rfl rfl (n_len rfl (.pure _ _ _ _)) ?_; exact x_nil
    refine then_normal ?_
    refine c_cut ([(0, .s (.one (.ref 700 0))), (1, sInt k), (5, sList Int 1 intC t), (6, sInt f), (7, sInt n), (9, sInt ((a.length : Int) - (c.Old + c.OldLen)))] ++ Fr.forget 708 gf) (mvO l a b) (Sees.tailed ⟨le1 rfl, le1 rfl, le1 rfl, le1 rfl, le1 rfl, le1 rfl, trivial⟩ (high_forget hH) (by repeat (first | exact tail_refl | refine tail_drop rfl ?_ | refine tail_cons rfl ?_ | refine tail_forget' _ ?_)) (ObIn.spec (ob' := mvO l a b) ⟨rfl, rfl, trivial⟩)) ?_
    refine c_join ([(0, .s (.one (.ref 700 0))), (1, sInt k), (5, sList Int 1 intC t), (6, sInt f), (7, sInt n), (9, sInt z)] ++ Fr.forget 708 gf) (mvO l a b) ?_ ?_
    · refine k2 ?_
      refine c_region ?_; refine l_neu (n_move rfl rfl) rfl ?_; refine l_neu (n_add rfl rfl (by omega)) rfl ?_; refine l_neu (n_move rfl rfl) rfl ?_; refine l_neu (n_nilCheck_ref rfl) rfl ?_; refine l_neu (n_field_ref rfl) rfl ?_; refine l_neu (n_load_ref rfl rfl rfl) rfl ?_; refine l_neu (n_len_g rfl rfl) rfl ?_; refine l_neu (n_lss rfl rfl) rfl ?_; refine l_nil ?_
      refine k1 ?_
      refine c_cond rfl (fun ht => ?_) (fun ht => ?_)
      · have h1 : k + 1 < l.length := by have := of_decide_eq_true ht; omega
        have hn1 := hnx h1
        rw [if_pos h1] at hz
        skip
        refine c_region_ord [11] [[], [11]] [(11, ([], []))] [(0, []), (1, []), (2, []), (3, []), (4, []), (5, []), (6, []), (7, []), (8, []), (9, []), (10, []), (11, []), (12, [11]), (13, [11]), (14, [11])] [(0, [11]), (1, [11]), (2, [11]), (3, [11]), (4, [11]), (5, [11]), (6, [11]), (7, [11]), (8, [11])] (by kernel_rfl) (by kernel_rfl) ?_; refine w_neu rfl rfl rfl rfl rfl (n_move rfl rfl) ?_; refine w_neu rfl rfl rfl rfl rfl (n_nilCheck_ref rfl) ?_; refine w_neu rfl rfl rfl rfl rfl (n_field_ref rfl) ?_; refine w_neu rfl rfl rfl rfl rfl (n_load_ref rfl rfl rfl) ?_; refine w_neu rfl rfl rfl rfl rfl (n_move rfl rfl) ?_; refine w_neu rfl rfl rfl rfl rfl (n_add rfl rfl (by omega)) ?_; refine w_neu rfl rfl rfl rfl rfl (n_indexAddr_g rfl rfl rfl (by omega) (by omega)) ?_; refine w_neu rfl rfl rfl rfl rfl (n_field_mref rfl) ?_; refine w_neu rfl rfl rfl rfl rfl (n_load_g rfl rfl (hnx' h1) rfl) ?_; refine w_neu rfl rfl rfl rfl rfl (n_move rfl rfl) ?_; refine w_neu rfl rfl rfl rfl rfl (n_move rfl rfl) ?_; refine w_eff rfl rfl rfl rfl rfl (r_met (fun gf => end_met l a b k c hv c1 c2) rfl rfl) rfl ?_; refine w_neu rfl rfl rfl rfl rfl (n_sub rfl rfl (by omega)) ?_; refine w_neu rfl rfl rfl rfl rfl (n_sub rfl rfl (by omega)) ?_; refine w_neu rfl rfl rfl rfl rfl (n_assign rfl rfl) ?_; refine w_nil rfl rfl ?_ ?_
        · refine x_neu rfl rfl rfl rfl rfl (n_move rfl rfl) ?_; refine x_neu rfl rfl rfl rfl rfl (n_nilCheck_ref rfl) ?_; refine x_neu rfl rfl rfl rfl rfl (n_field_ref rfl) ?_; refine x_neu rfl rfl rfl rfl rfl (n_load_ref rfl rfl rfl) ?_; refine x_neu rfl rfl rfl rfl rfl (n_move rfl rfl) ?_; refine x_neu rfl rfl rfl rfl rfl (n_add rfl rfl (by omega)) ?_; refine x_neu rfl rfl rfl rfl rfl (n_indexAddr_g rfl rfl rfl (by omega) (by omega)) ?_; refine x_neu rfl rfl rfl rfl rfl (n_field_mref rfl) ?_; refine x_neu rfl rfl rfl rfl rfl (n_load_g rfl rfl (hnx' h1) rfl) ?_; exact x_nil
        refine k1 ?_
        rw [hz]
        exact (Sees.tailed ⟨le1 rfl, le1 rfl, le1 rfl, le1 rfl, le1 rfl, le1 rfl, trivial⟩ (high_forget hH) (by repeat (first | exact tail_refl | refine tail_drop rfl ?_ | refine tail_cons rfl ?_ | refine tail_forget' _ ?_)) (ObIn.spec (ob' := mvO l a b) ⟨rfl, rfl, trivial⟩))
      · have h1 : ¬ k + 1 < l.length := by have := of_decide_eq_false ht; omega
        rw [if_neg h1] at hz
        refine k5 ?_; refine k1 ?_
        rw [hz]
        exact (Sees.tailed ⟨le1 rfl, le1 rfl, le1 rfl, le1 rfl, le1 rfl, le1 rfl, trivial⟩ (high_forget hH) (by repeat (first | exact tail_refl | refine tail_drop rfl ?_ | refine tail_cons rfl ?_ | refine tail_forget' _ ?_)) (ObIn.spec (ob' := mvO l a b) ⟨rfl, rfl, trivial⟩))
    · refine k2 ?_; refine k2 ?_
      refine c_region_draw (by kernel_rfl) (by kernel_rfl) ?_; refine d_neu (n_move rfl rfl) rfl rfl ?_; refine d_neu (n_lss rfl rfl) rfl rfl ?_; refine d_neu (n_move rfl rfl) rfl rfl ?_; refine d_guard rfl rfl (fun hg => by rw [hg]; exact n_move rfl rfl) rfl rfl ?_; refine d_guard rfl rfl (fun hg => by rw [hg]; exact n_move rfl rfl) rfl rfl ?_; refine d_guard rfl rfl (fun hg => by have hq := hg; (try simp at hq); rw [hg]; exact n_indexAddr rfl (.pure _ _ _ _) rfl (by omega) (hat f f0 (by have := fn (by omega); omega))) rfl rfl ?_; refine d_guard rfl rfl (fun hg => by rw [hg]; exact n_load_eref rfl rfl) rfl rfl ?_; refine d_guard rfl rfl (fun hg => by rw [hg]; exact n_move rfl rfl) rfl rfl ?_; refine d_guard rfl rfl (fun hg => by rw [hg]; exact n_move rfl rfl) rfl rfl ?_; refine d_guard rfl rfl (fun hg => by rw [hg]; exact n_move rfl rfl) rfl rfl ?_; refine d_guard rfl rfl (fun hg => by have hq := hg; (try simp at hq); rw [hg]; exact n_add rfl rfl (by omega)) rfl rfl ?_; refine d_guard rfl rfl (fun hg => by have hq := hg; (try simp at hq); rw [hg]; exact n_indexAddr rfl (.pure _ _ _ _) rfl (by omega) (hat (f + n) (by omega) (by have := fn (by omega); omega))) rfl rfl ?_; refine d_guard rfl rfl (fun hg => by rw [hg]; exact n_load_eref rfl rfl) rfl rfl ?_; refine d_guard rfl rfl (fun hg => by rw [hg]; exact n_neq rfl rfl) rfl rfl ?_; refine d_neu (n_pick_bool rfl (fun h => by first | rfl | (rw [h]; rfl)) (fun h => by first | rfl | (rw [h]; rfl))) rfl rfl ?_; refine d_nil ?_
      refine k1 ?_
      refine c_cond rfl (fun ht => ?_) (fun ht => ?_)
      · have h1 : ¬ (1 ≤ z ∧ atI t f = atI t (f + n)) := by
          rintro ⟨q1, q2⟩
          simp [q2] at ht
          omega
        rw [hcd, decide_eq_false h1]
        refine k2 ?_
        refine c_region ?_; refine l_neu (n_assign rfl rfl) rfl ?_; refine l_nil ?_
        refine k1 ?_; refine k10 ?_; refine k11 ?_
        exact met_ret (rets1 rfl rfl) (by repeat (first | exact tail_refl | refine tail_cons rfl ?_ | refine tail_forget _ ?_)) (ObIn.spec (ob' := mvO l a b) ⟨rfl, rfl, trivial⟩) ⟨rfl, rfl⟩
      · have h1 : 1 ≤ z := Classical.byContradiction fun q => by simp [show z < 1 by omega] at ht
        have h2 : atI t f = atI t (f + n) := Classical.byContradiction fun q => by simp [q] at ht
        rw [hcd, decide_eq_true (show 1 ≤ z ∧ atI t f = atI t (f + n) from ⟨h1, h2⟩)]
        rw [if_pos rfl]
        obtain ⟨c', hc'⟩ : ∃ c' : Change, c' = { c with Old := c.Old + 1 } := ⟨_, rfl⟩
        have hv' : (l.set k c')[k]? = some c' := List.getElem?_set_self hk
        have hfin : (l.set k c').set k ({ c' with New := c'.New + 1 } : Change) = movedOf l k := by
          rw [List.set_set]; unfold movedOf; rw [← hc, hc']; rfl
        have hl' : (l.set k c').length = l.length := by simp
        refine k5 ?_; refine k1 ?_; refine k2 ?_
        refine c_region ?_; refine l_neu (n_move rfl rfl) rfl ?_; refine l_neu (n_nilCheck_ref rfl) rfl ?_; refine l_neu (n_field_ref rfl) rfl ?_; refine l_neu (n_load_ref rfl rfl rfl) rfl ?_; refine l_neu (n_move rfl rfl) rfl ?_; refine l_neu (n_indexAddr_g rfl rfl rfl (by omega) (by omega)) rfl ?_; refine l_neu (n_field_mref rfl) rfl ?_; refine l_neu (n_load_g rfl rfl hv rfl) rfl ?_; refine l_neu (n_add rfl rfl (by omega)) rfl ?_; refine l_neu (n_indexAddr_g rfl rfl rfl (by omega) (by omega)) rfl ?_; refine l_neu (n_field_mref rfl) rfl ?_; refine l_eff (e_store_g (({ c with Old := c.Old + 1 } : Change)) TySz.out rfl rfl hv rfl rfl rfl rfl (fun _ _ _ h => all2_unp h) (by intro j h1 h2; rcases j with _ | _ | _ | _ | _ | _ | _ | j <;> first | rfl | omega)) ?_; refine l_nil ?_
        rw [Int.toNat_natCast, ← hc']
        refine k1 ?_; refine k2 ?_
        refine c_region ?_; refine l_neu (n_move rfl rfl) rfl ?_; refine l_neu (n_nilCheck_ref rfl) rfl ?_; refine l_neu (n_field_ref rfl) rfl ?_; refine l_neu (n_load_ref rfl rfl rfl) rfl ?_; refine l_neu (n_move rfl rfl) rfl ?_; refine l_neu (n_indexAddr_g rfl rfl rfl (by omega) (by (rw [hl']; omega))) rfl ?_; refine l_neu (n_field_mref rfl) rfl ?_; refine l_neu (n_load_g rfl rfl hv' rfl) rfl ?_; refine l_neu (n_add rfl rfl (by (rw [hc']; dsimp only; omega))) rfl ?_; refine l_neu (n_indexAddr_g rfl rfl rfl (by omega) (by (rw [hl']; omega))) rfl ?_; refine l_neu (n_field_mref rfl) rfl ?_; refine l_eff (e_store_g (({ c' with New := c'.New + 1 } : Change)) TySz.out rfl rfl hv' rfl rfl rfl rfl (fun _ _ _ h => all2_unp h) (by intro j h1 h2; rcases j with _ | _ | _ | _ | _ | _ | _ | j <;> first | rfl | omega)) ?_; refine l_nil ?_
        rw [Int.toNat_natCast, hfin]
        refine k1 ?_; refine k2 ?_
        refine c_region ?_; refine l_neu (n_assign rfl rfl) rfl ?_; refine l_nil ?_
        refine k1 ?_; refine k10 ?_
        exact met_ret (rets1 rfl rfl) (by repeat (first | exact tail_refl | refine tail_cons rfl ?_ | refine tail_forget _ ?_)) (ObIn.spec (ob' := mvO (movedOf l k) a b) ⟨rfl, rfl, trivial⟩) ⟨rfl, rfl⟩
  · have hrm := fun gf => region_met (gf := gf) l a b k c hv
    rw [hr] at hrm
    rw [hcd]
    refine Met.intro Tryz.func112 (by decide) rfl rfl rfl ?_
    refine k2 ?_
    refine c_region ?_; refine l_neu (n_assign rfl rfl) rfl ?_; refine l_nil ?_
    refine k1 ?_; refine k2 ?_
    refine c_region ?_; refine l_neu (n_move rfl rfl) rfl ?_; refine l_neu (n_move rfl rfl) rfl ?_; refine l_met (hrm _) rfl rfl rfl ?_; rintro _ _ ⟨rfl, rfl⟩; refine l_neu (n_move rfl rfl) rfl ?_; refine l_neu (n_extract rfl rfl) rfl ?_; refine l_neu (n_extract rfl rfl) rfl ?_; refine l_neu (n_extract rfl rfl) rfl ?_; refine l_neu (n_extract rfl rfl) rfl ?_; refine l_neu (n_assign rfl rfl) rfl ?_; refine l_neu (n_assign rfl rfl) rfl ?_; refine l_neu (n_assign rfl rfl) rfl ?_; refine l_neu (n_assign rfl rfl) rfl ?_; refine l_nil ?_
    refine k1 ?_; refine k2 ?_; refine k2 ?_
    refine c_region ?_; refine l_neu (n_move rfl rfl) rfl ?_; refine l_neu (n_not rfl) rfl ?_; refine l_nil ?_
    refine k1 ?_
    refine c_cond rfl (fun ht => ?_) (fun ht => ?_)
    · refine k2 ?_
      refine c_region ?_; refine l_neu (n_assign rfl rfl) rfl ?_; refine l_nil ?_
      refine k1 ?_; refine k10 ?_; refine k11 ?_
      exact met_ret (rets1 rfl rfl) (by repeat (first | exact tail_refl | refine tail_cons rfl ?_ | refine tail_forget _ ?_)) (ObIn.spec (ob' := mvO l a b) ⟨rfl, rfl, trivial⟩) ⟨rfl, rfl⟩
    · cases ht
theorem often_met {gf : Fr} {x y : List Str} {a b : List Int} (ia : IdsOf x a) (ib : IdsOf y b) (l : List Change) (k : Nat) (hk : k < l.length) (hl : l.length ≤ 32768) (h : ScFit x y l) :
    Met Tryz.prog 111 [.one (.clo 112 [(700, 0)] []), tI k] gf (mvO l a b) [708] (fun rs ob' => (∃ n : Int, rs = [tI n]) ∧ ob' = mvO (slideOne a b l k) a b) := by
  have hla := ia.len
  have hlb := ib.len
  have hxl := h.lx
  have hyl := h.ly
  refine Met.introH Tryz.func111 (by decide) rfl rfl rfl (fun hH => ?_)
  refine k2 ?_
  refine c_region ?_; refine l_neu (n_assign rfl rfl) rfl ?_; refine l_nil ?_
  refine k1 ?_; refine k2 ?_
  refine c_region ?_; refine l_neu (n_assign rfl rfl) rfl ?_; refine l_nil ?_
  refine k1 ?_; refine k2 ?_; refine k3 ?_
  refine c_sees (Sees.tailL 708 (l := [(0, .s (.one (.clo 112 [(700, 0)] []))), (1, sInt k), (5, sInt 0)]) (L := mvO l a b) ⟨le1 rfl, le1 rfl, le1 rfl, trivial⟩ hH (by repeat (first | exact tail_refl | refine tail_cons rfl ?_)) ⟨rfl, rfl, trivial⟩) ?_
  refine c_while (X := Nat × List Change) (fun s => ([(0, .s (.one (.clo 112 [(700, 0)] []))), (1, sInt k), (5, sInt s.1)] ++ Fr.forget 708 gf, mvO s.2 a b)) (fun s => s.2.length = l.length ∧ ScFit x y s.2 ∧ slideOne a b s.2 k = slideOne a b l k ∧ s.1 + measK s.2 a b k ≤ measK l a b k) (fun s => measK s.2 a b k) (0, l) ⟨rfl, h, rfl, by dsimp only; omega⟩ (Sees.tailed ⟨le1 rfl, le1 rfl, le1 rfl, trivial⟩ (high_forget hH) (by repeat (first | exact tail_refl | refine tail_cons rfl ?_)) (ObIn.spec (ob' := mvO l a b) ⟨rfl, rfl, trivial⟩)) ?_
  rintro ⟨n, l2⟩ ⟨hl2, hf2, hs2, hn⟩
  dsimp only at hl2 hf2 hs2 hn ⊢
  have hsc := hf2.sc
  rw [← hla, ← hlb] at hsc
  have hml : measK l a b k ≤ 16384 := by
    have := (scriptGo_ok _ _ _ _ _ _ h.sc).get k hk
    unfold measK
    obtain ⟨⟨q1, _⟩, _, ⟨q2, _⟩, _⟩ := this
    omega
  refine k2 ?_; refine k2 ?_
  refine c_region ?_; refine l_neu (n_move rfl rfl) rfl ?_; refine l_neu (n_move rfl rfl) rfl ?_; refine l_metF (sdown_met l2 a b k (by omega) (by omega) (by omega) (by omega) hsc) rfl rfl rfl rfl ?_; rintro _ _ ⟨rfl, rfl⟩; refine l_nil ?_
  refine k1 ?_
  refine c_cond rfl (fun ht => ?_) (fun ht => ?_)
  · have hm := meas_down ia ib hf2 (by omega) ht
    have hst := slideOne_down ia ib hf2 (by omega) ht
    rw [if_pos ht]
    refine k5 ?_; refine k1 ?_; refine k3 ?_
    refine c_region ?_; refine l_neu (n_move rfl rfl) rfl ?_; refine l_neu (n_add rfl rfl (by omega)) rfl ?_; refine l_neu (n_assign rfl rfl) rfl ?_; refine l_nil ?_
    refine k4 ?_; refine k1 ?_
    refine ⟨(n + 1, movedOf l2 k), ⟨by dsimp only; rw [movedOf_length]; exact hl2, hf2.down ia ib (by omega) ht, by dsimp only; rw [← hst]; exact hs2, by dsimp only; omega⟩, hm, ?_⟩
    exact Sees.tailed ⟨le1 rfl, le1 rfl, le1 rfl, trivial⟩ (high_forget hH) (by repeat (first | exact tail_refl | refine tail_drop rfl ?_ | refine tail_cons rfl ?_ | refine tail_forget' _ ?_)) (ObIn.spec (ob' := mvO (movedOf l2 k) a b) ⟨rfl, rfl, trivial⟩)
  · have hst := slideOne_stop (a := a) (b := b) ht
    rw [hst] at hs2
    have hif : (if canDown l2 a b k = true then movedOf l2 k else l2) = slideOne a b l k := by rw [← hs2, if_neg (by rw [ht]; decide)]
    rw [hif]
    refine k6 ?_; refine k2 ?_
    refine c_region ?_; refine l_neu (n_move rfl rfl) rfl ?_; refine l_neu (n_assign rfl rfl) rfl ?_; refine l_nil ?_
    refine k1 ?_; refine k10 ?_
    exact met_ret (rets1 rfl rfl) (by repeat (first | exact tail_refl | refine tail_cons rfl ?_ | refine tail_forget' _ ?_)) (ObIn.spec (ob' := mvO (slideOne a b l k) a b) ⟨rfl, rfl, trivial⟩) ⟨⟨_, rfl⟩, rfl⟩
theorem clone_met {gf : Fr} (l : List Change) (hl : l.length ≤ 1073741824) :
    Met Tryz.prog 157 [.one (.p (.list Change 4 changeC l))] gf [] [701] (fun rs ob' => rs = [.one (.mut 701)] ∧ ob' = [(701, .grow 78 Change 4 changeC l)]) := by
  refine Met.intro Tryz.func157 (by decide) rfl rfl rfl ?_
  refine k2 ?_
  refine c_region ?_; refine l_neu (n_assign rfl rfl) rfl ?_; refine l_nil ?_
  refine k1 ?_; refine k2 ?_; refine k2 ?_
  refine c_region ?_; refine l_neu (n_move rfl rfl) rfl ?_; (first | (refine l_neuP (n_eql_nil rfl (.pure _ _ _ _)) rfl ?_) | (refine l_neuP (n_eql_nil rfl (.buf _ _ _ _ _)) rfl ?_)); rintro _ ⟨b1, rfl, hnil⟩; refine l_nil ?_
  refine k1 ?_
  refine c_cond rfl (fun ht => ?_) (fun ht => ?_)
  · rw [hnil ht]
    refine k2 ?_
    refine c_region ?_; refine l_effv (e_adoptG 701 _ changeC rfl rfl) rfl ?_; refine l_nil ?_
    refine k1 ?_; refine k10 ?_; refine k11 ?_
    exact met_ret (rets1 rfl rfl) (by repeat (first | exact tail_refl | refine tail_cons rfl ?_ | refine tail_forget _ ?_)) (fun _ _ h => h) ⟨rfl, rfl⟩
  · refine k5 ?_; refine k1 ?_; refine k2 ?_
    refine c_region ?_; refine l_effv (e_buildG 701 _ changeC rfl rfl rfl) rfl ?_; refine l_neu (n_move rfl rfl) rfl ?_; refine l_effv (e_append_g rfl rfl rfl (.pure _ _ _ _) (by (simp; omega)) rfl) rfl ?_; refine l_neu (n_assign rfl rfl) rfl ?_; refine l_nil ?_
    simp only [List.nil_append]
    refine k1 ?_; refine k10 ?_
    exact met_ret (rets1 rfl rfl) (by (repeat refine tail_cons rfl ?_); refine tail_forget' _ ?_; (repeat refine tail_cons rfl ?_); refine tail_forget _ ?_; (repeat (first | exact tail_refl | refine tail_cons rfl ?_))) (ObIn.spec (ob' := [(701, .grow 78 Change 4 changeC l)]) ⟨rfl, trivial⟩) ⟨rfl, rfl⟩
theorem start_met {gf : Fr} (l : List Change) (a b : List Int) (hl : l.length ≤ 32768) (hc : check8 l a.length b.length = 0) (hp : ∀ p ∈ matchedOf l a.length, PairAt a b p) :
    Met Tryz.prog 110 [.one (.p (.list Change 4 changeC l)), tIs a, tIs b] gf [] [701, 700] (fun rs ob' => rs = [.one (.ref 700 0), tI 0] ∧ ob' = mvO l a b) := by
  refine Met.intro Tryz.func110 (by decide) rfl rfl rfl ?_
  refine k2 ?_
  refine c_region ?_; refine l_neu (n_assign rfl rfl) rfl ?_; refine l_neu (n_assign rfl rfl) rfl ?_; refine l_nil ?_
  refine k1 ?_; refine k2 ?_; refine k2 ?_
  refine c_region ?_; refine l_neu (n_move rfl rfl) rfl ?_; refine l_neu (n_move rfl rfl) rfl ?_; refine l_neu (n_move rfl rfl) rfl ?_; refine l_call (sFits_ok l a b hl hc hp) rfl rfl rfl ?_; rintro _ rfl; refine l_neu (n_not rfl) rfl ?_; refine l_nil ?_
  refine k1 ?_
  refine c_cond rfl (fun ht => ?_) (fun ht => ?_)
  · cases ht
  refine k5 ?_; refine k1 ?_; refine k2 ?_
  refine c_region ?_; refine l_neu (n_move rfl rfl) rfl ?_; refine l_met (clone_met l (by omega)) rfl rfl rfl ?_; rintro _ _ ⟨rfl, rfl⟩; refine l_neu (n_move rfl rfl) rfl ?_; refine l_neu (n_move rfl rfl) rfl ?_; refine l_neu (n_build rfl) rfl ?_; refine l_effv (e_box 700 rfl rfl rfl (by decide)) rfl ?_; refine l_neu (n_assign rfl rfl) rfl ?_; refine l_neu (n_assign rfl rfl) rfl ?_; refine l_nil ?_
  refine k1 ?_; refine k10 ?_
  exact met_ret (rets2 rfl rfl rfl) (by repeat (first | exact tail_refl | refine tail_cons rfl ?_ | refine tail_forget _ ?_)) (ObIn.spec (ob' := mvO l a b) ⟨rfl, rfl, trivial⟩) ⟨rfl, rfl⟩
theorem sDown_ok (x y names : List Str) (l : List Change) (h : ScFit x y l) (hl : l.length ≤ 32768) (hx : ∀ s ∈ x, s ∈ names) (hy : ∀ s ∈ y, s ∈ names) :
    FnOk Tryz.prog 72 [pChanges l, pInts (idsOf names x), pInts (idsOf names y)] (fun rs => rs = [pChanges (downOf l (idsOf names x) (idsOf names y)), pInt 0]) := by
  obtain ⟨a, ha⟩ : ∃ a, a = idsOf names x := ⟨_, rfl⟩
  obtain ⟨b, hb⟩ : ∃ b, b = idsOf names y := ⟨_, rfl⟩
  have hpp := fit_pairs (names := names) h
  have ia : IdsOf x a := by rw [ha]; exact idsOf_ids hx
  have ib : IdsOf y b := by rw [hb]; exact idsOf_ids hy
  rw [← ha, ← hb] at hpp ⊢
  have hla := ia.len
  have hlb := ib.len
  have hck := h.check
  rw [← hla, ← hlb] at hck
  refine FnOk.intro Tryz.func72 (by decide) rfl rfl rfl rfl ?_
  refine k2 ?_
  refine c_region ?_; refine l_neu (n_assign rfl rfl) rfl ?_; refine l_neu (n_assign rfl rfl) rfl ?_; refine l_nil ?_
  refine k1 ?_; refine k2 ?_
  refine c_region ?_; refine l_neu (n_move rfl rfl) rfl ?_; refine l_neu (n_move rfl rfl) rfl ?_; refine l_neu (n_move rfl rfl) rfl ?_; refine l_met (start_met l a b hl hck hpp) rfl rfl rfl ?_; rintro _ _ ⟨rfl, rfl⟩; refine l_neu (n_move rfl rfl) rfl ?_; refine l_neu (n_extract rfl rfl) rfl ?_; refine l_neu (n_extract rfl rfl) rfl ?_; refine l_neu (n_assign rfl rfl) rfl ?_; refine l_neu (n_assign rfl rfl) rfl ?_; refine l_nil ?_
  refine k1 ?_; refine k2 ?_; refine k2 ?_
  refine c_region ?_; refine l_neu (n_move rfl rfl) rfl ?_; refine l_neu (n_neq rfl rfl) rfl ?_; refine l_nil ?_
  refine k1 ?_
  refine c_cond rfl (fun ht => ?_) (fun ht => ?_)
  · cases ht
  refine k5 ?_; refine k1 ?_; refine k2 ?_; refine k2 ?_
  refine c_region ?_; refine l_neu (n_move rfl rfl) rfl ?_; refine l_neu (n_len rfl (.pure _ _ _ _)) rfl ?_; refine l_neu (n_sub rfl rfl (by omega)) rfl ?_; refine l_neu (n_assign rfl rfl) rfl ?_; refine l_nil ?_
  refine k1 ?_; refine k3 ?_
  refine c_while (X := Nat × List Change) (fun s => ([(8, .s (.one (.ref 700 0))), (10, sInt ((s.1 : Int) - 1))], mvO s.2 a b)) (fun s => s.1 ≤ l.length ∧ s.2.length = l.length ∧ ScFit x y s.2 ∧ slideAll a b s.1 s.2 = downOf l a b) (fun s => s.1) (l.length, l) ⟨Nat.le_refl _, rfl, h, rfl⟩ (Sees.of ⟨le1 rfl, le1 rfl, trivial⟩ ⟨rfl, rfl, trivial⟩) ?_
  rintro ⟨n, l1⟩ ⟨hn, hl1, hf1, hs1⟩
  dsimp only at hn hl1 hf1 hs1 ⊢
  refine k2 ?_; refine k2 ?_
  refine c_region ?_; refine l_neu (n_move rfl rfl) rfl ?_; refine l_neu (n_geq rfl rfl) rfl ?_; refine l_nil ?_
  refine k1 ?_
  refine c_cond rfl (fun ht => ?_) (fun ht => ?_)
  · have hn0 : 0 < n := by have := of_decide_eq_true ht; omega
    obtain ⟨k, rfl⟩ : ∃ k, n = k + 1 := ⟨n - 1, by omega⟩
    rw [show ((k + 1 : Nat) : Int) - 1 = k by omega]
    have hfit := slideOne_fit ia ib hf1 (k := k) (by omega)
    have hlen := lens_len hfit.2
    refine k5 ?_; refine k1 ?_; refine k2 ?_; refine k3 ?_
    refine c_region ?_; refine l_neu (n_move rfl rfl) rfl ?_; refine l_neu (n_makeFunc rfl rfl) rfl ?_; refine l_neu (n_move rfl rfl) rfl ?_; refine l_met (often_met ia ib l1 k (by omega) (by omega) hf1) rfl rfl rfl ?_; rintro _ _ ⟨⟨cnt, rfl⟩, rfl⟩; refine l_nil ?_
    refine k4 ?_; refine k1 ?_
    refine c_region ?_; refine l_neu (n_move rfl rfl) rfl ?_; refine l_neu (n_sub rfl rfl (by omega)) rfl ?_; refine l_neu (n_assign rfl rfl) rfl ?_; refine l_nil ?_
    refine k1 ?_
    exact ⟨(k, slideOne a b l1 k), ⟨by dsimp only; omega, by dsimp only; omega, hfit.1, hs1⟩, by dsimp only; omega, Sees.of ⟨le1 rfl, le1 rfl, trivial⟩ ⟨rfl, rfl, trivial⟩⟩
  · have hn0 : n = 0 := by have := of_decide_eq_false ht; omega
    subst hn0
    have hs1 : l1 = downOf l a b := hs1
    refine k6 ?_; refine k2 ?_
    refine c_region ?_; refine l_neu (n_move rfl rfl) rfl ?_; refine l_neu (n_nilCheck_ref rfl) rfl ?_; refine l_neu (n_field_ref rfl) rfl ?_; refine l_neu (n_load_ref rfl rfl rfl) rfl ?_; refine l_neu (n_assign rfl rfl) rfl ?_; refine l_neu (n_assign rfl rfl) rfl ?_; refine l_nil ?_
    refine k1 ?_
    refine c_sees (Sees.growBuf (t := 6) rfl rfl rfl) ?_
    refine k10 ?_
    exact ret_ret (ret2 rfl rfl rfl rfl rfl) (by rw [hs1])
end Go.Proofs.YtjjidificdmnmaaGreatDoor
namespace Go.Proofs.YtjjidificdmnmaaGreatDoor
open Go Go.AL
set_option maxRecDepth 100000
set_option maxHeartbeats 1000000
theorem umake_ok (on nn a b : Str) (ctx : Int) (d : Bool) (ha : a.length ≤ 4096) (hb : b.length ≤ 4096) :
    FnOk Tryz.prog 40 [pStr on, pStr nn, pStr a, pStr b, pInt ctx, pBool d] (fun rs => rs = [pPatch (made12 on nn a b ctx d).1, pInt (made12 on nn a b ctx d).2]) := by
  obtain ⟨x, hx⟩ : ∃ x, x = linesOf a := ⟨_, rfl⟩
  obtain ⟨y, hy⟩ : ∃ y, y = linesOf b := ⟨_, rfl⟩
  obtain ⟨f1, f2⟩ := lines_flat a
  obtain ⟨f3, f4⟩ := lines_flat b
  rw [← hx] at f1 f2
  rw [← hy] at f3 f4
  have hsa := splitOf_small ha
  have hsb := splitOf_small hb
  rw [← hx] at hsa
  rw [← hy] at hsb
  have hxm : ∀ s ∈ x, s ∈ namesOf [x, y] := fun s hs => namesOf_mem _ _ x (by simp) hs
  have hym : ∀ s ∈ y, s ∈ namesOf [x, y] := fun s hs => namesOf_mem _ _ y (by simp) hs
  have i1 : (idsOf (namesOf [x, y]) x).length = x.length := by simp [idsOf]
  have i2 : (idsOf (namesOf [x, y]) y).length = y.length := by simp [idsOf]
  have hs0 := script_fit x y (by omega) (by omega)
  have hs0l := scriptOf_len x y
  have hdf := (scriptD_fit x y d (by omega) (by omega)).1
  have hdl := scriptD_len x y d (by omega) (by omega)
  obtain ⟨l, hl⟩ : ∃ l, l = scriptD x y d := ⟨_, rfl⟩
  rw [← hl] at hdf hdl
  have hmk : made12 on nn a b ctx d = if nameOk on = false ∨ nameOk nn = false then (patch0, 120) else if ctx < 0 ∨ 1048576 < ctx then (patch0, 3) else (⟨on, nn, hunksOf l x y ctx⟩, 0) := by rw [hl, hx, hy]; rfl
  refine FnOk.intro Tryz.func40 (by decide) rfl rfl rfl rfl ?_
  refine k2 ?_
  refine c_region ?_; refine l_effv (f_alloc 12 rfl) rfl ?_; refine l_neu (n_assign rfl rfl) rfl ?_; refine l_nil ?_
  refine k1 ?_; refine k2 ?_; refine k2 ?_
  refine c_region ?_; refine l_neu (n_move rfl rfl) rfl ?_; refine l_call (unamed_ok on) rfl rfl rfl ?_; rintro _ rfl; refine l_neu (n_not rfl) rfl ?_; refine l_neu (n_move rfl rfl) rfl ?_; refine l_guard rfl rfl rfl rfl (fun hg => by rw [hg]; exact n_move rfl rfl) ?_; refine l_guard rfl rfl rfl rfl (fun hg => by have hq := hg; (try simp at hq); rw [hg]; exact n_call1 (unamed_ok nn) rfl rfl) ?_; refine l_guard rfl rfl rfl rfl (fun hg => by rw [hg]; exact n_not rfl) ?_; refine l_neu (n_pick_bool rfl (fun h => by first | rfl | (rw [h]; rfl)) (fun h => by first | rfl | (rw [h]; rfl))) rfl ?_; refine l_nil ?_
  refine k1 ?_
  refine c_cond rfl (fun ht => ?_) (fun ht => ?_)
  · simp only [notB, or_pick] at ht
    have h := of_decide_eq_true ht
    refine k2 ?_
    refine c_region ?_; refine l_neu (n_build rfl) rfl ?_; refine l_eff (e_store_ref TySz.out rfl rfl rfl rfl rfl rfl) ?_; refine l_neu (n_assign rfl rfl) rfl ?_; refine l_nil ?_
    refine k1 ?_
    refine c_sees (Sees.listB PatchHunk 3 phunkC 12 2 rfl rfl) ?_
    refine k10 ?_; refine k11 ?_
    exact ret_ret (rs := [pPatch patch0, pInt 120]) (retc2 rfl rfl rfl rfl rfl rfl rfl) (by rw [hmk, if_pos h])
  simp only [notB, or_pick] at ht
  have h := of_decide_eq_false ht
  rw [if_neg h] at hmk
  have hn1 : nameOk on = true := by cases q : nameOk on <;> simp [q] at h ⊢
  have hn2 : nameOk nn = true := by cases q : nameOk nn <;> simp [q] at h ⊢
  refine k5 ?_; refine k1 ?_; refine k2 ?_
  refine c_region ?_; refine l_neu (n_move rfl rfl) rfl ?_; refine l_call (tsplit_ok a (by omega)) rfl rfl rfl ?_; rintro _ rfl; refine l_neu (n_move rfl rfl) rfl ?_; refine l_neu (n_extract rfl rfl) rfl ?_; refine l_neu (n_extract rfl rfl) rfl ?_; refine l_neu (n_assign rfl rfl) rfl ?_; refine l_neu (n_assign rfl rfl) rfl ?_; refine l_nil ?_
  rw [hsa]
  refine k1 ?_; refine k2 ?_; refine k2 ?_
  refine c_region ?_; refine l_neu (n_move rfl rfl) rfl ?_; refine l_neu (n_neq rfl rfl) rfl ?_; refine l_nil ?_
  refine k1 ?_
  refine c_cond rfl (fun ht => ?_) (fun ht => ?_)
  · cases ht
  refine k5 ?_; refine k1 ?_; refine k2 ?_
  refine c_region ?_; refine l_neu (n_move rfl rfl) rfl ?_; refine l_call (tsplit_ok b (by omega)) rfl rfl rfl ?_; rintro _ rfl; refine l_neu (n_move rfl rfl) rfl ?_; refine l_neu (n_extract rfl rfl) rfl ?_; refine l_neu (n_extract rfl rfl) rfl ?_; refine l_neu (n_assign rfl rfl) rfl ?_; refine l_neu (n_assign rfl rfl) rfl ?_; refine l_nil ?_
  rw [hsb]
  refine k1 ?_; refine k2 ?_; refine k2 ?_
  refine c_region ?_; refine l_neu (n_move rfl rfl) rfl ?_; refine l_neu (n_neq rfl rfl) rfl ?_; refine l_nil ?_
  refine k1 ?_
  refine c_cond rfl (fun ht => ?_) (fun ht => ?_)
  · cases ht
  refine k5 ?_; refine k1 ?_; refine k2 ?_
  refine c_region ?_; refine l_neu (n_move rfl rfl) rfl ?_; refine l_neu (n_move rfl rfl) rfl ?_; refine l_neu (n_buildSlice (c := strsC) (ys := [x, y]) (asm_cons rfl rfl rfl rfl (asm_cons rfl rfl rfl rfl asm_nil)) rfl rfl rfl) rfl ?_; refine l_call (internIds_ok [x, y] (by simp) (by simp; omega)) rfl rfl rfl ?_; rintro _ rfl; refine l_neu (n_assign rfl rfl) rfl ?_; refine l_nil ?_
  refine k1 ?_; refine k2 ?_
  refine c_region_draw (by kernel_rfl) (by kernel_rfl) ?_; refine d_neu (n_move rfl rfl) rfl rfl ?_; refine d_neu (n_indexAddr rfl (.pure _ _ _ _) rfl (by omega) (show ([x, y].map (idsOf (namesOf [x, y])))[(0 : Int).toNat]? = some (idsOf (namesOf [x, y]) x) from rfl)) rfl rfl ?_; refine d_neu (n_load_eref rfl rfl) rfl rfl ?_; refine d_neu (n_move rfl rfl) rfl rfl ?_; refine d_neu (n_indexAddr rfl (.pure _ _ _ _) rfl (by omega) (show ([x, y].map (idsOf (namesOf [x, y])))[(1 : Int).toNat]? = some (idsOf (namesOf [x, y]) y) from rfl)) rfl rfl ?_; refine d_neu (n_load_eref rfl rfl) rfl rfl ?_; refine d_neu (n_call1 (sScript_ok (idsOf (namesOf [x, y]) x) (idsOf (namesOf [x, y]) y) (by omega) (by omega)) rfl rfl) rfl rfl ?_; refine d_neu (n_move rfl rfl) rfl rfl ?_; refine d_neu (n_extract rfl rfl) rfl rfl ?_; refine d_neu (n_extract rfl rfl) rfl rfl ?_; refine d_neu (n_assign rfl rfl) rfl rfl ?_; refine d_neu (n_assign rfl rfl) rfl rfl ?_; refine d_nil ?_
  rw [show walkOf (idsOf (namesOf [x, y]) x) (idsOf (namesOf [x, y]) y) = scriptOf x y from rfl]
  refine then_normal ?_
  refine c_cut [(0, sStr on), (1, sStr nn), (4, sInt ctx), (5, sVal (.bool d)), (12, .s (.one (.ref 12 0))), (14, sList Str 1 strC x), (16, sList Str 1 strC y), (17, sList (List Int) 1 intsC ([x, y].map (idsOf (namesOf [x, y])))), (18, sList Change 4 changeC (scriptOf x y))] [(12, .box [.p (.v (.string ⟨#[]⟩)), .p (.v (.string ⟨#[]⟩)), .p (.v (.slice none 0 0))])] (Sees.of ⟨le1 rfl, le1 rfl, le1 rfl, le1 rfl, le1 rfl, le1 rfl, le1 rfl, le1 rfl, le1 rfl, trivial⟩ ⟨rfl, trivial⟩) ?_
  refine c_join [(0, sStr on), (1, sStr nn), (4, sInt ctx), (12, .s (.one (.ref 12 0))), (14, sList Str 1 strC x), (16, sList Str 1 strC y), (18, sList Change 4 changeC l)] [(12, .box [.p (.v (.string ⟨#[]⟩)), .p (.v (.string ⟨#[]⟩)), .p (.v (.slice none 0 0))])] ?_ ?_
  · refine k2 ?_
    refine c_region ?_; refine l_neu (n_move rfl rfl) rfl ?_; refine l_nil ?_
    refine k1 ?_
    refine c_cond rfl (fun ht => ?_) (fun ht => ?_)
    · have hd : d = true := ht
      have hl2 : l = downOf (scriptOf x y) (idsOf (namesOf [x, y]) x) (idsOf (namesOf [x, y]) y) := by rw [hl, hd]; rfl
      skip
      refine c_region_draw (by kernel_rfl) (by kernel_rfl) ?_; refine d_neu (n_move rfl rfl) rfl rfl ?_; refine d_neu (n_move rfl rfl) rfl rfl ?_; refine d_neu (n_indexAddr rfl (.pure _ _ _ _) rfl (by omega) (show ([x, y].map (idsOf (namesOf [x, y])))[(0 : Int).toNat]? = some (idsOf (namesOf [x, y]) x) from rfl)) rfl rfl ?_; refine d_neu (n_load_eref rfl rfl) rfl rfl ?_; refine d_neu (n_move rfl rfl) rfl rfl ?_; refine d_neu (n_indexAddr rfl (.pure _ _ _ _) rfl (by omega) (show ([x, y].map (idsOf (namesOf [x, y])))[(1 : Int).toNat]? = some (idsOf (namesOf [x, y]) y) from rfl)) rfl rfl ?_; refine d_neu (n_load_eref rfl rfl) rfl rfl ?_; refine d_neu (n_call1 (sDown_ok x y (namesOf [x, y]) (scriptOf x y) hs0 (by omega) hxm hym) rfl rfl) rfl rfl ?_; refine d_neu (n_move rfl rfl) rfl rfl ?_; refine d_neu (n_extract rfl rfl) rfl rfl ?_; refine d_neu (n_extract rfl rfl) rfl rfl ?_; refine d_neu (n_assign rfl rfl) rfl rfl ?_; refine d_nil ?_
      rw [← hl2]
      refine k1 ?_
      exact Sees.of ⟨le1 rfl, le1 rfl, le1 rfl, le1 rfl, le1 rfl, le1 rfl, le1 rfl, trivial⟩ ⟨rfl, trivial⟩
    · have hd : d = false := ht
      have hl2 : l = scriptOf x y := by rw [hl, hd]; rfl
      rw [← hl2]
      refine k5 ?_; refine k1 ?_
      exact Sees.of ⟨le1 rfl, le1 rfl, le1 rfl, le1 rfl, le1 rfl, le1 rfl, le1 rfl, trivial⟩ ⟨rfl, trivial⟩
  refine k2 ?_
  refine c_region ?_; refine l_neu (n_move rfl rfl) rfl ?_; refine l_neu (n_move rfl rfl) rfl ?_; refine l_neu (n_len rfl (.pure _ _ _ _)) rfl ?_; refine l_neu (n_move rfl rfl) rfl ?_; refine l_neu (n_len rfl (.pure _ _ _ _)) rfl ?_; refine l_neu (n_move rfl rfl) rfl ?_; refine l_call (hGroup_ok l x.length y.length ctx (by omega)) rfl rfl rfl ?_; rintro _ rfl; refine l_neu (n_move rfl rfl) rfl ?_; refine l_neu (n_extract rfl rfl) rfl ?_; refine l_neu (n_extract rfl rfl) rfl ?_; refine l_neu (n_assign rfl rfl) rfl ?_; refine l_neu (n_assign rfl rfl) rfl ?_; refine l_nil ?_
  refine k1 ?_; refine k2 ?_; refine k2 ?_
  by_cases hcx : ctx < 0 ∨ 1048576 < ctx
  · rw [group_err hcx]
    refine c_region ?_; refine l_neu (n_move rfl rfl) rfl ?_; refine l_neu (n_neq rfl rfl) rfl ?_; refine l_nil ?_
    refine k1 ?_
    refine c_cond rfl (fun ht => ?_) (fun ht => ?_)
    · refine k2 ?_
      refine c_region ?_; refine l_neu (n_build rfl) rfl ?_; refine l_neu (n_move rfl rfl) rfl ?_; refine l_eff (e_store_ref TySz.out rfl rfl rfl rfl rfl rfl) ?_; refine l_neu (n_assign rfl rfl) rfl ?_; refine l_nil ?_
      refine k1 ?_
      refine c_sees (Sees.listB PatchHunk 3 phunkC 12 2 rfl rfl) ?_
      refine k10 ?_; refine k11 ?_
      exact ret_ret (rs := [pPatch patch0, pInt 3]) (retc2 rfl rfl rfl rfl rfl rfl rfl) (by rw [hmk, if_pos hcx])
    · cases ht
  rw [group_fit hdf hcx]
  rw [if_neg hcx] at hmk
  have hmd := made12_is on nn a b l ctx hn1 hn2 hcx ha hb (by rw [← hx, ← hy]; exact hdf)
  have hgo := groupTo_ok hdf.ok (by omega) (ctx := ctx) l.length (Nat.le_refl _)
  have hgl := (groupTo_len l x.length ctx l.length).1
  have hho : hunksOf l x y ctx = (groupTo l x.length ctx l.length).map (hunkOfG l x y) := rfl
  obtain ⟨g, hg⟩ : ∃ g, g = groupTo l x.length ctx l.length := ⟨_, rfl⟩
  rw [← hg] at hgo hgl hho ⊢
  refine c_region ?_; refine l_neu (n_move rfl rfl) rfl ?_; refine l_neu (n_neq rfl rfl) rfl ?_; refine l_nil ?_
  refine k1 ?_
  refine c_cond rfl (fun ht => ?_) (fun ht => ?_)
  · cases ht
  refine k5 ?_; refine k1 ?_; refine k2 ?_
  refine c_region ?_; refine l_neu (n_move rfl rfl) rfl ?_; refine l_neu (n_move rfl rfl) rfl ?_; refine l_neu (n_build rfl) rfl ?_; refine l_effv (f_alloc 21 rfl) rfl ?_; refine l_eff (e_store_ref TySz.out rfl rfl rfl rfl rfl rfl) ?_; refine l_nil ?_
  refine c_cut [(12, .s (.one (.ref 12 0))), (14, sList Str 1 strC x), (16, sList Str 1 strC y), (18, sList Change 4 changeC l), (20, sList Hunk 6 hunkC g), (21, .s (.one (.ref 21 0)))] [(12, .box [.p (.v (.string ⟨#[]⟩)), .p (.v (.string ⟨#[]⟩)), .p (.v (.slice none 0 0))]), (21, .box [.p (.v (.string ⟨on.toArray⟩)), .p (.v (.string ⟨nn.toArray⟩)), .p (.v (.slice none 0 0))])] (Sees.of ⟨le1 rfl, le1 rfl, le1 rfl, le1 rfl, le1 rfl, le1 rfl, trivial⟩ ⟨rfl, rfl, trivial⟩) ?_
  refine c_sees (Sees.adoptB 702 PatchHunk 3 phunkC 29 (kb := 21) (o := 2) rfl rfl rfl) ?_
  refine k2 ?_; refine k2 ?_
  refine c_region ?_; refine l_neu (n_move rfl rfl) rfl ?_; refine l_neu (n_len rfl (.pure _ _ _ _)) rfl ?_; refine l_neu (n_move rfl rfl) rfl ?_; refine l_nil ?_
  refine k1 ?_; refine k3 ?_
  refine c_while (X := Nat) (fun k => ([(12, .s (.one (.ref 12 0))), (14, sList Str 1 strC x), (16, sList Str 1 strC y), (18, sList Change 4 changeC l), (21, .s (.one (.ref 21 0))), (94, sList Hunk 6 hunkC g), (95, sInt g.length), (96, sInt k)], [(12, .box [.p (.v (.string ⟨#[]⟩)), .p (.v (.string ⟨#[]⟩)), .p (.v (.slice none 0 0))]), (21, .box [.p (.v (.string ⟨on.toArray⟩)), .p (.v (.string ⟨nn.toArray⟩)), .buf 702 PatchHunk 3 phunkC ((g.take k).map (hunkOfG l x y))]), (702, .spare ((g.take k).map (hunkOfG l x y)).length 3 29)])) (fun k => k ≤ g.length) (fun k => g.length - k) 0 (Nat.zero_le _) (Sees.of ⟨le1 rfl, le1 rfl, le1 rfl, le1 rfl, le1 rfl, le1 rfl, le1 rfl, le1 rfl, trivial⟩ ⟨rfl, rfl, rfl, trivial⟩) ?_
  intro k hk
  dsimp only at hk ⊢
  refine k2 ?_
  refine c_region ?_; refine l_neu (n_lss rfl rfl) rfl ?_; refine l_nil ?_
  refine k1 ?_; refine k2 ?_
  refine c_cond rfl (fun ht => ?_) (fun ht => ?_)
  · have hlt : k < g.length := by have := of_decide_eq_true ht; omega
    obtain ⟨q, hqe⟩ : ∃ q, q = g[k] := ⟨_, rfl⟩
    have hv : g[k]? = some q := by rw [hqe]; simp [hlt]
    have hq := hgo _ (List.mem_of_getElem? hv)
    have htk : (g.take (k + 1)).map (hunkOfG l x y) = (g.take k).map (hunkOfG l x y) ++ [hunkOfG l x y q] := by rw [List.take_succ_eq_append_getElem hlt, List.map_append, hqe]; rfl
    obtain ⟨hs, hhs⟩ : ∃ hs, hs = (g.take k).map (hunkOfG l x y) := ⟨_, rfl⟩
    have hhl : hs.length = k := by rw [hhs, List.length_map, List.length_take]; omega
    rw [← hhs] at htk ⊢
    obtain ⟨z, hz⟩ : ∃ z, z = hunkOfG l x y q := ⟨_, rfl⟩
    refine k5 ?_; refine k1 ?_; refine k2 ?_; refine k3 ?_; refine k2 ?_
    refine c_region ?_; refine l_neu (n_indexAddr rfl (.pure _ _ _ _) rfl (by omega) hv) rfl ?_; refine l_neu (n_loads_eref rfl rfl) rfl ?_; refine l_effv (f_alloc 23 rfl) rfl ?_; refine l_eff (e_store_ref TySz.out rfl rfl rfl rfl rfl rfl) ?_; refine l_nil ?_
    refine k1 ?_
    refine c_region_draw (by kernel_rfl) (by kernel_rfl) ?_; refine d_neu (n_field_ref rfl) rfl rfl ?_; refine d_neu (n_load_ref rfl rfl rfl) rfl rfl ?_; refine d_neu (n_loads_ref rfl rfl rfl) rfl rfl ?_; refine d_neu (n_move rfl rfl) rfl rfl ?_; refine d_neu (n_move rfl rfl) rfl rfl ?_; refine d_neu (n_move rfl rfl) rfl rfl ?_; refine d_neu (n_call1 (ubuild_ok l x y q hdf.ok hq (by omega) (by omega) (by omega)) rfl rfl) rfl rfl ?_; refine d_neu (n_buildSlice (c := phunkC) (ys := [hunkOfG l x y q]) (asm_cons rfl rfl rfl rfl asm_nil) rfl rfl rfl) rfl rfl ?_; refine d_effv (e_append rfl rfl rfl (.pure _ _ _ _) (by (simp only [List.length_cons, List.length_nil]; omega)) rfl) rfl rfl ?_; refine d_neu (n_field_ref rfl) rfl rfl ?_; refine d_eff (e_store_ref TySz.out rfl rfl rfl rfl rfl rfl) rfl ?_; refine d_nil ?_
    rw [← htk]
    refine k4 ?_; refine k1 ?_
    refine c_region ?_; refine l_neu (n_add rfl rfl (by omega)) rfl ?_; refine l_neu (n_move rfl rfl) rfl ?_; refine l_nil ?_
    refine k1 ?_
    exact ⟨k + 1, hlt, by omega, Sees.of ⟨le1 rfl, le1 rfl, le1 rfl, le1 rfl, le1 rfl, le1 rfl, le1 rfl, le1 rfl, trivial⟩ ⟨rfl, rfl, rfl, trivial⟩⟩
  · have hk' : k = g.length := by have := of_decide_eq_false ht; omega
    subst hk'
    rw [List.take_length, ← hho]
    have hfit := hmd.fit
    have hrg := hmd.rg
    have hwr := hmd.wr
    rw [← hx, ← hy] at hfit hrg hwr
    refine k6 ?_; refine k2 ?_; refine k2 ?_
    refine c_region ?_; refine l_neu (n_loads_ref rfl rfl rfl) rfl ?_; refine l_call (usize_ok ⟨on, nn, hunksOf l x y ctx⟩ hfit hrg) rfl rfl rfl ?_; rintro _ rfl; refine l_neu (n_gtr rfl rfl) rfl ?_; refine l_nil ?_
    refine k1 ?_
    refine c_cond rfl (fun ht => ?_) (fun ht => ?_)
    · have h4 := of_decide_eq_true ht
      exact absurd h4 (by omega)
    · refine k5 ?_; refine k1 ?_; refine k2 ?_
      refine c_region ?_; refine l_neu (n_loads_ref rfl rfl rfl) rfl ?_; refine l_eff (e_store_ref TySz.out rfl rfl rfl rfl rfl rfl) ?_; refine l_neu (n_assign rfl rfl) rfl ?_; refine l_nil ?_
      refine k1 ?_; refine k10 ?_
      exact ret_ret (rs := [pPatch ⟨on, nn, hunksOf l x y ctx⟩, pInt 0]) (retc2 rfl rfl rfl rfl rfl rfl rfl) (by rw [hmk])
end Go.Proofs.YtjjidificdmnmaaGreatDoor
namespace Go.Proofs.YtjjidificdmnmaaGreatDoor
open Go Go.AL
set_option maxRecDepth 100000
set_option maxHeartbeats 1000000
theorem rmakeD_ok (on nn a b : Str) (ctx : Int) (d : Bool) (ha : a.length ≤ 4096) (hb : b.length ≤ 4096) :
    FnOk Tryz.prog 41 [pStr on, pStr nn, pStr a, pStr b, pInt ctx, pBool d] (fun rs => rs = [pPatch (made12 on nn a b ctx d).1, pInt (made12 on nn a b ctx d).2]) := by
  obtain ⟨x, hx⟩ : ∃ x, x = linesOf a := ⟨_, rfl⟩
  obtain ⟨y, hy⟩ : ∃ y, y = linesOf b := ⟨_, rfl⟩
  obtain ⟨f1, f2⟩ := lines_flat a
  obtain ⟨f3, f4⟩ := lines_flat b
  rw [← hx] at f1 f2
  rw [← hy] at f3 f4
  have hsa := splitOf_small ha
  have hsb := splitOf_small hb
  rw [← hx] at hsa
  rw [← hy] at hsb
  have hxm : ∀ s ∈ x, s ∈ namesOf [x, y] := fun s hs => namesOf_mem _ _ x (by simp) hs
  have hym : ∀ s ∈ y, s ∈ namesOf [x, y] := fun s hs => namesOf_mem _ _ y (by simp) hs
  have i1 : (idsOf (namesOf [x, y]) x).length = x.length := by simp [idsOf]
  have i2 : (idsOf (namesOf [x, y]) y).length = y.length := by simp [idsOf]
  have hs0 := script_fit x y (by omega) (by omega)
  have hs0l := scriptOf_len x y
  have hdf := (scriptD_fit x y d (by omega) (by omega)).1
  have hdl := scriptD_len x y d (by omega) (by omega)
  obtain ⟨l, hl⟩ : ∃ l, l = scriptD x y d := ⟨_, rfl⟩
  rw [← hl] at hdf hdl
  have hmk : made12 on nn a b ctx d = if nameOk on = false ∨ nameOk nn = false then (patch0, 120) else if ctx < 0 ∨ 1048576 < ctx then (patch0, 3) else (⟨on, nn, hunksOf l x y ctx⟩, 0) := by rw [hl, hx, hy]; rfl
  have hxl : x.length ≤ 4096 := by omega
  have hyl : y.length ≤ 4096 := by omega
  refine FnOk.intro Tryz.func41 (by decide) rfl rfl rfl rfl ?_
  refine k2 ?_
  refine c_region ?_; refine l_effv (f_alloc 12 rfl) rfl ?_; refine l_neu (n_assign rfl rfl) rfl ?_; refine l_nil ?_
  refine k1 ?_; refine k2 ?_; refine k2 ?_
  refine c_region ?_; refine l_neu (n_move rfl rfl) rfl ?_; refine l_call (rname_ok on) rfl rfl rfl ?_; rintro _ rfl; refine l_neu (n_not rfl) rfl ?_; refine l_neu (n_move rfl rfl) rfl ?_; refine l_guard rfl rfl rfl rfl (fun hg => by rw [hg]; exact n_move rfl rfl) ?_; refine l_guard rfl rfl rfl rfl (fun hg => by have hq := hg; (try simp at hq); rw [hg]; exact n_call1 (rname_ok nn) rfl rfl) ?_; refine l_guard rfl rfl rfl rfl (fun hg => by rw [hg]; exact n_not rfl) ?_; refine l_neu (n_pick_bool rfl (fun h => by first | rfl | (rw [h]; rfl)) (fun h => by first | rfl | (rw [h]; rfl))) rfl ?_; refine l_nil ?_
  refine k1 ?_
  refine c_cond rfl (fun ht => ?_) (fun ht => ?_)
  · simp only [notB, or_pick] at ht
    have h := of_decide_eq_true ht
    refine k2 ?_
    refine c_region ?_; refine l_neu (n_build rfl) rfl ?_; refine l_eff (e_store_ref TySz.out rfl rfl rfl rfl rfl rfl) ?_; refine l_neu (n_assign rfl rfl) rfl ?_; refine l_nil ?_
    refine k1 ?_
    refine c_sees (Sees.listB PatchHunk 3 phunkC 12 2 rfl rfl) ?_
    refine k10 ?_; refine k11 ?_
    exact ret_ret (rs := [pPatch patch0, pInt 120]) (retc2 rfl rfl rfl rfl rfl rfl rfl) (by rw [hmk, if_pos h])
  simp only [notB, or_pick] at ht
  have h := of_decide_eq_false ht
  rw [if_neg h] at hmk
  have hn1 : nameOk on = true := by cases q : nameOk on <;> simp [q] at h ⊢
  have hn2 : nameOk nn = true := by cases q : nameOk nn <;> simp [q] at h ⊢
  refine k5 ?_; refine k1 ?_; refine k2 ?_
  refine c_region ?_; refine l_neu (n_move rfl rfl) rfl ?_; refine l_call (rsplit_ok a (by omega)) rfl rfl rfl ?_; rintro _ rfl; refine l_neu (n_move rfl rfl) rfl ?_; refine l_neu (n_extract rfl rfl) rfl ?_; refine l_neu (n_extract rfl rfl) rfl ?_; refine l_neu (n_assign rfl rfl) rfl ?_; refine l_neu (n_assign rfl rfl) rfl ?_; refine l_nil ?_
  rw [hsa]
  refine k1 ?_; refine k2 ?_; refine k2 ?_
  refine c_region ?_; refine l_neu (n_move rfl rfl) rfl ?_; refine l_neu (n_neq rfl rfl) rfl ?_; refine l_nil ?_
  refine k1 ?_
  refine c_cond rfl (fun ht => ?_) (fun ht => ?_)
  · cases ht
  refine k5 ?_; refine k1 ?_; refine k2 ?_
  refine c_region ?_; refine l_neu (n_move rfl rfl) rfl ?_; refine l_call (rsplit_ok b (by omega)) rfl rfl rfl ?_; rintro _ rfl; refine l_neu (n_move rfl rfl) rfl ?_; refine l_neu (n_extract rfl rfl) rfl ?_; refine l_neu (n_extract rfl rfl) rfl ?_; refine l_neu (n_assign rfl rfl) rfl ?_; refine l_neu (n_assign rfl rfl) rfl ?_; refine l_nil ?_
  rw [hsb]
  refine k1 ?_; refine k2 ?_; refine k2 ?_
  refine c_region ?_; refine l_neu (n_move rfl rfl) rfl ?_; refine l_neu (n_neq rfl rfl) rfl ?_; refine l_nil ?_
  refine k1 ?_
  refine c_cond rfl (fun ht => ?_) (fun ht => ?_)
  · cases ht
  refine k5 ?_; refine k1 ?_; refine k2 ?_
  refine c_region ?_; refine l_neu (n_move rfl rfl) rfl ?_; refine l_neu (n_move rfl rfl) rfl ?_; refine l_call (rlines9_ok x y hxl hyl) rfl rfl rfl ?_; rintro _ rfl; refine l_neu (n_assign rfl rfl) rfl ?_; refine l_nil ?_
  rw [show walkOf (idsOf (namesOf [x, y]) x) (idsOf (namesOf [x, y]) y) = scriptOf x y from rfl]
  refine then_normal ?_
  refine c_cut [(0, sStr on), (1, sStr nn), (4, sInt ctx), (5, sVal (.bool d)), (12, .s (.one (.ref 12 0))), (14, sList Str 1 strC x), (16, sList Str 1 strC y), (17, sList Change 4 changeC (scriptOf x y))] [(12, .box [.p (.v (.string ⟨#[]⟩)), .p (.v (.string ⟨#[]⟩)), .p (.v (.slice none 0 0))])] (Sees.of ⟨le1 rfl, le1 rfl, le1 rfl, le1 rfl, le1 rfl, le1 rfl, le1 rfl, le1 rfl, trivial⟩ ⟨rfl, trivial⟩) ?_
  refine c_join [(0, sStr on), (1, sStr nn), (4, sInt ctx), (12, .s (.one (.ref 12 0))), (14, sList Str 1 strC x), (16, sList Str 1 strC y), (17, sList Change 4 changeC l)] [(12, .box [.p (.v (.string ⟨#[]⟩)), .p (.v (.string ⟨#[]⟩)), .p (.v (.slice none 0 0))])] ?_ ?_
  · refine k2 ?_
    refine c_region ?_; refine l_neu (n_move rfl rfl) rfl ?_; refine l_nil ?_
    refine k1 ?_
    refine c_cond rfl (fun ht => ?_) (fun ht => ?_)
    · have hd : d = true := ht
      have hl2 : l = downOf (scriptOf x y) (idsOf (namesOf [x, y]) x) (idsOf (namesOf [x, y]) y) := by rw [hl, hd]; rfl
      refine k2 ?_
      refine c_region ?_; refine l_neu (n_move rfl rfl) rfl ?_; refine l_neu (n_move rfl rfl) rfl ?_; refine l_neu (n_buildSlice (c := strsC) (ys := [x, y]) (asm_cons rfl rfl rfl rfl (asm_cons rfl rfl rfl rfl asm_nil)) rfl rfl rfl) rfl ?_; refine l_call (ids_ok [x, y] (by simp; omega) (by simp)) rfl rfl rfl ?_; rintro _ rfl; refine l_neu (n_assign rfl rfl) rfl ?_; refine l_nil ?_
      refine k1 ?_
      refine c_region_draw (by kernel_rfl) (by kernel_rfl) ?_; refine d_neu (n_move rfl rfl) rfl rfl ?_; refine d_neu (n_move rfl rfl) rfl rfl ?_; refine d_neu (n_indexAddr rfl (.pure _ _ _ _) rfl (by omega) (show ([x, y].map (idsOf (namesOf [x, y])))[(0 : Int).toNat]? = some (idsOf (namesOf [x, y]) x) from rfl)) rfl rfl ?_; refine d_neu (n_load_eref rfl rfl) rfl rfl ?_; refine d_neu (n_move rfl rfl) rfl rfl ?_; refine d_neu (n_indexAddr rfl (.pure _ _ _ _) rfl (by omega) (show ([x, y].map (idsOf (namesOf [x, y])))[(1 : Int).toNat]? = some (idsOf (namesOf [x, y]) y) from rfl)) rfl rfl ?_; refine d_neu (n_load_eref rfl rfl) rfl rfl ?_; refine d_neu (n_call1 (rDown10_ok x y (namesOf [x, y]) (scriptOf x y) hs0 (by omega) hxm hym) rfl rfl) rfl rfl ?_; refine d_neu (n_move rfl rfl) rfl rfl ?_; refine d_neu (n_extract rfl rfl) rfl rfl ?_; refine d_neu (n_extract rfl rfl) rfl rfl ?_; refine d_neu (n_assign rfl rfl) rfl rfl ?_; refine d_nil ?_
      rw [← hl2]
      refine k1 ?_
      exact Sees.of ⟨le1 rfl, le1 rfl, le1 rfl, le1 rfl, le1 rfl, le1 rfl, le1 rfl, trivial⟩ ⟨rfl, trivial⟩
    · have hd : d = false := ht
      have hl2 : l = scriptOf x y := by rw [hl, hd]; rfl
      rw [← hl2]
      refine k5 ?_; refine k1 ?_
      exact Sees.of ⟨le1 rfl, le1 rfl, le1 rfl, le1 rfl, le1 rfl, le1 rfl, le1 rfl, trivial⟩ ⟨rfl, trivial⟩
  refine k2 ?_
  refine c_region ?_; refine l_neu (n_move rfl rfl) rfl ?_; refine l_neu (n_move rfl rfl) rfl ?_; refine l_neu (n_len rfl (.pure _ _ _ _)) rfl ?_; refine l_neu (n_move rfl rfl) rfl ?_; refine l_neu (n_len rfl (.pure _ _ _ _)) rfl ?_; refine l_neu (n_move rfl rfl) rfl ?_; refine l_call (group_walk l x.length y.length ctx (by omega)) rfl rfl rfl ?_; rintro _ rfl; refine l_neu (n_move rfl rfl) rfl ?_; refine l_neu (n_extract rfl rfl) rfl ?_; refine l_neu (n_extract rfl rfl) rfl ?_; refine l_neu (n_assign rfl rfl) rfl ?_; refine l_neu (n_assign rfl rfl) rfl ?_; refine l_nil ?_
  refine k1 ?_; refine k2 ?_; refine k2 ?_
  by_cases hcx : ctx < 0 ∨ 1048576 < ctx
  · rw [group_err hcx]
    refine c_region ?_; refine l_neu (n_move rfl rfl) rfl ?_; refine l_neu (n_neq rfl rfl) rfl ?_; refine l_nil ?_
    refine k1 ?_
    refine c_cond rfl (fun ht => ?_) (fun ht => ?_)
    · refine k2 ?_
      refine c_region ?_; refine l_neu (n_build rfl) rfl ?_; refine l_neu (n_move rfl rfl) rfl ?_; refine l_eff (e_store_ref TySz.out rfl rfl rfl rfl rfl rfl) ?_; refine l_neu (n_assign rfl rfl) rfl ?_; refine l_nil ?_
      refine k1 ?_
      refine c_sees (Sees.listB PatchHunk 3 phunkC 12 2 rfl rfl) ?_
      refine k10 ?_; refine k11 ?_
      exact ret_ret (rs := [pPatch patch0, pInt 3]) (retc2 rfl rfl rfl rfl rfl rfl rfl) (by rw [hmk, if_pos hcx])
    · cases ht
  rw [group_fit hdf hcx]
  rw [if_neg hcx] at hmk
  have hmd := made12_is on nn a b l ctx hn1 hn2 hcx ha hb (by rw [← hx, ← hy]; exact hdf)
  have hsc := hdf.ok
  have hgo := groupTo_ok hdf.ok (by omega) (ctx := ctx) l.length (Nat.le_refl _)
  have hgl := (groupTo_len l x.length ctx l.length).1
  have hho : hunksOf l x y ctx = (groupTo l x.length ctx l.length).map (hunkOfG l x y) := rfl
  obtain ⟨g, hg⟩ : ∃ g, g = groupTo l x.length ctx l.length := ⟨_, rfl⟩
  have hscl := hdl
  rw [← hg] at hgo hgl hho ⊢
  refine c_region ?_; refine l_neu (n_move rfl rfl) rfl ?_; refine l_neu (n_neq rfl rfl) rfl ?_; refine l_nil ?_
  refine k1 ?_
  refine c_cond rfl (fun ht => ?_) (fun ht => ?_)
  · cases ht
  refine c_cut [(0, sStr on), (1, sStr nn), (12, .s (.one (.ref 12 0))), (14, sList Str 1 strC x), (16, sList Str 1 strC y), (17, sList Change 4 changeC l), (19, sList Hunk 6 hunkC g)] [(12, .box [.p (.v (.string ⟨#[]⟩)), .p (.v (.string ⟨#[]⟩)), .p (.v (.slice none 0 0))])] (Sees.of ⟨le1 rfl, le1 rfl, le1 rfl, le1 rfl, le1 rfl, le1 rfl, le1 rfl, trivial⟩ ⟨rfl, trivial⟩) ?_
  refine k5 ?_; refine k1 ?_; refine k2 ?_
  refine c_region ?_; refine l_neu (n_move rfl rfl) rfl ?_; refine l_neu (n_move rfl rfl) rfl ?_; refine l_neu (n_build rfl) rfl ?_; refine l_effv (f_alloc 20 rfl) rfl ?_; refine l_eff (e_store_ref TySz.out rfl rfl rfl rfl rfl rfl) ?_; refine l_nil ?_
  refine k1 ?_; refine k2 ?_; refine k2 ?_
  refine c_sees (Sees.adoptB 702 PatchHunk 3 phunkC 29 (kb := 20) (o := 2) rfl rfl rfl) ?_
  skip
  refine c_region ?_; refine l_neu (n_assign rfl rfl) rfl ?_; refine l_nil ?_
  refine k1 ?_; refine k3 ?_
  refine c_while (X := Nat) (fun k => ([(12, .s (.one (.ref 12 0))), (14, sList Str 1 strC x), (16, sList Str 1 strC y), (17, sList Change 4 changeC l), (19, sList Hunk 6 hunkC g), (20, .s (.one (.ref 20 0))), (21, sInt k)], [(12, .box [.p (.v (.string ⟨#[]⟩)), .p (.v (.string ⟨#[]⟩)), .p (.v (.slice none 0 0))]), (20, .box [.p (.v (.string ⟨on.toArray⟩)), .p (.v (.string ⟨nn.toArray⟩)), .buf 702 PatchHunk 3 phunkC ((g.take k).map (hunkOfG l x y))]), (702, .spare (((g.take k).map (hunkOfG l x y))).length 3 29)])) (fun k => k ≤ g.length) (fun k => g.length - k) 0 (Nat.zero_le _) (Sees.of ⟨le1 rfl, le1 rfl, le1 rfl, le1 rfl, le1 rfl, le1 rfl, le1 rfl, trivial⟩ ⟨rfl, rfl, rfl, trivial⟩) ?_
  intro k hk
  dsimp only at hk ⊢
  refine k2 ?_; refine k2 ?_
  refine c_region ?_; refine l_neu (n_move rfl rfl) rfl ?_; refine l_neu (n_move rfl rfl) rfl ?_; refine l_neu (n_len rfl (.pure _ _ _ _)) rfl ?_; refine l_neu (n_lss rfl rfl) rfl ?_; refine l_nil ?_
  refine k1 ?_
  refine c_cond rfl (fun ht => ?_) (fun ht => ?_)
  · have hlt : k < g.length := by have := of_decide_eq_true ht; omega
    have hv : g[k]? = some g[k] := by simp [hlt]
    have hq := hgo _ (List.getElem_mem hlt)
    have htk : (g.take (k + 1)).map (hunkOfG l x y) = (g.take k).map (hunkOfG l x y) ++ [hunkOfG l x y g[k]] := by rw [List.take_succ_eq_append_getElem hlt, List.map_append]; rfl
    obtain ⟨q, hqe⟩ : ∃ q, q = g[k] := ⟨_, rfl⟩
    rw [← hqe] at hv hq htk
    obtain ⟨hs, hhs⟩ : ∃ hs, hs = (g.take k).map (hunkOfG l x y) := ⟨_, rfl⟩
    have hhl : hs.length = k := by rw [hhs, List.length_map, List.length_take]; omega
    rw [← hhs] at htk ⊢
    obtain ⟨a, b, q1, q2, q3, q4, q5, q6, q7, q8, q9, q10⟩ := hq
    have hgb := hsc.get b q4
    refine k5 ?_; refine k1 ?_; refine k2 ?_; refine k3 ?_; refine k2 ?_
    refine c_region_alloc 13 22 (by kernel_rfl) (by kernel_rfl) rfl rfl rfl ?_; refine b_neu (n_move rfl rfl) rfl (n_move rfl rfl) ?_; refine b_neu (n_move rfl rfl) rfl (n_move rfl rfl) ?_; refine b_neu (n_indexAddr rfl (.pure _ _ _ _) rfl (by omega) hv) rfl (n_indexAddr rfl (.pure _ _ _ _) rfl (by omega) hv) ?_; refine b_neu (n_field_eref rfl) rfl (n_field_eref rfl) ?_; refine b_neu (n_field_eref rfl) rfl (n_field_eref rfl) ?_; refine b_neu (n_load_eref rfl rfl) rfl (n_load_eref rfl rfl) ?_; refine b_neu (n_move rfl rfl) rfl (n_move rfl rfl) ?_; refine b_neu (n_move rfl rfl) rfl (n_move rfl rfl) ?_; refine b_neu (n_indexAddr rfl (.pure _ _ _ _) rfl (by omega) hv) rfl (n_indexAddr rfl (.pure _ _ _ _) rfl (by omega) hv) ?_; refine b_neu (n_field_eref rfl) rfl (n_field_eref rfl) ?_; refine b_neu (n_field_eref rfl) rfl (n_field_eref rfl) ?_; refine b_neu (n_load_eref rfl rfl) rfl (n_load_eref rfl rfl) ?_; refine b_neu (n_build rfl) rfl (n_build rfl) ?_; refine b_nil rfl ?_; refine d_eff (e_store_ref TySz.out rfl rfl rfl rfl rfl rfl) rfl ?_; refine d_nil ?_
    refine k1 ?_; refine k2 ?_
    refine c_sees (Sees.adoptB 701 PatchLine 2 plineC 36 (kb := 22) (o := 2) rfl rfl rfl) ?_
    refine c_region ?_; refine l_neu (n_field_ref rfl) rfl ?_; refine l_neu (n_load_ref rfl rfl rfl) rfl ?_; refine l_neu (n_assign rfl rfl) rfl ?_; refine l_nil ?_
    refine k1 ?_; refine k2 ?_; refine k2 ?_
    refine c_region ?_; refine l_neu (n_move rfl rfl) rfl ?_; refine l_neu (n_move rfl rfl) rfl ?_; refine l_neu (n_indexAddr rfl (.pure _ _ _ _) rfl (by omega) hv) rfl ?_; refine l_neu (n_field_eref rfl) rfl ?_; refine l_neu (n_load_eref rfl rfl) rfl ?_; refine l_neu (n_assign rfl rfl) rfl ?_; refine l_nil ?_
    refine k1 ?_; refine k3 ?_
    refine c_while (X := Nat) (fun t => ([(12, .s (.one (.ref 12 0))), (14, sList Str 1 strC x), (16, sList Str 1 strC y), (17, sList Change 4 changeC l), (19, sList Hunk 6 hunkC g), (20, .s (.one (.ref 20 0))), (21, sInt k), (22, .s (.one (.ref 22 0))), (23, sInt (posTo l q.Old.From a t)), (24, sInt ((a + t : Nat) : Int))], [(12, .box [.p (.v (.string ⟨#[]⟩)), .p (.v (.string ⟨#[]⟩)), .p (.v (.slice none 0 0))]), (20, .box [.p (.v (.string ⟨on.toArray⟩)), .p (.v (.string ⟨nn.toArray⟩)), .buf 702 PatchHunk 3 phunkC hs]), (702, .spare (hs).length 3 29), (22, .box [.p (.v (.int .i64 q.Old.From)), .p (.v (.int .i64 q.New.From)), .buf 701 PatchLine 2 plineC (madeTo l x y q.Old.From a t)]), (701, .spare (madeTo l x y q.Old.From a t).length 2 36)])) (fun t => a + t ≤ b + 1) (fun t => b + 1 - (a + t)) 0 (by omega) ?_ ?_
    · have e1 : posTo l q.Old.From a 0 = q.Old.From := if_pos rfl
      rw [e1, show ((a + 0 : Nat) : Int) = q.First by rw [q1]; simp]
      exact Sees.of ⟨le1 rfl, le1 rfl, le1 rfl, le1 rfl, le1 rfl, le1 rfl, le1 rfl, le1 rfl, le1 rfl, le1 rfl, trivial⟩ ⟨rfl, rfl, rfl, rfl, rfl, trivial⟩
    intro t hat
    dsimp only at hat ⊢
    have hml := madeTo_len l x y q.Old.From a t
    have hml2 : (madeTo l x y q.Old.From a t).length ≤ 4097 * 12288 := Nat.le_trans hml (Nat.mul_le_mul (by omega) (by omega))
    refine k2 ?_; refine k2 ?_
    refine c_region ?_; refine l_neu (n_move rfl rfl) rfl ?_; refine l_neu (n_move rfl rfl) rfl ?_; refine l_neu (n_move rfl rfl) rfl ?_; refine l_neu (n_indexAddr rfl (.pure _ _ _ _) rfl (by omega) hv) rfl ?_; refine l_neu (n_field_eref rfl) rfl ?_; refine l_neu (n_load_eref rfl rfl) rfl ?_; refine l_neu (n_lss rfl rfl) rfl ?_; refine l_nil ?_
    refine k1 ?_
    refine c_cond rfl (fun ht => ?_) (fun ht => ?_)
    · have hlt2 : a + t ≤ b := by have : ((a + t : Nat) : Int) < q.Last := of_decide_eq_true ht; omega
      obtain ⟨c, hc⟩ : ∃ c, c = cAt l (a + t) := ⟨_, rfl⟩
      have hcv : l[((a + t : Nat) : Int).toNat]? = some c := by rw [hc]; exact cAt_get (by omega)
      have hgc := hsc.get (a + t) (by omega)
      rw [← hc] at hgc
      obtain ⟨⟨g1, g2⟩, ⟨g3, g4⟩, ⟨g5, g6⟩, ⟨g7, g8⟩, g9, g10⟩ := hgc
      obtain ⟨i0, hi0⟩ : ∃ i0, i0 = posTo l q.Old.From a t := ⟨_, rfl⟩
      have hpos : 0 ≤ i0 ∧ i0 ≤ c.Old := by
        rw [hi0, hc]; unfold posTo endC
        split
        · rename_i h0; subst h0; exact ⟨q5, q6⟩
        · have h4 := hsc.next (a + t - 1) (by omega)
          have h5 := hsc.get (a + t - 1) (by omega)
          rw [show a + t - 1 + 1 = a + t by omega] at h4
          unfold in81 at h5; omega
      obtain ⟨ls, hls⟩ : ∃ ls, ls = madeTo l x y q.Old.From a t := ⟨_, rfl⟩
      obtain ⟨p1, hp1⟩ : ∃ p1, p1 = putOf 32 (sub x i0 c.Old) := ⟨_, rfl⟩
      obtain ⟨p2, hp2⟩ : ∃ p2, p2 = putOf 45 (sub x c.Old (endC c)) := ⟨_, rfl⟩
      obtain ⟨p3, hp3⟩ : ∃ p3, p3 = putOf 43 (sub y c.New (c.New + c.NewLen)) := ⟨_, rfl⟩
      have hsucc : madeTo l x y q.Old.From a (t + 1) = ls ++ p1 ++ p2 ++ p3 := by rw [hls, hp1, hp2, hp3, hi0, hc]; rfl
      have hps : posTo l q.Old.From a (t + 1) = endC c := by rw [posTo_succ, hc]
      have l1 := sub_len x i0 c.Old
      have l2 := sub_len x c.Old (endC c)
      have l3 := sub_len y c.New (c.New + c.NewLen)
      have m1 : p1.length = (sub x i0 c.Old).length := by rw [hp1, putOf_len]
      have m2 : p2.length = (sub x c.Old (endC c)).length := by rw [hp2, putOf_len]
      have hend : endC c = c.Old + c.OldLen := rfl
      rw [← hls] at hml2 ⊢
      rw [← hi0]
      refine k5 ?_; refine k1 ?_; refine k2 ?_; refine k3 ?_; refine k2 ?_
      refine c_region_turn 10 (by kernel_rfl) (by kernel_rfl) rfl ?_; refine d_neu (n_field_ref rfl) rfl rfl ?_; refine d_neu (n_load_ref rfl rfl rfl) rfl rfl ?_; refine d_neu (n_move rfl rfl) rfl rfl ?_; refine d_neu (n_move rfl rfl) rfl rfl ?_; refine d_neu (n_move rfl rfl) rfl rfl ?_; refine d_neu (n_move rfl rfl) rfl rfl ?_; refine d_neu (n_indexAddr rfl (.pure _ _ _ _) rfl (by omega) hcv) rfl rfl ?_; refine d_neu (n_field_eref rfl) rfl rfl ?_; refine d_neu (n_load_eref rfl rfl) rfl rfl ?_; refine d_neu (n_slice_lh rfl (.pure _ _ _ _) rfl rfl (by omega) (by omega) (by omega)) rfl rfl ?_; refine d_nil ?_; refine met_step (rput_met ls 32 (sub x i0 c.Old) rfl (by omega)) rfl rfl rfl ?_; rintro _ _ ⟨rfl, rfl⟩; refine ⟨_, rfl, ?_⟩; refine d_neu (n_field_ref rfl) rfl rfl ?_; refine d_eff (e_store_ref TySz.out rfl rfl rfl rfl rfl rfl) rfl ?_; refine d_nil ?_
      rw [← hp1]
      refine k1 ?_; refine k2 ?_
      refine c_region_draw (by kernel_rfl) (by kernel_rfl) ?_; refine d_neu (n_move rfl rfl) rfl rfl ?_; refine d_neu (n_move rfl rfl) rfl rfl ?_; refine d_neu (n_indexAddr rfl (.pure _ _ _ _) rfl (by omega) hcv) rfl rfl ?_; refine d_neu (n_field_eref rfl) rfl rfl ?_; refine d_neu (n_load_eref rfl rfl) rfl rfl ?_; refine d_neu (n_move rfl rfl) rfl rfl ?_; refine d_neu (n_move rfl rfl) rfl rfl ?_; refine d_neu (n_indexAddr rfl (.pure _ _ _ _) rfl (by omega) hcv) rfl rfl ?_; refine d_neu (n_field_eref rfl) rfl rfl ?_; refine d_neu (n_load_eref rfl rfl) rfl rfl ?_; refine d_neu (n_add rfl rfl (by omega)) rfl rfl ?_; refine d_neu (n_assign rfl rfl) rfl rfl ?_; refine d_nil ?_
      rw [show c.Old + c.OldLen = endC c from rfl]
      refine k1 ?_; refine k2 ?_
      refine c_region_turn 10 (by kernel_rfl) (by kernel_rfl) rfl ?_; refine d_neu (n_field_ref rfl) rfl rfl ?_; refine d_neu (n_load_ref rfl rfl rfl) rfl rfl ?_; refine d_neu (n_move rfl rfl) rfl rfl ?_; refine d_neu (n_move rfl rfl) rfl rfl ?_; refine d_neu (n_move rfl rfl) rfl rfl ?_; refine d_neu (n_indexAddr rfl (.pure _ _ _ _) rfl (by omega) hcv) rfl rfl ?_; refine d_neu (n_field_eref rfl) rfl rfl ?_; refine d_neu (n_load_eref rfl rfl) rfl rfl ?_; refine d_neu (n_move rfl rfl) rfl rfl ?_; refine d_neu (n_slice_lh rfl (.pure _ _ _ _) rfl rfl (by omega) (by omega) (by omega)) rfl rfl ?_; refine d_nil ?_; refine met_step (rput_met (ls ++ p1) 45 (sub x c.Old (endC c)) rfl (by simp only [List.length_append]; omega)) rfl rfl rfl ?_; rintro _ _ ⟨rfl, rfl⟩; refine ⟨_, rfl, ?_⟩; refine d_neu (n_field_ref rfl) rfl rfl ?_; refine d_eff (e_store_ref TySz.out rfl rfl rfl rfl rfl rfl) rfl ?_; refine d_nil ?_
      rw [← hp2]
      refine k1 ?_
      refine c_region_turn 20 (by kernel_rfl) (by kernel_rfl) rfl ?_; refine d_neu (n_field_ref rfl) rfl rfl ?_; refine d_neu (n_load_ref rfl rfl rfl) rfl rfl ?_; refine d_neu (n_move rfl rfl) rfl rfl ?_; refine d_neu (n_move rfl rfl) rfl rfl ?_; refine d_neu (n_move rfl rfl) rfl rfl ?_; refine d_neu (n_indexAddr rfl (.pure _ _ _ _) rfl (by omega) hcv) rfl rfl ?_; refine d_neu (n_field_eref rfl) rfl rfl ?_; refine d_neu (n_load_eref rfl rfl) rfl rfl ?_; refine d_neu (n_move rfl rfl) rfl rfl ?_; refine d_neu (n_move rfl rfl) rfl rfl ?_; refine d_neu (n_indexAddr rfl (.pure _ _ _ _) rfl (by omega) hcv) rfl rfl ?_; refine d_neu (n_field_eref rfl) rfl rfl ?_; refine d_neu (n_load_eref rfl rfl) rfl rfl ?_; refine d_neu (n_move rfl rfl) rfl rfl ?_; refine d_neu (n_move rfl rfl) rfl rfl ?_; refine d_neu (n_indexAddr rfl (.pure _ _ _ _) rfl (by omega) hcv) rfl rfl ?_; refine d_neu (n_field_eref rfl) rfl rfl ?_; refine d_neu (n_load_eref rfl rfl) rfl rfl ?_; refine d_neu (n_add rfl rfl (by omega)) rfl rfl ?_; refine d_neu (n_slice_lh rfl (.pure _ _ _ _) rfl rfl (by omega) (by omega) (by omega)) rfl rfl ?_; refine d_nil ?_; refine met_step (rput_met (ls ++ p1 ++ p2) 43 (sub y c.New (c.New + c.NewLen)) rfl (by simp only [List.length_append]; omega)) rfl rfl rfl ?_; rintro _ _ ⟨rfl, rfl⟩; refine ⟨_, rfl, ?_⟩; refine d_neu (n_field_ref rfl) rfl rfl ?_; refine d_eff (e_store_ref TySz.out rfl rfl rfl rfl rfl rfl) rfl ?_; refine d_nil ?_
      rw [← hp3]
      refine k4 ?_; refine k1 ?_
      refine c_region ?_; refine l_neu (n_move rfl rfl) rfl ?_; refine l_neu (n_add rfl rfl (by omega)) rfl ?_; refine l_neu (n_assign rfl rfl) rfl ?_; refine l_nil ?_
      refine k1 ?_
      refine ⟨t + 1, by omega, by omega, ?_⟩
      rw [hsucc, hps, show ((a + (t + 1) : Nat) : Int) = ((a + t : Nat) : Int) + 1 by omega]
      exact Sees.of ⟨le1 rfl, le1 rfl, le1 rfl, le1 rfl, le1 rfl, le1 rfl, le1 rfl, le1 rfl, le1 rfl, le1 rfl, trivial⟩ ⟨rfl, rfl, rfl, rfl, rfl, trivial⟩
    · have htb : a + t = b + 1 := by
        have h0 : ¬ ((a + t : Nat) : Int) < q.Last := of_decide_eq_false ht
        omega
      obtain ⟨i0, hi0⟩ : ∃ i0, i0 = posTo l q.Old.From a t := ⟨_, rfl⟩
      have hib : i0 = (cAt l b).Old + (cAt l b).OldLen := by
        rw [hi0]; unfold posTo endC
        rw [if_neg (by omega), show a + t - 1 = b by omega]
      unfold in81 at hgb
      obtain ⟨ls, hls⟩ : ∃ ls, ls = madeTo l x y q.Old.From a t := ⟨_, rfl⟩
      have hG : hunkOfG l x y q = ⟨q.Old.From, q.New.From, ls ++ putOf 32 (sub x i0 q.Old.To)⟩ := by
        rw [hunkOfG, q1, q2, show ((a : Nat) : Int).toNat = a by omega, show ((b : Int) + 1).toNat - a = t by omega, ← hls, ← hi0]
      have l1 := sub_len x i0 q.Old.To
      have hgn : g.length ≤ l.length := hgl
      rw [← hls] at hml2 ⊢
      rw [← hi0]
      refine k6 ?_; refine k2 ?_
      refine c_region_turn 11 (by kernel_rfl) (by kernel_rfl) rfl ?_; refine d_neu (n_field_ref rfl) rfl rfl ?_; refine d_neu (n_load_ref rfl rfl rfl) rfl rfl ?_; refine d_neu (n_move rfl rfl) rfl rfl ?_; refine d_neu (n_move rfl rfl) rfl rfl ?_; refine d_neu (n_move rfl rfl) rfl rfl ?_; refine d_neu (n_move rfl rfl) rfl rfl ?_; refine d_neu (n_indexAddr rfl (.pure _ _ _ _) rfl (by omega) hv) rfl rfl ?_; refine d_neu (n_field_eref rfl) rfl rfl ?_; refine d_neu (n_field_eref rfl) rfl rfl ?_; refine d_neu (n_load_eref rfl rfl) rfl rfl ?_; refine d_neu (n_slice_lh rfl (.pure _ _ _ _) rfl rfl (by omega) (by omega) (by omega)) rfl rfl ?_; refine d_nil ?_; refine met_step (rput_met ls 32 (sub x i0 q.Old.To) rfl (by omega)) rfl rfl rfl ?_; rintro _ _ ⟨rfl, rfl⟩; refine ⟨_, rfl, ?_⟩; refine d_neu (n_field_ref rfl) rfl rfl ?_; refine d_eff (e_store_ref TySz.out rfl rfl rfl rfl rfl rfl) rfl ?_; refine d_nil ?_
      refine k1 ?_
      refine c_region ?_; refine l_neu (n_field_ref rfl) rfl ?_; refine l_neu (n_load_ref rfl rfl rfl) rfl ?_; refine l_neu (n_loads_ref rfl rfl rfl) rfl ?_; refine l_neu (n_buildSlice (c := phunkC) (ys := [⟨q.Old.From, q.New.From, ls ++ putOf 32 (sub x i0 q.Old.To)⟩]) (asm_cons rfl rfl rfl rfl asm_nil) rfl rfl rfl) rfl ?_; refine l_effv (e_append rfl rfl rfl (.pure _ _ _ _) (by (simp only [List.length_cons, List.length_nil]; omega)) rfl) rfl ?_; refine l_neu (n_field_ref rfl) rfl ?_; refine l_eff (e_store_ref TySz.out rfl rfl rfl rfl rfl rfl) ?_; refine l_nil ?_
      rw [← hG, ← htk]
      refine k4 ?_; refine k1 ?_
      refine c_region ?_; refine l_neu (n_move rfl rfl) rfl ?_; refine l_neu (n_add rfl rfl (by omega)) rfl ?_; refine l_neu (n_assign rfl rfl) rfl ?_; refine l_nil ?_
      refine k1 ?_
      exact ⟨k + 1, by omega, by omega, Sees.of ⟨le1 rfl, le1 rfl, le1 rfl, le1 rfl, le1 rfl, le1 rfl, le1 rfl, trivial⟩ ⟨rfl, rfl, rfl, trivial⟩⟩
  · have hk' : k = g.length := by have := of_decide_eq_false ht; omega
    subst hk'
    rw [List.take_length, ← hho]
    have hsz := hmd.sz
    have hch := hmd.chk
    rw [← hx, ← hy] at hsz hch
    refine k6 ?_; refine k2 ?_; refine k2 ?_
    refine c_region ?_; refine l_neu (n_loads_ref rfl rfl rfl) rfl ?_; refine l_call (rcheck12_ok ⟨on, nn, hunksOf l x y ctx⟩ hsz) rfl rfl rfl ?_; rintro _ rfl; refine l_neu (n_assign rfl rfl) rfl ?_; refine l_nil ?_
    rw [hch]
    refine k1 ?_; refine k2 ?_
    refine c_region ?_; refine l_neu (n_move rfl rfl) rfl ?_; refine l_neu (n_neq rfl rfl) rfl ?_; refine l_nil ?_
    refine k1 ?_
    refine c_cond rfl (fun ht => ?_) (fun ht => ?_)
    · cases ht
    · refine k5 ?_; refine k1 ?_; refine k2 ?_
      refine c_region ?_; refine l_neu (n_loads_ref rfl rfl rfl) rfl ?_; refine l_eff (e_store_ref TySz.out rfl rfl rfl rfl rfl rfl) ?_; refine l_neu (n_assign rfl rfl) rfl ?_; refine l_nil ?_
      refine k1 ?_; refine k10 ?_
      exact ret_ret (rs := [pPatch ⟨on, nn, hunksOf l x y ctx⟩, pInt 0]) (retc2 rfl rfl rfl rfl rfl rfl rfl) (by rw [hmk])
end Go.Proofs.YtjjidificdmnmaaGreatDoor
namespace Go.Proofs.YtjjidificdmnmaaGreatDoor
open Go Go.AL
set_option maxRecDepth 100000
theorem check12_names {p : Patch} (h1 : check12 p = 0) : nameOk p.OldName = true ∧ nameOk p.NewName = true := by
  have h : ¬ (nameOk p.OldName = false ∨ nameOk p.NewName = false) := fun q => by
    unfold check12 at h1; rw [if_pos q] at h1; exact absurd h1 (by decide)
  exact ⟨by cases q : nameOk p.OldName <;> simp [q] at h ⊢, by cases q : nameOk p.NewName <;> simp [q] at h ⊢⟩
theorem uformat_ok (p : Patch) (hp : szP p.Hunks ≤ 268435456) : FnOk Tryz.prog 36 [pPatch p] (fun rs => rs = [pStr (if check12 p ≠ 0 then [] else writeOf p), pInt (check12 p)]) := by
  refine FnOk.intro Tryz.func36 (by decide) rfl rfl rfl rfl ?_
  refine k2 ?_
  refine c_region ?_; refine l_effv (f_box 1 rfl rfl rfl) rfl ?_; refine l_neu (n_assign rfl rfl) rfl ?_; refine l_neu (n_assign rfl rfl) rfl ?_; refine l_nil ?_
  refine k1 ?_; refine k2 ?_; refine k2 ?_
  refine c_region ?_; refine l_neu (n_loads_ref rfl rfl rfl) rfl ?_; refine l_call (ucheck_ok p hp) rfl rfl rfl ?_; rintro _ rfl; refine l_neu (n_assign rfl rfl) rfl ?_; refine l_nil ?_
  refine k1 ?_; refine k2 ?_
  refine c_region ?_; refine l_neu (n_move rfl rfl) rfl ?_; refine l_neu (n_neq rfl rfl) rfl ?_; refine l_nil ?_
  refine k1 ?_
  refine c_cond rfl (fun ht => ?_) (fun ht => ?_)
  · have h1 : check12 p ≠ 0 := of_decide_eq_true ht
    rw [if_pos h1]
    refine k2 ?_
    refine c_region ?_; refine l_neu (n_move rfl rfl) rfl ?_; refine l_neu (n_assign rfl rfl) rfl ?_; refine l_neu (n_assign rfl rfl) rfl ?_; refine l_nil ?_
    refine k1 ?_; refine k10 ?_; refine k11 ?_
    exact ret_ret (ret2 rfl rfl rfl rfl rfl) rfl
  · have h1 : ¬ check12 p ≠ 0 := of_decide_eq_false ht
    have hr := goodOf_range (check12_good h1)
    obtain ⟨hn1, hn2⟩ := check12_names (Decidable.not_not.1 h1)
    have hn3 := of_decide_eq_true hn1
    have hn4 := of_decide_eq_true hn2
    have hpf : PFit p := ⟨by omega, by omega, hp⟩
    rw [if_neg h1, Decidable.not_not.1 h1]
    refine k5 ?_; refine k1 ?_; refine k2 ?_
    refine c_region ?_; refine l_neu (n_loads_ref rfl rfl rfl) rfl ?_; refine l_call (uwritten_ok p hpf (fun x hx => by have := hr x hx; omega)) rfl rfl rfl ?_; rintro _ rfl; refine l_neu (n_assign rfl rfl) rfl ?_; refine l_neu (n_assign rfl rfl) rfl ?_; refine l_nil ?_
    refine k1 ?_; refine k10 ?_
    exact ret_ret (ret2 rfl rfl rfl rfl rfl) rfl
theorem awake_made : made12 [120] [120] [97, 10, 98] [97, 10, 99, 10] 1 false = (awakeP, 0) := by
  have h := (make12_good [120] [120] [97, 10, 98] [97, 10, 99, 10] 1 (by decide) (by decide) (by decide) (by decide) (by decide) (by decide)).1
  rw [awake_make] at h
  unfold made12 scriptD
  rw [if_neg (by decide), if_neg (by decide), if_neg (by decide)]
  exact h.symm
theorem range_02 : rangeOf 0 2 = [49, 44, 50] := by
  unfold rangeOf
  rw [if_neg (by decide), if_neg (by decide), if_neg (by decide), show (0 : Int) + 1 = 1 from rfl, fmt_small 1 (by decide) (by decide), fmt_small 2 (by decide) (by decide)]
  decide
theorem awake_head : headW ⟨0, 0, [⟨32, [97, 10]⟩, ⟨45, [98]⟩, ⟨43, [99, 10]⟩]⟩ = [64, 64, 32, 45, 49, 44, 50, 32, 43, 49, 44, 50, 32, 64, 64, 10] := by
  unfold headW
  rw [show oldN ⟨0, 0, [⟨32, [97, 10]⟩, ⟨45, [98]⟩, ⟨43, [99, 10]⟩]⟩ = 2 by decide, show newN ⟨0, 0, [⟨32, [97, 10]⟩, ⟨45, [98]⟩, ⟨43, [99, 10]⟩]⟩ = 2 by decide]
  dsimp only
  rw [range_02]
  decide
theorem awake_write : writeOf awakeP = [45, 45, 45, 32, 120, 10, 43, 43, 43, 32, 120, 10, 64, 64, 32, 45, 49, 44, 50, 32, 43, 49, 44, 50, 32, 64, 64, 10, 32, 97, 10, 45, 98, 10, 92, 32, 78, 111, 32, 110, 101, 119, 108, 105, 110, 101, 32, 97, 116, 32, 101, 110, 100, 32, 111, 102, 32, 102, 105, 108, 101, 10, 43, 99, 10] := by
  unfold writeOf writePs awakeP
  dsimp only [List.map]
  unfold hunkPs
  rw [awake_head]
  decide
theorem awake12_ok : FnOk Tryz.prog 38 [] (fun rs => rs = [pBool true]) := by
  have hmk := umake_ok [120] [120] [97, 10, 98] [97, 10, 99, 10] 1 false (by decide) (by decide)
  rw [awake_made] at hmk
  have hf := uformat_ok awakeP (by decide)
  rw [awake_check, if_neg (by decide), awake_write] at hf
  refine FnOk.intro Tryz.func38 (by decide) rfl rfl rfl rfl ?_
  refine k2 ?_
  refine c_region ?_; refine l_neu (n_assign rfl rfl) rfl ?_; refine l_nil ?_
  refine k1 ?_; refine k2 ?_
  refine c_region ?_; refine l_call (hmk) rfl rfl rfl ?_; rintro _ rfl; refine l_neu (n_move rfl rfl) rfl ?_; refine l_neu (n_extract rfl rfl) rfl ?_; refine l_neu (n_extract rfl rfl) rfl ?_; refine l_effv (f_alloc 1 rfl) rfl ?_; refine l_eff (e_store_ref TySz.out rfl rfl rfl rfl rfl rfl) ?_; refine l_neu (n_assign rfl rfl) rfl ?_; refine l_nil ?_
  refine k1 ?_; refine k2 ?_
  refine c_region ?_; refine l_neu (n_loads_ref rfl rfl rfl) rfl ?_; refine l_call (hf) rfl rfl rfl ?_; rintro _ rfl; refine l_neu (n_move rfl rfl) rfl ?_; refine l_neu (n_extract rfl rfl) rfl ?_; refine l_neu (n_extract rfl rfl) rfl ?_; refine l_neu (n_assign rfl rfl) rfl ?_; refine l_neu (n_assign rfl rfl) rfl ?_; refine l_nil ?_
  refine k1 ?_; refine k2 ?_
  refine c_region ?_; refine l_neu (n_move rfl rfl) rfl ?_; refine l_neu (n_eql rfl rfl) rfl ?_; refine l_neu (n_move rfl rfl) rfl ?_; refine l_guard rfl rfl rfl rfl (fun hg => by rw [hg]; exact n_move rfl rfl) ?_; refine l_guard rfl rfl rfl rfl (fun hg => by rw [hg]; exact n_eql rfl rfl) ?_; refine l_neu (n_pick_bool rfl (fun h => by first | rfl | (rw [h]; rfl)) (fun h => by first | rfl | (rw [h]; rfl))) rfl ?_; refine l_neu (n_move rfl rfl) rfl ?_; refine l_guard rfl rfl rfl rfl (fun hg => by rw [hg]; exact n_move rfl rfl) ?_; refine l_guard rfl rfl rfl rfl (fun hg => by rw [hg]; exact n_eql_s rfl rfl) ?_; refine l_neu (n_pick_bool rfl (fun h => by first | rfl | (rw [h]; rfl)) (fun h => by first | rfl | (rw [h]; rfl))) rfl ?_; refine l_neu (n_assign rfl rfl) rfl ?_; refine l_nil ?_
  refine k1 ?_; refine k10 ?_
  exact ret_ret (ret1 rfl rfl rfl) (by simp)
theorem made12_sz (on nn a b : Str) (ctx : Int) (d : Bool) (ha : a.length ≤ 4096) (hb : b.length ≤ 4096) : szP (made12 on nn a b ctx d).1.Hunks ≤ 268435456 := by
  unfold made12
  split
  · decide
  · rename_i h
    have hn1 : nameOk on = true := by cases q : nameOk on <;> simp [q] at h ⊢
    have hn2 : nameOk nn = true := by cases q : nameOk nn <;> simp [q] at h ⊢
    split
    · decide
    · rename_i hc
      have h1 := (lines_flat a).2
      have h2 := (lines_flat b).2
      exact (made12_is on nn a b _ ctx hn1 hn2 hc ha hb (scriptD_fit _ _ d (by omega) (by omega)).1).sz
theorem lawMakes_ok (raw : List Int) (on nn : Str) (ctx : Int) (small d : Bool) : FnOk Tryz.prog 10 [pInts raw, pStr on, pStr nn, pInt ctx, pBool small, pBool d] (fun rs => rs = [pBool true]) := by
  have hal := pickA_len raw
  have hbl := pickB_len raw
  refine FnOk.intro Tryz.func10 (by decide) rfl rfl rfl rfl ?_
  refine k2 ?_
  refine c_region ?_; refine l_neu (n_assign rfl rfl) rfl ?_; refine l_nil ?_
  refine k1 ?_; refine k2 ?_; refine k2 ?_
  refine c_region ?_; refine l_neu (n_move rfl rfl) rfl ?_; refine l_neu (n_len_s rfl) rfl ?_; refine l_neu (n_gtr rfl rfl) rfl ?_; refine l_neu (n_move rfl rfl) rfl ?_; refine l_guard rfl rfl rfl rfl (fun hg => by rw [hg]; exact n_move rfl rfl) ?_; refine l_guard rfl rfl rfl rfl (fun hg => by rw [hg]; exact n_len_s rfl) ?_; refine l_guard rfl rfl rfl rfl (fun hg => by rw [hg]; exact n_gtr rfl rfl) ?_; refine l_neu (n_pick_bool rfl (fun h => by first | rfl | (rw [h]; rfl)) (fun h => by first | rfl | (rw [h]; rfl))) rfl ?_; refine l_nil ?_
  refine k1 ?_
  refine c_cond rfl (fun ht => ?_) (fun ht => ?_)
  · refine k2 ?_
    refine c_region ?_; refine l_call (awake12_ok) rfl rfl rfl ?_; rintro _ rfl; refine l_neu (n_assign rfl rfl) rfl ?_; refine l_nil ?_
    refine k1 ?_; refine k10 ?_; refine k11 ?_
    exact ret_ret (ret1 rfl rfl rfl) rfl
  refine k5 ?_; refine k1 ?_; refine k2 ?_
  refine c_region ?_; refine l_neu (n_move rfl rfl) rfl ?_; refine l_call (blob_ok raw 0 9 5 (by omega) (by omega) (by omega)) rfl rfl rfl ?_; rintro _ rfl; refine l_neu (n_assign rfl rfl) rfl ?_; refine l_nil ?_
  rw [show blobOf raw 0 9 5 = pickA raw from rfl]
  refine k1 ?_; refine k2 ?_
  refine c_region ?_; refine l_neu (n_move rfl rfl) rfl ?_; refine l_neu (n_move rfl rfl) rfl ?_; refine l_call (near_ok (pickA raw) raw 100 (by omega) (by omega)) rfl rfl rfl ?_; rintro _ rfl; refine l_neu (n_assign rfl rfl) rfl ?_; refine l_nil ?_
  rw [show nearOf (pickA raw) raw 100 = pickB raw from rfl]
  obtain ⟨a, ha⟩ : ∃ a, a = pickA raw := ⟨_, rfl⟩
  obtain ⟨b, hb⟩ : ∃ b, b = pickB raw := ⟨_, rfl⟩
  rw [← ha] at hal
  rw [← hb] at hbl
  rw [← ha, ← hb]
  refine then_normal ?_
  obtain ⟨c, hc⟩ : ∃ c, c = if small = true then modOf ctx 4 else ctx := ⟨_, rfl⟩
  refine c_join [(1, sStr on), (2, sStr nn), (3, sInt c), (5, sVal (.bool d)), (13, sStr a), (14, sStr b)] [] ?_ ?_
  · refine k2 ?_
    refine c_region ?_; refine l_neu (n_move rfl rfl) rfl ?_; refine l_nil ?_
    refine k1 ?_
    refine c_cond rfl (fun ht => ?_) (fun ht => ?_)
    · have hs : small = true := ht
      rw [if_pos hs] at hc
      skip
      refine c_region ?_; refine l_neu (n_move rfl rfl) rfl ?_; refine l_call (mod_ok ctx 4 (by omega) (by omega)) rfl rfl rfl ?_; rintro _ rfl; refine l_neu (n_assign rfl rfl) rfl ?_; refine l_nil ?_
      rw [← hc]
      refine k1 ?_
      exact Sees.of ⟨le1 rfl, le1 rfl, le1 rfl, le1 rfl, le1 rfl, le1 rfl, trivial⟩ trivial
    · have hs : small = false := ht
      rw [if_neg (by rw [hs]; decide)] at hc
      rw [hc]
      refine k5 ?_; refine k1 ?_
      exact Sees.of ⟨le1 rfl, le1 rfl, le1 rfl, le1 rfl, le1 rfl, le1 rfl, trivial⟩ trivial
  have z1 := made12_sz on nn a b c d (by omega) (by omega)
  have z2 := made12_sz [111] [110] a b c d (by omega) (by omega)
  have hk1 := umake_ok on nn a b c d (by omega) (by omega)
  have hk2 := rmakeD_ok on nn a b c d (by omega) (by omega)
  have hk3 := umake_ok [111] [110] a b c d (by omega) (by omega)
  have hk4 := rmakeD_ok [111] [110] a b c d (by omega) (by omega)
  obtain ⟨m, hm⟩ : ∃ m, m = made12 on nn a b c d := ⟨_, rfl⟩
  obtain ⟨n, hn⟩ : ∃ n, n = made12 [111] [110] a b c d := ⟨_, rfl⟩
  rw [← hm] at z1 hk1 hk2
  rw [← hn] at z2 hk3 hk4
  refine k2 ?_
  refine c_region ?_; refine l_neu (n_move rfl rfl) rfl ?_; refine l_neu (n_move rfl rfl) rfl ?_; refine l_neu (n_move rfl rfl) rfl ?_; refine l_neu (n_move rfl rfl) rfl ?_; refine l_neu (n_move rfl rfl) rfl ?_; refine l_neu (n_move rfl rfl) rfl ?_; refine l_call (hk1) rfl rfl rfl ?_; rintro _ rfl; refine l_neu (n_move rfl rfl) rfl ?_; refine l_neu (n_extract rfl rfl) rfl ?_; refine l_neu (n_extract rfl rfl) rfl ?_; refine l_effv (f_alloc 15 rfl) rfl ?_; refine l_eff (e_store_ref TySz.out rfl rfl rfl rfl rfl rfl) ?_; refine l_neu (n_assign rfl rfl) rfl ?_; refine l_nil ?_
  refine k1 ?_; refine k2 ?_
  refine c_region ?_; refine l_neu (n_move rfl rfl) rfl ?_; refine l_neu (n_move rfl rfl) rfl ?_; refine l_neu (n_move rfl rfl) rfl ?_; refine l_neu (n_move rfl rfl) rfl ?_; refine l_neu (n_move rfl rfl) rfl ?_; refine l_neu (n_move rfl rfl) rfl ?_; refine l_call (hk2) rfl rfl rfl ?_; rintro _ rfl; refine l_neu (n_move rfl rfl) rfl ?_; refine l_neu (n_extract rfl rfl) rfl ?_; refine l_neu (n_extract rfl rfl) rfl ?_; refine l_effv (f_alloc 17 rfl) rfl ?_; refine l_eff (e_store_ref TySz.out rfl rfl rfl rfl rfl rfl) ?_; refine l_neu (n_assign rfl rfl) rfl ?_; refine l_nil ?_
  refine k1 ?_; refine k2 ?_
  refine c_region ?_; refine l_neu (n_move rfl rfl) rfl ?_; refine l_neu (n_move rfl rfl) rfl ?_; refine l_neu (n_move rfl rfl) rfl ?_; refine l_neu (n_move rfl rfl) rfl ?_; refine l_call (hk3) rfl rfl rfl ?_; rintro _ rfl; refine l_neu (n_move rfl rfl) rfl ?_; refine l_neu (n_extract rfl rfl) rfl ?_; refine l_neu (n_extract rfl rfl) rfl ?_; refine l_effv (f_alloc 19 rfl) rfl ?_; refine l_eff (e_store_ref TySz.out rfl rfl rfl rfl rfl rfl) ?_; refine l_neu (n_assign rfl rfl) rfl ?_; refine l_nil ?_
  refine k1 ?_; refine k2 ?_
  refine c_region ?_; refine l_neu (n_move rfl rfl) rfl ?_; refine l_neu (n_move rfl rfl) rfl ?_; refine l_neu (n_move rfl rfl) rfl ?_; refine l_neu (n_move rfl rfl) rfl ?_; refine l_call (hk4) rfl rfl rfl ?_; rintro _ rfl; refine l_neu (n_move rfl rfl) rfl ?_; refine l_neu (n_extract rfl rfl) rfl ?_; refine l_neu (n_extract rfl rfl) rfl ?_; refine l_effv (f_alloc 21 rfl) rfl ?_; refine l_eff (e_store_ref TySz.out rfl rfl rfl rfl rfl rfl) ?_; refine l_neu (n_assign rfl rfl) rfl ?_; refine l_nil ?_
  refine k1 ?_; refine k2 ?_
  refine c_region ?_; refine l_neu (n_loads_ref rfl rfl rfl) rfl ?_; refine l_neu (n_loads_ref rfl rfl rfl) rfl ?_; refine l_call (gpatch_ok m.1 m.1 (by omega)) rfl rfl rfl ?_; rintro _ rfl; refine l_neu (n_move rfl rfl) rfl ?_; refine l_guard rfl rfl rfl rfl (fun hg => by rw [hg]; exact n_move rfl rfl) ?_; refine l_guard rfl rfl rfl rfl (fun hg => by rw [hg]; exact n_move rfl rfl) ?_; refine l_guard rfl rfl rfl rfl (fun hg => by rw [hg]; exact n_eql rfl rfl) ?_; refine l_neu (n_pick_bool rfl (fun h => by first | rfl | (rw [h]; rfl)) (fun h => by first | rfl | (rw [h]; rfl))) rfl ?_; refine l_neu (n_move rfl rfl) rfl ?_; refine l_guard rfl rfl rfl rfl (fun hg => by rw [hg]; exact n_loads_ref rfl rfl rfl) ?_; refine l_guard rfl rfl rfl rfl (fun hg => by rw [hg]; exact n_loads_ref rfl rfl rfl) ?_; refine l_guard rfl rfl rfl rfl (fun hg => by have hq := hg; (try simp at hq); rw [hg]; exact n_call1 (gpatch_ok n.1 n.1 (by omega)) rfl rfl) ?_; refine l_neu (n_pick_bool rfl (fun h => by first | rfl | (rw [h]; rfl)) (fun h => by first | rfl | (rw [h]; rfl))) rfl ?_; refine l_neu (n_move rfl rfl) rfl ?_; refine l_guard rfl rfl rfl rfl (fun hg => by rw [hg]; exact n_move rfl rfl) ?_; refine l_guard rfl rfl rfl rfl (fun hg => by rw [hg]; exact n_move rfl rfl) ?_; refine l_guard rfl rfl rfl rfl (fun hg => by rw [hg]; exact n_eql rfl rfl) ?_; refine l_neu (n_pick_bool rfl (fun h => by first | rfl | (rw [h]; rfl)) (fun h => by first | rfl | (rw [h]; rfl))) rfl ?_; refine l_neu (n_move rfl rfl) rfl ?_; refine l_guard rfl rfl rfl rfl (fun hg => by have hq := hg; (try simp at hq); rw [hg]; exact n_call1 (awake12_ok) rfl rfl) ?_; refine l_neu (n_pick_bool rfl (fun h => by first | rfl | (rw [h]; rfl)) (fun h => by first | rfl | (rw [h]; rfl))) rfl ?_; refine l_neu (n_assign rfl rfl) rfl ?_; refine l_nil ?_
  refine k1 ?_; refine k10 ?_
  exact ret_ret (ret1 rfl rfl rfl) (by simp)
end Go.Proofs.YtjjidificdmnmaaGreatDoor
