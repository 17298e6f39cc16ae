/- The reference's functions of scripts, by the abstract logic. -/
import Derived.Test.YtljfkoaafocglaaT2
import Derived.Test.YtljfkoaafocglaaS2
namespace Go.Proofs.Ytljfkoaafocglaa
open Go Go.AL
set_option maxRecDepth 100000

theorem made_ok (p : List Span) (m n : Int) (hp : p.length ≤ 536870912) (hb : ∀ s ∈ p, -1099511627776 ≤ s.From ∧ s.From ≤ 1099511627776 ∧ -1099511627776 ≤ s.To ∧ s.To ≤ 1099511627776)
    (hm : -1099511627776 ≤ m ∧ m ≤ 1099511627776 ∧ -1099511627776 ≤ n ∧ n ≤ 1099511627776) :
    FnOk Try.prog 28 [pSpans p, pInt m, pInt n] (fun rs => rs = [pChanges (madeOf p m n)]) := by
  refine FnOk.intro Try.func28 (by decide) rfl rfl rfl ?_
  repeat (first | refine then_normal ?_ | refine c_seq ?_ | refine c_block ?_ | refine inB_normal ?_ | refine c_skip ?_ | refine c_exit ?_ | refine then_exit ?_ | refine inB_same rfl ?_ | refine inB_other rfl ?_ | refine c_ret ?_ | refine then_ret ?_ | refine inB_ret ?_)
  refine c_region ?_
  refine l_neu (n_assign rfl rfl) rfl ?_
  refine l_nil ?_
  repeat (first | refine then_normal ?_ | refine c_seq ?_ | refine c_block ?_ | refine inB_normal ?_ | refine c_skip ?_ | refine c_exit ?_ | refine then_exit ?_ | refine inB_same rfl ?_ | refine inB_other rfl ?_ | refine c_ret ?_ | refine then_ret ?_ | refine inB_ret ?_)
  refine c_region ?_
  refine l_effv (f_adopt 7 _ changeC rfl) rfl ?_
  refine l_nil ?_
  repeat (first | refine then_normal ?_ | refine c_seq ?_ | refine c_block ?_ | refine inB_normal ?_ | refine c_skip ?_ | refine c_exit ?_ | refine then_exit ?_ | refine inB_same rfl ?_ | refine inB_other rfl ?_ | refine c_ret ?_ | refine then_ret ?_ | refine inB_ret ?_)
  refine c_region ?_
  refine l_neu (n_assign rfl rfl) rfl ?_
  refine l_neu (n_assign rfl rfl) rfl ?_
  refine l_nil ?_
  repeat (first | refine then_normal ?_ | refine c_seq ?_ | refine c_block ?_ | refine inB_normal ?_ | refine c_skip ?_ | refine c_exit ?_ | refine then_exit ?_ | refine inB_same rfl ?_ | refine inB_other rfl ?_ | refine c_ret ?_ | refine then_ret ?_ | refine inB_ret ?_)
  refine c_region ?_
  refine l_neu (n_assign rfl rfl) rfl ?_
  refine l_nil ?_
  repeat (first | refine then_normal ?_ | refine c_seq ?_ | refine c_block ?_ | refine inB_normal ?_ | refine c_skip ?_ | refine c_exit ?_ | refine then_exit ?_ | refine inB_same rfl ?_ | refine inB_other rfl ?_ | refine c_ret ?_ | refine then_ret ?_ | refine inB_ret ?_)
  refine c_while (X := Nat × Int × Int × List Change) (fun x => ([(0, sList Span 2 spanC p), (1, sInt m), (2, sInt n), (7, .s (.one (.buf 7 Change 4 changeC x.2.2.2))), (8, sInt x.2.1), (9, sInt x.2.2.1), (10, sInt x.1)], [(7, .spare x.2.2.2.length 4 57)]))
    (fun x => x.1 ≤ p.length + 1 ∧ x.2.2.2.length ≤ x.1 ∧ (-1099511627776 ≤ x.2.1 ∧ x.2.1 ≤ 1099511627777 ∧ -1099511627776 ≤ x.2.2.1 ∧ x.2.2.1 ≤ 1099511627777) ∧ (x.1 ≤ p.length → x.2.2.2 ++ madeGo x.2.1 x.2.2.1 (p.drop x.1) m n = madeOf p m n) ∧ (x.1 = p.length + 1 → x.2.2.2 = madeOf p m n))
    (fun x => p.length + 1 - x.1) (0, 0, 0, []) (by simp [madeOf]) (Sees.of ⟨⟨_, rfl, by first | exact .same _ | exact .eq (by first | (simp; done) | (simp; omega)) | exact .list _ _ _ _ _ | exact .nil _ _ _ | exact .any _⟩, ⟨_, rfl, by first | exact .same _ | exact .eq (by first | (simp; done) | (simp; omega)) | exact .list _ _ _ _ _ | exact .nil _ _ _ | exact .any _⟩, ⟨_, rfl, by first | exact .same _ | exact .eq (by first | (simp; done) | (simp; omega)) | exact .list _ _ _ _ _ | exact .nil _ _ _ | exact .any _⟩, ⟨_, rfl, by first | exact .same _ | exact .eq (by first | (simp; done) | (simp; omega)) | exact .list _ _ _ _ _ | exact .nil _ _ _ | exact .any _⟩, ⟨_, rfl, by first | exact .same _ | exact .eq (by first | (simp; done) | (simp; omega)) | exact .list _ _ _ _ _ | exact .nil _ _ _ | exact .any _⟩, ⟨_, rfl, by first | exact .same _ | exact .eq (by first | (simp; done) | (simp; omega)) | exact .list _ _ _ _ _ | exact .nil _ _ _ | exact .any _⟩, ⟨_, rfl, by first | exact .same _ | exact .eq (by first | (simp; done) | (simp; omega)) | exact .list _ _ _ _ _ | exact .nil _ _ _ | exact .any _⟩, trivial⟩ ⟨rfl, trivial⟩) ?_
  rintro ⟨k, i, j, out⟩ ⟨hk, ho, hij, h1, h2⟩
  dsimp only at hk ho hij h1 h2 ⊢
  repeat (first | refine then_normal ?_ | refine c_seq ?_ | refine c_block ?_ | refine inB_normal ?_ | refine c_skip ?_ | refine c_exit ?_ | refine then_exit ?_ | refine inB_same rfl ?_ | refine inB_other rfl ?_ | refine c_ret ?_ | refine then_ret ?_ | refine inB_ret ?_)
  refine c_region ?_
  refine l_neu (n_move rfl rfl) rfl ?_
  refine l_neu (n_move rfl rfl) rfl ?_
  first | refine l_neu (n_len rfl (.pure _ _ _ _)) rfl ?_ | refine l_neu (n_len rfl (.buf _ _ _ _ _)) rfl ?_ | refine l_neu (n_len_mut rfl rfl) rfl ?_ | refine l_neu (n_len_mutT rfl rfl) rfl ?_ | refine l_neu (n_len_nil rfl) rfl ?_
  refine l_neu (n_leq rfl rfl) rfl ?_
  refine l_nil ?_
  repeat (first | refine then_normal ?_ | refine c_seq ?_ | refine c_block ?_ | refine inB_normal ?_ | refine c_skip ?_ | refine c_exit ?_ | refine then_exit ?_ | refine inB_same rfl ?_ | refine inB_other rfl ?_ | refine c_ret ?_ | refine then_ret ?_ | refine inB_ret ?_)
  refine c_cond rfl (fun ht => ?_) (fun ht => ?_)
  · have hk' : k ≤ p.length := by have := of_decide_eq_true ht; omega
    have hpp := h1 hk'
    repeat (first | refine then_normal ?_ | refine c_seq ?_ | refine c_block ?_ | refine inB_normal ?_ | refine c_skip ?_ | refine c_exit ?_ | refine then_exit ?_ | refine inB_same rfl ?_ | refine inB_other rfl ?_ | refine c_ret ?_ | refine then_ret ?_ | refine inB_ret ?_)
    refine c_region ?_
    refine l_neu (n_move rfl rfl) rfl ?_
    refine l_neu (n_move rfl rfl) rfl ?_
    refine l_neu (n_build rfl) rfl ?_
    refine l_effv (f_alloc 11 rfl) rfl ?_
    first | refine l_eff (e_store_ref TySz.out rfl rfl rfl rfl rfl rfl) ?_ | refine l_eff (e_store_mref1 TySz.out rfl rfl (by simp; omega) rfl rfl) ?_ | refine l_eff (e_store_mrefT1 TySz.out rfl rfl (by simp; omega) rfl rfl) ?_
    refine l_nil ?_
    refine then_normal ?_
    obtain ⟨x, hx⟩ : ∃ x, x = p.getD k ⟨m, n⟩ := ⟨_, rfl⟩
    have hxb : -1099511627776 ≤ x.From ∧ x.From ≤ 1099511627776 ∧ -1099511627776 ≤ x.To ∧ x.To ≤ 1099511627776 := by
      rw [hx, List.getD_eq_getElem?_getD]
      by_cases h : k < p.length
      · rw [List.getElem?_eq_getElem h]; exact hb _ (List.getElem_mem h)
      · rw [List.getElem?_eq_none (by omega)]; exact hm
    have hmade : madeGo i j (p.drop k) m n = (if x.From > i ∨ x.To > j then [⟨i, x.From - i, j, x.To - j⟩] else []) ++ (if k < p.length then madeGo (x.From + 1) (x.To + 1) (p.drop (k + 1)) m n else []) := by
      by_cases h : k < p.length
      · rw [List.drop_eq_getElem_cons h, if_pos h, hx, List.getD_eq_getElem?_getD, List.getElem?_eq_getElem h]; rfl
      · rw [List.drop_eq_nil_of_le (by omega), if_neg h, hx, List.getD_eq_getElem?_getD, List.getElem?_eq_none (by omega)]; simp [madeGo]
    refine c_join [(0, sList Span 2 spanC p), (1, sInt m), (2, sInt n), (7, .s (.one (.buf 7 Change 4 changeC out))), (8, sInt i), (9, sInt j), (10, sInt k), (11, .s (.one (.ref 11 0)))] [(11, .box [.p (.v (.int .i64 x.From)), .p (.v (.int .i64 x.To))]), (7, .spare out.length 4 57)] ?_ ?_
    · repeat (first | refine then_normal ?_ | refine c_seq ?_ | refine c_block ?_ | refine inB_normal ?_ | refine c_skip ?_ | refine c_exit ?_ | refine then_exit ?_ | refine inB_same rfl ?_ | refine inB_other rfl ?_ | refine c_ret ?_ | refine then_ret ?_ | refine inB_ret ?_)
      refine c_region ?_
      refine l_neu (n_move rfl rfl) rfl ?_
      refine l_neu (n_move rfl rfl) rfl ?_
      first | refine l_neu (n_len rfl (.pure _ _ _ _)) rfl ?_ | refine l_neu (n_len rfl (.buf _ _ _ _ _)) rfl ?_ | refine l_neu (n_len_mut rfl rfl) rfl ?_ | refine l_neu (n_len_mutT rfl rfl) rfl ?_ | refine l_neu (n_len_nil rfl) rfl ?_
      refine l_neu (n_lss rfl rfl) rfl ?_
      refine l_nil ?_
      repeat (first | refine then_normal ?_ | refine c_seq ?_ | refine c_block ?_ | refine inB_normal ?_ | refine c_skip ?_ | refine c_exit ?_ | refine then_exit ?_ | refine inB_same rfl ?_ | refine inB_other rfl ?_ | refine c_ret ?_ | refine then_ret ?_ | refine inB_ret ?_)
      refine c_cond rfl (fun ht => ?_) (fun ht => ?_)
      · have hlt : k < p.length := by have := of_decide_eq_true ht; omega
        have hv : p[k]? = some p[k] := by simp [hlt]
        have : x = p[k] := by rw [hx, List.getD_eq_getElem?_getD, hv]; rfl
        subst this
        repeat (first | refine then_normal ?_ | refine c_seq ?_ | refine c_block ?_ | refine inB_normal ?_ | refine c_skip ?_ | refine c_exit ?_ | refine then_exit ?_ | refine inB_same rfl ?_ | refine inB_other rfl ?_ | refine c_ret ?_ | refine then_ret ?_ | refine inB_ret ?_)
        refine c_region ?_
        refine l_neu (n_move rfl rfl) rfl ?_
        refine l_neu (n_move rfl rfl) rfl ?_
        first | refine l_neu (n_indexAddr rfl (.pure _ _ _ _) rfl (by omega) hv) rfl ?_ | refine l_neu (n_indexAddr rfl (.buf _ _ _ _ _) rfl (by omega) hv) rfl ?_ | refine l_neu (n_indexAddr_mut rfl rfl rfl (by omega) (by omega)) rfl ?_ | refine l_neu (n_indexAddr_mutT rfl rfl rfl (by omega) (by omega)) rfl ?_
        first | refine l_neu (n_loads_ref rfl rfl rfl) rfl ?_ | refine l_neu (n_loads_eref rfl rfl) rfl ?_ | refine l_neu (n_loads_mref rfl rfl (List.getElem?_eq_getElem (by omega)) rfl) rfl ?_
        first | refine l_eff (e_store_ref TySz.out rfl rfl rfl rfl rfl rfl) ?_ | refine l_eff (e_store_mref1 TySz.out rfl rfl (by simp; omega) rfl rfl) ?_ | refine l_eff (e_store_mrefT1 TySz.out rfl rfl (by simp; omega) rfl rfl) ?_
        refine l_nil ?_
        repeat (first | refine then_normal ?_ | refine c_seq ?_ | refine c_block ?_ | refine inB_normal ?_ | refine c_skip ?_ | refine c_exit ?_ | refine then_exit ?_ | refine inB_same rfl ?_ | refine inB_other rfl ?_ | refine c_ret ?_ | refine then_ret ?_ | refine inB_ret ?_)
        exact Sees.of ⟨⟨_, rfl, by first | exact .same _ | exact .eq (by first | (simp; done) | (simp; omega)) | exact .list _ _ _ _ _ | exact .nil _ _ _ | exact .any _⟩, ⟨_, rfl, by first | exact .same _ | exact .eq (by first | (simp; done) | (simp; omega)) | exact .list _ _ _ _ _ | exact .nil _ _ _ | exact .any _⟩, ⟨_, rfl, by first | exact .same _ | exact .eq (by first | (simp; done) | (simp; omega)) | exact .list _ _ _ _ _ | exact .nil _ _ _ | exact .any _⟩, ⟨_, rfl, by first | exact .same _ | exact .eq (by first | (simp; done) | (simp; omega)) | exact .list _ _ _ _ _ | exact .nil _ _ _ | exact .any _⟩, ⟨_, rfl, by first | exact .same _ | exact .eq (by first | (simp; done) | (simp; omega)) | exact .list _ _ _ _ _ | exact .nil _ _ _ | exact .any _⟩, ⟨_, rfl, by first | exact .same _ | exact .eq (by first | (simp; done) | (simp; omega)) | exact .list _ _ _ _ _ | exact .nil _ _ _ | exact .any _⟩, ⟨_, rfl, by first | exact .same _ | exact .eq (by first | (simp; done) | (simp; omega)) | exact .list _ _ _ _ _ | exact .nil _ _ _ | exact .any _⟩, ⟨_, rfl, by first | exact .same _ | exact .eq (by first | (simp; done) | (simp; omega)) | exact .list _ _ _ _ _ | exact .nil _ _ _ | exact .any _⟩, trivial⟩ ⟨rfl, rfl, trivial⟩
      · have hlt : ¬ k < p.length := by have := of_decide_eq_false ht; omega
        have : x = ⟨m, n⟩ := by rw [hx, List.getD_eq_getElem?_getD, List.getElem?_eq_none (by omega)]; rfl
        subst this
        repeat (first | refine then_normal ?_ | refine c_seq ?_ | refine c_block ?_ | refine inB_normal ?_ | refine c_skip ?_ | refine c_exit ?_ | refine then_exit ?_ | refine inB_same rfl ?_ | refine inB_other rfl ?_ | refine c_ret ?_ | refine then_ret ?_ | refine inB_ret ?_)
        exact Sees.of ⟨⟨_, rfl, by first | exact .same _ | exact .eq (by first | (simp; done) | (simp; omega)) | exact .list _ _ _ _ _ | exact .nil _ _ _ | exact .any _⟩, ⟨_, rfl, by first | exact .same _ | exact .eq (by first | (simp; done) | (simp; omega)) | exact .list _ _ _ _ _ | exact .nil _ _ _ | exact .any _⟩, ⟨_, rfl, by first | exact .same _ | exact .eq (by first | (simp; done) | (simp; omega)) | exact .list _ _ _ _ _ | exact .nil _ _ _ | exact .any _⟩, ⟨_, rfl, by first | exact .same _ | exact .eq (by first | (simp; done) | (simp; omega)) | exact .list _ _ _ _ _ | exact .nil _ _ _ | exact .any _⟩, ⟨_, rfl, by first | exact .same _ | exact .eq (by first | (simp; done) | (simp; omega)) | exact .list _ _ _ _ _ | exact .nil _ _ _ | exact .any _⟩, ⟨_, rfl, by first | exact .same _ | exact .eq (by first | (simp; done) | (simp; omega)) | exact .list _ _ _ _ _ | exact .nil _ _ _ | exact .any _⟩, ⟨_, rfl, by first | exact .same _ | exact .eq (by first | (simp; done) | (simp; omega)) | exact .list _ _ _ _ _ | exact .nil _ _ _ | exact .any _⟩, ⟨_, rfl, by first | exact .same _ | exact .eq (by first | (simp; done) | (simp; omega)) | exact .list _ _ _ _ _ | exact .nil _ _ _ | exact .any _⟩, trivial⟩ ⟨rfl, rfl, trivial⟩
    · obtain ⟨out', hout'⟩ : ∃ o, o = out ++ (if x.From > i ∨ x.To > j then [⟨i, x.From - i, j, x.To - j⟩] else []) := ⟨_, rfl⟩
      have hol : out'.length ≤ k + 1 := by rw [hout', List.length_append]; split <;> simp <;> omega
      refine c_join [(0, sList Span 2 spanC p), (1, sInt m), (2, sInt n), (7, .s (.one (.buf 7 Change 4 changeC out'))), (10, sInt k), (11, .s (.one (.ref 11 0)))] [(11, .box [.p (.v (.int .i64 x.From)), .p (.v (.int .i64 x.To))]), (7, .spare out'.length 4 57)] ?_ ?_
      · repeat (first | refine then_normal ?_ | refine c_seq ?_ | refine c_block ?_ | refine inB_normal ?_ | refine c_skip ?_ | refine c_exit ?_ | refine then_exit ?_ | refine inB_same rfl ?_ | refine inB_other rfl ?_ | refine c_ret ?_ | refine then_ret ?_ | refine inB_ret ?_)
        refine c_region ?_
        first | refine l_neu (n_field_ref rfl) rfl ?_ | refine l_neu (n_field_eref rfl) rfl ?_ | refine l_neu (n_field_mref rfl) rfl ?_
        first | refine l_neu (n_load_eref rfl rfl) rfl ?_ | refine l_neu (n_load_ref rfl rfl rfl) rfl ?_ | refine l_neu (n_load_mref rfl rfl (List.getElem?_eq_getElem (by omega)) rfl) rfl ?_ | refine l_neu (n_load_mrefT1 rfl rfl rfl) rfl ?_
        refine l_neu (n_move rfl rfl) rfl ?_
        refine l_neu (n_gtr rfl rfl) rfl ?_
        refine l_neu (n_move rfl rfl) rfl ?_
        first | refine l_guard rfl rfl rfl rfl (fun hg => by rw [hg]; exact n_field_ref rfl) ?_ | refine l_guard rfl rfl rfl rfl (fun hg => by rw [hg]; exact n_field_eref rfl) ?_ | refine l_guard rfl rfl rfl rfl (fun hg => by rw [hg]; exact n_field_mref rfl) ?_
        first | refine l_guard rfl rfl rfl rfl (fun hg => by rw [hg]; exact n_load_eref rfl rfl) ?_ | refine l_guard rfl rfl rfl rfl (fun hg => by rw [hg]; exact n_load_ref rfl rfl rfl) ?_ | refine l_guard rfl rfl rfl rfl (fun hg => by have hq := hg; (try simp at hq); rw [hg]; exact n_load_mref rfl rfl (List.getElem?_eq_getElem (by omega)) rfl) ?_ | refine l_guard rfl rfl rfl rfl (fun hg => by rw [hg]; exact n_load_mrefT1 rfl rfl rfl) ?_
        refine l_guard rfl rfl rfl rfl (fun hg => by rw [hg]; exact n_move rfl rfl) ?_
        refine l_guard rfl rfl rfl rfl (fun hg => by rw [hg]; exact n_gtr rfl rfl) ?_
        refine l_neu (n_pick_bool rfl (fun h => by first | rfl | (rw [h]; rfl)) (fun h => by first | rfl | (rw [h]; rfl))) rfl ?_
        refine l_nil ?_
        repeat (first | refine then_normal ?_ | refine c_seq ?_ | refine c_block ?_ | refine inB_normal ?_ | refine c_skip ?_ | refine c_exit ?_ | refine then_exit ?_ | refine inB_same rfl ?_ | refine inB_other rfl ?_ | refine c_ret ?_ | refine then_ret ?_ | refine inB_ret ?_)
        refine c_cond rfl (fun ht => ?_) (fun ht => ?_)
        · have h := of_decide_eq_true (or_pick.symm.trans ht)
          rw [if_pos h] at hout'
          subst hout'
          repeat (first | refine then_normal ?_ | refine c_seq ?_ | refine c_block ?_ | refine inB_normal ?_ | refine c_skip ?_ | refine c_exit ?_ | refine then_exit ?_ | refine inB_same rfl ?_ | refine inB_other rfl ?_ | refine c_ret ?_ | refine then_ret ?_ | refine inB_ret ?_)
          refine c_region ?_
          refine l_neu (n_move rfl rfl) rfl ?_
          refine l_neu (n_move rfl rfl) rfl ?_
          first | refine l_neu (n_field_ref rfl) rfl ?_ | refine l_neu (n_field_eref rfl) rfl ?_ | refine l_neu (n_field_mref rfl) rfl ?_
          first | refine l_neu (n_load_eref rfl rfl) rfl ?_ | refine l_neu (n_load_ref rfl rfl rfl) rfl ?_ | refine l_neu (n_load_mref rfl rfl (List.getElem?_eq_getElem (by omega)) rfl) rfl ?_ | refine l_neu (n_load_mrefT1 rfl rfl rfl) rfl ?_
          refine l_neu (n_move rfl rfl) rfl ?_
          refine l_neu (n_sub rfl rfl (by omega)) rfl ?_
          refine l_neu (n_move rfl rfl) rfl ?_
          first | refine l_neu (n_field_ref rfl) rfl ?_ | refine l_neu (n_field_eref rfl) rfl ?_ | refine l_neu (n_field_mref rfl) rfl ?_
          first | refine l_neu (n_load_eref rfl rfl) rfl ?_ | refine l_neu (n_load_ref rfl rfl rfl) rfl ?_ | refine l_neu (n_load_mref rfl rfl (List.getElem?_eq_getElem (by omega)) rfl) rfl ?_ | refine l_neu (n_load_mrefT1 rfl rfl rfl) rfl ?_
          refine l_neu (n_move rfl rfl) rfl ?_
          refine l_neu (n_sub rfl rfl (by omega)) rfl ?_
          refine l_neu (n_build rfl) rfl ?_
          refine l_neu (n_buildSlice (c := changeC) (ys := [⟨_, _, _, _⟩]) (asm_cons rfl rfl rfl rfl asm_nil) rfl rfl rfl) rfl ?_
          first | refine l_effv (e_append rfl rfl rfl (.pure _ _ _ _) (by simp; omega) rfl) rfl ?_ | refine l_effv (e_append rfl rfl rfl (.buf _ _ _ _ _) (by simp; omega) rfl) rfl ?_
          refine l_neu (n_assign rfl rfl) rfl ?_
          refine l_nil ?_
          repeat (first | refine then_normal ?_ | refine c_seq ?_ | refine c_block ?_ | refine inB_normal ?_ | refine c_skip ?_ | refine c_exit ?_ | refine then_exit ?_ | refine inB_same rfl ?_ | refine inB_other rfl ?_ | refine c_ret ?_ | refine then_ret ?_ | refine inB_ret ?_)
          exact Sees.of ⟨⟨_, rfl, by first | exact .same _ | exact .eq (by first | (simp; done) | (simp; omega)) | exact .list _ _ _ _ _ | exact .nil _ _ _ | exact .any _⟩, ⟨_, rfl, by first | exact .same _ | exact .eq (by first | (simp; done) | (simp; omega)) | exact .list _ _ _ _ _ | exact .nil _ _ _ | exact .any _⟩, ⟨_, rfl, by first | exact .same _ | exact .eq (by first | (simp; done) | (simp; omega)) | exact .list _ _ _ _ _ | exact .nil _ _ _ | exact .any _⟩, ⟨_, rfl, by first | exact .same _ | exact .eq (by first | (simp; done) | (simp; omega)) | exact .list _ _ _ _ _ | exact .nil _ _ _ | exact .any _⟩, ⟨_, rfl, by first | exact .same _ | exact .eq (by first | (simp; done) | (simp; omega)) | exact .list _ _ _ _ _ | exact .nil _ _ _ | exact .any _⟩, ⟨_, rfl, by first | exact .same _ | exact .eq (by first | (simp; done) | (simp; omega)) | exact .list _ _ _ _ _ | exact .nil _ _ _ | exact .any _⟩, trivial⟩ ⟨rfl, rfl, trivial⟩
        · have h := of_decide_eq_false (or_pick.symm.trans ht)
          rw [if_neg h, List.append_nil] at hout'
          subst hout'
          repeat (first | refine then_normal ?_ | refine c_seq ?_ | refine c_block ?_ | refine inB_normal ?_ | refine c_skip ?_ | refine c_exit ?_ | refine then_exit ?_ | refine inB_same rfl ?_ | refine inB_other rfl ?_ | refine c_ret ?_ | refine then_ret ?_ | refine inB_ret ?_)
          exact Sees.of ⟨⟨_, rfl, by first | exact .same _ | exact .eq (by first | (simp; done) | (simp; omega)) | exact .list _ _ _ _ _ | exact .nil _ _ _ | exact .any _⟩, ⟨_, rfl, by first | exact .same _ | exact .eq (by first | (simp; done) | (simp; omega)) | exact .list _ _ _ _ _ | exact .nil _ _ _ | exact .any _⟩, ⟨_, rfl, by first | exact .same _ | exact .eq (by first | (simp; done) | (simp; omega)) | exact .list _ _ _ _ _ | exact .nil _ _ _ | exact .any _⟩, ⟨_, rfl, by first | exact .same _ | exact .eq (by first | (simp; done) | (simp; omega)) | exact .list _ _ _ _ _ | exact .nil _ _ _ | exact .any _⟩, ⟨_, rfl, by first | exact .same _ | exact .eq (by first | (simp; done) | (simp; omega)) | exact .list _ _ _ _ _ | exact .nil _ _ _ | exact .any _⟩, ⟨_, rfl, by first | exact .same _ | exact .eq (by first | (simp; done) | (simp; omega)) | exact .list _ _ _ _ _ | exact .nil _ _ _ | exact .any _⟩, trivial⟩ ⟨rfl, rfl, trivial⟩
      · repeat (first | refine then_normal ?_ | refine c_seq ?_ | refine c_block ?_ | refine inB_normal ?_ | refine c_skip ?_ | refine c_exit ?_ | refine then_exit ?_ | refine inB_same rfl ?_ | refine inB_other rfl ?_ | refine c_ret ?_ | refine then_ret ?_ | refine inB_ret ?_)
        refine c_region_draw (by kernel_rfl) (by kernel_rfl) ?_
        first | refine d_neu (n_field_ref rfl) rfl rfl ?_ | refine d_neu (n_field_eref rfl) rfl rfl ?_ | refine d_neu (n_field_mref rfl) rfl rfl ?_
        first | refine d_neu (n_load_eref rfl rfl) rfl rfl ?_ | refine d_neu (n_load_ref rfl rfl rfl) rfl rfl ?_ | refine d_neu (n_load_mref rfl rfl (List.getElem?_eq_getElem (by omega)) rfl) rfl rfl ?_ | refine d_neu (n_load_mrefT1 rfl rfl rfl) rfl rfl ?_
        refine d_neu (n_add rfl rfl (by omega)) rfl rfl ?_
        first | refine d_neu (n_field_ref rfl) rfl rfl ?_ | refine d_neu (n_field_eref rfl) rfl rfl ?_ | refine d_neu (n_field_mref rfl) rfl rfl ?_
        first | refine d_neu (n_load_eref rfl rfl) rfl rfl ?_ | refine d_neu (n_load_ref rfl rfl rfl) rfl rfl ?_ | refine d_neu (n_load_mref rfl rfl (List.getElem?_eq_getElem (by omega)) rfl) rfl rfl ?_ | refine d_neu (n_load_mrefT1 rfl rfl rfl) rfl rfl ?_
        refine d_neu (n_add rfl rfl (by omega)) rfl rfl ?_
        refine d_neu (n_assign rfl rfl) rfl rfl ?_
        refine d_neu (n_assign rfl rfl) rfl rfl ?_
        refine d_nil ?_
        repeat (first | refine then_normal ?_ | refine c_seq ?_ | refine c_block ?_ | refine inB_normal ?_ | refine c_skip ?_ | refine c_exit ?_ | refine then_exit ?_ | refine inB_same rfl ?_ | refine inB_other rfl ?_ | refine c_ret ?_ | refine then_ret ?_ | refine inB_ret ?_)
        refine c_region ?_
        refine l_neu (n_move rfl rfl) rfl ?_
        refine l_neu (n_add rfl rfl (by omega)) rfl ?_
        refine l_neu (n_assign rfl rfl) rfl ?_
        refine l_nil ?_
        repeat (first | refine then_normal ?_ | refine c_seq ?_ | refine c_block ?_ | refine inB_normal ?_ | refine c_skip ?_ | refine c_exit ?_ | refine then_exit ?_ | refine inB_same rfl ?_ | refine inB_other rfl ?_ | refine c_ret ?_ | refine then_ret ?_ | refine inB_ret ?_)
        refine ⟨(k + 1, x.From + 1, x.To + 1, out'), ⟨by dsimp only; omega, hol, by dsimp only; omega, ?_, ?_⟩, by dsimp only; omega, Sees.of ⟨⟨_, rfl, by first | exact .same _ | exact .eq (by first | (simp; done) | (simp; omega)) | exact .list _ _ _ _ _ | exact .nil _ _ _ | exact .any _⟩, ⟨_, rfl, by first | exact .same _ | exact .eq (by first | (simp; done) | (simp; omega)) | exact .list _ _ _ _ _ | exact .nil _ _ _ | exact .any _⟩, ⟨_, rfl, by first | exact .same _ | exact .eq (by first | (simp; done) | (simp; omega)) | exact .list _ _ _ _ _ | exact .nil _ _ _ | exact .any _⟩, ⟨_, rfl, by first | exact .same _ | exact .eq (by first | (simp; done) | (simp; omega)) | exact .list _ _ _ _ _ | exact .nil _ _ _ | exact .any _⟩, ⟨_, rfl, by first | exact .same _ | exact .eq (by first | (simp; done) | (simp; omega)) | exact .list _ _ _ _ _ | exact .nil _ _ _ | exact .any _⟩, ⟨_, rfl, by first | exact .same _ | exact .eq (by first | (simp; done) | (simp; omega)) | exact .list _ _ _ _ _ | exact .nil _ _ _ | exact .any _⟩, ⟨_, rfl, by first | exact .same _ | exact .eq (by first | (simp; done) | (simp; omega)) | exact .list _ _ _ _ _ | exact .nil _ _ _ | exact .any _⟩, trivial⟩ ⟨rfl, trivial⟩⟩
        · intro hk2
          dsimp only at hk2 ⊢
          rw [← hpp, hmade, if_pos (show k < p.length by omega), hout']; simp
        · intro hk2
          dsimp only at hk2 ⊢
          rw [← hpp, hmade, if_neg (show ¬ k < p.length by omega), hout']; simp
  · have hk' : k = p.length + 1 := by have := of_decide_eq_false ht; omega
    repeat (first | refine then_normal ?_ | refine c_seq ?_ | refine c_block ?_ | refine inB_normal ?_ | refine c_skip ?_ | refine c_exit ?_ | refine then_exit ?_ | refine inB_same rfl ?_ | refine inB_other rfl ?_ | refine c_ret ?_ | refine then_ret ?_ | refine inB_ret ?_)
    refine c_region ?_
    refine l_neu (n_move rfl rfl) rfl ?_
    refine l_neu (n_assign rfl rfl) rfl ?_
    refine l_nil ?_
    repeat (first | refine then_normal ?_ | refine c_seq ?_ | refine c_block ?_ | refine inB_normal ?_ | refine c_skip ?_ | refine c_exit ?_ | refine then_exit ?_ | refine inB_same rfl ?_ | refine inB_other rfl ?_ | refine c_ret ?_ | refine then_ret ?_ | refine inB_ret ?_)
    exact ret_ret (ret1 rfl rfl rfl) (by rw [h2 hk'])

theorem long_ok (a b : List Int) : FnOk Try.prog 50 [pInts a, pInts b] (fun rs => rs = [pBool (decide (4096 < a.length ∨ 4096 < b.length))]) := by
  refine FnOk.intro Try.func50 (by decide) rfl rfl rfl ?_
  repeat (first | refine then_normal ?_ | refine c_seq ?_ | refine c_block ?_ | refine inB_normal ?_ | refine c_skip ?_ | refine c_exit ?_ | refine then_exit ?_ | refine inB_same rfl ?_ | refine inB_other rfl ?_ | refine c_ret ?_ | refine then_ret ?_ | refine inB_ret ?_)
  refine c_region ?_
  refine l_neu (n_assign rfl rfl) rfl ?_
  refine l_nil ?_
  repeat (first | refine then_normal ?_ | refine c_seq ?_ | refine c_block ?_ | refine inB_normal ?_ | refine c_skip ?_ | refine c_exit ?_ | refine then_exit ?_ | refine inB_same rfl ?_ | refine inB_other rfl ?_ | refine c_ret ?_ | refine then_ret ?_ | refine inB_ret ?_)
  refine c_region ?_
  refine l_neu (n_move rfl rfl) rfl ?_
  first | refine l_neu (n_len rfl (.pure _ _ _ _)) rfl ?_ | refine l_neu (n_len rfl (.buf _ _ _ _ _)) rfl ?_ | refine l_neu (n_len_mut rfl rfl) rfl ?_ | refine l_neu (n_len_mutT rfl rfl) rfl ?_ | refine l_neu (n_len_nil rfl) rfl ?_
  refine l_neu (n_gtr rfl rfl) rfl ?_
  refine l_neu (n_move rfl rfl) rfl ?_
  refine l_guard rfl rfl rfl rfl (fun hg => by rw [hg]; exact n_move rfl rfl) ?_
  first | refine l_guard rfl rfl rfl rfl (fun hg => by rw [hg]; exact n_len rfl (.pure _ _ _ _)) ?_ | refine l_guard rfl rfl rfl rfl (fun hg => by rw [hg]; exact n_len rfl (.buf _ _ _ _ _)) ?_ | refine l_guard rfl rfl rfl rfl (fun hg => by rw [hg]; exact n_len_mut rfl rfl) ?_ | refine l_guard rfl rfl rfl rfl (fun hg => by rw [hg]; exact n_len_mutT rfl rfl) ?_ | refine l_guard rfl rfl rfl rfl (fun hg => by rw [hg]; exact n_len_nil rfl) ?_
  refine l_guard rfl rfl rfl rfl (fun hg => by rw [hg]; exact n_gtr rfl rfl) ?_
  refine l_neu (n_pick_bool rfl (fun h => by first | rfl | (rw [h]; rfl)) (fun h => by first | rfl | (rw [h]; rfl))) rfl ?_
  refine l_neu (n_assign rfl rfl) rfl ?_
  refine l_nil ?_
  repeat (first | refine then_normal ?_ | refine c_seq ?_ | refine c_block ?_ | refine inB_normal ?_ | refine c_skip ?_ | refine c_exit ?_ | refine then_exit ?_ | refine inB_same rfl ?_ | refine inB_other rfl ?_ | refine c_ret ?_ | refine then_ret ?_ | refine inB_ret ?_)
  refine ret_ret (ret1 rfl rfl rfl) ?_
  rw [or_pick]
  simp only [List.cons.injEq, and_true, PV.one.injEq, Cell.v.injEq, Value.bool.injEq, decide_eq_decide]
  omega

theorem linesM_ok (l : List Merged) (hl : l.length ≤ 536870912) : FnOk Try.prog 42 [pMerged l] (fun rs => rs = [pInts (linesM l)]) := by
  refine FnOk.intro Try.func42 (by decide) rfl rfl rfl ?_
  repeat (first | refine then_normal ?_ | refine c_seq ?_ | refine c_block ?_ | refine inB_normal ?_ | refine c_skip ?_ | refine c_exit ?_ | refine then_exit ?_ | refine inB_same rfl ?_ | refine inB_other rfl ?_ | refine c_ret ?_ | refine then_ret ?_ | refine inB_ret ?_)
  refine c_region ?_
  refine l_neu (n_assign rfl rfl) rfl ?_
  refine l_nil ?_
  repeat (first | refine then_normal ?_ | refine c_seq ?_ | refine c_block ?_ | refine inB_normal ?_ | refine c_skip ?_ | refine c_exit ?_ | refine then_exit ?_ | refine inB_same rfl ?_ | refine inB_other rfl ?_ | refine c_ret ?_ | refine then_ret ?_ | refine inB_ret ?_)
  refine c_region ?_
  refine l_effv (f_adopt 3 _ intC rfl) rfl ?_
  refine l_nil ?_
  repeat (first | refine then_normal ?_ | refine c_seq ?_ | refine c_block ?_ | refine inB_normal ?_ | refine c_skip ?_ | refine c_exit ?_ | refine then_exit ?_ | refine inB_same rfl ?_ | refine inB_other rfl ?_ | refine c_ret ?_ | refine then_ret ?_ | refine inB_ret ?_)
  refine c_region ?_
  refine l_neu (n_assign rfl rfl) rfl ?_
  refine l_nil ?_
  repeat (first | refine then_normal ?_ | refine c_seq ?_ | refine c_block ?_ | refine inB_normal ?_ | refine c_skip ?_ | refine c_exit ?_ | refine then_exit ?_ | refine inB_same rfl ?_ | refine inB_other rfl ?_ | refine c_ret ?_ | refine then_ret ?_ | refine inB_ret ?_)
  refine c_while (X := Nat) (fun i => ([(0, sList Merged 2 mergedC l), (3, .s (.one (.buf 3 Int 1 intC (linesM (l.take i))))), (4, sInt i)], [(3, .spare (linesM (l.take i)).length 1 3)])) (fun i => i ≤ l.length) (fun i => l.length - i) 0 (by simp) (Sees.of ⟨⟨_, rfl, by first | exact .same _ | exact .eq (by first | (simp; done) | (simp; omega)) | exact .list _ _ _ _ _ | exact .nil _ _ _ | exact .any _⟩, ⟨_, rfl, by first | exact .same _ | exact .eq (by first | (simp; done) | (simp; omega)) | exact .list _ _ _ _ _ | exact .nil _ _ _ | exact .any _⟩, ⟨_, rfl, by first | exact .same _ | exact .eq (by first | (simp; done) | (simp; omega)) | exact .list _ _ _ _ _ | exact .nil _ _ _ | exact .any _⟩, trivial⟩ ⟨rfl, trivial⟩) ?_
  intro i hi
  dsimp only at hi ⊢
  repeat (first | refine then_normal ?_ | refine c_seq ?_ | refine c_block ?_ | refine inB_normal ?_ | refine c_skip ?_ | refine c_exit ?_ | refine then_exit ?_ | refine inB_same rfl ?_ | refine inB_other rfl ?_ | refine c_ret ?_ | refine then_ret ?_ | refine inB_ret ?_)
  refine c_region ?_
  refine l_neu (n_move rfl rfl) rfl ?_
  refine l_neu (n_move rfl rfl) rfl ?_
  first | refine l_neu (n_len rfl (.pure _ _ _ _)) rfl ?_ | refine l_neu (n_len rfl (.buf _ _ _ _ _)) rfl ?_ | refine l_neu (n_len_mut rfl rfl) rfl ?_ | refine l_neu (n_len_mutT rfl rfl) rfl ?_ | refine l_neu (n_len_nil rfl) rfl ?_
  refine l_neu (n_lss rfl rfl) rfl ?_
  refine l_nil ?_
  repeat (first | refine then_normal ?_ | refine c_seq ?_ | refine c_block ?_ | refine inB_normal ?_ | refine c_skip ?_ | refine c_exit ?_ | refine then_exit ?_ | refine inB_same rfl ?_ | refine inB_other rfl ?_ | refine c_ret ?_ | refine then_ret ?_ | refine inB_ret ?_)
  have hlen : (linesM (l.take i)).length = i := by simp [linesM]; omega
  refine c_cond rfl (fun ht => ?_) (fun ht => ?_)
  · have hlt : i < l.length := by have := of_decide_eq_true ht; omega
    have hv : l[i]? = some l[i] := by simp [hlt]
    have hst : linesM (l.take (i + 1)) = linesM (l.take i) ++ [l[i].Line] := by
      unfold linesM; rw [List.take_add_one, hv, Option.toList_some, List.map_append]; rfl
    repeat (first | refine then_normal ?_ | refine c_seq ?_ | refine c_block ?_ | refine inB_normal ?_ | refine c_skip ?_ | refine c_exit ?_ | refine then_exit ?_ | refine inB_same rfl ?_ | refine inB_other rfl ?_ | refine c_ret ?_ | refine then_ret ?_ | refine inB_ret ?_)
    refine c_region ?_
    refine l_neu (n_move rfl rfl) rfl ?_
    refine l_neu (n_move rfl rfl) rfl ?_
    refine l_neu (n_move rfl rfl) rfl ?_
    first | refine l_neu (n_indexAddr rfl (.pure _ _ _ _) rfl (by omega) hv) rfl ?_ | refine l_neu (n_indexAddr rfl (.buf _ _ _ _ _) rfl (by omega) hv) rfl ?_ | refine l_neu (n_indexAddr_mut rfl rfl rfl (by omega) (by omega)) rfl ?_ | refine l_neu (n_indexAddr_mutT rfl rfl rfl (by omega) (by omega)) rfl ?_
    first | refine l_neu (n_field_ref rfl) rfl ?_ | refine l_neu (n_field_eref rfl) rfl ?_ | refine l_neu (n_field_mref rfl) rfl ?_
    first | refine l_neu (n_load_eref rfl rfl) rfl ?_ | refine l_neu (n_load_ref rfl rfl rfl) rfl ?_ | refine l_neu (n_load_mref rfl rfl (List.getElem?_eq_getElem (by omega)) rfl) rfl ?_ | refine l_neu (n_load_mrefT1 rfl rfl rfl) rfl ?_
    refine l_neu (n_buildSlice (c := intC) (ys := [_]) (asm_cons rfl rfl rfl rfl asm_nil) rfl rfl rfl) rfl ?_
    first | refine l_effv (e_append rfl rfl rfl (.pure _ _ _ _) (by simp; omega) rfl) rfl ?_ | refine l_effv (e_append rfl rfl rfl (.buf _ _ _ _ _) (by simp; omega) rfl) rfl ?_
    refine l_neu (n_assign rfl rfl) rfl ?_
    refine l_nil ?_
    repeat (first | refine then_normal ?_ | refine c_seq ?_ | refine c_block ?_ | refine inB_normal ?_ | refine c_skip ?_ | refine c_exit ?_ | refine then_exit ?_ | refine inB_same rfl ?_ | refine inB_other rfl ?_ | refine c_ret ?_ | refine then_ret ?_ | refine inB_ret ?_)
    refine c_region ?_
    refine l_neu (n_move rfl rfl) rfl ?_
    refine l_neu (n_add rfl rfl (by omega)) rfl ?_
    refine l_neu (n_assign rfl rfl) rfl ?_
    refine l_nil ?_
    repeat (first | refine then_normal ?_ | refine c_seq ?_ | refine c_block ?_ | refine inB_normal ?_ | refine c_skip ?_ | refine c_exit ?_ | refine then_exit ?_ | refine inB_same rfl ?_ | refine inB_other rfl ?_ | refine c_ret ?_ | refine then_ret ?_ | refine inB_ret ?_)
    refine ⟨i + 1, by omega, by omega, ?_⟩
    rw [hst]
    exact Sees.of ⟨⟨_, rfl, by first | exact .same _ | exact .eq (by first | (simp; done) | (simp; omega)) | exact .list _ _ _ _ _ | exact .nil _ _ _ | exact .any _⟩, ⟨_, rfl, by first | exact .same _ | exact .eq (by first | (simp; done) | (simp; omega)) | exact .list _ _ _ _ _ | exact .nil _ _ _ | exact .any _⟩, ⟨_, rfl, by first | exact .same _ | exact .eq (by first | (simp; done) | (simp; omega)) | exact .list _ _ _ _ _ | exact .nil _ _ _ | exact .any _⟩, trivial⟩ ⟨rfl, trivial⟩
  · have : i = l.length := by have := of_decide_eq_false ht; omega
    subst this
    repeat (first | refine then_normal ?_ | refine c_seq ?_ | refine c_block ?_ | refine inB_normal ?_ | refine c_skip ?_ | refine c_exit ?_ | refine then_exit ?_ | refine inB_same rfl ?_ | refine inB_other rfl ?_ | refine c_ret ?_ | refine then_ret ?_ | refine inB_ret ?_)
    refine c_region ?_
    refine l_neu (n_move rfl rfl) rfl ?_
    refine l_neu (n_assign rfl rfl) rfl ?_
    refine l_nil ?_
    repeat (first | refine then_normal ?_ | refine c_seq ?_ | refine c_block ?_ | refine inB_normal ?_ | refine c_skip ?_ | refine c_exit ?_ | refine then_exit ?_ | refine inB_same rfl ?_ | refine inB_other rfl ?_ | refine c_ret ?_ | refine then_ret ?_ | refine inB_ret ?_)
    exact ret_ret (ret1 rfl rfl rfl) (by simp)

theorem table_ok (a b : List Int) (ha : a.length ≤ 536870912) (hb : b.length ≤ 536870912) : FnOk Try.prog 27 [pInts a, pInts b] (fun rs => rs = [pIntss (distTable a b)]) := by
  refine FnOk.intro Try.func27 (by decide) rfl rfl rfl ?_
  repeat (first | refine then_normal ?_ | refine c_seq ?_ | refine c_block ?_ | refine inB_normal ?_ | refine c_skip ?_ | refine c_exit ?_ | refine then_exit ?_ | refine inB_same rfl ?_ | refine inB_other rfl ?_ | refine c_ret ?_ | refine then_ret ?_ | refine inB_ret ?_)
  refine c_region ?_
  refine l_neu (n_assign rfl rfl) rfl ?_
  refine l_nil ?_
  repeat (first | refine then_normal ?_ | refine c_seq ?_ | refine c_block ?_ | refine inB_normal ?_ | refine c_skip ?_ | refine c_exit ?_ | refine then_exit ?_ | refine inB_same rfl ?_ | refine inB_other rfl ?_ | refine c_ret ?_ | refine then_ret ?_ | refine inB_ret ?_)
  refine c_region ?_
  refine l_neu (n_move rfl rfl) rfl ?_
  first | refine l_neu (n_len rfl (.pure _ _ _ _)) rfl ?_ | refine l_neu (n_len rfl (.buf _ _ _ _ _)) rfl ?_ | refine l_neu (n_len_mut rfl rfl) rfl ?_ | refine l_neu (n_len_mutT rfl rfl) rfl ?_ | refine l_neu (n_len_nil rfl) rfl ?_
  refine l_neu (n_add rfl rfl (by omega)) rfl ?_
  refine l_effv (f_makeZ 5 (List Int) intsC [] rfl rfl (by omega) (by omega) (fun _ => by first | exact ⟨⟨rfl, rfl⟩, trivial⟩ | exact ⟨rep_nil _ _ _, trivial⟩) (by first | rfl | (simp [frFree, obFree, Ob.free, SV.free, S1.free, TC.free] <;> rfl))) rfl ?_
  refine l_neu (n_assign rfl rfl) rfl ?_
  refine l_nil ?_
  repeat (first | refine then_normal ?_ | refine c_seq ?_ | refine c_block ?_ | refine inB_normal ?_ | refine c_skip ?_ | refine c_exit ?_ | refine then_exit ?_ | refine inB_same rfl ?_ | refine inB_other rfl ?_ | refine c_ret ?_ | refine then_ret ?_ | refine inB_ret ?_)
  refine c_region ?_
  refine l_neu (n_move rfl rfl) rfl ?_
  first | refine l_neu (n_len rfl (.pure _ _ _ _)) rfl ?_ | refine l_neu (n_len rfl (.buf _ _ _ _ _)) rfl ?_ | refine l_neu (n_len_mut rfl rfl) rfl ?_ | refine l_neu (n_len_mutT rfl rfl) rfl ?_ | refine l_neu (n_len_nil rfl) rfl ?_
  refine l_neu (n_assign rfl rfl) rfl ?_
  refine l_nil ?_
  repeat (first | refine then_normal ?_ | refine c_seq ?_ | refine c_block ?_ | refine inB_normal ?_ | refine c_skip ?_ | refine c_exit ?_ | refine then_exit ?_ | refine inB_same rfl ?_ | refine inB_other rfl ?_ | refine c_ret ?_ | refine then_ret ?_ | refine inB_ret ?_)
  refine c_while (X := Nat) (fun i => ([(0, sList Int 1 intC a), (1, sList Int 1 intC b), (5, .s (.one (.mut 5))), (6, sInt ((i : Int) - 1))], [(5, .arr (List Int) 1 intsC (distRows a b i))])) (fun i => i ≤ a.length + 1) (fun i => i) (a.length + 1) (Nat.le_refl _) ?_ ?_
  · refine Sees.of ⟨⟨_, rfl, .same _⟩, ⟨_, rfl, .same _⟩, ⟨_, rfl, .same _⟩, ⟨_, rfl, .eq (by simp)⟩, trivial⟩ ⟨?_, trivial⟩
    rw [← distRows_full]; rfl
  intro i hi
  dsimp only at hi ⊢
  repeat (first | refine then_normal ?_ | refine c_seq ?_ | refine c_block ?_ | refine inB_normal ?_ | refine c_skip ?_ | refine c_exit ?_ | refine then_exit ?_ | refine inB_same rfl ?_ | refine inB_other rfl ?_ | refine c_ret ?_ | refine then_ret ?_ | refine inB_ret ?_)
  refine c_region ?_
  refine l_neu (n_move rfl rfl) rfl ?_
  refine l_neu (n_geq rfl rfl) rfl ?_
  refine l_nil ?_
  repeat (first | refine then_normal ?_ | refine c_seq ?_ | refine c_block ?_ | refine inB_normal ?_ | refine c_skip ?_ | refine c_exit ?_ | refine then_exit ?_ | refine inB_same rfl ?_ | refine inB_other rfl ?_ | refine c_ret ?_ | refine then_ret ?_ | refine inB_ret ?_)
  refine c_cond rfl (fun ht => ?_) (fun ht => ?_)
  · obtain ⟨i, rfl⟩ : ∃ r, i = r + 1 := ⟨i - 1, by have := of_decide_eq_true ht; omega⟩
    refine c_cut [(0, sList Int 1 intC a), (1, sList Int 1 intC b), (5, .s (.one (.mut 5))), (6, sInt i)] [(5, .arr (List Int) 1 intsC (distRows a b (i + 1)))] (Sees.of ⟨⟨_, rfl, by first | exact .same _ | exact .eq (by first | (simp; done) | (simp; omega)) | exact .list _ _ _ _ _ | exact .nil _ _ _ | exact .any _⟩, ⟨_, rfl, by first | exact .same _ | exact .eq (by first | (simp; done) | (simp; omega)) | exact .list _ _ _ _ _ | exact .nil _ _ _ | exact .any _⟩, ⟨_, rfl, by first | exact .same _ | exact .eq (by first | (simp; done) | (simp; omega)) | exact .list _ _ _ _ _ | exact .nil _ _ _ | exact .any _⟩, ⟨_, rfl, by first | exact .same _ | exact .eq (by first | (simp; done) | (simp; omega)) | exact .list _ _ _ _ _ | exact .nil _ _ _ | exact .any _⟩, trivial⟩ ⟨rfl, trivial⟩) ?_
    refine c_sees (Sees.toT1 5 rfl) ?_
    have hTl : ((distRows a b (i + 1)).map fun x => TC.p (intsC x 0)).length = a.length + 1 := by simp [distRows_length]
    have hRs := distRows_length a b (i + 1)
    repeat (first | refine then_normal ?_ | refine c_seq ?_ | refine c_block ?_ | refine inB_normal ?_ | refine c_skip ?_ | refine c_exit ?_ | refine then_exit ?_ | refine inB_same rfl ?_ | refine inB_other rfl ?_ | refine c_ret ?_ | refine then_ret ?_ | refine inB_ret ?_)
    refine c_region ?_
    refine l_neu (n_move rfl rfl) rfl ?_
    refine l_neu (n_move rfl rfl) rfl ?_
    refine l_neu (n_move rfl rfl) rfl ?_
    first | refine l_neu (n_len rfl (.pure _ _ _ _)) rfl ?_ | refine l_neu (n_len rfl (.buf _ _ _ _ _)) rfl ?_ | refine l_neu (n_len_mut rfl rfl) rfl ?_ | refine l_neu (n_len_mutT rfl rfl) rfl ?_ | refine l_neu (n_len_nil rfl) rfl ?_
    refine l_neu (n_add rfl rfl (by omega)) rfl ?_
    refine l_effv (f_makeZ 23 Int intC 0 rfl rfl (by omega) (by omega) (fun _ => by first | exact ⟨⟨rfl, rfl⟩, trivial⟩ | exact ⟨rep_nil _ _ _, trivial⟩) (by first | rfl | (simp [frFree, obFree, Ob.free, SV.free, S1.free, TC.free] <;> rfl))) rfl ?_
    first | refine l_neu (n_indexAddr rfl (.pure _ _ _ _) rfl (by omega) (List.getElem?_eq_getElem (by omega))) rfl ?_ | refine l_neu (n_indexAddr rfl (.buf _ _ _ _ _) rfl (by omega) (List.getElem?_eq_getElem (by omega))) rfl ?_ | refine l_neu (n_indexAddr_mut rfl rfl rfl (by omega) (by omega)) rfl ?_ | refine l_neu (n_indexAddr_mutT rfl rfl rfl (by omega) (by omega)) rfl ?_
    first | refine l_eff (e_store_ref TySz.out rfl rfl rfl rfl rfl rfl) ?_ | refine l_eff (e_store_mref1 TySz.out rfl rfl (by (rw [hTl]; simp; omega)) rfl rfl) ?_ | refine l_eff (e_store_mrefT1 TySz.out rfl rfl (by (rw [hTl]; simp; omega)) rfl rfl) ?_
    refine l_nil ?_
    repeat (first | refine then_normal ?_ | refine c_seq ?_ | refine c_block ?_ | refine inB_normal ?_ | refine c_skip ?_ | refine c_exit ?_ | refine then_exit ?_ | refine inB_same rfl ?_ | refine inB_other rfl ?_ | refine c_ret ?_ | refine then_ret ?_ | refine inB_ret ?_)
    refine c_region ?_
    refine l_neu (n_move rfl rfl) rfl ?_
    first | refine l_neu (n_len rfl (.pure _ _ _ _)) rfl ?_ | refine l_neu (n_len rfl (.buf _ _ _ _ _)) rfl ?_ | refine l_neu (n_len_mut rfl rfl) rfl ?_ | refine l_neu (n_len_mutT rfl rfl) rfl ?_ | refine l_neu (n_len_nil rfl) rfl ?_
    refine l_neu (n_assign rfl rfl) rfl ?_
    refine l_nil ?_
    repeat (first | refine then_normal ?_ | refine c_seq ?_ | refine c_block ?_ | refine inB_normal ?_ | refine c_skip ?_ | refine c_exit ?_ | refine then_exit ?_ | refine inB_same rfl ?_ | refine inB_other rfl ?_ | refine c_ret ?_ | refine then_ret ?_ | refine inB_ret ?_)
    obtain ⟨T, hT⟩ : ∃ T, T = ((distRows a b (i + 1)).map fun x => TC.p (intsC x 0)).set i (.mut 23) := ⟨_, rfl⟩
    have hTi : T[i]? = some (.mut 23) := by rw [hT, List.getElem?_set_self (by rw [hTl]; omega)]
    have hTn : i + 1 ≤ a.length → T[i + 1]? = some (.p (intsC (distRow a b (i + 1) 0) 0)) := fun h => by
      rw [hT, List.getElem?_set_ne (by omega), List.getElem?_map, distRows_get a b (i + 1) (i + 1) (Nat.le_refl _) h]; rfl
    refine c_while (X := Nat) (fun j => ([(0, sList Int 1 intC a), (1, sList Int 1 intC b), (5, .s (.one (.mut 5))), (6, sInt i), (7, sInt ((j : Int) - 1))], [(5, .tarr (distRows a b (i + 1)).length 1 T), (23, .arr Int 1 intC (distRow a b i j))])) (fun j => j ≤ b.length + 1) (fun j => j) (b.length + 1) (Nat.le_refl _) ?_ ?_
    · refine Sees.of ⟨⟨_, rfl, .same _⟩, ⟨_, rfl, .same _⟩, ⟨_, rfl, .same _⟩, ⟨_, rfl, .same _⟩, ⟨_, rfl, .eq (by simp)⟩, trivial⟩ ⟨by rw [hT]; rfl, ?_, trivial⟩
      rw [← distRow_full]; rfl
    intro j hj
    dsimp only at hj ⊢
    repeat (first | refine then_normal ?_ | refine c_seq ?_ | refine c_block ?_ | refine inB_normal ?_ | refine c_skip ?_ | refine c_exit ?_ | refine then_exit ?_ | refine inB_same rfl ?_ | refine inB_other rfl ?_ | refine c_ret ?_ | refine then_ret ?_ | refine inB_ret ?_)
    refine c_region ?_
    refine l_neu (n_move rfl rfl) rfl ?_
    refine l_neu (n_geq rfl rfl) rfl ?_
    refine l_nil ?_
    repeat (first | refine then_normal ?_ | refine c_seq ?_ | refine c_block ?_ | refine inB_normal ?_ | refine c_skip ?_ | refine c_exit ?_ | refine then_exit ?_ | refine inB_same rfl ?_ | refine inB_other rfl ?_ | refine c_ret ?_ | refine then_ret ?_ | refine inB_ret ?_)
    refine c_cond rfl (fun ht => ?_) (fun ht => ?_)
    · obtain ⟨j, rfl⟩ : ∃ r, j = r + 1 := ⟨j - 1, by have := of_decide_eq_true ht; omega⟩
      refine c_cut [(0, sList Int 1 intC a), (1, sList Int 1 intC b), (5, .s (.one (.mut 5))), (6, sInt i), (7, sInt j)] [(5, .tarr (distRows a b (i + 1)).length 1 T), (23, .arr Int 1 intC (distRow a b i (j + 1)))] (Sees.of ⟨⟨_, rfl, by first | exact .same _ | exact .eq (by first | (simp; done) | (simp; omega)) | exact .list _ _ _ _ _ | exact .nil _ _ _ | exact .any _⟩, ⟨_, rfl, by first | exact .same _ | exact .eq (by first | (simp; done) | (simp; omega)) | exact .list _ _ _ _ _ | exact .nil _ _ _ | exact .any _⟩, ⟨_, rfl, by first | exact .same _ | exact .eq (by first | (simp; done) | (simp; omega)) | exact .list _ _ _ _ _ | exact .nil _ _ _ | exact .any _⟩, ⟨_, rfl, by first | exact .same _ | exact .eq (by first | (simp; done) | (simp; omega)) | exact .list _ _ _ _ _ | exact .nil _ _ _ | exact .any _⟩, ⟨_, rfl, by first | exact .same _ | exact .eq (by first | (simp; done) | (simp; omega)) | exact .list _ _ _ _ _ | exact .nil _ _ _ | exact .any _⟩, trivial⟩ ⟨rfl, rfl, trivial⟩) ?_
      have hRl := distRow_length a b i (j + 1)
      have hst := distRow_set a b i j
      refine c_skip ?_
      refine then_normal ?_
      refine c_join [(0, sList Int 1 intC a), (1, sList Int 1 intC b), (5, .s (.one (.mut 5))), (6, sInt i), (7, sInt j)] [(5, .tarr (distRows a b (i + 1)).length 1 T), (23, .arr Int 1 intC (distRow a b i j))] ?_ ?_
      · repeat (first | refine then_normal ?_ | refine c_seq ?_ | refine c_block ?_ | refine inB_normal ?_ | refine c_skip ?_ | refine c_exit ?_ | refine then_exit ?_ | refine inB_same rfl ?_ | refine inB_other rfl ?_ | refine c_ret ?_ | refine then_ret ?_ | refine inB_ret ?_)
        refine c_region ?_
        refine l_neu (n_move rfl rfl) rfl ?_
        refine l_neu (n_move rfl rfl) rfl ?_
        first | refine l_neu (n_len rfl (.pure _ _ _ _)) rfl ?_ | refine l_neu (n_len rfl (.buf _ _ _ _ _)) rfl ?_ | refine l_neu (n_len_mut rfl rfl) rfl ?_ | refine l_neu (n_len_mutT rfl rfl) rfl ?_ | refine l_neu (n_len_nil rfl) rfl ?_
        refine l_neu (n_eql rfl rfl) rfl ?_
        refine l_neu (n_assign rfl rfl) rfl ?_
        refine l_nil ?_
        repeat (first | refine then_normal ?_ | refine c_seq ?_ | refine c_block ?_ | refine inB_normal ?_ | refine c_skip ?_ | refine c_exit ?_ | refine then_exit ?_ | refine inB_same rfl ?_ | refine inB_other rfl ?_ | refine c_ret ?_ | refine then_ret ?_ | refine inB_ret ?_)
        refine c_cond rfl (fun ht => ?_) (fun ht => ?_)
        · have hia : i = a.length := by have := of_decide_eq_true ht; omega
          have hd : (dist (a.drop i) (b.drop j) : Int) = b.length - j := by rw [hia, List.drop_eq_nil_of_le (Nat.le_refl _), dist, List.length_drop]; omega
          rw [hd] at hst
          repeat (first | refine then_normal ?_ | refine c_seq ?_ | refine c_block ?_ | refine inB_normal ?_ | refine c_skip ?_ | refine c_exit ?_ | refine then_exit ?_ | refine inB_same rfl ?_ | refine inB_other rfl ?_ | refine c_ret ?_ | refine then_ret ?_ | refine inB_ret ?_)
          refine c_region ?_
          refine l_neu (n_move rfl rfl) rfl ?_
          refine l_neu (n_move rfl rfl) rfl ?_
          first | refine l_neu (n_indexAddr rfl (.pure _ _ _ _) rfl (by omega) (List.getElem?_eq_getElem (by omega))) rfl ?_ | refine l_neu (n_indexAddr rfl (.buf _ _ _ _ _) rfl (by omega) (List.getElem?_eq_getElem (by omega))) rfl ?_ | refine l_neu (n_indexAddr_mut rfl rfl rfl (by omega) (by omega)) rfl ?_ | refine l_neu (n_indexAddr_mutT rfl rfl rfl (by omega) (by omega)) rfl ?_
          first | refine l_neu (n_load_eref rfl rfl) rfl ?_ | refine l_neu (n_load_ref rfl rfl rfl) rfl ?_ | refine l_neu (n_load_mref rfl rfl hTi rfl) rfl ?_ | refine l_neu (n_load_mrefT1 rfl rfl hTi) rfl ?_
          refine l_neu (n_move rfl rfl) rfl ?_
          refine l_neu (n_move rfl rfl) rfl ?_
          first | refine l_neu (n_len rfl (.pure _ _ _ _)) rfl ?_ | refine l_neu (n_len rfl (.buf _ _ _ _ _)) rfl ?_ | refine l_neu (n_len_mut rfl rfl) rfl ?_ | refine l_neu (n_len_mutT rfl rfl) rfl ?_ | refine l_neu (n_len_nil rfl) rfl ?_
          refine l_neu (n_move rfl rfl) rfl ?_
          refine l_neu (n_sub rfl rfl (by omega)) rfl ?_
          first | refine l_neu (n_indexAddr rfl (.pure _ _ _ _) rfl (by omega) (List.getElem?_eq_getElem (by omega))) rfl ?_ | refine l_neu (n_indexAddr rfl (.buf _ _ _ _ _) rfl (by omega) (List.getElem?_eq_getElem (by omega))) rfl ?_ | refine l_neu (n_indexAddr_mut rfl rfl rfl (by omega) (by omega)) rfl ?_ | refine l_neu (n_indexAddr_mutT rfl rfl rfl (by omega) (by omega)) rfl ?_
          first | refine l_eff (e_store_ref TySz.out rfl rfl rfl rfl rfl rfl) ?_ | refine l_eff (e_store_mref1 TySz.out rfl rfl (by (rw [hRl]; simp; omega)) rfl rfl) ?_ | refine l_eff (e_store_mrefT1 TySz.out rfl rfl (by (rw [hRl]; simp; omega)) rfl rfl) ?_
          refine l_nil ?_
          repeat (first | refine then_normal ?_ | refine c_seq ?_ | refine c_block ?_ | refine inB_normal ?_ | refine c_skip ?_ | refine c_exit ?_ | refine then_exit ?_ | refine inB_same rfl ?_ | refine inB_other rfl ?_ | refine c_ret ?_ | refine then_ret ?_ | refine inB_ret ?_)
          rw [← hst]
          exact Sees.of ⟨⟨_, rfl, by first | exact .same _ | exact .eq (by first | (simp; done) | (simp; omega)) | exact .list _ _ _ _ _ | exact .nil _ _ _ | exact .any _⟩, ⟨_, rfl, by first | exact .same _ | exact .eq (by first | (simp; done) | (simp; omega)) | exact .list _ _ _ _ _ | exact .nil _ _ _ | exact .any _⟩, ⟨_, rfl, by first | exact .same _ | exact .eq (by first | (simp; done) | (simp; omega)) | exact .list _ _ _ _ _ | exact .nil _ _ _ | exact .any _⟩, ⟨_, rfl, by first | exact .same _ | exact .eq (by first | (simp; done) | (simp; omega)) | exact .list _ _ _ _ _ | exact .nil _ _ _ | exact .any _⟩, ⟨_, rfl, by first | exact .same _ | exact .eq (by first | (simp; done) | (simp; omega)) | exact .list _ _ _ _ _ | exact .nil _ _ _ | exact .any _⟩, trivial⟩ ⟨rfl, rfl, trivial⟩
        · have hia : i < a.length := by have := of_decide_eq_false ht; omega
          repeat (first | refine then_normal ?_ | refine c_seq ?_ | refine c_block ?_ | refine inB_normal ?_ | refine c_skip ?_ | refine c_exit ?_ | refine then_exit ?_ | refine inB_same rfl ?_ | refine inB_other rfl ?_ | refine c_ret ?_ | refine then_ret ?_ | refine inB_ret ?_)
          refine c_region ?_
          refine l_neu (n_move rfl rfl) rfl ?_
          refine l_neu (n_move rfl rfl) rfl ?_
          first | refine l_neu (n_len rfl (.pure _ _ _ _)) rfl ?_ | refine l_neu (n_len rfl (.buf _ _ _ _ _)) rfl ?_ | refine l_neu (n_len_mut rfl rfl) rfl ?_ | refine l_neu (n_len_mutT rfl rfl) rfl ?_ | refine l_neu (n_len_nil rfl) rfl ?_
          refine l_neu (n_eql rfl rfl) rfl ?_
          refine l_neu (n_assign rfl rfl) rfl ?_
          refine l_nil ?_
          repeat (first | refine then_normal ?_ | refine c_seq ?_ | refine c_block ?_ | refine inB_normal ?_ | refine c_skip ?_ | refine c_exit ?_ | refine then_exit ?_ | refine inB_same rfl ?_ | refine inB_other rfl ?_ | refine c_ret ?_ | refine then_ret ?_ | refine inB_ret ?_)
          refine c_cond rfl (fun ht => ?_) (fun ht => ?_)
          · have hjb : j = b.length := by have := of_decide_eq_true ht; omega
            have hd : (dist (a.drop i) (b.drop j) : Int) = a.length - i := by rw [hjb, List.drop_eq_nil_of_le (Nat.le_refl b.length), dist_nil, List.length_drop]; omega
            rw [hd] at hst
            repeat (first | refine then_normal ?_ | refine c_seq ?_ | refine c_block ?_ | refine inB_normal ?_ | refine c_skip ?_ | refine c_exit ?_ | refine then_exit ?_ | refine inB_same rfl ?_ | refine inB_other rfl ?_ | refine c_ret ?_ | refine then_ret ?_ | refine inB_ret ?_)
            refine c_region ?_
            refine l_neu (n_move rfl rfl) rfl ?_
            refine l_neu (n_move rfl rfl) rfl ?_
            first | refine l_neu (n_indexAddr rfl (.pure _ _ _ _) rfl (by omega) (List.getElem?_eq_getElem (by omega))) rfl ?_ | refine l_neu (n_indexAddr rfl (.buf _ _ _ _ _) rfl (by omega) (List.getElem?_eq_getElem (by omega))) rfl ?_ | refine l_neu (n_indexAddr_mut rfl rfl rfl (by omega) (by omega)) rfl ?_ | refine l_neu (n_indexAddr_mutT rfl rfl rfl (by omega) (by omega)) rfl ?_
            first | refine l_neu (n_load_eref rfl rfl) rfl ?_ | refine l_neu (n_load_ref rfl rfl rfl) rfl ?_ | refine l_neu (n_load_mref rfl rfl hTi rfl) rfl ?_ | refine l_neu (n_load_mrefT1 rfl rfl hTi) rfl ?_
            refine l_neu (n_move rfl rfl) rfl ?_
            refine l_neu (n_move rfl rfl) rfl ?_
            first | refine l_neu (n_len rfl (.pure _ _ _ _)) rfl ?_ | refine l_neu (n_len rfl (.buf _ _ _ _ _)) rfl ?_ | refine l_neu (n_len_mut rfl rfl) rfl ?_ | refine l_neu (n_len_mutT rfl rfl) rfl ?_ | refine l_neu (n_len_nil rfl) rfl ?_
            refine l_neu (n_move rfl rfl) rfl ?_
            refine l_neu (n_sub rfl rfl (by omega)) rfl ?_
            first | refine l_neu (n_indexAddr rfl (.pure _ _ _ _) rfl (by omega) (List.getElem?_eq_getElem (by omega))) rfl ?_ | refine l_neu (n_indexAddr rfl (.buf _ _ _ _ _) rfl (by omega) (List.getElem?_eq_getElem (by omega))) rfl ?_ | refine l_neu (n_indexAddr_mut rfl rfl rfl (by omega) (by omega)) rfl ?_ | refine l_neu (n_indexAddr_mutT rfl rfl rfl (by omega) (by omega)) rfl ?_
            first | refine l_eff (e_store_ref TySz.out rfl rfl rfl rfl rfl rfl) ?_ | refine l_eff (e_store_mref1 TySz.out rfl rfl (by (rw [hRl]; simp; omega)) rfl rfl) ?_ | refine l_eff (e_store_mrefT1 TySz.out rfl rfl (by (rw [hRl]; simp; omega)) rfl rfl) ?_
            refine l_nil ?_
            repeat (first | refine then_normal ?_ | refine c_seq ?_ | refine c_block ?_ | refine inB_normal ?_ | refine c_skip ?_ | refine c_exit ?_ | refine then_exit ?_ | refine inB_same rfl ?_ | refine inB_other rfl ?_ | refine c_ret ?_ | refine then_ret ?_ | refine inB_ret ?_)
            rw [← hst]
            exact Sees.of ⟨⟨_, rfl, by first | exact .same _ | exact .eq (by first | (simp; done) | (simp; omega)) | exact .list _ _ _ _ _ | exact .nil _ _ _ | exact .any _⟩, ⟨_, rfl, by first | exact .same _ | exact .eq (by first | (simp; done) | (simp; omega)) | exact .list _ _ _ _ _ | exact .nil _ _ _ | exact .any _⟩, ⟨_, rfl, by first | exact .same _ | exact .eq (by first | (simp; done) | (simp; omega)) | exact .list _ _ _ _ _ | exact .nil _ _ _ | exact .any _⟩, ⟨_, rfl, by first | exact .same _ | exact .eq (by first | (simp; done) | (simp; omega)) | exact .list _ _ _ _ _ | exact .nil _ _ _ | exact .any _⟩, ⟨_, rfl, by first | exact .same _ | exact .eq (by first | (simp; done) | (simp; omega)) | exact .list _ _ _ _ _ | exact .nil _ _ _ | exact .any _⟩, trivial⟩ ⟨rfl, rfl, trivial⟩
          · have hjb : j < b.length := by have := of_decide_eq_false ht; omega
            have hva : a[i]? = some a[i] := by simp [hia]
            have hvb : b[j]? = some b[j] := by simp [hjb]
            have hdd := dist_drop a b i j hia hjb
            have hTn' := hTn hia
            repeat (first | refine then_normal ?_ | refine c_seq ?_ | refine c_block ?_ | refine inB_normal ?_ | refine c_skip ?_ | refine c_exit ?_ | refine then_exit ?_ | refine inB_same rfl ?_ | refine inB_other rfl ?_ | refine c_ret ?_ | refine then_ret ?_ | refine inB_ret ?_)
            refine c_region_draw (by kernel_rfl) (by kernel_rfl) ?_
            refine d_neu (n_move rfl rfl) rfl rfl ?_
            refine d_neu (n_move rfl rfl) rfl rfl ?_
            first | refine d_neu (n_indexAddr rfl (.pure _ _ _ _) rfl (by omega) hva) rfl rfl ?_ | refine d_neu (n_indexAddr rfl (.buf _ _ _ _ _) rfl (by omega) hva) rfl rfl ?_ | refine d_neu (n_indexAddr_mut rfl rfl rfl (by omega) (by omega)) rfl rfl ?_ | refine d_neu (n_indexAddr_mutT rfl rfl rfl (by omega) (by omega)) rfl rfl ?_
            first | refine d_neu (n_load_eref rfl rfl) rfl rfl ?_ | refine d_neu (n_load_ref rfl rfl rfl) rfl rfl ?_ | refine d_neu (n_load_mref rfl rfl (List.getElem?_eq_getElem (by omega)) rfl) rfl rfl ?_ | refine d_neu (n_load_mrefT1 rfl rfl rfl) rfl rfl ?_
            refine d_neu (n_move rfl rfl) rfl rfl ?_
            refine d_neu (n_move rfl rfl) rfl rfl ?_
            first | refine d_neu (n_indexAddr rfl (.pure _ _ _ _) rfl (by omega) hvb) rfl rfl ?_ | refine d_neu (n_indexAddr rfl (.buf _ _ _ _ _) rfl (by omega) hvb) rfl rfl ?_ | refine d_neu (n_indexAddr_mut rfl rfl rfl (by omega) (by omega)) rfl rfl ?_ | refine d_neu (n_indexAddr_mutT rfl rfl rfl (by omega) (by omega)) rfl rfl ?_
            first | refine d_neu (n_load_eref rfl rfl) rfl rfl ?_ | refine d_neu (n_load_ref rfl rfl rfl) rfl rfl ?_ | refine d_neu (n_load_mref rfl rfl (List.getElem?_eq_getElem (by omega)) rfl) rfl rfl ?_ | refine d_neu (n_load_mrefT1 rfl rfl rfl) rfl rfl ?_
            refine d_neu (n_eql rfl rfl) rfl rfl ?_
            refine d_neu (n_assign rfl rfl) rfl rfl ?_
            refine d_nil ?_
            repeat (first | refine then_normal ?_ | refine c_seq ?_ | refine c_block ?_ | refine inB_normal ?_ | refine c_skip ?_ | refine c_exit ?_ | refine then_exit ?_ | refine inB_same rfl ?_ | refine inB_other rfl ?_ | refine c_ret ?_ | refine then_ret ?_ | refine inB_ret ?_)
            refine c_cond rfl (fun ht => ?_) (fun ht => ?_)
            · rw [if_pos (of_decide_eq_true ht)] at hdd
              have hg := distRow_get a b (i + 1) 0 (j + 1) (Nat.zero_le _) hjb
              rw [hdd] at hst
              repeat (first | refine then_normal ?_ | refine c_seq ?_ | refine c_block ?_ | refine inB_normal ?_ | refine c_skip ?_ | refine c_exit ?_ | refine then_exit ?_ | refine inB_same rfl ?_ | refine inB_other rfl ?_ | refine c_ret ?_ | refine then_ret ?_ | refine inB_ret ?_)
              refine c_region_draw (by kernel_rfl) (by kernel_rfl) ?_
              refine d_neu (n_move rfl rfl) rfl rfl ?_
              refine d_neu (n_move rfl rfl) rfl rfl ?_
              first | refine d_neu (n_indexAddr rfl (.pure _ _ _ _) rfl (by omega) (List.getElem?_eq_getElem (by omega))) rfl rfl ?_ | refine d_neu (n_indexAddr rfl (.buf _ _ _ _ _) rfl (by omega) (List.getElem?_eq_getElem (by omega))) rfl rfl ?_ | refine d_neu (n_indexAddr_mut rfl rfl rfl (by omega) (by omega)) rfl rfl ?_ | refine d_neu (n_indexAddr_mutT rfl rfl rfl (by omega) (by omega)) rfl rfl ?_
              first | refine d_neu (n_load_eref rfl rfl) rfl rfl ?_ | refine d_neu (n_load_ref rfl rfl rfl) rfl rfl ?_ | refine d_neu (n_load_mref rfl rfl hTi rfl) rfl rfl ?_ | refine d_neu (n_load_mrefT1 rfl rfl hTi) rfl rfl ?_
              refine d_neu (n_move rfl rfl) rfl rfl ?_
              refine d_neu (n_move rfl rfl) rfl rfl ?_
              refine d_neu (n_move rfl rfl) rfl rfl ?_
              refine d_neu (n_add rfl rfl (by omega)) rfl rfl ?_
              first | refine d_neu (n_indexAddr rfl (.pure _ _ _ _) rfl (by omega) (List.getElem?_eq_getElem (by omega))) rfl rfl ?_ | refine d_neu (n_indexAddr rfl (.buf _ _ _ _ _) rfl (by omega) (List.getElem?_eq_getElem (by omega))) rfl rfl ?_ | refine d_neu (n_indexAddr_mut rfl rfl rfl (by omega) (by omega)) rfl rfl ?_ | refine d_neu (n_indexAddr_mutT rfl rfl rfl (by omega) (by omega)) rfl rfl ?_
              first | refine d_neu (n_load_eref rfl rfl) rfl rfl ?_ | refine d_neu (n_load_ref rfl rfl rfl) rfl rfl ?_ | refine d_neu (n_load_mref rfl rfl hTn' rfl) rfl rfl ?_ | refine d_neu (n_load_mrefT1 rfl rfl hTn') rfl rfl ?_
              refine d_neu (n_move rfl rfl) rfl rfl ?_
              refine d_neu (n_add rfl rfl (by omega)) rfl rfl ?_
              first | refine d_neu (n_indexAddr rfl (.pure _ _ _ _) rfl (by omega) hg) rfl rfl ?_ | refine d_neu (n_indexAddr rfl (.buf _ _ _ _ _) rfl (by omega) hg) rfl rfl ?_ | refine d_neu (n_indexAddr_mut rfl rfl rfl (by omega) (by omega)) rfl rfl ?_ | refine d_neu (n_indexAddr_mutT rfl rfl rfl (by omega) (by omega)) rfl rfl ?_
              first | refine d_neu (n_load_eref rfl rfl) rfl rfl ?_ | refine d_neu (n_load_ref rfl rfl rfl) rfl rfl ?_ | refine d_neu (n_load_mref rfl rfl (List.getElem?_eq_getElem (by omega)) rfl) rfl rfl ?_ | refine d_neu (n_load_mrefT1 rfl rfl rfl) rfl rfl ?_
              first | refine d_neu (n_indexAddr rfl (.pure _ _ _ _) rfl (by omega) (List.getElem?_eq_getElem (by omega))) rfl rfl ?_ | refine d_neu (n_indexAddr rfl (.buf _ _ _ _ _) rfl (by omega) (List.getElem?_eq_getElem (by omega))) rfl rfl ?_ | refine d_neu (n_indexAddr_mut rfl rfl rfl (by omega) (by omega)) rfl rfl ?_ | refine d_neu (n_indexAddr_mutT rfl rfl rfl (by omega) (by omega)) rfl rfl ?_
              first | refine d_eff (e_store_ref TySz.out rfl rfl rfl rfl rfl rfl) rfl ?_ | refine d_eff (e_store_mref1 TySz.out rfl rfl (by (rw [hRl]; simp; omega)) rfl rfl) rfl ?_ | refine d_eff (e_store_mrefT1 TySz.out rfl rfl (by (rw [hRl]; simp; omega)) rfl rfl) rfl ?_
              refine d_nil ?_
              repeat (first | refine then_normal ?_ | refine c_seq ?_ | refine c_block ?_ | refine inB_normal ?_ | refine c_skip ?_ | refine c_exit ?_ | refine then_exit ?_ | refine inB_same rfl ?_ | refine inB_other rfl ?_ | refine c_ret ?_ | refine then_ret ?_ | refine inB_ret ?_)
              rw [← hst]
              exact Sees.of ⟨⟨_, rfl, by first | exact .same _ | exact .eq (by first | (simp; done) | (simp; omega)) | exact .list _ _ _ _ _ | exact .nil _ _ _ | exact .any _⟩, ⟨_, rfl, by first | exact .same _ | exact .eq (by first | (simp; done) | (simp; omega)) | exact .list _ _ _ _ _ | exact .nil _ _ _ | exact .any _⟩, ⟨_, rfl, by first | exact .same _ | exact .eq (by first | (simp; done) | (simp; omega)) | exact .list _ _ _ _ _ | exact .nil _ _ _ | exact .any _⟩, ⟨_, rfl, by first | exact .same _ | exact .eq (by first | (simp; done) | (simp; omega)) | exact .list _ _ _ _ _ | exact .nil _ _ _ | exact .any _⟩, ⟨_, rfl, by first | exact .same _ | exact .eq (by first | (simp; done) | (simp; omega)) | exact .list _ _ _ _ _ | exact .nil _ _ _ | exact .any _⟩, trivial⟩ ⟨rfl, rfl, trivial⟩
            · rw [if_neg (of_decide_eq_false ht)] at hdd
              have hg1 := distRow_get a b (i + 1) 0 j (Nat.zero_le _) (by omega)
              have hg2 := distRow_get a b i (j + 1) (j + 1) (Nat.le_refl _) (by omega)
              have hl1 := dist_le (a.drop (i + 1)) (b.drop j)
              have hl2 := dist_le (a.drop i) (b.drop (j + 1))
              simp only [List.length_drop] at hl1 hl2
              have hval : (1 : Int) + (if (dist (a.drop i) (b.drop (j + 1)) : Int) < (dist (a.drop (i + 1)) (b.drop j) : Int) then (dist (a.drop i) (b.drop (j + 1)) : Int) else (dist (a.drop (i + 1)) (b.drop j) : Int)) = (dist (a.drop i) (b.drop j) : Int) := by
                rw [hdd]; split <;> omega
              rw [← hval] at hst
              repeat (first | refine then_normal ?_ | refine c_seq ?_ | refine c_block ?_ | refine inB_normal ?_ | refine c_skip ?_ | refine c_exit ?_ | refine then_exit ?_ | refine inB_same rfl ?_ | refine inB_other rfl ?_ | refine c_ret ?_ | refine then_ret ?_ | refine inB_ret ?_)
              refine c_region_draw (by kernel_rfl) (by kernel_rfl) ?_
              refine d_neu (n_move rfl rfl) rfl rfl ?_
              refine d_neu (n_move rfl rfl) rfl rfl ?_
              first | refine d_neu (n_indexAddr rfl (.pure _ _ _ _) rfl (by omega) (List.getElem?_eq_getElem (by omega))) rfl rfl ?_ | refine d_neu (n_indexAddr rfl (.buf _ _ _ _ _) rfl (by omega) (List.getElem?_eq_getElem (by omega))) rfl rfl ?_ | refine d_neu (n_indexAddr_mut rfl rfl rfl (by omega) (by omega)) rfl rfl ?_ | refine d_neu (n_indexAddr_mutT rfl rfl rfl (by omega) (by omega)) rfl rfl ?_
              first | refine d_neu (n_load_eref rfl rfl) rfl rfl ?_ | refine d_neu (n_load_ref rfl rfl rfl) rfl rfl ?_ | refine d_neu (n_load_mref rfl rfl hTi rfl) rfl rfl ?_ | refine d_neu (n_load_mrefT1 rfl rfl hTi) rfl rfl ?_
              refine d_neu (n_move rfl rfl) rfl rfl ?_
              refine d_neu (n_move rfl rfl) rfl rfl ?_
              refine d_neu (n_move rfl rfl) rfl rfl ?_
              refine d_neu (n_add rfl rfl (by omega)) rfl rfl ?_
              first | refine d_neu (n_indexAddr rfl (.pure _ _ _ _) rfl (by omega) (List.getElem?_eq_getElem (by omega))) rfl rfl ?_ | refine d_neu (n_indexAddr rfl (.buf _ _ _ _ _) rfl (by omega) (List.getElem?_eq_getElem (by omega))) rfl rfl ?_ | refine d_neu (n_indexAddr_mut rfl rfl rfl (by omega) (by omega)) rfl rfl ?_ | refine d_neu (n_indexAddr_mutT rfl rfl rfl (by omega) (by omega)) rfl rfl ?_
              first | refine d_neu (n_load_eref rfl rfl) rfl rfl ?_ | refine d_neu (n_load_ref rfl rfl rfl) rfl rfl ?_ | refine d_neu (n_load_mref rfl rfl hTn' rfl) rfl rfl ?_ | refine d_neu (n_load_mrefT1 rfl rfl hTn') rfl rfl ?_
              refine d_neu (n_move rfl rfl) rfl rfl ?_
              first | refine d_neu (n_indexAddr rfl (.pure _ _ _ _) rfl (by omega) hg1) rfl rfl ?_ | refine d_neu (n_indexAddr rfl (.buf _ _ _ _ _) rfl (by omega) hg1) rfl rfl ?_ | refine d_neu (n_indexAddr_mut rfl rfl rfl (by omega) (by omega)) rfl rfl ?_ | refine d_neu (n_indexAddr_mutT rfl rfl rfl (by omega) (by omega)) rfl rfl ?_
              first | refine d_neu (n_load_eref rfl rfl) rfl rfl ?_ | refine d_neu (n_load_ref rfl rfl rfl) rfl rfl ?_ | refine d_neu (n_load_mref rfl rfl (List.getElem?_eq_getElem (by omega)) rfl) rfl rfl ?_ | refine d_neu (n_load_mrefT1 rfl rfl rfl) rfl rfl ?_
              refine d_neu (n_move rfl rfl) rfl rfl ?_
              refine d_neu (n_move rfl rfl) rfl rfl ?_
              first | refine d_neu (n_indexAddr rfl (.pure _ _ _ _) rfl (by omega) (List.getElem?_eq_getElem (by omega))) rfl rfl ?_ | refine d_neu (n_indexAddr rfl (.buf _ _ _ _ _) rfl (by omega) (List.getElem?_eq_getElem (by omega))) rfl rfl ?_ | refine d_neu (n_indexAddr_mut rfl rfl rfl (by omega) (by omega)) rfl rfl ?_ | refine d_neu (n_indexAddr_mutT rfl rfl rfl (by omega) (by omega)) rfl rfl ?_
              first | refine d_neu (n_load_eref rfl rfl) rfl rfl ?_ | refine d_neu (n_load_ref rfl rfl rfl) rfl rfl ?_ | refine d_neu (n_load_mref rfl rfl hTi rfl) rfl rfl ?_ | refine d_neu (n_load_mrefT1 rfl rfl hTi) rfl rfl ?_
              refine d_neu (n_move rfl rfl) rfl rfl ?_
              refine d_neu (n_add rfl rfl (by omega)) rfl rfl ?_
              first | refine d_neu (n_indexAddr rfl (.pure _ _ _ _) rfl (by omega) (List.getElem?_eq_getElem (by omega))) rfl rfl ?_ | refine d_neu (n_indexAddr rfl (.buf _ _ _ _ _) rfl (by omega) (List.getElem?_eq_getElem (by omega))) rfl rfl ?_ | refine d_neu (n_indexAddr_mut rfl rfl rfl (by omega) (by omega)) rfl rfl ?_ | refine d_neu (n_indexAddr_mutT rfl rfl rfl (by omega) (by omega)) rfl rfl ?_
              first | refine d_neu (n_load_eref rfl rfl) rfl rfl ?_ | refine d_neu (n_load_ref rfl rfl rfl) rfl rfl ?_ | refine d_neu (n_load_mref rfl rfl hg2 rfl) rfl rfl ?_ | refine d_neu (n_load_mrefT1 rfl rfl hg2) rfl rfl ?_
              refine d_neu (n_min rfl rfl) rfl rfl ?_
              refine d_neu (n_add rfl rfl (by (constructor <;> split <;> omega))) rfl rfl ?_
              first | refine d_neu (n_indexAddr rfl (.pure _ _ _ _) rfl (by omega) (List.getElem?_eq_getElem (by omega))) rfl rfl ?_ | refine d_neu (n_indexAddr rfl (.buf _ _ _ _ _) rfl (by omega) (List.getElem?_eq_getElem (by omega))) rfl rfl ?_ | refine d_neu (n_indexAddr_mut rfl rfl rfl (by omega) (by omega)) rfl rfl ?_ | refine d_neu (n_indexAddr_mutT rfl rfl rfl (by omega) (by omega)) rfl rfl ?_
              first | refine d_eff (e_store_ref TySz.out rfl rfl rfl rfl rfl rfl) rfl ?_ | refine d_eff (e_store_mref1 TySz.out rfl rfl (by (rw [hRl]; simp; omega)) rfl rfl) rfl ?_ | refine d_eff (e_store_mrefT1 TySz.out rfl rfl (by (rw [hRl]; simp; omega)) rfl rfl) rfl ?_
              refine d_nil ?_
              repeat (first | refine then_normal ?_ | refine c_seq ?_ | refine c_block ?_ | refine inB_normal ?_ | refine c_skip ?_ | refine c_exit ?_ | refine then_exit ?_ | refine inB_same rfl ?_ | refine inB_other rfl ?_ | refine c_ret ?_ | refine then_ret ?_ | refine inB_ret ?_)
              rw [← hst]
              exact Sees.of ⟨⟨_, rfl, by first | exact .same _ | exact .eq (by first | (simp; done) | (simp; omega)) | exact .list _ _ _ _ _ | exact .nil _ _ _ | exact .any _⟩, ⟨_, rfl, by first | exact .same _ | exact .eq (by first | (simp; done) | (simp; omega)) | exact .list _ _ _ _ _ | exact .nil _ _ _ | exact .any _⟩, ⟨_, rfl, by first | exact .same _ | exact .eq (by first | (simp; done) | (simp; omega)) | exact .list _ _ _ _ _ | exact .nil _ _ _ | exact .any _⟩, ⟨_, rfl, by first | exact .same _ | exact .eq (by first | (simp; done) | (simp; omega)) | exact .list _ _ _ _ _ | exact .nil _ _ _ | exact .any _⟩, ⟨_, rfl, by first | exact .same _ | exact .eq (by first | (simp; done) | (simp; omega)) | exact .list _ _ _ _ _ | exact .nil _ _ _ | exact .any _⟩, trivial⟩ ⟨rfl, rfl, trivial⟩
      · repeat (first | refine then_normal ?_ | refine c_seq ?_ | refine c_block ?_ | refine inB_normal ?_ | refine c_skip ?_ | refine c_exit ?_ | refine then_exit ?_ | refine inB_same rfl ?_ | refine inB_other rfl ?_ | refine c_ret ?_ | refine then_ret ?_ | refine inB_ret ?_)
        refine c_region ?_
        refine l_neu (n_move rfl rfl) rfl ?_
        refine l_neu (n_sub rfl rfl (by omega)) rfl ?_
        refine l_neu (n_assign rfl rfl) rfl ?_
        refine l_nil ?_
        repeat (first | refine then_normal ?_ | refine c_seq ?_ | refine c_block ?_ | refine inB_normal ?_ | refine c_skip ?_ | refine c_exit ?_ | refine then_exit ?_ | refine inB_same rfl ?_ | refine inB_other rfl ?_ | refine c_ret ?_ | refine then_ret ?_ | refine inB_ret ?_)
        exact ⟨j, by omega, by omega, Sees.of ⟨⟨_, rfl, by first | exact .same _ | exact .eq (by first | (simp; done) | (simp; omega)) | exact .list _ _ _ _ _ | exact .nil _ _ _ | exact .any _⟩, ⟨_, rfl, by first | exact .same _ | exact .eq (by first | (simp; done) | (simp; omega)) | exact .list _ _ _ _ _ | exact .nil _ _ _ | exact .any _⟩, ⟨_, rfl, by first | exact .same _ | exact .eq (by first | (simp; done) | (simp; omega)) | exact .list _ _ _ _ _ | exact .nil _ _ _ | exact .any _⟩, ⟨_, rfl, by first | exact .same _ | exact .eq (by first | (simp; done) | (simp; omega)) | exact .list _ _ _ _ _ | exact .nil _ _ _ | exact .any _⟩, ⟨_, rfl, by first | exact .same _ | exact .eq (by first | (simp; done) | (simp; omega)) | exact .list _ _ _ _ _ | exact .nil _ _ _ | exact .any _⟩, trivial⟩ ⟨rfl, rfl, trivial⟩⟩
    · obtain rfl : j = 0 := by have := of_decide_eq_false ht; omega
      refine c_sees (Sees.freeze (k := 23) rfl) ?_
      refine c_sees (Sees.ofT1 5 (distRows a b i) rfl (by simp [distRows_length]) (by rw [hT, freeze_set (y := distRow a b i 0) rfl, distRows_set])) ?_
      repeat (first | refine then_normal ?_ | refine c_seq ?_ | refine c_block ?_ | refine inB_normal ?_ | refine c_skip ?_ | refine c_exit ?_ | refine then_exit ?_ | refine inB_same rfl ?_ | refine inB_other rfl ?_ | refine c_ret ?_ | refine then_ret ?_ | refine inB_ret ?_)
      refine c_region ?_
      refine l_neu (n_move rfl rfl) rfl ?_
      refine l_neu (n_sub rfl rfl (by omega)) rfl ?_
      refine l_neu (n_assign rfl rfl) rfl ?_
      refine l_nil ?_
      repeat (first | refine then_normal ?_ | refine c_seq ?_ | refine c_block ?_ | refine inB_normal ?_ | refine c_skip ?_ | refine c_exit ?_ | refine then_exit ?_ | refine inB_same rfl ?_ | refine inB_other rfl ?_ | refine c_ret ?_ | refine then_ret ?_ | refine inB_ret ?_)
      exact ⟨i, by omega, by omega, Sees.of ⟨⟨_, rfl, by first | exact .same _ | exact .eq (by first | (simp; done) | (simp; omega)) | exact .list _ _ _ _ _ | exact .nil _ _ _ | exact .any _⟩, ⟨_, rfl, by first | exact .same _ | exact .eq (by first | (simp; done) | (simp; omega)) | exact .list _ _ _ _ _ | exact .nil _ _ _ | exact .any _⟩, ⟨_, rfl, by first | exact .same _ | exact .eq (by first | (simp; done) | (simp; omega)) | exact .list _ _ _ _ _ | exact .nil _ _ _ | exact .any _⟩, ⟨_, rfl, by first | exact .same _ | exact .eq (by first | (simp; done) | (simp; omega)) | exact .list _ _ _ _ _ | exact .nil _ _ _ | exact .any _⟩, trivial⟩ ⟨rfl, trivial⟩⟩
  · obtain rfl : i = 0 := by have := of_decide_eq_false ht; omega
    refine c_sees (Sees.freeze (k := 5) rfl) ?_
    repeat (first | refine then_normal ?_ | refine c_seq ?_ | refine c_block ?_ | refine inB_normal ?_ | refine c_skip ?_ | refine c_exit ?_ | refine then_exit ?_ | refine inB_same rfl ?_ | refine inB_other rfl ?_ | refine c_ret ?_ | refine then_ret ?_ | refine inB_ret ?_)
    refine c_region ?_
    refine l_neu (n_move rfl rfl) rfl ?_
    refine l_neu (n_assign rfl rfl) rfl ?_
    refine l_nil ?_
    repeat (first | refine then_normal ?_ | refine c_seq ?_ | refine c_block ?_ | refine inB_normal ?_ | refine c_skip ?_ | refine c_exit ?_ | refine then_exit ?_ | refine inB_same rfl ?_ | refine inB_other rfl ?_ | refine c_ret ?_ | refine then_ret ?_ | refine inB_ret ?_)
    exact ret_ret (ret1 rfl rfl rfl) rfl

theorem walkGo_bound (a b : List Int) : ∀ (p q : Int), ∀ s ∈ walkGo p q a b, p ≤ s.From ∧ s.From < p + a.length ∧ q ≤ s.To ∧ s.To < q + b.length := by
  induction a generalizing b with
  | nil => intro p q s hs; simp [walkGo] at hs
  | cons x a iha =>
    induction b with
    | nil => intro p q s hs; simp [walkGo] at hs
    | cons y b ihb =>
      intro p q s hs
      rw [walkGo] at hs
      simp only [List.length_cons]
      split at hs
      · rcases List.mem_cons.1 hs with rfl | hs
        · simp only; omega
        · have := iha b (p + 1) (q + 1) s hs; omega
      · split at hs
        · have := iha (y :: b) (p + 1) q s hs; simp only [List.length_cons] at this; omega
        · have := ihb p (q + 1) s hs; simp only [List.length_cons] at this; omega

theorem walk_ok (a b : List Int) (ha : a.length ≤ 536870911) (hb : b.length ≤ 536870911) : FnOk Try.prog 15 [pInts a, pInts b] (fun rs => rs = [pChanges (walkOf a b)]) := by
  refine FnOk.intro Try.func15 (by decide) rfl rfl rfl ?_
  repeat (first | refine then_normal ?_ | refine c_seq ?_ | refine c_block ?_ | refine inB_normal ?_ | refine c_skip ?_ | refine c_exit ?_ | refine then_exit ?_ | refine inB_same rfl ?_ | refine inB_other rfl ?_ | refine c_ret ?_ | refine then_ret ?_ | refine inB_ret ?_)
  refine c_region ?_
  refine l_neu (n_assign rfl rfl) rfl ?_
  refine l_nil ?_
  repeat (first | refine then_normal ?_ | refine c_seq ?_ | refine c_block ?_ | refine inB_normal ?_ | refine c_skip ?_ | refine c_exit ?_ | refine then_exit ?_ | refine inB_same rfl ?_ | refine inB_other rfl ?_ | refine c_ret ?_ | refine then_ret ?_ | refine inB_ret ?_)
  refine c_region ?_
  refine l_neu (n_move rfl rfl) rfl ?_
  refine l_neu (n_move rfl rfl) rfl ?_
  refine l_call (table_ok a b (by omega) (by omega)) rfl rfl rfl ?_
  rintro _ rfl
  refine l_neu (n_assign rfl rfl) rfl ?_
  refine l_nil ?_
  repeat (first | refine then_normal ?_ | refine c_seq ?_ | refine c_block ?_ | refine inB_normal ?_ | refine c_skip ?_ | refine c_exit ?_ | refine then_exit ?_ | refine inB_same rfl ?_ | refine inB_other rfl ?_ | refine c_ret ?_ | refine then_ret ?_ | refine inB_ret ?_)
  refine c_region ?_
  refine l_effv (f_adopt 6 _ spanC rfl) rfl ?_
  refine l_nil ?_
  repeat (first | refine then_normal ?_ | refine c_seq ?_ | refine c_block ?_ | refine inB_normal ?_ | refine c_skip ?_ | refine c_exit ?_ | refine then_exit ?_ | refine inB_same rfl ?_ | refine inB_other rfl ?_ | refine c_ret ?_ | refine then_ret ?_ | refine inB_ret ?_)
  refine c_region ?_
  refine l_neu (n_assign rfl rfl) rfl ?_
  refine l_neu (n_assign rfl rfl) rfl ?_
  refine l_nil ?_
  repeat (first | refine then_normal ?_ | refine c_seq ?_ | refine c_block ?_ | refine inB_normal ?_ | refine c_skip ?_ | refine c_exit ?_ | refine then_exit ?_ | refine inB_same rfl ?_ | refine inB_other rfl ?_ | refine c_ret ?_ | refine then_ret ?_ | refine inB_ret ?_)
  refine c_while (X := Nat × Nat × List Span) (fun x => ([(0, sList Int 1 intC a), (1, sList Int 1 intC b), (5, sList (List Int) 1 intsC (distTable a b)), (6, .s (.one (.buf 6 Span 2 spanC x.2.2))), (7, sInt x.1), (8, sInt x.2.1)], [(6, .spare x.2.2.length 2 55)]))
    (fun x => x.1 ≤ a.length ∧ x.2.1 ≤ b.length ∧ x.2.2.length ≤ x.1 ∧ x.2.2 ++ walkGo x.1 x.2.1 (a.drop x.1) (b.drop x.2.1) = walkGo 0 0 a b) (fun x => a.length + b.length - x.1 - x.2.1) (0, 0, []) (by simp) (Sees.of ⟨⟨_, rfl, by first | exact .same _ | exact .eq (by first | (simp; done) | (simp; omega)) | exact .list _ _ _ _ _ | exact .nil _ _ _ | exact .any _⟩, ⟨_, rfl, by first | exact .same _ | exact .eq (by first | (simp; done) | (simp; omega)) | exact .list _ _ _ _ _ | exact .nil _ _ _ | exact .any _⟩, ⟨_, rfl, by first | exact .same _ | exact .eq (by first | (simp; done) | (simp; omega)) | exact .list _ _ _ _ _ | exact .nil _ _ _ | exact .any _⟩, ⟨_, rfl, by first | exact .same _ | exact .eq (by first | (simp; done) | (simp; omega)) | exact .list _ _ _ _ _ | exact .nil _ _ _ | exact .any _⟩, ⟨_, rfl, by first | exact .same _ | exact .eq (by first | (simp; done) | (simp; omega)) | exact .list _ _ _ _ _ | exact .nil _ _ _ | exact .any _⟩, ⟨_, rfl, by first | exact .same _ | exact .eq (by first | (simp; done) | (simp; omega)) | exact .list _ _ _ _ _ | exact .nil _ _ _ | exact .any _⟩, trivial⟩ ⟨rfl, trivial⟩) ?_
  rintro ⟨i, j, out⟩ ⟨hi, hj, ho, hp⟩
  dsimp only at hi hj ho hp ⊢
  repeat (first | refine then_normal ?_ | refine c_seq ?_ | refine c_block ?_ | refine inB_normal ?_ | refine c_skip ?_ | refine c_exit ?_ | refine then_exit ?_ | refine inB_same rfl ?_ | refine inB_other rfl ?_ | refine c_ret ?_ | refine then_ret ?_ | refine inB_ret ?_)
  refine c_region ?_
  refine l_neu (n_move rfl rfl) rfl ?_
  refine l_neu (n_move rfl rfl) rfl ?_
  first | refine l_neu (n_len rfl (.pure _ _ _ _)) rfl ?_ | refine l_neu (n_len rfl (.buf _ _ _ _ _)) rfl ?_ | refine l_neu (n_len_mut rfl rfl) rfl ?_ | refine l_neu (n_len_mutT rfl rfl) rfl ?_ | refine l_neu (n_len_nil rfl) rfl ?_
  refine l_neu (n_lss rfl rfl) rfl ?_
  refine l_neu (n_move rfl rfl) rfl ?_
  refine l_guard rfl rfl rfl rfl (fun hg => by rw [hg]; exact n_move rfl rfl) ?_
  refine l_guard rfl rfl rfl rfl (fun hg => by rw [hg]; exact n_move rfl rfl) ?_
  first | refine l_guard rfl rfl rfl rfl (fun hg => by rw [hg]; exact n_len rfl (.pure _ _ _ _)) ?_ | refine l_guard rfl rfl rfl rfl (fun hg => by rw [hg]; exact n_len rfl (.buf _ _ _ _ _)) ?_ | refine l_guard rfl rfl rfl rfl (fun hg => by rw [hg]; exact n_len_mut rfl rfl) ?_ | refine l_guard rfl rfl rfl rfl (fun hg => by rw [hg]; exact n_len_mutT rfl rfl) ?_ | refine l_guard rfl rfl rfl rfl (fun hg => by rw [hg]; exact n_len_nil rfl) ?_
  refine l_guard rfl rfl rfl rfl (fun hg => by rw [hg]; exact n_lss rfl rfl) ?_
  refine l_neu (n_pick_bool rfl (fun h => by first | rfl | (rw [h]; rfl)) (fun h => by first | rfl | (rw [h]; rfl))) rfl ?_
  refine l_nil ?_
  repeat (first | refine then_normal ?_ | refine c_seq ?_ | refine c_block ?_ | refine inB_normal ?_ | refine c_skip ?_ | refine c_exit ?_ | refine then_exit ?_ | refine inB_same rfl ?_ | refine inB_other rfl ?_ | refine c_ret ?_ | refine then_ret ?_ | refine inB_ret ?_)
  refine c_cond rfl (fun ht => ?_) (fun ht => ?_)
  · have hor := of_decide_eq_true (or_pick.symm.trans ht)
    refine c_skip ?_
    refine then_normal ?_
    repeat (first | refine then_normal ?_ | refine c_seq ?_ | refine c_block ?_ | refine inB_normal ?_ | refine c_skip ?_ | refine c_exit ?_ | refine then_exit ?_ | refine inB_same rfl ?_ | refine inB_other rfl ?_ | refine c_ret ?_ | refine then_ret ?_ | refine inB_ret ?_)
    have hTi : i < a.length → (distTable a b)[i]? = some (distRow a b i 0) := fun h => distRows_get a b 0 i (Nat.zero_le _) (by omega)
    have hTn : i < a.length → (distTable a b)[i + 1]? = some (distRow a b (i + 1) 0) := fun h => distRows_get a b 0 (i + 1) (Nat.zero_le _) (by omega)
    have hva : i < a.length → a[i]? = some (a.getD i 0) := fun h => by simp [List.getD_eq_getElem?_getD, h]
    have hvb : j < b.length → b[j]? = some (b.getD j 0) := fun h => by simp [List.getD_eq_getElem?_getD, h]
    have hga : ∀ h : i < a.length, a.getD i 0 = a[i] := fun h => by simp [List.getD_eq_getElem?_getD, h]
    have hgb : ∀ h : j < b.length, b.getD j 0 = b[j] := fun h => by simp [List.getD_eq_getElem?_getD, h]
    refine c_region_draw (by kernel_rfl) (by kernel_rfl) ?_
    refine d_neu (n_move rfl rfl) rfl rfl ?_
    refine d_neu (n_move rfl rfl) rfl rfl ?_
    first | refine d_neu (n_len rfl (.pure _ _ _ _)) rfl rfl ?_ | refine d_neu (n_len rfl (.buf _ _ _ _ _)) rfl rfl ?_ | refine d_neu (n_len_mut rfl rfl) rfl rfl ?_ | refine d_neu (n_len_mutT rfl rfl) rfl rfl ?_ | refine d_neu (n_len_nil rfl) rfl rfl ?_
    refine d_neu (n_lss rfl rfl) rfl rfl ?_
    refine d_neu (n_move rfl rfl) rfl rfl ?_
    refine d_guard rfl rfl (fun hg => by rw [hg]; exact n_move rfl rfl) rfl rfl ?_
    refine d_guard rfl rfl (fun hg => by rw [hg]; exact n_move rfl rfl) rfl rfl ?_
    first | refine d_guard rfl rfl (fun hg => by rw [hg]; exact n_len rfl (.pure _ _ _ _)) rfl rfl ?_ | refine d_guard rfl rfl (fun hg => by rw [hg]; exact n_len rfl (.buf _ _ _ _ _)) rfl rfl ?_ | refine d_guard rfl rfl (fun hg => by rw [hg]; exact n_len_mut rfl rfl) rfl rfl ?_ | refine d_guard rfl rfl (fun hg => by rw [hg]; exact n_len_mutT rfl rfl) rfl rfl ?_ | refine d_guard rfl rfl (fun hg => by rw [hg]; exact n_len_nil rfl) rfl rfl ?_
    refine d_guard rfl rfl (fun hg => by rw [hg]; exact n_lss rfl rfl) rfl rfl ?_
    refine d_neu (n_pick_bool rfl (fun h => by first | rfl | (rw [h]; rfl)) (fun h => by first | rfl | (rw [h]; rfl))) rfl rfl ?_
    refine d_neu (n_move rfl rfl) rfl rfl ?_
    refine d_guard rfl rfl (fun hg => by rw [hg]; exact n_move rfl rfl) rfl rfl ?_
    refine d_guard rfl rfl (fun hg => by rw [hg]; exact n_move rfl rfl) rfl rfl ?_
    first | refine d_guard rfl rfl (fun hg => by have hq := hg; (try simp at hq); rw [hg]; exact n_indexAddr rfl (.pure _ _ _ _) rfl (by omega) (hva (by omega))) rfl rfl ?_ | refine d_guard rfl rfl (fun hg => by have hq := hg; (try simp at hq); rw [hg]; exact n_indexAddr rfl (.buf _ _ _ _ _) rfl (by omega) (hva (by omega))) rfl rfl ?_ | refine d_guard rfl rfl (fun hg => by have hq := hg; (try simp at hq); rw [hg]; exact n_indexAddr_mut rfl rfl rfl (by omega) (by omega)) rfl rfl ?_ | refine d_guard rfl rfl (fun hg => by have hq := hg; (try simp at hq); rw [hg]; exact n_indexAddr_mutT rfl rfl rfl (by omega) (by omega)) rfl rfl ?_
    first | refine d_guard rfl rfl (fun hg => by rw [hg]; exact n_load_eref rfl rfl) rfl rfl ?_ | refine d_guard rfl rfl (fun hg => by rw [hg]; exact n_load_ref rfl rfl rfl) rfl rfl ?_ | refine d_guard rfl rfl (fun hg => by have hq := hg; (try simp at hq); rw [hg]; exact n_load_mref rfl rfl (List.getElem?_eq_getElem (by omega)) rfl) rfl rfl ?_ | refine d_guard rfl rfl (fun hg => by rw [hg]; exact n_load_mrefT1 rfl rfl rfl) rfl rfl ?_
    refine d_guard rfl rfl (fun hg => by rw [hg]; exact n_move rfl rfl) rfl rfl ?_
    refine d_guard rfl rfl (fun hg => by rw [hg]; exact n_move rfl rfl) rfl rfl ?_
    first | refine d_guard rfl rfl (fun hg => by have hq := hg; (try simp at hq); rw [hg]; exact n_indexAddr rfl (.pure _ _ _ _) rfl (by omega) (hvb (by omega))) rfl rfl ?_ | refine d_guard rfl rfl (fun hg => by have hq := hg; (try simp at hq); rw [hg]; exact n_indexAddr rfl (.buf _ _ _ _ _) rfl (by omega) (hvb (by omega))) rfl rfl ?_ | refine d_guard rfl rfl (fun hg => by have hq := hg; (try simp at hq); rw [hg]; exact n_indexAddr_mut rfl rfl rfl (by omega) (by omega)) rfl rfl ?_ | refine d_guard rfl rfl (fun hg => by have hq := hg; (try simp at hq); rw [hg]; exact n_indexAddr_mutT rfl rfl rfl (by omega) (by omega)) rfl rfl ?_
    first | refine d_guard rfl rfl (fun hg => by rw [hg]; exact n_load_eref rfl rfl) rfl rfl ?_ | refine d_guard rfl rfl (fun hg => by rw [hg]; exact n_load_ref rfl rfl rfl) rfl rfl ?_ | refine d_guard rfl rfl (fun hg => by have hq := hg; (try simp at hq); rw [hg]; exact n_load_mref rfl rfl (List.getElem?_eq_getElem (by omega)) rfl) rfl rfl ?_ | refine d_guard rfl rfl (fun hg => by rw [hg]; exact n_load_mrefT1 rfl rfl rfl) rfl rfl ?_
    refine d_guard rfl rfl (fun hg => by rw [hg]; exact n_eql rfl rfl) rfl rfl ?_
    refine d_neu (n_pick_bool rfl (fun h => by first | rfl | (rw [h]; rfl)) (fun h => by first | rfl | (rw [h]; rfl))) rfl rfl ?_
    refine d_neu (n_assign rfl rfl) rfl rfl ?_
    refine d_nil ?_
    repeat (first | refine then_normal ?_ | refine c_seq ?_ | refine c_block ?_ | refine inB_normal ?_ | refine c_skip ?_ | refine c_exit ?_ | refine then_exit ?_ | refine inB_same rfl ?_ | refine inB_other rfl ?_ | refine c_ret ?_ | refine then_ret ?_ | refine inB_ret ?_)
    refine c_cond rfl (fun ht => ?_) (fun ht => ?_)
    · simp only [and_pick] at ht
      obtain ⟨⟨hia, hjb⟩, heq⟩ := of_decide_eq_true ht
      have hia' : i < a.length := by omega
      have hjb' : j < b.length := by omega
      rw [hga hia', hgb hjb'] at heq
      rw [walkGo_drop a b i j hia' hjb', if_pos heq] at hp
      repeat (first | refine then_normal ?_ | refine c_seq ?_ | refine c_block ?_ | refine inB_normal ?_ | refine c_skip ?_ | refine c_exit ?_ | refine then_exit ?_ | refine inB_same rfl ?_ | refine inB_other rfl ?_ | refine c_ret ?_ | refine then_ret ?_ | refine inB_ret ?_)
      refine c_region ?_
      refine l_neu (n_move rfl rfl) rfl ?_
      refine l_neu (n_move rfl rfl) rfl ?_
      refine l_neu (n_move rfl rfl) rfl ?_
      refine l_neu (n_build rfl) rfl ?_
      refine l_neu (n_buildSlice (c := spanC) (ys := [⟨_, _⟩]) (asm_cons rfl rfl rfl rfl asm_nil) rfl rfl rfl) rfl ?_
      first | refine l_effv (e_append rfl rfl rfl (.pure _ _ _ _) (by simp; omega) rfl) rfl ?_ | refine l_effv (e_append rfl rfl rfl (.buf _ _ _ _ _) (by simp; omega) rfl) rfl ?_
      refine l_neu (n_assign rfl rfl) rfl ?_
      refine l_nil ?_
      repeat (first | refine then_normal ?_ | refine c_seq ?_ | refine c_block ?_ | refine inB_normal ?_ | refine c_skip ?_ | refine c_exit ?_ | refine then_exit ?_ | refine inB_same rfl ?_ | refine inB_other rfl ?_ | refine c_ret ?_ | refine then_ret ?_ | refine inB_ret ?_)
      refine c_region ?_
      refine l_neu (n_move rfl rfl) rfl ?_
      refine l_neu (n_add rfl rfl (by omega)) rfl ?_
      refine l_neu (n_move rfl rfl) rfl ?_
      refine l_neu (n_add rfl rfl (by omega)) rfl ?_
      refine l_neu (n_assign rfl rfl) rfl ?_
      refine l_neu (n_assign rfl rfl) rfl ?_
      refine l_nil ?_
      repeat (first | refine then_normal ?_ | refine c_seq ?_ | refine c_block ?_ | refine inB_normal ?_ | refine c_skip ?_ | refine c_exit ?_ | refine then_exit ?_ | refine inB_same rfl ?_ | refine inB_other rfl ?_ | refine c_ret ?_ | refine then_ret ?_ | refine inB_ret ?_)
      exact ⟨(i + 1, j + 1, out ++ [⟨i, j⟩]), ⟨by dsimp only; omega, by dsimp only; omega, by dsimp only; simp; omega, by dsimp only; rw [List.append_assoc]; exact hp⟩, by dsimp only; omega, Sees.of ⟨⟨_, rfl, by first | exact .same _ | exact .eq (by first | (simp; done) | (simp; omega)) | exact .list _ _ _ _ _ | exact .nil _ _ _ | exact .any _⟩, ⟨_, rfl, by first | exact .same _ | exact .eq (by first | (simp; done) | (simp; omega)) | exact .list _ _ _ _ _ | exact .nil _ _ _ | exact .any _⟩, ⟨_, rfl, by first | exact .same _ | exact .eq (by first | (simp; done) | (simp; omega)) | exact .list _ _ _ _ _ | exact .nil _ _ _ | exact .any _⟩, ⟨_, rfl, by first | exact .same _ | exact .eq (by first | (simp; done) | (simp; omega)) | exact .list _ _ _ _ _ | exact .nil _ _ _ | exact .any _⟩, ⟨_, rfl, by first | exact .same _ | exact .eq (by first | (simp; done) | (simp; omega)) | exact .list _ _ _ _ _ | exact .nil _ _ _ | exact .any _⟩, ⟨_, rfl, by first | exact .same _ | exact .eq (by first | (simp; done) | (simp; omega)) | exact .list _ _ _ _ _ | exact .nil _ _ _ | exact .any _⟩, trivial⟩ ⟨rfl, trivial⟩⟩
    · have hne : ∀ (h1 : i < a.length) (h2 : j < b.length), a[i] ≠ b[j] := fun h1 h2 h => by
        simp only [and_pick] at ht
        exact of_decide_eq_false ht ⟨⟨by omega, by omega⟩, by rw [hga h1, hgb h2]; exact h⟩
      repeat (first | refine then_normal ?_ | refine c_seq ?_ | refine c_block ?_ | refine inB_normal ?_ | refine c_skip ?_ | refine c_exit ?_ | refine then_exit ?_ | refine inB_same rfl ?_ | refine inB_other rfl ?_ | refine c_ret ?_ | refine then_ret ?_ | refine inB_ret ?_)
      refine c_region_draw (by kernel_rfl) (by kernel_rfl) ?_
      refine d_neu (n_move rfl rfl) rfl rfl ?_
      refine d_neu (n_move rfl rfl) rfl rfl ?_
      first | refine d_neu (n_len rfl (.pure _ _ _ _)) rfl rfl ?_ | refine d_neu (n_len rfl (.buf _ _ _ _ _)) rfl rfl ?_ | refine d_neu (n_len_mut rfl rfl) rfl rfl ?_ | refine d_neu (n_len_mutT rfl rfl) rfl rfl ?_ | refine d_neu (n_len_nil rfl) rfl rfl ?_
      refine d_neu (n_lss rfl rfl) rfl rfl ?_
      refine d_neu (n_move rfl rfl) rfl rfl ?_
      refine d_guard rfl rfl (fun hg => by rw [hg]; exact n_move rfl rfl) rfl rfl ?_
      refine d_guard rfl rfl (fun hg => by rw [hg]; exact n_move rfl rfl) rfl rfl ?_
      refine d_guard rfl rfl (fun hg => by have hq := hg; (try simp at hq); rw [hg]; exact n_add rfl rfl (by omega)) rfl rfl ?_
      first | refine d_guard rfl rfl (fun hg => by have hq := hg; (try simp at hq); rw [hg]; exact n_indexAddr rfl (.pure _ _ _ _) rfl (by omega) (hTn (by omega))) rfl rfl ?_ | refine d_guard rfl rfl (fun hg => by have hq := hg; (try simp at hq); rw [hg]; exact n_indexAddr rfl (.buf _ _ _ _ _) rfl (by omega) (hTn (by omega))) rfl rfl ?_ | refine d_guard rfl rfl (fun hg => by have hq := hg; (try simp at hq); rw [hg]; exact n_indexAddr_mut rfl rfl rfl (by omega) (by omega)) rfl rfl ?_ | refine d_guard rfl rfl (fun hg => by have hq := hg; (try simp at hq); rw [hg]; exact n_indexAddr_mutT rfl rfl rfl (by omega) (by omega)) rfl rfl ?_
      first | refine d_guard rfl rfl (fun hg => by rw [hg]; exact n_load_eref rfl rfl) rfl rfl ?_ | refine d_guard rfl rfl (fun hg => by rw [hg]; exact n_load_ref rfl rfl rfl) rfl rfl ?_ | refine d_guard rfl rfl (fun hg => by have hq := hg; (try simp at hq); rw [hg]; exact n_load_mref rfl rfl (List.getElem?_eq_getElem (by omega)) rfl) rfl rfl ?_ | refine d_guard rfl rfl (fun hg => by rw [hg]; exact n_load_mrefT1 rfl rfl rfl) rfl rfl ?_
      refine d_guard rfl rfl (fun hg => by rw [hg]; exact n_move rfl rfl) rfl rfl ?_
      first | refine d_guard rfl rfl (fun hg => by have hq := hg; (try simp at hq); rw [hg]; exact n_indexAddr rfl (.pure _ _ _ _) rfl (by omega) (distRow_get a b (i + 1) 0 j (Nat.zero_le _) hj)) rfl rfl ?_ | refine d_guard rfl rfl (fun hg => by have hq := hg; (try simp at hq); rw [hg]; exact n_indexAddr rfl (.buf _ _ _ _ _) rfl (by omega) (distRow_get a b (i + 1) 0 j (Nat.zero_le _) hj)) rfl rfl ?_ | refine d_guard rfl rfl (fun hg => by have hq := hg; (try simp at hq); rw [hg]; exact n_indexAddr_mut rfl rfl rfl (by omega) (by omega)) rfl rfl ?_ | refine d_guard rfl rfl (fun hg => by have hq := hg; (try simp at hq); rw [hg]; exact n_indexAddr_mutT rfl rfl rfl (by omega) (by omega)) rfl rfl ?_
      first | refine d_guard rfl rfl (fun hg => by rw [hg]; exact n_load_eref rfl rfl) rfl rfl ?_ | refine d_guard rfl rfl (fun hg => by rw [hg]; exact n_load_ref rfl rfl rfl) rfl rfl ?_ | refine d_guard rfl rfl (fun hg => by have hq := hg; (try simp at hq); rw [hg]; exact n_load_mref rfl rfl (List.getElem?_eq_getElem (by omega)) rfl) rfl rfl ?_ | refine d_guard rfl rfl (fun hg => by rw [hg]; exact n_load_mrefT1 rfl rfl rfl) rfl rfl ?_
      refine d_guard rfl rfl (fun hg => by have hq := hg; (try simp at hq); have h1 := dist_le (a.drop (i + 1)) (b.drop j); simp only [List.length_drop] at h1; rw [hg]; exact n_add rfl rfl (by omega)) rfl rfl ?_
      refine d_guard rfl rfl (fun hg => by rw [hg]; exact n_move rfl rfl) rfl rfl ?_
      refine d_guard rfl rfl (fun hg => by rw [hg]; exact n_move rfl rfl) rfl rfl ?_
      first | refine d_guard rfl rfl (fun hg => by have hq := hg; (try simp at hq); rw [hg]; exact n_indexAddr rfl (.pure _ _ _ _) rfl (by omega) (hTi (by omega))) rfl rfl ?_ | refine d_guard rfl rfl (fun hg => by have hq := hg; (try simp at hq); rw [hg]; exact n_indexAddr rfl (.buf _ _ _ _ _) rfl (by omega) (hTi (by omega))) rfl rfl ?_ | refine d_guard rfl rfl (fun hg => by have hq := hg; (try simp at hq); rw [hg]; exact n_indexAddr_mut rfl rfl rfl (by omega) (by omega)) rfl rfl ?_ | refine d_guard rfl rfl (fun hg => by have hq := hg; (try simp at hq); rw [hg]; exact n_indexAddr_mutT rfl rfl rfl (by omega) (by omega)) rfl rfl ?_
      first | refine d_guard rfl rfl (fun hg => by rw [hg]; exact n_load_eref rfl rfl) rfl rfl ?_ | refine d_guard rfl rfl (fun hg => by rw [hg]; exact n_load_ref rfl rfl rfl) rfl rfl ?_ | refine d_guard rfl rfl (fun hg => by have hq := hg; (try simp at hq); rw [hg]; exact n_load_mref rfl rfl (List.getElem?_eq_getElem (by omega)) rfl) rfl rfl ?_ | refine d_guard rfl rfl (fun hg => by rw [hg]; exact n_load_mrefT1 rfl rfl rfl) rfl rfl ?_
      refine d_guard rfl rfl (fun hg => by rw [hg]; exact n_move rfl rfl) rfl rfl ?_
      first | refine d_guard rfl rfl (fun hg => by have hq := hg; (try simp at hq); rw [hg]; exact n_indexAddr rfl (.pure _ _ _ _) rfl (by omega) (distRow_get a b i 0 j (Nat.zero_le _) hj)) rfl rfl ?_ | refine d_guard rfl rfl (fun hg => by have hq := hg; (try simp at hq); rw [hg]; exact n_indexAddr rfl (.buf _ _ _ _ _) rfl (by omega) (distRow_get a b i 0 j (Nat.zero_le _) hj)) rfl rfl ?_ | refine d_guard rfl rfl (fun hg => by have hq := hg; (try simp at hq); rw [hg]; exact n_indexAddr_mut rfl rfl rfl (by omega) (by omega)) rfl rfl ?_ | refine d_guard rfl rfl (fun hg => by have hq := hg; (try simp at hq); rw [hg]; exact n_indexAddr_mutT rfl rfl rfl (by omega) (by omega)) rfl rfl ?_
      first | refine d_guard rfl rfl (fun hg => by rw [hg]; exact n_load_eref rfl rfl) rfl rfl ?_ | refine d_guard rfl rfl (fun hg => by rw [hg]; exact n_load_ref rfl rfl rfl) rfl rfl ?_ | refine d_guard rfl rfl (fun hg => by have hq := hg; (try simp at hq); rw [hg]; exact n_load_mref rfl rfl (List.getElem?_eq_getElem (by omega)) rfl) rfl rfl ?_ | refine d_guard rfl rfl (fun hg => by rw [hg]; exact n_load_mrefT1 rfl rfl rfl) rfl rfl ?_
      refine d_guard rfl rfl (fun hg => by rw [hg]; exact n_eql rfl rfl) rfl rfl ?_
      refine d_neu (n_pick_bool rfl (fun h => by first | rfl | (rw [h]; rfl)) (fun h => by first | rfl | (rw [h]; rfl))) rfl rfl ?_
      refine d_neu (n_assign rfl rfl) rfl rfl ?_
      refine d_nil ?_
      repeat (first | refine then_normal ?_ | refine c_seq ?_ | refine c_block ?_ | refine inB_normal ?_ | refine c_skip ?_ | refine c_exit ?_ | refine then_exit ?_ | refine inB_same rfl ?_ | refine inB_other rfl ?_ | refine c_ret ?_ | refine then_ret ?_ | refine inB_ret ?_)
      refine c_cond rfl (fun ht => ?_) (fun ht => ?_)
      · rw [and_pick] at ht
        obtain ⟨hia, hd⟩ := of_decide_eq_true ht
        have hia' : i < a.length := by omega
        have hp' : out ++ walkGo (i + 1 : Nat) j (a.drop (i + 1)) (b.drop j) = walkGo 0 0 a b := by
          by_cases hjb : j < b.length
          · rw [walkGo_drop a b i j hia' hjb, if_neg (hne hia' hjb), if_pos (by omega)] at hp
            exact hp
          · rw [List.drop_eq_nil_of_le (show b.length ≤ j by omega), walkGo_nil_right] at hp ⊢
            exact hp
        repeat (first | refine then_normal ?_ | refine c_seq ?_ | refine c_block ?_ | refine inB_normal ?_ | refine c_skip ?_ | refine c_exit ?_ | refine then_exit ?_ | refine inB_same rfl ?_ | refine inB_other rfl ?_ | refine c_ret ?_ | refine then_ret ?_ | refine inB_ret ?_)
        refine c_region ?_
        refine l_neu (n_move rfl rfl) rfl ?_
        refine l_neu (n_add rfl rfl (by omega)) rfl ?_
        refine l_neu (n_assign rfl rfl) rfl ?_
        refine l_nil ?_
        repeat (first | refine then_normal ?_ | refine c_seq ?_ | refine c_block ?_ | refine inB_normal ?_ | refine c_skip ?_ | refine c_exit ?_ | refine then_exit ?_ | refine inB_same rfl ?_ | refine inB_other rfl ?_ | refine c_ret ?_ | refine then_ret ?_ | refine inB_ret ?_)
        exact ⟨(i + 1, j, out), ⟨by dsimp only; omega, by dsimp only; omega, by dsimp only; omega, hp'⟩, by dsimp only; omega, Sees.of ⟨⟨_, rfl, by first | exact .same _ | exact .eq (by first | (simp; done) | (simp; omega)) | exact .list _ _ _ _ _ | exact .nil _ _ _ | exact .any _⟩, ⟨_, rfl, by first | exact .same _ | exact .eq (by first | (simp; done) | (simp; omega)) | exact .list _ _ _ _ _ | exact .nil _ _ _ | exact .any _⟩, ⟨_, rfl, by first | exact .same _ | exact .eq (by first | (simp; done) | (simp; omega)) | exact .list _ _ _ _ _ | exact .nil _ _ _ | exact .any _⟩, ⟨_, rfl, by first | exact .same _ | exact .eq (by first | (simp; done) | (simp; omega)) | exact .list _ _ _ _ _ | exact .nil _ _ _ | exact .any _⟩, ⟨_, rfl, by first | exact .same _ | exact .eq (by first | (simp; done) | (simp; omega)) | exact .list _ _ _ _ _ | exact .nil _ _ _ | exact .any _⟩, ⟨_, rfl, by first | exact .same _ | exact .eq (by first | (simp; done) | (simp; omega)) | exact .list _ _ _ _ _ | exact .nil _ _ _ | exact .any _⟩, trivial⟩ ⟨rfl, trivial⟩⟩
      · rw [and_pick] at ht
        have hd := of_decide_eq_false ht
        have hjb : j < b.length := by
          refine Classical.byContradiction fun h => ?_
          have hjb : j = b.length := by omega
          have hia : i < a.length := by omega
          apply hd
          refine ⟨by omega, ?_⟩
          rw [List.drop_eq_nil_of_le (show b.length ≤ j by omega), dist_nil, dist_nil, List.length_drop, List.length_drop]
          omega
        have hp' : out ++ walkGo i (j + 1 : Nat) (a.drop i) (b.drop (j + 1)) = walkGo 0 0 a b := by
          by_cases hia : i < a.length
          · rw [walkGo_drop a b i j hia hjb, if_neg (hne hia hjb), if_neg (fun h => hd ⟨by omega, by omega⟩)] at hp
            exact hp
          · rw [List.drop_eq_nil_of_le (show a.length ≤ i by omega), walkGo_nil_left] at hp ⊢
            exact hp
        repeat (first | refine then_normal ?_ | refine c_seq ?_ | refine c_block ?_ | refine inB_normal ?_ | refine c_skip ?_ | refine c_exit ?_ | refine then_exit ?_ | refine inB_same rfl ?_ | refine inB_other rfl ?_ | refine c_ret ?_ | refine then_ret ?_ | refine inB_ret ?_)
        refine c_region ?_
        refine l_neu (n_move rfl rfl) rfl ?_
        refine l_neu (n_add rfl rfl (by omega)) rfl ?_
        refine l_neu (n_assign rfl rfl) rfl ?_
        refine l_nil ?_
        repeat (first | refine then_normal ?_ | refine c_seq ?_ | refine c_block ?_ | refine inB_normal ?_ | refine c_skip ?_ | refine c_exit ?_ | refine then_exit ?_ | refine inB_same rfl ?_ | refine inB_other rfl ?_ | refine c_ret ?_ | refine then_ret ?_ | refine inB_ret ?_)
        exact ⟨(i, j + 1, out), ⟨by dsimp only; omega, by dsimp only; omega, by dsimp only; omega, hp'⟩, by dsimp only; omega, Sees.of ⟨⟨_, rfl, by first | exact .same _ | exact .eq (by first | (simp; done) | (simp; omega)) | exact .list _ _ _ _ _ | exact .nil _ _ _ | exact .any _⟩, ⟨_, rfl, by first | exact .same _ | exact .eq (by first | (simp; done) | (simp; omega)) | exact .list _ _ _ _ _ | exact .nil _ _ _ | exact .any _⟩, ⟨_, rfl, by first | exact .same _ | exact .eq (by first | (simp; done) | (simp; omega)) | exact .list _ _ _ _ _ | exact .nil _ _ _ | exact .any _⟩, ⟨_, rfl, by first | exact .same _ | exact .eq (by first | (simp; done) | (simp; omega)) | exact .list _ _ _ _ _ | exact .nil _ _ _ | exact .any _⟩, ⟨_, rfl, by first | exact .same _ | exact .eq (by first | (simp; done) | (simp; omega)) | exact .list _ _ _ _ _ | exact .nil _ _ _ | exact .any _⟩, ⟨_, rfl, by first | exact .same _ | exact .eq (by first | (simp; done) | (simp; omega)) | exact .list _ _ _ _ _ | exact .nil _ _ _ | exact .any _⟩, trivial⟩ ⟨rfl, trivial⟩⟩
  · have hor := of_decide_eq_false (or_pick.symm.trans ht)
    have hi' : i = a.length := by omega
    have hj' : j = b.length := by omega
    rw [hi', List.drop_eq_nil_of_le (Nat.le_refl a.length)] at hp
    have hout : out = walkGo 0 0 a b := by rw [← hp]; simp [walkGo]
    repeat (first | refine then_normal ?_ | refine c_seq ?_ | refine c_block ?_ | refine inB_normal ?_ | refine c_skip ?_ | refine c_exit ?_ | refine then_exit ?_ | refine inB_same rfl ?_ | refine inB_other rfl ?_ | refine c_ret ?_ | refine then_ret ?_ | refine inB_ret ?_)
    refine c_region ?_
    refine l_neu (n_move rfl rfl) rfl ?_
    refine l_neu (n_move rfl rfl) rfl ?_
    first | refine l_neu (n_len rfl (.pure _ _ _ _)) rfl ?_ | refine l_neu (n_len rfl (.buf _ _ _ _ _)) rfl ?_ | refine l_neu (n_len_mut rfl rfl) rfl ?_ | refine l_neu (n_len_mutT rfl rfl) rfl ?_ | refine l_neu (n_len_nil rfl) rfl ?_
    refine l_neu (n_move rfl rfl) rfl ?_
    first | refine l_neu (n_len rfl (.pure _ _ _ _)) rfl ?_ | refine l_neu (n_len rfl (.buf _ _ _ _ _)) rfl ?_ | refine l_neu (n_len_mut rfl rfl) rfl ?_ | refine l_neu (n_len_mutT rfl rfl) rfl ?_ | refine l_neu (n_len_nil rfl) rfl ?_
    refine l_call (made_ok out a.length b.length (by omega) (fun s hs => by have := walkGo_bound a b 0 0 s (hout ▸ hs); omega) (by omega)) rfl rfl rfl ?_
    rintro _ rfl
    refine l_neu (n_assign rfl rfl) rfl ?_
    refine l_nil ?_
    repeat (first | refine then_normal ?_ | refine c_seq ?_ | refine c_block ?_ | refine inB_normal ?_ | refine c_skip ?_ | refine c_exit ?_ | refine then_exit ?_ | refine inB_same rfl ?_ | refine inB_other rfl ?_ | refine c_ret ?_ | refine then_ret ?_ | refine inB_ret ?_)
    exact ret_ret (ret1 rfl rfl rfl) (by rw [hout]; rfl)

theorem script_ok (a b : List Int) : FnOk Try.prog 41 [pInts a, pInts b] (fun rs => rs = if 4096 < a.length ∨ 4096 < b.length then [pChanges [], pInt 1] else [pChanges (walkOf a b), pInt 0]) := by
  refine FnOk.intro Try.func41 (by decide) rfl rfl rfl ?_
  repeat (first | refine then_normal ?_ | refine c_seq ?_ | refine c_block ?_ | refine inB_normal ?_ | refine c_skip ?_ | refine c_exit ?_ | refine then_exit ?_ | refine inB_same rfl ?_ | refine inB_other rfl ?_ | refine c_ret ?_ | refine then_ret ?_ | refine inB_ret ?_)
  refine c_region ?_
  refine l_neu (n_assign rfl rfl) rfl ?_
  refine l_neu (n_assign rfl rfl) rfl ?_
  refine l_nil ?_
  repeat (first | refine then_normal ?_ | refine c_seq ?_ | refine c_block ?_ | refine inB_normal ?_ | refine c_skip ?_ | refine c_exit ?_ | refine then_exit ?_ | refine inB_same rfl ?_ | refine inB_other rfl ?_ | refine c_ret ?_ | refine then_ret ?_ | refine inB_ret ?_)
  refine c_region ?_
  refine l_neu (n_move rfl rfl) rfl ?_
  refine l_neu (n_move rfl rfl) rfl ?_
  refine l_call (long_ok a b) rfl rfl rfl ?_
  rintro _ rfl
  refine l_nil ?_
  repeat (first | refine then_normal ?_ | refine c_seq ?_ | refine c_block ?_ | refine inB_normal ?_ | refine c_skip ?_ | refine c_exit ?_ | refine then_exit ?_ | refine inB_same rfl ?_ | refine inB_other rfl ?_ | refine c_ret ?_ | refine then_ret ?_ | refine inB_ret ?_)
  refine c_cond rfl (fun ht => ?_) (fun ht => ?_)
  · have h := of_decide_eq_true ht
    repeat (first | refine then_normal ?_ | refine c_seq ?_ | refine c_block ?_ | refine inB_normal ?_ | refine c_skip ?_ | refine c_exit ?_ | refine then_exit ?_ | refine inB_same rfl ?_ | refine inB_other rfl ?_ | refine c_ret ?_ | refine then_ret ?_ | refine inB_ret ?_)
    refine c_region ?_
    refine l_neu (n_assign_nil _ 4 changeC) rfl ?_
    refine l_neu (n_assign rfl rfl) rfl ?_
    refine l_nil ?_
    repeat (first | refine then_normal ?_ | refine c_seq ?_ | refine c_block ?_ | refine inB_normal ?_ | refine c_skip ?_ | refine c_exit ?_ | refine then_exit ?_ | refine inB_same rfl ?_ | refine inB_other rfl ?_ | refine c_ret ?_ | refine then_ret ?_ | refine inB_ret ?_)
    exact ret_ret (ret2 rfl rfl rfl rfl rfl) (by rw [if_pos h])
  · have h := of_decide_eq_false ht
    repeat (first | refine then_normal ?_ | refine c_seq ?_ | refine c_block ?_ | refine inB_normal ?_ | refine c_skip ?_ | refine c_exit ?_ | refine then_exit ?_ | refine inB_same rfl ?_ | refine inB_other rfl ?_ | refine c_ret ?_ | refine then_ret ?_ | refine inB_ret ?_)
    refine c_region ?_
    refine l_neu (n_move rfl rfl) rfl ?_
    refine l_neu (n_move rfl rfl) rfl ?_
    refine l_call (walk_ok a b (by omega) (by omega)) rfl rfl rfl ?_
    rintro _ rfl
    refine l_neu (n_assign rfl rfl) rfl ?_
    refine l_neu (n_assign rfl rfl) rfl ?_
    refine l_nil ?_
    repeat (first | refine then_normal ?_ | refine c_seq ?_ | refine c_block ?_ | refine inB_normal ?_ | refine c_skip ?_ | refine c_exit ?_ | refine then_exit ?_ | refine inB_same rfl ?_ | refine inB_other rfl ?_ | refine c_ret ?_ | refine then_ret ?_ | refine inB_ret ?_)
    exact ret_ret (ret2 rfl rfl rfl rfl rfl) (by rw [if_neg h])
end Go.Proofs.Ytljfkoaafocglaa
