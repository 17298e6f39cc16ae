/- The reference's functions of tables, by the abstract logic. -/
import Derived.Test.YtljfkoaafocglaaT5
import Derived.Test.YtljfkoaafocglaaS3
namespace Go.Proofs.Ytljfkoaafocglaa
open Go Go.AL
set_option maxRecDepth 100000

theorem visible16_ok (r : Row) (c : Int) (hr : 0 ≤ r.Marks ∧ r.Marks < 4294967296) : FnOk Try.prog 39 [pRow r, pInt c] (fun rs => rs = [pBool (visB r c)]) := by
  refine FnOk.intro Try.func39 (by decide) rfl rfl rfl ?_
  repeat (first | refine then_normal ?_ | refine c_seq ?_ | refine c_block ?_ | refine inB_normal ?_ | refine c_skip ?_ | refine c_exit ?_ | refine then_exit ?_ | refine inB_same rfl ?_ | refine inB_other rfl ?_ | refine c_ret ?_ | refine then_ret ?_ | refine inB_ret ?_)
  refine c_region ?_
  refine l_effv (f_box 2 rfl rfl rfl) rfl ?_
  refine l_neu (n_assign rfl rfl) rfl ?_
  refine l_nil ?_
  repeat (first | refine then_normal ?_ | refine c_seq ?_ | refine c_block ?_ | refine inB_normal ?_ | refine c_skip ?_ | refine c_exit ?_ | refine then_exit ?_ | refine inB_same rfl ?_ | refine inB_other rfl ?_ | refine c_ret ?_ | refine then_ret ?_ | refine inB_ret ?_)
  refine c_region ?_
  refine l_neu (n_move rfl rfl) rfl ?_
  refine l_neu (n_eql rfl rfl) rfl ?_
  refine l_neu (n_assign rfl rfl) rfl ?_
  refine l_nil ?_
  repeat (first | refine then_normal ?_ | refine c_seq ?_ | refine c_block ?_ | refine inB_normal ?_ | refine c_skip ?_ | refine c_exit ?_ | refine then_exit ?_ | refine inB_same rfl ?_ | refine inB_other rfl ?_ | refine c_ret ?_ | refine then_ret ?_ | refine inB_ret ?_)
  refine c_cond rfl (fun ht => ?_) (fun ht => ?_)
  · have h := of_decide_eq_true ht
    repeat (first | refine then_normal ?_ | refine c_seq ?_ | refine c_block ?_ | refine inB_normal ?_ | refine c_skip ?_ | refine c_exit ?_ | refine then_exit ?_ | refine inB_same rfl ?_ | refine inB_other rfl ?_ | refine c_ret ?_ | refine then_ret ?_ | refine inB_ret ?_)
    refine c_region ?_
    first | refine l_neu (n_field_ref rfl) rfl ?_ | refine l_neu (n_field_eref rfl) rfl ?_ | refine l_neu (n_field_mref rfl) rfl ?_
    first | refine l_neu (n_load_eref rfl rfl) rfl ?_ | refine l_neu (n_load_ref rfl rfl rfl) rfl ?_ | refine l_neu (n_load_mref rfl rfl (List.getElem?_eq_getElem (by omega)) rfl) rfl ?_ | refine l_neu (n_load_mrefT1 rfl rfl rfl) rfl ?_
    refine l_neu (n_not rfl) rfl ?_
    refine l_neu (n_assign rfl rfl) rfl ?_
    refine l_nil ?_
    repeat (first | refine then_normal ?_ | refine c_seq ?_ | refine c_block ?_ | refine inB_normal ?_ | refine c_skip ?_ | refine c_exit ?_ | refine then_exit ?_ | refine inB_same rfl ?_ | refine inB_other rfl ?_ | refine c_ret ?_ | refine then_ret ?_ | refine inB_ret ?_)
    exact ret_ret (ret1 rfl rfl rfl) (by rw [visB, if_pos h])
  · have h := of_decide_eq_false ht
    repeat (first | refine then_normal ?_ | refine c_seq ?_ | refine c_block ?_ | refine inB_normal ?_ | refine c_skip ?_ | refine c_exit ?_ | refine then_exit ?_ | refine inB_same rfl ?_ | refine inB_other rfl ?_ | refine c_ret ?_ | refine then_ret ?_ | refine inB_ret ?_)
    refine c_region ?_
    refine l_neu (n_move rfl rfl) rfl ?_
    refine l_neu (n_lss rfl rfl) rfl ?_
    refine l_neu (n_move rfl rfl) rfl ?_
    refine l_guard rfl rfl rfl rfl (fun hg => by rw [hg]; exact n_move rfl rfl) ?_
    refine l_guard rfl rfl rfl rfl (fun hg => by rw [hg]; exact n_geq rfl rfl) ?_
    refine l_neu (n_pick_bool rfl (fun h => by first | rfl | (rw [h]; rfl)) (fun h => by first | rfl | (rw [h]; rfl))) rfl ?_
    refine l_neu (n_assign rfl rfl) rfl ?_
    refine l_nil ?_
    repeat (first | refine then_normal ?_ | refine c_seq ?_ | refine c_block ?_ | refine inB_normal ?_ | refine c_skip ?_ | refine c_exit ?_ | refine then_exit ?_ | refine inB_same rfl ?_ | refine inB_other rfl ?_ | refine c_ret ?_ | refine then_ret ?_ | refine inB_ret ?_)
    refine c_cond rfl (fun ht => ?_) (fun ht => ?_)
    · have h2 := of_decide_eq_true (or_pick.symm.trans ht)
      repeat (first | refine then_normal ?_ | refine c_seq ?_ | refine c_block ?_ | refine inB_normal ?_ | refine c_skip ?_ | refine c_exit ?_ | refine then_exit ?_ | refine inB_same rfl ?_ | refine inB_other rfl ?_ | refine c_ret ?_ | refine then_ret ?_ | refine inB_ret ?_)
      refine c_region ?_
      refine l_neu (n_assign rfl rfl) rfl ?_
      refine l_nil ?_
      repeat (first | refine then_normal ?_ | refine c_seq ?_ | refine c_block ?_ | refine inB_normal ?_ | refine c_skip ?_ | refine c_exit ?_ | refine then_exit ?_ | refine inB_same rfl ?_ | refine inB_other rfl ?_ | refine c_ret ?_ | refine then_ret ?_ | refine inB_ret ?_)
      exact ret_ret (ret1 rfl rfl rfl) (by rw [visB, if_neg h, if_pos h2])
    · have h2 := of_decide_eq_false (or_pick.symm.trans ht)
      have hc : 0 ≤ c ∧ c < 32 := by omega
      repeat (first | refine then_normal ?_ | refine c_seq ?_ | refine c_block ?_ | refine inB_normal ?_ | refine c_skip ?_ | refine c_exit ?_ | refine then_exit ?_ | refine inB_same rfl ?_ | refine inB_other rfl ?_ | refine c_ret ?_ | refine then_ret ?_ | refine inB_ret ?_)
      refine c_region ?_
      first | refine l_neu (n_field_ref rfl) rfl ?_ | refine l_neu (n_field_eref rfl) rfl ?_ | refine l_neu (n_field_mref rfl) rfl ?_
      first | refine l_neu (n_load_eref rfl rfl) rfl ?_ | refine l_neu (n_load_ref rfl rfl rfl) rfl ?_ | refine l_neu (n_load_mref rfl rfl (List.getElem?_eq_getElem (by omega)) rfl) rfl ?_ | refine l_neu (n_load_mrefT1 rfl rfl rfl) rfl ?_
      refine l_neu (n_move rfl rfl) rfl ?_
      refine l_neu (n_convert rfl) rfl ?_
      refine l_neu (n_shr rfl rfl (by (rw [u64_id (by omega)]; omega))) rfl ?_
      refine l_neu (n_bits rfl rfl rfl (fun _ => rfl)) rfl ?_
      refine l_neu (n_eql rfl rfl) rfl ?_
      first | refine l_neu (n_field_ref rfl) rfl ?_ | refine l_neu (n_field_eref rfl) rfl ?_ | refine l_neu (n_field_mref rfl) rfl ?_
      first | refine l_neu (n_load_eref rfl rfl) rfl ?_ | refine l_neu (n_load_ref rfl rfl rfl) rfl ?_ | refine l_neu (n_load_mref rfl rfl (List.getElem?_eq_getElem (by omega)) rfl) rfl ?_ | refine l_neu (n_load_mrefT1 rfl rfl rfl) rfl ?_
      refine l_neu (n_eql_b rfl rfl TyBool.out) rfl ?_
      refine l_neu (n_assign rfl rfl) rfl ?_
      refine l_nil ?_
      repeat (first | refine then_normal ?_ | refine c_seq ?_ | refine c_block ?_ | refine inB_normal ?_ | refine c_skip ?_ | refine c_exit ?_ | refine then_exit ?_ | refine inB_same rfl ?_ | refine inB_other rfl ?_ | refine c_ret ?_ | refine then_ret ?_ | refine inB_ret ?_)
      refine ret_ret (ret1 rfl rfl rfl) ?_
      have h3 : 0 ≤ r.Marks / 2 ^ c.toNat := Int.ediv_nonneg hr.1 (Int.pow_nonneg (by decide))
      have h4 : r.Marks / 2 ^ c.toNat ≤ r.Marks := Int.ediv_le_self _ hr.1
      rw [visB, if_neg h, if_neg h2, u64_id (by omega), shr32 r.Marks c (by omega), and1_u32 _ (by omega)]
      rfl

theorem column16_ok (rows : List Row) (c : Int) (hr : rowsIn rows) (hl : rows.length ≤ 536870911) : FnOk Try.prog 22 [pRows rows, pInt c] (fun rs => rs = [pStrs (colOf rows c)]) := by
  refine FnOk.intro Try.func22 (by decide) rfl rfl rfl ?_
  repeat (first | refine then_normal ?_ | refine c_seq ?_ | refine c_block ?_ | refine inB_normal ?_ | refine c_skip ?_ | refine c_exit ?_ | refine then_exit ?_ | refine inB_same rfl ?_ | refine inB_other rfl ?_ | refine c_ret ?_ | refine then_ret ?_ | refine inB_ret ?_)
  refine c_region ?_
  refine l_neu (n_assign rfl rfl) rfl ?_
  refine l_nil ?_
  repeat (first | refine then_normal ?_ | refine c_seq ?_ | refine c_block ?_ | refine inB_normal ?_ | refine c_skip ?_ | refine c_exit ?_ | refine then_exit ?_ | refine inB_same rfl ?_ | refine inB_other rfl ?_ | refine c_ret ?_ | refine then_ret ?_ | refine inB_ret ?_)
  refine c_region ?_
  refine l_effv (f_adopt 5 _ strC rfl) rfl ?_
  refine l_nil ?_
  repeat (first | refine then_normal ?_ | refine c_seq ?_ | refine c_block ?_ | refine inB_normal ?_ | refine c_skip ?_ | refine c_exit ?_ | refine then_exit ?_ | refine inB_same rfl ?_ | refine inB_other rfl ?_ | refine c_ret ?_ | refine then_ret ?_ | refine inB_ret ?_)
  refine c_region ?_
  refine l_neu (n_assign rfl rfl) rfl ?_
  refine l_nil ?_
  repeat (first | refine then_normal ?_ | refine c_seq ?_ | refine c_block ?_ | refine inB_normal ?_ | refine c_skip ?_ | refine c_exit ?_ | refine then_exit ?_ | refine inB_same rfl ?_ | refine inB_other rfl ?_ | refine c_ret ?_ | refine then_ret ?_ | refine inB_ret ?_)
  refine c_while (X := Nat) (fun i => ([(0, sList Row 3 rowC rows), (1, sInt c), (5, .s (.one (.buf 5 Str 1 strC (colOf (rows.take i) c)))), (6, sInt i)], [(5, .spare (colOf (rows.take i) c).length 1 9)])) (fun i => i ≤ rows.length) (fun i => rows.length - i) 0 (Nat.zero_le _) (Sees.of ⟨⟨_, rfl, by first | exact .same _ | exact .eq (by first | (simp; done) | (simp; omega)) | exact .list _ _ _ _ _ | exact .nil _ _ _ | exact .any _⟩, ⟨_, rfl, by first | exact .same _ | exact .eq (by first | (simp; done) | (simp; omega)) | exact .list _ _ _ _ _ | exact .nil _ _ _ | exact .any _⟩, ⟨_, rfl, by first | exact .same _ | exact .eq (by first | (simp; done) | (simp; omega)) | exact .list _ _ _ _ _ | exact .nil _ _ _ | exact .any _⟩, ⟨_, rfl, by first | exact .same _ | exact .eq (by first | (simp; done) | (simp; omega)) | exact .list _ _ _ _ _ | exact .nil _ _ _ | exact .any _⟩, trivial⟩ ⟨rfl, trivial⟩) ?_
  intro i hi
  dsimp only at hi ⊢
  have hcl := colOf_len (rows.take i) c
  rw [List.length_take] at hcl
  repeat (first | refine then_normal ?_ | refine c_seq ?_ | refine c_block ?_ | refine inB_normal ?_ | refine c_skip ?_ | refine c_exit ?_ | refine then_exit ?_ | refine inB_same rfl ?_ | refine inB_other rfl ?_ | refine c_ret ?_ | refine then_ret ?_ | refine inB_ret ?_)
  refine c_region ?_
  refine l_neu (n_move rfl rfl) rfl ?_
  refine l_neu (n_move rfl rfl) rfl ?_
  first | refine l_neu (n_len rfl (.pure _ _ _ _)) rfl ?_ | refine l_neu (n_len rfl (.buf _ _ _ _ _)) rfl ?_ | refine l_neu (n_len_mut rfl rfl) rfl ?_ | refine l_neu (n_len_mutT rfl rfl) rfl ?_ | refine l_neu (n_len_nil rfl) rfl ?_
  refine l_neu (n_lss rfl rfl) rfl ?_
  refine l_nil ?_
  repeat (first | refine then_normal ?_ | refine c_seq ?_ | refine c_block ?_ | refine inB_normal ?_ | refine c_skip ?_ | refine c_exit ?_ | refine then_exit ?_ | refine inB_same rfl ?_ | refine inB_other rfl ?_ | refine c_ret ?_ | refine then_ret ?_ | refine inB_ret ?_)
  refine c_cond rfl (fun ht => ?_) (fun ht => ?_)
  · have hlt : i < rows.length := by have := of_decide_eq_true ht; omega
    have hv : rows[i]? = some rows[i] := by simp [hlt]
    have hst : colOf (rows.take (i + 1)) c = colOf (rows.take i) c ++ (if visB rows[i] c = true then [rows[i].Text] else []) := by
      unfold colOf
      rw [List.take_add_one, hv, Option.toList_some, List.filter_append, List.map_append]
      congr 1
      by_cases h : visB rows[i] c = true <;> simp [h]
    repeat (first | refine then_normal ?_ | refine c_seq ?_ | refine c_block ?_ | refine inB_normal ?_ | refine c_skip ?_ | refine c_exit ?_ | refine then_exit ?_ | refine inB_same rfl ?_ | refine inB_other rfl ?_ | refine c_ret ?_ | refine then_ret ?_ | refine inB_ret ?_)
    refine c_region ?_
    refine l_neu (n_move rfl rfl) rfl ?_
    refine l_neu (n_move rfl rfl) rfl ?_
    first | refine l_neu (n_indexAddr rfl (.pure _ _ _ _) rfl (by omega) hv) rfl ?_ | refine l_neu (n_indexAddr rfl (.buf _ _ _ _ _) rfl (by omega) hv) rfl ?_ | refine l_neu (n_indexAddr_mut rfl rfl rfl (by omega) (by omega)) rfl ?_ | refine l_neu (n_indexAddr_mutT rfl rfl rfl (by omega) (by omega)) rfl ?_
    first | refine l_neu (n_loads_ref rfl rfl rfl) rfl ?_ | refine l_neu (n_loads_eref rfl rfl) rfl ?_ | refine l_neu (n_loads_mref rfl rfl (List.getElem?_eq_getElem (by omega)) rfl) rfl ?_
    refine l_neu (n_move rfl rfl) rfl ?_
    refine l_call (visible16_ok rows[i] c (hr _ (List.getElem_mem hlt))) rfl rfl rfl ?_
    rintro _ rfl
    refine l_nil ?_
    repeat (first | refine then_normal ?_ | refine c_seq ?_ | refine c_block ?_ | refine inB_normal ?_ | refine c_skip ?_ | refine c_exit ?_ | refine then_exit ?_ | refine inB_same rfl ?_ | refine inB_other rfl ?_ | refine c_ret ?_ | refine then_ret ?_ | refine inB_ret ?_)
    refine c_cond rfl (fun ht => ?_) (fun ht => ?_)
    · rw [ht, if_pos rfl] at hst
      repeat (first | refine then_normal ?_ | refine c_seq ?_ | refine c_block ?_ | refine inB_normal ?_ | refine c_skip ?_ | refine c_exit ?_ | refine then_exit ?_ | refine inB_same rfl ?_ | refine inB_other rfl ?_ | refine c_ret ?_ | refine then_ret ?_ | refine inB_ret ?_)
      refine c_region ?_
      refine l_neu (n_move rfl rfl) rfl ?_
      refine l_neu (n_move rfl rfl) rfl ?_
      refine l_neu (n_move rfl rfl) rfl ?_
      first | refine l_neu (n_indexAddr rfl (.pure _ _ _ _) rfl (by omega) hv) rfl ?_ | refine l_neu (n_indexAddr rfl (.buf _ _ _ _ _) rfl (by omega) hv) rfl ?_ | refine l_neu (n_indexAddr_mut rfl rfl rfl (by omega) (by omega)) rfl ?_ | refine l_neu (n_indexAddr_mutT rfl rfl rfl (by omega) (by omega)) rfl ?_
      first | refine l_neu (n_field_ref rfl) rfl ?_ | refine l_neu (n_field_eref rfl) rfl ?_ | refine l_neu (n_field_mref rfl) rfl ?_
      first | refine l_neu (n_load_eref rfl rfl) rfl ?_ | refine l_neu (n_load_ref rfl rfl rfl) rfl ?_ | refine l_neu (n_load_mref rfl rfl (List.getElem?_eq_getElem (by omega)) rfl) rfl ?_ | refine l_neu (n_load_mrefT1 rfl rfl rfl) rfl ?_
      refine l_neu (n_buildSlice (c := strC) (ys := [_]) (asm_cons rfl rfl rfl rfl asm_nil) rfl rfl rfl) rfl ?_
      first | refine l_effv (e_append rfl rfl rfl (.pure _ _ _ _) (by (simp only [List.length_cons, List.length_nil]; omega)) rfl) rfl ?_ | refine l_effv (e_append rfl rfl rfl (.buf _ _ _ _ _) (by (simp only [List.length_cons, List.length_nil]; omega)) rfl) rfl ?_
      refine l_neu (n_assign rfl rfl) rfl ?_
      refine l_nil ?_
      repeat (first | refine then_normal ?_ | refine c_seq ?_ | refine c_block ?_ | refine inB_normal ?_ | refine c_skip ?_ | refine c_exit ?_ | refine then_exit ?_ | refine inB_same rfl ?_ | refine inB_other rfl ?_ | refine c_ret ?_ | refine then_ret ?_ | refine inB_ret ?_)
      refine c_region ?_
      refine l_neu (n_move rfl rfl) rfl ?_
      refine l_neu (n_add rfl rfl (by omega)) rfl ?_
      refine l_neu (n_assign rfl rfl) rfl ?_
      refine l_nil ?_
      repeat (first | refine then_normal ?_ | refine c_seq ?_ | refine c_block ?_ | refine inB_normal ?_ | refine c_skip ?_ | refine c_exit ?_ | refine then_exit ?_ | refine inB_same rfl ?_ | refine inB_other rfl ?_ | refine c_ret ?_ | refine then_ret ?_ | refine inB_ret ?_)
      refine ⟨i + 1, by omega, by omega, ?_⟩
      rw [hst]
      exact Sees.of ⟨⟨_, rfl, by first | exact .same _ | exact .eq (by first | (simp; done) | (simp; omega)) | exact .list _ _ _ _ _ | exact .nil _ _ _ | exact .any _⟩, ⟨_, rfl, by first | exact .same _ | exact .eq (by first | (simp; done) | (simp; omega)) | exact .list _ _ _ _ _ | exact .nil _ _ _ | exact .any _⟩, ⟨_, rfl, by first | exact .same _ | exact .eq (by first | (simp; done) | (simp; omega)) | exact .list _ _ _ _ _ | exact .nil _ _ _ | exact .any _⟩, ⟨_, rfl, by first | exact .same _ | exact .eq (by first | (simp; done) | (simp; omega)) | exact .list _ _ _ _ _ | exact .nil _ _ _ | exact .any _⟩, trivial⟩ ⟨rfl, trivial⟩
    · rw [ht, if_neg (by decide), List.append_nil] at hst
      repeat (first | refine then_normal ?_ | refine c_seq ?_ | refine c_block ?_ | refine inB_normal ?_ | refine c_skip ?_ | refine c_exit ?_ | refine then_exit ?_ | refine inB_same rfl ?_ | refine inB_other rfl ?_ | refine c_ret ?_ | refine then_ret ?_ | refine inB_ret ?_)
      refine c_region ?_
      refine l_neu (n_move rfl rfl) rfl ?_
      refine l_neu (n_add rfl rfl (by omega)) rfl ?_
      refine l_neu (n_assign rfl rfl) rfl ?_
      refine l_nil ?_
      repeat (first | refine then_normal ?_ | refine c_seq ?_ | refine c_block ?_ | refine inB_normal ?_ | refine c_skip ?_ | refine c_exit ?_ | refine then_exit ?_ | refine inB_same rfl ?_ | refine inB_other rfl ?_ | refine c_ret ?_ | refine then_ret ?_ | refine inB_ret ?_)
      refine ⟨i + 1, by omega, by omega, ?_⟩
      rw [hst]
      exact Sees.of ⟨⟨_, rfl, by first | exact .same _ | exact .eq (by first | (simp; done) | (simp; omega)) | exact .list _ _ _ _ _ | exact .nil _ _ _ | exact .any _⟩, ⟨_, rfl, by first | exact .same _ | exact .eq (by first | (simp; done) | (simp; omega)) | exact .list _ _ _ _ _ | exact .nil _ _ _ | exact .any _⟩, ⟨_, rfl, by first | exact .same _ | exact .eq (by first | (simp; done) | (simp; omega)) | exact .list _ _ _ _ _ | exact .nil _ _ _ | exact .any _⟩, ⟨_, rfl, by first | exact .same _ | exact .eq (by first | (simp; done) | (simp; omega)) | exact .list _ _ _ _ _ | exact .nil _ _ _ | exact .any _⟩, trivial⟩ ⟨rfl, trivial⟩
  · have hi' : i = rows.length := by have := of_decide_eq_false ht; omega
    repeat (first | refine then_normal ?_ | refine c_seq ?_ | refine c_block ?_ | refine inB_normal ?_ | refine c_skip ?_ | refine c_exit ?_ | refine then_exit ?_ | refine inB_same rfl ?_ | refine inB_other rfl ?_ | refine c_ret ?_ | refine then_ret ?_ | refine inB_ret ?_)
    refine c_region ?_
    refine l_neu (n_move rfl rfl) rfl ?_
    refine l_neu (n_assign rfl rfl) rfl ?_
    refine l_nil ?_
    repeat (first | refine then_normal ?_ | refine c_seq ?_ | refine c_block ?_ | refine inB_normal ?_ | refine c_skip ?_ | refine c_exit ?_ | refine then_exit ?_ | refine inB_same rfl ?_ | refine inB_other rfl ?_ | refine c_ret ?_ | refine then_ret ?_ | refine inB_ret ?_)
    exact ret_ret (ret1 rfl rfl rfl) (by rw [hi', List.take_length])

theorem marks16_ok (rows : List Row) (n : Int) (hn : 0 ≤ n ∧ n ≤ 32) (hr : rowsIn rows) : FnOk Try.prog 35 [pRows rows, pInt n] (fun rs => rs = [pBool (marksOk rows n.toNat)]) := by
  refine FnOk.intro Try.func35 (by decide) rfl rfl rfl ?_
  refine c_bound (t := 0) rfl (.pure _ _ _ _) fun hlen => ?_
  repeat (first | refine then_normal ?_ | refine c_seq ?_ | refine c_block ?_ | refine inB_normal ?_ | refine c_skip ?_ | refine c_exit ?_ | refine then_exit ?_ | refine inB_same rfl ?_ | refine inB_other rfl ?_ | refine c_ret ?_ | refine then_ret ?_ | refine inB_ret ?_)
  refine c_region ?_
  refine l_neu (n_assign rfl rfl) rfl ?_
  refine l_nil ?_
  repeat (first | refine then_normal ?_ | refine c_seq ?_ | refine c_block ?_ | refine inB_normal ?_ | refine c_skip ?_ | refine c_exit ?_ | refine then_exit ?_ | refine inB_same rfl ?_ | refine inB_other rfl ?_ | refine c_ret ?_ | refine then_ret ?_ | refine inB_ret ?_)
  refine c_region ?_
  refine l_neu (n_assign rfl rfl) rfl ?_
  refine l_nil ?_
  repeat (first | refine then_normal ?_ | refine c_seq ?_ | refine c_block ?_ | refine inB_normal ?_ | refine c_skip ?_ | refine c_exit ?_ | refine then_exit ?_ | refine inB_same rfl ?_ | refine inB_other rfl ?_ | refine c_ret ?_ | refine then_ret ?_ | refine inB_ret ?_)
  refine c_while (X := Nat) (fun i => ([(0, sList Row 3 rowC rows), (1, sInt n), (5, sInt i)], [])) (fun i => i ≤ rows.length ∧ marksOk rows n.toNat = marksOk (rows.drop i) n.toNat) (fun i => rows.length - i) 0 (by simp) (Sees.of ⟨⟨_, rfl, by first | exact .same _ | exact .eq (by first | (simp; done) | (simp; omega)) | exact .list _ _ _ _ _ | exact .nil _ _ _ | exact .any _⟩, ⟨_, rfl, by first | exact .same _ | exact .eq (by first | (simp; done) | (simp; omega)) | exact .list _ _ _ _ _ | exact .nil _ _ _ | exact .any _⟩, ⟨_, rfl, by first | exact .same _ | exact .eq (by first | (simp; done) | (simp; omega)) | exact .list _ _ _ _ _ | exact .nil _ _ _ | exact .any _⟩, trivial⟩ trivial) ?_
  rintro i ⟨hi, hp⟩
  dsimp only at hi hp ⊢
  repeat (first | refine then_normal ?_ | refine c_seq ?_ | refine c_block ?_ | refine inB_normal ?_ | refine c_skip ?_ | refine c_exit ?_ | refine then_exit ?_ | refine inB_same rfl ?_ | refine inB_other rfl ?_ | refine c_ret ?_ | refine then_ret ?_ | refine inB_ret ?_)
  refine c_region ?_
  refine l_neu (n_move rfl rfl) rfl ?_
  refine l_neu (n_move rfl rfl) rfl ?_
  first | refine l_neu (n_len rfl (.pure _ _ _ _)) rfl ?_ | refine l_neu (n_len rfl (.buf _ _ _ _ _)) rfl ?_ | refine l_neu (n_len_mut rfl rfl) rfl ?_ | refine l_neu (n_len_mutT rfl rfl) rfl ?_ | refine l_neu (n_len_nil rfl) rfl ?_
  refine l_neu (n_lss rfl rfl) rfl ?_
  refine l_nil ?_
  repeat (first | refine then_normal ?_ | refine c_seq ?_ | refine c_block ?_ | refine inB_normal ?_ | refine c_skip ?_ | refine c_exit ?_ | refine then_exit ?_ | refine inB_same rfl ?_ | refine inB_other rfl ?_ | refine c_ret ?_ | refine then_ret ?_ | refine inB_ret ?_)
  refine c_cond rfl (fun ht => ?_) (fun ht => ?_)
  · have hlt : i < rows.length := by have := of_decide_eq_true ht; omega
    have hv : rows[i]? = some rows[i] := by simp [hlt]
    have hm := hr _ (List.getElem_mem hlt)
    rw [List.drop_eq_getElem_cons hlt, marksOk_cons] at hp
    have hmk : markOk n.toNat rows[i] = !(if decide ((IntKind.u64.wrap rows[i].Marks).fdiv (2 ^ min (IntKind.u64.wrap n).toNat IntKind.u64.bits) ≠ 0) = true then true else if rows[i].Lost = true then decide (rows[i].Marks = 0) else false) := by
      rw [u64_id (by omega), u64_id (n := n) (by omega), shr64' _ _ (by omega), markOk]
      by_cases h1 : rows[i].Marks / 2 ^ n.toNat = 0
      · cases h2 : rows[i].Lost <;> simp [h1]
        by_cases h3 : rows[i].Marks = 0 <;> simp [h3]
      · simp [h1]
    repeat (first | refine then_normal ?_ | refine c_seq ?_ | refine c_block ?_ | refine inB_normal ?_ | refine c_skip ?_ | refine c_exit ?_ | refine then_exit ?_ | refine inB_same rfl ?_ | refine inB_other rfl ?_ | refine c_ret ?_ | refine then_ret ?_ | refine inB_ret ?_)
    refine c_region ?_
    refine l_neu (n_move rfl rfl) rfl ?_
    refine l_neu (n_move rfl rfl) rfl ?_
    first | refine l_neu (n_indexAddr rfl (.pure _ _ _ _) rfl (by omega) hv) rfl ?_ | refine l_neu (n_indexAddr rfl (.buf _ _ _ _ _) rfl (by omega) hv) rfl ?_ | refine l_neu (n_indexAddr_mut rfl rfl rfl (by omega) (by omega)) rfl ?_ | refine l_neu (n_indexAddr_mutT rfl rfl rfl (by omega) (by omega)) rfl ?_
    first | refine l_neu (n_field_ref rfl) rfl ?_ | refine l_neu (n_field_eref rfl) rfl ?_ | refine l_neu (n_field_mref rfl) rfl ?_
    first | refine l_neu (n_load_eref rfl rfl) rfl ?_ | refine l_neu (n_load_ref rfl rfl rfl) rfl ?_ | refine l_neu (n_load_mref rfl rfl (List.getElem?_eq_getElem (by omega)) rfl) rfl ?_ | refine l_neu (n_load_mrefT1 rfl rfl rfl) rfl ?_
    refine l_neu (n_convert rfl) rfl ?_
    refine l_neu (n_move rfl rfl) rfl ?_
    refine l_neu (n_convert rfl) rfl ?_
    refine l_neu (n_shr rfl rfl (by (rw [u64_id (by omega)]; omega))) rfl ?_
    refine l_neu (n_neq rfl rfl) rfl ?_
    refine l_neu (n_move rfl rfl) rfl ?_
    refine l_guard rfl rfl rfl rfl (fun hg => by rw [hg]; exact n_move rfl rfl) ?_
    refine l_guard rfl rfl rfl rfl (fun hg => by rw [hg]; exact n_move rfl rfl) ?_
    first | refine l_guard rfl rfl rfl rfl (fun hg => by have hq := hg; (try simp at hq); rw [hg]; exact n_indexAddr rfl (.pure _ _ _ _) rfl (by omega) hv) ?_ | refine l_guard rfl rfl rfl rfl (fun hg => by have hq := hg; (try simp at hq); rw [hg]; exact n_indexAddr rfl (.buf _ _ _ _ _) rfl (by omega) hv) ?_ | refine l_guard rfl rfl rfl rfl (fun hg => by have hq := hg; (try simp at hq); rw [hg]; exact n_indexAddr_mut rfl rfl rfl (by omega) (by omega)) ?_ | refine l_guard rfl rfl rfl rfl (fun hg => by have hq := hg; (try simp at hq); rw [hg]; exact n_indexAddr_mutT rfl rfl rfl (by omega) (by omega)) ?_
    first | refine l_guard rfl rfl rfl rfl (fun hg => by rw [hg]; exact n_field_ref rfl) ?_ | refine l_guard rfl rfl rfl rfl (fun hg => by rw [hg]; exact n_field_eref rfl) ?_ | refine l_guard rfl rfl rfl rfl (fun hg => by rw [hg]; exact n_field_mref rfl) ?_
    first | refine l_guard rfl rfl rfl rfl (fun hg => by rw [hg]; exact n_load_eref rfl rfl) ?_ | refine l_guard rfl rfl rfl rfl (fun hg => by rw [hg]; exact n_load_ref rfl rfl rfl) ?_ | refine l_guard rfl rfl rfl rfl (fun hg => by have hq := hg; (try simp at hq); rw [hg]; exact n_load_mref rfl rfl (List.getElem?_eq_getElem (by omega)) rfl) ?_ | refine l_guard rfl rfl rfl rfl (fun hg => by rw [hg]; exact n_load_mrefT1 rfl rfl rfl) ?_
    refine l_guard rfl rfl rfl rfl (fun hg => by rw [hg]; exact n_move rfl rfl) ?_
    refine l_guardW rfl rfl rfl (.gd (.val _)) rfl (fun hg => by obtain ⟨hg1, hg2⟩ := gd_and hg; (try rw [hg1]); (try rw [hg2]); exact n_move rfl rfl) ?_
    refine l_guardW rfl rfl rfl (.gd (.val _)) rfl (fun hg => by obtain ⟨hg1, hg2⟩ := gd_and hg; (try rw [hg1]); (try rw [hg2]); exact n_move rfl rfl) ?_
    first | refine l_guardW rfl rfl rfl (.gd (.val _)) rfl (fun hg => by have hq := hg; (try simp at hq); obtain ⟨hg1, hg2⟩ := gd_and hg; (try rw [hg1]); (try rw [hg2]); exact n_indexAddr rfl (.pure _ _ _ _) rfl (by omega) hv) ?_ | refine l_guardW rfl rfl rfl (.gd (.val _)) rfl (fun hg => by have hq := hg; (try simp at hq); obtain ⟨hg1, hg2⟩ := gd_and hg; (try rw [hg1]); (try rw [hg2]); exact n_indexAddr rfl (.buf _ _ _ _ _) rfl (by omega) hv) ?_ | refine l_guardW rfl rfl rfl (.gd (.val _)) rfl (fun hg => by have hq := hg; (try simp at hq); obtain ⟨hg1, hg2⟩ := gd_and hg; (try rw [hg1]); (try rw [hg2]); exact n_indexAddr_mut rfl rfl rfl (by omega) (by omega)) ?_ | refine l_guardW rfl rfl rfl (.gd (.val _)) rfl (fun hg => by have hq := hg; (try simp at hq); obtain ⟨hg1, hg2⟩ := gd_and hg; (try rw [hg1]); (try rw [hg2]); exact n_indexAddr_mutT rfl rfl rfl (by omega) (by omega)) ?_
    first | refine l_guardW rfl rfl rfl (.gd (.val _)) rfl (fun hg => by obtain ⟨hg1, hg2⟩ := gd_and hg; (try rw [hg1]); (try rw [hg2]); exact n_field_ref rfl) ?_ | refine l_guardW rfl rfl rfl (.gd (.val _)) rfl (fun hg => by obtain ⟨hg1, hg2⟩ := gd_and hg; (try rw [hg1]); (try rw [hg2]); exact n_field_eref rfl) ?_ | refine l_guardW rfl rfl rfl (.gd (.val _)) rfl (fun hg => by obtain ⟨hg1, hg2⟩ := gd_and hg; (try rw [hg1]); (try rw [hg2]); exact n_field_mref rfl) ?_
    first | refine l_guardW rfl rfl rfl (.gd (.val _)) rfl (fun hg => by obtain ⟨hg1, hg2⟩ := gd_and hg; (try rw [hg1]); (try rw [hg2]); exact n_load_eref rfl rfl) ?_ | refine l_guardW rfl rfl rfl (.gd (.val _)) rfl (fun hg => by obtain ⟨hg1, hg2⟩ := gd_and hg; (try rw [hg1]); (try rw [hg2]); exact n_load_ref rfl rfl rfl) ?_ | refine l_guardW rfl rfl rfl (.gd (.val _)) rfl (fun hg => by have hq := hg; (try simp at hq); obtain ⟨hg1, hg2⟩ := gd_and hg; (try rw [hg1]); (try rw [hg2]); exact n_load_mref rfl rfl (List.getElem?_eq_getElem (by omega)) rfl) ?_ | refine l_guardW rfl rfl rfl (.gd (.val _)) rfl (fun hg => by obtain ⟨hg1, hg2⟩ := gd_and hg; (try rw [hg1]); (try rw [hg2]); exact n_load_mrefT1 rfl rfl rfl) ?_
    refine l_guardW rfl rfl rfl (.gd (.val _)) rfl (fun hg => by obtain ⟨hg1, hg2⟩ := gd_and hg; (try rw [hg1]); (try rw [hg2]); exact n_eql rfl rfl) ?_
    refine l_guard rfl rfl rfl rfl (fun hg => by rw [hg]; exact n_pick_bool rfl (fun h => by first | rfl | (rw [h]; rfl)) (fun h => by first | rfl | (rw [h]; rfl))) ?_
    refine l_neu (n_pick_bool rfl (fun h => by first | rfl | (rw [h]; rfl)) (fun h => by first | rfl | (rw [h]; rfl))) rfl ?_
    refine l_nil ?_
    repeat (first | refine then_normal ?_ | refine c_seq ?_ | refine c_block ?_ | refine inB_normal ?_ | refine c_skip ?_ | refine c_exit ?_ | refine then_exit ?_ | refine inB_same rfl ?_ | refine inB_other rfl ?_ | refine c_ret ?_ | refine then_ret ?_ | refine inB_ret ?_)
    refine c_cond rfl (fun ht => ?_) (fun ht => ?_)
    · rw [hmk, ht] at hp
      repeat (first | refine then_normal ?_ | refine c_seq ?_ | refine c_block ?_ | refine inB_normal ?_ | refine c_skip ?_ | refine c_exit ?_ | refine then_exit ?_ | refine inB_same rfl ?_ | refine inB_other rfl ?_ | refine c_ret ?_ | refine then_ret ?_ | refine inB_ret ?_)
      refine c_region ?_
      refine l_neu (n_assign rfl rfl) rfl ?_
      refine l_nil ?_
      repeat (first | refine then_normal ?_ | refine c_seq ?_ | refine c_block ?_ | refine inB_normal ?_ | refine c_skip ?_ | refine c_exit ?_ | refine then_exit ?_ | refine inB_same rfl ?_ | refine inB_other rfl ?_ | refine c_ret ?_ | refine then_ret ?_ | refine inB_ret ?_)
      exact ret_ret (ret1 rfl rfl rfl) (by rw [hp]; rfl)
    · rw [hmk, ht] at hp
      repeat (first | refine then_normal ?_ | refine c_seq ?_ | refine c_block ?_ | refine inB_normal ?_ | refine c_skip ?_ | refine c_exit ?_ | refine then_exit ?_ | refine inB_same rfl ?_ | refine inB_other rfl ?_ | refine c_ret ?_ | refine then_ret ?_ | refine inB_ret ?_)
      refine c_region ?_
      refine l_neu (n_move rfl rfl) rfl ?_
      refine l_neu (n_add rfl rfl (by omega)) rfl ?_
      refine l_neu (n_assign rfl rfl) rfl ?_
      refine l_nil ?_
      repeat (first | refine then_normal ?_ | refine c_seq ?_ | refine c_block ?_ | refine inB_normal ?_ | refine c_skip ?_ | refine c_exit ?_ | refine then_exit ?_ | refine inB_same rfl ?_ | refine inB_other rfl ?_ | refine c_ret ?_ | refine then_ret ?_ | refine inB_ret ?_)
      exact ⟨i + 1, ⟨by omega, by rw [hp]; rfl⟩, by omega, Sees.of ⟨⟨_, rfl, by first | exact .same _ | exact .eq (by first | (simp; done) | (simp; omega)) | exact .list _ _ _ _ _ | exact .nil _ _ _ | exact .any _⟩, ⟨_, rfl, by first | exact .same _ | exact .eq (by first | (simp; done) | (simp; omega)) | exact .list _ _ _ _ _ | exact .nil _ _ _ | exact .any _⟩, ⟨_, rfl, by first | exact .same _ | exact .eq (by first | (simp; done) | (simp; omega)) | exact .list _ _ _ _ _ | exact .nil _ _ _ | exact .any _⟩, trivial⟩ trivial⟩
  · have hi' : i = rows.length := by have := of_decide_eq_false ht; omega
    subst hi'
    repeat (first | refine then_normal ?_ | refine c_seq ?_ | refine c_block ?_ | refine inB_normal ?_ | refine c_skip ?_ | refine c_exit ?_ | refine then_exit ?_ | refine inB_same rfl ?_ | refine inB_other rfl ?_ | refine c_ret ?_ | refine then_ret ?_ | refine inB_ret ?_)
    refine c_region ?_
    refine l_neu (n_assign rfl rfl) rfl ?_
    refine l_nil ?_
    repeat (first | refine then_normal ?_ | refine c_seq ?_ | refine c_block ?_ | refine inB_normal ?_ | refine c_skip ?_ | refine c_exit ?_ | refine then_exit ?_ | refine inB_same rfl ?_ | refine inB_other rfl ?_ | refine c_ret ?_ | refine then_ret ?_ | refine inB_ret ?_)
    exact ret_ret (ret1 rfl rfl rfl) (by rw [hp]; simp [marksOk])

theorem texts16_ok (rows : List Row) (n : Int) (hn : 0 ≤ n ∧ n ≤ 32) (hr : rowsIn rows) (hl : rows.length ≤ 536870911) (hx : textsLen rows ≤ 536870912) : FnOk Try.prog 36 [pRows rows, pInt n] (fun rs => rs = [pBool (textsOk rows n.toNat)]) := by
  obtain ⟨n, rfl⟩ : ∃ m : Nat, n = m := ⟨n.toNat, by omega⟩
  rw [Int.toNat_natCast]
  refine FnOk.intro Try.func36 (by decide) rfl rfl rfl ?_
  repeat (first | refine then_normal ?_ | refine c_seq ?_ | refine c_block ?_ | refine inB_normal ?_ | refine c_skip ?_ | refine c_exit ?_ | refine then_exit ?_ | refine inB_same rfl ?_ | refine inB_other rfl ?_ | refine c_ret ?_ | refine then_ret ?_ | refine inB_ret ?_)
  refine c_region ?_
  refine l_neu (n_assign rfl rfl) rfl ?_
  refine l_nil ?_
  repeat (first | refine then_normal ?_ | refine c_seq ?_ | refine c_block ?_ | refine inB_normal ?_ | refine c_skip ?_ | refine c_exit ?_ | refine then_exit ?_ | refine inB_same rfl ?_ | refine inB_other rfl ?_ | refine c_ret ?_ | refine then_ret ?_ | refine inB_ret ?_)
  refine c_region ?_
  refine l_neu (n_assign rfl rfl) rfl ?_
  refine l_nil ?_
  repeat (first | refine then_normal ?_ | refine c_seq ?_ | refine c_block ?_ | refine inB_normal ?_ | refine c_skip ?_ | refine c_exit ?_ | refine then_exit ?_ | refine inB_same rfl ?_ | refine inB_other rfl ?_ | refine c_ret ?_ | refine then_ret ?_ | refine inB_ret ?_)
  refine c_while (X := Nat) (fun i => ([(0, sList Row 3 rowC rows), (1, sInt n), (5, sInt i)], [])) (fun i => i ≤ rows.length ∧ rows.all (fun r => lineOk r.Text) = (rows.drop i).all (fun r => lineOk r.Text)) (fun i => rows.length - i) 0 (by simp) (Sees.of ⟨⟨_, rfl, by first | exact .same _ | exact .eq (by first | (simp; done) | (simp; omega)) | exact .list _ _ _ _ _ | exact .nil _ _ _ | exact .any _⟩, ⟨_, rfl, by first | exact .same _ | exact .eq (by first | (simp; done) | (simp; omega)) | exact .list _ _ _ _ _ | exact .nil _ _ _ | exact .any _⟩, ⟨_, rfl, by first | exact .same _ | exact .eq (by first | (simp; done) | (simp; omega)) | exact .list _ _ _ _ _ | exact .nil _ _ _ | exact .any _⟩, trivial⟩ trivial) ?_
  rintro i ⟨hi, hp⟩
  dsimp only at hi hp ⊢
  repeat (first | refine then_normal ?_ | refine c_seq ?_ | refine c_block ?_ | refine inB_normal ?_ | refine c_skip ?_ | refine c_exit ?_ | refine then_exit ?_ | refine inB_same rfl ?_ | refine inB_other rfl ?_ | refine c_ret ?_ | refine then_ret ?_ | refine inB_ret ?_)
  refine c_region ?_
  refine l_neu (n_move rfl rfl) rfl ?_
  refine l_neu (n_move rfl rfl) rfl ?_
  first | refine l_neu (n_len rfl (.pure _ _ _ _)) rfl ?_ | refine l_neu (n_len rfl (.buf _ _ _ _ _)) rfl ?_ | refine l_neu (n_len_mut rfl rfl) rfl ?_ | refine l_neu (n_len_mutT rfl rfl) rfl ?_ | refine l_neu (n_len_nil rfl) rfl ?_
  refine l_neu (n_lss rfl rfl) rfl ?_
  refine l_nil ?_
  repeat (first | refine then_normal ?_ | refine c_seq ?_ | refine c_block ?_ | refine inB_normal ?_ | refine c_skip ?_ | refine c_exit ?_ | refine then_exit ?_ | refine inB_same rfl ?_ | refine inB_other rfl ?_ | refine c_ret ?_ | refine then_ret ?_ | refine inB_ret ?_)
  refine c_cond rfl (fun ht => ?_) (fun ht => ?_)
  · have hlt : i < rows.length := by have := of_decide_eq_true ht; omega
    have hv : rows[i]? = some rows[i] := by simp [hlt]
    have htl := text_len rows _ (List.getElem_mem hlt)
    rw [List.drop_eq_getElem_cons hlt, List.all_cons] at hp
    repeat (first | refine then_normal ?_ | refine c_seq ?_ | refine c_block ?_ | refine inB_normal ?_ | refine c_skip ?_ | refine c_exit ?_ | refine then_exit ?_ | refine inB_same rfl ?_ | refine inB_other rfl ?_ | refine c_ret ?_ | refine then_ret ?_ | refine inB_ret ?_)
    refine c_region ?_
    refine l_neu (n_move rfl rfl) rfl ?_
    refine l_neu (n_move rfl rfl) rfl ?_
    first | refine l_neu (n_indexAddr rfl (.pure _ _ _ _) rfl (by omega) hv) rfl ?_ | refine l_neu (n_indexAddr rfl (.buf _ _ _ _ _) rfl (by omega) hv) rfl ?_ | refine l_neu (n_indexAddr_mut rfl rfl rfl (by omega) (by omega)) rfl ?_ | refine l_neu (n_indexAddr_mutT rfl rfl rfl (by omega) (by omega)) rfl ?_
    first | refine l_neu (n_field_ref rfl) rfl ?_ | refine l_neu (n_field_eref rfl) rfl ?_ | refine l_neu (n_field_mref rfl) rfl ?_
    first | refine l_neu (n_load_eref rfl rfl) rfl ?_ | refine l_neu (n_load_ref rfl rfl rfl) rfl ?_ | refine l_neu (n_load_mref rfl rfl (List.getElem?_eq_getElem (by omega)) rfl) rfl ?_ | refine l_neu (n_load_mrefT1 rfl rfl rfl) rfl ?_
    refine l_call (line_ok rows[i].Text (by omega)) rfl rfl rfl ?_
    rintro _ rfl
    refine l_neu (n_not rfl) rfl ?_
    refine l_nil ?_
    repeat (first | refine then_normal ?_ | refine c_seq ?_ | refine c_block ?_ | refine inB_normal ?_ | refine c_skip ?_ | refine c_exit ?_ | refine then_exit ?_ | refine inB_same rfl ?_ | refine inB_other rfl ?_ | refine c_ret ?_ | refine then_ret ?_ | refine inB_ret ?_)
    refine c_cond rfl (fun ht => ?_) (fun ht => ?_)
    · have h : lineOk rows[i].Text = false := by simpa using ht
      rw [h] at hp
      repeat (first | refine then_normal ?_ | refine c_seq ?_ | refine c_block ?_ | refine inB_normal ?_ | refine c_skip ?_ | refine c_exit ?_ | refine then_exit ?_ | refine inB_same rfl ?_ | refine inB_other rfl ?_ | refine c_ret ?_ | refine then_ret ?_ | refine inB_ret ?_)
      refine c_region ?_
      refine l_neu (n_assign rfl rfl) rfl ?_
      refine l_nil ?_
      repeat (first | refine then_normal ?_ | refine c_seq ?_ | refine c_block ?_ | refine inB_normal ?_ | refine c_skip ?_ | refine c_exit ?_ | refine then_exit ?_ | refine inB_same rfl ?_ | refine inB_other rfl ?_ | refine c_ret ?_ | refine then_ret ?_ | refine inB_ret ?_)
      exact ret_ret (ret1 rfl rfl rfl) (by rw [textsOk, hp]; rfl)
    · have h : lineOk rows[i].Text = true := by simpa using ht
      rw [h] at hp
      repeat (first | refine then_normal ?_ | refine c_seq ?_ | refine c_block ?_ | refine inB_normal ?_ | refine c_skip ?_ | refine c_exit ?_ | refine then_exit ?_ | refine inB_same rfl ?_ | refine inB_other rfl ?_ | refine c_ret ?_ | refine then_ret ?_ | refine inB_ret ?_)
      refine c_region ?_
      refine l_neu (n_move rfl rfl) rfl ?_
      refine l_neu (n_add rfl rfl (by omega)) rfl ?_
      refine l_neu (n_assign rfl rfl) rfl ?_
      refine l_nil ?_
      repeat (first | refine then_normal ?_ | refine c_seq ?_ | refine c_block ?_ | refine inB_normal ?_ | refine c_skip ?_ | refine c_exit ?_ | refine then_exit ?_ | refine inB_same rfl ?_ | refine inB_other rfl ?_ | refine c_ret ?_ | refine then_ret ?_ | refine inB_ret ?_)
      exact ⟨i + 1, ⟨by omega, by rw [hp]; rfl⟩, by omega, Sees.of ⟨⟨_, rfl, by first | exact .same _ | exact .eq (by first | (simp; done) | (simp; omega)) | exact .list _ _ _ _ _ | exact .nil _ _ _ | exact .any _⟩, ⟨_, rfl, by first | exact .same _ | exact .eq (by first | (simp; done) | (simp; omega)) | exact .list _ _ _ _ _ | exact .nil _ _ _ | exact .any _⟩, ⟨_, rfl, by first | exact .same _ | exact .eq (by first | (simp; done) | (simp; omega)) | exact .list _ _ _ _ _ | exact .nil _ _ _ | exact .any _⟩, trivial⟩ trivial⟩
  · have hi' : i = rows.length := by have := of_decide_eq_false ht; omega
    rw [hi', List.drop_eq_nil_of_le (Nat.le_refl _), List.all_nil] at hp
    repeat (first | refine then_normal ?_ | refine c_seq ?_ | refine c_block ?_ | refine inB_normal ?_ | refine c_skip ?_ | refine c_exit ?_ | refine then_exit ?_ | refine inB_same rfl ?_ | refine inB_other rfl ?_ | refine c_ret ?_ | refine then_ret ?_ | refine inB_ret ?_)
    refine c_region ?_
    refine l_neu (n_assign rfl rfl) rfl ?_
    refine l_nil ?_
    repeat (first | refine then_normal ?_ | refine c_seq ?_ | refine c_block ?_ | refine inB_normal ?_ | refine c_skip ?_ | refine c_exit ?_ | refine then_exit ?_ | refine inB_same rfl ?_ | refine inB_other rfl ?_ | refine c_ret ?_ | refine then_ret ?_ | refine inB_ret ?_)
    refine c_while (X := Nat) (fun k => ([(0, sList Row 3 rowC rows), (1, sInt n), (6, sInt ((k : Int) - 1))], [])) (fun k => k ≤ n + 1 ∧ (List.range (n + 1)).all (fun k => listOk (colOf rows ((k : Int) - 1))) = ((List.range (n + 1)).drop k).all (fun k => listOk (colOf rows ((k : Int) - 1)))) (fun k => n + 1 - k) 0 (by simp) (Sees.of ⟨⟨_, rfl, by first | exact .same _ | exact .eq (by first | (simp; done) | (simp; omega)) | exact .list _ _ _ _ _ | exact .nil _ _ _ | exact .any _⟩, ⟨_, rfl, by first | exact .same _ | exact .eq (by first | (simp; done) | (simp; omega)) | exact .list _ _ _ _ _ | exact .nil _ _ _ | exact .any _⟩, ⟨_, rfl, by first | exact .same _ | exact .eq (by first | (simp; done) | (simp; omega)) | exact .list _ _ _ _ _ | exact .nil _ _ _ | exact .any _⟩, trivial⟩ trivial) ?_
    rintro k ⟨hk, hq⟩
    dsimp only at hk hq ⊢
    repeat (first | refine then_normal ?_ | refine c_seq ?_ | refine c_block ?_ | refine inB_normal ?_ | refine c_skip ?_ | refine c_exit ?_ | refine then_exit ?_ | refine inB_same rfl ?_ | refine inB_other rfl ?_ | refine c_ret ?_ | refine then_ret ?_ | refine inB_ret ?_)
    refine c_region ?_
    refine l_neu (n_move rfl rfl) rfl ?_
    refine l_neu (n_move rfl rfl) rfl ?_
    refine l_neu (n_lss rfl rfl) rfl ?_
    refine l_nil ?_
    repeat (first | refine then_normal ?_ | refine c_seq ?_ | refine c_block ?_ | refine inB_normal ?_ | refine c_skip ?_ | refine c_exit ?_ | refine then_exit ?_ | refine inB_same rfl ?_ | refine inB_other rfl ?_ | refine c_ret ?_ | refine then_ret ?_ | refine inB_ret ?_)
    refine c_cond rfl (fun ht => ?_) (fun ht => ?_)
    · have hlt : k < n + 1 := by have := of_decide_eq_true ht; omega
      have hfl := colOf_flat rows ((k : Int) - 1)
      rw [List.drop_eq_getElem_cons (by simpa using hlt), List.all_cons, List.getElem_range] at hq
      repeat (first | refine then_normal ?_ | refine c_seq ?_ | refine c_block ?_ | refine inB_normal ?_ | refine c_skip ?_ | refine c_exit ?_ | refine then_exit ?_ | refine inB_same rfl ?_ | refine inB_other rfl ?_ | refine c_ret ?_ | refine then_ret ?_ | refine inB_ret ?_)
      refine c_region ?_
      refine l_neu (n_move rfl rfl) rfl ?_
      refine l_neu (n_move rfl rfl) rfl ?_
      refine l_call (column16_ok rows _ hr hl) rfl rfl rfl ?_
      rintro _ rfl
      refine l_call (list_ok _ (fun s hs => by obtain ⟨r, hr1, rfl⟩ := colOf_mem rows _ s hs; have := text_len rows r hr1; omega)) rfl rfl rfl ?_
      rintro _ rfl
      refine l_neu (n_not rfl) rfl ?_
      refine l_nil ?_
      repeat (first | refine then_normal ?_ | refine c_seq ?_ | refine c_block ?_ | refine inB_normal ?_ | refine c_skip ?_ | refine c_exit ?_ | refine then_exit ?_ | refine inB_same rfl ?_ | refine inB_other rfl ?_ | refine c_ret ?_ | refine then_ret ?_ | refine inB_ret ?_)
      refine c_cond rfl (fun ht => ?_) (fun ht => ?_)
      · have h : listOk (colOf rows ((k : Int) - 1)) = false := by simpa using ht
        rw [h] at hq
        repeat (first | refine then_normal ?_ | refine c_seq ?_ | refine c_block ?_ | refine inB_normal ?_ | refine c_skip ?_ | refine c_exit ?_ | refine then_exit ?_ | refine inB_same rfl ?_ | refine inB_other rfl ?_ | refine c_ret ?_ | refine then_ret ?_ | refine inB_ret ?_)
        refine c_region ?_
        refine l_neu (n_assign rfl rfl) rfl ?_
        refine l_nil ?_
        repeat (first | refine then_normal ?_ | refine c_seq ?_ | refine c_block ?_ | refine inB_normal ?_ | refine c_skip ?_ | refine c_exit ?_ | refine then_exit ?_ | refine inB_same rfl ?_ | refine inB_other rfl ?_ | refine c_ret ?_ | refine then_ret ?_ | refine inB_ret ?_)
        exact ret_ret (ret1 rfl rfl rfl) (by rw [textsOk, hp, hq]; rfl)
      · have h : listOk (colOf rows ((k : Int) - 1)) = true := by simpa using ht
        rw [h] at hq
        repeat (first | refine then_normal ?_ | refine c_seq ?_ | refine c_block ?_ | refine inB_normal ?_ | refine c_skip ?_ | refine c_exit ?_ | refine then_exit ?_ | refine inB_same rfl ?_ | refine inB_other rfl ?_ | refine c_ret ?_ | refine then_ret ?_ | refine inB_ret ?_)
        refine c_region ?_
        refine l_neu (n_move rfl rfl) rfl ?_
        refine l_neu (n_add rfl rfl (by omega)) rfl ?_
        refine l_neu (n_assign rfl rfl) rfl ?_
        refine l_nil ?_
        repeat (first | refine then_normal ?_ | refine c_seq ?_ | refine c_block ?_ | refine inB_normal ?_ | refine c_skip ?_ | refine c_exit ?_ | refine then_exit ?_ | refine inB_same rfl ?_ | refine inB_other rfl ?_ | refine c_ret ?_ | refine then_ret ?_ | refine inB_ret ?_)
        exact ⟨k + 1, ⟨by omega, by rw [hq]; rfl⟩, by omega, Sees.of ⟨⟨_, rfl, by first | exact .same _ | exact .eq (by first | (simp; done) | (simp; omega)) | exact .list _ _ _ _ _ | exact .nil _ _ _ | exact .any _⟩, ⟨_, rfl, by first | exact .same _ | exact .eq (by first | (simp; done) | (simp; omega)) | exact .list _ _ _ _ _ | exact .nil _ _ _ | exact .any _⟩, ⟨_, rfl, by first | exact .same _ | exact .eq (by first | (simp; done) | (simp; omega)) | exact .list _ _ _ _ _ | exact .nil _ _ _ | exact .any _⟩, trivial⟩ trivial⟩
    · have hk' : k = n + 1 := by have := of_decide_eq_false ht; omega
      rw [hk', List.drop_eq_nil_of_le (by simp), List.all_nil] at hq
      repeat (first | refine then_normal ?_ | refine c_seq ?_ | refine c_block ?_ | refine inB_normal ?_ | refine c_skip ?_ | refine c_exit ?_ | refine then_exit ?_ | refine inB_same rfl ?_ | refine inB_other rfl ?_ | refine c_ret ?_ | refine then_ret ?_ | refine inB_ret ?_)
      refine c_region ?_
      refine l_neu (n_assign rfl rfl) rfl ?_
      refine l_nil ?_
      repeat (first | refine then_normal ?_ | refine c_seq ?_ | refine c_block ?_ | refine inB_normal ?_ | refine c_skip ?_ | refine c_exit ?_ | refine then_exit ?_ | refine inB_same rfl ?_ | refine inB_other rfl ?_ | refine c_ret ?_ | refine then_ret ?_ | refine inB_ret ?_)
      exact ret_ret (ret1 rfl rfl rfl) (by rw [textsOk, hp, hq]; rfl)

theorem check16_ok (t : Table) (hr : rowsIn t.Rows) (hl : t.Rows.length ≤ 536870911) (hx : textsLen t.Rows ≤ 536870912) : FnOk Try.prog 20 [pTable t] (fun rs => rs = [pInt (check16 t)]) := by
  refine FnOk.intro Try.func20 (by decide) rfl rfl rfl ?_
  repeat (first | refine then_normal ?_ | refine c_seq ?_ | refine c_block ?_ | refine inB_normal ?_ | refine c_skip ?_ | refine c_exit ?_ | refine then_exit ?_ | refine inB_same rfl ?_ | refine inB_other rfl ?_ | refine c_ret ?_ | refine then_ret ?_ | refine inB_ret ?_)
  refine c_region ?_
  refine l_effv (f_box 1 rfl rfl rfl) rfl ?_
  refine l_neu (n_assign rfl rfl) rfl ?_
  refine l_nil ?_
  repeat (first | refine then_normal ?_ | refine c_seq ?_ | refine c_block ?_ | refine inB_normal ?_ | refine c_skip ?_ | refine c_exit ?_ | refine then_exit ?_ | refine inB_same rfl ?_ | refine inB_other rfl ?_ | refine c_ret ?_ | refine then_ret ?_ | refine inB_ret ?_)
  refine c_region ?_
  first | refine l_neu (n_field_ref rfl) rfl ?_ | refine l_neu (n_field_eref rfl) rfl ?_ | refine l_neu (n_field_mref rfl) rfl ?_
  first | refine l_neu (n_load_eref rfl rfl) rfl ?_ | refine l_neu (n_load_ref rfl rfl rfl) rfl ?_ | refine l_neu (n_load_mref rfl rfl (List.getElem?_eq_getElem (by omega)) rfl) rfl ?_ | refine l_neu (n_load_mrefT1 rfl rfl rfl) rfl ?_
  refine l_neu (n_lss rfl rfl) rfl ?_
  refine l_neu (n_move rfl rfl) rfl ?_
  first | refine l_guard rfl rfl rfl rfl (fun hg => by rw [hg]; exact n_field_ref rfl) ?_ | refine l_guard rfl rfl rfl rfl (fun hg => by rw [hg]; exact n_field_eref rfl) ?_ | refine l_guard rfl rfl rfl rfl (fun hg => by rw [hg]; exact n_field_mref rfl) ?_
  first | refine l_guard rfl rfl rfl rfl (fun hg => by rw [hg]; exact n_load_eref rfl rfl) ?_ | refine l_guard rfl rfl rfl rfl (fun hg => by rw [hg]; exact n_load_ref rfl rfl rfl) ?_ | refine l_guard rfl rfl rfl rfl (fun hg => by have hq := hg; (try simp at hq); rw [hg]; exact n_load_mref rfl rfl (List.getElem?_eq_getElem (by omega)) rfl) ?_ | refine l_guard rfl rfl rfl rfl (fun hg => by rw [hg]; exact n_load_mrefT1 rfl rfl rfl) ?_
  refine l_guard rfl rfl rfl rfl (fun hg => by rw [hg]; exact n_gtr rfl rfl) ?_
  refine l_neu (n_pick_bool rfl (fun h => by first | rfl | (rw [h]; rfl)) (fun h => by first | rfl | (rw [h]; rfl))) rfl ?_
  refine l_neu (n_assign rfl rfl) rfl ?_
  refine l_nil ?_
  repeat (first | refine then_normal ?_ | refine c_seq ?_ | refine c_block ?_ | refine inB_normal ?_ | refine c_skip ?_ | refine c_exit ?_ | refine then_exit ?_ | refine inB_same rfl ?_ | refine inB_other rfl ?_ | refine c_ret ?_ | refine then_ret ?_ | refine inB_ret ?_)
  refine c_cond rfl (fun ht => ?_) (fun ht => ?_)
  · have h := of_decide_eq_true (or_pick.symm.trans ht)
    repeat (first | refine then_normal ?_ | refine c_seq ?_ | refine c_block ?_ | refine inB_normal ?_ | refine c_skip ?_ | refine c_exit ?_ | refine then_exit ?_ | refine inB_same rfl ?_ | refine inB_other rfl ?_ | refine c_ret ?_ | refine then_ret ?_ | refine inB_ret ?_)
    refine c_region ?_
    refine l_neu (n_assign rfl rfl) rfl ?_
    refine l_nil ?_
    repeat (first | refine then_normal ?_ | refine c_seq ?_ | refine c_block ?_ | refine inB_normal ?_ | refine c_skip ?_ | refine c_exit ?_ | refine then_exit ?_ | refine inB_same rfl ?_ | refine inB_other rfl ?_ | refine c_ret ?_ | refine then_ret ?_ | refine inB_ret ?_)
    exact ret_ret (ret1 rfl rfl rfl) (by rw [check16, if_pos h])
  · have h := of_decide_eq_false (or_pick.symm.trans ht)
    repeat (first | refine then_normal ?_ | refine c_seq ?_ | refine c_block ?_ | refine inB_normal ?_ | refine c_skip ?_ | refine c_exit ?_ | refine then_exit ?_ | refine inB_same rfl ?_ | refine inB_other rfl ?_ | refine c_ret ?_ | refine then_ret ?_ | refine inB_ret ?_)
    refine c_region ?_
    first | refine l_neu (n_field_ref rfl) rfl ?_ | refine l_neu (n_field_eref rfl) rfl ?_ | refine l_neu (n_field_mref rfl) rfl ?_
    first | refine l_neu (n_load_eref rfl rfl) rfl ?_ | refine l_neu (n_load_ref rfl rfl rfl) rfl ?_ | refine l_neu (n_load_mref rfl rfl (List.getElem?_eq_getElem (by omega)) rfl) rfl ?_ | refine l_neu (n_load_mrefT1 rfl rfl rfl) rfl ?_
    first | refine l_neu (n_field_ref rfl) rfl ?_ | refine l_neu (n_field_eref rfl) rfl ?_ | refine l_neu (n_field_mref rfl) rfl ?_
    first | refine l_neu (n_load_eref rfl rfl) rfl ?_ | refine l_neu (n_load_ref rfl rfl rfl) rfl ?_ | refine l_neu (n_load_mref rfl rfl (List.getElem?_eq_getElem (by omega)) rfl) rfl ?_ | refine l_neu (n_load_mrefT1 rfl rfl rfl) rfl ?_
    refine l_call (marks16_ok t.Rows t.Parents (by omega) hr) rfl rfl rfl ?_
    rintro _ rfl
    refine l_neu (n_not rfl) rfl ?_
    refine l_neu (n_assign rfl rfl) rfl ?_
    refine l_nil ?_
    repeat (first | refine then_normal ?_ | refine c_seq ?_ | refine c_block ?_ | refine inB_normal ?_ | refine c_skip ?_ | refine c_exit ?_ | refine then_exit ?_ | refine inB_same rfl ?_ | refine inB_other rfl ?_ | refine c_ret ?_ | refine then_ret ?_ | refine inB_ret ?_)
    refine c_cond rfl (fun ht => ?_) (fun ht => ?_)
    · have h2 : marksOk t.Rows t.Parents.toNat = false := by simpa using ht
      repeat (first | refine then_normal ?_ | refine c_seq ?_ | refine c_block ?_ | refine inB_normal ?_ | refine c_skip ?_ | refine c_exit ?_ | refine then_exit ?_ | refine inB_same rfl ?_ | refine inB_other rfl ?_ | refine c_ret ?_ | refine then_ret ?_ | refine inB_ret ?_)
      refine c_region ?_
      refine l_neu (n_assign rfl rfl) rfl ?_
      refine l_nil ?_
      repeat (first | refine then_normal ?_ | refine c_seq ?_ | refine c_block ?_ | refine inB_normal ?_ | refine c_skip ?_ | refine c_exit ?_ | refine then_exit ?_ | refine inB_same rfl ?_ | refine inB_other rfl ?_ | refine c_ret ?_ | refine then_ret ?_ | refine inB_ret ?_)
      exact ret_ret (ret1 rfl rfl rfl) (by rw [check16, if_neg h, if_pos h2])
    · have h2 : marksOk t.Rows t.Parents.toNat = true := by simpa using ht
      repeat (first | refine then_normal ?_ | refine c_seq ?_ | refine c_block ?_ | refine inB_normal ?_ | refine c_skip ?_ | refine c_exit ?_ | refine then_exit ?_ | refine inB_same rfl ?_ | refine inB_other rfl ?_ | refine c_ret ?_ | refine then_ret ?_ | refine inB_ret ?_)
      refine c_region ?_
      first | refine l_neu (n_field_ref rfl) rfl ?_ | refine l_neu (n_field_eref rfl) rfl ?_ | refine l_neu (n_field_mref rfl) rfl ?_
      first | refine l_neu (n_load_eref rfl rfl) rfl ?_ | refine l_neu (n_load_ref rfl rfl rfl) rfl ?_ | refine l_neu (n_load_mref rfl rfl (List.getElem?_eq_getElem (by omega)) rfl) rfl ?_ | refine l_neu (n_load_mrefT1 rfl rfl rfl) rfl ?_
      first | refine l_neu (n_field_ref rfl) rfl ?_ | refine l_neu (n_field_eref rfl) rfl ?_ | refine l_neu (n_field_mref rfl) rfl ?_
      first | refine l_neu (n_load_eref rfl rfl) rfl ?_ | refine l_neu (n_load_ref rfl rfl rfl) rfl ?_ | refine l_neu (n_load_mref rfl rfl (List.getElem?_eq_getElem (by omega)) rfl) rfl ?_ | refine l_neu (n_load_mrefT1 rfl rfl rfl) rfl ?_
      refine l_call (texts16_ok t.Rows t.Parents (by omega) hr hl hx) rfl rfl rfl ?_
      rintro _ rfl
      refine l_neu (n_not rfl) rfl ?_
      refine l_neu (n_assign rfl rfl) rfl ?_
      refine l_nil ?_
      repeat (first | refine then_normal ?_ | refine c_seq ?_ | refine c_block ?_ | refine inB_normal ?_ | refine c_skip ?_ | refine c_exit ?_ | refine then_exit ?_ | refine inB_same rfl ?_ | refine inB_other rfl ?_ | refine c_ret ?_ | refine then_ret ?_ | refine inB_ret ?_)
      refine c_cond rfl (fun ht => ?_) (fun ht => ?_)
      · have h3 : textsOk t.Rows t.Parents.toNat = false := by simpa using ht
        repeat (first | refine then_normal ?_ | refine c_seq ?_ | refine c_block ?_ | refine inB_normal ?_ | refine c_skip ?_ | refine c_exit ?_ | refine then_exit ?_ | refine inB_same rfl ?_ | refine inB_other rfl ?_ | refine c_ret ?_ | refine then_ret ?_ | refine inB_ret ?_)
        refine c_region ?_
        refine l_neu (n_assign rfl rfl) rfl ?_
        refine l_nil ?_
        repeat (first | refine then_normal ?_ | refine c_seq ?_ | refine c_block ?_ | refine inB_normal ?_ | refine c_skip ?_ | refine c_exit ?_ | refine then_exit ?_ | refine inB_same rfl ?_ | refine inB_other rfl ?_ | refine c_ret ?_ | refine then_ret ?_ | refine inB_ret ?_)
        exact ret_ret (ret1 rfl rfl rfl) (by rw [check16, if_neg h, if_neg (by simp [h2]), if_pos h3])
      · have h3 : textsOk t.Rows t.Parents.toNat = true := by simpa using ht
        repeat (first | refine then_normal ?_ | refine c_seq ?_ | refine c_block ?_ | refine inB_normal ?_ | refine c_skip ?_ | refine c_exit ?_ | refine then_exit ?_ | refine inB_same rfl ?_ | refine inB_other rfl ?_ | refine c_ret ?_ | refine then_ret ?_ | refine inB_ret ?_)
        refine c_region ?_
        refine l_neu (n_assign rfl rfl) rfl ?_
        refine l_nil ?_
        repeat (first | refine then_normal ?_ | refine c_seq ?_ | refine c_block ?_ | refine inB_normal ?_ | refine c_skip ?_ | refine c_exit ?_ | refine then_exit ?_ | refine inB_same rfl ?_ | refine inB_other rfl ?_ | refine c_ret ?_ | refine then_ret ?_ | refine inB_ret ?_)
        exact ret_ret (ret1 rfl rfl rfl) (by rw [check16, if_neg h, if_neg (by simp [h2]), if_neg (by simp [h3])])

theorem column20_ok (t : Table) (c : Int) (hr : rowsIn t.Rows) (hl : t.Rows.length ≤ 536870911) (hx : textsLen t.Rows ≤ 536870912) : FnOk Try.prog 8 [pTable t, pInt c] (fun rs => rs = [pStr (column20 t c).1, pInt (column20 t c).2]) := by
  refine FnOk.intro Try.func8 (by decide) rfl rfl rfl ?_
  repeat (first | refine then_normal ?_ | refine c_seq ?_ | refine c_block ?_ | refine inB_normal ?_ | refine c_skip ?_ | refine c_exit ?_ | refine then_exit ?_ | refine inB_same rfl ?_ | refine inB_other rfl ?_ | refine c_ret ?_ | refine then_ret ?_ | refine inB_ret ?_)
  refine c_region ?_
  refine l_effv (f_box 2 rfl rfl rfl) rfl ?_
  refine l_neu (n_assign rfl rfl) rfl ?_
  refine l_neu (n_assign rfl rfl) rfl ?_
  refine l_nil ?_
  repeat (first | refine then_normal ?_ | refine c_seq ?_ | refine c_block ?_ | refine inB_normal ?_ | refine c_skip ?_ | refine c_exit ?_ | refine then_exit ?_ | refine inB_same rfl ?_ | refine inB_other rfl ?_ | refine c_ret ?_ | refine then_ret ?_ | refine inB_ret ?_)
  refine c_region ?_
  first | refine l_neu (n_loads_ref rfl rfl rfl) rfl ?_ | refine l_neu (n_loads_eref rfl rfl) rfl ?_ | refine l_neu (n_loads_mref rfl rfl (List.getElem?_eq_getElem (by omega)) rfl) rfl ?_
  refine l_call (check16_ok t hr hl hx) rfl rfl rfl ?_
  rintro _ rfl
  refine l_neu (n_assign rfl rfl) rfl ?_
  refine l_nil ?_
  repeat (first | refine then_normal ?_ | refine c_seq ?_ | refine c_block ?_ | refine inB_normal ?_ | refine c_skip ?_ | refine c_exit ?_ | refine then_exit ?_ | refine inB_same rfl ?_ | refine inB_other rfl ?_ | refine c_ret ?_ | refine then_ret ?_ | refine inB_ret ?_)
  refine c_region ?_
  refine l_neu (n_move rfl rfl) rfl ?_
  refine l_neu (n_neq rfl rfl) rfl ?_
  refine l_nil ?_
  repeat (first | refine then_normal ?_ | refine c_seq ?_ | refine c_block ?_ | refine inB_normal ?_ | refine c_skip ?_ | refine c_exit ?_ | refine then_exit ?_ | refine inB_same rfl ?_ | refine inB_other rfl ?_ | refine c_ret ?_ | refine then_ret ?_ | refine inB_ret ?_)
  refine c_cond rfl (fun ht => ?_) (fun ht => ?_)
  · have h := of_decide_eq_true ht
    repeat (first | refine then_normal ?_ | refine c_seq ?_ | refine c_block ?_ | refine inB_normal ?_ | refine c_skip ?_ | refine c_exit ?_ | refine then_exit ?_ | refine inB_same rfl ?_ | refine inB_other rfl ?_ | refine c_ret ?_ | refine then_ret ?_ | refine inB_ret ?_)
    refine c_region ?_
    refine l_neu (n_move rfl rfl) rfl ?_
    refine l_neu (n_assign rfl rfl) rfl ?_
    refine l_neu (n_assign rfl rfl) rfl ?_
    refine l_nil ?_
    repeat (first | refine then_normal ?_ | refine c_seq ?_ | refine c_block ?_ | refine inB_normal ?_ | refine c_skip ?_ | refine c_exit ?_ | refine then_exit ?_ | refine inB_same rfl ?_ | refine inB_other rfl ?_ | refine c_ret ?_ | refine then_ret ?_ | refine inB_ret ?_)
    exact ret_ret (ret2 rfl rfl rfl rfl rfl) (by rw [column20, if_pos h])
  · have h := of_decide_eq_false ht
    repeat (first | refine then_normal ?_ | refine c_seq ?_ | refine c_block ?_ | refine inB_normal ?_ | refine c_skip ?_ | refine c_exit ?_ | refine then_exit ?_ | refine inB_same rfl ?_ | refine inB_other rfl ?_ | refine c_ret ?_ | refine then_ret ?_ | refine inB_ret ?_)
    refine c_region ?_
    refine l_neu (n_move rfl rfl) rfl ?_
    refine l_neu (n_lss rfl rfl) rfl ?_
    refine l_neu (n_move rfl rfl) rfl ?_
    refine l_guard rfl rfl rfl rfl (fun hg => by rw [hg]; exact n_move rfl rfl) ?_
    first | refine l_guard rfl rfl rfl rfl (fun hg => by rw [hg]; exact n_field_ref rfl) ?_ | refine l_guard rfl rfl rfl rfl (fun hg => by rw [hg]; exact n_field_eref rfl) ?_ | refine l_guard rfl rfl rfl rfl (fun hg => by rw [hg]; exact n_field_mref rfl) ?_
    first | refine l_guard rfl rfl rfl rfl (fun hg => by rw [hg]; exact n_load_eref rfl rfl) ?_ | refine l_guard rfl rfl rfl rfl (fun hg => by rw [hg]; exact n_load_ref rfl rfl rfl) ?_ | refine l_guard rfl rfl rfl rfl (fun hg => by have hq := hg; (try simp at hq); rw [hg]; exact n_load_mref rfl rfl (List.getElem?_eq_getElem (by omega)) rfl) ?_ | refine l_guard rfl rfl rfl rfl (fun hg => by rw [hg]; exact n_load_mrefT1 rfl rfl rfl) ?_
    refine l_guard rfl rfl rfl rfl (fun hg => by rw [hg]; exact n_geq rfl rfl) ?_
    refine l_neu (n_pick_bool rfl (fun h => by first | rfl | (rw [h]; rfl)) (fun h => by first | rfl | (rw [h]; rfl))) rfl ?_
    refine l_nil ?_
    repeat (first | refine then_normal ?_ | refine c_seq ?_ | refine c_block ?_ | refine inB_normal ?_ | refine c_skip ?_ | refine c_exit ?_ | refine then_exit ?_ | refine inB_same rfl ?_ | refine inB_other rfl ?_ | refine c_ret ?_ | refine then_ret ?_ | refine inB_ret ?_)
    refine c_cond rfl (fun ht => ?_) (fun ht => ?_)
    · have h2 := of_decide_eq_true (or_pick.symm.trans ht)
      repeat (first | refine then_normal ?_ | refine c_seq ?_ | refine c_block ?_ | refine inB_normal ?_ | refine c_skip ?_ | refine c_exit ?_ | refine then_exit ?_ | refine inB_same rfl ?_ | refine inB_other rfl ?_ | refine c_ret ?_ | refine then_ret ?_ | refine inB_ret ?_)
      refine c_region ?_
      refine l_neu (n_assign rfl rfl) rfl ?_
      refine l_neu (n_assign rfl rfl) rfl ?_
      refine l_nil ?_
      repeat (first | refine then_normal ?_ | refine c_seq ?_ | refine c_block ?_ | refine inB_normal ?_ | refine c_skip ?_ | refine c_exit ?_ | refine then_exit ?_ | refine inB_same rfl ?_ | refine inB_other rfl ?_ | refine c_ret ?_ | refine then_ret ?_ | refine inB_ret ?_)
      exact ret_ret (ret2 rfl rfl rfl rfl rfl) (by rw [column20, if_neg h, if_pos h2])
    · have h2 := of_decide_eq_false (or_pick.symm.trans ht)
      have hfl := colOf_flat t.Rows c
      repeat (first | refine then_normal ?_ | refine c_seq ?_ | refine c_block ?_ | refine inB_normal ?_ | refine c_skip ?_ | refine c_exit ?_ | refine then_exit ?_ | refine inB_same rfl ?_ | refine inB_other rfl ?_ | refine c_ret ?_ | refine then_ret ?_ | refine inB_ret ?_)
      refine c_region ?_
      first | refine l_neu (n_field_ref rfl) rfl ?_ | refine l_neu (n_field_eref rfl) rfl ?_ | refine l_neu (n_field_mref rfl) rfl ?_
      first | refine l_neu (n_load_eref rfl rfl) rfl ?_ | refine l_neu (n_load_ref rfl rfl rfl) rfl ?_ | refine l_neu (n_load_mref rfl rfl (List.getElem?_eq_getElem (by omega)) rfl) rfl ?_ | refine l_neu (n_load_mrefT1 rfl rfl rfl) rfl ?_
      refine l_neu (n_move rfl rfl) rfl ?_
      refine l_call (column16_ok t.Rows c hr hl) rfl rfl rfl ?_
      rintro _ rfl
      refine l_call (join_ok _ (by omega)) rfl rfl rfl ?_
      rintro _ rfl
      refine l_neu (n_extract rfl rfl) rfl ?_
      refine l_neu (n_extract rfl rfl) rfl ?_
      refine l_neu (n_assign rfl rfl) rfl ?_
      refine l_neu (n_assign rfl rfl) rfl ?_
      refine l_nil ?_
      repeat (first | refine then_normal ?_ | refine c_seq ?_ | refine c_block ?_ | refine inB_normal ?_ | refine c_skip ?_ | refine c_exit ?_ | refine then_exit ?_ | refine inB_same rfl ?_ | refine inB_other rfl ?_ | refine c_ret ?_ | refine then_ret ?_ | refine inB_ret ?_)
      exact ret_ret (ret2 rfl rfl rfl rfl rfl) (by rw [column20, if_neg h, if_neg h2])
end Go.Proofs.Ytljfkoaafocglaa
