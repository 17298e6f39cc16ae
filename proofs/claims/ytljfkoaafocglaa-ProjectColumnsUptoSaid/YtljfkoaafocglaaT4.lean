/- The reference's functions of scripts and of lost lines, by the abstract logic. -/
import Derived.Test.YtljfkoaafocglaaT3
import Derived.Test.YtljfkoaafocglaaS4
namespace Go.Proofs.Ytljfkoaafocglaa
open Go Go.AL
set_option maxRecDepth 100000

theorem matched_ok (l : List Change) (m : Int) (hl : l.length ≤ 1048576) (hm : m ≤ 536870911) (hb : ∀ c ∈ l, c.Old ≤ 536870911 ∧ 0 ≤ c.OldLen ∧ c.OldLen ≤ 1048576 ∧ 0 ≤ c.NewLen ∧ c.NewLen ≤ 1048576) :
    FnOk Try.prog 16 [pChanges l, pInt m] (fun rs => rs = [pSpans (matchedOf l m)]) := by
  refine FnOk.intro Try.func16 (by decide) rfl rfl rfl ?_
  repeat (first | refine then_normal ?_ | refine c_seq ?_ | refine c_block ?_ | refine inB_normal ?_ | refine c_skip ?_ | refine c_exit ?_ | refine then_exit ?_ | refine inB_same rfl ?_ | refine inB_other rfl ?_ | refine c_ret ?_ | refine then_ret ?_ | refine inB_ret ?_)
  refine c_region ?_
  refine l_neu (n_assign rfl rfl) rfl ?_
  refine l_nil ?_
  repeat (first | refine then_normal ?_ | refine c_seq ?_ | refine c_block ?_ | refine inB_normal ?_ | refine c_skip ?_ | refine c_exit ?_ | refine then_exit ?_ | refine inB_same rfl ?_ | refine inB_other rfl ?_ | refine c_ret ?_ | refine then_ret ?_ | refine inB_ret ?_)
  refine c_region ?_
  refine l_effv (f_adopt 5 _ spanC rfl) rfl ?_
  refine l_nil ?_
  repeat (first | refine then_normal ?_ | refine c_seq ?_ | refine c_block ?_ | refine inB_normal ?_ | refine c_skip ?_ | refine c_exit ?_ | refine then_exit ?_ | refine inB_same rfl ?_ | refine inB_other rfl ?_ | refine c_ret ?_ | refine then_ret ?_ | refine inB_ret ?_)
  refine c_region ?_
  refine l_neu (n_assign rfl rfl) rfl ?_
  refine l_neu (n_assign rfl rfl) rfl ?_
  refine l_nil ?_
  repeat (first | refine then_normal ?_ | refine c_seq ?_ | refine c_block ?_ | refine inB_normal ?_ | refine c_skip ?_ | refine c_exit ?_ | refine then_exit ?_ | refine inB_same rfl ?_ | refine inB_other rfl ?_ | refine c_ret ?_ | refine then_ret ?_ | refine inB_ret ?_)
  refine c_region ?_
  refine l_neu (n_assign rfl rfl) rfl ?_
  refine l_nil ?_
  repeat (first | refine then_normal ?_ | refine c_seq ?_ | refine c_block ?_ | refine inB_normal ?_ | refine c_skip ?_ | refine c_exit ?_ | refine then_exit ?_ | refine inB_same rfl ?_ | refine inB_other rfl ?_ | refine c_ret ?_ | refine then_ret ?_ | refine inB_ret ?_)
  refine c_while (X := Nat × Int × Int × List Span) (fun x => ([(0, sList Change 4 changeC l), (1, sInt m), (5, .s (.one (.buf 5 Span 2 spanC x.2.2.2))), (6, sInt x.2.1), (7, sInt x.2.2.1), (8, sInt x.1)], [(5, .spare x.2.2.2.length 2 55)]))
    (fun x => x.1 ≤ l.length ∧ 0 ≤ x.2.1 ∧ (x.2.2.2.length : Int) ≤ x.2.1 ∧ x.2.1 ≤ 536870911 + x.1 * 1048576 ∧ 0 ≤ x.2.2.1 ∧ x.2.2.1 ≤ 536870911 * (x.1 + 1) + x.1 * 1048576 ∧ x.2.2.2.length ≤ 536870911 ∧ x.2.2.2 ++ matchedGo x.2.1 x.2.2.1 (l.drop x.1) m = matchedOf l m)
    (fun x => l.length - x.1) (0, 0, 0, []) (by simp [matchedOf]) (Sees.of ⟨⟨_, rfl, by first | exact .same _ | exact .eq (by first | (simp; done) | (simp; omega)) | exact .list _ _ _ _ _ | exact .nil _ _ _ | exact .any _⟩, ⟨_, rfl, by first | exact .same _ | exact .eq (by first | (simp; done) | (simp; omega)) | exact .list _ _ _ _ _ | exact .nil _ _ _ | exact .any _⟩, ⟨_, rfl, by first | exact .same _ | exact .eq (by first | (simp; done) | (simp; omega)) | exact .list _ _ _ _ _ | exact .nil _ _ _ | exact .any _⟩, ⟨_, rfl, by first | exact .same _ | exact .eq (by first | (simp; done) | (simp; omega)) | exact .list _ _ _ _ _ | exact .nil _ _ _ | exact .any _⟩, ⟨_, rfl, by first | exact .same _ | exact .eq (by first | (simp; done) | (simp; omega)) | exact .list _ _ _ _ _ | exact .nil _ _ _ | exact .any _⟩, ⟨_, rfl, by first | exact .same _ | exact .eq (by first | (simp; done) | (simp; omega)) | exact .list _ _ _ _ _ | exact .nil _ _ _ | exact .any _⟩, trivial⟩ ⟨rfl, trivial⟩) ?_
  rintro ⟨k, i, j, out⟩ ⟨hk, hi, ho, hi2, hj, hj2, ho2, hp⟩
  dsimp only at hk hi ho hi2 hj hj2 ho2 hp ⊢
  repeat (first | refine then_normal ?_ | refine c_seq ?_ | refine c_block ?_ | refine inB_normal ?_ | refine c_skip ?_ | refine c_exit ?_ | refine then_exit ?_ | refine inB_same rfl ?_ | refine inB_other rfl ?_ | refine c_ret ?_ | refine then_ret ?_ | refine inB_ret ?_)
  refine c_region ?_
  refine l_neu (n_move rfl rfl) rfl ?_
  refine l_neu (n_move rfl rfl) rfl ?_
  first | refine l_neu (n_len rfl (.pure _ _ _ _)) rfl ?_ | refine l_neu (n_len rfl (.buf _ _ _ _ _)) rfl ?_ | refine l_neu (n_len_mut rfl rfl) rfl ?_ | refine l_neu (n_len_mutT rfl rfl) rfl ?_ | refine l_neu (n_len_nil rfl) rfl ?_
  refine l_neu (n_lss rfl rfl) rfl ?_
  refine l_nil ?_
  repeat (first | refine then_normal ?_ | refine c_seq ?_ | refine c_block ?_ | refine inB_normal ?_ | refine c_skip ?_ | refine c_exit ?_ | refine then_exit ?_ | refine inB_same rfl ?_ | refine inB_other rfl ?_ | refine c_ret ?_ | refine then_ret ?_ | refine inB_ret ?_)
  refine c_cond rfl (fun ht => ?_) (fun ht => ?_)
  · have hlt : k < l.length := by have := of_decide_eq_true ht; omega
    have hv : l[k]? = some l[k] := by simp [hlt]
    have hc := hb l[k] (List.getElem_mem hlt)
    rw [List.drop_eq_getElem_cons hlt, matchedGo] at hp
    repeat (first | refine then_normal ?_ | refine c_seq ?_ | refine c_block ?_ | refine inB_normal ?_ | refine c_skip ?_ | refine c_exit ?_ | refine then_exit ?_ | refine inB_same rfl ?_ | refine inB_other rfl ?_ | refine c_ret ?_ | refine then_ret ?_ | refine inB_ret ?_)
    refine c_while (X := Nat) (fun t => ([(0, sList Change 4 changeC l), (1, sInt m), (5, .s (.one (.buf 5 Span 2 spanC (out ++ spanRun i j t)))), (6, sInt (i + t)), (7, sInt (j + t)), (8, sInt k)], [(5, .spare (out ++ spanRun i j t).length 2 55)]))
      (fun t => t ≤ (l[k].Old - i).toNat) (fun t => (l[k].Old - i).toNat - t) 0 (Nat.zero_le _) (by rw [spanRun_zero, List.append_nil]; exact Sees.of ⟨⟨_, rfl, by first | exact .same _ | exact .eq (by first | (simp; done) | (simp; omega)) | exact .list _ _ _ _ _ | exact .nil _ _ _ | exact .any _⟩, ⟨_, rfl, by first | exact .same _ | exact .eq (by first | (simp; done) | (simp; omega)) | exact .list _ _ _ _ _ | exact .nil _ _ _ | exact .any _⟩, ⟨_, rfl, by first | exact .same _ | exact .eq (by first | (simp; done) | (simp; omega)) | exact .list _ _ _ _ _ | exact .nil _ _ _ | exact .any _⟩, ⟨_, rfl, by first | exact .same _ | exact .eq (by first | (simp; done) | (simp; omega)) | exact .list _ _ _ _ _ | exact .nil _ _ _ | exact .any _⟩, ⟨_, rfl, by first | exact .same _ | exact .eq (by first | (simp; done) | (simp; omega)) | exact .list _ _ _ _ _ | exact .nil _ _ _ | exact .any _⟩, ⟨_, rfl, by first | exact .same _ | exact .eq (by first | (simp; done) | (simp; omega)) | exact .list _ _ _ _ _ | exact .nil _ _ _ | exact .any _⟩, trivial⟩ ⟨rfl, trivial⟩) ?_
    intro t htl
    dsimp only at htl ⊢
    have hsl := spanRun_length i j t
    repeat (first | refine then_normal ?_ | refine c_seq ?_ | refine c_block ?_ | refine inB_normal ?_ | refine c_skip ?_ | refine c_exit ?_ | refine then_exit ?_ | refine inB_same rfl ?_ | refine inB_other rfl ?_ | refine c_ret ?_ | refine then_ret ?_ | refine inB_ret ?_)
    have hol : out.length + t ≤ 536870911 := by omega
    refine c_region ?_
    refine l_neu (n_move rfl rfl) rfl ?_
    refine l_neu (n_move rfl rfl) rfl ?_
    refine l_neu (n_move rfl rfl) rfl ?_
    first | refine l_neu (n_indexAddr rfl (.pure _ _ _ _) rfl (by omega) hv) rfl ?_ | refine l_neu (n_indexAddr rfl (.buf _ _ _ _ _) rfl (by omega) hv) rfl ?_ | refine l_neu (n_indexAddr_mut rfl rfl rfl (by omega) (by omega)) rfl ?_ | refine l_neu (n_indexAddr_mutT rfl rfl rfl (by omega) (by omega)) rfl ?_
    first | refine l_neu (n_field_ref rfl) rfl ?_ | refine l_neu (n_field_eref rfl) rfl ?_ | refine l_neu (n_field_mref rfl) rfl ?_
    first | refine l_neu (n_load_eref rfl rfl) rfl ?_ | refine l_neu (n_load_ref rfl rfl rfl) rfl ?_ | refine l_neu (n_load_mref rfl rfl (List.getElem?_eq_getElem (by omega)) rfl) rfl ?_ | refine l_neu (n_load_mrefT1 rfl rfl rfl) rfl ?_
    refine l_neu (n_lss rfl rfl) rfl ?_
    refine l_nil ?_
    repeat (first | refine then_normal ?_ | refine c_seq ?_ | refine c_block ?_ | refine inB_normal ?_ | refine c_skip ?_ | refine c_exit ?_ | refine then_exit ?_ | refine inB_same rfl ?_ | refine inB_other rfl ?_ | refine c_ret ?_ | refine then_ret ?_ | refine inB_ret ?_)
    refine c_cond rfl (fun ht => ?_) (fun ht => ?_)
    · have h1 := of_decide_eq_true ht
      repeat (first | refine then_normal ?_ | refine c_seq ?_ | refine c_block ?_ | refine inB_normal ?_ | refine c_skip ?_ | refine c_exit ?_ | refine then_exit ?_ | refine inB_same rfl ?_ | refine inB_other rfl ?_ | refine c_ret ?_ | refine then_ret ?_ | refine inB_ret ?_)
      refine c_region ?_
      refine l_neu (n_move rfl rfl) rfl ?_
      refine l_neu (n_move rfl rfl) rfl ?_
      refine l_neu (n_move rfl rfl) rfl ?_
      refine l_neu (n_build rfl) rfl ?_
      refine l_neu (n_buildSlice (c := spanC) (ys := [⟨_, _⟩]) (asm_cons rfl rfl rfl rfl asm_nil) rfl rfl rfl) rfl ?_
      first | refine l_effv (e_append rfl rfl rfl (.pure _ _ _ _) (by (simp; omega)) rfl) rfl ?_ | refine l_effv (e_append rfl rfl rfl (.buf _ _ _ _ _) (by (simp; omega)) rfl) rfl ?_
      refine l_neu (n_assign rfl rfl) rfl ?_
      refine l_nil ?_
      repeat (first | refine then_normal ?_ | refine c_seq ?_ | refine c_block ?_ | refine inB_normal ?_ | refine c_skip ?_ | refine c_exit ?_ | refine then_exit ?_ | refine inB_same rfl ?_ | refine inB_other rfl ?_ | refine c_ret ?_ | refine then_ret ?_ | refine inB_ret ?_)
      refine c_region ?_
      refine l_neu (n_move rfl rfl) rfl ?_
      refine l_neu (n_add rfl rfl (by omega)) rfl ?_
      refine l_neu (n_move rfl rfl) rfl ?_
      refine l_neu (n_add rfl rfl (by omega)) rfl ?_
      refine l_neu (n_assign rfl rfl) rfl ?_
      refine l_neu (n_assign rfl rfl) rfl ?_
      refine l_nil ?_
      repeat (first | refine then_normal ?_ | refine c_seq ?_ | refine c_block ?_ | refine inB_normal ?_ | refine c_skip ?_ | refine c_exit ?_ | refine then_exit ?_ | refine inB_same rfl ?_ | refine inB_other rfl ?_ | refine c_ret ?_ | refine then_ret ?_ | refine inB_ret ?_)
      refine ⟨t + 1, by omega, by omega, ?_⟩
      rw [spanRun_snoc, ← List.append_assoc]
      exact Sees.of ⟨⟨_, rfl, by first | exact .same _ | exact .eq (by first | (simp; done) | (simp; omega)) | exact .list _ _ _ _ _ | exact .nil _ _ _ | exact .any _⟩, ⟨_, rfl, by first | exact .same _ | exact .eq (by first | (simp; done) | (simp; omega)) | exact .list _ _ _ _ _ | exact .nil _ _ _ | exact .any _⟩, ⟨_, rfl, by first | exact .same _ | exact .eq (by first | (simp; done) | (simp; omega)) | exact .list _ _ _ _ _ | exact .nil _ _ _ | exact .any _⟩, ⟨_, rfl, by first | exact .same _ | exact .eq (by first | (simp; done) | (simp; omega)) | exact .list _ _ _ _ _ | exact .nil _ _ _ | exact .any _⟩, ⟨_, rfl, by first | exact .same _ | exact .eq (by first | (simp; done) | (simp; omega)) | exact .list _ _ _ _ _ | exact .nil _ _ _ | exact .any _⟩, ⟨_, rfl, by first | exact .same _ | exact .eq (by first | (simp; done) | (simp; omega)) | exact .list _ _ _ _ _ | exact .nil _ _ _ | exact .any _⟩, trivial⟩ ⟨rfl, trivial⟩
    · have h1 := of_decide_eq_false ht
      have h2 : t = (l[k].Old - i).toNat := by omega
      rw [← h2] at hp
      have h3 : max i l[k].Old = i + t := by omega
      rw [h3] at hp
      repeat (first | refine then_normal ?_ | refine c_seq ?_ | refine c_block ?_ | refine inB_normal ?_ | refine c_skip ?_ | refine c_exit ?_ | refine then_exit ?_ | refine inB_same rfl ?_ | refine inB_other rfl ?_ | refine c_ret ?_ | refine then_ret ?_ | refine inB_ret ?_)
      refine c_region_draw (by kernel_rfl) (by kernel_rfl) ?_
      refine d_neu (n_move rfl rfl) rfl rfl ?_
      refine d_neu (n_move rfl rfl) rfl rfl ?_
      refine d_neu (n_move rfl rfl) rfl rfl ?_
      first | refine d_neu (n_indexAddr rfl (.pure _ _ _ _) rfl (by omega) hv) rfl rfl ?_ | refine d_neu (n_indexAddr rfl (.buf _ _ _ _ _) rfl (by omega) hv) rfl rfl ?_ | refine d_neu (n_indexAddr_mut rfl rfl rfl (by omega) (by omega)) rfl rfl ?_ | refine d_neu (n_indexAddr_mutT rfl rfl rfl (by omega) (by omega)) rfl rfl ?_
      first | refine d_neu (n_field_ref rfl) rfl rfl ?_ | refine d_neu (n_field_eref rfl) rfl rfl ?_ | refine d_neu (n_field_mref rfl) rfl rfl ?_
      first | refine d_neu (n_load_eref rfl rfl) rfl rfl ?_ | refine d_neu (n_load_ref rfl rfl rfl) rfl rfl ?_ | refine d_neu (n_load_mref rfl rfl (List.getElem?_eq_getElem (by omega)) rfl) rfl rfl ?_ | refine d_neu (n_load_mrefT1 rfl rfl rfl) rfl rfl ?_
      refine d_neu (n_add rfl rfl (by omega)) rfl rfl ?_
      refine d_neu (n_move rfl rfl) rfl rfl ?_
      refine d_neu (n_move rfl rfl) rfl rfl ?_
      refine d_neu (n_move rfl rfl) rfl rfl ?_
      first | refine d_neu (n_indexAddr rfl (.pure _ _ _ _) rfl (by omega) hv) rfl rfl ?_ | refine d_neu (n_indexAddr rfl (.buf _ _ _ _ _) rfl (by omega) hv) rfl rfl ?_ | refine d_neu (n_indexAddr_mut rfl rfl rfl (by omega) (by omega)) rfl rfl ?_ | refine d_neu (n_indexAddr_mutT rfl rfl rfl (by omega) (by omega)) rfl rfl ?_
      first | refine d_neu (n_field_ref rfl) rfl rfl ?_ | refine d_neu (n_field_eref rfl) rfl rfl ?_ | refine d_neu (n_field_mref rfl) rfl rfl ?_
      first | refine d_neu (n_load_eref rfl rfl) rfl rfl ?_ | refine d_neu (n_load_ref rfl rfl rfl) rfl rfl ?_ | refine d_neu (n_load_mref rfl rfl (List.getElem?_eq_getElem (by omega)) rfl) rfl rfl ?_ | refine d_neu (n_load_mrefT1 rfl rfl rfl) rfl rfl ?_
      refine d_neu (n_add rfl rfl (by omega)) rfl rfl ?_
      refine d_neu (n_assign rfl rfl) rfl rfl ?_
      refine d_neu (n_assign rfl rfl) rfl rfl ?_
      refine d_nil ?_
      repeat (first | refine then_normal ?_ | refine c_seq ?_ | refine c_block ?_ | refine inB_normal ?_ | refine c_skip ?_ | refine c_exit ?_ | refine then_exit ?_ | refine inB_same rfl ?_ | refine inB_other rfl ?_ | refine c_ret ?_ | refine then_ret ?_ | refine inB_ret ?_)
      refine c_region ?_
      refine l_neu (n_move rfl rfl) rfl ?_
      refine l_neu (n_add rfl rfl (by omega)) rfl ?_
      refine l_neu (n_assign rfl rfl) rfl ?_
      refine l_nil ?_
      repeat (first | refine then_normal ?_ | refine c_seq ?_ | refine c_block ?_ | refine inB_normal ?_ | refine c_skip ?_ | refine c_exit ?_ | refine then_exit ?_ | refine inB_same rfl ?_ | refine inB_other rfl ?_ | refine c_ret ?_ | refine then_ret ?_ | refine inB_ret ?_)
      exact ⟨(k + 1, i + t + l[k].OldLen, j + t + l[k].NewLen, out ++ spanRun i j t), ⟨by dsimp only; omega, by dsimp only; omega, by dsimp only; rw [List.length_append, hsl]; omega, by dsimp only; omega, by dsimp only; omega, by dsimp only; omega, by dsimp only; rw [List.length_append, hsl]; omega, by dsimp only; rw [List.append_assoc]; exact hp⟩, by dsimp only; omega, Sees.of ⟨⟨_, rfl, by first | exact .same _ | exact .eq (by first | (simp; done) | (simp; omega)) | exact .list _ _ _ _ _ | exact .nil _ _ _ | exact .any _⟩, ⟨_, rfl, by first | exact .same _ | exact .eq (by first | (simp; done) | (simp; omega)) | exact .list _ _ _ _ _ | exact .nil _ _ _ | exact .any _⟩, ⟨_, rfl, by first | exact .same _ | exact .eq (by first | (simp; done) | (simp; omega)) | exact .list _ _ _ _ _ | exact .nil _ _ _ | exact .any _⟩, ⟨_, rfl, by first | exact .same _ | exact .eq (by first | (simp; done) | (simp; omega)) | exact .list _ _ _ _ _ | exact .nil _ _ _ | exact .any _⟩, ⟨_, rfl, by first | exact .same _ | exact .eq (by first | (simp; done) | (simp; omega)) | exact .list _ _ _ _ _ | exact .nil _ _ _ | exact .any _⟩, ⟨_, rfl, by first | exact .same _ | exact .eq (by first | (simp; done) | (simp; omega)) | exact .list _ _ _ _ _ | exact .nil _ _ _ | exact .any _⟩, trivial⟩ ⟨rfl, trivial⟩⟩
  · have hk' : k = l.length := by have := of_decide_eq_false ht; omega
    rw [hk', List.drop_eq_nil_of_le (Nat.le_refl _), matchedGo] at hp
    repeat (first | refine then_normal ?_ | refine c_seq ?_ | refine c_block ?_ | refine inB_normal ?_ | refine c_skip ?_ | refine c_exit ?_ | refine then_exit ?_ | refine inB_same rfl ?_ | refine inB_other rfl ?_ | refine c_ret ?_ | refine then_ret ?_ | refine inB_ret ?_)
    refine c_while (X := Nat) (fun t => ([(1, sInt m), (5, .s (.one (.buf 5 Span 2 spanC (out ++ spanRun i j t)))), (6, sInt (i + t)), (7, sInt (j + t))], [(5, .spare (out ++ spanRun i j t).length 2 55)]))
      (fun t => t ≤ (m - i).toNat) (fun t => (m - i).toNat - t) 0 (Nat.zero_le _) (by rw [spanRun_zero, List.append_nil]; exact Sees.of ⟨⟨_, rfl, by first | exact .same _ | exact .eq (by first | (simp; done) | (simp; omega)) | exact .list _ _ _ _ _ | exact .nil _ _ _ | exact .any _⟩, ⟨_, rfl, by first | exact .same _ | exact .eq (by first | (simp; done) | (simp; omega)) | exact .list _ _ _ _ _ | exact .nil _ _ _ | exact .any _⟩, ⟨_, rfl, by first | exact .same _ | exact .eq (by first | (simp; done) | (simp; omega)) | exact .list _ _ _ _ _ | exact .nil _ _ _ | exact .any _⟩, ⟨_, rfl, by first | exact .same _ | exact .eq (by first | (simp; done) | (simp; omega)) | exact .list _ _ _ _ _ | exact .nil _ _ _ | exact .any _⟩, trivial⟩ ⟨rfl, trivial⟩) ?_
    intro t htl
    dsimp only at htl ⊢
    have hsl := spanRun_length i j t
    have hol : out.length + t ≤ 536870911 := by omega
    repeat (first | refine then_normal ?_ | refine c_seq ?_ | refine c_block ?_ | refine inB_normal ?_ | refine c_skip ?_ | refine c_exit ?_ | refine then_exit ?_ | refine inB_same rfl ?_ | refine inB_other rfl ?_ | refine c_ret ?_ | refine then_ret ?_ | refine inB_ret ?_)
    refine c_region ?_
    refine l_neu (n_move rfl rfl) rfl ?_
    refine l_neu (n_move rfl rfl) rfl ?_
    refine l_neu (n_lss rfl rfl) rfl ?_
    refine l_nil ?_
    repeat (first | refine then_normal ?_ | refine c_seq ?_ | refine c_block ?_ | refine inB_normal ?_ | refine c_skip ?_ | refine c_exit ?_ | refine then_exit ?_ | refine inB_same rfl ?_ | refine inB_other rfl ?_ | refine c_ret ?_ | refine then_ret ?_ | refine inB_ret ?_)
    refine c_cond rfl (fun ht => ?_) (fun ht => ?_)
    · have h1 := of_decide_eq_true ht
      repeat (first | refine then_normal ?_ | refine c_seq ?_ | refine c_block ?_ | refine inB_normal ?_ | refine c_skip ?_ | refine c_exit ?_ | refine then_exit ?_ | refine inB_same rfl ?_ | refine inB_other rfl ?_ | refine c_ret ?_ | refine then_ret ?_ | refine inB_ret ?_)
      refine c_region ?_
      refine l_neu (n_move rfl rfl) rfl ?_
      refine l_neu (n_move rfl rfl) rfl ?_
      refine l_neu (n_move rfl rfl) rfl ?_
      refine l_neu (n_build rfl) rfl ?_
      refine l_neu (n_buildSlice (c := spanC) (ys := [⟨_, _⟩]) (asm_cons rfl rfl rfl rfl asm_nil) rfl rfl rfl) rfl ?_
      first | refine l_effv (e_append rfl rfl rfl (.pure _ _ _ _) (by (simp; omega)) rfl) rfl ?_ | refine l_effv (e_append rfl rfl rfl (.buf _ _ _ _ _) (by (simp; omega)) rfl) rfl ?_
      refine l_neu (n_assign rfl rfl) rfl ?_
      refine l_nil ?_
      repeat (first | refine then_normal ?_ | refine c_seq ?_ | refine c_block ?_ | refine inB_normal ?_ | refine c_skip ?_ | refine c_exit ?_ | refine then_exit ?_ | refine inB_same rfl ?_ | refine inB_other rfl ?_ | refine c_ret ?_ | refine then_ret ?_ | refine inB_ret ?_)
      refine c_region ?_
      refine l_neu (n_move rfl rfl) rfl ?_
      refine l_neu (n_add rfl rfl (by omega)) rfl ?_
      refine l_neu (n_move rfl rfl) rfl ?_
      refine l_neu (n_add rfl rfl (by omega)) rfl ?_
      refine l_neu (n_assign rfl rfl) rfl ?_
      refine l_neu (n_assign rfl rfl) rfl ?_
      refine l_nil ?_
      repeat (first | refine then_normal ?_ | refine c_seq ?_ | refine c_block ?_ | refine inB_normal ?_ | refine c_skip ?_ | refine c_exit ?_ | refine then_exit ?_ | refine inB_same rfl ?_ | refine inB_other rfl ?_ | refine c_ret ?_ | refine then_ret ?_ | refine inB_ret ?_)
      refine ⟨t + 1, by omega, by omega, ?_⟩
      rw [spanRun_snoc, ← List.append_assoc]
      exact Sees.of ⟨⟨_, rfl, by first | exact .same _ | exact .eq (by first | (simp; done) | (simp; omega)) | exact .list _ _ _ _ _ | exact .nil _ _ _ | exact .any _⟩, ⟨_, rfl, by first | exact .same _ | exact .eq (by first | (simp; done) | (simp; omega)) | exact .list _ _ _ _ _ | exact .nil _ _ _ | exact .any _⟩, ⟨_, rfl, by first | exact .same _ | exact .eq (by first | (simp; done) | (simp; omega)) | exact .list _ _ _ _ _ | exact .nil _ _ _ | exact .any _⟩, ⟨_, rfl, by first | exact .same _ | exact .eq (by first | (simp; done) | (simp; omega)) | exact .list _ _ _ _ _ | exact .nil _ _ _ | exact .any _⟩, trivial⟩ ⟨rfl, trivial⟩
    · have h1 := of_decide_eq_false ht
      have h2 : t = (m - i).toNat := by omega
      repeat (first | refine then_normal ?_ | refine c_seq ?_ | refine c_block ?_ | refine inB_normal ?_ | refine c_skip ?_ | refine c_exit ?_ | refine then_exit ?_ | refine inB_same rfl ?_ | refine inB_other rfl ?_ | refine c_ret ?_ | refine then_ret ?_ | refine inB_ret ?_)
      refine c_region ?_
      refine l_neu (n_move rfl rfl) rfl ?_
      refine l_neu (n_assign rfl rfl) rfl ?_
      refine l_nil ?_
      repeat (first | refine then_normal ?_ | refine c_seq ?_ | refine c_block ?_ | refine inB_normal ?_ | refine c_skip ?_ | refine c_exit ?_ | refine then_exit ?_ | refine inB_same rfl ?_ | refine inB_other rfl ?_ | refine c_ret ?_ | refine then_ret ?_ | refine inB_ret ?_)
      exact ret_ret (ret1 rfl rfl rfl) (by rw [h2, hp])

theorem join15_ok (l : List Merged) (list : List Int) (p : Int) (hl : l.length ≤ 536870912) : FnOk Try.prog 29 [pMerged l, pInts list, pInt p] (fun rs => rs = if 4096 < l.length ∨ 4096 < list.length then [pMerged [], pInt 1] else [pMerged (joinedOf l list p), pInt 0]) := by
  refine FnOk.intro Try.func29 (by decide) rfl rfl rfl ?_
  repeat (first | refine then_normal ?_ | refine c_seq ?_ | refine c_block ?_ | refine inB_normal ?_ | refine c_skip ?_ | refine c_exit ?_ | refine then_exit ?_ | refine inB_same rfl ?_ | refine inB_other rfl ?_ | refine c_ret ?_ | refine then_ret ?_ | refine inB_ret ?_)
  refine c_region ?_
  refine l_neu (n_assign rfl rfl) rfl ?_
  refine l_neu (n_assign rfl rfl) rfl ?_
  refine l_nil ?_
  repeat (first | refine then_normal ?_ | refine c_seq ?_ | refine c_block ?_ | refine inB_normal ?_ | refine c_skip ?_ | refine c_exit ?_ | refine then_exit ?_ | refine inB_same rfl ?_ | refine inB_other rfl ?_ | refine c_ret ?_ | refine then_ret ?_ | refine inB_ret ?_)
  have hlm : (linesM l).length = l.length := by simp [linesM]
  by_cases hbig : 4096 < l.length ∨ 4096 < list.length
  · rw [if_pos hbig]
    refine c_region ?_
    refine l_neu (n_move rfl rfl) rfl ?_
    refine l_call (linesM_ok l hl) rfl rfl rfl ?_
    rintro _ rfl
    refine l_neu (n_move rfl rfl) rfl ?_
    refine l_call ((script_ok (linesM l) list).mono (post' := fun rs => rs = [pChanges [], pInt 1]) (fun rs h => by rw [if_pos (by rw [hlm]; exact hbig)] at h; exact h)) rfl rfl rfl ?_
    rintro _ rfl
    refine l_neu (n_move rfl rfl) rfl ?_
    refine l_neu (n_extract rfl rfl) rfl ?_
    refine l_neu (n_extract rfl rfl) rfl ?_
    refine l_neu (n_assign rfl rfl) rfl ?_
    refine l_neu (n_assign rfl rfl) rfl ?_
    refine l_nil ?_
    repeat (first | refine then_normal ?_ | refine c_seq ?_ | refine c_block ?_ | refine inB_normal ?_ | refine c_skip ?_ | refine c_exit ?_ | refine then_exit ?_ | refine inB_same rfl ?_ | refine inB_other rfl ?_ | refine c_ret ?_ | refine then_ret ?_ | refine inB_ret ?_)
    refine c_region ?_
    refine l_neu (n_move rfl rfl) rfl ?_
    refine l_neu (n_neq rfl rfl) rfl ?_
    refine l_nil ?_
    repeat (first | refine then_normal ?_ | refine c_seq ?_ | refine c_block ?_ | refine inB_normal ?_ | refine c_skip ?_ | refine c_exit ?_ | refine then_exit ?_ | refine inB_same rfl ?_ | refine inB_other rfl ?_ | refine c_ret ?_ | refine then_ret ?_ | refine inB_ret ?_)
    refine c_cond rfl (fun ht => ?_) (fun ht => ?_)
    · repeat (first | refine then_normal ?_ | refine c_seq ?_ | refine c_block ?_ | refine inB_normal ?_ | refine c_skip ?_ | refine c_exit ?_ | refine then_exit ?_ | refine inB_same rfl ?_ | refine inB_other rfl ?_ | refine c_ret ?_ | refine then_ret ?_ | refine inB_ret ?_)
      refine c_region ?_
      refine l_neu (n_assign_nil _ 2 mergedC) rfl ?_
      refine l_neu (n_assign rfl rfl) rfl ?_
      refine l_nil ?_
      repeat (first | refine then_normal ?_ | refine c_seq ?_ | refine c_block ?_ | refine inB_normal ?_ | refine c_skip ?_ | refine c_exit ?_ | refine then_exit ?_ | refine inB_same rfl ?_ | refine inB_other rfl ?_ | refine c_ret ?_ | refine then_ret ?_ | refine inB_ret ?_)
      exact ret_ret (ret2 rfl rfl rfl rfl rfl) rfl
    · cases of_decide_eq_false ht (by decide)
  · rw [if_neg hbig]
    refine c_region ?_
    refine l_neu (n_move rfl rfl) rfl ?_
    refine l_call (linesM_ok l hl) rfl rfl rfl ?_
    rintro _ rfl
    refine l_neu (n_move rfl rfl) rfl ?_
    refine l_call ((script_ok (linesM l) list).mono (post' := fun rs => rs = [pChanges (walkOf (linesM l) list), pInt 0]) (fun rs h => by rw [if_neg (by rw [hlm]; exact hbig)] at h; exact h)) rfl rfl rfl ?_
    rintro _ rfl
    refine l_neu (n_move rfl rfl) rfl ?_
    refine l_neu (n_extract rfl rfl) rfl ?_
    refine l_neu (n_extract rfl rfl) rfl ?_
    refine l_neu (n_assign rfl rfl) rfl ?_
    refine l_neu (n_assign rfl rfl) rfl ?_
    refine l_nil ?_
    repeat (first | refine then_normal ?_ | refine c_seq ?_ | refine c_block ?_ | refine inB_normal ?_ | refine c_skip ?_ | refine c_exit ?_ | refine then_exit ?_ | refine inB_same rfl ?_ | refine inB_other rfl ?_ | refine c_ret ?_ | refine then_ret ?_ | refine inB_ret ?_)
    refine c_region ?_
    refine l_neu (n_move rfl rfl) rfl ?_
    refine l_neu (n_neq rfl rfl) rfl ?_
    refine l_nil ?_
    repeat (first | refine then_normal ?_ | refine c_seq ?_ | refine c_block ?_ | refine inB_normal ?_ | refine c_skip ?_ | refine c_exit ?_ | refine then_exit ?_ | refine inB_same rfl ?_ | refine inB_other rfl ?_ | refine c_ret ?_ | refine then_ret ?_ | refine inB_ret ?_)
    refine c_cond rfl (fun ht => ?_) (fun ht => ?_)
    · cases of_decide_eq_true ht rfl
    · have hwb := walkOf_bound (linesM l) list
      have hwl : (walkOf (linesM l) list).length ≤ 4097 := by
        have h1 := madeGo_length (walkGo 0 0 (linesM l) list) 0 0 (linesM l).length list.length
        have h2 := walkGo_length 0 0 (linesM l) list
        unfold walkOf madeOf; omega
      have hmw := matched_walk (linesM l) list
      have hasc := walkGo_asc (linesM l) list 0 0
      rw [Int.zero_add, Int.zero_add] at hasc
      have hpl := walkGo_length 0 0 (linesM l) list
      rw [hlm] at hmw hasc hpl
      obtain ⟨ps, hps⟩ : ∃ ps, ps = walkGo 0 0 (linesM l) list := ⟨_, rfl⟩
      repeat (first | refine then_normal ?_ | refine c_seq ?_ | refine c_block ?_ | refine inB_normal ?_ | refine c_skip ?_ | refine c_exit ?_ | refine then_exit ?_ | refine inB_same rfl ?_ | refine inB_other rfl ?_ | refine c_ret ?_ | refine then_ret ?_ | refine inB_ret ?_)
      refine c_region ?_
      refine l_neu (n_move rfl rfl) rfl ?_
      refine l_neu (n_move rfl rfl) rfl ?_
      first | refine l_neu (n_len rfl (.pure _ _ _ _)) rfl ?_ | refine l_neu (n_len rfl (.buf _ _ _ _ _)) rfl ?_ | refine l_neu (n_len_mut rfl rfl) rfl ?_ | refine l_neu (n_len_mutT rfl rfl) rfl ?_ | refine l_neu (n_len_nil rfl) rfl ?_
      refine l_call (matched_ok (walkOf (linesM l) list) l.length (by omega) (by omega) (fun c hc => by have := hwb c hc; rw [hlm] at this; omega)) rfl rfl rfl ?_
      rintro _ rfl
      refine l_neu (n_assign rfl rfl) rfl ?_
      refine l_nil ?_
      repeat (first | refine then_normal ?_ | refine c_seq ?_ | refine c_block ?_ | refine inB_normal ?_ | refine c_skip ?_ | refine c_exit ?_ | refine then_exit ?_ | refine inB_same rfl ?_ | refine inB_other rfl ?_ | refine c_ret ?_ | refine then_ret ?_ | refine inB_ret ?_)
      rw [hmw, ← hps]
      rw [← hps] at hasc hpl
      refine c_region ?_
      refine l_effv (f_adopt 11 _ mergedC rfl) rfl ?_
      refine l_nil ?_
      repeat (first | refine then_normal ?_ | refine c_seq ?_ | refine c_block ?_ | refine inB_normal ?_ | refine c_skip ?_ | refine c_exit ?_ | refine then_exit ?_ | refine inB_same rfl ?_ | refine inB_other rfl ?_ | refine c_ret ?_ | refine then_ret ?_ | refine inB_ret ?_)
      refine c_region ?_
      refine l_neu (n_assign rfl rfl) rfl ?_
      refine l_neu (n_assign rfl rfl) rfl ?_
      refine l_nil ?_
      repeat (first | refine then_normal ?_ | refine c_seq ?_ | refine c_block ?_ | refine inB_normal ?_ | refine c_skip ?_ | refine c_exit ?_ | refine then_exit ?_ | refine inB_same rfl ?_ | refine inB_other rfl ?_ | refine c_ret ?_ | refine then_ret ?_ | refine inB_ret ?_)
      refine c_region ?_
      refine l_neu (n_assign rfl rfl) rfl ?_
      refine l_nil ?_
      repeat (first | refine then_normal ?_ | refine c_seq ?_ | refine c_block ?_ | refine inB_normal ?_ | refine c_skip ?_ | refine c_exit ?_ | refine then_exit ?_ | refine inB_same rfl ?_ | refine inB_other rfl ?_ | refine c_ret ?_ | refine then_ret ?_ | refine inB_ret ?_)
      have hlb : l.length ≤ 4096 ∧ list.length ≤ 4096 := by omega
      have hwp := u64_nonneg p
      refine c_while (X := Nat × Nat × Nat × List Merged) (fun x => ([(0, sList Merged 2 mergedC l), (1, sList Int 1 intC list), (2, sInt p), (10, sList Span 2 spanC ps), (11, .s (.one (.buf 11 Merged 2 mergedC x.2.2.2))), (12, sInt x.2.1), (13, sInt x.2.2.1), (14, sInt x.1)], [(11, .spare x.2.2.2.length 2 62)]))
        (fun x => x.1 ≤ ps.length + 1 ∧ x.2.2.2.length ≤ x.2.1 + x.2.2.1 ∧ x.2.1 ≤ l.length ∧ x.2.2.1 ≤ list.length ∧ (x.1 ≤ ps.length → Asc l.length list.length x.2.1 x.2.2.1 (ps.drop x.1) ∧ x.2.2.2 ++ joinGo l list (bitOf p) x.2.1 x.2.2.1 (ps.drop x.1) = joinGo l list (bitOf p) 0 0 ps) ∧ (x.1 = ps.length + 1 → x.2.2.2 = joinGo l list (bitOf p) 0 0 ps))
        (fun x => ps.length + 1 - x.1) (0, 0, 0, []) (by simpa using hasc) (Sees.of ⟨⟨_, rfl, by first | exact .same _ | exact .eq (by first | (simp; done) | (simp; omega)) | exact .list _ _ _ _ _ | exact .nil _ _ _ | exact .any _⟩, ⟨_, rfl, by first | exact .same _ | exact .eq (by first | (simp; done) | (simp; omega)) | exact .list _ _ _ _ _ | exact .nil _ _ _ | exact .any _⟩, ⟨_, rfl, by first | exact .same _ | exact .eq (by first | (simp; done) | (simp; omega)) | exact .list _ _ _ _ _ | exact .nil _ _ _ | exact .any _⟩, ⟨_, rfl, by first | exact .same _ | exact .eq (by first | (simp; done) | (simp; omega)) | exact .list _ _ _ _ _ | exact .nil _ _ _ | exact .any _⟩, ⟨_, rfl, by first | exact .same _ | exact .eq (by first | (simp; done) | (simp; omega)) | exact .list _ _ _ _ _ | exact .nil _ _ _ | exact .any _⟩, ⟨_, rfl, by first | exact .same _ | exact .eq (by first | (simp; done) | (simp; omega)) | exact .list _ _ _ _ _ | exact .nil _ _ _ | exact .any _⟩, ⟨_, rfl, by first | exact .same _ | exact .eq (by first | (simp; done) | (simp; omega)) | exact .list _ _ _ _ _ | exact .nil _ _ _ | exact .any _⟩, ⟨_, rfl, by first | exact .same _ | exact .eq (by first | (simp; done) | (simp; omega)) | exact .list _ _ _ _ _ | exact .nil _ _ _ | exact .any _⟩, trivial⟩ ⟨rfl, trivial⟩) ?_
      rintro ⟨k, i, j, out⟩ ⟨hk, ho, hi, hj, h1, h2⟩
      dsimp only at hk ho hi hj h1 h2 ⊢
      repeat (first | refine then_normal ?_ | refine c_seq ?_ | refine c_block ?_ | refine inB_normal ?_ | refine c_skip ?_ | refine c_exit ?_ | refine then_exit ?_ | refine inB_same rfl ?_ | refine inB_other rfl ?_ | refine c_ret ?_ | refine then_ret ?_ | refine inB_ret ?_)
      refine c_region ?_
      refine l_neu (n_move rfl rfl) rfl ?_
      refine l_neu (n_move rfl rfl) rfl ?_
      first | refine l_neu (n_len rfl (.pure _ _ _ _)) rfl ?_ | refine l_neu (n_len rfl (.buf _ _ _ _ _)) rfl ?_ | refine l_neu (n_len_mut rfl rfl) rfl ?_ | refine l_neu (n_len_mutT rfl rfl) rfl ?_ | refine l_neu (n_len_nil rfl) rfl ?_
      refine l_neu (n_leq rfl rfl) rfl ?_
      refine l_nil ?_
      repeat (first | refine then_normal ?_ | refine c_seq ?_ | refine c_block ?_ | refine inB_normal ?_ | refine c_skip ?_ | refine c_exit ?_ | refine then_exit ?_ | refine inB_same rfl ?_ | refine inB_other rfl ?_ | refine c_ret ?_ | refine then_ret ?_ | refine inB_ret ?_)
      refine c_cond rfl (fun ht => ?_) (fun ht => ?_)
      · have hk' : k ≤ ps.length := by have := of_decide_eq_true ht; omega
        obtain ⟨ha, hp⟩ := h1 hk'
        repeat (first | refine then_normal ?_ | refine c_seq ?_ | refine c_block ?_ | refine inB_normal ?_ | refine c_skip ?_ | refine c_exit ?_ | refine then_exit ?_ | refine inB_same rfl ?_ | refine inB_other rfl ?_ | refine c_ret ?_ | refine then_ret ?_ | refine inB_ret ?_)
        refine c_region ?_
        refine l_neu (n_move rfl rfl) rfl ?_
        first | refine l_neu (n_len rfl (.pure _ _ _ _)) rfl ?_ | refine l_neu (n_len rfl (.buf _ _ _ _ _)) rfl ?_ | refine l_neu (n_len_mut rfl rfl) rfl ?_ | refine l_neu (n_len_mutT rfl rfl) rfl ?_ | refine l_neu (n_len_nil rfl) rfl ?_
        refine l_neu (n_move rfl rfl) rfl ?_
        first | refine l_neu (n_len rfl (.pure _ _ _ _)) rfl ?_ | refine l_neu (n_len rfl (.buf _ _ _ _ _)) rfl ?_ | refine l_neu (n_len_mut rfl rfl) rfl ?_ | refine l_neu (n_len_mutT rfl rfl) rfl ?_ | refine l_neu (n_len_nil rfl) rfl ?_
        refine l_neu (n_build rfl) rfl ?_
        refine l_effv (f_alloc 15 rfl) rfl ?_
        first | refine l_eff (e_store_ref TySz.out rfl rfl rfl rfl rfl rfl) ?_ | refine l_eff (e_store_mref1 TySz.out rfl rfl (by simp; omega) rfl rfl) ?_ | refine l_eff (e_store_mrefT1 TySz.out rfl rfl (by simp; omega) rfl rfl) ?_
        refine l_nil ?_
        refine then_normal ?_
        obtain ⟨x, hx⟩ : ∃ x, x = ps.getD k ⟨l.length, list.length⟩ := ⟨_, rfl⟩
        have hstep : (i : Int) ≤ x.From ∧ (j : Int) ≤ x.To ∧ x.From ≤ l.length ∧ x.To ≤ list.length ∧ (k < ps.length → x.From < l.length ∧ x.To < list.length ∧ Asc l.length list.length (x.From + 1) (x.To + 1) (ps.drop (k + 1))) ∧
            joinGo l list (bitOf p) i j (ps.drop k) = (l.drop i).take (x.From.toNat - i) ++ (((list.drop j).take (x.To.toNat - j)).map fun v => ⟨v, bitOf p⟩) ++ (if k < ps.length then (l[x.From.toNat]?.map fun y => (⟨y.Line, orBit y.Parents (bitOf p)⟩ : Merged)).toList ++ joinGo l list (bitOf p) (x.From.toNat + 1) (x.To.toNat + 1) (ps.drop (k + 1)) else []) := by
          by_cases h : k < ps.length
          · have hxk : x = ps[k] := by rw [hx, List.getD_eq_getElem?_getD, List.getElem?_eq_getElem h]; rfl
            rw [List.drop_eq_getElem_cons h, ← hxk] at ha
            obtain ⟨a1, a2, a3⟩ := ha
            have a4 := a3.le
            refine ⟨a1, a2, by omega, by omega, fun _ => ⟨by omega, by omega, a3⟩, ?_⟩
            rw [List.drop_eq_getElem_cons h, ← hxk, if_pos h]; rfl
          · have hxk : x = ⟨l.length, list.length⟩ := by rw [hx, List.getD_eq_getElem?_getD, List.getElem?_eq_none (by omega)]; rfl
            rw [hxk, if_neg h, List.drop_eq_nil_of_le (show ps.length ≤ k by omega)]
            refine ⟨by simp only; omega, by simp only; omega, Int.le_refl _, Int.le_refl _, fun h' => absurd h' h, ?_⟩
            simp [joinGo]
        obtain ⟨hx1, hx2, hx3, hx4, hx5, hjg⟩ := hstep
        refine c_join [(0, sList Merged 2 mergedC l), (1, sList Int 1 intC list), (2, sInt p), (10, sList Span 2 spanC ps), (11, .s (.one (.buf 11 Merged 2 mergedC out))), (12, sInt i), (13, sInt j), (14, sInt k), (15, .s (.one (.ref 15 0)))] [(15, .box [.p (.v (.int .i64 x.From)), .p (.v (.int .i64 x.To))]), (11, .spare out.length 2 62)] ?_ ?_
        · repeat (first | refine then_normal ?_ | refine c_seq ?_ | refine c_block ?_ | refine inB_normal ?_ | refine c_skip ?_ | refine c_exit ?_ | refine then_exit ?_ | refine inB_same rfl ?_ | refine inB_other rfl ?_ | refine c_ret ?_ | refine then_ret ?_ | refine inB_ret ?_)
          refine c_region ?_
          refine l_neu (n_move rfl rfl) rfl ?_
          refine l_neu (n_move rfl rfl) rfl ?_
          first | refine l_neu (n_len rfl (.pure _ _ _ _)) rfl ?_ | refine l_neu (n_len rfl (.buf _ _ _ _ _)) rfl ?_ | refine l_neu (n_len_mut rfl rfl) rfl ?_ | refine l_neu (n_len_mutT rfl rfl) rfl ?_ | refine l_neu (n_len_nil rfl) rfl ?_
          refine l_neu (n_lss rfl rfl) rfl ?_
          refine l_nil ?_
          repeat (first | refine then_normal ?_ | refine c_seq ?_ | refine c_block ?_ | refine inB_normal ?_ | refine c_skip ?_ | refine c_exit ?_ | refine then_exit ?_ | refine inB_same rfl ?_ | refine inB_other rfl ?_ | refine c_ret ?_ | refine then_ret ?_ | refine inB_ret ?_)
          refine c_cond rfl (fun ht => ?_) (fun ht => ?_)
          · have hlt : k < ps.length := by have := of_decide_eq_true ht; omega
            have hv : ps[k]? = some ps[k] := by simp [hlt]
            have : x = ps[k] := by rw [hx, List.getD_eq_getElem?_getD, hv]; rfl
            subst this
            repeat (first | refine then_normal ?_ | refine c_seq ?_ | refine c_block ?_ | refine inB_normal ?_ | refine c_skip ?_ | refine c_exit ?_ | refine then_exit ?_ | refine inB_same rfl ?_ | refine inB_other rfl ?_ | refine c_ret ?_ | refine then_ret ?_ | refine inB_ret ?_)
            refine c_region ?_
            refine l_neu (n_move rfl rfl) rfl ?_
            refine l_neu (n_move rfl rfl) rfl ?_
            first | refine l_neu (n_indexAddr rfl (.pure _ _ _ _) rfl (by omega) hv) rfl ?_ | refine l_neu (n_indexAddr rfl (.buf _ _ _ _ _) rfl (by omega) hv) rfl ?_ | refine l_neu (n_indexAddr_mut rfl rfl rfl (by omega) (by omega)) rfl ?_ | refine l_neu (n_indexAddr_mutT rfl rfl rfl (by omega) (by omega)) rfl ?_
            first | refine l_neu (n_loads_ref rfl rfl rfl) rfl ?_ | refine l_neu (n_loads_eref rfl rfl) rfl ?_ | refine l_neu (n_loads_mref rfl rfl (List.getElem?_eq_getElem (by omega)) rfl) rfl ?_
            first | refine l_eff (e_store_ref TySz.out rfl rfl rfl rfl rfl rfl) ?_ | refine l_eff (e_store_mref1 TySz.out rfl rfl (by simp; omega) rfl rfl) ?_ | refine l_eff (e_store_mrefT1 TySz.out rfl rfl (by simp; omega) rfl rfl) ?_
            refine l_nil ?_
            repeat (first | refine then_normal ?_ | refine c_seq ?_ | refine c_block ?_ | refine inB_normal ?_ | refine c_skip ?_ | refine c_exit ?_ | refine then_exit ?_ | refine inB_same rfl ?_ | refine inB_other rfl ?_ | refine c_ret ?_ | refine then_ret ?_ | refine inB_ret ?_)
            exact Sees.of ⟨⟨_, rfl, by first | exact .same _ | exact .eq (by first | (simp; done) | (simp; omega)) | exact .list _ _ _ _ _ | exact .nil _ _ _ | exact .any _⟩, ⟨_, rfl, by first | exact .same _ | exact .eq (by first | (simp; done) | (simp; omega)) | exact .list _ _ _ _ _ | exact .nil _ _ _ | exact .any _⟩, ⟨_, rfl, by first | exact .same _ | exact .eq (by first | (simp; done) | (simp; omega)) | exact .list _ _ _ _ _ | exact .nil _ _ _ | exact .any _⟩, ⟨_, rfl, by first | exact .same _ | exact .eq (by first | (simp; done) | (simp; omega)) | exact .list _ _ _ _ _ | exact .nil _ _ _ | exact .any _⟩, ⟨_, rfl, by first | exact .same _ | exact .eq (by first | (simp; done) | (simp; omega)) | exact .list _ _ _ _ _ | exact .nil _ _ _ | exact .any _⟩, ⟨_, rfl, by first | exact .same _ | exact .eq (by first | (simp; done) | (simp; omega)) | exact .list _ _ _ _ _ | exact .nil _ _ _ | exact .any _⟩, ⟨_, rfl, by first | exact .same _ | exact .eq (by first | (simp; done) | (simp; omega)) | exact .list _ _ _ _ _ | exact .nil _ _ _ | exact .any _⟩, ⟨_, rfl, by first | exact .same _ | exact .eq (by first | (simp; done) | (simp; omega)) | exact .list _ _ _ _ _ | exact .nil _ _ _ | exact .any _⟩, ⟨_, rfl, by first | exact .same _ | exact .eq (by first | (simp; done) | (simp; omega)) | exact .list _ _ _ _ _ | exact .nil _ _ _ | exact .any _⟩, trivial⟩ ⟨rfl, rfl, trivial⟩
          · have hlt : ¬ k < ps.length := by have := of_decide_eq_false ht; omega
            have : x = ⟨l.length, list.length⟩ := by rw [hx, List.getD_eq_getElem?_getD, List.getElem?_eq_none (by omega)]; rfl
            subst this
            repeat (first | refine then_normal ?_ | refine c_seq ?_ | refine c_block ?_ | refine inB_normal ?_ | refine c_skip ?_ | refine c_exit ?_ | refine then_exit ?_ | refine inB_same rfl ?_ | refine inB_other rfl ?_ | refine c_ret ?_ | refine then_ret ?_ | refine inB_ret ?_)
            exact Sees.of ⟨⟨_, rfl, by first | exact .same _ | exact .eq (by first | (simp; done) | (simp; omega)) | exact .list _ _ _ _ _ | exact .nil _ _ _ | exact .any _⟩, ⟨_, rfl, by first | exact .same _ | exact .eq (by first | (simp; done) | (simp; omega)) | exact .list _ _ _ _ _ | exact .nil _ _ _ | exact .any _⟩, ⟨_, rfl, by first | exact .same _ | exact .eq (by first | (simp; done) | (simp; omega)) | exact .list _ _ _ _ _ | exact .nil _ _ _ | exact .any _⟩, ⟨_, rfl, by first | exact .same _ | exact .eq (by first | (simp; done) | (simp; omega)) | exact .list _ _ _ _ _ | exact .nil _ _ _ | exact .any _⟩, ⟨_, rfl, by first | exact .same _ | exact .eq (by first | (simp; done) | (simp; omega)) | exact .list _ _ _ _ _ | exact .nil _ _ _ | exact .any _⟩, ⟨_, rfl, by first | exact .same _ | exact .eq (by first | (simp; done) | (simp; omega)) | exact .list _ _ _ _ _ | exact .nil _ _ _ | exact .any _⟩, ⟨_, rfl, by first | exact .same _ | exact .eq (by first | (simp; done) | (simp; omega)) | exact .list _ _ _ _ _ | exact .nil _ _ _ | exact .any _⟩, ⟨_, rfl, by first | exact .same _ | exact .eq (by first | (simp; done) | (simp; omega)) | exact .list _ _ _ _ _ | exact .nil _ _ _ | exact .any _⟩, ⟨_, rfl, by first | exact .same _ | exact .eq (by first | (simp; done) | (simp; omega)) | exact .list _ _ _ _ _ | exact .nil _ _ _ | exact .any _⟩, trivial⟩ ⟨rfl, rfl, trivial⟩
        · obtain ⟨f, hf⟩ : ∃ f : Nat, x.From = f := ⟨x.From.toNat, by omega⟩
          obtain ⟨g, hg⟩ : ∃ g : Nat, x.To = g := ⟨x.To.toNat, by omega⟩
          rw [hf] at hx1 hx3 hx5 hjg
          rw [hg] at hx2 hx4 hx5 hjg
          simp only [Int.toNat_natCast] at hjg
          rw [hf, hg]
          repeat (first | refine then_normal ?_ | refine c_seq ?_ | refine c_block ?_ | refine inB_normal ?_ | refine c_skip ?_ | refine c_exit ?_ | refine then_exit ?_ | refine inB_same rfl ?_ | refine inB_other rfl ?_ | refine c_ret ?_ | refine then_ret ?_ | refine inB_ret ?_)
          refine c_while (X := Nat) (fun t => ([(0, sList Merged 2 mergedC l), (1, sList Int 1 intC list), (2, sInt p), (10, sList Span 2 spanC ps), (11, .s (.one (.buf 11 Merged 2 mergedC (out ++ (l.drop i).take t)))), (12, sInt ((i + t : Nat) : Int)), (13, sInt j), (14, sInt k), (15, .s (.one (.ref 15 0)))], [(15, .box [.p (.v (.int .i64 f)), .p (.v (.int .i64 g))]), (11, .spare (out ++ (l.drop i).take t).length 2 62)]))
            (fun t => t ≤ f - i) (fun t => f - i - t) 0 (Nat.zero_le _) (by rw [List.take_zero, List.append_nil]; exact Sees.of ⟨⟨_, rfl, by first | exact .same _ | exact .eq (by first | (simp; done) | (simp; omega)) | exact .list _ _ _ _ _ | exact .nil _ _ _ | exact .any _⟩, ⟨_, rfl, by first | exact .same _ | exact .eq (by first | (simp; done) | (simp; omega)) | exact .list _ _ _ _ _ | exact .nil _ _ _ | exact .any _⟩, ⟨_, rfl, by first | exact .same _ | exact .eq (by first | (simp; done) | (simp; omega)) | exact .list _ _ _ _ _ | exact .nil _ _ _ | exact .any _⟩, ⟨_, rfl, by first | exact .same _ | exact .eq (by first | (simp; done) | (simp; omega)) | exact .list _ _ _ _ _ | exact .nil _ _ _ | exact .any _⟩, ⟨_, rfl, by first | exact .same _ | exact .eq (by first | (simp; done) | (simp; omega)) | exact .list _ _ _ _ _ | exact .nil _ _ _ | exact .any _⟩, ⟨_, rfl, by first | exact .same _ | exact .eq (by first | (simp; done) | (simp; omega)) | exact .list _ _ _ _ _ | exact .nil _ _ _ | exact .any _⟩, ⟨_, rfl, by first | exact .same _ | exact .eq (by first | (simp; done) | (simp; omega)) | exact .list _ _ _ _ _ | exact .nil _ _ _ | exact .any _⟩, ⟨_, rfl, by first | exact .same _ | exact .eq (by first | (simp; done) | (simp; omega)) | exact .list _ _ _ _ _ | exact .nil _ _ _ | exact .any _⟩, ⟨_, rfl, by first | exact .same _ | exact .eq (by first | (simp; done) | (simp; omega)) | exact .list _ _ _ _ _ | exact .nil _ _ _ | exact .any _⟩, trivial⟩ ⟨rfl, rfl, trivial⟩) ?_
          intro t htl
          dsimp only at htl ⊢
          have hb1 : (out ++ (l.drop i).take t).length ≤ i + j + t := by simp; omega
          repeat (first | refine then_normal ?_ | refine c_seq ?_ | refine c_block ?_ | refine inB_normal ?_ | refine c_skip ?_ | refine c_exit ?_ | refine then_exit ?_ | refine inB_same rfl ?_ | refine inB_other rfl ?_ | refine c_ret ?_ | refine then_ret ?_ | refine inB_ret ?_)
          refine c_region ?_
          refine l_neu (n_move rfl rfl) rfl ?_
          first | refine l_neu (n_field_ref rfl) rfl ?_ | refine l_neu (n_field_eref rfl) rfl ?_ | refine l_neu (n_field_mref rfl) rfl ?_
          first | refine l_neu (n_load_eref rfl rfl) rfl ?_ | refine l_neu (n_load_ref rfl rfl rfl) rfl ?_ | refine l_neu (n_load_mref rfl rfl (List.getElem?_eq_getElem (by omega)) rfl) rfl ?_ | refine l_neu (n_load_mrefT1 rfl rfl rfl) rfl ?_
          refine l_neu (n_lss rfl rfl) rfl ?_
          refine l_nil ?_
          repeat (first | refine then_normal ?_ | refine c_seq ?_ | refine c_block ?_ | refine inB_normal ?_ | refine c_skip ?_ | refine c_exit ?_ | refine then_exit ?_ | refine inB_same rfl ?_ | refine inB_other rfl ?_ | refine c_ret ?_ | refine then_ret ?_ | refine inB_ret ?_)
          refine c_cond rfl (fun ht => ?_) (fun ht => ?_)
          · have hlt : i + t < f := by have := of_decide_eq_true ht; omega
            have hv : l[i + t]? = some (l[i + t]'(by omega)) := List.getElem?_eq_getElem (by omega)
            repeat (first | refine then_normal ?_ | refine c_seq ?_ | refine c_block ?_ | refine inB_normal ?_ | refine c_skip ?_ | refine c_exit ?_ | refine then_exit ?_ | refine inB_same rfl ?_ | refine inB_other rfl ?_ | refine c_ret ?_ | refine then_ret ?_ | refine inB_ret ?_)
            refine c_region ?_
            refine l_neu (n_move rfl rfl) rfl ?_
            refine l_neu (n_move rfl rfl) rfl ?_
            refine l_neu (n_move rfl rfl) rfl ?_
            first | refine l_neu (n_indexAddr rfl (.pure _ _ _ _) rfl (by omega) hv) rfl ?_ | refine l_neu (n_indexAddr rfl (.buf _ _ _ _ _) rfl (by omega) hv) rfl ?_ | refine l_neu (n_indexAddr_mut rfl rfl rfl (by omega) (by omega)) rfl ?_ | refine l_neu (n_indexAddr_mutT rfl rfl rfl (by omega) (by omega)) rfl ?_
            first | refine l_neu (n_loads_ref rfl rfl rfl) rfl ?_ | refine l_neu (n_loads_eref rfl rfl) rfl ?_ | refine l_neu (n_loads_mref rfl rfl (List.getElem?_eq_getElem (by omega)) rfl) rfl ?_
            refine l_neu (n_buildSlice (c := mergedC) (ys := [⟨_, _⟩]) (asm_cons rfl rfl rfl rfl asm_nil) rfl rfl rfl) rfl ?_
            first | refine l_effv (e_append rfl rfl rfl (.pure _ _ _ _) (by (simp only [List.length_cons, List.length_nil]; omega)) rfl) rfl ?_ | refine l_effv (e_append rfl rfl rfl (.buf _ _ _ _ _) (by (simp only [List.length_cons, List.length_nil]; omega)) rfl) rfl ?_
            refine l_neu (n_assign rfl rfl) rfl ?_
            refine l_nil ?_
            repeat (first | refine then_normal ?_ | refine c_seq ?_ | refine c_block ?_ | refine inB_normal ?_ | refine c_skip ?_ | refine c_exit ?_ | refine then_exit ?_ | refine inB_same rfl ?_ | refine inB_other rfl ?_ | refine c_ret ?_ | refine then_ret ?_ | refine inB_ret ?_)
            refine c_region ?_
            refine l_neu (n_move rfl rfl) rfl ?_
            refine l_neu (n_add rfl rfl (by omega)) rfl ?_
            refine l_neu (n_assign rfl rfl) rfl ?_
            refine l_nil ?_
            repeat (first | refine then_normal ?_ | refine c_seq ?_ | refine c_block ?_ | refine inB_normal ?_ | refine c_skip ?_ | refine c_exit ?_ | refine then_exit ?_ | refine inB_same rfl ?_ | refine inB_other rfl ?_ | refine c_ret ?_ | refine then_ret ?_ | refine inB_ret ?_)
            refine ⟨t + 1, by omega, by omega, ?_⟩
            rw [take_drop_snoc l i t (by omega), ← List.append_assoc]
            exact Sees.of ⟨⟨_, rfl, by first | exact .same _ | exact .eq (by first | (simp; done) | (simp; omega)) | exact .list _ _ _ _ _ | exact .nil _ _ _ | exact .any _⟩, ⟨_, rfl, by first | exact .same _ | exact .eq (by first | (simp; done) | (simp; omega)) | exact .list _ _ _ _ _ | exact .nil _ _ _ | exact .any _⟩, ⟨_, rfl, by first | exact .same _ | exact .eq (by first | (simp; done) | (simp; omega)) | exact .list _ _ _ _ _ | exact .nil _ _ _ | exact .any _⟩, ⟨_, rfl, by first | exact .same _ | exact .eq (by first | (simp; done) | (simp; omega)) | exact .list _ _ _ _ _ | exact .nil _ _ _ | exact .any _⟩, ⟨_, rfl, by first | exact .same _ | exact .eq (by first | (simp; done) | (simp; omega)) | exact .list _ _ _ _ _ | exact .nil _ _ _ | exact .any _⟩, ⟨_, rfl, by first | exact .same _ | exact .eq (by first | (simp; done) | (simp; omega)) | exact .list _ _ _ _ _ | exact .nil _ _ _ | exact .any _⟩, ⟨_, rfl, by first | exact .same _ | exact .eq (by first | (simp; done) | (simp; omega)) | exact .list _ _ _ _ _ | exact .nil _ _ _ | exact .any _⟩, ⟨_, rfl, by first | exact .same _ | exact .eq (by first | (simp; done) | (simp; omega)) | exact .list _ _ _ _ _ | exact .nil _ _ _ | exact .any _⟩, ⟨_, rfl, by first | exact .same _ | exact .eq (by first | (simp; done) | (simp; omega)) | exact .list _ _ _ _ _ | exact .nil _ _ _ | exact .any _⟩, trivial⟩ ⟨rfl, rfl, trivial⟩
          · have hte : i + t = f := by have := of_decide_eq_false ht; omega
            rw [hte]
            rw [show t = f - i by omega]
            rw [show t = f - i by omega] at hb1
            obtain ⟨o1, ho1⟩ : ∃ o1, o1 = out ++ (l.drop i).take (f - i) := ⟨_, rfl⟩
            rw [← ho1] at hb1 ⊢
            repeat (first | refine then_normal ?_ | refine c_seq ?_ | refine c_block ?_ | refine inB_normal ?_ | refine c_skip ?_ | refine c_exit ?_ | refine then_exit ?_ | refine inB_same rfl ?_ | refine inB_other rfl ?_ | refine c_ret ?_ | refine then_ret ?_ | refine inB_ret ?_)
            refine c_while (X := Nat) (fun t => ([(0, sList Merged 2 mergedC l), (1, sList Int 1 intC list), (2, sInt p), (10, sList Span 2 spanC ps), (11, .s (.one (.buf 11 Merged 2 mergedC (o1 ++ ((list.drop j).take t).map fun v => ⟨v, bitOf p⟩)))), (12, sInt f), (13, sInt ((j + t : Nat) : Int)), (14, sInt k), (15, .s (.one (.ref 15 0)))], [(15, .box [.p (.v (.int .i64 f)), .p (.v (.int .i64 g))]), (11, .spare (o1 ++ ((list.drop j).take t).map fun v => (⟨v, bitOf p⟩ : Merged)).length 2 62)]))
              (fun t => t ≤ g - j) (fun t => g - j - t) 0 (Nat.zero_le _) (by rw [List.take_zero, List.map_nil, List.append_nil]; exact Sees.of ⟨⟨_, rfl, by first | exact .same _ | exact .eq (by first | (simp; done) | (simp; omega)) | exact .list _ _ _ _ _ | exact .nil _ _ _ | exact .any _⟩, ⟨_, rfl, by first | exact .same _ | exact .eq (by first | (simp; done) | (simp; omega)) | exact .list _ _ _ _ _ | exact .nil _ _ _ | exact .any _⟩, ⟨_, rfl, by first | exact .same _ | exact .eq (by first | (simp; done) | (simp; omega)) | exact .list _ _ _ _ _ | exact .nil _ _ _ | exact .any _⟩, ⟨_, rfl, by first | exact .same _ | exact .eq (by first | (simp; done) | (simp; omega)) | exact .list _ _ _ _ _ | exact .nil _ _ _ | exact .any _⟩, ⟨_, rfl, by first | exact .same _ | exact .eq (by first | (simp; done) | (simp; omega)) | exact .list _ _ _ _ _ | exact .nil _ _ _ | exact .any _⟩, ⟨_, rfl, by first | exact .same _ | exact .eq (by first | (simp; done) | (simp; omega)) | exact .list _ _ _ _ _ | exact .nil _ _ _ | exact .any _⟩, ⟨_, rfl, by first | exact .same _ | exact .eq (by first | (simp; done) | (simp; omega)) | exact .list _ _ _ _ _ | exact .nil _ _ _ | exact .any _⟩, ⟨_, rfl, by first | exact .same _ | exact .eq (by first | (simp; done) | (simp; omega)) | exact .list _ _ _ _ _ | exact .nil _ _ _ | exact .any _⟩, ⟨_, rfl, by first | exact .same _ | exact .eq (by first | (simp; done) | (simp; omega)) | exact .list _ _ _ _ _ | exact .nil _ _ _ | exact .any _⟩, trivial⟩ ⟨rfl, rfl, trivial⟩) ?_
            intro t htl
            dsimp only at htl ⊢
            have hb2 : (o1 ++ ((list.drop j).take t).map fun v => (⟨v, bitOf p⟩ : Merged)).length ≤ i + j + (f - i) + t := by simp; omega
            repeat (first | refine then_normal ?_ | refine c_seq ?_ | refine c_block ?_ | refine inB_normal ?_ | refine c_skip ?_ | refine c_exit ?_ | refine then_exit ?_ | refine inB_same rfl ?_ | refine inB_other rfl ?_ | refine c_ret ?_ | refine then_ret ?_ | refine inB_ret ?_)
            refine c_region ?_
            refine l_neu (n_move rfl rfl) rfl ?_
            first | refine l_neu (n_field_ref rfl) rfl ?_ | refine l_neu (n_field_eref rfl) rfl ?_ | refine l_neu (n_field_mref rfl) rfl ?_
            first | refine l_neu (n_load_eref rfl rfl) rfl ?_ | refine l_neu (n_load_ref rfl rfl rfl) rfl ?_ | refine l_neu (n_load_mref rfl rfl (List.getElem?_eq_getElem (by omega)) rfl) rfl ?_ | refine l_neu (n_load_mrefT1 rfl rfl rfl) rfl ?_
            refine l_neu (n_lss rfl rfl) rfl ?_
            refine l_nil ?_
            repeat (first | refine then_normal ?_ | refine c_seq ?_ | refine c_block ?_ | refine inB_normal ?_ | refine c_skip ?_ | refine c_exit ?_ | refine then_exit ?_ | refine inB_same rfl ?_ | refine inB_other rfl ?_ | refine c_ret ?_ | refine then_ret ?_ | refine inB_ret ?_)
            refine c_cond rfl (fun ht => ?_) (fun ht => ?_)
            · have hlt : j + t < g := by have := of_decide_eq_true ht; omega
              have hv : list[j + t]? = some (list[j + t]'(by omega)) := List.getElem?_eq_getElem (by omega)
              repeat (first | refine then_normal ?_ | refine c_seq ?_ | refine c_block ?_ | refine inB_normal ?_ | refine c_skip ?_ | refine c_exit ?_ | refine then_exit ?_ | refine inB_same rfl ?_ | refine inB_other rfl ?_ | refine c_ret ?_ | refine then_ret ?_ | refine inB_ret ?_)
              refine c_region ?_
              refine l_neu (n_move rfl rfl) rfl ?_
              refine l_neu (n_move rfl rfl) rfl ?_
              refine l_neu (n_move rfl rfl) rfl ?_
              first | refine l_neu (n_indexAddr rfl (.pure _ _ _ _) rfl (by omega) hv) rfl ?_ | refine l_neu (n_indexAddr rfl (.buf _ _ _ _ _) rfl (by omega) hv) rfl ?_ | refine l_neu (n_indexAddr_mut rfl rfl rfl (by omega) (by omega)) rfl ?_ | refine l_neu (n_indexAddr_mutT rfl rfl rfl (by omega) (by omega)) rfl ?_
              first | refine l_neu (n_load_eref rfl rfl) rfl ?_ | refine l_neu (n_load_ref rfl rfl rfl) rfl ?_ | refine l_neu (n_load_mref rfl rfl (List.getElem?_eq_getElem (by omega)) rfl) rfl ?_ | refine l_neu (n_load_mrefT1 rfl rfl rfl) rfl ?_
              refine l_neu (n_move rfl rfl) rfl ?_
              refine l_neu (n_convert rfl) rfl ?_
              refine l_neu (n_shl rfl rfl (by omega)) rfl ?_
              refine l_neu (n_build rfl) rfl ?_
              refine l_neu (n_buildSlice (c := mergedC) (ys := [⟨_, _⟩]) (asm_cons rfl rfl rfl rfl asm_nil) rfl rfl rfl) rfl ?_
              first | refine l_effv (e_append rfl rfl rfl (.pure _ _ _ _) (by (simp only [List.length_cons, List.length_nil]; omega)) rfl) rfl ?_ | refine l_effv (e_append rfl rfl rfl (.buf _ _ _ _ _) (by (simp only [List.length_cons, List.length_nil]; omega)) rfl) rfl ?_
              refine l_neu (n_assign rfl rfl) rfl ?_
              refine l_nil ?_
              repeat (first | refine then_normal ?_ | refine c_seq ?_ | refine c_block ?_ | refine inB_normal ?_ | refine c_skip ?_ | refine c_exit ?_ | refine then_exit ?_ | refine inB_same rfl ?_ | refine inB_other rfl ?_ | refine c_ret ?_ | refine then_ret ?_ | refine inB_ret ?_)
              refine c_region ?_
              refine l_neu (n_move rfl rfl) rfl ?_
              refine l_neu (n_add rfl rfl (by omega)) rfl ?_
              refine l_neu (n_assign rfl rfl) rfl ?_
              refine l_nil ?_
              repeat (first | refine then_normal ?_ | refine c_seq ?_ | refine c_block ?_ | refine inB_normal ?_ | refine c_skip ?_ | refine c_exit ?_ | refine then_exit ?_ | refine inB_same rfl ?_ | refine inB_other rfl ?_ | refine c_ret ?_ | refine then_ret ?_ | refine inB_ret ?_)
              refine ⟨t + 1, by omega, by omega, ?_⟩
              rw [take_drop_snoc list j t (by omega), List.map_append, ← List.append_assoc]
              simp only [List.map_cons, List.map_nil]
              exact Sees.of ⟨⟨_, rfl, by first | exact .same _ | exact .eq (by first | (simp; done) | (simp; omega)) | exact .list _ _ _ _ _ | exact .nil _ _ _ | exact .any _⟩, ⟨_, rfl, by first | exact .same _ | exact .eq (by first | (simp; done) | (simp; omega)) | exact .list _ _ _ _ _ | exact .nil _ _ _ | exact .any _⟩, ⟨_, rfl, by first | exact .same _ | exact .eq (by first | (simp; done) | (simp; omega)) | exact .list _ _ _ _ _ | exact .nil _ _ _ | exact .any _⟩, ⟨_, rfl, by first | exact .same _ | exact .eq (by first | (simp; done) | (simp; omega)) | exact .list _ _ _ _ _ | exact .nil _ _ _ | exact .any _⟩, ⟨_, rfl, by first | exact .same _ | exact .eq (by first | (simp; done) | (simp; omega)) | exact .list _ _ _ _ _ | exact .nil _ _ _ | exact .any _⟩, ⟨_, rfl, by first | exact .same _ | exact .eq (by first | (simp; done) | (simp; omega)) | exact .list _ _ _ _ _ | exact .nil _ _ _ | exact .any _⟩, ⟨_, rfl, by first | exact .same _ | exact .eq (by first | (simp; done) | (simp; omega)) | exact .list _ _ _ _ _ | exact .nil _ _ _ | exact .any _⟩, ⟨_, rfl, by first | exact .same _ | exact .eq (by first | (simp; done) | (simp; omega)) | exact .list _ _ _ _ _ | exact .nil _ _ _ | exact .any _⟩, ⟨_, rfl, by first | exact .same _ | exact .eq (by first | (simp; done) | (simp; omega)) | exact .list _ _ _ _ _ | exact .nil _ _ _ | exact .any _⟩, trivial⟩ ⟨rfl, rfl, trivial⟩
            · have hte : j + t = g := by have := of_decide_eq_false ht; omega
              rw [hte]
              rw [show t = g - j by omega]
              rw [show t = g - j by omega] at hb2
              obtain ⟨o2, ho2⟩ : ∃ o2, o2 = o1 ++ ((list.drop j).take (g - j)).map fun v => (⟨v, bitOf p⟩ : Merged) := ⟨_, rfl⟩
              rw [← ho2] at hb2 ⊢
              have hout : out ++ joinGo l list (bitOf p) i j (ps.drop k) = o2 ++ (if k < ps.length then (l[f]?.map fun y => (⟨y.Line, orBit y.Parents (bitOf p)⟩ : Merged)).toList ++ joinGo l list (bitOf p) (f + 1) (g + 1) (ps.drop (k + 1)) else []) := by
                rw [hjg, ho2, ho1]; simp only [List.append_assoc]
              rw [hout] at hp
              repeat (first | refine then_normal ?_ | refine c_seq ?_ | refine c_block ?_ | refine inB_normal ?_ | refine c_skip ?_ | refine c_exit ?_ | refine then_exit ?_ | refine inB_same rfl ?_ | refine inB_other rfl ?_ | refine c_ret ?_ | refine then_ret ?_ | refine inB_ret ?_)
              refine c_region ?_
              refine l_neu (n_move rfl rfl) rfl ?_
              refine l_neu (n_move rfl rfl) rfl ?_
              first | refine l_neu (n_len rfl (.pure _ _ _ _)) rfl ?_ | refine l_neu (n_len rfl (.buf _ _ _ _ _)) rfl ?_ | refine l_neu (n_len_mut rfl rfl) rfl ?_ | refine l_neu (n_len_mutT rfl rfl) rfl ?_ | refine l_neu (n_len_nil rfl) rfl ?_
              refine l_neu (n_lss rfl rfl) rfl ?_
              refine l_nil ?_
              repeat (first | refine then_normal ?_ | refine c_seq ?_ | refine c_block ?_ | refine inB_normal ?_ | refine c_skip ?_ | refine c_exit ?_ | refine then_exit ?_ | refine inB_same rfl ?_ | refine inB_other rfl ?_ | refine c_ret ?_ | refine then_ret ?_ | refine inB_ret ?_)
              refine c_cond rfl (fun ht => ?_) (fun ht => ?_)
              · have hlt : k < ps.length := by have := of_decide_eq_true ht; omega
                obtain ⟨hf1, hg1, hasc'⟩ := hx5 hlt
                have hfl : f < l.length := by omega
                have hv : l[f]? = some l[f] := List.getElem?_eq_getElem hfl
                rw [if_pos hlt, hv] at hp
                repeat (first | refine then_normal ?_ | refine c_seq ?_ | refine c_block ?_ | refine inB_normal ?_ | refine c_skip ?_ | refine c_exit ?_ | refine then_exit ?_ | refine inB_same rfl ?_ | refine inB_other rfl ?_ | refine c_ret ?_ | refine then_ret ?_ | refine inB_ret ?_)
                refine c_region_draw (by kernel_rfl) (by kernel_rfl) ?_
                refine d_neu (n_move rfl rfl) rfl rfl ?_
                refine d_neu (n_move rfl rfl) rfl rfl ?_
                refine d_neu (n_move rfl rfl) rfl rfl ?_
                first | refine d_neu (n_indexAddr rfl (.pure _ _ _ _) rfl (by omega) hv) rfl rfl ?_ | refine d_neu (n_indexAddr rfl (.buf _ _ _ _ _) rfl (by omega) hv) rfl rfl ?_ | refine d_neu (n_indexAddr_mut rfl rfl rfl (by omega) (by omega)) rfl rfl ?_ | refine d_neu (n_indexAddr_mutT rfl rfl rfl (by omega) (by omega)) rfl rfl ?_
                first | refine d_neu (n_field_ref rfl) rfl rfl ?_ | refine d_neu (n_field_eref rfl) rfl rfl ?_ | refine d_neu (n_field_mref rfl) rfl rfl ?_
                first | refine d_neu (n_load_eref rfl rfl) rfl rfl ?_ | refine d_neu (n_load_ref rfl rfl rfl) rfl rfl ?_ | refine d_neu (n_load_mref rfl rfl (List.getElem?_eq_getElem (by omega)) rfl) rfl rfl ?_ | refine d_neu (n_load_mrefT1 rfl rfl rfl) rfl rfl ?_
                refine d_neu (n_move rfl rfl) rfl rfl ?_
                refine d_neu (n_move rfl rfl) rfl rfl ?_
                first | refine d_neu (n_indexAddr rfl (.pure _ _ _ _) rfl (by omega) hv) rfl rfl ?_ | refine d_neu (n_indexAddr rfl (.buf _ _ _ _ _) rfl (by omega) hv) rfl rfl ?_ | refine d_neu (n_indexAddr_mut rfl rfl rfl (by omega) (by omega)) rfl rfl ?_ | refine d_neu (n_indexAddr_mutT rfl rfl rfl (by omega) (by omega)) rfl rfl ?_
                first | refine d_neu (n_field_ref rfl) rfl rfl ?_ | refine d_neu (n_field_eref rfl) rfl rfl ?_ | refine d_neu (n_field_mref rfl) rfl rfl ?_
                first | refine d_neu (n_load_eref rfl rfl) rfl rfl ?_ | refine d_neu (n_load_ref rfl rfl rfl) rfl rfl ?_ | refine d_neu (n_load_mref rfl rfl (List.getElem?_eq_getElem (by omega)) rfl) rfl rfl ?_ | refine d_neu (n_load_mrefT1 rfl rfl rfl) rfl rfl ?_
                refine d_neu (n_move rfl rfl) rfl rfl ?_
                refine d_neu (n_convert rfl) rfl rfl ?_
                refine d_neu (n_shl rfl rfl (by omega)) rfl rfl ?_
                refine d_neu (n_bits rfl rfl rfl (fun _ => rfl)) rfl rfl ?_
                refine d_neu (n_build rfl) rfl rfl ?_
                refine d_neu (n_buildSlice (c := mergedC) (ys := [⟨l[f].Line, orBit l[f].Parents (bitOf p)⟩]) (asm_cons rfl rfl rfl rfl asm_nil) rfl rfl rfl) rfl rfl ?_
                first | refine d_effv (e_append rfl rfl rfl (.pure _ _ _ _) (by (simp only [List.length_cons, List.length_nil]; omega)) rfl) rfl rfl ?_ | refine d_effv (e_append rfl rfl rfl (.buf _ _ _ _ _) (by (simp only [List.length_cons, List.length_nil]; omega)) rfl) rfl rfl ?_
                refine d_neu (n_assign rfl rfl) rfl rfl ?_
                refine d_nil ?_
                repeat (first | refine then_normal ?_ | refine c_seq ?_ | refine c_block ?_ | refine inB_normal ?_ | refine c_skip ?_ | refine c_exit ?_ | refine then_exit ?_ | refine inB_same rfl ?_ | refine inB_other rfl ?_ | refine c_ret ?_ | refine then_ret ?_ | refine inB_ret ?_)
                refine c_region ?_
                refine l_neu (n_move rfl rfl) rfl ?_
                refine l_neu (n_add rfl rfl (by omega)) rfl ?_
                refine l_neu (n_move rfl rfl) rfl ?_
                refine l_neu (n_add rfl rfl (by omega)) rfl ?_
                refine l_neu (n_assign rfl rfl) rfl ?_
                refine l_neu (n_assign rfl rfl) rfl ?_
                refine l_nil ?_
                repeat (first | refine then_normal ?_ | refine c_seq ?_ | refine c_block ?_ | refine inB_normal ?_ | refine c_skip ?_ | refine c_exit ?_ | refine then_exit ?_ | refine inB_same rfl ?_ | refine inB_other rfl ?_ | refine c_ret ?_ | refine then_ret ?_ | refine inB_ret ?_)
                refine c_region ?_
                refine l_neu (n_move rfl rfl) rfl ?_
                refine l_neu (n_add rfl rfl (by omega)) rfl ?_
                refine l_neu (n_assign rfl rfl) rfl ?_
                refine l_nil ?_
                repeat (first | refine then_normal ?_ | refine c_seq ?_ | refine c_block ?_ | refine inB_normal ?_ | refine c_skip ?_ | refine c_exit ?_ | refine then_exit ?_ | refine inB_same rfl ?_ | refine inB_other rfl ?_ | refine c_ret ?_ | refine then_ret ?_ | refine inB_ret ?_)
                refine ⟨(k + 1, f + 1, g + 1, o2 ++ [⟨l[f].Line, orBit l[f].Parents (bitOf p)⟩]), ⟨by dsimp only; omega, by dsimp only; simp only [List.length_append, List.length_cons, List.length_nil]; omega, by dsimp only; omega, by dsimp only; omega, fun _ => ⟨hasc', ?_⟩, fun h => ?_⟩, by dsimp only; omega, Sees.of ⟨⟨_, rfl, by first | exact .same _ | exact .eq (by first | (simp; done) | (simp; omega)) | exact .list _ _ _ _ _ | exact .nil _ _ _ | exact .any _⟩, ⟨_, rfl, by first | exact .same _ | exact .eq (by first | (simp; done) | (simp; omega)) | exact .list _ _ _ _ _ | exact .nil _ _ _ | exact .any _⟩, ⟨_, rfl, by first | exact .same _ | exact .eq (by first | (simp; done) | (simp; omega)) | exact .list _ _ _ _ _ | exact .nil _ _ _ | exact .any _⟩, ⟨_, rfl, by first | exact .same _ | exact .eq (by first | (simp; done) | (simp; omega)) | exact .list _ _ _ _ _ | exact .nil _ _ _ | exact .any _⟩, ⟨_, rfl, by first | exact .same _ | exact .eq (by first | (simp; done) | (simp; omega)) | exact .list _ _ _ _ _ | exact .nil _ _ _ | exact .any _⟩, ⟨_, rfl, by first | exact .same _ | exact .eq (by first | (simp; done) | (simp; omega)) | exact .list _ _ _ _ _ | exact .nil _ _ _ | exact .any _⟩, ⟨_, rfl, by first | exact .same _ | exact .eq (by first | (simp; done) | (simp; omega)) | exact .list _ _ _ _ _ | exact .nil _ _ _ | exact .any _⟩, ⟨_, rfl, by first | exact .same _ | exact .eq (by first | (simp; done) | (simp; omega)) | exact .list _ _ _ _ _ | exact .nil _ _ _ | exact .any _⟩, trivial⟩ ⟨rfl, trivial⟩⟩
                · rw [← hp]; simp
                · dsimp only at h ⊢
                  omega
              · have hlt : ¬ k < ps.length := by have := of_decide_eq_false ht; omega
                rw [if_neg hlt, List.append_nil] at hp
                repeat (first | refine then_normal ?_ | refine c_seq ?_ | refine c_block ?_ | refine inB_normal ?_ | refine c_skip ?_ | refine c_exit ?_ | refine then_exit ?_ | refine inB_same rfl ?_ | refine inB_other rfl ?_ | refine c_ret ?_ | refine then_ret ?_ | refine inB_ret ?_)
                refine c_region ?_
                refine l_neu (n_move rfl rfl) rfl ?_
                refine l_neu (n_add rfl rfl (by omega)) rfl ?_
                refine l_neu (n_assign rfl rfl) rfl ?_
                refine l_nil ?_
                repeat (first | refine then_normal ?_ | refine c_seq ?_ | refine c_block ?_ | refine inB_normal ?_ | refine c_skip ?_ | refine c_exit ?_ | refine then_exit ?_ | refine inB_same rfl ?_ | refine inB_other rfl ?_ | refine c_ret ?_ | refine then_ret ?_ | refine inB_ret ?_)
                exact ⟨(k + 1, f, g, o2), ⟨by dsimp only; omega, by dsimp only; omega, by dsimp only; omega, by dsimp only; omega, fun h => by dsimp only at h; omega, fun _ => hp⟩, by dsimp only; omega, Sees.of ⟨⟨_, rfl, by first | exact .same _ | exact .eq (by first | (simp; done) | (simp; omega)) | exact .list _ _ _ _ _ | exact .nil _ _ _ | exact .any _⟩, ⟨_, rfl, by first | exact .same _ | exact .eq (by first | (simp; done) | (simp; omega)) | exact .list _ _ _ _ _ | exact .nil _ _ _ | exact .any _⟩, ⟨_, rfl, by first | exact .same _ | exact .eq (by first | (simp; done) | (simp; omega)) | exact .list _ _ _ _ _ | exact .nil _ _ _ | exact .any _⟩, ⟨_, rfl, by first | exact .same _ | exact .eq (by first | (simp; done) | (simp; omega)) | exact .list _ _ _ _ _ | exact .nil _ _ _ | exact .any _⟩, ⟨_, rfl, by first | exact .same _ | exact .eq (by first | (simp; done) | (simp; omega)) | exact .list _ _ _ _ _ | exact .nil _ _ _ | exact .any _⟩, ⟨_, rfl, by first | exact .same _ | exact .eq (by first | (simp; done) | (simp; omega)) | exact .list _ _ _ _ _ | exact .nil _ _ _ | exact .any _⟩, ⟨_, rfl, by first | exact .same _ | exact .eq (by first | (simp; done) | (simp; omega)) | exact .list _ _ _ _ _ | exact .nil _ _ _ | exact .any _⟩, ⟨_, rfl, by first | exact .same _ | exact .eq (by first | (simp; done) | (simp; omega)) | exact .list _ _ _ _ _ | exact .nil _ _ _ | exact .any _⟩, trivial⟩ ⟨rfl, trivial⟩⟩
      · have hk' : k = ps.length + 1 := by have := of_decide_eq_false ht; omega
        repeat (first | refine then_normal ?_ | refine c_seq ?_ | refine c_block ?_ | refine inB_normal ?_ | refine c_skip ?_ | refine c_exit ?_ | refine then_exit ?_ | refine inB_same rfl ?_ | refine inB_other rfl ?_ | refine c_ret ?_ | refine then_ret ?_ | refine inB_ret ?_)
        refine c_region ?_
        refine l_neu (n_move rfl rfl) rfl ?_
        refine l_neu (n_assign rfl rfl) rfl ?_
        refine l_neu (n_assign rfl rfl) rfl ?_
        refine l_nil ?_
        repeat (first | refine then_normal ?_ | refine c_seq ?_ | refine c_block ?_ | refine inB_normal ?_ | refine c_skip ?_ | refine c_exit ?_ | refine then_exit ?_ | refine inB_same rfl ?_ | refine inB_other rfl ?_ | refine c_ret ?_ | refine then_ret ?_ | refine inB_ret ?_)
        exact ret_ret (ret2 rfl rfl rfl rfl rfl) (by rw [h2 hk', hps]; rfl)

theorem joined_length (l : List Merged) (list : List Int) (p : Int) (h1 : l.length ≤ 4096) (h2 : list.length ≤ 4096) : (joinedOf l list p).length ≤ 536870912 := by
  have h3 := joinGo_length l list (bitOf p) (walkGo 0 0 (linesM l) list) 0 0
  have h4 := walkGo_length 0 0 (linesM l) list
  have h5 : (linesM l).length = l.length := by simp [linesM]
  unfold joinedOf
  have h6 : l.length * ((walkGo 0 0 (linesM l) list).length + 1) ≤ 4096 * 4097 := Nat.mul_le_mul h1 (by omega)
  have h7 : list.length * ((walkGo 0 0 (linesM l) list).length + 1) ≤ 4096 * 4097 := Nat.mul_le_mul h2 (by omega)
  omega

theorem coalesce_ok (ls : List (List Int)) : FnOk Try.prog 17 [pIntss ls] (fun rs => rs = [pMerged (coalesceOf ls).1, pInt (coalesceOf ls).2]) := by
  refine FnOk.intro Try.func17 (by decide) rfl rfl rfl ?_
  repeat (first | refine then_normal ?_ | refine c_seq ?_ | refine c_block ?_ | refine inB_normal ?_ | refine c_skip ?_ | refine c_exit ?_ | refine then_exit ?_ | refine inB_same rfl ?_ | refine inB_other rfl ?_ | refine c_ret ?_ | refine then_ret ?_ | refine inB_ret ?_)
  refine c_region ?_
  refine l_neu (n_assign rfl rfl) rfl ?_
  refine l_neu (n_assign rfl rfl) rfl ?_
  refine l_nil ?_
  repeat (first | refine then_normal ?_ | refine c_seq ?_ | refine c_block ?_ | refine inB_normal ?_ | refine c_skip ?_ | refine c_exit ?_ | refine then_exit ?_ | refine inB_same rfl ?_ | refine inB_other rfl ?_ | refine c_ret ?_ | refine then_ret ?_ | refine inB_ret ?_)
  refine c_region ?_
  refine l_neu (n_move rfl rfl) rfl ?_
  first | refine l_neu (n_len rfl (.pure _ _ _ _)) rfl ?_ | refine l_neu (n_len rfl (.buf _ _ _ _ _)) rfl ?_ | refine l_neu (n_len_mut rfl rfl) rfl ?_ | refine l_neu (n_len_mutT rfl rfl) rfl ?_ | refine l_neu (n_len_nil rfl) rfl ?_
  refine l_neu (n_gtr rfl rfl) rfl ?_
  refine l_nil ?_
  repeat (first | refine then_normal ?_ | refine c_seq ?_ | refine c_block ?_ | refine inB_normal ?_ | refine c_skip ?_ | refine c_exit ?_ | refine then_exit ?_ | refine inB_same rfl ?_ | refine inB_other rfl ?_ | refine c_ret ?_ | refine then_ret ?_ | refine inB_ret ?_)
  refine c_cond rfl (fun ht => ?_) (fun ht => ?_)
  · have h := of_decide_eq_true ht
    repeat (first | refine then_normal ?_ | refine c_seq ?_ | refine c_block ?_ | refine inB_normal ?_ | refine c_skip ?_ | refine c_exit ?_ | refine then_exit ?_ | refine inB_same rfl ?_ | refine inB_other rfl ?_ | refine c_ret ?_ | refine then_ret ?_ | refine inB_ret ?_)
    refine c_region ?_
    refine l_neu (n_assign_nil _ 2 mergedC) rfl ?_
    refine l_neu (n_assign rfl rfl) rfl ?_
    refine l_nil ?_
    repeat (first | refine then_normal ?_ | refine c_seq ?_ | refine c_block ?_ | refine inB_normal ?_ | refine c_skip ?_ | refine c_exit ?_ | refine then_exit ?_ | refine inB_same rfl ?_ | refine inB_other rfl ?_ | refine c_ret ?_ | refine then_ret ?_ | refine inB_ret ?_)
    exact ret_ret (ret2 rfl rfl rfl rfl rfl) (by rw [coalesceOf, if_pos (by omega)])
  · have h := of_decide_eq_false ht
    have hco : coalesceOf ls = coalesceFrom [] 0 ls := by rw [coalesceOf, if_neg (by omega)]
    rw [hco]
    repeat (first | refine then_normal ?_ | refine c_seq ?_ | refine c_block ?_ | refine inB_normal ?_ | refine c_skip ?_ | refine c_exit ?_ | refine then_exit ?_ | refine inB_same rfl ?_ | refine inB_other rfl ?_ | refine c_ret ?_ | refine then_ret ?_ | refine inB_ret ?_)
    refine c_region ?_
    refine l_neu (n_assign_nil _ 2 mergedC) rfl ?_
    refine l_nil ?_
    repeat (first | refine then_normal ?_ | refine c_seq ?_ | refine c_block ?_ | refine inB_normal ?_ | refine c_skip ?_ | refine c_exit ?_ | refine then_exit ?_ | refine inB_same rfl ?_ | refine inB_other rfl ?_ | refine c_ret ?_ | refine then_ret ?_ | refine inB_ret ?_)
    refine c_region ?_
    refine l_neu (n_assign rfl rfl) rfl ?_
    refine l_nil ?_
    repeat (first | refine then_normal ?_ | refine c_seq ?_ | refine c_block ?_ | refine inB_normal ?_ | refine c_skip ?_ | refine c_exit ?_ | refine then_exit ?_ | refine inB_same rfl ?_ | refine inB_other rfl ?_ | refine c_ret ?_ | refine then_ret ?_ | refine inB_ret ?_)
    refine c_while (X := Nat × List Merged) (fun x => ([(0, sList (List Int) 1 intsC ls), (4, sList Merged 2 mergedC x.2), (5, sInt x.1)], [])) (fun x => x.1 ≤ ls.length ∧ x.2.length ≤ 536870912 ∧ coalesceFrom [] 0 ls = coalesceFrom x.2 x.1 (ls.drop x.1)) (fun x => ls.length - x.1) (0, []) (by simp) (Sees.of ⟨⟨_, rfl, by first | exact .same _ | exact .eq (by first | (simp; done) | (simp; omega)) | exact .list _ _ _ _ _ | exact .nil _ _ _ | exact .any _⟩, ⟨_, rfl, by first | exact .same _ | exact .eq (by first | (simp; done) | (simp; omega)) | exact .list _ _ _ _ _ | exact .nil _ _ _ | exact .any _⟩, ⟨_, rfl, by first | exact .same _ | exact .eq (by first | (simp; done) | (simp; omega)) | exact .list _ _ _ _ _ | exact .nil _ _ _ | exact .any _⟩, trivial⟩ trivial) ?_
    rintro ⟨k, acc⟩ ⟨hk, hacc, hp⟩
    dsimp only at hk hacc hp ⊢
    repeat (first | refine then_normal ?_ | refine c_seq ?_ | refine c_block ?_ | refine inB_normal ?_ | refine c_skip ?_ | refine c_exit ?_ | refine then_exit ?_ | refine inB_same rfl ?_ | refine inB_other rfl ?_ | refine c_ret ?_ | refine then_ret ?_ | refine inB_ret ?_)
    refine c_region ?_
    refine l_neu (n_move rfl rfl) rfl ?_
    refine l_neu (n_move rfl rfl) rfl ?_
    first | refine l_neu (n_len rfl (.pure _ _ _ _)) rfl ?_ | refine l_neu (n_len rfl (.buf _ _ _ _ _)) rfl ?_ | refine l_neu (n_len_mut rfl rfl) rfl ?_ | refine l_neu (n_len_mutT rfl rfl) rfl ?_ | refine l_neu (n_len_nil rfl) rfl ?_
    refine l_neu (n_lss rfl rfl) rfl ?_
    refine l_nil ?_
    repeat (first | refine then_normal ?_ | refine c_seq ?_ | refine c_block ?_ | refine inB_normal ?_ | refine c_skip ?_ | refine c_exit ?_ | refine then_exit ?_ | refine inB_same rfl ?_ | refine inB_other rfl ?_ | refine c_ret ?_ | refine then_ret ?_ | refine inB_ret ?_)
    refine c_cond rfl (fun ht => ?_) (fun ht => ?_)
    · have hlt : k < ls.length := by have := of_decide_eq_true ht; omega
      have hv : ls[k]? = some ls[k] := by simp [hlt]
      rw [List.drop_eq_getElem_cons hlt, coalesceFrom] at hp
      by_cases hbig : 4096 < acc.length ∨ 4096 < ls[k].length
      · rw [if_pos hbig] at hp
        repeat (first | refine then_normal ?_ | refine c_seq ?_ | refine c_block ?_ | refine inB_normal ?_ | refine c_skip ?_ | refine c_exit ?_ | refine then_exit ?_ | refine inB_same rfl ?_ | refine inB_other rfl ?_ | refine c_ret ?_ | refine then_ret ?_ | refine inB_ret ?_)
        refine c_region ?_
        refine l_neu (n_move rfl rfl) rfl ?_
        refine l_neu (n_move rfl rfl) rfl ?_
        refine l_neu (n_move rfl rfl) rfl ?_
        first | refine l_neu (n_indexAddr rfl (.pure _ _ _ _) rfl (by omega) hv) rfl ?_ | refine l_neu (n_indexAddr rfl (.buf _ _ _ _ _) rfl (by omega) hv) rfl ?_ | refine l_neu (n_indexAddr_mut rfl rfl rfl (by omega) (by omega)) rfl ?_ | refine l_neu (n_indexAddr_mutT rfl rfl rfl (by omega) (by omega)) rfl ?_
        first | refine l_neu (n_load_eref rfl rfl) rfl ?_ | refine l_neu (n_load_ref rfl rfl rfl) rfl ?_ | refine l_neu (n_load_mref rfl rfl (List.getElem?_eq_getElem (by omega)) rfl) rfl ?_ | refine l_neu (n_load_mrefT1 rfl rfl rfl) rfl ?_
        refine l_neu (n_move rfl rfl) rfl ?_
        refine l_call ((join15_ok acc ls[k] k hacc).mono (post' := fun rs => rs = [pMerged [], pInt 1]) (fun rs h => by rw [if_pos hbig] at h; exact h)) rfl rfl rfl ?_
        rintro _ rfl
        refine l_neu (n_move rfl rfl) rfl ?_
        refine l_neu (n_extract rfl rfl) rfl ?_
        refine l_neu (n_extract rfl rfl) rfl ?_
        refine l_neu (n_assign rfl rfl) rfl ?_
        refine l_neu (n_assign rfl rfl) rfl ?_
        refine l_nil ?_
        repeat (first | refine then_normal ?_ | refine c_seq ?_ | refine c_block ?_ | refine inB_normal ?_ | refine c_skip ?_ | refine c_exit ?_ | refine then_exit ?_ | refine inB_same rfl ?_ | refine inB_other rfl ?_ | refine c_ret ?_ | refine then_ret ?_ | refine inB_ret ?_)
        refine c_region ?_
        refine l_neu (n_move rfl rfl) rfl ?_
        refine l_neu (n_neq rfl rfl) rfl ?_
        refine l_nil ?_
        repeat (first | refine then_normal ?_ | refine c_seq ?_ | refine c_block ?_ | refine inB_normal ?_ | refine c_skip ?_ | refine c_exit ?_ | refine then_exit ?_ | refine inB_same rfl ?_ | refine inB_other rfl ?_ | refine c_ret ?_ | refine then_ret ?_ | refine inB_ret ?_)
        refine c_cond rfl (fun ht => ?_) (fun ht => ?_)
        · repeat (first | refine then_normal ?_ | refine c_seq ?_ | refine c_block ?_ | refine inB_normal ?_ | refine c_skip ?_ | refine c_exit ?_ | refine then_exit ?_ | refine inB_same rfl ?_ | refine inB_other rfl ?_ | refine c_ret ?_ | refine then_ret ?_ | refine inB_ret ?_)
          refine c_region ?_
          refine l_neu (n_move rfl rfl) rfl ?_
          refine l_neu (n_assign_nil _ 2 mergedC) rfl ?_
          refine l_neu (n_assign rfl rfl) rfl ?_
          refine l_nil ?_
          repeat (first | refine then_normal ?_ | refine c_seq ?_ | refine c_block ?_ | refine inB_normal ?_ | refine c_skip ?_ | refine c_exit ?_ | refine then_exit ?_ | refine inB_same rfl ?_ | refine inB_other rfl ?_ | refine c_ret ?_ | refine then_ret ?_ | refine inB_ret ?_)
          exact ret_ret (ret2 rfl rfl rfl rfl rfl) (by rw [hp])
        · cases of_decide_eq_false ht (by decide)
      · rw [if_neg hbig] at hp
        have hjl := joined_length acc ls[k] k (by omega) (by omega)
        repeat (first | refine then_normal ?_ | refine c_seq ?_ | refine c_block ?_ | refine inB_normal ?_ | refine c_skip ?_ | refine c_exit ?_ | refine then_exit ?_ | refine inB_same rfl ?_ | refine inB_other rfl ?_ | refine c_ret ?_ | refine then_ret ?_ | refine inB_ret ?_)
        refine c_region ?_
        refine l_neu (n_move rfl rfl) rfl ?_
        refine l_neu (n_move rfl rfl) rfl ?_
        refine l_neu (n_move rfl rfl) rfl ?_
        first | refine l_neu (n_indexAddr rfl (.pure _ _ _ _) rfl (by omega) hv) rfl ?_ | refine l_neu (n_indexAddr rfl (.buf _ _ _ _ _) rfl (by omega) hv) rfl ?_ | refine l_neu (n_indexAddr_mut rfl rfl rfl (by omega) (by omega)) rfl ?_ | refine l_neu (n_indexAddr_mutT rfl rfl rfl (by omega) (by omega)) rfl ?_
        first | refine l_neu (n_load_eref rfl rfl) rfl ?_ | refine l_neu (n_load_ref rfl rfl rfl) rfl ?_ | refine l_neu (n_load_mref rfl rfl (List.getElem?_eq_getElem (by omega)) rfl) rfl ?_ | refine l_neu (n_load_mrefT1 rfl rfl rfl) rfl ?_
        refine l_neu (n_move rfl rfl) rfl ?_
        refine l_call ((join15_ok acc ls[k] k hacc).mono (post' := fun rs => rs = [pMerged (joinedOf acc ls[k] k), pInt 0]) (fun rs h => by rw [if_neg hbig] at h; exact h)) rfl rfl rfl ?_
        rintro _ rfl
        refine l_neu (n_move rfl rfl) rfl ?_
        refine l_neu (n_extract rfl rfl) rfl ?_
        refine l_neu (n_extract rfl rfl) rfl ?_
        refine l_neu (n_assign rfl rfl) rfl ?_
        refine l_neu (n_assign rfl rfl) rfl ?_
        refine l_nil ?_
        repeat (first | refine then_normal ?_ | refine c_seq ?_ | refine c_block ?_ | refine inB_normal ?_ | refine c_skip ?_ | refine c_exit ?_ | refine then_exit ?_ | refine inB_same rfl ?_ | refine inB_other rfl ?_ | refine c_ret ?_ | refine then_ret ?_ | refine inB_ret ?_)
        refine c_region ?_
        refine l_neu (n_move rfl rfl) rfl ?_
        refine l_neu (n_neq rfl rfl) rfl ?_
        refine l_nil ?_
        repeat (first | refine then_normal ?_ | refine c_seq ?_ | refine c_block ?_ | refine inB_normal ?_ | refine c_skip ?_ | refine c_exit ?_ | refine then_exit ?_ | refine inB_same rfl ?_ | refine inB_other rfl ?_ | refine c_ret ?_ | refine then_ret ?_ | refine inB_ret ?_)
        refine c_cond rfl (fun ht => ?_) (fun ht => ?_)
        · cases of_decide_eq_true ht rfl
        · repeat (first | refine then_normal ?_ | refine c_seq ?_ | refine c_block ?_ | refine inB_normal ?_ | refine c_skip ?_ | refine c_exit ?_ | refine then_exit ?_ | refine inB_same rfl ?_ | refine inB_other rfl ?_ | refine c_ret ?_ | refine then_ret ?_ | refine inB_ret ?_)
          refine c_region ?_
          refine l_neu (n_move rfl rfl) rfl ?_
          refine l_neu (n_assign rfl rfl) rfl ?_
          refine l_nil ?_
          repeat (first | refine then_normal ?_ | refine c_seq ?_ | refine c_block ?_ | refine inB_normal ?_ | refine c_skip ?_ | refine c_exit ?_ | refine then_exit ?_ | refine inB_same rfl ?_ | refine inB_other rfl ?_ | refine c_ret ?_ | refine then_ret ?_ | refine inB_ret ?_)
          refine c_region ?_
          refine l_neu (n_move rfl rfl) rfl ?_
          refine l_neu (n_add rfl rfl (by omega)) rfl ?_
          refine l_neu (n_assign rfl rfl) rfl ?_
          refine l_nil ?_
          repeat (first | refine then_normal ?_ | refine c_seq ?_ | refine c_block ?_ | refine inB_normal ?_ | refine c_skip ?_ | refine c_exit ?_ | refine then_exit ?_ | refine inB_same rfl ?_ | refine inB_other rfl ?_ | refine c_ret ?_ | refine then_ret ?_ | refine inB_ret ?_)
          exact ⟨(k + 1, joinedOf acc ls[k] k), ⟨by dsimp only; omega, hjl, hp⟩, by dsimp only; omega, Sees.of ⟨⟨_, rfl, by first | exact .same _ | exact .eq (by first | (simp; done) | (simp; omega)) | exact .list _ _ _ _ _ | exact .nil _ _ _ | exact .any _⟩, ⟨_, rfl, by first | exact .same _ | exact .eq (by first | (simp; done) | (simp; omega)) | exact .list _ _ _ _ _ | exact .nil _ _ _ | exact .any _⟩, ⟨_, rfl, by first | exact .same _ | exact .eq (by first | (simp; done) | (simp; omega)) | exact .list _ _ _ _ _ | exact .nil _ _ _ | exact .any _⟩, trivial⟩ trivial⟩
    · have hk' : k = ls.length := by have := of_decide_eq_false ht; omega
      rw [hk', List.drop_eq_nil_of_le (Nat.le_refl _)] at hp
      repeat (first | refine then_normal ?_ | refine c_seq ?_ | refine c_block ?_ | refine inB_normal ?_ | refine c_skip ?_ | refine c_exit ?_ | refine then_exit ?_ | refine inB_same rfl ?_ | refine inB_other rfl ?_ | refine c_ret ?_ | refine then_ret ?_ | refine inB_ret ?_)
      refine c_region ?_
      refine l_neu (n_move rfl rfl) rfl ?_
      refine l_neu (n_assign rfl rfl) rfl ?_
      refine l_neu (n_assign rfl rfl) rfl ?_
      refine l_nil ?_
      repeat (first | refine then_normal ?_ | refine c_seq ?_ | refine c_block ?_ | refine inB_normal ?_ | refine c_skip ?_ | refine c_exit ?_ | refine then_exit ?_ | refine inB_same rfl ?_ | refine inB_other rfl ?_ | refine c_ret ?_ | refine then_ret ?_ | refine inB_ret ?_)
      exact ret_ret (ret2 rfl rfl rfl rfl rfl) (by rw [hp]; rfl)
end Go.Proofs.Ytljfkoaafocglaa
