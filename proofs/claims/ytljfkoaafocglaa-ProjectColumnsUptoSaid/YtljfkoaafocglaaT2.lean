/- The reference's functions of texts, by the abstract logic. -/
import Derived.Test.YtljfkoaafocglaaTy
import Derived.Test.YtljfkoaafocglaaS1
namespace Go.Proofs.Ytljfkoaafocglaa
open Go Go.AL
set_option maxRecDepth 100000

theorem u64_nonneg (p : Int) : 0 ≤ IntKind.u64.wrap p := by simp [IntKind.wrap, IntKind.signed, IntKind.bits]; omega

theorem ended_ok (s : Str) (hs : s.length ≤ 1099511627776) : FnOk Try.prog 49 [pStr s] (fun rs => rs = [pBool (ended s)]) := by
  refine FnOk.intro Try.func49 (by decide) rfl rfl rfl ?_
  repeat (first | refine then_normal ?_ | refine c_seq ?_ | refine c_block ?_ | refine inB_normal ?_ | refine c_skip ?_ | refine c_exit ?_ | refine then_exit ?_ | refine inB_same rfl ?_ | refine inB_other rfl ?_ | refine c_ret ?_ | refine then_ret ?_ | refine inB_ret ?_)
  refine c_region ?_
  refine l_neu (n_assign rfl rfl) rfl ?_
  refine l_nil ?_
  repeat (first | refine then_normal ?_ | refine c_seq ?_ | refine c_block ?_ | refine inB_normal ?_ | refine c_skip ?_ | refine c_exit ?_ | refine then_exit ?_ | refine inB_same rfl ?_ | refine inB_other rfl ?_ | refine c_ret ?_ | refine then_ret ?_ | refine inB_ret ?_)
  have hl : s ≠ [] → s[((s.length : Int) - 1).toNat]? = some (s.getLastD 0) := by
    intro h
    have h1 : 0 < s.length := List.length_pos_iff.2 h
    have h2 : ((s.length : Int) - 1).toNat = s.length - 1 := by omega
    rw [h2, ← List.getLast?_eq_getElem?, List.getLast?_eq_some_getLast h, List.getLastD_eq_getLast?, List.getLast?_eq_some_getLast h]
    rfl
  refine c_region ?_
  refine l_neu (n_move rfl rfl) rfl ?_
  refine l_neu (n_neq_s rfl rfl) rfl ?_
  refine l_neu (n_move rfl rfl) rfl ?_
  refine l_guard rfl rfl rfl rfl (fun hg => by rw [hg]; exact n_move rfl rfl) ?_
  refine l_guard rfl rfl rfl rfl (fun hg => by rw [hg]; exact n_move rfl rfl) ?_
  refine l_guard rfl rfl rfl rfl (fun hg => by rw [hg]; exact n_len_s rfl) ?_
  refine l_guard rfl rfl rfl rfl (fun hg => by have hq := hg; (try simp at hq); rw [hg]; exact n_sub rfl rfl (by omega)) ?_
  refine l_guard rfl rfl rfl rfl (fun hg => by have hq := hg; (try simp at hq); have h1 := List.length_pos_iff.2 hq; rw [hg]; exact n_index_s rfl rfl (by omega) (hl hq)) ?_
  refine l_guard rfl rfl rfl rfl (fun hg => by rw [hg]; exact n_eql rfl rfl) ?_
  refine l_neu (n_pick_bool rfl (fun h => by first | rfl | (rw [h]; rfl)) (fun h => by first | rfl | (rw [h]; rfl))) rfl ?_
  refine l_neu (n_assign rfl rfl) rfl ?_
  refine l_nil ?_
  repeat (first | refine then_normal ?_ | refine c_seq ?_ | refine c_block ?_ | refine inB_normal ?_ | refine c_skip ?_ | refine c_exit ?_ | refine then_exit ?_ | refine inB_same rfl ?_ | refine inB_other rfl ?_ | refine c_ret ?_ | refine then_ret ?_ | refine inB_ret ?_)
  refine ret_ret (ret1 rfl rfl rfl) ?_
  rw [ended_eq]

theorem lines_ok (b : Str) (hb : b.length ≤ 536870912) : FnOk Try.prog 11 [pStr b] (fun rs => rs = [pStrs (linesOf b)]) := by
  refine FnOk.intro Try.func11 (by decide) rfl rfl rfl ?_
  repeat (first | refine then_normal ?_ | refine c_seq ?_ | refine c_block ?_ | refine inB_normal ?_ | refine c_skip ?_ | refine c_exit ?_ | refine then_exit ?_ | refine inB_same rfl ?_ | refine inB_other rfl ?_ | refine c_ret ?_ | refine then_ret ?_ | refine inB_ret ?_)
  refine c_region ?_
  refine l_neu (n_assign rfl rfl) rfl ?_
  refine l_nil ?_
  repeat (first | refine then_normal ?_ | refine c_seq ?_ | refine c_block ?_ | refine inB_normal ?_ | refine c_skip ?_ | refine c_exit ?_ | refine then_exit ?_ | refine inB_same rfl ?_ | refine inB_other rfl ?_ | refine c_ret ?_ | refine then_ret ?_ | refine inB_ret ?_)
  refine c_region ?_
  refine l_effv (f_adopt 3 _ strC rfl) rfl ?_
  refine l_nil ?_
  repeat (first | refine then_normal ?_ | refine c_seq ?_ | refine c_block ?_ | refine inB_normal ?_ | refine c_skip ?_ | refine c_exit ?_ | refine then_exit ?_ | refine inB_same rfl ?_ | refine inB_other rfl ?_ | refine c_ret ?_ | refine then_ret ?_ | refine inB_ret ?_)
  refine c_region ?_
  refine l_neu (n_assign rfl rfl) rfl ?_
  refine l_nil ?_
  repeat (first | refine then_normal ?_ | refine c_seq ?_ | refine c_block ?_ | refine inB_normal ?_ | refine c_skip ?_ | refine c_exit ?_ | refine then_exit ?_ | refine inB_same rfl ?_ | refine inB_other rfl ?_ | refine c_ret ?_ | refine then_ret ?_ | refine inB_ret ?_)
  refine c_region ?_
  refine l_neu (n_assign rfl rfl) rfl ?_
  refine l_nil ?_
  repeat (first | refine then_normal ?_ | refine c_seq ?_ | refine c_block ?_ | refine inB_normal ?_ | refine c_skip ?_ | refine c_exit ?_ | refine then_exit ?_ | refine inB_same rfl ?_ | refine inB_other rfl ?_ | refine c_ret ?_ | refine then_ret ?_ | refine inB_ret ?_)
  refine c_while (X := Nat × Nat × List Str) (fun x => ([(0, sStr b), (3, .s (.one (.buf 3 Str 1 strC x.2.2))), (4, sInt x.2.1), (5, sInt x.1)], [(3, .spare x.2.2.length 1 9)]))
    (fun x => x.1 ≤ b.length ∧ x.2.1 ≤ x.1 ∧ x.2.2.length ≤ x.1 ∧ (x.1 = b.length → x.2.1 = x.1) ∧ x.2.2 ++ linesAux ((b.drop x.2.1).take (x.1 - x.2.1)) (b.drop x.1) = linesOf b) (fun x => b.length - x.1) (0, 0, []) (by simp [linesOf]) ?_ ?_
  · exact Sees.of ⟨⟨_, rfl, .same _⟩, ⟨_, rfl, .same _⟩, ⟨_, rfl, .same _⟩, ⟨_, rfl, .same _⟩, trivial⟩ ⟨rfl, trivial⟩
  · rintro ⟨i, from', out⟩ ⟨hi, hf, ho, he, hp⟩
    dsimp only at hi hf ho he hp ⊢
    repeat (first | refine then_normal ?_ | refine c_seq ?_ | refine c_block ?_ | refine inB_normal ?_ | refine c_skip ?_ | refine c_exit ?_ | refine then_exit ?_ | refine inB_same rfl ?_ | refine inB_other rfl ?_ | refine c_ret ?_ | refine then_ret ?_ | refine inB_ret ?_)
    refine c_region ?_
    refine l_neu (n_move rfl rfl) rfl ?_
    refine l_neu (n_move rfl rfl) rfl ?_
    refine l_neu (n_len_s rfl) rfl ?_
    refine l_neu (n_lss rfl rfl) rfl ?_
    refine l_nil ?_
    repeat (first | refine then_normal ?_ | refine c_seq ?_ | refine c_block ?_ | refine inB_normal ?_ | refine c_skip ?_ | refine c_exit ?_ | refine then_exit ?_ | refine inB_same rfl ?_ | refine inB_other rfl ?_ | refine c_ret ?_ | refine then_ret ?_ | refine inB_ret ?_)
    refine c_cond rfl (fun ht => ?_) (fun ht => ?_)
    · have hlt : i < b.length := by simpa using ht
      have hv : b[i]? = some b[i] := by simp [hlt]
      repeat (first | refine then_normal ?_ | refine c_seq ?_ | refine c_block ?_ | refine inB_normal ?_ | refine c_skip ?_ | refine c_exit ?_ | refine then_exit ?_ | refine inB_same rfl ?_ | refine inB_other rfl ?_ | refine c_ret ?_ | refine then_ret ?_ | refine inB_ret ?_)
      refine c_region ?_
      refine l_neu (n_move rfl rfl) rfl ?_
      refine l_neu (n_move rfl rfl) rfl ?_
      refine l_neu (n_index_s rfl rfl (by omega) hv) rfl ?_
      refine l_neu (n_eql rfl rfl) rfl ?_
      refine l_neu (n_move rfl rfl) rfl ?_
      refine l_guard rfl rfl rfl rfl (fun hg => by rw [hg]; exact n_move rfl rfl) ?_
      refine l_guard rfl rfl rfl rfl (fun hg => by have hq := hg; (try simp at hq); rw [hg]; exact n_add rfl rfl (by omega)) ?_
      refine l_guard rfl rfl rfl rfl (fun hg => by rw [hg]; exact n_move rfl rfl) ?_
      refine l_guard rfl rfl rfl rfl (fun hg => by rw [hg]; exact n_len_s rfl) ?_
      refine l_guard rfl rfl rfl rfl (fun hg => by rw [hg]; exact n_eql rfl rfl) ?_
      refine l_neu (n_pick_bool rfl (fun h => by first | rfl | (rw [h]; rfl)) (fun h => by first | rfl | (rw [h]; rfl))) rfl ?_
      refine l_nil ?_
      repeat (first | refine then_normal ?_ | refine c_seq ?_ | refine c_block ?_ | refine inB_normal ?_ | refine c_skip ?_ | refine c_exit ?_ | refine then_exit ?_ | refine inB_same rfl ?_ | refine inB_other rfl ?_ | refine c_ret ?_ | refine then_ret ?_ | refine inB_ret ?_)
      refine c_cond rfl (fun ht2 => ?_) (fun ht2 => ?_)
      · repeat (first | refine then_normal ?_ | refine c_seq ?_ | refine c_block ?_ | refine inB_normal ?_ | refine c_skip ?_ | refine c_exit ?_ | refine then_exit ?_ | refine inB_same rfl ?_ | refine inB_other rfl ?_ | refine c_ret ?_ | refine then_ret ?_ | refine inB_ret ?_)
        refine c_region ?_
        refine l_neu (n_move rfl rfl) rfl ?_
        refine l_neu (n_move rfl rfl) rfl ?_
        refine l_neu (n_move rfl rfl) rfl ?_
        refine l_neu (n_move rfl rfl) rfl ?_
        refine l_neu (n_add rfl rfl (by omega)) rfl ?_
        refine l_neu (n_sub_lh rfl rfl rfl (by omega) (by omega) (by omega)) rfl ?_
        refine l_neu (n_buildSlice (c := strC) (ys := [_]) (asm_cons rfl rfl rfl rfl asm_nil) rfl rfl rfl) rfl ?_
        first | refine l_effv (e_append rfl rfl rfl (.pure _ _ _ _) (by simp; omega) rfl) rfl ?_ | refine l_effv (e_append rfl rfl rfl (.buf _ _ _ _ _) (by simp; omega) rfl) rfl ?_
        refine l_neu (n_assign rfl rfl) rfl ?_
        refine l_nil ?_
        repeat (first | refine then_normal ?_ | refine c_seq ?_ | refine c_block ?_ | refine inB_normal ?_ | refine c_skip ?_ | refine c_exit ?_ | refine then_exit ?_ | refine inB_same rfl ?_ | refine inB_other rfl ?_ | refine c_ret ?_ | refine then_ret ?_ | refine inB_ret ?_)
        refine c_region ?_
        refine l_neu (n_move rfl rfl) rfl ?_
        refine l_neu (n_add rfl rfl (by omega)) rfl ?_
        refine l_neu (n_assign rfl rfl) rfl ?_
        refine l_nil ?_
        repeat (first | refine then_normal ?_ | refine c_seq ?_ | refine c_block ?_ | refine inB_normal ?_ | refine c_skip ?_ | refine c_exit ?_ | refine then_exit ?_ | refine inB_same rfl ?_ | refine inB_other rfl ?_ | refine c_ret ?_ | refine then_ret ?_ | refine inB_ret ?_)
        refine c_region ?_
        refine l_neu (n_move rfl rfl) rfl ?_
        refine l_neu (n_add rfl rfl (by omega)) rfl ?_
        refine l_neu (n_assign rfl rfl) rfl ?_
        refine l_nil ?_
        repeat (first | refine then_normal ?_ | refine c_seq ?_ | refine c_block ?_ | refine inB_normal ?_ | refine c_skip ?_ | refine c_exit ?_ | refine then_exit ?_ | refine inB_same rfl ?_ | refine inB_other rfl ?_ | refine c_ret ?_ | refine then_ret ?_ | refine inB_ret ?_)
        refine ⟨(i + 1, i + 1, _), ⟨?_, ?_, ?_, ?_, ?_⟩, ?_, Sees.of ⟨⟨_, rfl, .same _⟩, ⟨_, rfl, .same _⟩, ⟨_, rfl, .same _⟩, ⟨_, rfl, .same _⟩, trivial⟩ ⟨rfl, trivial⟩⟩
        all_goals dsimp only
        · omega
        · omega
        · simp; omega
        · omega
        · have hc : b[i] = 10 ∨ i + 1 = b.length := by
            simp only [u8_lf] at ht2
            by_cases h : b[i] = 10
            · exact .inl h
            · simp [h] at ht2; exact .inr (by omega)
          rw [toNat_succ, Int.toNat_natCast, Nat.sub_self, List.take_zero, ← part_snoc b from' i hf hlt, List.append_assoc, ← hp, List.drop_eq_getElem_cons hlt, linesAux_step]
          rcases hc with h | h
          · rw [if_pos h]; rfl
          · have hd : b.drop (i + 1) = [] := List.drop_eq_nil_of_le (by omega)
            rw [hd]
            split
            · rfl
            · rw [show linesAux ([] : Str) [] = [] from rfl, linesAux_end _ (by simp)]; simp
        · omega
      · repeat (first | refine then_normal ?_ | refine c_seq ?_ | refine c_block ?_ | refine inB_normal ?_ | refine c_skip ?_ | refine c_exit ?_ | refine then_exit ?_ | refine inB_same rfl ?_ | refine inB_other rfl ?_ | refine c_ret ?_ | refine then_ret ?_ | refine inB_ret ?_)
        refine c_region ?_
        refine l_neu (n_move rfl rfl) rfl ?_
        refine l_neu (n_add rfl rfl (by omega)) rfl ?_
        refine l_neu (n_assign rfl rfl) rfl ?_
        refine l_nil ?_
        repeat (first | refine then_normal ?_ | refine c_seq ?_ | refine c_block ?_ | refine inB_normal ?_ | refine c_skip ?_ | refine c_exit ?_ | refine then_exit ?_ | refine inB_same rfl ?_ | refine inB_other rfl ?_ | refine c_ret ?_ | refine then_ret ?_ | refine inB_ret ?_)
        refine ⟨(i + 1, from', out), ⟨?_, ?_, ?_, ?_, ?_⟩, ?_, Sees.of ⟨⟨_, rfl, .same _⟩, ⟨_, rfl, .same _⟩, ⟨_, rfl, .same _⟩, ⟨_, rfl, .same _⟩, trivial⟩ ⟨rfl, trivial⟩⟩
        all_goals dsimp only
        · omega
        · omega
        · omega
        · intro h
          simp [show (i : Int) + 1 = (b.length : Int) by omega] at ht2
        · have hc : b[i] ≠ 10 := fun h => by simp [h] at ht2
          rw [← part_snoc b from' i hf hlt, ← hp, List.drop_eq_getElem_cons hlt, linesAux_step, if_neg hc]
        · omega
    · repeat (first | refine then_normal ?_ | refine c_seq ?_ | refine c_block ?_ | refine inB_normal ?_ | refine c_skip ?_ | refine c_exit ?_ | refine then_exit ?_ | refine inB_same rfl ?_ | refine inB_other rfl ?_ | refine c_ret ?_ | refine then_ret ?_ | refine inB_ret ?_)
      refine c_region ?_
      refine l_neu (n_move rfl rfl) rfl ?_
      refine l_neu (n_assign rfl rfl) rfl ?_
      refine l_nil ?_
      repeat (first | refine then_normal ?_ | refine c_seq ?_ | refine c_block ?_ | refine inB_normal ?_ | refine c_skip ?_ | refine c_exit ?_ | refine then_exit ?_ | refine inB_same rfl ?_ | refine inB_other rfl ?_ | refine c_ret ?_ | refine then_ret ?_ | refine inB_ret ?_)
      refine ret_ret (ret1 rfl rfl rfl) ?_
      have hi' : i = b.length := by simp at ht; omega
      subst hi'
      have := he rfl
      subst this
      rw [Nat.sub_self, List.take_zero, List.drop_eq_nil_of_le (Nat.le_refl _)] at hp
      rw [← hp]; simp [linesAux]

theorem check_ok (b : Str) (hb : b.length ≤ 1099511627776) : FnOk Try.prog 12 [pStr b] (fun rs => rs = [pInt (checkOf b)]) := by
  refine FnOk.intro Try.func12 (by decide) rfl rfl rfl ?_
  repeat (first | refine then_normal ?_ | refine c_seq ?_ | refine c_block ?_ | refine inB_normal ?_ | refine c_skip ?_ | refine c_exit ?_ | refine then_exit ?_ | refine inB_same rfl ?_ | refine inB_other rfl ?_ | refine c_ret ?_ | refine then_ret ?_ | refine inB_ret ?_)
  refine c_region ?_
  refine l_neu (n_assign rfl rfl) rfl ?_
  refine l_nil ?_
  repeat (first | refine then_normal ?_ | refine c_seq ?_ | refine c_block ?_ | refine inB_normal ?_ | refine c_skip ?_ | refine c_exit ?_ | refine then_exit ?_ | refine inB_same rfl ?_ | refine inB_other rfl ?_ | refine c_ret ?_ | refine then_ret ?_ | refine inB_ret ?_)
  refine c_region ?_
  refine l_neu (n_move rfl rfl) rfl ?_
  refine l_neu (n_len_s rfl) rfl ?_
  refine l_neu (n_gtr rfl rfl) rfl ?_
  refine l_neu (n_move rfl rfl) rfl ?_
  refine l_guard rfl rfl rfl rfl (fun hg => by rw [hg]; exact n_move rfl rfl) ?_
  refine l_guard rfl rfl rfl rfl (fun hg => by have hq := hg; (try simp at hq); rw [hg]; exact n_call1 (lines_ok b (by omega)) rfl rfl) ?_
  first | refine l_guard rfl rfl rfl rfl (fun hg => by rw [hg]; exact n_len rfl (.pure _ _ _ _)) ?_ | refine l_guard rfl rfl rfl rfl (fun hg => by rw [hg]; exact n_len rfl (.buf _ _ _ _ _)) ?_ | refine l_guard rfl rfl rfl rfl (fun hg => by rw [hg]; exact n_len_mut rfl rfl) ?_ | refine l_guard rfl rfl rfl rfl (fun hg => by rw [hg]; exact n_len_mutT rfl rfl) ?_ | refine l_guard rfl rfl rfl rfl (fun hg => by rw [hg]; exact n_len_nil rfl) ?_
  refine l_guard rfl rfl rfl rfl (fun hg => by rw [hg]; exact n_gtr rfl rfl) ?_
  refine l_neu (n_pick_bool rfl (fun h => by first | rfl | (rw [h]; rfl)) (fun h => by first | rfl | (rw [h]; rfl))) rfl ?_
  refine l_nil ?_
  repeat (first | refine then_normal ?_ | refine c_seq ?_ | refine c_block ?_ | refine inB_normal ?_ | refine c_skip ?_ | refine c_exit ?_ | refine then_exit ?_ | refine inB_same rfl ?_ | refine inB_other rfl ?_ | refine c_ret ?_ | refine then_ret ?_ | refine inB_ret ?_)
  refine c_cond rfl (fun ht => ?_) (fun ht => ?_)
  · have h := of_decide_eq_true (or_pick.symm.trans ht)
    repeat (first | refine then_normal ?_ | refine c_seq ?_ | refine c_block ?_ | refine inB_normal ?_ | refine c_skip ?_ | refine c_exit ?_ | refine then_exit ?_ | refine inB_same rfl ?_ | refine inB_other rfl ?_ | refine c_ret ?_ | refine then_ret ?_ | refine inB_ret ?_)
    refine c_region ?_
    refine l_neu (n_assign rfl rfl) rfl ?_
    refine l_nil ?_
    repeat (first | refine then_normal ?_ | refine c_seq ?_ | refine c_block ?_ | refine inB_normal ?_ | refine c_skip ?_ | refine c_exit ?_ | refine then_exit ?_ | refine inB_same rfl ?_ | refine inB_other rfl ?_ | refine c_ret ?_ | refine then_ret ?_ | refine inB_ret ?_)
    exact ret_ret (ret1 rfl rfl rfl) (by rw [checkOf, if_pos (by omega)])
  · have h := of_decide_eq_false (or_pick.symm.trans ht)
    repeat (first | refine then_normal ?_ | refine c_seq ?_ | refine c_block ?_ | refine inB_normal ?_ | refine c_skip ?_ | refine c_exit ?_ | refine then_exit ?_ | refine inB_same rfl ?_ | refine inB_other rfl ?_ | refine c_ret ?_ | refine then_ret ?_ | refine inB_ret ?_)
    refine c_region ?_
    refine l_neu (n_assign rfl rfl) rfl ?_
    refine l_nil ?_
    repeat (first | refine then_normal ?_ | refine c_seq ?_ | refine c_block ?_ | refine inB_normal ?_ | refine c_skip ?_ | refine c_exit ?_ | refine then_exit ?_ | refine inB_same rfl ?_ | refine inB_other rfl ?_ | refine c_ret ?_ | refine then_ret ?_ | refine inB_ret ?_)
    exact ret_ret (ret1 rfl rfl rfl) (by rw [checkOf, if_neg (by omega)])

theorem list_ok (l : List Str) (hl : ∀ s ∈ l, s.length ≤ 1099511627776) : FnOk Try.prog 37 [pStrs l] (fun rs => rs = [pBool (listOk l)]) := by
  refine FnOk.intro Try.func37 (by decide) rfl rfl rfl ?_
  refine c_bound (t := 0) rfl (.pure _ _ _ _) fun hlen => ?_
  repeat (first | refine then_normal ?_ | refine c_seq ?_ | refine c_block ?_ | refine inB_normal ?_ | refine c_skip ?_ | refine c_exit ?_ | refine then_exit ?_ | refine inB_same rfl ?_ | refine inB_other rfl ?_ | refine c_ret ?_ | refine then_ret ?_ | refine inB_ret ?_)
  refine c_region ?_
  refine l_neu (n_assign rfl rfl) rfl ?_
  refine l_nil ?_
  repeat (first | refine then_normal ?_ | refine c_seq ?_ | refine c_block ?_ | refine inB_normal ?_ | refine c_skip ?_ | refine c_exit ?_ | refine then_exit ?_ | refine inB_same rfl ?_ | refine inB_other rfl ?_ | refine c_ret ?_ | refine then_ret ?_ | refine inB_ret ?_)
  refine c_region ?_
  refine l_neu (n_assign rfl rfl) rfl ?_
  refine l_nil ?_
  repeat (first | refine then_normal ?_ | refine c_seq ?_ | refine c_block ?_ | refine inB_normal ?_ | refine c_skip ?_ | refine c_exit ?_ | refine then_exit ?_ | refine inB_same rfl ?_ | refine inB_other rfl ?_ | refine c_ret ?_ | refine then_ret ?_ | refine inB_ret ?_)
  refine c_while (X := Nat) (fun i => ([(0, sList Str 1 strC l), (3, sInt i)], [])) (fun i => i ≤ l.length ∧ listOk l = listOk (l.drop i)) (fun i => l.length - i) 0 (by simp) (Sees.of ⟨⟨_, rfl, by first | exact .same _ | exact .eq (by first | (simp; done) | (simp; omega)) | exact .list _ _ _ _ _ | exact .nil _ _ _ | exact .any _⟩, ⟨_, rfl, by first | exact .same _ | exact .eq (by first | (simp; done) | (simp; omega)) | exact .list _ _ _ _ _ | exact .nil _ _ _ | exact .any _⟩, trivial⟩ trivial) ?_
  rintro i ⟨hi, hp⟩
  dsimp only at hi hp ⊢
  repeat (first | refine then_normal ?_ | refine c_seq ?_ | refine c_block ?_ | refine inB_normal ?_ | refine c_skip ?_ | refine c_exit ?_ | refine then_exit ?_ | refine inB_same rfl ?_ | refine inB_other rfl ?_ | refine c_ret ?_ | refine then_ret ?_ | refine inB_ret ?_)
  refine c_region ?_
  refine l_neu (n_move rfl rfl) rfl ?_
  refine l_neu (n_move rfl rfl) rfl ?_
  first | refine l_neu (n_len rfl (.pure _ _ _ _)) rfl ?_ | refine l_neu (n_len rfl (.buf _ _ _ _ _)) rfl ?_ | refine l_neu (n_len_mut rfl rfl) rfl ?_ | refine l_neu (n_len_mutT rfl rfl) rfl ?_ | refine l_neu (n_len_nil rfl) rfl ?_
  refine l_neu (n_lss rfl rfl) rfl ?_
  refine l_nil ?_
  repeat (first | refine then_normal ?_ | refine c_seq ?_ | refine c_block ?_ | refine inB_normal ?_ | refine c_skip ?_ | refine c_exit ?_ | refine then_exit ?_ | refine inB_same rfl ?_ | refine inB_other rfl ?_ | refine c_ret ?_ | refine then_ret ?_ | refine inB_ret ?_)
  refine c_cond rfl (fun ht => ?_) (fun ht => ?_)
  · have hlt : i < l.length := by simpa using ht
    have hv : l[i]? = some l[i] := by simp [hlt]
    have hs := hl l[i] (List.getElem_mem hlt)
    rw [List.drop_eq_getElem_cons hlt] at hp
    repeat (first | refine then_normal ?_ | refine c_seq ?_ | refine c_block ?_ | refine inB_normal ?_ | refine c_skip ?_ | refine c_exit ?_ | refine then_exit ?_ | refine inB_same rfl ?_ | refine inB_other rfl ?_ | refine c_ret ?_ | refine then_ret ?_ | refine inB_ret ?_)
    refine c_region ?_
    refine l_neu (n_assign rfl rfl) rfl ?_
    refine l_nil ?_
    repeat (first | refine then_normal ?_ | refine c_seq ?_ | refine c_block ?_ | refine inB_normal ?_ | refine c_skip ?_ | refine c_exit ?_ | refine then_exit ?_ | refine inB_same rfl ?_ | refine inB_other rfl ?_ | refine c_ret ?_ | refine then_ret ?_ | refine inB_ret ?_)
    refine c_while (X := Nat) (fun k => ([(0, sList Str 1 strC l), (3, sInt i), (4, sInt k)], [])) (fun k => k ≤ l[i].length ∧ lineOk l[i] = ((l[i].dropLast.drop k).all (· ≠ 10) && l[i] != [])) (fun k => l[i].length - k) 0 (by simp [lineOk]) (Sees.of ⟨⟨_, rfl, by first | exact .same _ | exact .eq (by first | (simp; done) | (simp; omega)) | exact .list _ _ _ _ _ | exact .nil _ _ _ | exact .any _⟩, ⟨_, rfl, by first | exact .same _ | exact .eq (by first | (simp; done) | (simp; omega)) | exact .list _ _ _ _ _ | exact .nil _ _ _ | exact .any _⟩, ⟨_, rfl, by first | exact .same _ | exact .eq (by first | (simp; done) | (simp; omega)) | exact .list _ _ _ _ _ | exact .nil _ _ _ | exact .any _⟩, trivial⟩ trivial) ?_
    intro k hk
    dsimp only at hk ⊢
    repeat (first | refine then_normal ?_ | refine c_seq ?_ | refine c_block ?_ | refine inB_normal ?_ | refine c_skip ?_ | refine c_exit ?_ | refine then_exit ?_ | refine inB_same rfl ?_ | refine inB_other rfl ?_ | refine c_ret ?_ | refine then_ret ?_ | refine inB_ret ?_)
    refine c_region ?_
    refine l_neu (n_move rfl rfl) rfl ?_
    refine l_neu (n_add rfl rfl (by omega)) rfl ?_
    refine l_neu (n_move rfl rfl) rfl ?_
    refine l_neu (n_move rfl rfl) rfl ?_
    first | refine l_neu (n_indexAddr rfl (.pure _ _ _ _) rfl (by omega) hv) rfl ?_ | refine l_neu (n_indexAddr rfl (.buf _ _ _ _ _) rfl (by omega) hv) rfl ?_ | refine l_neu (n_indexAddr_mut rfl rfl rfl (by omega) (by omega)) rfl ?_ | refine l_neu (n_indexAddr_mutT rfl rfl rfl (by omega) (by omega)) rfl ?_
    first | refine l_neu (n_load_eref rfl rfl) rfl ?_ | refine l_neu (n_load_ref rfl rfl rfl) rfl ?_ | refine l_neu (n_load_mref rfl rfl (List.getElem?_eq_getElem (by omega)) rfl) rfl ?_ | refine l_neu (n_load_mrefT1 rfl rfl rfl) rfl ?_
    refine l_neu (n_len_s rfl) rfl ?_
    refine l_neu (n_lss rfl rfl) rfl ?_
    refine l_nil ?_
    repeat (first | refine then_normal ?_ | refine c_seq ?_ | refine c_block ?_ | refine inB_normal ?_ | refine c_skip ?_ | refine c_exit ?_ | refine then_exit ?_ | refine inB_same rfl ?_ | refine inB_other rfl ?_ | refine c_ret ?_ | refine then_ret ?_ | refine inB_ret ?_)
    refine c_cond rfl (fun ht => ?_) (fun ht => ?_)
    · have hk2 : k + 1 < l[i].length := by have := of_decide_eq_true ht; omega
      have hvk : l[i][k]? = some (l[i][k]'(by omega)) := List.getElem?_eq_getElem (by omega)
      have hd : l[i].dropLast.drop k = l[i][k]'(by omega) :: l[i].dropLast.drop (k + 1) := by
        rw [List.drop_eq_getElem_cons (by simp; omega)]; simp
      rw [hd, List.all_cons] at hk
      repeat (first | refine then_normal ?_ | refine c_seq ?_ | refine c_block ?_ | refine inB_normal ?_ | refine c_skip ?_ | refine c_exit ?_ | refine then_exit ?_ | refine inB_same rfl ?_ | refine inB_other rfl ?_ | refine c_ret ?_ | refine then_ret ?_ | refine inB_ret ?_)
      refine c_region ?_
      refine l_neu (n_move rfl rfl) rfl ?_
      refine l_neu (n_move rfl rfl) rfl ?_
      first | refine l_neu (n_indexAddr rfl (.pure _ _ _ _) rfl (by omega) hv) rfl ?_ | refine l_neu (n_indexAddr rfl (.buf _ _ _ _ _) rfl (by omega) hv) rfl ?_ | refine l_neu (n_indexAddr_mut rfl rfl rfl (by omega) (by omega)) rfl ?_ | refine l_neu (n_indexAddr_mutT rfl rfl rfl (by omega) (by omega)) rfl ?_
      first | refine l_neu (n_load_eref rfl rfl) rfl ?_ | refine l_neu (n_load_ref rfl rfl rfl) rfl ?_ | refine l_neu (n_load_mref rfl rfl (List.getElem?_eq_getElem (by omega)) rfl) rfl ?_ | refine l_neu (n_load_mrefT1 rfl rfl rfl) rfl ?_
      refine l_neu (n_move rfl rfl) rfl ?_
      refine l_neu (n_index_s rfl rfl (by omega) hvk) rfl ?_
      refine l_neu (n_eql rfl rfl) rfl ?_
      refine l_nil ?_
      repeat (first | refine then_normal ?_ | refine c_seq ?_ | refine c_block ?_ | refine inB_normal ?_ | refine c_skip ?_ | refine c_exit ?_ | refine then_exit ?_ | refine inB_same rfl ?_ | refine inB_other rfl ?_ | refine c_ret ?_ | refine then_ret ?_ | refine inB_ret ?_)
      refine c_cond rfl (fun ht => ?_) (fun ht => ?_)
      · have h10 := (u8_lf _).1 (of_decide_eq_true ht)
        repeat (first | refine then_normal ?_ | refine c_seq ?_ | refine c_block ?_ | refine inB_normal ?_ | refine c_skip ?_ | refine c_exit ?_ | refine then_exit ?_ | refine inB_same rfl ?_ | refine inB_other rfl ?_ | refine c_ret ?_ | refine then_ret ?_ | refine inB_ret ?_)
        refine c_region ?_
        refine l_neu (n_assign rfl rfl) rfl ?_
        refine l_nil ?_
        repeat (first | refine then_normal ?_ | refine c_seq ?_ | refine c_block ?_ | refine inB_normal ?_ | refine c_skip ?_ | refine c_exit ?_ | refine then_exit ?_ | refine inB_same rfl ?_ | refine inB_other rfl ?_ | refine c_ret ?_ | refine then_ret ?_ | refine inB_ret ?_)
        exact ret_ret (ret1 rfl rfl rfl) (by rw [hp, listOk, hk.2]; simp [h10])
      · have h10 : l[i][k]'(by omega) ≠ 10 := fun h => of_decide_eq_false ht ((u8_lf _).2 h)
        repeat (first | refine then_normal ?_ | refine c_seq ?_ | refine c_block ?_ | refine inB_normal ?_ | refine c_skip ?_ | refine c_exit ?_ | refine then_exit ?_ | refine inB_same rfl ?_ | refine inB_other rfl ?_ | refine c_ret ?_ | refine then_ret ?_ | refine inB_ret ?_)
        refine c_region ?_
        refine l_neu (n_move rfl rfl) rfl ?_
        refine l_neu (n_add rfl rfl (by omega)) rfl ?_
        refine l_neu (n_assign rfl rfl) rfl ?_
        refine l_nil ?_
        repeat (first | refine then_normal ?_ | refine c_seq ?_ | refine c_block ?_ | refine inB_normal ?_ | refine c_skip ?_ | refine c_exit ?_ | refine then_exit ?_ | refine inB_same rfl ?_ | refine inB_other rfl ?_ | refine c_ret ?_ | refine then_ret ?_ | refine inB_ret ?_)
        exact ⟨k + 1, ⟨by omega, by rw [hk.2]; simp [h10]⟩, by omega, Sees.of ⟨⟨_, rfl, by first | exact .same _ | exact .eq (by first | (simp; done) | (simp; omega)) | exact .list _ _ _ _ _ | exact .nil _ _ _ | exact .any _⟩, ⟨_, rfl, by first | exact .same _ | exact .eq (by first | (simp; done) | (simp; omega)) | exact .list _ _ _ _ _ | exact .nil _ _ _ | exact .any _⟩, ⟨_, rfl, by first | exact .same _ | exact .eq (by first | (simp; done) | (simp; omega)) | exact .list _ _ _ _ _ | exact .nil _ _ _ | exact .any _⟩, trivial⟩ trivial⟩
    · have hk2 : l[i].length ≤ k + 1 := by have := of_decide_eq_false ht; omega
      have hlo : lineOk l[i] = (l[i] != []) := by rw [hk.2, List.drop_eq_nil_of_le (by simp; omega)]; rfl
      repeat (first | refine then_normal ?_ | refine c_seq ?_ | refine c_block ?_ | refine inB_normal ?_ | refine c_skip ?_ | refine c_exit ?_ | refine then_exit ?_ | refine inB_same rfl ?_ | refine inB_other rfl ?_ | refine c_ret ?_ | refine then_ret ?_ | refine inB_ret ?_)
      refine c_region ?_
      refine l_neu (n_move rfl rfl) rfl ?_
      refine l_neu (n_move rfl rfl) rfl ?_
      first | refine l_neu (n_indexAddr rfl (.pure _ _ _ _) rfl (by omega) hv) rfl ?_ | refine l_neu (n_indexAddr rfl (.buf _ _ _ _ _) rfl (by omega) hv) rfl ?_ | refine l_neu (n_indexAddr_mut rfl rfl rfl (by omega) (by omega)) rfl ?_ | refine l_neu (n_indexAddr_mutT rfl rfl rfl (by omega) (by omega)) rfl ?_
      first | refine l_neu (n_load_eref rfl rfl) rfl ?_ | refine l_neu (n_load_ref rfl rfl rfl) rfl ?_ | refine l_neu (n_load_mref rfl rfl (List.getElem?_eq_getElem (by omega)) rfl) rfl ?_ | refine l_neu (n_load_mrefT1 rfl rfl rfl) rfl ?_
      refine l_neu (n_eql_s rfl rfl) rfl ?_
      refine l_neu (n_move rfl rfl) rfl ?_
      refine l_guard rfl rfl rfl rfl (fun hg => by rw [hg]; exact n_move rfl rfl) ?_
      refine l_guard rfl rfl rfl rfl (fun hg => by have hq := hg; (try simp at hq); rw [hg]; exact n_add rfl rfl (by omega)) ?_
      refine l_guard rfl rfl rfl rfl (fun hg => by rw [hg]; exact n_move rfl rfl) ?_
      first | refine l_guard rfl rfl rfl rfl (fun hg => by rw [hg]; exact n_len rfl (.pure _ _ _ _)) ?_ | refine l_guard rfl rfl rfl rfl (fun hg => by rw [hg]; exact n_len rfl (.buf _ _ _ _ _)) ?_ | refine l_guard rfl rfl rfl rfl (fun hg => by rw [hg]; exact n_len_mut rfl rfl) ?_ | refine l_guard rfl rfl rfl rfl (fun hg => by rw [hg]; exact n_len_mutT rfl rfl) ?_ | refine l_guard rfl rfl rfl rfl (fun hg => by rw [hg]; exact n_len_nil rfl) ?_
      refine l_guard rfl rfl rfl rfl (fun hg => by rw [hg]; exact n_lss rfl rfl) ?_
      refine l_guard rfl rfl rfl rfl (fun hg => by rw [hg]; exact n_move rfl rfl) ?_
      refine l_guardW rfl rfl rfl (.gd (.val _)) rfl (fun hg => by obtain ⟨hg1, hg2⟩ := gd_and hg; (try rw [hg1]); (try rw [hg2]); exact n_move rfl rfl) ?_
      refine l_guardW rfl rfl rfl (.gd (.val _)) rfl (fun hg => by obtain ⟨hg1, hg2⟩ := gd_and hg; (try rw [hg1]); (try rw [hg2]); exact n_move rfl rfl) ?_
      first | refine l_guardW rfl rfl rfl (.gd (.val _)) rfl (fun hg => by have hq := hg; (try simp at hq); obtain ⟨hg1, hg2⟩ := gd_and hg; (try rw [hg1]); (try rw [hg2]); exact n_indexAddr rfl (.pure _ _ _ _) rfl (by omega) hv) ?_ | refine l_guardW rfl rfl rfl (.gd (.val _)) rfl (fun hg => by have hq := hg; (try simp at hq); obtain ⟨hg1, hg2⟩ := gd_and hg; (try rw [hg1]); (try rw [hg2]); exact n_indexAddr rfl (.buf _ _ _ _ _) rfl (by omega) hv) ?_ | refine l_guardW rfl rfl rfl (.gd (.val _)) rfl (fun hg => by have hq := hg; (try simp at hq); obtain ⟨hg1, hg2⟩ := gd_and hg; (try rw [hg1]); (try rw [hg2]); exact n_indexAddr_mut rfl rfl rfl (by omega) (by omega)) ?_ | refine l_guardW rfl rfl rfl (.gd (.val _)) rfl (fun hg => by have hq := hg; (try simp at hq); obtain ⟨hg1, hg2⟩ := gd_and hg; (try rw [hg1]); (try rw [hg2]); exact n_indexAddr_mutT rfl rfl rfl (by omega) (by omega)) ?_
      first | refine l_guardW rfl rfl rfl (.gd (.val _)) rfl (fun hg => by obtain ⟨hg1, hg2⟩ := gd_and hg; (try rw [hg1]); (try rw [hg2]); exact n_load_eref rfl rfl) ?_ | refine l_guardW rfl rfl rfl (.gd (.val _)) rfl (fun hg => by obtain ⟨hg1, hg2⟩ := gd_and hg; (try rw [hg1]); (try rw [hg2]); exact n_load_ref rfl rfl rfl) ?_ | refine l_guardW rfl rfl rfl (.gd (.val _)) rfl (fun hg => by have hq := hg; (try simp at hq); obtain ⟨hg1, hg2⟩ := gd_and hg; (try rw [hg1]); (try rw [hg2]); exact n_load_mref rfl rfl (List.getElem?_eq_getElem (by omega)) rfl) ?_ | refine l_guardW rfl rfl rfl (.gd (.val _)) rfl (fun hg => by obtain ⟨hg1, hg2⟩ := gd_and hg; (try rw [hg1]); (try rw [hg2]); exact n_load_mrefT1 rfl rfl rfl) ?_
      refine l_guardW rfl rfl rfl (.gd (.val _)) rfl (fun hg => by have hq := hg; (try simp at hq); obtain ⟨hg1, hg2⟩ := gd_and hg; (try rw [hg1]); (try rw [hg2]); exact n_call1 (ended_ok l[i] hs) rfl rfl) ?_
      refine l_guardW rfl rfl rfl (.gd (.val _)) rfl (fun hg => by obtain ⟨hg1, hg2⟩ := gd_and hg; (try rw [hg1]); (try rw [hg2]); exact n_not rfl) ?_
      refine l_guard rfl rfl rfl rfl (fun hg => by rw [hg]; exact n_pick_bool rfl (fun h => by first | rfl | (rw [h]; rfl)) (fun h => by first | rfl | (rw [h]; rfl))) ?_
      refine l_neu (n_pick_bool rfl (fun h => by first | rfl | (rw [h]; rfl)) (fun h => by first | rfl | (rw [h]; rfl))) rfl ?_
      refine l_nil ?_
      repeat (first | refine then_normal ?_ | refine c_seq ?_ | refine c_block ?_ | refine inB_normal ?_ | refine c_skip ?_ | refine c_exit ?_ | refine then_exit ?_ | refine inB_same rfl ?_ | refine inB_other rfl ?_ | refine c_ret ?_ | refine then_ret ?_ | refine inB_ret ?_)
      have he : (l.drop (i + 1)).isEmpty = decide (l.length ≤ i + 1) := by
        rw [Bool.eq_iff_iff]; simp
      rw [listOk, hlo, he] at hp
      refine c_cond rfl (fun ht => ?_) (fun ht => ?_)
      · repeat (first | refine then_normal ?_ | refine c_seq ?_ | refine c_block ?_ | refine inB_normal ?_ | refine c_skip ?_ | refine c_exit ?_ | refine then_exit ?_ | refine inB_same rfl ?_ | refine inB_other rfl ?_ | refine c_ret ?_ | refine then_ret ?_ | refine inB_ret ?_)
        refine c_region ?_
        refine l_neu (n_assign rfl rfl) rfl ?_
        refine l_nil ?_
        repeat (first | refine then_normal ?_ | refine c_seq ?_ | refine c_block ?_ | refine inB_normal ?_ | refine c_skip ?_ | refine c_exit ?_ | refine then_exit ?_ | refine inB_same rfl ?_ | refine inB_other rfl ?_ | refine c_ret ?_ | refine then_ret ?_ | refine inB_ret ?_)
        refine ret_ret (ret1 rfl rfl rfl) ?_
        have : listOk l = false := by
          rw [hp]
          by_cases h : l[i] = []
          · simp [h]
          · rw [if_neg (by simpa using h)] at ht
            by_cases h2 : (i : Int) + 1 < l.length
            · rw [if_pos (by simpa using h2)] at ht
              have h3 : ¬ (l.length ≤ i + 1) := by omega
              simp only [Bool.not_eq_true'] at ht
              simp [ht, h3]
            · rw [if_neg (by simpa using h2)] at ht; cases ht
        rw [this]
      · repeat (first | refine then_normal ?_ | refine c_seq ?_ | refine c_block ?_ | refine inB_normal ?_ | refine c_skip ?_ | refine c_exit ?_ | refine then_exit ?_ | refine inB_same rfl ?_ | refine inB_other rfl ?_ | refine c_ret ?_ | refine then_ret ?_ | refine inB_ret ?_)
        refine c_region ?_
        refine l_neu (n_move rfl rfl) rfl ?_
        refine l_neu (n_add rfl rfl (by omega)) rfl ?_
        refine l_neu (n_assign rfl rfl) rfl ?_
        refine l_nil ?_
        repeat (first | refine then_normal ?_ | refine c_seq ?_ | refine c_block ?_ | refine inB_normal ?_ | refine c_skip ?_ | refine c_exit ?_ | refine then_exit ?_ | refine inB_same rfl ?_ | refine inB_other rfl ?_ | refine c_ret ?_ | refine then_ret ?_ | refine inB_ret ?_)
        refine ⟨i + 1, ⟨by omega, ?_⟩, by omega, Sees.of ⟨⟨_, rfl, by first | exact .same _ | exact .eq (by first | (simp; done) | (simp; omega)) | exact .list _ _ _ _ _ | exact .nil _ _ _ | exact .any _⟩, ⟨_, rfl, by first | exact .same _ | exact .eq (by first | (simp; done) | (simp; omega)) | exact .list _ _ _ _ _ | exact .nil _ _ _ | exact .any _⟩, trivial⟩ trivial⟩
        rw [hp]
        by_cases h : l[i] = []
        · rw [if_pos (by simpa using h)] at ht; cases ht
        · rw [if_neg (by simpa using h)] at ht
          by_cases h2 : (i : Int) + 1 < l.length
          · rw [if_pos (by simpa using h2)] at ht
            simp only [Bool.not_eq_false'] at ht
            simp [ht, h]
          · have h3 : l.length ≤ i + 1 := by omega
            simp [h, h3]
  · have : i = l.length := by have := of_decide_eq_false ht; omega
    subst this
    repeat (first | refine then_normal ?_ | refine c_seq ?_ | refine c_block ?_ | refine inB_normal ?_ | refine c_skip ?_ | refine c_exit ?_ | refine then_exit ?_ | refine inB_same rfl ?_ | refine inB_other rfl ?_ | refine c_ret ?_ | refine then_ret ?_ | refine inB_ret ?_)
    refine c_region ?_
    refine l_neu (n_assign rfl rfl) rfl ?_
    refine l_nil ?_
    repeat (first | refine then_normal ?_ | refine c_seq ?_ | refine c_block ?_ | refine inB_normal ?_ | refine c_skip ?_ | refine c_exit ?_ | refine then_exit ?_ | refine inB_same rfl ?_ | refine inB_other rfl ?_ | refine c_ret ?_ | refine then_ret ?_ | refine inB_ret ?_)
    exact ret_ret (ret1 rfl rfl rfl) (by rw [hp]; simp [listOk])

theorem all_ok (l : List Str) (hl : l.flatten.length ≤ 536870912) : FnOk Try.prog 38 [pStrs l] (fun rs => rs = [pStr l.flatten]) := by
  refine FnOk.intro Try.func38 (by decide) rfl rfl rfl ?_
  refine c_bound (t := 0) rfl (.pure _ _ _ _) fun hlen => ?_
  repeat (first | refine then_normal ?_ | refine c_seq ?_ | refine c_block ?_ | refine inB_normal ?_ | refine c_skip ?_ | refine c_exit ?_ | refine then_exit ?_ | refine inB_same rfl ?_ | refine inB_other rfl ?_ | refine c_ret ?_ | refine then_ret ?_ | refine inB_ret ?_)
  refine c_region ?_
  refine l_neu (n_assign rfl rfl) rfl ?_
  refine l_nil ?_
  repeat (first | refine then_normal ?_ | refine c_seq ?_ | refine c_block ?_ | refine inB_normal ?_ | refine c_skip ?_ | refine c_exit ?_ | refine then_exit ?_ | refine inB_same rfl ?_ | refine inB_other rfl ?_ | refine c_ret ?_ | refine then_ret ?_ | refine inB_ret ?_)
  refine c_region ?_
  refine l_effv (f_adopt 3 _ u8C rfl) rfl ?_
  refine l_nil ?_
  repeat (first | refine then_normal ?_ | refine c_seq ?_ | refine c_block ?_ | refine inB_normal ?_ | refine c_skip ?_ | refine c_exit ?_ | refine then_exit ?_ | refine inB_same rfl ?_ | refine inB_other rfl ?_ | refine c_ret ?_ | refine then_ret ?_ | refine inB_ret ?_)
  refine c_region ?_
  refine l_neu (n_assign rfl rfl) rfl ?_
  refine l_nil ?_
  repeat (first | refine then_normal ?_ | refine c_seq ?_ | refine c_block ?_ | refine inB_normal ?_ | refine c_skip ?_ | refine c_exit ?_ | refine then_exit ?_ | refine inB_same rfl ?_ | refine inB_other rfl ?_ | refine c_ret ?_ | refine then_ret ?_ | refine inB_ret ?_)
  refine c_while (X := Nat) (fun i => ([(0, sList Str 1 strC l), (3, .s (.one (.buf 3 UInt8 1 u8C (l.take i).flatten))), (4, sInt i)], [(3, .spare (l.take i).flatten.length 1 5)])) (fun i => i ≤ l.length) (fun i => l.length - i) 0 (by simp) (Sees.of ⟨⟨_, rfl, by first | exact .same _ | exact .eq (by first | (simp; done) | (simp; omega)) | exact .list _ _ _ _ _ | exact .nil _ _ _ | exact .any _⟩, ⟨_, rfl, by first | exact .same _ | exact .eq (by first | (simp; done) | (simp; omega)) | exact .list _ _ _ _ _ | exact .nil _ _ _ | exact .any _⟩, ⟨_, rfl, by first | exact .same _ | exact .eq (by first | (simp; done) | (simp; omega)) | exact .list _ _ _ _ _ | exact .nil _ _ _ | exact .any _⟩, trivial⟩ ⟨rfl, trivial⟩) ?_
  intro i hi
  dsimp only at hi ⊢
  repeat (first | refine then_normal ?_ | refine c_seq ?_ | refine c_block ?_ | refine inB_normal ?_ | refine c_skip ?_ | refine c_exit ?_ | refine then_exit ?_ | refine inB_same rfl ?_ | refine inB_other rfl ?_ | refine c_ret ?_ | refine then_ret ?_ | refine inB_ret ?_)
  refine c_region ?_
  refine l_neu (n_move rfl rfl) rfl ?_
  refine l_neu (n_move rfl rfl) rfl ?_
  first | refine l_neu (n_len rfl (.pure _ _ _ _)) rfl ?_ | refine l_neu (n_len rfl (.buf _ _ _ _ _)) rfl ?_ | refine l_neu (n_len_mut rfl rfl) rfl ?_ | refine l_neu (n_len_mutT rfl rfl) rfl ?_ | refine l_neu (n_len_nil rfl) rfl ?_
  refine l_neu (n_lss rfl rfl) rfl ?_
  refine l_nil ?_
  repeat (first | refine then_normal ?_ | refine c_seq ?_ | refine c_block ?_ | refine inB_normal ?_ | refine c_skip ?_ | refine c_exit ?_ | refine then_exit ?_ | refine inB_same rfl ?_ | refine inB_other rfl ?_ | refine c_ret ?_ | refine then_ret ?_ | refine inB_ret ?_)
  refine c_cond rfl (fun ht => ?_) (fun ht => ?_)
  · have hlt : i < l.length := by simpa using ht
    have hv : l[i]? = some l[i] := by simp [hlt]
    have hf := flatten_take_succ l i hlt
    have hle := flatten_take_le l (i + 1)
    rw [hf, List.length_append] at hle
    repeat (first | refine then_normal ?_ | refine c_seq ?_ | refine c_block ?_ | refine inB_normal ?_ | refine c_skip ?_ | refine c_exit ?_ | refine then_exit ?_ | refine inB_same rfl ?_ | refine inB_other rfl ?_ | refine c_ret ?_ | refine then_ret ?_ | refine inB_ret ?_)
    refine c_region ?_
    refine l_neu (n_move rfl rfl) rfl ?_
    refine l_neu (n_move rfl rfl) rfl ?_
    refine l_neu (n_move rfl rfl) rfl ?_
    first | refine l_neu (n_indexAddr rfl (.pure _ _ _ _) rfl (by omega) hv) rfl ?_ | refine l_neu (n_indexAddr rfl (.buf _ _ _ _ _) rfl (by omega) hv) rfl ?_ | refine l_neu (n_indexAddr_mut rfl rfl rfl (by omega) (by omega)) rfl ?_ | refine l_neu (n_indexAddr_mutT rfl rfl rfl (by omega) (by omega)) rfl ?_
    first | refine l_neu (n_load_eref rfl rfl) rfl ?_ | refine l_neu (n_load_ref rfl rfl rfl) rfl ?_ | refine l_neu (n_load_mref rfl rfl (List.getElem?_eq_getElem (by omega)) rfl) rfl ?_ | refine l_neu (n_load_mrefT1 rfl rfl rfl) rfl ?_
    refine l_effv (e_append_s TyStr.out rfl rfl rfl (by omega) rfl) rfl ?_
    refine l_neu (n_assign rfl rfl) rfl ?_
    refine l_nil ?_
    repeat (first | refine then_normal ?_ | refine c_seq ?_ | refine c_block ?_ | refine inB_normal ?_ | refine c_skip ?_ | refine c_exit ?_ | refine then_exit ?_ | refine inB_same rfl ?_ | refine inB_other rfl ?_ | refine c_ret ?_ | refine then_ret ?_ | refine inB_ret ?_)
    refine c_region ?_
    refine l_neu (n_move rfl rfl) rfl ?_
    refine l_neu (n_add rfl rfl (by omega)) rfl ?_
    refine l_neu (n_assign rfl rfl) rfl ?_
    refine l_nil ?_
    repeat (first | refine then_normal ?_ | refine c_seq ?_ | refine c_block ?_ | refine inB_normal ?_ | refine c_skip ?_ | refine c_exit ?_ | refine then_exit ?_ | refine inB_same rfl ?_ | refine inB_other rfl ?_ | refine c_ret ?_ | refine then_ret ?_ | refine inB_ret ?_)
    refine ⟨i + 1, by omega, by omega, ?_⟩
    dsimp only
    rw [hf]
    exact Sees.of ⟨⟨_, rfl, by first | exact .same _ | exact .eq (by first | (simp; done) | (simp; omega)) | exact .list _ _ _ _ _ | exact .nil _ _ _ | exact .any _⟩, ⟨_, rfl, by first | exact .same _ | exact .eq (by first | (simp; done) | (simp; omega)) | exact .list _ _ _ _ _ | exact .nil _ _ _ | exact .any _⟩, ⟨_, rfl, by first | exact .same _ | exact .eq (by first | (simp; done) | (simp; omega)) | exact .list _ _ _ _ _ | exact .nil _ _ _ | exact .any _⟩, trivial⟩ ⟨rfl, trivial⟩
  · have : i = l.length := by simp at ht; omega
    subst this
    repeat (first | refine then_normal ?_ | refine c_seq ?_ | refine c_block ?_ | refine inB_normal ?_ | refine c_skip ?_ | refine c_exit ?_ | refine then_exit ?_ | refine inB_same rfl ?_ | refine inB_other rfl ?_ | refine c_ret ?_ | refine then_ret ?_ | refine inB_ret ?_)
    refine c_region ?_
    refine l_neu (n_move rfl rfl) rfl ?_
    first | refine l_neu (n_bytes_string TyStr.out rfl (.pure _ _ _ _)) rfl ?_ | refine l_neu (n_bytes_string TyStr.out rfl (.buf _ _ _ _ _)) rfl ?_
    refine l_neu (n_assign rfl rfl) rfl ?_
    refine l_nil ?_
    repeat (first | refine then_normal ?_ | refine c_seq ?_ | refine c_block ?_ | refine inB_normal ?_ | refine c_skip ?_ | refine c_exit ?_ | refine then_exit ?_ | refine inB_same rfl ?_ | refine inB_other rfl ?_ | refine c_ret ?_ | refine then_ret ?_ | refine inB_ret ?_)
    exact ret_ret (ret1 rfl rfl rfl) (by simp)

theorem join_ok (l : List Str) (hl : l.flatten.length ≤ 536870912) : FnOk Try.prog 21 [pStrs l] (fun rs => rs = [pStr (joinOf l).1, pInt (joinOf l).2]) := by
  have hl' : ∀ s ∈ l, s.length ≤ 1099511627776 := fun s hs => by
    have : s.length ≤ l.flatten.length := (List.sublist_flatten_of_mem hs).length_le
    omega
  refine FnOk.intro Try.func21 (by decide) rfl rfl rfl ?_
  refine c_bound (t := 0) rfl (.pure _ _ _ _) fun hlen => ?_
  repeat (first | refine then_normal ?_ | refine c_seq ?_ | refine c_block ?_ | refine inB_normal ?_ | refine c_skip ?_ | refine c_exit ?_ | refine then_exit ?_ | refine inB_same rfl ?_ | refine inB_other rfl ?_ | refine c_ret ?_ | refine then_ret ?_ | refine inB_ret ?_)
  refine c_region ?_
  refine l_neu (n_assign rfl rfl) rfl ?_
  refine l_neu (n_assign rfl rfl) rfl ?_
  refine l_nil ?_
  repeat (first | refine then_normal ?_ | refine c_seq ?_ | refine c_block ?_ | refine inB_normal ?_ | refine c_skip ?_ | refine c_exit ?_ | refine then_exit ?_ | refine inB_same rfl ?_ | refine inB_other rfl ?_ | refine c_ret ?_ | refine then_ret ?_ | refine inB_ret ?_)
  refine c_region ?_
  refine l_neu (n_move rfl rfl) rfl ?_
  refine l_call (list_ok l hl') rfl rfl rfl ?_
  rintro _ rfl
  refine l_neu (n_not rfl) rfl ?_
  refine l_nil ?_
  repeat (first | refine then_normal ?_ | refine c_seq ?_ | refine c_block ?_ | refine inB_normal ?_ | refine c_skip ?_ | refine c_exit ?_ | refine then_exit ?_ | refine inB_same rfl ?_ | refine inB_other rfl ?_ | refine c_ret ?_ | refine then_ret ?_ | refine inB_ret ?_)
  refine c_cond rfl (fun ht => ?_) (fun ht => ?_)
  · have h1 : listOk l = false := by simpa using ht
    repeat (first | refine then_normal ?_ | refine c_seq ?_ | refine c_block ?_ | refine inB_normal ?_ | refine c_skip ?_ | refine c_exit ?_ | refine then_exit ?_ | refine inB_same rfl ?_ | refine inB_other rfl ?_ | refine c_ret ?_ | refine then_ret ?_ | refine inB_ret ?_)
    refine c_region ?_
    refine l_neu (n_assign rfl rfl) rfl ?_
    refine l_neu (n_assign rfl rfl) rfl ?_
    refine l_nil ?_
    repeat (first | refine then_normal ?_ | refine c_seq ?_ | refine c_block ?_ | refine inB_normal ?_ | refine c_skip ?_ | refine c_exit ?_ | refine then_exit ?_ | refine inB_same rfl ?_ | refine inB_other rfl ?_ | refine c_ret ?_ | refine then_ret ?_ | refine inB_ret ?_)
    exact ret_ret (ret2 rfl rfl rfl rfl rfl) (by simp [joinOf, h1])
  · have h1 : listOk l = true := by simpa using ht
    repeat (first | refine then_normal ?_ | refine c_seq ?_ | refine c_block ?_ | refine inB_normal ?_ | refine c_skip ?_ | refine c_exit ?_ | refine then_exit ?_ | refine inB_same rfl ?_ | refine inB_other rfl ?_ | refine c_ret ?_ | refine then_ret ?_ | refine inB_ret ?_)
    refine c_region ?_
    refine l_neu (n_move rfl rfl) rfl ?_
    refine l_call (all_ok l hl) rfl rfl rfl ?_
    rintro _ rfl
    refine l_neu (n_assign rfl rfl) rfl ?_
    refine l_nil ?_
    repeat (first | refine then_normal ?_ | refine c_seq ?_ | refine c_block ?_ | refine inB_normal ?_ | refine c_skip ?_ | refine c_exit ?_ | refine then_exit ?_ | refine inB_same rfl ?_ | refine inB_other rfl ?_ | refine c_ret ?_ | refine then_ret ?_ | refine inB_ret ?_)
    refine c_region ?_
    refine l_neu (n_move rfl rfl) rfl ?_
    refine l_neu (n_len_s rfl) rfl ?_
    refine l_neu (n_gtr rfl rfl) rfl ?_
    refine l_neu (n_move rfl rfl) rfl ?_
    refine l_guard rfl rfl rfl rfl (fun hg => by rw [hg]; exact n_move rfl rfl) ?_
    first | refine l_guard rfl rfl rfl rfl (fun hg => by rw [hg]; exact n_len rfl (.pure _ _ _ _)) ?_ | refine l_guard rfl rfl rfl rfl (fun hg => by rw [hg]; exact n_len rfl (.buf _ _ _ _ _)) ?_ | refine l_guard rfl rfl rfl rfl (fun hg => by rw [hg]; exact n_len_mut rfl rfl) ?_ | refine l_guard rfl rfl rfl rfl (fun hg => by rw [hg]; exact n_len_mutT rfl rfl) ?_ | refine l_guard rfl rfl rfl rfl (fun hg => by rw [hg]; exact n_len_nil rfl) ?_
    refine l_guard rfl rfl rfl rfl (fun hg => by rw [hg]; exact n_gtr rfl rfl) ?_
    refine l_neu (n_pick_bool rfl (fun h => by first | rfl | (rw [h]; rfl)) (fun h => by first | rfl | (rw [h]; rfl))) rfl ?_
    refine l_nil ?_
    repeat (first | refine then_normal ?_ | refine c_seq ?_ | refine c_block ?_ | refine inB_normal ?_ | refine c_skip ?_ | refine c_exit ?_ | refine then_exit ?_ | refine inB_same rfl ?_ | refine inB_other rfl ?_ | refine c_ret ?_ | refine then_ret ?_ | refine inB_ret ?_)
    refine c_cond rfl (fun ht => ?_) (fun ht => ?_)
    · have h := of_decide_eq_true (or_pick.symm.trans ht)
      repeat (first | refine then_normal ?_ | refine c_seq ?_ | refine c_block ?_ | refine inB_normal ?_ | refine c_skip ?_ | refine c_exit ?_ | refine then_exit ?_ | refine inB_same rfl ?_ | refine inB_other rfl ?_ | refine c_ret ?_ | refine then_ret ?_ | refine inB_ret ?_)
      refine c_region ?_
      refine l_neu (n_assign rfl rfl) rfl ?_
      refine l_neu (n_assign rfl rfl) rfl ?_
      refine l_nil ?_
      repeat (first | refine then_normal ?_ | refine c_seq ?_ | refine c_block ?_ | refine inB_normal ?_ | refine c_skip ?_ | refine c_exit ?_ | refine then_exit ?_ | refine inB_same rfl ?_ | refine inB_other rfl ?_ | refine c_ret ?_ | refine then_ret ?_ | refine inB_ret ?_)
      exact ret_ret (ret2 rfl rfl rfl rfl rfl) (by simp only [joinOf, h1]; rw [if_neg (by simp), if_pos (by omega)])
    · have h := of_decide_eq_false (or_pick.symm.trans ht)
      repeat (first | refine then_normal ?_ | refine c_seq ?_ | refine c_block ?_ | refine inB_normal ?_ | refine c_skip ?_ | refine c_exit ?_ | refine then_exit ?_ | refine inB_same rfl ?_ | refine inB_other rfl ?_ | refine c_ret ?_ | refine then_ret ?_ | refine inB_ret ?_)
      refine c_region ?_
      refine l_neu (n_move rfl rfl) rfl ?_
      refine l_neu (n_assign rfl rfl) rfl ?_
      refine l_neu (n_assign rfl rfl) rfl ?_
      refine l_nil ?_
      repeat (first | refine then_normal ?_ | refine c_seq ?_ | refine c_block ?_ | refine inB_normal ?_ | refine c_skip ?_ | refine c_exit ?_ | refine then_exit ?_ | refine inB_same rfl ?_ | refine inB_other rfl ?_ | refine c_ret ?_ | refine then_ret ?_ | refine inB_ret ?_)
      exact ret_ret (ret2 rfl rfl rfl rfl rfl) (by simp only [joinOf, h1]; rw [if_neg (by simp), if_neg (by omega)])

theorem line_ok (s : Str) (hs : s.length ≤ 1099511627776) : FnOk Try.prog 48 [pStr s] (fun rs => rs = [pBool (lineOk s)]) := by
  refine FnOk.intro Try.func48 (by decide) rfl rfl rfl ?_
  repeat (first | refine then_normal ?_ | refine c_seq ?_ | refine c_block ?_ | refine inB_normal ?_ | refine c_skip ?_ | refine c_exit ?_ | refine then_exit ?_ | refine inB_same rfl ?_ | refine inB_other rfl ?_ | refine c_ret ?_ | refine then_ret ?_ | refine inB_ret ?_)
  refine c_region ?_
  refine l_neu (n_assign rfl rfl) rfl ?_
  refine l_nil ?_
  repeat (first | refine then_normal ?_ | refine c_seq ?_ | refine c_block ?_ | refine inB_normal ?_ | refine c_skip ?_ | refine c_exit ?_ | refine then_exit ?_ | refine inB_same rfl ?_ | refine inB_other rfl ?_ | refine c_ret ?_ | refine then_ret ?_ | refine inB_ret ?_)
  refine c_region ?_
  refine l_neu (n_assign rfl rfl) rfl ?_
  refine l_nil ?_
  repeat (first | refine then_normal ?_ | refine c_seq ?_ | refine c_block ?_ | refine inB_normal ?_ | refine c_skip ?_ | refine c_exit ?_ | refine then_exit ?_ | refine inB_same rfl ?_ | refine inB_other rfl ?_ | refine c_ret ?_ | refine then_ret ?_ | refine inB_ret ?_)
  refine c_while (X := Nat) (fun k => ([(0, sStr s), (3, sInt k)], [])) (fun k => k ≤ s.length ∧ lineOk s = ((s.dropLast.drop k).all (· ≠ 10) && s != [])) (fun k => s.length - k) 0 (by simp [lineOk]) (Sees.of ⟨⟨_, rfl, by first | exact .same _ | exact .eq (by first | (simp; done) | (simp; omega)) | exact .list _ _ _ _ _ | exact .nil _ _ _ | exact .any _⟩, ⟨_, rfl, by first | exact .same _ | exact .eq (by first | (simp; done) | (simp; omega)) | exact .list _ _ _ _ _ | exact .nil _ _ _ | exact .any _⟩, trivial⟩ trivial) ?_
  intro k hk
  dsimp only at hk ⊢
  repeat (first | refine then_normal ?_ | refine c_seq ?_ | refine c_block ?_ | refine inB_normal ?_ | refine c_skip ?_ | refine c_exit ?_ | refine then_exit ?_ | refine inB_same rfl ?_ | refine inB_other rfl ?_ | refine c_ret ?_ | refine then_ret ?_ | refine inB_ret ?_)
  refine c_region ?_
  refine l_neu (n_move rfl rfl) rfl ?_
  refine l_neu (n_add rfl rfl (by omega)) rfl ?_
  refine l_neu (n_move rfl rfl) rfl ?_
  refine l_neu (n_len_s rfl) rfl ?_
  refine l_neu (n_lss rfl rfl) rfl ?_
  refine l_nil ?_
  repeat (first | refine then_normal ?_ | refine c_seq ?_ | refine c_block ?_ | refine inB_normal ?_ | refine c_skip ?_ | refine c_exit ?_ | refine then_exit ?_ | refine inB_same rfl ?_ | refine inB_other rfl ?_ | refine c_ret ?_ | refine then_ret ?_ | refine inB_ret ?_)
  refine c_cond rfl (fun ht => ?_) (fun ht => ?_)
  · have hk2 : k + 1 < s.length := by have := of_decide_eq_true ht; omega
    have hvk : s[k]? = some (s[k]'(by omega)) := List.getElem?_eq_getElem (by omega)
    have hd : s.dropLast.drop k = s[k]'(by omega) :: s.dropLast.drop (k + 1) := by
      rw [List.drop_eq_getElem_cons (by simp; omega)]; simp
    rw [hd, List.all_cons] at hk
    repeat (first | refine then_normal ?_ | refine c_seq ?_ | refine c_block ?_ | refine inB_normal ?_ | refine c_skip ?_ | refine c_exit ?_ | refine then_exit ?_ | refine inB_same rfl ?_ | refine inB_other rfl ?_ | refine c_ret ?_ | refine then_ret ?_ | refine inB_ret ?_)
    refine c_region ?_
    refine l_neu (n_move rfl rfl) rfl ?_
    refine l_neu (n_move rfl rfl) rfl ?_
    refine l_neu (n_index_s rfl rfl (by omega) hvk) rfl ?_
    refine l_neu (n_eql rfl rfl) rfl ?_
    refine l_nil ?_
    repeat (first | refine then_normal ?_ | refine c_seq ?_ | refine c_block ?_ | refine inB_normal ?_ | refine c_skip ?_ | refine c_exit ?_ | refine then_exit ?_ | refine inB_same rfl ?_ | refine inB_other rfl ?_ | refine c_ret ?_ | refine then_ret ?_ | refine inB_ret ?_)
    refine c_cond rfl (fun ht => ?_) (fun ht => ?_)
    · have h10 := (u8_lf _).1 (of_decide_eq_true ht)
      repeat (first | refine then_normal ?_ | refine c_seq ?_ | refine c_block ?_ | refine inB_normal ?_ | refine c_skip ?_ | refine c_exit ?_ | refine then_exit ?_ | refine inB_same rfl ?_ | refine inB_other rfl ?_ | refine c_ret ?_ | refine then_ret ?_ | refine inB_ret ?_)
      refine c_region ?_
      refine l_neu (n_assign rfl rfl) rfl ?_
      refine l_nil ?_
      repeat (first | refine then_normal ?_ | refine c_seq ?_ | refine c_block ?_ | refine inB_normal ?_ | refine c_skip ?_ | refine c_exit ?_ | refine then_exit ?_ | refine inB_same rfl ?_ | refine inB_other rfl ?_ | refine c_ret ?_ | refine then_ret ?_ | refine inB_ret ?_)
      exact ret_ret (ret1 rfl rfl rfl) (by rw [hk.2]; simp [h10])
    · have h10 : s[k]'(by omega) ≠ 10 := fun h => of_decide_eq_false ht ((u8_lf _).2 h)
      repeat (first | refine then_normal ?_ | refine c_seq ?_ | refine c_block ?_ | refine inB_normal ?_ | refine c_skip ?_ | refine c_exit ?_ | refine then_exit ?_ | refine inB_same rfl ?_ | refine inB_other rfl ?_ | refine c_ret ?_ | refine then_ret ?_ | refine inB_ret ?_)
      refine c_region ?_
      refine l_neu (n_move rfl rfl) rfl ?_
      refine l_neu (n_add rfl rfl (by omega)) rfl ?_
      refine l_neu (n_assign rfl rfl) rfl ?_
      refine l_nil ?_
      repeat (first | refine then_normal ?_ | refine c_seq ?_ | refine c_block ?_ | refine inB_normal ?_ | refine c_skip ?_ | refine c_exit ?_ | refine then_exit ?_ | refine inB_same rfl ?_ | refine inB_other rfl ?_ | refine c_ret ?_ | refine then_ret ?_ | refine inB_ret ?_)
      exact ⟨k + 1, ⟨by omega, by rw [hk.2]; simp [h10]⟩, by omega, Sees.of ⟨⟨_, rfl, by first | exact .same _ | exact .eq (by first | (simp; done) | (simp; omega)) | exact .list _ _ _ _ _ | exact .nil _ _ _ | exact .any _⟩, ⟨_, rfl, by first | exact .same _ | exact .eq (by first | (simp; done) | (simp; omega)) | exact .list _ _ _ _ _ | exact .nil _ _ _ | exact .any _⟩, trivial⟩ trivial⟩
  · have hk2 : s.length ≤ k + 1 := by have := of_decide_eq_false ht; omega
    have hlo : lineOk s = (s != []) := by rw [hk.2, List.drop_eq_nil_of_le (by simp; omega)]; rfl
    repeat (first | refine then_normal ?_ | refine c_seq ?_ | refine c_block ?_ | refine inB_normal ?_ | refine c_skip ?_ | refine c_exit ?_ | refine then_exit ?_ | refine inB_same rfl ?_ | refine inB_other rfl ?_ | refine c_ret ?_ | refine then_ret ?_ | refine inB_ret ?_)
    refine c_region ?_
    refine l_neu (n_move rfl rfl) rfl ?_
    refine l_neu (n_neq_s rfl rfl) rfl ?_
    refine l_neu (n_assign rfl rfl) rfl ?_
    refine l_nil ?_
    repeat (first | refine then_normal ?_ | refine c_seq ?_ | refine c_block ?_ | refine inB_normal ?_ | refine c_skip ?_ | refine c_exit ?_ | refine then_exit ?_ | refine inB_same rfl ?_ | refine inB_other rfl ?_ | refine c_ret ?_ | refine then_ret ?_ | refine inB_ret ?_)
    exact ret_ret (ret1 rfl rfl rfl) (by rw [hlo]; by_cases h : s = [] <;> simp [h])

theorem place_ok (l : List Str) (s : Str) : FnOk Try.prog 26 [pStrs l, pStr s] (fun rs => rs = [pInt (placeOf l s 0)]) := by
  refine FnOk.intro Try.func26 (by decide) rfl rfl rfl ?_
  refine c_bound (t := 0) rfl (.pure _ _ _ _) fun hlen => ?_
  repeat (first | refine then_normal ?_ | refine c_seq ?_ | refine c_block ?_ | refine inB_normal ?_ | refine c_skip ?_ | refine c_exit ?_ | refine then_exit ?_ | refine inB_same rfl ?_ | refine inB_other rfl ?_ | refine c_ret ?_ | refine then_ret ?_ | refine inB_ret ?_)
  refine c_region ?_
  refine l_neu (n_assign rfl rfl) rfl ?_
  refine l_nil ?_
  repeat (first | refine then_normal ?_ | refine c_seq ?_ | refine c_block ?_ | refine inB_normal ?_ | refine c_skip ?_ | refine c_exit ?_ | refine then_exit ?_ | refine inB_same rfl ?_ | refine inB_other rfl ?_ | refine c_ret ?_ | refine then_ret ?_ | refine inB_ret ?_)
  refine c_region ?_
  refine l_neu (n_assign rfl rfl) rfl ?_
  refine l_nil ?_
  repeat (first | refine then_normal ?_ | refine c_seq ?_ | refine c_block ?_ | refine inB_normal ?_ | refine c_skip ?_ | refine c_exit ?_ | refine then_exit ?_ | refine inB_same rfl ?_ | refine inB_other rfl ?_ | refine c_ret ?_ | refine then_ret ?_ | refine inB_ret ?_)
  refine c_while (X := Nat) (fun i => ([(0, sList Str 1 strC l), (1, sStr s), (5, sInt i)], [])) (fun i => i ≤ l.length ∧ placeOf l s 0 = placeOf (l.drop i) s i) (fun i => l.length - i) 0 (by simp) (Sees.of ⟨⟨_, rfl, by first | exact .same _ | exact .eq (by first | (simp; done) | (simp; omega)) | exact .list _ _ _ _ _ | exact .nil _ _ _ | exact .any _⟩, ⟨_, rfl, by first | exact .same _ | exact .eq (by first | (simp; done) | (simp; omega)) | exact .list _ _ _ _ _ | exact .nil _ _ _ | exact .any _⟩, ⟨_, rfl, by first | exact .same _ | exact .eq (by first | (simp; done) | (simp; omega)) | exact .list _ _ _ _ _ | exact .nil _ _ _ | exact .any _⟩, trivial⟩ trivial) ?_
  rintro i ⟨hi, hp⟩
  dsimp only at hi hp ⊢
  repeat (first | refine then_normal ?_ | refine c_seq ?_ | refine c_block ?_ | refine inB_normal ?_ | refine c_skip ?_ | refine c_exit ?_ | refine then_exit ?_ | refine inB_same rfl ?_ | refine inB_other rfl ?_ | refine c_ret ?_ | refine then_ret ?_ | refine inB_ret ?_)
  refine c_region ?_
  refine l_neu (n_move rfl rfl) rfl ?_
  refine l_neu (n_move rfl rfl) rfl ?_
  first | refine l_neu (n_len rfl (.pure _ _ _ _)) rfl ?_ | refine l_neu (n_len rfl (.buf _ _ _ _ _)) rfl ?_ | refine l_neu (n_len_mut rfl rfl) rfl ?_ | refine l_neu (n_len_mutT rfl rfl) rfl ?_ | refine l_neu (n_len_nil rfl) rfl ?_
  refine l_neu (n_lss rfl rfl) rfl ?_
  refine l_nil ?_
  repeat (first | refine then_normal ?_ | refine c_seq ?_ | refine c_block ?_ | refine inB_normal ?_ | refine c_skip ?_ | refine c_exit ?_ | refine then_exit ?_ | refine inB_same rfl ?_ | refine inB_other rfl ?_ | refine c_ret ?_ | refine then_ret ?_ | refine inB_ret ?_)
  refine c_cond rfl (fun ht => ?_) (fun ht => ?_)
  · have hlt : i < l.length := by simpa using ht
    have hv : l[i]? = some l[i] := by simp [hlt]
    rw [placeOf_drop l s i hlt] at hp
    repeat (first | refine then_normal ?_ | refine c_seq ?_ | refine c_block ?_ | refine inB_normal ?_ | refine c_skip ?_ | refine c_exit ?_ | refine then_exit ?_ | refine inB_same rfl ?_ | refine inB_other rfl ?_ | refine c_ret ?_ | refine then_ret ?_ | refine inB_ret ?_)
    refine c_region ?_
    refine l_neu (n_move rfl rfl) rfl ?_
    refine l_neu (n_move rfl rfl) rfl ?_
    first | refine l_neu (n_indexAddr rfl (.pure _ _ _ _) rfl (by omega) hv) rfl ?_ | refine l_neu (n_indexAddr rfl (.buf _ _ _ _ _) rfl (by omega) hv) rfl ?_ | refine l_neu (n_indexAddr_mut rfl rfl rfl (by omega) (by omega)) rfl ?_ | refine l_neu (n_indexAddr_mutT rfl rfl rfl (by omega) (by omega)) rfl ?_
    first | refine l_neu (n_load_eref rfl rfl) rfl ?_ | refine l_neu (n_load_ref rfl rfl rfl) rfl ?_ | refine l_neu (n_load_mref rfl rfl (List.getElem?_eq_getElem (by omega)) rfl) rfl ?_ | refine l_neu (n_load_mrefT1 rfl rfl rfl) rfl ?_
    refine l_neu (n_move rfl rfl) rfl ?_
    refine l_neu (n_eql_s rfl rfl) rfl ?_
    refine l_nil ?_
    repeat (first | refine then_normal ?_ | refine c_seq ?_ | refine c_block ?_ | refine inB_normal ?_ | refine c_skip ?_ | refine c_exit ?_ | refine then_exit ?_ | refine inB_same rfl ?_ | refine inB_other rfl ?_ | refine c_ret ?_ | refine then_ret ?_ | refine inB_ret ?_)
    refine c_cond rfl (fun ht => ?_) (fun ht => ?_)
    · rw [if_pos (by simpa using ht)] at hp
      repeat (first | refine then_normal ?_ | refine c_seq ?_ | refine c_block ?_ | refine inB_normal ?_ | refine c_skip ?_ | refine c_exit ?_ | refine then_exit ?_ | refine inB_same rfl ?_ | refine inB_other rfl ?_ | refine c_ret ?_ | refine then_ret ?_ | refine inB_ret ?_)
      refine c_region ?_
      refine l_neu (n_move rfl rfl) rfl ?_
      refine l_neu (n_assign rfl rfl) rfl ?_
      refine l_nil ?_
      repeat (first | refine then_normal ?_ | refine c_seq ?_ | refine c_block ?_ | refine inB_normal ?_ | refine c_skip ?_ | refine c_exit ?_ | refine then_exit ?_ | refine inB_same rfl ?_ | refine inB_other rfl ?_ | refine c_ret ?_ | refine then_ret ?_ | refine inB_ret ?_)
      exact ret_ret (ret1 rfl rfl rfl) (by rw [hp])
    · rw [if_neg (by simpa using ht)] at hp
      repeat (first | refine then_normal ?_ | refine c_seq ?_ | refine c_block ?_ | refine inB_normal ?_ | refine c_skip ?_ | refine c_exit ?_ | refine then_exit ?_ | refine inB_same rfl ?_ | refine inB_other rfl ?_ | refine c_ret ?_ | refine then_ret ?_ | refine inB_ret ?_)
      refine c_region ?_
      refine l_neu (n_move rfl rfl) rfl ?_
      refine l_neu (n_add rfl rfl (by omega)) rfl ?_
      refine l_neu (n_assign rfl rfl) rfl ?_
      refine l_nil ?_
      repeat (first | refine then_normal ?_ | refine c_seq ?_ | refine c_block ?_ | refine inB_normal ?_ | refine c_skip ?_ | refine c_exit ?_ | refine then_exit ?_ | refine inB_same rfl ?_ | refine inB_other rfl ?_ | refine c_ret ?_ | refine then_ret ?_ | refine inB_ret ?_)
      exact ⟨i + 1, ⟨by omega, by simpa using hp⟩, by omega, Sees.of ⟨⟨_, rfl, by first | exact .same _ | exact .eq (by first | (simp; done) | (simp; omega)) | exact .list _ _ _ _ _ | exact .nil _ _ _ | exact .any _⟩, ⟨_, rfl, by first | exact .same _ | exact .eq (by first | (simp; done) | (simp; omega)) | exact .list _ _ _ _ _ | exact .nil _ _ _ | exact .any _⟩, ⟨_, rfl, by first | exact .same _ | exact .eq (by first | (simp; done) | (simp; omega)) | exact .list _ _ _ _ _ | exact .nil _ _ _ | exact .any _⟩, trivial⟩ trivial⟩
  · have : i = l.length := by simp at ht; omega
    subst this
    repeat (first | refine then_normal ?_ | refine c_seq ?_ | refine c_block ?_ | refine inB_normal ?_ | refine c_skip ?_ | refine c_exit ?_ | refine then_exit ?_ | refine inB_same rfl ?_ | refine inB_other rfl ?_ | refine c_ret ?_ | refine then_ret ?_ | refine inB_ret ?_)
    refine c_region ?_
    refine l_neu (n_assign rfl rfl) rfl ?_
    refine l_nil ?_
    repeat (first | refine then_normal ?_ | refine c_seq ?_ | refine c_block ?_ | refine inB_normal ?_ | refine c_skip ?_ | refine c_exit ?_ | refine then_exit ?_ | refine inB_same rfl ?_ | refine inB_other rfl ?_ | refine c_ret ?_ | refine then_ret ?_ | refine inB_ret ?_)
    exact ret_ret (ret1 rfl rfl rfl) (by rw [hp]; simp [placeOf])

theorem names_ok (fs : List (List Str)) (hfs : fs.flatten.length ≤ 536870912) : FnOk Try.prog 13 [pStrss fs] (fun rs => rs = [pStrs (namesOf fs)]) := by
  refine FnOk.intro Try.func13 (by decide) rfl rfl rfl ?_
  refine c_bound (t := 0) rfl (.pure _ _ _ _) fun hlen => ?_
  repeat (first | refine then_normal ?_ | refine c_seq ?_ | refine c_block ?_ | refine inB_normal ?_ | refine c_skip ?_ | refine c_exit ?_ | refine then_exit ?_ | refine inB_same rfl ?_ | refine inB_other rfl ?_ | refine c_ret ?_ | refine then_ret ?_ | refine inB_ret ?_)
  refine c_region ?_
  refine l_neu (n_assign rfl rfl) rfl ?_
  refine l_nil ?_
  repeat (first | refine then_normal ?_ | refine c_seq ?_ | refine c_block ?_ | refine inB_normal ?_ | refine c_skip ?_ | refine c_exit ?_ | refine then_exit ?_ | refine inB_same rfl ?_ | refine inB_other rfl ?_ | refine c_ret ?_ | refine then_ret ?_ | refine inB_ret ?_)
  refine c_region ?_
  refine l_effv (f_adopt 3 _ strC rfl) rfl ?_
  refine l_nil ?_
  repeat (first | refine then_normal ?_ | refine c_seq ?_ | refine c_block ?_ | refine inB_normal ?_ | refine c_skip ?_ | refine c_exit ?_ | refine then_exit ?_ | refine inB_same rfl ?_ | refine inB_other rfl ?_ | refine c_ret ?_ | refine then_ret ?_ | refine inB_ret ?_)
  refine c_region ?_
  refine l_neu (n_assign rfl rfl) rfl ?_
  refine l_nil ?_
  repeat (first | refine then_normal ?_ | refine c_seq ?_ | refine c_block ?_ | refine inB_normal ?_ | refine c_skip ?_ | refine c_exit ?_ | refine then_exit ?_ | refine inB_same rfl ?_ | refine inB_other rfl ?_ | refine c_ret ?_ | refine then_ret ?_ | refine inB_ret ?_)
  refine c_while (X := Nat) (fun f => ([(0, sList (List Str) 1 strsC fs), (3, .s (.one (.buf 3 Str 1 strC (namesOf (fs.take f))))), (4, sInt f)], [(3, .spare (namesOf (fs.take f)).length 1 9)])) (fun f => f ≤ fs.length) (fun f => fs.length - f) 0 (by simp) (Sees.of ⟨⟨_, rfl, by first | exact .same _ | exact .eq (by first | (simp; done) | (simp; omega)) | exact .list _ _ _ _ _ | exact .nil _ _ _ | exact .any _⟩, ⟨_, rfl, by first | exact .same _ | exact .eq (by first | (simp; done) | (simp; omega)) | exact .list _ _ _ _ _ | exact .nil _ _ _ | exact .any _⟩, ⟨_, rfl, by first | exact .same _ | exact .eq (by first | (simp; done) | (simp; omega)) | exact .list _ _ _ _ _ | exact .nil _ _ _ | exact .any _⟩, trivial⟩ ⟨rfl, trivial⟩) ?_
  intro f hf
  dsimp only at hf ⊢
  repeat (first | refine then_normal ?_ | refine c_seq ?_ | refine c_block ?_ | refine inB_normal ?_ | refine c_skip ?_ | refine c_exit ?_ | refine then_exit ?_ | refine inB_same rfl ?_ | refine inB_other rfl ?_ | refine c_ret ?_ | refine then_ret ?_ | refine inB_ret ?_)
  refine c_region ?_
  refine l_neu (n_move rfl rfl) rfl ?_
  refine l_neu (n_move rfl rfl) rfl ?_
  first | refine l_neu (n_len rfl (.pure _ _ _ _)) rfl ?_ | refine l_neu (n_len rfl (.buf _ _ _ _ _)) rfl ?_ | refine l_neu (n_len_mut rfl rfl) rfl ?_ | refine l_neu (n_len_mutT rfl rfl) rfl ?_ | refine l_neu (n_len_nil rfl) rfl ?_
  refine l_neu (n_lss rfl rfl) rfl ?_
  refine l_nil ?_
  repeat (first | refine then_normal ?_ | refine c_seq ?_ | refine c_block ?_ | refine inB_normal ?_ | refine c_skip ?_ | refine c_exit ?_ | refine then_exit ?_ | refine inB_same rfl ?_ | refine inB_other rfl ?_ | refine c_ret ?_ | refine then_ret ?_ | refine inB_ret ?_)
  refine c_cond rfl (fun ht => ?_) (fun ht => ?_)
  · have hlt : f < fs.length := by have := of_decide_eq_true ht; omega
    have hv : fs[f]? = some fs[f] := by simp [hlt]
    have hfl := flatten_take_succ fs f hlt
    have hle := flatten_take_le fs (f + 1)
    rw [hfl, List.length_append] at hle
    have hn0 := namesOf_length (fs.take f)
    repeat (first | refine then_normal ?_ | refine c_seq ?_ | refine c_block ?_ | refine inB_normal ?_ | refine c_skip ?_ | refine c_exit ?_ | refine then_exit ?_ | refine inB_same rfl ?_ | refine inB_other rfl ?_ | refine c_ret ?_ | refine then_ret ?_ | refine inB_ret ?_)
    refine c_region ?_
    refine l_neu (n_assign rfl rfl) rfl ?_
    refine l_nil ?_
    repeat (first | refine then_normal ?_ | refine c_seq ?_ | refine c_block ?_ | refine inB_normal ?_ | refine c_skip ?_ | refine c_exit ?_ | refine then_exit ?_ | refine inB_same rfl ?_ | refine inB_other rfl ?_ | refine c_ret ?_ | refine then_ret ?_ | refine inB_ret ?_)
    refine c_while (X := Nat) (fun i => ([(0, sList (List Str) 1 strsC fs), (3, .s (.one (.buf 3 Str 1 strC ((fs[f].take i).foldl namesStep (namesOf (fs.take f)))))), (4, sInt f), (5, sInt i)], [(3, .spare ((fs[f].take i).foldl namesStep (namesOf (fs.take f))).length 1 9)])) (fun i => i ≤ fs[f].length) (fun i => fs[f].length - i) 0 (by simp) (Sees.of ⟨⟨_, rfl, by first | exact .same _ | exact .eq (by first | (simp; done) | (simp; omega)) | exact .list _ _ _ _ _ | exact .nil _ _ _ | exact .any _⟩, ⟨_, rfl, by first | exact .same _ | exact .eq (by first | (simp; done) | (simp; omega)) | exact .list _ _ _ _ _ | exact .nil _ _ _ | exact .any _⟩, ⟨_, rfl, by first | exact .same _ | exact .eq (by first | (simp; done) | (simp; omega)) | exact .list _ _ _ _ _ | exact .nil _ _ _ | exact .any _⟩, ⟨_, rfl, by first | exact .same _ | exact .eq (by first | (simp; done) | (simp; omega)) | exact .list _ _ _ _ _ | exact .nil _ _ _ | exact .any _⟩, trivial⟩ ⟨rfl, trivial⟩) ?_
    intro i hi
    dsimp only at hi ⊢
    have hni := foldl_names_length (fs[f].take i) (namesOf (fs.take f))
    rw [List.length_take] at hni
    repeat (first | refine then_normal ?_ | refine c_seq ?_ | refine c_block ?_ | refine inB_normal ?_ | refine c_skip ?_ | refine c_exit ?_ | refine then_exit ?_ | refine inB_same rfl ?_ | refine inB_other rfl ?_ | refine c_ret ?_ | refine then_ret ?_ | refine inB_ret ?_)
    refine c_region ?_
    refine l_neu (n_move rfl rfl) rfl ?_
    refine l_neu (n_move rfl rfl) rfl ?_
    refine l_neu (n_move rfl rfl) rfl ?_
    first | refine l_neu (n_indexAddr rfl (.pure _ _ _ _) rfl (by omega) hv) rfl ?_ | refine l_neu (n_indexAddr rfl (.buf _ _ _ _ _) rfl (by omega) hv) rfl ?_ | refine l_neu (n_indexAddr_mut rfl rfl rfl (by omega) (by omega)) rfl ?_ | refine l_neu (n_indexAddr_mutT rfl rfl rfl (by omega) (by omega)) rfl ?_
    first | refine l_neu (n_load_eref rfl rfl) rfl ?_ | refine l_neu (n_load_ref rfl rfl rfl) rfl ?_ | refine l_neu (n_load_mref rfl rfl (List.getElem?_eq_getElem (by omega)) rfl) rfl ?_ | refine l_neu (n_load_mrefT1 rfl rfl rfl) rfl ?_
    first | refine l_neu (n_len rfl (.pure _ _ _ _)) rfl ?_ | refine l_neu (n_len rfl (.buf _ _ _ _ _)) rfl ?_ | refine l_neu (n_len_mut rfl rfl) rfl ?_ | refine l_neu (n_len_mutT rfl rfl) rfl ?_ | refine l_neu (n_len_nil rfl) rfl ?_
    refine l_neu (n_lss rfl rfl) rfl ?_
    refine l_nil ?_
    repeat (first | refine then_normal ?_ | refine c_seq ?_ | refine c_block ?_ | refine inB_normal ?_ | refine c_skip ?_ | refine c_exit ?_ | refine then_exit ?_ | refine inB_same rfl ?_ | refine inB_other rfl ?_ | refine c_ret ?_ | refine then_ret ?_ | refine inB_ret ?_)
    refine c_cond rfl (fun ht => ?_) (fun ht => ?_)
    · have hlt2 : i < fs[f].length := by have := of_decide_eq_true ht; omega
      have hvi : fs[f][i]? = some fs[f][i] := by simp [hlt2]
      have hst : (fs[f].take (i + 1)).foldl namesStep (namesOf (fs.take f)) = namesStep ((fs[f].take i).foldl namesStep (namesOf (fs.take f))) fs[f][i] := by
        rw [List.take_add_one, hvi, Option.toList_some, List.foldl_append]; rfl
      repeat (first | refine then_normal ?_ | refine c_seq ?_ | refine c_block ?_ | refine inB_normal ?_ | refine c_skip ?_ | refine c_exit ?_ | refine then_exit ?_ | refine inB_same rfl ?_ | refine inB_other rfl ?_ | refine c_ret ?_ | refine then_ret ?_ | refine inB_ret ?_)
      refine c_region ?_
      refine l_neu (n_move rfl rfl) rfl ?_
      refine l_neu (n_move rfl rfl) rfl ?_
      refine l_neu (n_move rfl rfl) rfl ?_
      first | refine l_neu (n_indexAddr rfl (.pure _ _ _ _) rfl (by omega) hv) rfl ?_ | refine l_neu (n_indexAddr rfl (.buf _ _ _ _ _) rfl (by omega) hv) rfl ?_ | refine l_neu (n_indexAddr_mut rfl rfl rfl (by omega) (by omega)) rfl ?_ | refine l_neu (n_indexAddr_mutT rfl rfl rfl (by omega) (by omega)) rfl ?_
      first | refine l_neu (n_load_eref rfl rfl) rfl ?_ | refine l_neu (n_load_ref rfl rfl rfl) rfl ?_ | refine l_neu (n_load_mref rfl rfl (List.getElem?_eq_getElem (by omega)) rfl) rfl ?_ | refine l_neu (n_load_mrefT1 rfl rfl rfl) rfl ?_
      refine l_neu (n_move rfl rfl) rfl ?_
      first | refine l_neu (n_indexAddr rfl (.pure _ _ _ _) rfl (by omega) hvi) rfl ?_ | refine l_neu (n_indexAddr rfl (.buf _ _ _ _ _) rfl (by omega) hvi) rfl ?_ | refine l_neu (n_indexAddr_mut rfl rfl rfl (by omega) (by omega)) rfl ?_ | refine l_neu (n_indexAddr_mutT rfl rfl rfl (by omega) (by omega)) rfl ?_
      first | refine l_neu (n_load_eref rfl rfl) rfl ?_ | refine l_neu (n_load_ref rfl rfl rfl) rfl ?_ | refine l_neu (n_load_mref rfl rfl (List.getElem?_eq_getElem (by omega)) rfl) rfl ?_ | refine l_neu (n_load_mrefT1 rfl rfl rfl) rfl ?_
      refine l_call (place_ok _ _) rfl rfl rfl ?_
      rintro _ rfl
      refine l_neu (n_lss rfl rfl) rfl ?_
      refine l_nil ?_
      repeat (first | refine then_normal ?_ | refine c_seq ?_ | refine c_block ?_ | refine inB_normal ?_ | refine c_skip ?_ | refine c_exit ?_ | refine then_exit ?_ | refine inB_same rfl ?_ | refine inB_other rfl ?_ | refine c_ret ?_ | refine then_ret ?_ | refine inB_ret ?_)
      have hpl := placeOf_neg ((fs[f].take i).foldl namesStep (namesOf (fs.take f))) fs[f][i] 0 (Int.le_refl _)
      refine c_cond rfl (fun ht => ?_) (fun ht => ?_)
      · have hnot := hpl.1 (of_decide_eq_true ht)
        repeat (first | refine then_normal ?_ | refine c_seq ?_ | refine c_block ?_ | refine inB_normal ?_ | refine c_skip ?_ | refine c_exit ?_ | refine then_exit ?_ | refine inB_same rfl ?_ | refine inB_other rfl ?_ | refine c_ret ?_ | refine then_ret ?_ | refine inB_ret ?_)
        refine c_region ?_
        refine l_neu (n_move rfl rfl) rfl ?_
        refine l_neu (n_move rfl rfl) rfl ?_
        refine l_neu (n_move rfl rfl) rfl ?_
        first | refine l_neu (n_indexAddr rfl (.pure _ _ _ _) rfl (by omega) hv) rfl ?_ | refine l_neu (n_indexAddr rfl (.buf _ _ _ _ _) rfl (by omega) hv) rfl ?_ | refine l_neu (n_indexAddr_mut rfl rfl rfl (by omega) (by omega)) rfl ?_ | refine l_neu (n_indexAddr_mutT rfl rfl rfl (by omega) (by omega)) rfl ?_
        first | refine l_neu (n_load_eref rfl rfl) rfl ?_ | refine l_neu (n_load_ref rfl rfl rfl) rfl ?_ | refine l_neu (n_load_mref rfl rfl (List.getElem?_eq_getElem (by omega)) rfl) rfl ?_ | refine l_neu (n_load_mrefT1 rfl rfl rfl) rfl ?_
        refine l_neu (n_move rfl rfl) rfl ?_
        first | refine l_neu (n_indexAddr rfl (.pure _ _ _ _) rfl (by omega) hvi) rfl ?_ | refine l_neu (n_indexAddr rfl (.buf _ _ _ _ _) rfl (by omega) hvi) rfl ?_ | refine l_neu (n_indexAddr_mut rfl rfl rfl (by omega) (by omega)) rfl ?_ | refine l_neu (n_indexAddr_mutT rfl rfl rfl (by omega) (by omega)) rfl ?_
        first | refine l_neu (n_load_eref rfl rfl) rfl ?_ | refine l_neu (n_load_ref rfl rfl rfl) rfl ?_ | refine l_neu (n_load_mref rfl rfl (List.getElem?_eq_getElem (by omega)) rfl) rfl ?_ | refine l_neu (n_load_mrefT1 rfl rfl rfl) rfl ?_
        refine l_neu (n_buildSlice (c := strC) (ys := [_]) (asm_cons rfl rfl rfl rfl asm_nil) rfl rfl rfl) rfl ?_
        first | refine l_effv (e_append rfl rfl rfl (.pure _ _ _ _) (by simp; omega) rfl) rfl ?_ | refine l_effv (e_append rfl rfl rfl (.buf _ _ _ _ _) (by simp; omega) rfl) rfl ?_
        refine l_neu (n_assign rfl rfl) rfl ?_
        refine l_nil ?_
        repeat (first | refine then_normal ?_ | refine c_seq ?_ | refine c_block ?_ | refine inB_normal ?_ | refine c_skip ?_ | refine c_exit ?_ | refine then_exit ?_ | refine inB_same rfl ?_ | refine inB_other rfl ?_ | refine c_ret ?_ | refine then_ret ?_ | refine inB_ret ?_)
        refine c_region ?_
        refine l_neu (n_move rfl rfl) rfl ?_
        refine l_neu (n_add rfl rfl (by omega)) rfl ?_
        refine l_neu (n_assign rfl rfl) rfl ?_
        refine l_nil ?_
        repeat (first | refine then_normal ?_ | refine c_seq ?_ | refine c_block ?_ | refine inB_normal ?_ | refine c_skip ?_ | refine c_exit ?_ | refine then_exit ?_ | refine inB_same rfl ?_ | refine inB_other rfl ?_ | refine c_ret ?_ | refine then_ret ?_ | refine inB_ret ?_)
        refine ⟨i + 1, by omega, by omega, ?_⟩
        rw [hst, namesStep, if_neg hnot]
        exact Sees.of ⟨⟨_, rfl, by first | exact .same _ | exact .eq (by first | (simp; done) | (simp; omega)) | exact .list _ _ _ _ _ | exact .nil _ _ _ | exact .any _⟩, ⟨_, rfl, by first | exact .same _ | exact .eq (by first | (simp; done) | (simp; omega)) | exact .list _ _ _ _ _ | exact .nil _ _ _ | exact .any _⟩, ⟨_, rfl, by first | exact .same _ | exact .eq (by first | (simp; done) | (simp; omega)) | exact .list _ _ _ _ _ | exact .nil _ _ _ | exact .any _⟩, ⟨_, rfl, by first | exact .same _ | exact .eq (by first | (simp; done) | (simp; omega)) | exact .list _ _ _ _ _ | exact .nil _ _ _ | exact .any _⟩, trivial⟩ ⟨rfl, trivial⟩
      · have hin : fs[f][i] ∈ (fs[f].take i).foldl namesStep (namesOf (fs.take f)) := Classical.byContradiction fun h => of_decide_eq_false ht (hpl.2 h)
        repeat (first | refine then_normal ?_ | refine c_seq ?_ | refine c_block ?_ | refine inB_normal ?_ | refine c_skip ?_ | refine c_exit ?_ | refine then_exit ?_ | refine inB_same rfl ?_ | refine inB_other rfl ?_ | refine c_ret ?_ | refine then_ret ?_ | refine inB_ret ?_)
        refine c_region ?_
        refine l_neu (n_move rfl rfl) rfl ?_
        refine l_neu (n_add rfl rfl (by omega)) rfl ?_
        refine l_neu (n_assign rfl rfl) rfl ?_
        refine l_nil ?_
        repeat (first | refine then_normal ?_ | refine c_seq ?_ | refine c_block ?_ | refine inB_normal ?_ | refine c_skip ?_ | refine c_exit ?_ | refine then_exit ?_ | refine inB_same rfl ?_ | refine inB_other rfl ?_ | refine c_ret ?_ | refine then_ret ?_ | refine inB_ret ?_)
        refine ⟨i + 1, by omega, by omega, ?_⟩
        rw [hst, namesStep, if_pos hin]
        exact Sees.of ⟨⟨_, rfl, by first | exact .same _ | exact .eq (by first | (simp; done) | (simp; omega)) | exact .list _ _ _ _ _ | exact .nil _ _ _ | exact .any _⟩, ⟨_, rfl, by first | exact .same _ | exact .eq (by first | (simp; done) | (simp; omega)) | exact .list _ _ _ _ _ | exact .nil _ _ _ | exact .any _⟩, ⟨_, rfl, by first | exact .same _ | exact .eq (by first | (simp; done) | (simp; omega)) | exact .list _ _ _ _ _ | exact .nil _ _ _ | exact .any _⟩, ⟨_, rfl, by first | exact .same _ | exact .eq (by first | (simp; done) | (simp; omega)) | exact .list _ _ _ _ _ | exact .nil _ _ _ | exact .any _⟩, trivial⟩ ⟨rfl, trivial⟩
    · have hi' : i = fs[f].length := by have := of_decide_eq_false ht; omega
      subst hi'
      repeat (first | refine then_normal ?_ | refine c_seq ?_ | refine c_block ?_ | refine inB_normal ?_ | refine c_skip ?_ | refine c_exit ?_ | refine then_exit ?_ | refine inB_same rfl ?_ | refine inB_other rfl ?_ | refine c_ret ?_ | refine then_ret ?_ | refine inB_ret ?_)
      have : namesOf (fs.take (f + 1)) = (fs[f].take fs[f].length).foldl namesStep (namesOf (fs.take f)) := by
        rw [namesOf, hfl, List.foldl_append, List.take_length]; rfl
      refine c_region ?_
      refine l_neu (n_move rfl rfl) rfl ?_
      refine l_neu (n_add rfl rfl (by omega)) rfl ?_
      refine l_neu (n_assign rfl rfl) rfl ?_
      refine l_nil ?_
      repeat (first | refine then_normal ?_ | refine c_seq ?_ | refine c_block ?_ | refine inB_normal ?_ | refine c_skip ?_ | refine c_exit ?_ | refine then_exit ?_ | refine inB_same rfl ?_ | refine inB_other rfl ?_ | refine c_ret ?_ | refine then_ret ?_ | refine inB_ret ?_)
      refine ⟨f + 1, by omega, by omega, ?_⟩
      rw [this]
      exact Sees.of ⟨⟨_, rfl, by first | exact .same _ | exact .eq (by first | (simp; done) | (simp; omega)) | exact .list _ _ _ _ _ | exact .nil _ _ _ | exact .any _⟩, ⟨_, rfl, by first | exact .same _ | exact .eq (by first | (simp; done) | (simp; omega)) | exact .list _ _ _ _ _ | exact .nil _ _ _ | exact .any _⟩, ⟨_, rfl, by first | exact .same _ | exact .eq (by first | (simp; done) | (simp; omega)) | exact .list _ _ _ _ _ | exact .nil _ _ _ | exact .any _⟩, trivial⟩ ⟨rfl, trivial⟩
  · have : f = fs.length := by have := of_decide_eq_false ht; omega
    subst this
    repeat (first | refine then_normal ?_ | refine c_seq ?_ | refine c_block ?_ | refine inB_normal ?_ | refine c_skip ?_ | refine c_exit ?_ | refine then_exit ?_ | refine inB_same rfl ?_ | refine inB_other rfl ?_ | refine c_ret ?_ | refine then_ret ?_ | refine inB_ret ?_)
    refine c_region ?_
    refine l_neu (n_move rfl rfl) rfl ?_
    refine l_neu (n_assign rfl rfl) rfl ?_
    refine l_nil ?_
    repeat (first | refine then_normal ?_ | refine c_seq ?_ | refine c_block ?_ | refine inB_normal ?_ | refine c_skip ?_ | refine c_exit ?_ | refine then_exit ?_ | refine inB_same rfl ?_ | refine inB_other rfl ?_ | refine c_ret ?_ | refine then_ret ?_ | refine inB_ret ?_)
    exact ret_ret (ret1 rfl rfl rfl) (by simp)
end Go.Proofs.Ytljfkoaafocglaa
