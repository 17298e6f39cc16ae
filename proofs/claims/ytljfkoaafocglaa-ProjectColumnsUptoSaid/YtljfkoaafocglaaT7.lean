/- The reference's Make of tables, by the abstract logic. -/
import Derived.Test.YtljfkoaafocglaaT6
namespace Go.Proofs.Ytljfkoaafocglaa
open Go Go.AL
set_option maxRecDepth 100000

theorem checkOf_small {b : Str} (h : b.length ≤ 200) : checkOf b = 0 := by
  have := linesOf_length b
  rw [checkOf, if_neg (by omega)]

theorem rowUp_get {m r : Nat} {z : TC} (h : r < m) : (rowUp m m z)[r]? = some (.mut (r + 1000)) := by
  unfold rowUp; rw [List.getElem?_map, List.getElem?_range h]; simp [h]
/-- the first k elements have turned -/
def mapTo (f : Int → Int) (l : List Int) (k : Nat) : List Int := (l.take k).map f ++ l.drop k
theorem mapTo_length (f : Int → Int) (l : List Int) (k : Nat) : (mapTo f l k).length = l.length := by simp [mapTo]; omega
theorem mapTo_get (f : Int → Int) (l : List Int) (k : Nat) (h : k < l.length) : (mapTo f l k)[k]? = some (l.getD k 0) := by
  unfold mapTo
  rw [List.getElem?_append_right (by simp; omega)]
  simp [show k - min k l.length = 0 by omega, List.getElem?_eq_getElem h, List.getD_eq_getElem?_getD]
theorem mapTo_set (f : Int → Int) (l : List Int) (k : Nat) (h : k < l.length) : (mapTo f l k).set k (f (l.getD k 0)) = mapTo f l (k + 1) := by
  unfold mapTo
  rw [List.set_append_right _ _ (by simp; omega), List.drop_eq_getElem_cons h, List.take_succ_eq_append_getElem h]
  have e : k - min k l.length = 0 := by omega
  simp only [List.length_map, List.length_take, e, List.set_cons_zero, List.map_append, List.map_cons, List.map_nil, List.append_assoc, List.singleton_append, List.getD_eq_getElem?_getD, List.getElem?_eq_getElem h, Option.getD_some]
theorem mapTo_zero (f : Int → Int) (l : List Int) : mapTo f l 0 = l := by simp [mapTo]
theorem mapTo_full (f : Int → Int) (l : List Int) : mapTo f l l.length = l.map f := by simp [mapTo]

set_option maxHeartbeats 1000000
theorem make16_ok (result : Str) (parents : List Str) (h0 : result.length ≤ 200) (h1 : ∀ b ∈ parents, b.length ≤ 200) : FnOk Try.prog 6 [pStr result, pStrs parents] (fun rs => rs = [pTable (make16 result parents).1, pInt (make16 result parents).2]) := by
  refine FnOk.intro Try.func6 (by decide) rfl rfl rfl ?_
  refine c_bound (t := 1) rfl (.pure _ _ _ _) fun hplen => ?_
  repeat (first | refine then_normal ?_ | refine c_seq ?_ | refine c_block ?_ | refine inB_normal ?_ | refine c_skip ?_ | refine c_exit ?_ | refine then_exit ?_ | refine inB_same rfl ?_ | refine inB_other rfl ?_ | refine c_ret ?_ | refine then_ret ?_ | refine inB_ret ?_)
  refine c_region ?_
  refine l_effv (f_alloc 4 rfl) rfl ?_
  refine l_neu (n_assign rfl rfl) rfl ?_
  refine l_nil ?_
  repeat (first | refine then_normal ?_ | refine c_seq ?_ | refine c_block ?_ | refine inB_normal ?_ | refine c_skip ?_ | refine c_exit ?_ | refine then_exit ?_ | refine inB_same rfl ?_ | refine inB_other rfl ?_ | refine c_ret ?_ | refine then_ret ?_ | refine inB_ret ?_)
  refine c_region ?_
  refine l_neu (n_move rfl rfl) rfl ?_
  first | refine l_neu (n_len rfl (.pure _ _ _ _)) rfl ?_ | refine l_neu (n_len rfl (.buf _ _ _ _ _)) rfl ?_ | refine l_neu (n_len_mut rfl rfl) rfl ?_ | refine l_neu (n_len_mutT rfl rfl) rfl ?_ | refine l_neu (n_len_nil rfl) rfl ?_
  refine l_neu (n_assign rfl rfl) rfl ?_
  refine l_nil ?_
  repeat (first | refine then_normal ?_ | refine c_seq ?_ | refine c_block ?_ | refine inB_normal ?_ | refine c_skip ?_ | refine c_exit ?_ | refine then_exit ?_ | refine inB_same rfl ?_ | refine inB_other rfl ?_ | refine c_ret ?_ | refine then_ret ?_ | refine inB_ret ?_)
  refine c_region ?_
  refine l_neu (n_move rfl rfl) rfl ?_
  refine l_neu (n_lss rfl rfl) rfl ?_
  refine l_neu (n_move rfl rfl) rfl ?_
  refine l_guard rfl rfl rfl rfl (fun hg => by rw [hg]; exact n_move rfl rfl) ?_
  refine l_guard rfl rfl rfl rfl (fun hg => by rw [hg]; exact n_gtr rfl rfl) ?_
  refine l_neu (n_pick_bool rfl (fun h => by first | rfl | (rw [h]; rfl)) (fun h => by first | rfl | (rw [h]; rfl))) rfl ?_
  refine l_nil ?_
  repeat (first | refine then_normal ?_ | refine c_seq ?_ | refine c_block ?_ | refine inB_normal ?_ | refine c_skip ?_ | refine c_exit ?_ | refine then_exit ?_ | refine inB_same rfl ?_ | refine inB_other rfl ?_ | refine c_ret ?_ | refine then_ret ?_ | refine inB_ret ?_)
  refine c_cond rfl (fun ht => ?_) (fun ht => ?_)
  · have h := of_decide_eq_true (or_pick.symm.trans ht)
    repeat (first | refine then_normal ?_ | refine c_seq ?_ | refine c_block ?_ | refine inB_normal ?_ | refine c_skip ?_ | refine c_exit ?_ | refine then_exit ?_ | refine inB_same rfl ?_ | refine inB_other rfl ?_ | refine c_ret ?_ | refine then_ret ?_ | refine inB_ret ?_)
    refine c_region ?_
    refine l_neu (n_build rfl) rfl ?_
    first | refine l_eff (e_store_ref TySz.out rfl rfl rfl rfl rfl rfl) ?_ | refine l_eff (e_store_mref1 TySz.out rfl rfl (by simp; omega) rfl rfl) ?_ | refine l_eff (e_store_mrefT1 TySz.out rfl rfl (by simp; omega) rfl rfl) ?_
    refine l_neu (n_assign rfl rfl) rfl ?_
    refine l_nil ?_
    repeat (first | refine then_normal ?_ | refine c_seq ?_ | refine c_block ?_ | refine inB_normal ?_ | refine c_skip ?_ | refine c_exit ?_ | refine then_exit ?_ | refine inB_same rfl ?_ | refine inB_other rfl ?_)
    refine c_sees (Sees.listB Row 3 rowC 4 1 rfl rfl) ?_
    repeat (first | refine then_normal ?_ | refine c_seq ?_ | refine c_block ?_ | refine inB_normal ?_ | refine c_skip ?_ | refine c_exit ?_ | refine then_exit ?_ | refine inB_same rfl ?_ | refine inB_other rfl ?_ | refine c_ret ?_ | refine then_ret ?_ | refine inB_ret ?_)
    exact ret_ret (rs := [pTable ⟨0, []⟩, pInt 2]) (retc2 rfl rfl rfl rfl rfl rfl rfl) (by rw [make16, if_pos (by omega)])
  · have h := of_decide_eq_false (or_pick.symm.trans ht)
    refine c_cut [(0, sStr result), (1, sList Str 1 strC parents), (4, .s (.one (.ref 4 0))), (6, sInt parents.length)] [(4, .box [.p (.v (.int .i64 0)), .p (.v (.slice none 0 0))])] (Sees.of ⟨⟨_, rfl, by first | exact .same _ | exact .eq (by first | (simp; done) | (simp; omega)) | exact .list _ _ _ _ _ | exact .nil _ _ _ | exact .any _⟩, ⟨_, rfl, by first | exact .same _ | exact .eq (by first | (simp; done) | (simp; omega)) | exact .list _ _ _ _ _ | exact .nil _ _ _ | exact .any _⟩, ⟨_, rfl, by first | exact .same _ | exact .eq (by first | (simp; done) | (simp; omega)) | exact .list _ _ _ _ _ | exact .nil _ _ _ | exact .any _⟩, ⟨_, rfl, by first | exact .same _ | exact .eq (by first | (simp; done) | (simp; omega)) | exact .list _ _ _ _ _ | exact .nil _ _ _ | exact .any _⟩, trivial⟩ ⟨rfl, trivial⟩) ?_
    repeat (first | refine then_normal ?_ | refine c_seq ?_ | refine c_block ?_ | refine inB_normal ?_ | refine c_skip ?_ | refine c_exit ?_ | refine then_exit ?_ | refine inB_same rfl ?_ | refine inB_other rfl ?_ | refine c_ret ?_ | refine then_ret ?_ | refine inB_ret ?_)
    refine c_region ?_
    refine l_neu (n_move rfl rfl) rfl ?_
    refine l_call (lines_ok result (by omega)) rfl rfl rfl ?_
    rintro _ rfl
    refine l_effv (f_buildBuf 39 (c := strsC) (ys := [_]) (asm_cons rfl rfl rfl rfl asm_nil) rfl rfl rfl (by first | rfl | (simp [frFree, obFree, Ob.free, SV.free, S1.free, TC.free] <;> rfl))) rfl ?_
    refine l_neu (n_assign rfl rfl) rfl ?_
    refine l_nil ?_
    repeat (first | refine then_normal ?_ | refine c_seq ?_ | refine c_block ?_ | refine inB_normal ?_ | refine c_skip ?_ | refine c_exit ?_ | refine then_exit ?_ | refine inB_same rfl ?_ | refine inB_other rfl ?_ | refine c_ret ?_ | refine then_ret ?_ | refine inB_ret ?_)
    refine c_region ?_
    refine l_neu (n_move rfl rfl) rfl ?_
    refine l_call (check_ok result (by omega)) rfl rfl rfl ?_
    rintro _ rfl
    refine l_neu (n_assign rfl rfl) rfl ?_
    refine l_nil ?_
    repeat (first | refine then_normal ?_ | refine c_seq ?_ | refine c_block ?_ | refine inB_normal ?_ | refine c_skip ?_ | refine c_exit ?_ | refine then_exit ?_ | refine inB_same rfl ?_ | refine inB_other rfl ?_ | refine c_ret ?_ | refine then_ret ?_ | refine inB_ret ?_)
    rw [checkOf_small h0]
    refine c_region ?_
    refine l_neu (n_move rfl rfl) rfl ?_
    refine l_neu (n_neq rfl rfl) rfl ?_
    refine l_nil ?_
    repeat (first | refine then_normal ?_ | refine c_seq ?_ | refine c_block ?_ | refine inB_normal ?_ | refine c_skip ?_ | refine c_exit ?_ | refine then_exit ?_ | refine inB_same rfl ?_ | refine inB_other rfl ?_ | refine c_ret ?_ | refine then_ret ?_ | refine inB_ret ?_)
    refine c_cond rfl (fun ht => ?_) (fun ht => ?_)
    · cases of_decide_eq_true ht rfl
    · repeat (first | refine then_normal ?_ | refine c_seq ?_ | refine c_block ?_ | refine inB_normal ?_ | refine c_skip ?_ | refine c_exit ?_ | refine then_exit ?_ | refine inB_same rfl ?_ | refine inB_other rfl ?_ | refine c_ret ?_ | refine then_ret ?_ | refine inB_ret ?_)
      refine c_region ?_
      refine l_neu (n_assign rfl rfl) rfl ?_
      refine l_nil ?_
      repeat (first | refine then_normal ?_ | refine c_seq ?_ | refine c_block ?_ | refine inB_normal ?_ | refine c_skip ?_ | refine c_exit ?_ | refine then_exit ?_ | refine inB_same rfl ?_ | refine inB_other rfl ?_ | refine c_ret ?_ | refine then_ret ?_ | refine inB_ret ?_)
      obtain ⟨n, hn⟩ : ∃ n, n = parents.length := ⟨_, rfl⟩
      rw [← hn] at h
      refine c_while (X := Nat) (fun p => ([(1, sList Str 1 strC parents), (4, .s (.one (.ref 4 0))), (6, sInt n), (7, .s (.one (.buf 39 (List Str) 1 strsC (linesOf result :: (parents.take p).map linesOf)))), (9, sInt p)], [(4, .box [.p (.v (.int .i64 0)), .p (.v (.slice none 0 0))]), (39, .spare (linesOf result :: (parents.take p).map linesOf).length 1 27)])) (fun p => p ≤ n) (fun p => n - p) 0 (Nat.zero_le _) (by rw [hn]; exact Sees.of ⟨⟨_, rfl, by first | exact .same _ | exact .eq (by first | (simp; done) | (simp; omega)) | exact .list _ _ _ _ _ | exact .nil _ _ _ | exact .any _⟩, ⟨_, rfl, by first | exact .same _ | exact .eq (by first | (simp; done) | (simp; omega)) | exact .list _ _ _ _ _ | exact .nil _ _ _ | exact .any _⟩, ⟨_, rfl, by first | exact .same _ | exact .eq (by first | (simp; done) | (simp; omega)) | exact .list _ _ _ _ _ | exact .nil _ _ _ | exact .any _⟩, ⟨_, rfl, by first | exact .same _ | exact .eq (by first | (simp; done) | (simp; omega)) | exact .list _ _ _ _ _ | exact .nil _ _ _ | exact .any _⟩, ⟨_, rfl, by first | exact .same _ | exact .eq (by first | (simp; done) | (simp; omega)) | exact .list _ _ _ _ _ | exact .nil _ _ _ | exact .any _⟩, trivial⟩ ⟨rfl, rfl, trivial⟩) ?_
      intro p hp
      dsimp only at hp ⊢
      have hfl : (linesOf result :: (parents.take p).map linesOf).length = p + 1 := by simp; omega
      repeat (first | refine then_normal ?_ | refine c_seq ?_ | refine c_block ?_ | refine inB_normal ?_ | refine c_skip ?_ | refine c_exit ?_ | refine then_exit ?_ | refine inB_same rfl ?_ | refine inB_other rfl ?_ | refine c_ret ?_ | refine then_ret ?_ | refine inB_ret ?_)
      refine c_region ?_
      refine l_neu (n_move rfl rfl) rfl ?_
      refine l_neu (n_move rfl rfl) rfl ?_
      refine l_neu (n_lss rfl rfl) rfl ?_
      refine l_nil ?_
      repeat (first | refine then_normal ?_ | refine c_seq ?_ | refine c_block ?_ | refine inB_normal ?_ | refine c_skip ?_ | refine c_exit ?_ | refine then_exit ?_ | refine inB_same rfl ?_ | refine inB_other rfl ?_ | refine c_ret ?_ | refine then_ret ?_ | refine inB_ret ?_)
      refine c_cond rfl (fun ht => ?_) (fun ht => ?_)
      · have hlt : p < parents.length := by have := of_decide_eq_true ht; omega
        have hv : parents[p]? = some parents[p] := by simp [hlt]
        have hb := h1 _ (List.getElem_mem hlt)
        have hst : linesOf result :: (parents.take (p + 1)).map linesOf = (linesOf result :: (parents.take p).map linesOf) ++ [linesOf parents[p]] := by
          rw [List.take_add_one, hv, Option.toList_some, List.map_append]; rfl
        repeat (first | refine then_normal ?_ | refine c_seq ?_ | refine c_block ?_ | refine inB_normal ?_ | refine c_skip ?_ | refine c_exit ?_ | refine then_exit ?_ | refine inB_same rfl ?_ | refine inB_other rfl ?_ | refine c_ret ?_ | refine then_ret ?_ | refine inB_ret ?_)
        refine c_region ?_
        refine l_neu (n_move rfl rfl) rfl ?_
        refine l_neu (n_move rfl rfl) rfl ?_
        first | refine l_neu (n_indexAddr rfl (.pure _ _ _ _) rfl (by omega) (List.getElem?_eq_getElem (by omega))) rfl ?_ | refine l_neu (n_indexAddr rfl (.buf _ _ _ _ _) rfl (by omega) (List.getElem?_eq_getElem (by omega))) rfl ?_ | refine l_neu (n_indexAddr_mut rfl rfl rfl (by omega) (by omega)) rfl ?_ | refine l_neu (n_indexAddr_mutT rfl rfl rfl (by omega) (by omega)) rfl ?_
        first | refine l_neu (n_load_eref rfl rfl) rfl ?_ | refine l_neu (n_load_ref rfl rfl rfl) rfl ?_ | refine l_neu (n_load_mref rfl rfl hv rfl) rfl ?_ | refine l_neu (n_load_mrefT1 rfl rfl hv) rfl ?_
        refine l_call (check_ok parents[p] (by omega)) rfl rfl rfl ?_
        rintro _ rfl
        refine l_neu (n_assign rfl rfl) rfl ?_
        refine l_nil ?_
        repeat (first | refine then_normal ?_ | refine c_seq ?_ | refine c_block ?_ | refine inB_normal ?_ | refine c_skip ?_ | refine c_exit ?_ | refine then_exit ?_ | refine inB_same rfl ?_ | refine inB_other rfl ?_ | refine c_ret ?_ | refine then_ret ?_ | refine inB_ret ?_)
        rw [checkOf_small hb]
        refine c_region ?_
        refine l_neu (n_move rfl rfl) rfl ?_
        refine l_neu (n_neq rfl rfl) rfl ?_
        refine l_nil ?_
        repeat (first | refine then_normal ?_ | refine c_seq ?_ | refine c_block ?_ | refine inB_normal ?_ | refine c_skip ?_ | refine c_exit ?_ | refine then_exit ?_ | refine inB_same rfl ?_ | refine inB_other rfl ?_ | refine c_ret ?_ | refine then_ret ?_ | refine inB_ret ?_)
        refine c_cond rfl (fun ht => ?_) (fun ht => ?_)
        · cases of_decide_eq_true ht rfl
        · repeat (first | refine then_normal ?_ | refine c_seq ?_ | refine c_block ?_ | refine inB_normal ?_ | refine c_skip ?_ | refine c_exit ?_ | refine then_exit ?_ | refine inB_same rfl ?_ | refine inB_other rfl ?_ | refine c_ret ?_ | refine then_ret ?_ | refine inB_ret ?_)
          refine c_region ?_
          refine l_neu (n_move rfl rfl) rfl ?_
          refine l_neu (n_move rfl rfl) rfl ?_
          refine l_neu (n_move rfl rfl) rfl ?_
          first | refine l_neu (n_indexAddr rfl (.pure _ _ _ _) rfl (by omega) (List.getElem?_eq_getElem (by omega))) rfl ?_ | refine l_neu (n_indexAddr rfl (.buf _ _ _ _ _) rfl (by omega) (List.getElem?_eq_getElem (by omega))) rfl ?_ | refine l_neu (n_indexAddr_mut rfl rfl rfl (by omega) (by omega)) rfl ?_ | refine l_neu (n_indexAddr_mutT rfl rfl rfl (by omega) (by omega)) rfl ?_
          first | refine l_neu (n_load_eref rfl rfl) rfl ?_ | refine l_neu (n_load_ref rfl rfl rfl) rfl ?_ | refine l_neu (n_load_mref rfl rfl hv rfl) rfl ?_ | refine l_neu (n_load_mrefT1 rfl rfl hv) rfl ?_
          refine l_call (lines_ok parents[p] (by omega)) rfl rfl rfl ?_
          rintro _ rfl
          refine l_neu (n_buildSlice (c := strsC) (ys := [_]) (asm_cons rfl rfl rfl rfl asm_nil) rfl rfl rfl) rfl ?_
          first | refine l_effv (e_append rfl rfl rfl (.pure _ _ _ _) (by (rw [hfl]; simp only [List.length_cons, List.length_nil]; omega)) rfl) rfl ?_ | refine l_effv (e_append rfl rfl rfl (.buf _ _ _ _ _) (by (rw [hfl]; simp only [List.length_cons, List.length_nil]; omega)) rfl) rfl ?_
          refine l_neu (n_assign rfl rfl) rfl ?_
          refine l_nil ?_
          repeat (first | refine then_normal ?_ | refine c_seq ?_ | refine c_block ?_ | refine inB_normal ?_ | refine c_skip ?_ | refine c_exit ?_ | refine then_exit ?_ | refine inB_same rfl ?_ | refine inB_other rfl ?_ | refine c_ret ?_ | refine then_ret ?_ | refine inB_ret ?_)
          refine c_region ?_
          refine l_neu (n_move rfl rfl) rfl ?_
          refine l_neu (n_add rfl rfl (by omega)) rfl ?_
          refine l_neu (n_assign rfl rfl) rfl ?_
          refine l_nil ?_
          repeat (first | refine then_normal ?_ | refine c_seq ?_ | refine c_block ?_ | refine inB_normal ?_ | refine c_skip ?_ | refine c_exit ?_ | refine then_exit ?_ | refine inB_same rfl ?_ | refine inB_other rfl ?_ | refine c_ret ?_ | refine then_ret ?_ | refine inB_ret ?_)
          refine ⟨p + 1, by omega, by omega, ?_⟩
          rw [hst]
          exact Sees.of ⟨⟨_, rfl, by first | exact .same _ | exact .eq (by first | (simp; done) | (simp; omega)) | exact .list _ _ _ _ _ | exact .nil _ _ _ | exact .any _⟩, ⟨_, rfl, by first | exact .same _ | exact .eq (by first | (simp; done) | (simp; omega)) | exact .list _ _ _ _ _ | exact .nil _ _ _ | exact .any _⟩, ⟨_, rfl, by first | exact .same _ | exact .eq (by first | (simp; done) | (simp; omega)) | exact .list _ _ _ _ _ | exact .nil _ _ _ | exact .any _⟩, ⟨_, rfl, by first | exact .same _ | exact .eq (by first | (simp; done) | (simp; omega)) | exact .list _ _ _ _ _ | exact .nil _ _ _ | exact .any _⟩, ⟨_, rfl, by first | exact .same _ | exact .eq (by first | (simp; done) | (simp; omega)) | exact .list _ _ _ _ _ | exact .nil _ _ _ | exact .any _⟩, trivial⟩ ⟨rfl, rfl, trivial⟩
      · have hp' : p = n := by have := of_decide_eq_false ht; omega
        rw [hp', hn, List.take_length]
        rw [hp', hn, List.take_length] at hfl
        rw [← hn] at hfl ⊢
        obtain ⟨fs, hfs⟩ : ∃ fs, fs = linesOf result :: parents.map linesOf := ⟨_, rfl⟩
        rw [← hfs] at hfl ⊢
        have hfsB : ∀ f ∈ fs, f.length ≤ 200 ∧ f.flatten.length ≤ 200 := by
          intro f hf
          rw [hfs] at hf
          rcases List.mem_cons.1 hf with rfl | hf
          · have := linesOf_length result; rw [linesOf_flatten]; omega
          · obtain ⟨b, hb, rfl⟩ := List.mem_map.1 hf
            have := linesOf_length b; have := h1 b hb; rw [linesOf_flatten]; omega
        have hmk : make16 result parents = if ∃ k, k < (linesOf result).length + 1 ∧ (coalesceOf ((loomAt (fs.map (idsOf (namesOf fs))) (linesOf result).length n n).2 k)).2 ≠ 0 then (⟨0, []⟩, 1) else (⟨n, rowsTo (namesOf fs) (linesOf result) (loomAt (fs.map (idsOf (namesOf fs))) (linesOf result).length n n) ((linesOf result).length + 1)⟩, 0) := by
          rw [make16, if_neg (by omega), hn, hfs]
        have hn1 : fs.length = n + 1 := by rw [hfl]
        have hf0 : fs[0]? = some (linesOf result) := by rw [hfs]; rfl
        have hflat : fs.flatten.length ≤ 6600 := by
          have key : ∀ l : List (List Str), (∀ f ∈ l, f.length ≤ 200 ∧ f.flatten.length ≤ 200) → l.flatten.length ≤ 200 * l.length := by
            intro l hl
            induction l with
            | nil => simp
            | cons x r ih => have := ih (fun f hf => hl f (by simp [hf])); have := (hl x (by simp)).1; simp only [List.flatten_cons, List.length_append, List.length_cons]; omega
          have := key fs hfsB; omega
        obtain ⟨names, hnames⟩ : ∃ names, names = namesOf fs := ⟨_, rfl⟩
        obtain ⟨ids, hids⟩ : ∃ ids, ids = fs.map (idsOf names) := ⟨_, rfl⟩
        obtain ⟨L, hL⟩ : ∃ L, L = (linesOf result).length := ⟨_, rfl⟩
        have hLB : L ≤ 200 := by rw [hL]; exact (hfsB _ (by rw [hfs]; simp)).1
        have hidsl : ids.length = n + 1 := by rw [hids, List.length_map, hn1]
        have hidB : ∀ x ∈ ids, x.length ≤ 200 ∧ ∀ v ∈ x, 0 ≤ v ∧ v < (names.length : Int) := by
          intro x hx
          rw [hids, hnames] at hx
          have h2 := ids_in fs x hx
          obtain ⟨f, hf, rfl⟩ := List.mem_map.1 hx
          exact ⟨by rw [idsOf, List.length_map]; exact (hfsB f hf).1, by rw [hnames]; exact h2⟩
        have hid0 : (ids.getD 0 []).length = L := by rw [hids, List.getD_eq_getElem?_getD, List.getElem?_map, hf0, hL]; simp [idsOf]
        have hv0 : ids[0]? = some (ids.getD 0 []) := by rw [List.getD_eq_getElem?_getD, List.getElem?_eq_getElem (by omega)]; rfl
        refine c_cut [(4, .s (.one (.ref 4 0))), (6, sInt n), (7, sList (List Str) 1 strsC fs)] [(4, .box [.p (.v (.int .i64 0)), .p (.v (.slice none 0 0))])] (Sees.of ⟨⟨_, rfl, by first | exact .same _ | exact .eq (by first | (simp; done) | (simp; omega)) | exact .list _ _ _ _ _ | exact .nil _ _ _ | exact .any _⟩, ⟨_, rfl, by first | exact .same _ | exact .eq (by first | (simp; done) | (simp; omega)) | exact .list _ _ _ _ _ | exact .nil _ _ _ | exact .any _⟩, ⟨_, rfl, by first | exact .same _ | exact .eq (by first | (simp; done) | (simp; omega)) | exact .list _ _ _ _ _ | exact .nil _ _ _ | exact .any _⟩, trivial⟩ ⟨rfl, trivial⟩) ?_
        repeat (first | refine then_normal ?_ | refine c_seq ?_ | refine c_block ?_ | refine inB_normal ?_ | refine c_skip ?_ | refine c_exit ?_ | refine then_exit ?_ | refine inB_same rfl ?_ | refine inB_other rfl ?_ | refine c_ret ?_ | refine then_ret ?_ | refine inB_ret ?_)
        refine c_region ?_
        refine l_neu (n_move rfl rfl) rfl ?_
        refine l_call (names_ok fs (by omega)) rfl rfl rfl ?_
        rintro _ rfl
        refine l_neu (n_move rfl rfl) rfl ?_
        refine l_call (ids_ok fs (by omega) (by omega)) rfl rfl rfl ?_
        rintro _ rfl
        refine l_neu (n_assign rfl rfl) rfl ?_
        refine l_neu (n_assign rfl rfl) rfl ?_
        refine l_nil ?_
        rw [← hnames, ← hids]
        repeat (first | refine then_normal ?_ | refine c_seq ?_ | refine c_block ?_ | refine inB_normal ?_ | refine c_skip ?_ | refine c_exit ?_ | refine then_exit ?_ | refine inB_same rfl ?_ | refine inB_other rfl ?_ | refine c_ret ?_ | refine then_ret ?_ | refine inB_ret ?_)
        refine c_region ?_
        refine l_neu (n_move rfl rfl) rfl ?_
        first | refine l_neu (n_indexAddr rfl (.pure _ _ _ _) rfl (by omega) hf0) rfl ?_ | refine l_neu (n_indexAddr rfl (.buf _ _ _ _ _) rfl (by omega) hf0) rfl ?_ | refine l_neu (n_indexAddr_mut rfl rfl rfl (by omega) (by omega)) rfl ?_ | refine l_neu (n_indexAddr_mutT rfl rfl rfl (by omega) (by omega)) rfl ?_
        first | refine l_neu (n_load_eref rfl rfl) rfl ?_ | refine l_neu (n_load_ref rfl rfl rfl) rfl ?_ | refine l_neu (n_load_mref rfl rfl (List.getElem?_eq_getElem (by omega)) rfl) rfl ?_ | refine l_neu (n_load_mrefT1 rfl rfl rfl) rfl ?_
        first | refine l_neu (n_len rfl (.pure _ _ _ _)) rfl ?_ | refine l_neu (n_len rfl (.buf _ _ _ _ _)) rfl ?_ | refine l_neu (n_len_mut rfl rfl) rfl ?_ | refine l_neu (n_len_mutT rfl rfl) rfl ?_ | refine l_neu (n_len_nil rfl) rfl ?_
        refine l_neu (n_assign rfl rfl) rfl ?_
        refine l_nil ?_
        rw [← hL]
        repeat (first | refine then_normal ?_ | refine c_seq ?_ | refine c_block ?_ | refine inB_normal ?_ | refine c_skip ?_ | refine c_exit ?_ | refine then_exit ?_ | refine inB_same rfl ?_ | refine inB_other rfl ?_ | refine c_ret ?_ | refine then_ret ?_ | refine inB_ret ?_)
        refine c_region ?_
        refine l_neu (n_move rfl rfl) rfl ?_
        refine l_effv (f_makeZ 14 Int u32C 0 rfl rfl (by omega) (by omega) (fun _ => by first | exact ⟨⟨rfl, rfl⟩, trivial⟩ | exact ⟨rep_nil _ _ _, trivial⟩) (by first | rfl | (simp [frFree, obFree, Ob.free, SV.free, S1.free, TC.free] <;> rfl))) rfl ?_
        refine l_neu (n_assign rfl rfl) rfl ?_
        refine l_nil ?_
        repeat (first | refine then_normal ?_ | refine c_seq ?_ | refine c_block ?_ | refine inB_normal ?_ | refine c_skip ?_ | refine c_exit ?_ | refine then_exit ?_ | refine inB_same rfl ?_ | refine inB_other rfl ?_ | refine c_ret ?_ | refine then_ret ?_ | refine inB_ret ?_)
        refine c_region ?_
        refine l_neu (n_move rfl rfl) rfl ?_
        refine l_neu (n_add rfl rfl (by omega)) rfl ?_
        refine l_effv (f_makeZ 15 (List (List Int)) intssC [] rfl rfl (by omega) (by omega) (fun _ => by first | exact ⟨⟨rfl, rfl⟩, trivial⟩ | exact ⟨rep_nil _ _ _, trivial⟩) (by first | rfl | (simp [frFree, obFree, Ob.free, SV.free, S1.free, TC.free] <;> rfl))) rfl ?_
        refine l_neu (n_assign rfl rfl) rfl ?_
        refine l_nil ?_
        repeat (first | refine then_normal ?_ | refine c_seq ?_ | refine c_block ?_ | refine inB_normal ?_ | refine c_skip ?_ | refine c_exit ?_ | refine then_exit ?_ | refine inB_same rfl ?_ | refine inB_other rfl ?_ | refine c_ret ?_ | refine then_ret ?_ | refine inB_ret ?_)
        refine c_region ?_
        refine l_neu (n_assign rfl rfl) rfl ?_
        refine l_nil ?_
        repeat (first | refine then_normal ?_ | refine c_seq ?_ | refine c_block ?_ | refine inB_normal ?_ | refine c_skip ?_ | refine c_exit ?_ | refine then_exit ?_ | refine inB_same rfl ?_ | refine inB_other rfl ?_)
        refine c_sees (Sees.toT1 15 rfl) ?_
        obtain ⟨z, hz⟩ : ∃ z : TC, z = .p (intssC [] 0) := ⟨_, rfl⟩
        have hzf : ∀ k, z.free k = true := fun k => by rw [hz]; rfl
        have hrep : (List.replicate ((L : Int) + 1).toNat ([] : List (List Int))).map (fun x => TC.p (intssC x 0)) = rowUp (L + 1) 0 z := by
          rw [← rowUp_zero, hz]; simp
        refine c_while (X := Nat) (fun k => ([(4, .s (.one (.ref 4 0))), (6, sInt n), (7, sList (List Str) 1 strsC fs), (11, sList Str 1 strC names), (12, sList (List Int) 1 intsC ids), (13, sInt L), (14, .s (.one (.mut 14))), (15, .s (.one (.mut 15))), (16, sInt k)],
          (4, .box [.p (.v (.int .i64 0)), .p (.v (.slice none 0 0))]) :: (14, .arr Int 1 u32C (List.replicate L 0)) :: (15, .tarr (L + 1) 1 (rowUp (L + 1) k z)) :: gapObs intsC (fun _ => List.replicate n []) (List.range k))) (fun k => k ≤ L + 1) (fun k => L + 1 - k) 0 (Nat.zero_le _) ?_ ?_
        · refine Sees.of ⟨⟨_, rfl, .same _⟩, ⟨_, rfl, .same _⟩, ⟨_, rfl, .same _⟩, ⟨_, rfl, .same _⟩, ⟨_, rfl, .same _⟩, ⟨_, rfl, .same _⟩, ⟨_, rfl, .same _⟩, ⟨_, rfl, .same _⟩, ⟨_, rfl, .same _⟩, trivial⟩ ⟨rfl, rfl, ?_, trivial⟩
          rw [← hrep]; simp [getO, List.length_replicate]
        · intro k hk
          dsimp only at hk ⊢
          repeat (first | refine then_normal ?_ | refine c_seq ?_ | refine c_block ?_ | refine inB_normal ?_ | refine c_skip ?_ | refine c_exit ?_ | refine then_exit ?_ | refine inB_same rfl ?_ | refine inB_other rfl ?_ | refine c_ret ?_ | refine then_ret ?_ | refine inB_ret ?_)
          refine c_region ?_
          refine l_neu (n_move rfl rfl) rfl ?_
          refine l_neu (n_move rfl rfl) rfl ?_
          refine l_neu (n_leq rfl rfl) rfl ?_
          refine l_nil ?_
          repeat (first | refine then_normal ?_ | refine c_seq ?_ | refine c_block ?_ | refine inB_normal ?_ | refine c_skip ?_ | refine c_exit ?_ | refine then_exit ?_ | refine inB_same rfl ?_ | refine inB_other rfl ?_ | refine c_ret ?_ | refine then_ret ?_ | refine inB_ret ?_)
          refine c_cond rfl (fun ht => ?_) (fun ht => ?_)
          · have hlt : k < L + 1 := by have := of_decide_eq_true ht; omega
            have hfree : obFree (k + 1000) ((4, .box [.p (.v (.int .i64 0)), .p (.v (.slice none 0 0))]) :: (14, .arr Int 1 u32C (List.replicate L 0)) :: (15, .tarr (L + 1) 1 (rowUp (L + 1) k z)) :: gapObs intsC (fun _ => List.replicate n ([] : List Int)) (List.range k)) = true := by
              have h1 := obFree_gap (k := k + 1000) (by omega) (List.range k) (fun r hr => by have := List.mem_range.1 hr; omega) (c := intsC) (g := fun _ => List.replicate n ([] : List Int))
              have h2 := rowUp_free (m := L + 1) (k := k) (hzf (k + 1000))
              simp only [obFree, Ob.free, h1, h2, beq_no (show 4 ≠ k + 1000 by omega), beq_no (show 14 ≠ k + 1000 by omega), beq_no (show 15 ≠ k + 1000 by omega)]
              rfl
            repeat (first | refine then_normal ?_ | refine c_seq ?_ | refine c_block ?_ | refine inB_normal ?_ | refine c_skip ?_ | refine c_exit ?_ | refine then_exit ?_ | refine inB_same rfl ?_ | refine inB_other rfl ?_ | refine c_ret ?_ | refine then_ret ?_ | refine inB_ret ?_)
            refine c_region ?_
            refine l_neu (n_move rfl rfl) rfl ?_
            refine l_neu (n_move rfl rfl) rfl ?_
            refine l_neu (n_move rfl rfl) rfl ?_
            refine l_effv (f_makeZ (k + 1000) (List Int) intsC [] rfl rfl (by omega) (by omega) (fun _ => by first | exact ⟨⟨rfl, rfl⟩, trivial⟩ | exact ⟨rep_nil _ _ _, trivial⟩) (by simp only [frFree, SV.free, S1.free, TC.free, hfree, beq_no (show 4 ≠ k + 1000 by omega), beq_no (show 14 ≠ k + 1000 by omega), beq_no (show 15 ≠ k + 1000 by omega)]; rfl)) rfl ?_
            first | refine l_neu (n_indexAddr rfl (.pure _ _ _ _) rfl (by omega) (List.getElem?_eq_getElem (by omega))) rfl ?_ | refine l_neu (n_indexAddr rfl (.buf _ _ _ _ _) rfl (by omega) (List.getElem?_eq_getElem (by omega))) rfl ?_ | refine l_neu (n_indexAddr_mut rfl (by rw [getO_cons_other (by omega)]; rfl) rfl (by omega) (by omega)) rfl ?_ | refine l_neu (n_indexAddr_mutT rfl (by rw [getO_cons_other (by omega)]; rfl) rfl (by omega) (by omega)) rfl ?_
            first | refine l_eff (e_store_ref TySz.out rfl rfl rfl rfl rfl rfl) ?_ | refine l_eff (e_store_mref1 TySz.out rfl (by rw [getO_cons_other (by omega)]; rfl) (by (rw [rowUp_length]; omega)) rfl rfl) ?_ | refine l_eff (e_store_mrefT1 TySz.out rfl (by rw [getO_cons_other (by omega)]; rfl) (by (rw [rowUp_length]; omega)) rfl rfl) ?_
            refine l_nil ?_
            repeat (first | refine then_normal ?_ | refine c_seq ?_ | refine c_block ?_ | refine inB_normal ?_ | refine c_skip ?_ | refine c_exit ?_ | refine then_exit ?_ | refine inB_same rfl ?_ | refine inB_other rfl ?_ | refine c_ret ?_ | refine then_ret ?_ | refine inB_ret ?_)
            refine c_region ?_
            refine l_neu (n_move rfl rfl) rfl ?_
            refine l_neu (n_add rfl rfl (by omega)) rfl ?_
            refine l_neu (n_assign rfl rfl) rfl ?_
            refine l_nil ?_
            repeat (first | refine then_normal ?_ | refine c_seq ?_ | refine c_block ?_ | refine inB_normal ?_ | refine c_skip ?_ | refine c_exit ?_ | refine then_exit ?_ | refine inB_same rfl ?_ | refine inB_other rfl ?_ | refine c_ret ?_ | refine then_ret ?_ | refine inB_ret ?_)
            refine ⟨k + 1, by omega, by omega, ?_⟩
            refine Sees.objs ⟨⟨_, rfl, .same _⟩, ⟨_, rfl, .same _⟩, ⟨_, rfl, .same _⟩, ⟨_, rfl, .same _⟩, ⟨_, rfl, .same _⟩, ⟨_, rfl, .same _⟩, ⟨_, rfl, .same _⟩, ⟨_, rfl, .same _⟩, ⟨_, rfl, .eq (by simp)⟩, trivial⟩ ?_
            refine gap_more (g := fun _ => List.replicate n ([] : List Int)) (pre := [(4, .box [.p (.v (.int .i64 0)), .p (.v (.slice none 0 0))]), (14, .arr Int 1 u32C (List.replicate L 0)), (15, .tarr (L + 1) 1 (rowUp (L + 1) k z))])
              (pre' := [(4, .box [.p (.v (.int .i64 0)), .p (.v (.slice none 0 0))]), (14, .arr Int 1 u32C (List.replicate L 0)), (15, .tarr (L + 1) 1 (rowUp (L + 1) (k + 1) z))]) (top := [(15, .tarr (L + 1) 1 ((rowUp (L + 1) k z).set k (.mut (k + 1000))))]) rfl rfl ?_ rfl
            intro k' o ho
            rw [rowUp_set]
            by_cases h15 : 15 = k'
            · subst h15; exact ho
            · by_cases h4 : 4 = k'
              · subst h4; rw [List.singleton_append, getO_cons_other (by omega), getO_cons_other (by omega)]; exact ho
              · by_cases h14 : 14 = k'
                · subst h14; rw [List.singleton_append, getO_cons_other (by omega), getO_cons_other (by omega)]; exact ho
                · rw [getO_cons_other h4, getO_cons_other h14, getO_cons_other h15] at ho; cases ho
          · have hkL : k = L + 1 := by have := of_decide_eq_false ht; omega
            rw [hkL]
            clear hkL ht hk k
            refine c_cut [(4, .s (.one (.ref 4 0))), (6, sInt n), (7, sList (List Str) 1 strsC fs), (11, sList Str 1 strC names), (12, sList (List Int) 1 intsC ids), (13, sInt L), (14, .s (.one (.mut 14))), (15, .s (.one (.mut 15)))]
              ((4, .box [.p (.v (.int .i64 0)), .p (.v (.slice none 0 0))]) :: (14, .arr Int 1 u32C (List.replicate L 0)) :: (15, .tarr (L + 1) 1 (rowUp (L + 1) (L + 1) z)) :: gapObs intsC (fun _ => List.replicate n []) (List.range (L + 1))) (Sees.objs ⟨⟨_, rfl, .same _⟩, ⟨_, rfl, .same _⟩, ⟨_, rfl, .same _⟩, ⟨_, rfl, .same _⟩, ⟨_, rfl, .same _⟩, ⟨_, rfl, .same _⟩, ⟨_, rfl, .same _⟩, ⟨_, rfl, .same _⟩, trivial⟩ (fun _ _ h => h)) ?_
            repeat (first | refine then_normal ?_ | refine c_seq ?_ | refine c_block ?_ | refine inB_normal ?_ | refine c_skip ?_ | refine c_exit ?_ | refine then_exit ?_ | refine inB_same rfl ?_ | refine inB_other rfl ?_ | refine c_ret ?_ | refine then_ret ?_ | refine inB_ret ?_)
            refine c_region ?_
            refine l_neu (n_assign rfl rfl) rfl ?_
            refine l_nil ?_
            repeat (first | refine then_normal ?_ | refine c_seq ?_ | refine c_block ?_ | refine inB_normal ?_ | refine c_skip ?_ | refine c_exit ?_ | refine then_exit ?_ | refine inB_same rfl ?_ | refine inB_other rfl ?_ | refine c_ret ?_ | refine then_ret ?_ | refine inB_ret ?_)
            obtain ⟨s, hs⟩ : ∃ s : Nat → Loom, s = fun p => loomAt ids L n p := ⟨_, rfl⟩
            have hok : ∀ p, LoomOk (fun v => 0 ≤ v ∧ v < (names.length : Int)) 200 L n (s p) := fun p => by rw [hs]; exact loomAt_ok hidB p
            refine c_while (X := Nat) (fun p => ([(4, .s (.one (.ref 4 0))), (6, sInt n), (7, sList (List Str) 1 strsC fs), (11, sList Str 1 strC names), (12, sList (List Int) 1 intsC ids), (13, sInt L), (14, .s (.one (.mut 14))), (15, .s (.one (.mut 15))), (17, sInt p)],
              (4, .box [.p (.v (.int .i64 0)), .p (.v (.slice none 0 0))]) :: (14, .arr Int 1 u32C (s p).1) :: (15, .tarr (L + 1) 1 (rowUp (L + 1) (L + 1) z)) :: gapObs intsC (s p).2 (List.range (L + 1)))) (fun p => p ≤ n) (fun p => n - p) 0 (Nat.zero_le _) ?_ ?_
            · have h0s : s 0 = loom0 L n := by rw [hs]; rfl
              rw [h0s]
              exact Sees.objs ⟨⟨_, rfl, .same _⟩, ⟨_, rfl, .same _⟩, ⟨_, rfl, .same _⟩, ⟨_, rfl, .same _⟩, ⟨_, rfl, .same _⟩, ⟨_, rfl, .same _⟩, ⟨_, rfl, .same _⟩, ⟨_, rfl, .same _⟩, ⟨_, rfl, .same _⟩, trivial⟩ (fun _ _ h => h)
            intro p hp
            dsimp only at hp ⊢
            have hsp := hok p
            repeat (first | refine then_normal ?_ | refine c_seq ?_ | refine c_block ?_ | refine inB_normal ?_ | refine c_skip ?_ | refine c_exit ?_ | refine then_exit ?_ | refine inB_same rfl ?_ | refine inB_other rfl ?_ | refine c_ret ?_ | refine then_ret ?_ | refine inB_ret ?_)
            refine c_region ?_
            refine l_neu (n_move rfl rfl) rfl ?_
            refine l_neu (n_move rfl rfl) rfl ?_
            refine l_neu (n_lss rfl rfl) rfl ?_
            refine l_nil ?_
            repeat (first | refine then_normal ?_ | refine c_seq ?_ | refine c_block ?_ | refine inB_normal ?_ | refine c_skip ?_ | refine c_exit ?_ | refine then_exit ?_ | refine inB_same rfl ?_ | refine inB_other rfl ?_ | refine c_ret ?_ | refine then_ret ?_ | refine inB_ret ?_)
            refine c_cond rfl (fun ht => ?_) (fun ht => ?_)
            · have hlt : p < n := by have := of_decide_eq_true ht; omega
              have hv1 : ids[p + 1]? = some (ids.getD (p + 1) []) := by rw [List.getD_eq_getElem?_getD, List.getElem?_eq_getElem (by omega)]; rfl
              have hstep : s (p + 1) = parentStep ids (s p) p := by rw [hs]; exact loomAt_succ ids L n p
              have hfB := hidB _ (List.mem_of_getElem? hv1)
              obtain ⟨file, hfile⟩ : ∃ f, f = ids.getD (p + 1) [] := ⟨_, rfl⟩
              obtain ⟨base, hbase⟩ : ∃ f, f = ids.getD 0 [] := ⟨_, rfl⟩
              rw [← hbase] at hid0 hv0
              rw [← hfile] at hv1 hfB
              have hwb := walkOf_bound file base
              have hmw := matched_walk file base
              have hwg := walkGo_bound file base 0 0
              have hwl := walkGo_length 0 0 file base
              have hml := madeGo_length (walkGo 0 0 file base) 0 0 file.length base.length
              obtain ⟨sc, hsc⟩ : ∃ sc, sc = walkOf file base := ⟨_, rfl⟩
              have hscl : sc.length ≤ 201 := by rw [hsc]; have h2 : (walkOf file base).length = (madeGo 0 0 (walkGo 0 0 file base) file.length base.length).length := rfl; omega
              rw [← hsc] at hwb hmw
              repeat (first | refine then_normal ?_ | refine c_seq ?_ | refine c_block ?_ | refine inB_normal ?_ | refine c_skip ?_ | refine c_exit ?_ | refine then_exit ?_ | refine inB_same rfl ?_ | refine inB_other rfl ?_ | refine c_ret ?_ | refine then_ret ?_ | refine inB_ret ?_)
              refine c_region_draw (by kernel_rfl) (by kernel_rfl) ?_
              refine d_neu (n_move rfl rfl) rfl rfl ?_
              refine d_neu (n_move rfl rfl) rfl rfl ?_
              refine d_neu (n_add rfl rfl (by omega)) rfl rfl ?_
              first | refine d_neu (n_indexAddr rfl (.pure _ _ _ _) rfl (by omega) (by rw [show ((p : Int) + 1).toNat = p + 1 by omega]; exact hv1)) rfl rfl ?_ | refine d_neu (n_indexAddr rfl (.buf _ _ _ _ _) rfl (by omega) (by rw [show ((p : Int) + 1).toNat = p + 1 by omega]; exact hv1)) rfl rfl ?_ | refine d_neu (n_indexAddr_mut rfl rfl rfl (by omega) (by omega)) rfl rfl ?_ | refine d_neu (n_indexAddr_mutT rfl rfl rfl (by omega) (by omega)) rfl rfl ?_
              first | refine d_neu (n_load_eref rfl rfl) rfl rfl ?_ | refine d_neu (n_load_ref rfl rfl rfl) rfl rfl ?_ | refine d_neu (n_load_mref rfl rfl (List.getElem?_eq_getElem (by omega)) rfl) rfl rfl ?_ | refine d_neu (n_load_mrefT1 rfl rfl rfl) rfl rfl ?_
              refine d_neu (n_move rfl rfl) rfl rfl ?_
              first | refine d_neu (n_indexAddr rfl (.pure _ _ _ _) rfl (by omega) hv0) rfl rfl ?_ | refine d_neu (n_indexAddr rfl (.buf _ _ _ _ _) rfl (by omega) hv0) rfl rfl ?_ | refine d_neu (n_indexAddr_mut rfl rfl rfl (by omega) (by omega)) rfl rfl ?_ | refine d_neu (n_indexAddr_mutT rfl rfl rfl (by omega) (by omega)) rfl rfl ?_
              first | refine d_neu (n_load_eref rfl rfl) rfl rfl ?_ | refine d_neu (n_load_ref rfl rfl rfl) rfl rfl ?_ | refine d_neu (n_load_mref rfl rfl (List.getElem?_eq_getElem (by omega)) rfl) rfl rfl ?_ | refine d_neu (n_load_mrefT1 rfl rfl rfl) rfl rfl ?_
              refine d_neu (n_call1 (walk_ok file base (by omega) (by omega)) rfl rfl) rfl rfl ?_
              refine d_neu (n_assign rfl rfl) rfl rfl ?_
              refine d_nil ?_
              rw [← hsc]
              obtain ⟨m0, hm0⟩ : ∃ m0, m0 = (s p).1 := ⟨_, rfl⟩
              have hm0l : m0.length = L := by rw [hm0]; exact hsp.len
              have hbit := u64_nonneg p
              repeat (first | refine then_normal ?_ | refine c_seq ?_ | refine c_block ?_ | refine inB_normal ?_ | refine c_skip ?_ | refine c_exit ?_ | refine then_exit ?_ | refine inB_same rfl ?_ | refine inB_other rfl ?_ | refine c_ret ?_ | refine then_ret ?_ | refine inB_ret ?_)
              refine c_region ?_
              refine l_neu (n_assign rfl rfl) rfl ?_
              refine l_nil ?_
              repeat (first | refine then_normal ?_ | refine c_seq ?_ | refine c_block ?_ | refine inB_normal ?_ | refine c_skip ?_ | refine c_exit ?_ | refine then_exit ?_ | refine inB_same rfl ?_ | refine inB_other rfl ?_ | refine c_ret ?_ | refine then_ret ?_ | refine inB_ret ?_)
              -- LOOP3
              refine c_while (X := Nat) (fun k => ([(4, .s (.one (.ref 4 0))), (6, sInt n), (7, sList (List Str) 1 strsC fs), (11, sList Str 1 strC names), (12, sList (List Int) 1 intsC ids), (13, sInt L), (14, .s (.one (.mut 14))), (15, .s (.one (.mut 15))), (17, sInt p), (18, sList Change 4 changeC sc), (19, sInt k)], (4, .box [.p (.v (.int .i64 0)), .p (.v (.slice none 0 0))]) :: (14, .arr Int 1 u32C (mapTo (orBit · (bitOf p)) m0 k)) :: (15, .tarr (L + 1) 1 (rowUp (L + 1) (L + 1) z)) :: gapObs intsC (s p).2 (List.range (L + 1)))) (fun k => k ≤ L) (fun k => L - k) 0 (Nat.zero_le _) ?_ ?_
              · rw [mapTo_zero, hm0]
                exact Sees.objs ⟨⟨_, rfl, .same _⟩, ⟨_, rfl, .same _⟩, ⟨_, rfl, .same _⟩, ⟨_, rfl, .same _⟩, ⟨_, rfl, .same _⟩, ⟨_, rfl, .same _⟩, ⟨_, rfl, .same _⟩, ⟨_, rfl, .same _⟩, ⟨_, rfl, .same _⟩, ⟨_, rfl, .same _⟩, ⟨_, rfl, .same _⟩, trivial⟩ (fun _ _ h => h)
              intro k hk
              dsimp only at hk ⊢
              repeat (first | refine then_normal ?_ | refine c_seq ?_ | refine c_block ?_ | refine inB_normal ?_ | refine c_skip ?_ | refine c_exit ?_ | refine then_exit ?_ | refine inB_same rfl ?_ | refine inB_other rfl ?_ | refine c_ret ?_ | refine then_ret ?_ | refine inB_ret ?_)
              refine c_region ?_
              refine l_neu (n_move rfl rfl) rfl ?_
              refine l_neu (n_move rfl rfl) rfl ?_
              refine l_neu (n_lss rfl rfl) rfl ?_
              refine l_nil ?_
              repeat (first | refine then_normal ?_ | refine c_seq ?_ | refine c_block ?_ | refine inB_normal ?_ | refine c_skip ?_ | refine c_exit ?_ | refine then_exit ?_ | refine inB_same rfl ?_ | refine inB_other rfl ?_ | refine c_ret ?_ | refine then_ret ?_ | refine inB_ret ?_)
              refine c_cond rfl (fun ht => ?_) (fun ht => ?_)
              · have hkl : k < m0.length := by have := of_decide_eq_true ht; omega
                have hget := mapTo_get (orBit · (bitOf p)) m0 k hkl
                have hset := mapTo_set (orBit · (bitOf p)) m0 k hkl
                have hml' := mapTo_length (orBit · (bitOf p)) m0 k
                repeat (first | refine then_normal ?_ | refine c_seq ?_ | refine c_block ?_ | refine inB_normal ?_ | refine c_skip ?_ | refine c_exit ?_ | refine then_exit ?_ | refine inB_same rfl ?_ | refine inB_other rfl ?_ | refine c_ret ?_ | refine then_ret ?_ | refine inB_ret ?_)
                refine c_region ?_
                refine l_neu (n_move rfl rfl) rfl ?_
                refine l_neu (n_move rfl rfl) rfl ?_
                refine l_neu (n_move rfl rfl) rfl ?_
                refine l_neu (n_move rfl rfl) rfl ?_
                first | refine l_neu (n_indexAddr rfl (.pure _ _ _ _) rfl (by omega) (List.getElem?_eq_getElem (by omega))) rfl ?_ | refine l_neu (n_indexAddr rfl (.buf _ _ _ _ _) rfl (by omega) (List.getElem?_eq_getElem (by omega))) rfl ?_ | refine l_neu (n_indexAddr_mut rfl rfl rfl (by omega) (by (rw [hml']; omega))) rfl ?_ | refine l_neu (n_indexAddr_mutT rfl rfl rfl (by omega) (by (rw [hml']; omega))) rfl ?_
                first | refine l_neu (n_load_eref rfl rfl) rfl ?_ | refine l_neu (n_load_ref rfl rfl rfl) rfl ?_ | refine l_neu (n_load_mref rfl rfl hget rfl) rfl ?_ | refine l_neu (n_load_mrefT1 rfl rfl hget) rfl ?_
                refine l_neu (n_move rfl rfl) rfl ?_
                refine l_neu (n_convert rfl) rfl ?_
                refine l_neu (n_shl rfl rfl (by (exact hbit))) rfl ?_
                refine l_neu (n_bits rfl rfl rfl (fun _ => rfl)) rfl ?_
                first | refine l_neu (n_indexAddr rfl (.pure _ _ _ _) rfl (by omega) (List.getElem?_eq_getElem (by omega))) rfl ?_ | refine l_neu (n_indexAddr rfl (.buf _ _ _ _ _) rfl (by omega) (List.getElem?_eq_getElem (by omega))) rfl ?_ | refine l_neu (n_indexAddr_mut rfl rfl rfl (by omega) (by (rw [hml']; omega))) rfl ?_ | refine l_neu (n_indexAddr_mutT rfl rfl rfl (by omega) (by (rw [hml']; omega))) rfl ?_
                first | refine l_eff (e_store_ref TySz.out rfl rfl rfl rfl rfl rfl) ?_ | refine l_eff (e_store_mref1 TySz.out rfl rfl (by (rw [hml']; exact hkl)) rfl rfl) ?_ | refine l_eff (e_store_mrefT1 TySz.out rfl rfl (by (rw [hml']; exact hkl)) rfl rfl) ?_
                refine l_nil ?_
                repeat (first | refine then_normal ?_ | refine c_seq ?_ | refine c_block ?_ | refine inB_normal ?_ | refine c_skip ?_ | refine c_exit ?_ | refine then_exit ?_ | refine inB_same rfl ?_ | refine inB_other rfl ?_ | refine c_ret ?_ | refine then_ret ?_ | refine inB_ret ?_)
                refine c_region ?_
                refine l_neu (n_move rfl rfl) rfl ?_
                refine l_neu (n_add rfl rfl (by omega)) rfl ?_
                refine l_neu (n_assign rfl rfl) rfl ?_
                refine l_nil ?_
                repeat (first | refine then_normal ?_ | refine c_seq ?_ | refine c_block ?_ | refine inB_normal ?_ | refine c_skip ?_ | refine c_exit ?_ | refine then_exit ?_ | refine inB_same rfl ?_ | refine inB_other rfl ?_ | refine c_ret ?_ | refine then_ret ?_ | refine inB_ret ?_)
                refine ⟨k + 1, by omega, by omega, ?_⟩
                rw [← hset]
                exact Sees.objs ⟨⟨_, rfl, .same _⟩, ⟨_, rfl, .same _⟩, ⟨_, rfl, .same _⟩, ⟨_, rfl, .same _⟩, ⟨_, rfl, .same _⟩, ⟨_, rfl, .same _⟩, ⟨_, rfl, .same _⟩, ⟨_, rfl, .same _⟩, ⟨_, rfl, .same _⟩, ⟨_, rfl, .same _⟩, ⟨_, rfl, .eq (by simp)⟩, trivial⟩ (obs_front rfl trivial trivial)
              · have hkL : k = m0.length := by have := of_decide_eq_false ht; omega
                rw [hkL, mapTo_full]
                clear hkL ht hk k
                obtain ⟨m1, hm1⟩ : ∃ m1, m1 = m0.map (orBit · (bitOf p)) := ⟨_, rfl⟩
                have hm1l : m1.length = L := by rw [hm1, List.length_map, hm0l]
                rw [← hm1]
                repeat (first | refine then_normal ?_ | refine c_seq ?_ | refine c_block ?_ | refine inB_normal ?_ | refine c_skip ?_ | refine c_exit ?_ | refine then_exit ?_ | refine inB_same rfl ?_ | refine inB_other rfl ?_ | refine c_ret ?_ | refine then_ret ?_ | refine inB_ret ?_)
                refine c_region ?_
                refine l_neu (n_move rfl rfl) rfl ?_
                refine l_neu (n_move rfl rfl) rfl ?_
                refine l_neu (n_move rfl rfl) rfl ?_
                refine l_neu (n_add rfl rfl (by omega)) rfl ?_
                first | refine l_neu (n_indexAddr rfl (.pure _ _ _ _) rfl (by omega) (by rw [show ((p : Int) + 1).toNat = p + 1 by omega]; exact hv1)) rfl ?_ | refine l_neu (n_indexAddr rfl (.buf _ _ _ _ _) rfl (by omega) (by rw [show ((p : Int) + 1).toNat = p + 1 by omega]; exact hv1)) rfl ?_ | refine l_neu (n_indexAddr_mut rfl rfl rfl (by omega) (by omega)) rfl ?_ | refine l_neu (n_indexAddr_mutT rfl rfl rfl (by omega) (by omega)) rfl ?_
                first | refine l_neu (n_load_eref rfl rfl) rfl ?_ | refine l_neu (n_load_ref rfl rfl rfl) rfl ?_ | refine l_neu (n_load_mref rfl rfl (List.getElem?_eq_getElem (by omega)) rfl) rfl ?_ | refine l_neu (n_load_mrefT1 rfl rfl rfl) rfl ?_
                first | refine l_neu (n_len rfl (.pure _ _ _ _)) rfl ?_ | refine l_neu (n_len rfl (.buf _ _ _ _ _)) rfl ?_ | refine l_neu (n_len_mut rfl rfl) rfl ?_ | refine l_neu (n_len_mutT rfl rfl) rfl ?_ | refine l_neu (n_len_nil rfl) rfl ?_
                refine l_call (matched_ok sc file.length (by omega) (by omega) (fun c hc => by have := hwb c hc; omega)) rfl rfl rfl ?_
                rintro _ rfl
                refine l_neu (n_assign rfl rfl) rfl ?_
                refine l_nil ?_
                rw [hmw]
                obtain ⟨ps, hps⟩ : ∃ ps, ps = walkGo 0 0 file base := ⟨_, rfl⟩
                rw [← hps] at hwg hwl hmw ⊢
                repeat (first | refine then_normal ?_ | refine c_seq ?_ | refine c_block ?_ | refine inB_normal ?_ | refine c_skip ?_ | refine c_exit ?_ | refine then_exit ?_ | refine inB_same rfl ?_ | refine inB_other rfl ?_ | refine c_ret ?_ | refine then_ret ?_ | refine inB_ret ?_)
                refine c_region ?_
                refine l_neu (n_assign rfl rfl) rfl ?_
                refine l_nil ?_
                repeat (first | refine then_normal ?_ | refine c_seq ?_ | refine c_block ?_ | refine inB_normal ?_ | refine c_skip ?_ | refine c_exit ?_ | refine then_exit ?_ | refine inB_same rfl ?_ | refine inB_other rfl ?_ | refine c_ret ?_ | refine then_ret ?_ | refine inB_ret ?_)
                have hcl : ∀ k, ((ps.take k).foldl (clearOne p) m1).length = L := fun k => by
                  have key : ∀ (l : List Span) (ms : List Int), (l.foldl (clearOne p) ms).length = ms.length := by
                    intro l; induction l with
                    | nil => intro ms; rfl
                    | cons x r ih => intro ms; rw [List.foldl_cons, ih]; simp [clearOne]
                  rw [key, hm1l]
                refine c_while (X := Nat) (fun k => ([(4, .s (.one (.ref 4 0))), (6, sInt n), (7, sList (List Str) 1 strsC fs), (11, sList Str 1 strC names), (12, sList (List Int) 1 intsC ids), (13, sInt L), (14, .s (.one (.mut 14))), (15, .s (.one (.mut 15))), (17, sInt p), (18, sList Change 4 changeC sc), (20, sList Span 2 spanC ps), (21, sInt k)], (4, .box [.p (.v (.int .i64 0)), .p (.v (.slice none 0 0))]) :: (14, .arr Int 1 u32C ((ps.take k).foldl (clearOne p) m1)) :: (15, .tarr (L + 1) 1 (rowUp (L + 1) (L + 1) z)) :: gapObs intsC (s p).2 (List.range (L + 1)))) (fun k => k ≤ ps.length) (fun k => ps.length - k) 0 (Nat.zero_le _) ?_ ?_
                · exact Sees.objs ⟨⟨_, rfl, .same _⟩, ⟨_, rfl, .same _⟩, ⟨_, rfl, .same _⟩, ⟨_, rfl, .same _⟩, ⟨_, rfl, .same _⟩, ⟨_, rfl, .same _⟩, ⟨_, rfl, .same _⟩, ⟨_, rfl, .same _⟩, ⟨_, rfl, .same _⟩, ⟨_, rfl, .same _⟩, ⟨_, rfl, .same _⟩, ⟨_, rfl, .same _⟩, trivial⟩ (fun _ _ h => h)
                intro k hk
                dsimp only at hk ⊢
                repeat (first | refine then_normal ?_ | refine c_seq ?_ | refine c_block ?_ | refine inB_normal ?_ | refine c_skip ?_ | refine c_exit ?_ | refine then_exit ?_ | refine inB_same rfl ?_ | refine inB_other rfl ?_ | refine c_ret ?_ | refine then_ret ?_ | refine inB_ret ?_)
                refine c_region ?_
                refine l_neu (n_move rfl rfl) rfl ?_
                refine l_neu (n_move rfl rfl) rfl ?_
                first | refine l_neu (n_len rfl (.pure _ _ _ _)) rfl ?_ | refine l_neu (n_len rfl (.buf _ _ _ _ _)) rfl ?_ | refine l_neu (n_len_mut rfl rfl) rfl ?_ | refine l_neu (n_len_mutT rfl rfl) rfl ?_ | refine l_neu (n_len_nil rfl) rfl ?_
                refine l_neu (n_lss rfl rfl) rfl ?_
                refine l_nil ?_
                repeat (first | refine then_normal ?_ | refine c_seq ?_ | refine c_block ?_ | refine inB_normal ?_ | refine c_skip ?_ | refine c_exit ?_ | refine then_exit ?_ | refine inB_same rfl ?_ | refine inB_other rfl ?_ | refine c_ret ?_ | refine then_ret ?_ | refine inB_ret ?_)
                refine c_cond rfl (fun ht => ?_) (fun ht => ?_)
                · have hkl : k < ps.length := by have := of_decide_eq_true ht; omega
                  have hpv : ps[k]? = some ps[k] := by simp [hkl]
                  have hpb := hwg ps[k] (List.getElem_mem hkl)
                  have hclk := hcl k
                  have hlt2 : ps[k].To.toNat < ((ps.take k).foldl (clearOne p) m1).length := by omega
                  have hget : ((ps.take k).foldl (clearOne p) m1)[ps[k].To.toNat]? = some (((ps.take k).foldl (clearOne p) m1).getD ps[k].To.toNat 0) := by rw [List.getD_eq_getElem?_getD, List.getElem?_eq_getElem hlt2]; rfl
                  have hset : (ps.take (k + 1)).foldl (clearOne p) m1 = ((ps.take k).foldl (clearOne p) m1).set ps[k].To.toNat (clrBit (((ps.take k).foldl (clearOne p) m1).getD ps[k].To.toNat 0) (bitOf p)) := by
                    rw [List.take_succ_eq_append_getElem hkl, List.foldl_append]; rfl
                  repeat (first | refine then_normal ?_ | refine c_seq ?_ | refine c_block ?_ | refine inB_normal ?_ | refine c_skip ?_ | refine c_exit ?_ | refine then_exit ?_ | refine inB_same rfl ?_ | refine inB_other rfl ?_ | refine c_ret ?_ | refine then_ret ?_ | refine inB_ret ?_)
                  refine c_region_draw (by kernel_rfl) (by kernel_rfl) ?_
                  refine d_neu (n_move rfl rfl) rfl rfl ?_
                  refine d_neu (n_move rfl rfl) rfl rfl ?_
                  refine d_neu (n_move rfl rfl) rfl rfl ?_
                  first | refine d_neu (n_indexAddr rfl (.pure _ _ _ _) rfl (by omega) hpv) rfl rfl ?_ | refine d_neu (n_indexAddr rfl (.buf _ _ _ _ _) rfl (by omega) hpv) rfl rfl ?_ | refine d_neu (n_indexAddr_mut rfl rfl rfl (by omega) (by omega)) rfl rfl ?_ | refine d_neu (n_indexAddr_mutT rfl rfl rfl (by omega) (by omega)) rfl rfl ?_
                  first | refine d_neu (n_field_ref rfl) rfl rfl ?_ | refine d_neu (n_field_eref rfl) rfl rfl ?_ | refine d_neu (n_field_mref rfl) rfl rfl ?_
                  first | refine d_neu (n_load_eref rfl rfl) rfl rfl ?_ | refine d_neu (n_load_ref rfl rfl rfl) rfl rfl ?_ | refine d_neu (n_load_mref rfl rfl (List.getElem?_eq_getElem (by omega)) rfl) rfl rfl ?_ | refine d_neu (n_load_mrefT1 rfl rfl rfl) rfl rfl ?_
                  refine d_neu (n_move rfl rfl) rfl rfl ?_
                  refine d_neu (n_move rfl rfl) rfl rfl ?_
                  refine d_neu (n_move rfl rfl) rfl rfl ?_
                  first | refine d_neu (n_indexAddr rfl (.pure _ _ _ _) rfl (by omega) hpv) rfl rfl ?_ | refine d_neu (n_indexAddr rfl (.buf _ _ _ _ _) rfl (by omega) hpv) rfl rfl ?_ | refine d_neu (n_indexAddr_mut rfl rfl rfl (by omega) (by omega)) rfl rfl ?_ | refine d_neu (n_indexAddr_mutT rfl rfl rfl (by omega) (by omega)) rfl rfl ?_
                  first | refine d_neu (n_field_ref rfl) rfl rfl ?_ | refine d_neu (n_field_eref rfl) rfl rfl ?_ | refine d_neu (n_field_mref rfl) rfl rfl ?_
                  first | refine d_neu (n_load_eref rfl rfl) rfl rfl ?_ | refine d_neu (n_load_ref rfl rfl rfl) rfl rfl ?_ | refine d_neu (n_load_mref rfl rfl (List.getElem?_eq_getElem (by omega)) rfl) rfl rfl ?_ | refine d_neu (n_load_mrefT1 rfl rfl rfl) rfl rfl ?_
                  first | refine d_neu (n_indexAddr rfl (.pure _ _ _ _) rfl (by omega) (List.getElem?_eq_getElem (by omega))) rfl rfl ?_ | refine d_neu (n_indexAddr rfl (.buf _ _ _ _ _) rfl (by omega) (List.getElem?_eq_getElem (by omega))) rfl rfl ?_ | refine d_neu (n_indexAddr_mut rfl rfl rfl (by omega) (by omega)) rfl rfl ?_ | refine d_neu (n_indexAddr_mutT rfl rfl rfl (by omega) (by omega)) rfl rfl ?_
                  first | refine d_neu (n_load_eref rfl rfl) rfl rfl ?_ | refine d_neu (n_load_ref rfl rfl rfl) rfl rfl ?_ | refine d_neu (n_load_mref rfl rfl hget rfl) rfl rfl ?_ | refine d_neu (n_load_mrefT1 rfl rfl hget) rfl rfl ?_
                  refine d_neu (n_move rfl rfl) rfl rfl ?_
                  refine d_neu (n_convert rfl) rfl rfl ?_
                  refine d_neu (n_shl rfl rfl (by (exact hbit))) rfl rfl ?_
                  refine d_neu (n_bits rfl rfl rfl (fun _ => rfl)) rfl rfl ?_
                  first | refine d_neu (n_indexAddr rfl (.pure _ _ _ _) rfl (by omega) (List.getElem?_eq_getElem (by omega))) rfl rfl ?_ | refine d_neu (n_indexAddr rfl (.buf _ _ _ _ _) rfl (by omega) (List.getElem?_eq_getElem (by omega))) rfl rfl ?_ | refine d_neu (n_indexAddr_mut rfl rfl rfl (by omega) (by omega)) rfl rfl ?_ | refine d_neu (n_indexAddr_mutT rfl rfl rfl (by omega) (by omega)) rfl rfl ?_
                  first | refine d_eff (e_store_ref TySz.out rfl rfl rfl rfl rfl rfl) rfl ?_ | refine d_eff (e_store_mref1 TySz.out rfl rfl (by (exact hlt2)) rfl rfl) rfl ?_ | refine d_eff (e_store_mrefT1 TySz.out rfl rfl (by (exact hlt2)) rfl rfl) rfl ?_
                  refine d_nil ?_
                  repeat (first | refine then_normal ?_ | refine c_seq ?_ | refine c_block ?_ | refine inB_normal ?_ | refine c_skip ?_ | refine c_exit ?_ | refine then_exit ?_ | refine inB_same rfl ?_ | refine inB_other rfl ?_ | refine c_ret ?_ | refine then_ret ?_ | refine inB_ret ?_)
                  refine c_region ?_
                  refine l_neu (n_move rfl rfl) rfl ?_
                  refine l_neu (n_add rfl rfl (by omega)) rfl ?_
                  refine l_neu (n_assign rfl rfl) rfl ?_
                  refine l_nil ?_
                  repeat (first | refine then_normal ?_ | refine c_seq ?_ | refine c_block ?_ | refine inB_normal ?_ | refine c_skip ?_ | refine c_exit ?_ | refine then_exit ?_ | refine inB_same rfl ?_ | refine inB_other rfl ?_ | refine c_ret ?_ | refine then_ret ?_ | refine inB_ret ?_)
                  refine ⟨k + 1, by omega, by omega, ?_⟩
                  rw [hset]
                  exact Sees.objs ⟨⟨_, rfl, .same _⟩, ⟨_, rfl, .same _⟩, ⟨_, rfl, .same _⟩, ⟨_, rfl, .same _⟩, ⟨_, rfl, .same _⟩, ⟨_, rfl, .same _⟩, ⟨_, rfl, .same _⟩, ⟨_, rfl, .same _⟩, ⟨_, rfl, .same _⟩, ⟨_, rfl, .same _⟩, ⟨_, rfl, .same _⟩, ⟨_, rfl, .eq (by simp)⟩, trivial⟩ (obs_front rfl trivial trivial)
                · have hkL : k = ps.length := by have := of_decide_eq_false ht; omega
                  rw [hkL, List.take_length]
                  clear hkL ht hk k
                  have hcl' := hcl ps.length
                  rw [List.take_length] at hcl'
                  clear hcl
                  obtain ⟨m2, hm2⟩ : ∃ m2, m2 = ps.foldl (clearOne p) m1 := ⟨_, rfl⟩
                  rw [← hm2] at hcl' ⊢
                  have hgl : ∀ k q, ((sc.take k).foldl (gapPut p file) (s p).2 q).length = n := fun k q => (foldl_gap_ok hfB (sc.take k) hsp.gaps q).1
                  repeat (first | refine then_normal ?_ | refine c_seq ?_ | refine c_block ?_ | refine inB_normal ?_ | refine c_skip ?_ | refine c_exit ?_ | refine then_exit ?_ | refine inB_same rfl ?_ | refine inB_other rfl ?_ | refine c_ret ?_ | refine then_ret ?_ | refine inB_ret ?_)
                  refine c_region ?_
                  refine l_neu (n_assign rfl rfl) rfl ?_
                  refine l_nil ?_
                  repeat (first | refine then_normal ?_ | refine c_seq ?_ | refine c_block ?_ | refine inB_normal ?_ | refine c_skip ?_ | refine c_exit ?_ | refine then_exit ?_ | refine inB_same rfl ?_ | refine inB_other rfl ?_ | refine c_ret ?_ | refine then_ret ?_ | refine inB_ret ?_)
                  refine c_while (X := Nat) (fun k => ([(4, .s (.one (.ref 4 0))), (6, sInt n), (7, sList (List Str) 1 strsC fs), (11, sList Str 1 strC names), (12, sList (List Int) 1 intsC ids), (13, sInt L), (14, .s (.one (.mut 14))), (15, .s (.one (.mut 15))), (17, sInt p), (18, sList Change 4 changeC sc), (22, sInt k)], (4, .box [.p (.v (.int .i64 0)), .p (.v (.slice none 0 0))]) :: (14, .arr Int 1 u32C m2) :: (15, .tarr (L + 1) 1 (rowUp (L + 1) (L + 1) z)) :: gapObs intsC ((sc.take k).foldl (gapPut p file) (s p).2) (List.range (L + 1)))) (fun k => k ≤ sc.length) (fun k => sc.length - k) 0 (Nat.zero_le _) ?_ ?_
                  · exact Sees.objs ⟨⟨_, rfl, .same _⟩, ⟨_, rfl, .same _⟩, ⟨_, rfl, .same _⟩, ⟨_, rfl, .same _⟩, ⟨_, rfl, .same _⟩, ⟨_, rfl, .same _⟩, ⟨_, rfl, .same _⟩, ⟨_, rfl, .same _⟩, ⟨_, rfl, .same _⟩, ⟨_, rfl, .same _⟩, ⟨_, rfl, .same _⟩, trivial⟩ (fun _ _ h => h)
                  intro k hk
                  dsimp only at hk ⊢
                  repeat (first | refine then_normal ?_ | refine c_seq ?_ | refine c_block ?_ | refine inB_normal ?_ | refine c_skip ?_ | refine c_exit ?_ | refine then_exit ?_ | refine inB_same rfl ?_ | refine inB_other rfl ?_ | refine c_ret ?_ | refine then_ret ?_ | refine inB_ret ?_)
                  refine c_region ?_
                  refine l_neu (n_move rfl rfl) rfl ?_
                  refine l_neu (n_move rfl rfl) rfl ?_
                  first | refine l_neu (n_len rfl (.pure _ _ _ _)) rfl ?_ | refine l_neu (n_len rfl (.buf _ _ _ _ _)) rfl ?_ | refine l_neu (n_len_mut rfl rfl) rfl ?_ | refine l_neu (n_len_mutT rfl rfl) rfl ?_ | refine l_neu (n_len_nil rfl) rfl ?_
                  refine l_neu (n_lss rfl rfl) rfl ?_
                  refine l_nil ?_
                  repeat (first | refine then_normal ?_ | refine c_seq ?_ | refine c_block ?_ | refine inB_normal ?_ | refine c_skip ?_ | refine c_exit ?_ | refine then_exit ?_ | refine inB_same rfl ?_ | refine inB_other rfl ?_ | refine c_ret ?_ | refine then_ret ?_ | refine inB_ret ?_)
                  refine c_cond rfl (fun ht => ?_) (fun ht => ?_)
                  · have hkl : k < sc.length := by have := of_decide_eq_true ht; omega
                    have hcv : sc[k]? = some sc[k] := by simp [hkl]
                    have hcb := hwb sc[k] (List.getElem_mem hkl)
                    have hgk := hgl k sc[k].New.toNat
                    have hN : sc[k].New.toNat < L + 1 := by omega
                    have hrow : (rowUp (L + 1) (L + 1) z)[sc[k].New.toNat]? = some (.mut (sc[k].New.toNat + 1000)) := rowUp_get hN
                    have hrl : (rowUp (L + 1) (L + 1) z).length = L + 1 := rowUp_length
                    have hob : getO ((4, .box [.p (.v (.int .i64 0)), .p (.v (.slice none 0 0))]) :: (14, .arr Int 1 u32C m2) :: (15, .tarr (L + 1) 1 (rowUp (L + 1) (L + 1) z)) :: gapObs intsC ((sc.take k).foldl (gapPut p file) (s p).2) (List.range (L + 1))) (sc[k].New.toNat + 1000) = some (.arr (List Int) 1 intsC ((sc.take k).foldl (gapPut p file) (s p).2 sc[k].New.toNat)) := by
                      rw [getO_cons_other (by omega), getO_cons_other (by omega), getO_cons_other (by omega)]
                      exact gap_get (List.mem_range.2 hN)
                    have hnew : ((sc.take k).foldl (gapPut p file) (s p).2 sc[k].New.toNat).set p ((file.drop sc[k].Old.toNat).take ((sc[k].Old + sc[k].OldLen).toNat - sc[k].Old.toNat)) = (sc.take (k + 1)).foldl (gapPut p file) (s p).2 sc[k].New.toNat := by
                      rw [List.take_succ_eq_append_getElem hkl, List.foldl_append]
                      show _ = gapPut p file _ sc[k] _
                      rw [gapPut, if_pos rfl]
                    have hsame : ∀ q, q ≠ sc[k].New.toNat → (sc.take (k + 1)).foldl (gapPut p file) (s p).2 q = (sc.take k).foldl (gapPut p file) (s p).2 q := by
                      intro q hq
                      rw [List.take_succ_eq_append_getElem hkl, List.foldl_append]
                      show gapPut p file _ sc[k] _ = _
                      rw [gapPut, if_neg hq]
                    repeat (first | refine then_normal ?_ | refine c_seq ?_ | refine c_block ?_ | refine inB_normal ?_ | refine c_skip ?_ | refine c_exit ?_ | refine then_exit ?_ | refine inB_same rfl ?_ | refine inB_other rfl ?_ | refine c_ret ?_ | refine then_ret ?_ | refine inB_ret ?_)
                    refine c_region_draw (by kernel_rfl) (by kernel_rfl) ?_
                    refine d_neu (n_move rfl rfl) rfl rfl ?_
                    refine d_neu (n_move rfl rfl) rfl rfl ?_
                    refine d_neu (n_move rfl rfl) rfl rfl ?_
                    first | refine d_neu (n_indexAddr rfl (.pure _ _ _ _) rfl (by omega) hcv) rfl rfl ?_ | refine d_neu (n_indexAddr rfl (.buf _ _ _ _ _) rfl (by omega) hcv) rfl rfl ?_ | refine d_neu (n_indexAddr_mut rfl rfl rfl (by omega) (by omega)) rfl rfl ?_ | refine d_neu (n_indexAddr_mutT rfl rfl rfl (by omega) (by omega)) rfl rfl ?_
                    first | refine d_neu (n_field_ref rfl) rfl rfl ?_ | refine d_neu (n_field_eref rfl) rfl rfl ?_ | refine d_neu (n_field_mref rfl) rfl rfl ?_
                    first | refine d_neu (n_load_eref rfl rfl) rfl rfl ?_ | refine d_neu (n_load_ref rfl rfl rfl) rfl rfl ?_ | refine d_neu (n_load_mref rfl rfl (List.getElem?_eq_getElem (by omega)) rfl) rfl rfl ?_ | refine d_neu (n_load_mrefT1 rfl rfl rfl) rfl rfl ?_
                    first | refine d_neu (n_indexAddr rfl (.pure _ _ _ _) rfl (by omega) (List.getElem?_eq_getElem (by omega))) rfl rfl ?_ | refine d_neu (n_indexAddr rfl (.buf _ _ _ _ _) rfl (by omega) (List.getElem?_eq_getElem (by omega))) rfl rfl ?_ | refine d_neu (n_indexAddr_mut rfl rfl rfl (by omega) (by omega)) rfl rfl ?_ | refine d_neu (n_indexAddr_mutT rfl rfl rfl (by omega) (by omega)) rfl rfl ?_
                    first | refine d_neu (n_load_eref rfl rfl) rfl rfl ?_ | refine d_neu (n_load_ref rfl rfl rfl) rfl rfl ?_ | refine d_neu (n_load_mref rfl rfl hrow rfl) rfl rfl ?_ | refine d_neu (n_load_mrefT1 rfl rfl hrow) rfl rfl ?_
                    refine d_neu (n_move rfl rfl) rfl rfl ?_
                    refine d_neu (n_move rfl rfl) rfl rfl ?_
                    refine d_neu (n_move rfl rfl) rfl rfl ?_
                    refine d_neu (n_add rfl rfl (by omega)) rfl rfl ?_
                    first | refine d_neu (n_indexAddr rfl (.pure _ _ _ _) rfl (by omega) (by rw [show ((p : Int) + 1).toNat = p + 1 by omega]; exact hv1)) rfl rfl ?_ | refine d_neu (n_indexAddr rfl (.buf _ _ _ _ _) rfl (by omega) (by rw [show ((p : Int) + 1).toNat = p + 1 by omega]; exact hv1)) rfl rfl ?_ | refine d_neu (n_indexAddr_mut rfl rfl rfl (by omega) (by omega)) rfl rfl ?_ | refine d_neu (n_indexAddr_mutT rfl rfl rfl (by omega) (by omega)) rfl rfl ?_
                    first | refine d_neu (n_load_eref rfl rfl) rfl rfl ?_ | refine d_neu (n_load_ref rfl rfl rfl) rfl rfl ?_ | refine d_neu (n_load_mref rfl rfl (List.getElem?_eq_getElem (by omega)) rfl) rfl rfl ?_ | refine d_neu (n_load_mrefT1 rfl rfl rfl) rfl rfl ?_
                    refine d_neu (n_move rfl rfl) rfl rfl ?_
                    refine d_neu (n_move rfl rfl) rfl rfl ?_
                    first | refine d_neu (n_indexAddr rfl (.pure _ _ _ _) rfl (by omega) hcv) rfl rfl ?_ | refine d_neu (n_indexAddr rfl (.buf _ _ _ _ _) rfl (by omega) hcv) rfl rfl ?_ | refine d_neu (n_indexAddr_mut rfl rfl rfl (by omega) (by omega)) rfl rfl ?_ | refine d_neu (n_indexAddr_mutT rfl rfl rfl (by omega) (by omega)) rfl rfl ?_
                    first | refine d_neu (n_field_ref rfl) rfl rfl ?_ | refine d_neu (n_field_eref rfl) rfl rfl ?_ | refine d_neu (n_field_mref rfl) rfl rfl ?_
                    first | refine d_neu (n_load_eref rfl rfl) rfl rfl ?_ | refine d_neu (n_load_ref rfl rfl rfl) rfl rfl ?_ | refine d_neu (n_load_mref rfl rfl (List.getElem?_eq_getElem (by omega)) rfl) rfl rfl ?_ | refine d_neu (n_load_mrefT1 rfl rfl rfl) rfl rfl ?_
                    refine d_neu (n_move rfl rfl) rfl rfl ?_
                    refine d_neu (n_move rfl rfl) rfl rfl ?_
                    first | refine d_neu (n_indexAddr rfl (.pure _ _ _ _) rfl (by omega) hcv) rfl rfl ?_ | refine d_neu (n_indexAddr rfl (.buf _ _ _ _ _) rfl (by omega) hcv) rfl rfl ?_ | refine d_neu (n_indexAddr_mut rfl rfl rfl (by omega) (by omega)) rfl rfl ?_ | refine d_neu (n_indexAddr_mutT rfl rfl rfl (by omega) (by omega)) rfl rfl ?_
                    first | refine d_neu (n_field_ref rfl) rfl rfl ?_ | refine d_neu (n_field_eref rfl) rfl rfl ?_ | refine d_neu (n_field_mref rfl) rfl rfl ?_
                    first | refine d_neu (n_load_eref rfl rfl) rfl rfl ?_ | refine d_neu (n_load_ref rfl rfl rfl) rfl rfl ?_ | refine d_neu (n_load_mref rfl rfl (List.getElem?_eq_getElem (by omega)) rfl) rfl rfl ?_ | refine d_neu (n_load_mrefT1 rfl rfl rfl) rfl rfl ?_
                    refine d_neu (n_move rfl rfl) rfl rfl ?_
                    refine d_neu (n_move rfl rfl) rfl rfl ?_
                    first | refine d_neu (n_indexAddr rfl (.pure _ _ _ _) rfl (by omega) hcv) rfl rfl ?_ | refine d_neu (n_indexAddr rfl (.buf _ _ _ _ _) rfl (by omega) hcv) rfl rfl ?_ | refine d_neu (n_indexAddr_mut rfl rfl rfl (by omega) (by omega)) rfl rfl ?_ | refine d_neu (n_indexAddr_mutT rfl rfl rfl (by omega) (by omega)) rfl rfl ?_
                    first | refine d_neu (n_field_ref rfl) rfl rfl ?_ | refine d_neu (n_field_eref rfl) rfl rfl ?_ | refine d_neu (n_field_mref rfl) rfl rfl ?_
                    first | refine d_neu (n_load_eref rfl rfl) rfl rfl ?_ | refine d_neu (n_load_ref rfl rfl rfl) rfl rfl ?_ | refine d_neu (n_load_mref rfl rfl (List.getElem?_eq_getElem (by omega)) rfl) rfl rfl ?_ | refine d_neu (n_load_mrefT1 rfl rfl rfl) rfl rfl ?_
                    refine d_neu (n_add rfl rfl (by omega)) rfl rfl ?_
                    first | refine d_neu (n_slice_lh rfl (.pure _ _ _ _) rfl rfl (by omega) (by omega) (by omega)) rfl rfl ?_ | refine d_neu (n_slice_lh rfl (.buf _ _ _ _ _) rfl rfl (by omega) (by omega) (by omega)) rfl rfl ?_
                    first | refine d_neu (n_indexAddr rfl (.pure _ _ _ _) rfl (by omega) (List.getElem?_eq_getElem (by omega))) rfl rfl ?_ | refine d_neu (n_indexAddr rfl (.buf _ _ _ _ _) rfl (by omega) (List.getElem?_eq_getElem (by omega))) rfl rfl ?_ | refine d_neu (n_indexAddr_mut rfl hob rfl (by omega) (by omega)) rfl rfl ?_ | refine d_neu (n_indexAddr_mutT rfl hob rfl (by omega) (by omega)) rfl rfl ?_
                    first | refine d_eff (e_store_ref TySz.out rfl rfl rfl rfl rfl rfl) rfl ?_ | refine d_eff (e_store_mref1 TySz.out rfl hob (by omega) rfl rfl) rfl ?_ | refine d_eff (e_store_mrefT1 TySz.out rfl hob (by omega) rfl rfl) rfl ?_
                    refine d_nil ?_
                    repeat (first | refine then_normal ?_ | refine c_seq ?_ | refine c_block ?_ | refine inB_normal ?_ | refine c_skip ?_ | refine c_exit ?_ | refine then_exit ?_ | refine inB_same rfl ?_ | refine inB_other rfl ?_ | refine c_ret ?_ | refine then_ret ?_ | refine inB_ret ?_)
                    refine c_region ?_
                    refine l_neu (n_move rfl rfl) rfl ?_
                    refine l_neu (n_add rfl rfl (by omega)) rfl ?_
                    refine l_neu (n_assign rfl rfl) rfl ?_
                    refine l_nil ?_
                    repeat (first | refine then_normal ?_ | refine c_seq ?_ | refine c_block ?_ | refine inB_normal ?_ | refine c_skip ?_ | refine c_exit ?_ | refine then_exit ?_ | refine inB_same rfl ?_ | refine inB_other rfl ?_ | refine c_ret ?_ | refine then_ret ?_ | refine inB_ret ?_)
                    refine ⟨k + 1, by omega, by omega, ?_⟩
                    refine Sees.objs ⟨⟨_, rfl, .same _⟩, ⟨_, rfl, .same _⟩, ⟨_, rfl, .same _⟩, ⟨_, rfl, .same _⟩, ⟨_, rfl, .same _⟩, ⟨_, rfl, .same _⟩, ⟨_, rfl, .same _⟩, ⟨_, rfl, .same _⟩, ⟨_, rfl, .same _⟩, ⟨_, rfl, .same _⟩, ⟨_, rfl, .eq (by simp)⟩, trivial⟩ ?_
                    show ∀ k' o, _ → getO ((sc[k].New.toNat + 1000, .arr (List Int) 1 intsC (((sc.take k).foldl (gapPut p file) (s p).2 sc[k].New.toNat).set p ((file.drop sc[k].Old.toNat).take ((sc[k].Old + sc[k].OldLen).toNat - sc[k].Old.toNat)))) :: ((4, .box [.p (.v (.int .i64 0)), .p (.v (.slice none 0 0))]) :: (14, .arr Int 1 u32C m2) :: (15, .tarr (L + 1) 1 (rowUp (L + 1) (L + 1) z)) :: gapObs intsC ((sc.take k).foldl (gapPut p file) (s p).2) (List.range (L + 1)))) k' = some o
                    rw [hnew]
                    exact gap_turn (pre := [(4, .box [.p (.v (.int .i64 0)), .p (.v (.slice none 0 0))]), (14, .arr Int 1 u32C m2), (15, .tarr (L + 1) 1 (rowUp (L + 1) (L + 1) z))]) rfl (List.mem_range.2 hN) hsame
                  · have hkL : k = sc.length := by have := of_decide_eq_false ht; omega
                    rw [hkL, List.take_length]
                    have hs1 : s (p + 1) = (m2, sc.foldl (gapPut p file) (s p).2) := by
                      have e : parentStep ids (s p) p = ((matchedOf (walkOf (ids.getD (p + 1) []) (ids.getD 0 [])) (ids.getD (p + 1) []).length).foldl (clearOne p) ((s p).1.map (orBit · (bitOf p))), (walkOf (ids.getD (p + 1) []) (ids.getD 0 [])).foldl (gapPut p (ids.getD (p + 1) [])) (s p).2) := rfl
                      rw [hstep, e, ← hfile, ← hbase, ← hsc, hmw, ← hm0, ← hm1, ← hm2]
                    repeat (first | refine then_normal ?_ | refine c_seq ?_ | refine c_block ?_ | refine inB_normal ?_ | refine c_skip ?_ | refine c_exit ?_ | refine then_exit ?_ | refine inB_same rfl ?_ | refine inB_other rfl ?_ | refine c_ret ?_ | refine then_ret ?_ | refine inB_ret ?_)
                    refine c_region ?_
                    refine l_neu (n_move rfl rfl) rfl ?_
                    refine l_neu (n_add rfl rfl (by omega)) rfl ?_
                    refine l_neu (n_assign rfl rfl) rfl ?_
                    refine l_nil ?_
                    repeat (first | refine then_normal ?_ | refine c_seq ?_ | refine c_block ?_ | refine inB_normal ?_ | refine c_skip ?_ | refine c_exit ?_ | refine then_exit ?_ | refine inB_same rfl ?_ | refine inB_other rfl ?_ | refine c_ret ?_ | refine then_ret ?_ | refine inB_ret ?_)
                    refine ⟨p + 1, by omega, by omega, ?_⟩
                    rw [hs1]
                    exact Sees.objs ⟨⟨_, rfl, .same _⟩, ⟨_, rfl, .same _⟩, ⟨_, rfl, .same _⟩, ⟨_, rfl, .same _⟩, ⟨_, rfl, .same _⟩, ⟨_, rfl, .same _⟩, ⟨_, rfl, .same _⟩, ⟨_, rfl, .same _⟩, ⟨_, rfl, .eq (by simp)⟩, trivial⟩ (fun _ _ h => h)
            · have hpn : p = n := by have := of_decide_eq_false ht; omega
              rw [hpn] at hsp ⊢
              clear hpn ht hp p
              obtain ⟨ms, hms⟩ : ∃ ms, ms = (s n).1 := ⟨_, rfl⟩
              obtain ⟨g, hg⟩ : ∃ g, g = (s n).2 := ⟨_, rfl⟩
              refine c_cut [(4, .s (.one (.ref 4 0))), (6, sInt n), (7, sList (List Str) 1 strsC fs), (11, sList Str 1 strC names), (13, sInt L), (14, .s (.one (.mut 14))), (15, .s (.one (.mut 15)))] ([(4, .box [.p (.v (.int .i64 0)), .p (.v (.slice none 0 0))]), (14, .arr Int 1 u32C ms)] ++ ((15, .tarr (L + 1) 1 (rowDown intsC (L + 1) 0 g)) :: gapObs intsC g (List.range (L + 1)))) ?_ ?_
              · rw [hms, hg, ← rowUp_full (z := z)]
                exact Sees.objs ⟨⟨_, rfl, .same _⟩, ⟨_, rfl, .same _⟩, ⟨_, rfl, .same _⟩, ⟨_, rfl, .same _⟩, ⟨_, rfl, .same _⟩, ⟨_, rfl, .same _⟩, ⟨_, rfl, .same _⟩, trivial⟩ (fun _ _ h => h)
              refine c_sees (Sees.rowList (by omega) rfl rfl (fun r _ => ?_) (fun r _ => rfl)) ?_
              · simp only [frFree, SV.free, S1.free, TC.free, beq_no (show 4 ≠ r + 1000 by omega), beq_no (show 14 ≠ r + 1000 by omega), beq_no (show 15 ≠ r + 1000 by omega)]; rfl
              obtain ⟨gs, hgs⟩ : ∃ gs, gs = (List.range (L + 1)).map g := ⟨_, rfl⟩
              rw [← hgs]
              refine c_sees (Sees.freeze (k := 14) rfl) ?_
              refine c_sees (Sees.freeze (k := 15) rfl) ?_
              refine c_cut [(4, .s (.one (.ref 4 0))), (6, sInt n), (7, sList (List Str) 1 strsC fs), (11, sList Str 1 strC names), (13, sInt L), (14, sList Int 1 u32C ms), (15, sList (List (List Int)) 1 intssC gs)] [(4, .box [.p (.v (.int .i64 0)), .p (.v (.slice none 0 0))])] (Sees.of ⟨⟨_, rfl, by first | exact .same _ | exact .eq (by first | (simp; done) | (simp; omega)) | exact .list _ _ _ _ _ | exact .nil _ _ _ | exact .any _⟩, ⟨_, rfl, by first | exact .same _ | exact .eq (by first | (simp; done) | (simp; omega)) | exact .list _ _ _ _ _ | exact .nil _ _ _ | exact .any _⟩, ⟨_, rfl, by first | exact .same _ | exact .eq (by first | (simp; done) | (simp; omega)) | exact .list _ _ _ _ _ | exact .nil _ _ _ | exact .any _⟩, ⟨_, rfl, by first | exact .same _ | exact .eq (by first | (simp; done) | (simp; omega)) | exact .list _ _ _ _ _ | exact .nil _ _ _ | exact .any _⟩, ⟨_, rfl, by first | exact .same _ | exact .eq (by first | (simp; done) | (simp; omega)) | exact .list _ _ _ _ _ | exact .nil _ _ _ | exact .any _⟩, ⟨_, rfl, by first | exact .same _ | exact .eq (by first | (simp; done) | (simp; omega)) | exact .list _ _ _ _ _ | exact .nil _ _ _ | exact .any _⟩, ⟨_, rfl, by first | exact .same _ | exact .eq (by first | (simp; done) | (simp; omega)) | exact .list _ _ _ _ _ | exact .nil _ _ _ | exact .any _⟩, trivial⟩ ⟨rfl, trivial⟩) ?_
              -- TAIL
              obtain ⟨f0, hf0'⟩ : ∃ f0, f0 = linesOf result := ⟨_, rfl⟩
              rw [← hf0'] at hL hf0 hmk
              obtain ⟨R, hR⟩ : ∃ R : Nat → List Row, R = fun k => rowsTo names f0 (s n) k := ⟨_, rfl⟩
              obtain ⟨F, hF⟩ : ∃ F : Merged → Row, F = fun m => ⟨true, m.Parents, names.getD m.Line.toNat []⟩ := ⟨_, rfl⟩
              have hcs : ∀ k, (coalesceOf (g k)).1.length ≤ 6400 ∧ ∀ m ∈ (coalesceOf (g k)).1, (0 ≤ m.Parents ∧ m.Parents < 4294967296) ∧ 0 ≤ m.Line ∧ m.Line < (names.length : Int) := fun k => by
                have h2 := hsp.gaps k
                have h3 := coalesce_spec (fun v => 0 ≤ v ∧ v < (names.length : Int)) 200 (g k) (by rw [hg]; exact h2.2)
                rw [show (g k).length = n by rw [hg]; exact h2.1] at h3
                exact ⟨by omega, h3.2⟩
              have hR1 : ∀ k, R (k + 1) = R k ++ ((coalesceOf (g k)).1.map F ++ (if k < f0.length then [⟨false, ms.getD k 0, f0.getD k []⟩] else [])) := fun k => by
                rw [hR]; dsimp only; rw [rowsTo_succ, rowsOfGap, hF, hg, hms]
              have hRl : ∀ k, (R k).length ≤ k * 6401 := fun k => by
                induction k with
                | zero => rw [hR]; simp [rowsTo]
                | succ k ih => rw [hR1]; have := (hcs k).1; simp only [List.length_append, List.length_map]; split <;> simp <;> omega
              have hmsl : ms.length = L := by rw [hms]; exact hsp.len
              repeat (first | refine then_normal ?_ | refine c_seq ?_ | refine c_block ?_ | refine inB_normal ?_ | refine c_skip ?_ | refine c_exit ?_ | refine then_exit ?_ | refine inB_same rfl ?_ | refine inB_other rfl ?_ | refine c_ret ?_ | refine then_ret ?_ | refine inB_ret ?_)
              refine c_region ?_
              refine l_neu (n_move rfl rfl) rfl ?_
              refine l_neu (n_build rfl) rfl ?_
              refine l_effv (f_alloc 23 rfl) rfl ?_
              first | refine l_eff (e_store_ref TySz.out rfl rfl rfl rfl rfl rfl) ?_ | refine l_eff (e_store_mref1 TySz.out rfl rfl (by simp; omega) rfl rfl) ?_ | refine l_eff (e_store_mrefT1 TySz.out rfl rfl (by simp; omega) rfl rfl) ?_
              refine l_nil ?_
              repeat (first | refine then_normal ?_ | refine c_seq ?_ | refine c_block ?_ | refine inB_normal ?_ | refine c_skip ?_ | refine c_exit ?_ | refine then_exit ?_ | refine inB_same rfl ?_ | refine inB_other rfl ?_ | refine c_ret ?_ | refine then_ret ?_ | refine inB_ret ?_)
              refine c_region ?_
              refine l_neu (n_assign rfl rfl) rfl ?_
              refine l_nil ?_
              repeat (first | refine then_normal ?_ | refine c_seq ?_ | refine c_block ?_ | refine inB_normal ?_ | refine c_skip ?_ | refine c_exit ?_ | refine then_exit ?_ | refine inB_same rfl ?_ | refine inB_other rfl ?_)
              refine c_sees (Sees.adoptB 88 Row 3 rowC 39 (kb := 23) (o := 1) rfl rfl rfl) ?_
              refine c_while (X := Nat) (fun k => ([(4, .s (.one (.ref 4 0))), (6, sInt n), (7, sList (List Str) 1 strsC fs), (11, sList Str 1 strC names), (13, sInt L), (14, sList Int 1 u32C ms), (15, sList (List (List Int)) 1 intssC gs), (23, .s (.one (.ref 23 0))), (24, sInt k)], [(4, .box [.p (.v (.int .i64 0)), .p (.v (.slice none 0 0))]), (23, .box [.p (.v (.int .i64 n)), .buf 88 Row 3 rowC (R k)]), (88, .spare (R k).length 3 39)])) (fun k => k ≤ L + 1 ∧ ∀ q, q < k → (coalesceOf (g q)).2 = 0) (fun k => L + 1 - k) 0 ⟨Nat.zero_le _, fun q hq => by omega⟩ (by rw [show R 0 = [] by rw [hR]; rfl]; exact Sees.of ⟨⟨_, rfl, by first | exact .same _ | exact .eq (by first | (simp; done) | (simp; omega)) | exact .list _ _ _ _ _ | exact .nil _ _ _ | exact .any _⟩, ⟨_, rfl, by first | exact .same _ | exact .eq (by first | (simp; done) | (simp; omega)) | exact .list _ _ _ _ _ | exact .nil _ _ _ | exact .any _⟩, ⟨_, rfl, by first | exact .same _ | exact .eq (by first | (simp; done) | (simp; omega)) | exact .list _ _ _ _ _ | exact .nil _ _ _ | exact .any _⟩, ⟨_, rfl, by first | exact .same _ | exact .eq (by first | (simp; done) | (simp; omega)) | exact .list _ _ _ _ _ | exact .nil _ _ _ | exact .any _⟩, ⟨_, rfl, by first | exact .same _ | exact .eq (by first | (simp; done) | (simp; omega)) | exact .list _ _ _ _ _ | exact .nil _ _ _ | exact .any _⟩, ⟨_, rfl, by first | exact .same _ | exact .eq (by first | (simp; done) | (simp; omega)) | exact .list _ _ _ _ _ | exact .nil _ _ _ | exact .any _⟩, ⟨_, rfl, by first | exact .same _ | exact .eq (by first | (simp; done) | (simp; omega)) | exact .list _ _ _ _ _ | exact .nil _ _ _ | exact .any _⟩, ⟨_, rfl, by first | exact .same _ | exact .eq (by first | (simp; done) | (simp; omega)) | exact .list _ _ _ _ _ | exact .nil _ _ _ | exact .any _⟩, ⟨_, rfl, by first | exact .same _ | exact .eq (by first | (simp; done) | (simp; omega)) | exact .list _ _ _ _ _ | exact .nil _ _ _ | exact .any _⟩, trivial⟩ ⟨rfl, rfl, rfl, trivial⟩) ?_
              rintro k ⟨hk, hz0⟩
              dsimp only at hk hz0 ⊢
              have hRk := hRl k
              repeat (first | refine then_normal ?_ | refine c_seq ?_ | refine c_block ?_ | refine inB_normal ?_ | refine c_skip ?_ | refine c_exit ?_ | refine then_exit ?_ | refine inB_same rfl ?_ | refine inB_other rfl ?_ | refine c_ret ?_ | refine then_ret ?_ | refine inB_ret ?_)
              refine c_region ?_
              refine l_neu (n_move rfl rfl) rfl ?_
              refine l_neu (n_move rfl rfl) rfl ?_
              refine l_neu (n_leq rfl rfl) rfl ?_
              refine l_nil ?_
              repeat (first | refine then_normal ?_ | refine c_seq ?_ | refine c_block ?_ | refine inB_normal ?_ | refine c_skip ?_ | refine c_exit ?_ | refine then_exit ?_ | refine inB_same rfl ?_ | refine inB_other rfl ?_ | refine c_ret ?_ | refine then_ret ?_ | refine inB_ret ?_)
              refine c_cond rfl (fun ht => ?_) (fun ht => ?_)
              · have hlt : k < L + 1 := by have := of_decide_eq_true ht; omega
                have hgv : gs[k]? = some (g k) := by rw [hgs, List.getElem?_map, List.getElem?_range hlt]; rfl
                have hck := hcs k
                repeat (first | refine then_normal ?_ | refine c_seq ?_ | refine c_block ?_ | refine inB_normal ?_ | refine c_skip ?_ | refine c_exit ?_ | refine then_exit ?_ | refine inB_same rfl ?_ | refine inB_other rfl ?_ | refine c_ret ?_ | refine then_ret ?_ | refine inB_ret ?_)
                refine c_region ?_
                refine l_neu (n_move rfl rfl) rfl ?_
                refine l_neu (n_move rfl rfl) rfl ?_
                first | refine l_neu (n_indexAddr rfl (.pure _ _ _ _) rfl (by omega) hgv) rfl ?_ | refine l_neu (n_indexAddr rfl (.buf _ _ _ _ _) rfl (by omega) hgv) rfl ?_ | refine l_neu (n_indexAddr_mut rfl rfl rfl (by omega) (by omega)) rfl ?_ | refine l_neu (n_indexAddr_mutT rfl rfl rfl (by omega) (by omega)) rfl ?_
                first | refine l_neu (n_load_eref rfl rfl) rfl ?_ | refine l_neu (n_load_ref rfl rfl rfl) rfl ?_ | refine l_neu (n_load_mref rfl rfl (List.getElem?_eq_getElem (by omega)) rfl) rfl ?_ | refine l_neu (n_load_mrefT1 rfl rfl rfl) rfl ?_
                refine l_call (coalesce_ok (g k)) rfl rfl rfl ?_
                rintro _ rfl
                refine l_neu (n_move rfl rfl) rfl ?_
                refine l_neu (n_extract rfl rfl) rfl ?_
                refine l_neu (n_extract rfl rfl) rfl ?_
                refine l_neu (n_assign rfl rfl) rfl ?_
                refine l_neu (n_assign rfl rfl) rfl ?_
                refine l_nil ?_
                obtain ⟨l, hl⟩ : ∃ l, l = (coalesceOf (g k)).1 := ⟨_, rfl⟩
                obtain ⟨e, he⟩ : ∃ e, e = (coalesceOf (g k)).2 := ⟨_, rfl⟩
                rw [← hl, ← he]
                rw [← hl] at hck
                repeat (first | refine then_normal ?_ | refine c_seq ?_ | refine c_block ?_ | refine inB_normal ?_ | refine c_skip ?_ | refine c_exit ?_ | refine then_exit ?_ | refine inB_same rfl ?_ | refine inB_other rfl ?_ | refine c_ret ?_ | refine then_ret ?_ | refine inB_ret ?_)
                refine c_region ?_
                refine l_neu (n_move rfl rfl) rfl ?_
                refine l_neu (n_neq rfl rfl) rfl ?_
                refine l_nil ?_
                repeat (first | refine then_normal ?_ | refine c_seq ?_ | refine c_block ?_ | refine inB_normal ?_ | refine c_skip ?_ | refine c_exit ?_ | refine then_exit ?_ | refine inB_same rfl ?_ | refine inB_other rfl ?_ | refine c_ret ?_ | refine then_ret ?_ | refine inB_ret ?_)
                refine c_cond rfl (fun ht => ?_) (fun ht => ?_)
                · have hne := of_decide_eq_true ht
                  repeat (first | refine then_normal ?_ | refine c_seq ?_ | refine c_block ?_ | refine inB_normal ?_ | refine c_skip ?_ | refine c_exit ?_ | refine then_exit ?_ | refine inB_same rfl ?_ | refine inB_other rfl ?_ | refine c_ret ?_ | refine then_ret ?_ | refine inB_ret ?_)
                  refine c_region ?_
                  refine l_neu (n_build rfl) rfl ?_
                  first | refine l_eff (e_store_ref TySz.out rfl rfl rfl rfl rfl rfl) ?_ | refine l_eff (e_store_mref1 TySz.out rfl rfl (by simp; omega) rfl rfl) ?_ | refine l_eff (e_store_mrefT1 TySz.out rfl rfl (by simp; omega) rfl rfl) ?_
                  refine l_neu (n_assign rfl rfl) rfl ?_
                  refine l_nil ?_
                  repeat (first | refine then_normal ?_ | refine c_seq ?_ | refine c_block ?_ | refine inB_normal ?_ | refine c_skip ?_ | refine c_exit ?_ | refine then_exit ?_ | refine inB_same rfl ?_ | refine inB_other rfl ?_)
                  refine c_sees (Sees.listB Row 3 rowC 4 1 rfl rfl) ?_
                  repeat (first | refine then_normal ?_ | refine c_seq ?_ | refine c_block ?_ | refine inB_normal ?_ | refine c_skip ?_ | refine c_exit ?_ | refine then_exit ?_ | refine inB_same rfl ?_ | refine inB_other rfl ?_ | refine c_ret ?_ | refine then_ret ?_ | refine inB_ret ?_)
                  exact ret_ret (rs := [pTable ⟨0, []⟩, pInt 1]) (retc2 rfl rfl rfl rfl rfl rfl rfl) (by rw [hmk, if_pos]; refine ⟨k, by omega, ?_⟩; rw [← hnames, ← hids, ← hL]; rw [hg, hs] at he; dsimp only at he; rw [← he]; exact hne)
                · have he0 : e = 0 := by simpa using of_decide_eq_false ht
                  repeat (first | refine then_normal ?_ | refine c_seq ?_ | refine c_block ?_ | refine inB_normal ?_ | refine c_skip ?_ | refine c_exit ?_ | refine then_exit ?_ | refine inB_same rfl ?_ | refine inB_other rfl ?_ | refine c_ret ?_ | refine then_ret ?_ | refine inB_ret ?_)
                  refine c_region ?_
                  refine l_neu (n_assign rfl rfl) rfl ?_
                  refine l_nil ?_
                  repeat (first | refine then_normal ?_ | refine c_seq ?_ | refine c_block ?_ | refine inB_normal ?_ | refine c_skip ?_ | refine c_exit ?_ | refine then_exit ?_ | refine inB_same rfl ?_ | refine inB_other rfl ?_ | refine c_ret ?_ | refine then_ret ?_ | refine inB_ret ?_)
                  refine c_while (X := Nat) (fun i => ([(4, .s (.one (.ref 4 0))), (6, sInt n), (7, sList (List Str) 1 strsC fs), (11, sList Str 1 strC names), (13, sInt L), (14, sList Int 1 u32C ms), (15, sList (List (List Int)) 1 intssC gs), (23, .s (.one (.ref 23 0))), (24, sInt k), (25, sList Merged 2 mergedC l), (27, sInt i)], [(4, .box [.p (.v (.int .i64 0)), .p (.v (.slice none 0 0))]), (23, .box [.p (.v (.int .i64 n)), .buf 88 Row 3 rowC (R k ++ (l.take i).map F)]), (88, .spare (R k ++ (l.take i).map F).length 3 39)])) (fun i => i ≤ l.length) (fun i => l.length - i) 0 (Nat.zero_le _) (by have e0 : R k ++ (l.take 0).map F = R k := (by simp); dsimp only; rw [e0]; exact Sees.of ⟨⟨_, rfl, by first | exact .same _ | exact .eq (by first | (simp; done) | (simp; omega)) | exact .list _ _ _ _ _ | exact .nil _ _ _ | exact .any _⟩, ⟨_, rfl, by first | exact .same _ | exact .eq (by first | (simp; done) | (simp; omega)) | exact .list _ _ _ _ _ | exact .nil _ _ _ | exact .any _⟩, ⟨_, rfl, by first | exact .same _ | exact .eq (by first | (simp; done) | (simp; omega)) | exact .list _ _ _ _ _ | exact .nil _ _ _ | exact .any _⟩, ⟨_, rfl, by first | exact .same _ | exact .eq (by first | (simp; done) | (simp; omega)) | exact .list _ _ _ _ _ | exact .nil _ _ _ | exact .any _⟩, ⟨_, rfl, by first | exact .same _ | exact .eq (by first | (simp; done) | (simp; omega)) | exact .list _ _ _ _ _ | exact .nil _ _ _ | exact .any _⟩, ⟨_, rfl, by first | exact .same _ | exact .eq (by first | (simp; done) | (simp; omega)) | exact .list _ _ _ _ _ | exact .nil _ _ _ | exact .any _⟩, ⟨_, rfl, by first | exact .same _ | exact .eq (by first | (simp; done) | (simp; omega)) | exact .list _ _ _ _ _ | exact .nil _ _ _ | exact .any _⟩, ⟨_, rfl, by first | exact .same _ | exact .eq (by first | (simp; done) | (simp; omega)) | exact .list _ _ _ _ _ | exact .nil _ _ _ | exact .any _⟩, ⟨_, rfl, by first | exact .same _ | exact .eq (by first | (simp; done) | (simp; omega)) | exact .list _ _ _ _ _ | exact .nil _ _ _ | exact .any _⟩, ⟨_, rfl, by first | exact .same _ | exact .eq (by first | (simp; done) | (simp; omega)) | exact .list _ _ _ _ _ | exact .nil _ _ _ | exact .any _⟩, ⟨_, rfl, by first | exact .same _ | exact .eq (by first | (simp; done) | (simp; omega)) | exact .list _ _ _ _ _ | exact .nil _ _ _ | exact .any _⟩, trivial⟩ ⟨rfl, rfl, rfl, trivial⟩) ?_
                  intro i hi
                  dsimp only at hi ⊢
                  have hil : (R k ++ (l.take i).map F).length ≤ k * 6401 + 6400 := by simp only [List.length_append, List.length_map, List.length_take]; omega
                  repeat (first | refine then_normal ?_ | refine c_seq ?_ | refine c_block ?_ | refine inB_normal ?_ | refine c_skip ?_ | refine c_exit ?_ | refine then_exit ?_ | refine inB_same rfl ?_ | refine inB_other rfl ?_ | refine c_ret ?_ | refine then_ret ?_ | refine inB_ret ?_)
                  refine c_region ?_
                  refine l_neu (n_move rfl rfl) rfl ?_
                  refine l_neu (n_move rfl rfl) rfl ?_
                  first | refine l_neu (n_len rfl (.pure _ _ _ _)) rfl ?_ | refine l_neu (n_len rfl (.buf _ _ _ _ _)) rfl ?_ | refine l_neu (n_len_mut rfl rfl) rfl ?_ | refine l_neu (n_len_mutT rfl rfl) rfl ?_ | refine l_neu (n_len_nil rfl) rfl ?_
                  refine l_neu (n_lss rfl rfl) rfl ?_
                  refine l_nil ?_
                  repeat (first | refine then_normal ?_ | refine c_seq ?_ | refine c_block ?_ | refine inB_normal ?_ | refine c_skip ?_ | refine c_exit ?_ | refine then_exit ?_ | refine inB_same rfl ?_ | refine inB_other rfl ?_ | refine c_ret ?_ | refine then_ret ?_ | refine inB_ret ?_)
                  refine c_cond rfl (fun ht => ?_) (fun ht => ?_)
                  · have hli : i < l.length := by have := of_decide_eq_true ht; omega
                    have hlv : l[i]? = some l[i] := by simp [hli]
                    have hlb := hck.2 l[i] (List.getElem_mem hli)
                    have hnv : names[l[i].Line.toNat]? = some (names.getD l[i].Line.toNat []) := by rw [List.getD_eq_getElem?_getD, List.getElem?_eq_getElem (by omega)]; rfl
                    have hFi : F l[i] = ⟨true, l[i].Parents, names.getD l[i].Line.toNat []⟩ := by rw [hF]
                    repeat (first | refine then_normal ?_ | refine c_seq ?_ | refine c_block ?_ | refine inB_normal ?_ | refine c_skip ?_ | refine c_exit ?_ | refine then_exit ?_ | refine inB_same rfl ?_ | refine inB_other rfl ?_ | refine c_ret ?_ | refine then_ret ?_ | refine inB_ret ?_)
                    refine c_region_draw (by kernel_rfl) (by kernel_rfl) ?_
                    first | refine d_neu (n_field_ref rfl) rfl rfl ?_ | refine d_neu (n_field_eref rfl) rfl rfl ?_ | refine d_neu (n_field_mref rfl) rfl rfl ?_
                    first | refine d_neu (n_load_eref rfl rfl) rfl rfl ?_ | refine d_neu (n_load_ref rfl rfl rfl) rfl rfl ?_ | refine d_neu (n_load_mref rfl rfl (List.getElem?_eq_getElem (by omega)) rfl) rfl rfl ?_ | refine d_neu (n_load_mrefT1 rfl rfl rfl) rfl rfl ?_
                    refine d_neu (n_move rfl rfl) rfl rfl ?_
                    refine d_neu (n_move rfl rfl) rfl rfl ?_
                    first | refine d_neu (n_indexAddr rfl (.pure _ _ _ _) rfl (by omega) hlv) rfl rfl ?_ | refine d_neu (n_indexAddr rfl (.buf _ _ _ _ _) rfl (by omega) hlv) rfl rfl ?_ | refine d_neu (n_indexAddr_mut rfl rfl rfl (by omega) (by omega)) rfl rfl ?_ | refine d_neu (n_indexAddr_mutT rfl rfl rfl (by omega) (by omega)) rfl rfl ?_
                    first | refine d_neu (n_field_ref rfl) rfl rfl ?_ | refine d_neu (n_field_eref rfl) rfl rfl ?_ | refine d_neu (n_field_mref rfl) rfl rfl ?_
                    first | refine d_neu (n_load_eref rfl rfl) rfl rfl ?_ | refine d_neu (n_load_ref rfl rfl rfl) rfl rfl ?_ | refine d_neu (n_load_mref rfl rfl (List.getElem?_eq_getElem (by omega)) rfl) rfl rfl ?_ | refine d_neu (n_load_mrefT1 rfl rfl rfl) rfl rfl ?_
                    refine d_neu (n_move rfl rfl) rfl rfl ?_
                    refine d_neu (n_move rfl rfl) rfl rfl ?_
                    refine d_neu (n_move rfl rfl) rfl rfl ?_
                    first | refine d_neu (n_indexAddr rfl (.pure _ _ _ _) rfl (by omega) hlv) rfl rfl ?_ | refine d_neu (n_indexAddr rfl (.buf _ _ _ _ _) rfl (by omega) hlv) rfl rfl ?_ | refine d_neu (n_indexAddr_mut rfl rfl rfl (by omega) (by omega)) rfl rfl ?_ | refine d_neu (n_indexAddr_mutT rfl rfl rfl (by omega) (by omega)) rfl rfl ?_
                    first | refine d_neu (n_field_ref rfl) rfl rfl ?_ | refine d_neu (n_field_eref rfl) rfl rfl ?_ | refine d_neu (n_field_mref rfl) rfl rfl ?_
                    first | refine d_neu (n_load_eref rfl rfl) rfl rfl ?_ | refine d_neu (n_load_ref rfl rfl rfl) rfl rfl ?_ | refine d_neu (n_load_mref rfl rfl (List.getElem?_eq_getElem (by omega)) rfl) rfl rfl ?_ | refine d_neu (n_load_mrefT1 rfl rfl rfl) rfl rfl ?_
                    first | refine d_neu (n_indexAddr rfl (.pure _ _ _ _) rfl (by omega) hnv) rfl rfl ?_ | refine d_neu (n_indexAddr rfl (.buf _ _ _ _ _) rfl (by omega) hnv) rfl rfl ?_ | refine d_neu (n_indexAddr_mut rfl rfl rfl (by omega) (by omega)) rfl rfl ?_ | refine d_neu (n_indexAddr_mutT rfl rfl rfl (by omega) (by omega)) rfl rfl ?_
                    first | refine d_neu (n_load_eref rfl rfl) rfl rfl ?_ | refine d_neu (n_load_ref rfl rfl rfl) rfl rfl ?_ | refine d_neu (n_load_mref rfl rfl (List.getElem?_eq_getElem (by omega)) rfl) rfl rfl ?_ | refine d_neu (n_load_mrefT1 rfl rfl rfl) rfl rfl ?_
                    refine d_neu (n_build rfl) rfl rfl ?_
                    refine d_neu (n_buildSlice (c := rowC) (ys := [⟨true, l[i].Parents, names.getD l[i].Line.toNat []⟩]) (asm_cons rfl rfl rfl rfl asm_nil) rfl rfl rfl) rfl rfl ?_
                    first | refine d_effv (e_append rfl rfl rfl (.pure _ _ _ _) (by (simp only [List.length_cons, List.length_nil]; omega)) rfl) rfl rfl ?_ | refine d_effv (e_append rfl rfl rfl (.buf _ _ _ _ _) (by (simp only [List.length_cons, List.length_nil]; omega)) rfl) rfl rfl ?_
                    first | refine d_neu (n_field_ref rfl) rfl rfl ?_ | refine d_neu (n_field_eref rfl) rfl rfl ?_ | refine d_neu (n_field_mref rfl) rfl rfl ?_
                    first | refine d_eff (e_store_ref TySz.out rfl rfl rfl rfl rfl rfl) rfl ?_ | refine d_eff (e_store_mref1 TySz.out rfl rfl (by simp; omega) rfl rfl) rfl ?_ | refine d_eff (e_store_mrefT1 TySz.out rfl rfl (by simp; omega) rfl rfl) rfl ?_
                    refine d_nil ?_
                    repeat (first | refine then_normal ?_ | refine c_seq ?_ | refine c_block ?_ | refine inB_normal ?_ | refine c_skip ?_ | refine c_exit ?_ | refine then_exit ?_ | refine inB_same rfl ?_ | refine inB_other rfl ?_ | refine c_ret ?_ | refine then_ret ?_ | refine inB_ret ?_)
                    refine c_region ?_
                    refine l_neu (n_move rfl rfl) rfl ?_
                    refine l_neu (n_add rfl rfl (by omega)) rfl ?_
                    refine l_neu (n_assign rfl rfl) rfl ?_
                    refine l_nil ?_
                    repeat (first | refine then_normal ?_ | refine c_seq ?_ | refine c_block ?_ | refine inB_normal ?_ | refine c_skip ?_ | refine c_exit ?_ | refine then_exit ?_ | refine inB_same rfl ?_ | refine inB_other rfl ?_ | refine c_ret ?_ | refine then_ret ?_ | refine inB_ret ?_)
                    refine ⟨i + 1, by omega, by omega, ?_⟩
                    have e1 : R k ++ (l.take (i + 1)).map F = R k ++ (l.take i).map F ++ [⟨true, l[i].Parents, names.getD l[i].Line.toNat []⟩] := by rw [List.take_succ_eq_append_getElem hli, List.map_append, List.map_cons, List.map_nil, ← List.append_assoc, hFi]
                    rw [e1]
                    exact Sees.of ⟨⟨_, rfl, by first | exact .same _ | exact .eq (by first | (simp; done) | (simp; omega)) | exact .list _ _ _ _ _ | exact .nil _ _ _ | exact .any _⟩, ⟨_, rfl, by first | exact .same _ | exact .eq (by first | (simp; done) | (simp; omega)) | exact .list _ _ _ _ _ | exact .nil _ _ _ | exact .any _⟩, ⟨_, rfl, by first | exact .same _ | exact .eq (by first | (simp; done) | (simp; omega)) | exact .list _ _ _ _ _ | exact .nil _ _ _ | exact .any _⟩, ⟨_, rfl, by first | exact .same _ | exact .eq (by first | (simp; done) | (simp; omega)) | exact .list _ _ _ _ _ | exact .nil _ _ _ | exact .any _⟩, ⟨_, rfl, by first | exact .same _ | exact .eq (by first | (simp; done) | (simp; omega)) | exact .list _ _ _ _ _ | exact .nil _ _ _ | exact .any _⟩, ⟨_, rfl, by first | exact .same _ | exact .eq (by first | (simp; done) | (simp; omega)) | exact .list _ _ _ _ _ | exact .nil _ _ _ | exact .any _⟩, ⟨_, rfl, by first | exact .same _ | exact .eq (by first | (simp; done) | (simp; omega)) | exact .list _ _ _ _ _ | exact .nil _ _ _ | exact .any _⟩, ⟨_, rfl, by first | exact .same _ | exact .eq (by first | (simp; done) | (simp; omega)) | exact .list _ _ _ _ _ | exact .nil _ _ _ | exact .any _⟩, ⟨_, rfl, by first | exact .same _ | exact .eq (by first | (simp; done) | (simp; omega)) | exact .list _ _ _ _ _ | exact .nil _ _ _ | exact .any _⟩, ⟨_, rfl, by first | exact .same _ | exact .eq (by first | (simp; done) | (simp; omega)) | exact .list _ _ _ _ _ | exact .nil _ _ _ | exact .any _⟩, ⟨_, rfl, by first | exact .same _ | exact .eq (by first | (simp; done) | (simp; omega)) | exact .list _ _ _ _ _ | exact .nil _ _ _ | exact .any _⟩, trivial⟩ ⟨rfl, rfl, rfl, trivial⟩
                  · have hli : i = l.length := by have := of_decide_eq_false ht; omega
                    rw [hli, List.take_length] at hil ⊢
                    repeat (first | refine then_normal ?_ | refine c_seq ?_ | refine c_block ?_ | refine inB_normal ?_ | refine c_skip ?_ | refine c_exit ?_ | refine then_exit ?_ | refine inB_same rfl ?_ | refine inB_other rfl ?_ | refine c_ret ?_ | refine then_ret ?_ | refine inB_ret ?_)
                    refine c_region ?_
                    refine l_neu (n_move rfl rfl) rfl ?_
                    refine l_neu (n_move rfl rfl) rfl ?_
                    refine l_neu (n_lss rfl rfl) rfl ?_
                    refine l_nil ?_
                    repeat (first | refine then_normal ?_ | refine c_seq ?_ | refine c_block ?_ | refine inB_normal ?_ | refine c_skip ?_ | refine c_exit ?_ | refine then_exit ?_ | refine inB_same rfl ?_ | refine inB_other rfl ?_ | refine c_ret ?_ | refine then_ret ?_ | refine inB_ret ?_)
                    refine c_cond rfl (fun ht => ?_) (fun ht => ?_)
                    · have hkL : k < f0.length := by have := of_decide_eq_true ht; omega
                      have hmv : ms[k]? = some (ms.getD k 0) := by rw [List.getD_eq_getElem?_getD, List.getElem?_eq_getElem (by omega)]; rfl
                      have hfv : f0[k]? = some (f0.getD k []) := by rw [List.getD_eq_getElem?_getD, List.getElem?_eq_getElem (by omega)]; rfl
                      have hR2 := hR1 k
                      rw [if_pos hkL, ← hl, ← List.append_assoc] at hR2
                      repeat (first | refine then_normal ?_ | refine c_seq ?_ | refine c_block ?_ | refine inB_normal ?_ | refine c_skip ?_ | refine c_exit ?_ | refine then_exit ?_ | refine inB_same rfl ?_ | refine inB_other rfl ?_ | refine c_ret ?_ | refine then_ret ?_ | refine inB_ret ?_)
                      refine c_region_draw (by kernel_rfl) (by kernel_rfl) ?_
                      first | refine d_neu (n_field_ref rfl) rfl rfl ?_ | refine d_neu (n_field_eref rfl) rfl rfl ?_ | refine d_neu (n_field_mref rfl) rfl rfl ?_
                      first | refine d_neu (n_load_eref rfl rfl) rfl rfl ?_ | refine d_neu (n_load_ref rfl rfl rfl) rfl rfl ?_ | refine d_neu (n_load_mref rfl rfl (List.getElem?_eq_getElem (by omega)) rfl) rfl rfl ?_ | refine d_neu (n_load_mrefT1 rfl rfl rfl) rfl rfl ?_
                      refine d_neu (n_move rfl rfl) rfl rfl ?_
                      refine d_neu (n_move rfl rfl) rfl rfl ?_
                      first | refine d_neu (n_indexAddr rfl (.pure _ _ _ _) rfl (by omega) hmv) rfl rfl ?_ | refine d_neu (n_indexAddr rfl (.buf _ _ _ _ _) rfl (by omega) hmv) rfl rfl ?_ | refine d_neu (n_indexAddr_mut rfl rfl rfl (by omega) (by omega)) rfl rfl ?_ | refine d_neu (n_indexAddr_mutT rfl rfl rfl (by omega) (by omega)) rfl rfl ?_
                      first | refine d_neu (n_load_eref rfl rfl) rfl rfl ?_ | refine d_neu (n_load_ref rfl rfl rfl) rfl rfl ?_ | refine d_neu (n_load_mref rfl rfl (List.getElem?_eq_getElem (by omega)) rfl) rfl rfl ?_ | refine d_neu (n_load_mrefT1 rfl rfl rfl) rfl rfl ?_
                      refine d_neu (n_move rfl rfl) rfl rfl ?_
                      first | refine d_neu (n_indexAddr rfl (.pure _ _ _ _) rfl (by omega) hf0) rfl rfl ?_ | refine d_neu (n_indexAddr rfl (.buf _ _ _ _ _) rfl (by omega) hf0) rfl rfl ?_ | refine d_neu (n_indexAddr_mut rfl rfl rfl (by omega) (by omega)) rfl rfl ?_ | refine d_neu (n_indexAddr_mutT rfl rfl rfl (by omega) (by omega)) rfl rfl ?_
                      first | refine d_neu (n_load_eref rfl rfl) rfl rfl ?_ | refine d_neu (n_load_ref rfl rfl rfl) rfl rfl ?_ | refine d_neu (n_load_mref rfl rfl (List.getElem?_eq_getElem (by omega)) rfl) rfl rfl ?_ | refine d_neu (n_load_mrefT1 rfl rfl rfl) rfl rfl ?_
                      refine d_neu (n_move rfl rfl) rfl rfl ?_
                      first | refine d_neu (n_indexAddr rfl (.pure _ _ _ _) rfl (by omega) hfv) rfl rfl ?_ | refine d_neu (n_indexAddr rfl (.buf _ _ _ _ _) rfl (by omega) hfv) rfl rfl ?_ | refine d_neu (n_indexAddr_mut rfl rfl rfl (by omega) (by omega)) rfl rfl ?_ | refine d_neu (n_indexAddr_mutT rfl rfl rfl (by omega) (by omega)) rfl rfl ?_
                      first | refine d_neu (n_load_eref rfl rfl) rfl rfl ?_ | refine d_neu (n_load_ref rfl rfl rfl) rfl rfl ?_ | refine d_neu (n_load_mref rfl rfl (List.getElem?_eq_getElem (by omega)) rfl) rfl rfl ?_ | refine d_neu (n_load_mrefT1 rfl rfl rfl) rfl rfl ?_
                      refine d_neu (n_build rfl) rfl rfl ?_
                      refine d_neu (n_buildSlice (c := rowC) (ys := [⟨false, ms.getD k 0, f0.getD k []⟩]) (asm_cons rfl rfl rfl rfl asm_nil) rfl rfl rfl) rfl rfl ?_
                      first | refine d_effv (e_append rfl rfl rfl (.pure _ _ _ _) (by (simp only [List.length_cons, List.length_nil]; omega)) rfl) rfl rfl ?_ | refine d_effv (e_append rfl rfl rfl (.buf _ _ _ _ _) (by (simp only [List.length_cons, List.length_nil]; omega)) rfl) rfl rfl ?_
                      first | refine d_neu (n_field_ref rfl) rfl rfl ?_ | refine d_neu (n_field_eref rfl) rfl rfl ?_ | refine d_neu (n_field_mref rfl) rfl rfl ?_
                      first | refine d_eff (e_store_ref TySz.out rfl rfl rfl rfl rfl rfl) rfl ?_ | refine d_eff (e_store_mref1 TySz.out rfl rfl (by simp; omega) rfl rfl) rfl ?_ | refine d_eff (e_store_mrefT1 TySz.out rfl rfl (by simp; omega) rfl rfl) rfl ?_
                      refine d_nil ?_
                      repeat (first | refine then_normal ?_ | refine c_seq ?_ | refine c_block ?_ | refine inB_normal ?_ | refine c_skip ?_ | refine c_exit ?_ | refine then_exit ?_ | refine inB_same rfl ?_ | refine inB_other rfl ?_ | refine c_ret ?_ | refine then_ret ?_ | refine inB_ret ?_)
                      refine c_region ?_
                      refine l_neu (n_move rfl rfl) rfl ?_
                      refine l_neu (n_add rfl rfl (by omega)) rfl ?_
                      refine l_neu (n_assign rfl rfl) rfl ?_
                      refine l_nil ?_
                      repeat (first | refine then_normal ?_ | refine c_seq ?_ | refine c_block ?_ | refine inB_normal ?_ | refine c_skip ?_ | refine c_exit ?_ | refine then_exit ?_ | refine inB_same rfl ?_ | refine inB_other rfl ?_ | refine c_ret ?_ | refine then_ret ?_ | refine inB_ret ?_)
                      refine ⟨k + 1, ⟨by omega, fun q hq => ?_⟩, by omega, ?_⟩
                      · by_cases h2 : q = k
                        · rw [h2, ← he, he0]
                        · exact hz0 q (by omega)
                      rw [hR2]
                      exact Sees.of ⟨⟨_, rfl, by first | exact .same _ | exact .eq (by first | (simp; done) | (simp; omega)) | exact .list _ _ _ _ _ | exact .nil _ _ _ | exact .any _⟩, ⟨_, rfl, by first | exact .same _ | exact .eq (by first | (simp; done) | (simp; omega)) | exact .list _ _ _ _ _ | exact .nil _ _ _ | exact .any _⟩, ⟨_, rfl, by first | exact .same _ | exact .eq (by first | (simp; done) | (simp; omega)) | exact .list _ _ _ _ _ | exact .nil _ _ _ | exact .any _⟩, ⟨_, rfl, by first | exact .same _ | exact .eq (by first | (simp; done) | (simp; omega)) | exact .list _ _ _ _ _ | exact .nil _ _ _ | exact .any _⟩, ⟨_, rfl, by first | exact .same _ | exact .eq (by first | (simp; done) | (simp; omega)) | exact .list _ _ _ _ _ | exact .nil _ _ _ | exact .any _⟩, ⟨_, rfl, by first | exact .same _ | exact .eq (by first | (simp; done) | (simp; omega)) | exact .list _ _ _ _ _ | exact .nil _ _ _ | exact .any _⟩, ⟨_, rfl, by first | exact .same _ | exact .eq (by first | (simp; done) | (simp; omega)) | exact .list _ _ _ _ _ | exact .nil _ _ _ | exact .any _⟩, ⟨_, rfl, by first | exact .same _ | exact .eq (by first | (simp; done) | (simp; omega)) | exact .list _ _ _ _ _ | exact .nil _ _ _ | exact .any _⟩, ⟨_, rfl, by first | exact .same _ | exact .eq (by first | (simp; done) | (simp; omega)) | exact .list _ _ _ _ _ | exact .nil _ _ _ | exact .any _⟩, trivial⟩ ⟨rfl, rfl, rfl, trivial⟩
                    · have hkL : ¬ k < f0.length := by have := of_decide_eq_false ht; omega
                      have hR2 := hR1 k
                      rw [if_neg hkL, ← hl, List.append_nil] at hR2
                      repeat (first | refine then_normal ?_ | refine c_seq ?_ | refine c_block ?_ | refine inB_normal ?_ | refine c_skip ?_ | refine c_exit ?_ | refine then_exit ?_ | refine inB_same rfl ?_ | refine inB_other rfl ?_ | refine c_ret ?_ | refine then_ret ?_ | refine inB_ret ?_)
                      refine c_region ?_
                      refine l_neu (n_move rfl rfl) rfl ?_
                      refine l_neu (n_add rfl rfl (by omega)) rfl ?_
                      refine l_neu (n_assign rfl rfl) rfl ?_
                      refine l_nil ?_
                      repeat (first | refine then_normal ?_ | refine c_seq ?_ | refine c_block ?_ | refine inB_normal ?_ | refine c_skip ?_ | refine c_exit ?_ | refine then_exit ?_ | refine inB_same rfl ?_ | refine inB_other rfl ?_ | refine c_ret ?_ | refine then_ret ?_ | refine inB_ret ?_)
                      refine ⟨k + 1, ⟨by omega, fun q hq => ?_⟩, by omega, ?_⟩
                      · by_cases h2 : q = k
                        · rw [h2, ← he, he0]
                        · exact hz0 q (by omega)
                      rw [hR2]
                      exact Sees.of ⟨⟨_, rfl, by first | exact .same _ | exact .eq (by first | (simp; done) | (simp; omega)) | exact .list _ _ _ _ _ | exact .nil _ _ _ | exact .any _⟩, ⟨_, rfl, by first | exact .same _ | exact .eq (by first | (simp; done) | (simp; omega)) | exact .list _ _ _ _ _ | exact .nil _ _ _ | exact .any _⟩, ⟨_, rfl, by first | exact .same _ | exact .eq (by first | (simp; done) | (simp; omega)) | exact .list _ _ _ _ _ | exact .nil _ _ _ | exact .any _⟩, ⟨_, rfl, by first | exact .same _ | exact .eq (by first | (simp; done) | (simp; omega)) | exact .list _ _ _ _ _ | exact .nil _ _ _ | exact .any _⟩, ⟨_, rfl, by first | exact .same _ | exact .eq (by first | (simp; done) | (simp; omega)) | exact .list _ _ _ _ _ | exact .nil _ _ _ | exact .any _⟩, ⟨_, rfl, by first | exact .same _ | exact .eq (by first | (simp; done) | (simp; omega)) | exact .list _ _ _ _ _ | exact .nil _ _ _ | exact .any _⟩, ⟨_, rfl, by first | exact .same _ | exact .eq (by first | (simp; done) | (simp; omega)) | exact .list _ _ _ _ _ | exact .nil _ _ _ | exact .any _⟩, ⟨_, rfl, by first | exact .same _ | exact .eq (by first | (simp; done) | (simp; omega)) | exact .list _ _ _ _ _ | exact .nil _ _ _ | exact .any _⟩, ⟨_, rfl, by first | exact .same _ | exact .eq (by first | (simp; done) | (simp; omega)) | exact .list _ _ _ _ _ | exact .nil _ _ _ | exact .any _⟩, trivial⟩ ⟨rfl, rfl, rfl, trivial⟩
              · have hkL : k = L + 1 := by have := of_decide_eq_false ht; omega
                repeat (first | refine then_normal ?_ | refine c_seq ?_ | refine c_block ?_ | refine inB_normal ?_ | refine c_skip ?_ | refine c_exit ?_ | refine then_exit ?_ | refine inB_same rfl ?_ | refine inB_other rfl ?_ | refine c_ret ?_ | refine then_ret ?_ | refine inB_ret ?_)
                refine c_region ?_
                first | refine l_neu (n_loads_ref rfl rfl rfl) rfl ?_ | refine l_neu (n_loads_eref rfl rfl) rfl ?_ | refine l_neu (n_loads_mref rfl rfl (List.getElem?_eq_getElem (by omega)) rfl) rfl ?_
                first | refine l_eff (e_store_ref TySz.out rfl rfl rfl rfl rfl rfl) ?_ | refine l_eff (e_store_mref1 TySz.out rfl rfl (by simp; omega) rfl rfl) ?_ | refine l_eff (e_store_mrefT1 TySz.out rfl rfl (by simp; omega) rfl rfl) ?_
                refine l_neu (n_assign rfl rfl) rfl ?_
                refine l_nil ?_
                repeat (first | refine then_normal ?_ | refine c_seq ?_ | refine c_block ?_ | refine inB_normal ?_ | refine c_skip ?_ | refine c_exit ?_ | refine then_exit ?_ | refine inB_same rfl ?_ | refine inB_other rfl ?_ | refine c_ret ?_ | refine then_ret ?_ | refine inB_ret ?_)
                refine ret_ret (rs := [pTable ⟨n, R k⟩, pInt 0]) (retc2 rfl rfl rfl rfl rfl rfl rfl) ?_
                have hno : ¬ ∃ q, q < f0.length + 1 ∧ (coalesceOf ((loomAt (fs.map (idsOf (namesOf fs))) f0.length n n).2 q)).2 ≠ 0 := by
                  rintro ⟨q, hq1, hq2⟩
                  refine hq2 ?_
                  have := hz0 q (by omega)
                  rw [hg, hs, hids, hnames, hL] at this
                  exact this
                rw [hmk, if_neg hno, hkL, hR, hs, hids, hnames, hL]
end Go.Proofs.Ytljfkoaafocglaa
