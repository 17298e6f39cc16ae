/- Walks of the program's functions. -/
import Derived.Test.YtgejaedjnbjpoaaDoorFb
import Derived.Test.YtgejaedjnbjpoaaDoorFa
namespace Go.Proofs.YtgejaedjnbjpoaaDoor
open Go Go.AL
set_option maxRecDepth 100000
theorem pParse19_ok (s : Str) (hs : s.length ≤ 600000) : FnOk Tryd.prog 11 [pStr s] (fun rs => rs = combR parseC s) := by
  have h16 : ¬ 16777216 < s.length := by omega
  have hL := stLines_ok s (by omega)
  have hfail : ∀ {x : Comb × Int}, combBy parseC s = x → x = (comb0, 4) → [pComb comb0, pInt 4] = combR parseC s := by
    intro x h1 h2
    unfold combR; rw [h1, h2]
  refine FnOk.intro Tryd.func11 (by decide) rfl rfl rfl rfl ?_
  refine k2 ?_
  refine c_region ?_; refine l_effv (f_alloc 2 rfl) rfl ?_; refine l_neu (n_assign rfl rfl) rfl ?_; refine l_nil ?_
  refine k1 ?_; refine k2 ?_; refine k2 ?_
  refine c_region ?_; refine l_neu (n_move rfl rfl) rfl ?_; refine l_neu (n_len_s rfl) rfl ?_; refine l_neu (n_gtr rfl rfl) rfl ?_; refine l_nil ?_
  refine k1 ?_
  refine c_cond rfl (fun ht => ?_) (fun ht => ?_)
  · exact absurd (of_decide_eq_true ht) (by omega)
  cases hl : linesS s with
  | none =>
    unfold linesR at hL
    rw [hl] at hL
    refine k5 ?_; refine k1 ?_; refine k2 ?_
    refine c_region ?_; refine l_neu (n_move rfl rfl) rfl ?_; refine l_call (hL) rfl rfl rfl ?_; rintro _ rfl; refine l_neu (n_move rfl rfl) rfl ?_; refine l_neu (n_extract rfl rfl) rfl ?_; refine l_neu (n_extract rfl rfl) rfl ?_; refine l_neu (n_assign rfl rfl) rfl ?_; refine l_neu (n_assign rfl rfl) rfl ?_; refine l_nil ?_
    refine k1 ?_; refine k2 ?_; refine k2 ?_
    refine c_region ?_; refine l_neu (n_move rfl rfl) rfl ?_; refine l_neu (n_not rfl) rfl ?_; refine l_nil ?_
    refine k1 ?_
    refine c_cond rfl (fun ht => ?_) (fun ht => ?_)
    · refine k2 ?_
      refine c_region ?_; refine l_neu (n_build rfl) rfl ?_; refine l_eff (e_store_ref TySz.out rfl rfl rfl rfl rfl rfl) ?_; refine l_neu (n_assign rfl rfl) rfl ?_; refine l_nil ?_
      refine k1 ?_
      refine c_sees (Sees.listB CHunk 2 chunkC 2 3 rfl rfl) ?_
      refine k10 ?_; refine k11 ?_
      exact ret_ret (rs := [pComb comb0, pInt 4]) (retc2 rfl rfl rfl rfl rfl rfl rfl) (hfail rfl (by unfold combBy; rw [if_neg h16, hl]))
    · cases ht
  | some l =>
    unfold linesR at hL
    rw [hl] at hL
    obtain ⟨z1, z2⟩ := linesS_sz hl
    have zw := linesS_w hl
    have hP := pparse_ok l (by omega) (fun t ht => by have := z2 t ht; omega)
    cases hp : parseC l with
    | none =>
      unfold parseResC at hP
      rw [hp] at hP
      refine k5 ?_; refine k1 ?_; refine k2 ?_
      refine c_region ?_; refine l_neu (n_move rfl rfl) rfl ?_; refine l_call (hL) rfl rfl rfl ?_; rintro _ rfl; refine l_neu (n_move rfl rfl) rfl ?_; refine l_neu (n_extract rfl rfl) rfl ?_; refine l_neu (n_extract rfl rfl) rfl ?_; refine l_neu (n_assign rfl rfl) rfl ?_; refine l_neu (n_assign rfl rfl) rfl ?_; refine l_nil ?_
      refine k1 ?_; refine k2 ?_; refine k2 ?_
      refine c_region ?_; refine l_neu (n_move rfl rfl) rfl ?_; refine l_neu (n_not rfl) rfl ?_; refine l_nil ?_
      refine k1 ?_
      refine c_cond rfl (fun ht => ?_) (fun ht => ?_)
      · cases ht
      refine k5 ?_; refine k1 ?_; refine k2 ?_
      refine c_region ?_; refine l_neu (n_move rfl rfl) rfl ?_; refine l_call (hP) rfl rfl rfl ?_; rintro _ rfl; refine l_neu (n_move rfl rfl) rfl ?_; refine l_neu (n_extract rfl rfl) rfl ?_; refine l_neu (n_extract rfl rfl) rfl ?_; refine l_effv (f_alloc 6 rfl) rfl ?_; refine l_eff (e_store_ref TySz.out rfl rfl rfl rfl rfl rfl) ?_; refine l_neu (n_assign rfl rfl) rfl ?_; refine l_nil ?_
      refine k1 ?_; refine k2 ?_; refine k2 ?_
      refine c_region ?_; refine l_neu (n_move rfl rfl) rfl ?_; refine l_neu (n_not rfl) rfl ?_; refine l_nil ?_
      refine k1 ?_
      refine c_cond rfl (fun ht => ?_) (fun ht => ?_)
      · refine k2 ?_
        refine c_region ?_; refine l_neu (n_build rfl) rfl ?_; refine l_eff (e_store_ref TySz.out rfl rfl rfl rfl rfl rfl) ?_; refine l_neu (n_assign rfl rfl) rfl ?_; refine l_nil ?_
        refine k1 ?_
        refine c_sees (Sees.listB CHunk 2 chunkC 2 3 rfl rfl) ?_
        refine k10 ?_; refine k11 ?_
        exact ret_ret (rs := [pComb comb0, pInt 4]) (retc2 rfl rfl rfl rfl rfl rfl rfl) (hfail rfl (by unfold combBy; rw [if_neg h16, hl]; dsimp only; rw [hp]))
      · cases ht
    | some p =>
      unfold parseResC at hP
      rw [hp] at hP
      obtain ⟨_, hsz, hci⟩ := parseC_sz hp
      have hz : szC p.Hunks ≤ 268435456 := by omega
      have hr : ∀ h ∈ p.Hunks, rowsIn h.Rows := fun h hm => (hci h hm).2
      have hF := cformat_ok p hz hr
      have hS : combBy parseC s = if check18 p ≠ 0 ∨ writeC p ≠ s then (comb0, 4) else (p, 0) := by unfold combBy; rw [if_neg h16, hl]; dsimp only; rw [hp]
      by_cases hc : check18 p = 0
      · rw [if_pos hc] at hF
        refine k5 ?_; refine k1 ?_; refine k2 ?_
        refine c_region ?_; refine l_neu (n_move rfl rfl) rfl ?_; refine l_call (hL) rfl rfl rfl ?_; rintro _ rfl; refine l_neu (n_move rfl rfl) rfl ?_; refine l_neu (n_extract rfl rfl) rfl ?_; refine l_neu (n_extract rfl rfl) rfl ?_; refine l_neu (n_assign rfl rfl) rfl ?_; refine l_neu (n_assign rfl rfl) rfl ?_; refine l_nil ?_
        refine k1 ?_; refine k2 ?_; refine k2 ?_
        refine c_region ?_; refine l_neu (n_move rfl rfl) rfl ?_; refine l_neu (n_not rfl) rfl ?_; refine l_nil ?_
        refine k1 ?_
        refine c_cond rfl (fun ht => ?_) (fun ht => ?_)
        · cases ht
        refine k5 ?_; refine k1 ?_; refine k2 ?_
        refine c_region ?_; refine l_neu (n_move rfl rfl) rfl ?_; refine l_call (hP) rfl rfl rfl ?_; rintro _ rfl; refine l_neu (n_move rfl rfl) rfl ?_; refine l_neu (n_extract rfl rfl) rfl ?_; refine l_neu (n_extract rfl rfl) rfl ?_; refine l_effv (f_alloc 6 rfl) rfl ?_; refine l_eff (e_store_ref TySz.out rfl rfl rfl rfl rfl rfl) ?_; refine l_neu (n_assign rfl rfl) rfl ?_; refine l_nil ?_
        refine k1 ?_; refine k2 ?_; refine k2 ?_
        refine c_region ?_; refine l_neu (n_move rfl rfl) rfl ?_; refine l_neu (n_not rfl) rfl ?_; refine l_nil ?_
        refine k1 ?_
        refine c_cond rfl (fun ht => ?_) (fun ht => ?_)
        · cases ht
        refine k5 ?_; refine k1 ?_; refine k2 ?_; refine k2 ?_
        refine c_region ?_; refine l_neu (n_loads_ref rfl rfl rfl) rfl ?_; refine l_call (hF) rfl rfl rfl ?_; rintro _ rfl; refine l_neu (n_move rfl rfl) rfl ?_; refine l_neu (n_extract rfl rfl) rfl ?_; refine l_neu (n_extract rfl rfl) rfl ?_; refine l_neu (n_assign rfl rfl) rfl ?_; refine l_neu (n_assign rfl rfl) rfl ?_; refine l_nil ?_
        refine k1 ?_; refine k2 ?_
        refine c_region ?_; refine l_neu (n_move rfl rfl) rfl ?_; refine l_neu (n_neq rfl rfl) rfl ?_; refine l_neu (n_move rfl rfl) rfl ?_; refine l_guard rfl rfl rfl rfl (fun hg => by rw [hg]; exact n_move rfl rfl) ?_; refine l_guard rfl rfl rfl rfl (fun hg => by rw [hg]; exact n_move rfl rfl) ?_; refine l_guard rfl rfl rfl rfl (fun hg => by rw [hg]; exact n_neq_s rfl rfl) ?_; refine l_neu (n_pick_bool rfl (fun h => by first | rfl | (rw [h]; rfl)) (fun h => by first | rfl | (rw [h]; rfl))) rfl ?_; refine l_nil ?_
        simp only [or_pick]
        refine k1 ?_
        by_cases hb : writeC p = s
        · rw [if_neg (by simp [hc, hb])] at hS
          refine c_cond rfl (fun ht => ?_) (fun ht => ?_)
          · exfalso
            rcases of_decide_eq_true ht with h | h
            · exact h rfl
            · exact h hb
          refine k5 ?_; refine k1 ?_; refine k2 ?_
          refine c_region ?_; refine l_neu (n_loads_ref rfl rfl rfl) rfl ?_; refine l_eff (e_store_ref TySz.out rfl rfl rfl rfl rfl rfl) ?_; refine l_neu (n_assign rfl rfl) rfl ?_; refine l_nil ?_
          refine k1 ?_; refine k10 ?_
          exact ret_ret (rs := [pComb p, pInt 0]) (retc2 rfl rfl rfl rfl rfl rfl rfl) (by unfold combR; rw [hS])
        · rw [if_pos (.inr hb)] at hS
          refine c_cond rfl (fun ht => ?_) (fun ht => ?_)
          rotate_left
          · exact absurd (.inr hb) (of_decide_eq_false ht)
          refine k2 ?_
          refine c_region ?_; refine l_neu (n_build rfl) rfl ?_; refine l_eff (e_store_ref TySz.out rfl rfl rfl rfl rfl rfl) ?_; refine l_neu (n_assign rfl rfl) rfl ?_; refine l_nil ?_
          refine k1 ?_
          refine c_sees (Sees.listB CHunk 2 chunkC 2 3 rfl rfl) ?_
          refine k10 ?_; refine k11 ?_
          exact ret_ret (rs := [pComb comb0, pInt 4]) (retc2 rfl rfl rfl rfl rfl rfl rfl) (hfail hS rfl)
      · rw [if_neg hc] at hF
        rw [if_pos (.inl hc)] at hS
        refine k5 ?_; refine k1 ?_; refine k2 ?_
        refine c_region ?_; refine l_neu (n_move rfl rfl) rfl ?_; refine l_call (hL) rfl rfl rfl ?_; rintro _ rfl; refine l_neu (n_move rfl rfl) rfl ?_; refine l_neu (n_extract rfl rfl) rfl ?_; refine l_neu (n_extract rfl rfl) rfl ?_; refine l_neu (n_assign rfl rfl) rfl ?_; refine l_neu (n_assign rfl rfl) rfl ?_; refine l_nil ?_
        refine k1 ?_; refine k2 ?_; refine k2 ?_
        refine c_region ?_; refine l_neu (n_move rfl rfl) rfl ?_; refine l_neu (n_not rfl) rfl ?_; refine l_nil ?_
        refine k1 ?_
        refine c_cond rfl (fun ht => ?_) (fun ht => ?_)
        · cases ht
        refine k5 ?_; refine k1 ?_; refine k2 ?_
        refine c_region ?_; refine l_neu (n_move rfl rfl) rfl ?_; refine l_call (hP) rfl rfl rfl ?_; rintro _ rfl; refine l_neu (n_move rfl rfl) rfl ?_; refine l_neu (n_extract rfl rfl) rfl ?_; refine l_neu (n_extract rfl rfl) rfl ?_; refine l_effv (f_alloc 6 rfl) rfl ?_; refine l_eff (e_store_ref TySz.out rfl rfl rfl rfl rfl rfl) ?_; refine l_neu (n_assign rfl rfl) rfl ?_; refine l_nil ?_
        refine k1 ?_; refine k2 ?_; refine k2 ?_
        refine c_region ?_; refine l_neu (n_move rfl rfl) rfl ?_; refine l_neu (n_not rfl) rfl ?_; refine l_nil ?_
        refine k1 ?_
        refine c_cond rfl (fun ht => ?_) (fun ht => ?_)
        · cases ht
        refine k5 ?_; refine k1 ?_; refine k2 ?_; refine k2 ?_
        refine c_region ?_; refine l_neu (n_loads_ref rfl rfl rfl) rfl ?_; refine l_call (hF) rfl rfl rfl ?_; rintro _ rfl; refine l_neu (n_move rfl rfl) rfl ?_; refine l_neu (n_extract rfl rfl) rfl ?_; refine l_neu (n_extract rfl rfl) rfl ?_; refine l_neu (n_assign rfl rfl) rfl ?_; refine l_neu (n_assign rfl rfl) rfl ?_; refine l_nil ?_
        refine k1 ?_; refine k2 ?_
        refine c_region ?_; refine l_neu (n_move rfl rfl) rfl ?_; refine l_neu (n_neq rfl rfl) rfl ?_; refine l_neu (n_move rfl rfl) rfl ?_; refine l_guard rfl rfl rfl rfl (fun hg => by rw [hg]; exact n_move rfl rfl) ?_; refine l_guard rfl rfl rfl rfl (fun hg => by rw [hg]; exact n_move rfl rfl) ?_; refine l_guard rfl rfl rfl rfl (fun hg => by rw [hg]; exact n_neq_s rfl rfl) ?_; refine l_neu (n_pick_bool rfl (fun h => by first | rfl | (rw [h]; rfl)) (fun h => by first | rfl | (rw [h]; rfl))) rfl ?_; refine l_nil ?_
        simp only [or_pick]
        refine k1 ?_
        refine c_cond rfl (fun ht => ?_) (fun ht => ?_)
        rotate_left
        · exact absurd (.inl hc) (of_decide_eq_false ht)
        refine k2 ?_
        refine c_region ?_; refine l_neu (n_build rfl) rfl ?_; refine l_eff (e_store_ref TySz.out rfl rfl rfl rfl rfl rfl) ?_; refine l_neu (n_assign rfl rfl) rfl ?_; refine l_nil ?_
        refine k1 ?_
        refine c_sees (Sees.listB CHunk 2 chunkC 2 3 rfl rfl) ?_
        refine k10 ?_; refine k11 ?_
        exact ret_ret (rs := [pComb comb0, pInt 4]) (retc2 rfl rfl rfl rfl rfl rfl rfl) (hfail hS rfl)
theorem cparse_written {c : Comb} (hc : check18 c = 0) (hw : (writeC c).length ≤ 600000) : FnOk Tryd.prog 11 [pStr (writeC c)] (fun rs => rs = [pComb c, pInt 0]) := by
  have h := pParse19_ok (writeC c) hw
  unfold combR at h
  rw [combBy_of (fun p hg => parseC_back hg) hc] at h
  exact h
theorem awake19_ok : FnOk Tryd.prog 5 [] (fun rs => rs = [pBool true]) := by
  have hf : fmtOf 3 = [51] := by rw [fmt_dec (by decide) (by decide), Lib.decDigits, dif_pos (by decide)]; rfl
  have e1 : writeC ⟨[120], true, 3, []⟩ = [100, 105, 102, 102, 32, 45, 45, 99, 99, 32, 120, 10, 112, 97, 114, 101, 110, 116, 115, 32, 51, 10] := by
    show (((kindS true ++ quoteOf [120] ++ [10]) :: (parS ++ fmtOf 3 ++ [10]) :: ([] : List Str))).flatten = _
    rw [hf]; decide
  have e2 : check18 ⟨[120], true, 3, []⟩ = 0 := by
    unfold check18
    rw [e1]; decide
  have hp := cparse_written (c := ⟨[120], true, 3, []⟩) e2 (by rw [e1]; decide)
  rw [e1] at hp
  have hr1 := pRow_ok [45, 32, 98, 10] 2
  have hr2 := pRow_ok [43, 45, 120] 2
  rw [rowR_some (show rowI [45, 32, 98, 10] 2 = some ⟨true, 1, [98, 10]⟩ by decide)] at hr1
  rw [rowR_none (show rowI [43, 45, 120] 2 = none by decide)] at hr2
  refine FnOk.intro Tryd.func5 (by decide) rfl rfl rfl rfl ?_
  refine k2 ?_
  refine c_region ?_; refine l_neu (n_assign rfl rfl) rfl ?_; refine l_nil ?_
  refine k1 ?_; refine k2 ?_
  refine c_region ?_; refine l_call (hr1) rfl rfl rfl ?_; rintro _ rfl; refine l_neu (n_move rfl rfl) rfl ?_; refine l_neu (n_extract rfl rfl) rfl ?_; refine l_neu (n_extract rfl rfl) rfl ?_; refine l_effv (f_alloc 1 rfl) rfl ?_; refine l_eff (e_store_ref TySz.out rfl rfl rfl rfl rfl rfl) ?_; refine l_neu (n_assign rfl rfl) rfl ?_; refine l_nil ?_
  refine k1 ?_; refine k2 ?_
  refine c_region ?_; refine l_call (hr2) rfl rfl rfl ?_; rintro _ rfl; refine l_neu (n_move rfl rfl) rfl ?_; refine l_neu (n_extract rfl rfl) rfl ?_; refine l_neu (n_extract rfl rfl) rfl ?_; refine l_effv (f_alloc 3 rfl) rfl ?_; refine l_eff (e_store_ref TySz.out rfl rfl rfl rfl rfl rfl) ?_; refine l_neu (n_assign rfl rfl) rfl ?_; refine l_nil ?_
  refine k1 ?_; refine k2 ?_
  refine c_region ?_; refine l_call (hp) rfl rfl rfl ?_; rintro _ rfl; refine l_neu (n_move rfl rfl) rfl ?_; refine l_neu (n_extract rfl rfl) rfl ?_; refine l_neu (n_extract rfl rfl) rfl ?_; refine l_effv (f_alloc 5 rfl) rfl ?_; refine l_eff (e_store_ref TySz.out rfl rfl rfl rfl rfl rfl) ?_; refine l_neu (n_assign rfl rfl) rfl ?_; refine l_nil ?_
  refine k1 ?_; refine k2 ?_
  refine c_region ?_; refine l_neu (n_move rfl rfl) rfl ?_; refine l_neu (n_move rfl rfl) rfl ?_; refine l_guard rfl rfl rfl rfl (fun hg => by rw [hg]; exact n_move rfl rfl) ?_; refine l_guard rfl rfl rfl rfl (fun hg => by rw [hg]; exact n_not rfl) ?_; refine l_neu (n_pick_bool rfl (fun h => by first | rfl | (rw [h]; rfl)) (fun h => by first | rfl | (rw [h]; rfl))) rfl ?_; refine l_neu (n_move rfl rfl) rfl ?_; refine l_guard rfl rfl rfl rfl (fun hg => by rw [hg]; exact n_loads_ref rfl rfl rfl) ?_; refine l_guard rfl rfl rfl rfl (fun hg => by rw [hg]; exact n_build rfl) ?_; refine l_guard rfl rfl rfl rfl (fun hg => by rw [hg]; exact n_eql_st (rowV ⟨true, 1, [98, 10]⟩) (rowV ⟨true, 1, [98, 10]⟩) rfl rfl rfl rfl ((row_eq _ _).trans (decide_eq_true rfl))) ?_; refine l_neu (n_pick_bool rfl (fun h => by first | rfl | (rw [h]; rfl)) (fun h => by first | rfl | (rw [h]; rfl))) rfl ?_; refine l_neu (n_move rfl rfl) rfl ?_; refine l_guard rfl rfl rfl rfl (fun hg => by rw [hg]; exact n_move rfl rfl) ?_; refine l_guard rfl rfl rfl rfl (fun hg => by rw [hg]; exact n_eql rfl rfl) ?_; refine l_neu (n_pick_bool rfl (fun h => by first | rfl | (rw [h]; rfl)) (fun h => by first | rfl | (rw [h]; rfl))) rfl ?_; refine l_neu (n_move rfl rfl) rfl ?_; refine l_guard rfl rfl rfl rfl (fun hg => by rw [hg]; exact n_field_ref rfl) ?_; refine l_guard rfl rfl rfl rfl (fun hg => by rw [hg]; exact n_load_ref rfl rfl rfl) ?_; refine l_guard rfl rfl rfl rfl (fun hg => by rw [hg]; exact n_eql rfl rfl) ?_; refine l_neu (n_pick_bool rfl (fun h => by first | rfl | (rw [h]; rfl)) (fun h => by first | rfl | (rw [h]; rfl))) rfl ?_; refine l_neu (n_move rfl rfl) rfl ?_; refine l_guard rfl rfl rfl rfl (fun hg => by rw [hg]; exact n_field_ref rfl) ?_; refine l_guard rfl rfl rfl rfl (fun hg => by rw [hg]; exact n_load_ref rfl rfl rfl) ?_; refine l_neu (n_pick_bool rfl (fun h => by first | rfl | (rw [h]; rfl)) (fun h => by first | rfl | (rw [h]; rfl))) rfl ?_; refine l_neu (n_move rfl rfl) rfl ?_; refine l_guard rfl rfl rfl rfl (fun hg => by rw [hg]; exact n_field_ref rfl) ?_; refine l_guard rfl rfl rfl rfl (fun hg => by rw [hg]; exact n_load_ref rfl rfl rfl) ?_; refine l_guard rfl rfl rfl rfl (fun hg => by rw [hg]; exact n_eql_s rfl rfl) ?_; refine l_neu (n_pick_bool rfl (fun h => by first | rfl | (rw [h]; rfl)) (fun h => by first | rfl | (rw [h]; rfl))) rfl ?_; refine l_neu (n_assign rfl rfl) rfl ?_; refine l_nil ?_
  refine k1 ?_; refine k10 ?_
  exact ret_ret (rs := [pBool true]) (ret1 rfl rfl rfl) rfl
end Go.Proofs.YtgejaedjnbjpoaaDoor
namespace Go.Proofs.YtgejaedjnbjpoaaDoor
open Go Go.AL
set_option maxRecDepth 100000
abbrev u32PV (m : Int) : PV := .one (.v (.int .u32 m))
theorem u32_wf {n : Int} (h : (Lit.int .u32 n).wf = true) : 0 ≤ n ∧ n < 4294967296 := by
  have h2 : (decide (IntKind.u32.min ≤ n) && decide (n ≤ IntKind.u32.max)) = true := h
  simp only [Bool.and_eq_true, decide_eq_true_eq] at h2
  rw [show IntKind.u32.min = 0 from rfl, show IntKind.u32.max = 4294967295 from rfl] at h2
  omega
theorem row_self2 (r : Row) : eqVs (rowV r) (rowV r) = true := (row_eq r r).trans (decide_eq_true rfl)
theorem shl64_nat (p : Nat) (h : p ≤ 32) : IntKind.u64.wrap (1 * 2 ^ (min (IntKind.u64.wrap (p : Int)).toNat IntKind.u64.bits)) = ((2 ^ p : Nat) : Int) := by
  have h2 : 2 ^ p ≤ 2 ^ 32 := Nat.pow_le_pow_right (by decide) h
  have e : (2 : Int) ^ p = ((2 ^ p : Nat) : Int) := by simp
  rw [u64_id (n := (p : Int)) (by omega), show min ((p : Int)).toNat IntKind.u64.bits = p by rw [Int.toNat_natCast]; exact Nat.min_eq_left (by show p ≤ 64; omega), Int.one_mul, e]
  obtain ⟨q, hq⟩ : ∃ q : Nat, q = 2 ^ p := ⟨_, rfl⟩
  rw [← hq]
  exact u64_id (by omega)
set_option maxHeartbeats 1000000
theorem lawRRows_ok (n m : Int) (lost : Bool) (text : Str) (hm : 0 ≤ m ∧ m < 4294967296) :
    FnOk Tryd.prog 3 [pInt n, .one (.v (.int .u32 m)), pBool lost, pStr text] (fun rs => rs = [pBool true]) := by
  by_cases hl : 60 < text.length
  · refine FnOk.intro Tryd.func3 (by decide) rfl rfl rfl rfl ?_
    refine k2 ?_
    refine c_region ?_; refine l_neu (n_assign rfl rfl) rfl ?_; refine l_nil ?_
    refine k1 ?_; refine k2 ?_; refine k2 ?_
    refine c_region ?_; refine l_neu (n_move rfl rfl) rfl ?_; refine l_neu (n_len_s rfl) rfl ?_; refine l_neu (n_gtr rfl rfl) rfl ?_; refine l_nil ?_
    refine k1 ?_
    refine c_cond rfl (fun ht => ?_) (fun ht => ?_)
    · refine k2 ?_
      refine c_region ?_; refine l_call (awake19_ok) rfl rfl rfl ?_; rintro _ rfl; refine l_neu (n_assign rfl rfl) rfl ?_; refine l_nil ?_
      refine k1 ?_; refine k10 ?_; refine k11 ?_
      exact ret_ret (rs := [pBool true]) (ret1 rfl rfl rfl) rfl
    · exact absurd (of_decide_eq_false ht) (by omega)
  obtain ⟨h1, h2⟩ := modOf_in n (n := 32) (by omega)
  obtain ⟨N, hN⟩ : ∃ N : Nat, 1 + modOf n 32 = N := ⟨(1 + modOf n 32).toNat, by omega⟩
  have hN2 : 1 ≤ N ∧ N ≤ 32 := by omega
  obtain ⟨M, hM⟩ : ∃ M : Nat, M = m.toNat % 2 ^ N := ⟨_, rfl⟩
  have hMlt : M < 2 ^ N := by rw [hM]; exact Nat.mod_lt _ (Nat.pow_pos (by decide))
  have hp32 : 2 ^ N ≤ 2 ^ 32 := Nat.pow_le_pow_right (by decide) hN2.2
  have hpos : 0 < 2 ^ N := Nat.pow_pos (by decide)
  have hsh := shl64_nat N hN2.2
  have hu := u64_id (n := (N : Int)) (by omega)
  have hum := u64_id (n := m) (by omega)
  have hrem : IntKind.u32.wrap (m.tmod ((2 ^ N : Nat) : Int)) = (M : Int) := by
    have e1 : m.tmod ((2 ^ N : Nat) : Int) = ((m.toNat % 2 ^ N : Nat) : Int) := by
      conv => lhs; rw [show m = (m.toNat : Int) by omega]
      rfl
    rw [e1, ← hM, u32_nat _ (by omega)]
  obtain ⟨r, hr⟩ : ∃ r : Row, r = ⟨if lost = true then decide ((M : Int) ≠ 0) else false, M, text⟩ := ⟨_, rfl⟩
  have hmk : markOk N r = true := by
    rw [hr]
    unfold markOk
    have hd : (M : Int) / 2 ^ N = 0 := by
      have e : (2 : Int) ^ N = ((2 ^ N : Nat) : Int) := by simp
      rw [e]
      exact Int.ediv_eq_zero_of_lt (by omega) (by omega)
    dsimp only
    rw [hd]
    cases lost <;> by_cases hM0 : M = 0 <;> simp [hM0]
  have hrm : 0 ≤ r.Marks ∧ r.Marks < 4294967296 := by rw [hr]; dsimp only; omega
  have hmkd := rmarked18_ok r N hN2.2 hrm
  have hml := marks_len N r
  have hrow := pRow_ok (marksS N r ++ text) N
  rw [rowR_some (r := r) (by
    unfold rowI
    rw [if_neg (by omega), Int.toNat_natCast, row_back hN2 hmk, hr])] at hrow
  refine FnOk.intro Tryd.func3 (by decide) rfl rfl rfl rfl ?_
  refine k2 ?_
  refine c_region ?_; refine l_neu (n_assign rfl rfl) rfl ?_; refine l_nil ?_
  refine k1 ?_; refine k2 ?_; refine k2 ?_
  refine c_region ?_; refine l_neu (n_move rfl rfl) rfl ?_; refine l_neu (n_len_s rfl) rfl ?_; refine l_neu (n_gtr rfl rfl) rfl ?_; refine l_nil ?_
  refine k1 ?_
  refine c_cond rfl (fun ht => ?_) (fun ht => ?_)
  · exact absurd (of_decide_eq_true ht) (by omega)
  refine k5 ?_; refine k1 ?_; refine k2 ?_
  refine c_region ?_; refine l_neu (n_move rfl rfl) rfl ?_; refine l_call (mod_ok n 32 (by omega) (by omega)) rfl rfl rfl ?_; rintro _ rfl; refine l_neu (n_add rfl rfl (by omega)) rfl ?_; refine l_neu (n_assign rfl rfl) rfl ?_; refine l_nil ?_
  rw [hN]
  refine k1 ?_; refine k2 ?_
  refine c_region ?_; refine l_neu (n_move rfl rfl) rfl ?_; refine l_neu (n_move rfl rfl) rfl ?_; refine l_neu (n_convert rfl) rfl ?_; refine l_neu (n_move rfl rfl) rfl ?_; refine l_neu (n_convert rfl) rfl ?_; refine l_neu (n_shl rfl rfl (by (rw [hu]; omega))) rfl ?_; refine l_neu (n_rem rfl rfl (by (rw [hsh]; omega))) rfl ?_; refine l_neu (n_convert rfl) rfl ?_; refine l_neu (n_move rfl rfl) rfl ?_; refine l_neu (n_build rfl) rfl ?_; refine l_effv (f_alloc 9 rfl) rfl ?_; refine l_eff (e_store_ref TySz.out rfl rfl rfl rfl rfl rfl) ?_; refine l_nil ?_
  rw [hsh, hum, hrem]
  refine k1 ?_; refine k2 ?_
  refine c_region ?_; refine l_neu (n_field_ref rfl) rfl ?_; refine l_neu (n_load_ref rfl rfl rfl) rfl ?_; refine l_neu (n_move rfl rfl) rfl ?_; refine l_guard rfl rfl rfl rfl (fun hg => by rw [hg]; exact n_field_ref rfl) ?_; refine l_guard rfl rfl rfl rfl (fun hg => by rw [hg]; exact n_load_ref rfl rfl rfl) ?_; refine l_guard rfl rfl rfl rfl (fun hg => by rw [hg]; exact n_neq rfl rfl) ?_; refine l_neu (n_pick_bool rfl (fun h => by first | rfl | (rw [h]; rfl)) (fun h => by first | rfl | (rw [h]; rfl))) rfl ?_; refine l_neu (n_field_ref rfl) rfl ?_; refine l_eff (e_store_ref TySz.out rfl rfl rfl rfl rfl rfl) ?_; refine l_nil ?_
  refine c_sees (fr' := [(0, sInt N), (3, sStr text), (9, .s (.one (.ref 9 0)))]) (ob' := [(9, .box (pRow r).s1.cells)]) (by rw [hr]; exact Sees.of ⟨le1 rfl, le1 rfl, le1 rfl, trivial⟩ ⟨rfl, trivial⟩) ?_
  refine k2 ?_
  refine c_region ?_; refine l_neu (n_loads_ref rfl rfl rfl) rfl ?_; refine l_neu (n_move rfl rfl) rfl ?_; refine l_call (hmkd) rfl rfl rfl ?_; rintro _ rfl; refine l_neu (n_move rfl rfl) rfl ?_; refine l_neu (n_add_s rfl rfl (by (first | omega | (simp; omega)))) rfl ?_; refine l_neu (n_move rfl rfl) rfl ?_; refine l_call (hrow) rfl rfl rfl ?_; rintro _ rfl; refine l_neu (n_move rfl rfl) rfl ?_; refine l_neu (n_extract rfl rfl) rfl ?_; refine l_neu (n_extract rfl rfl) rfl ?_; refine l_effv (f_alloc 10 rfl) rfl ?_; refine l_eff (e_store_ref TySz.out rfl rfl rfl rfl rfl rfl) ?_; refine l_neu (n_assign rfl rfl) rfl ?_; refine l_nil ?_
  refine k1 ?_; refine k2 ?_
  refine c_region ?_; refine l_neu (n_move rfl rfl) rfl ?_; refine l_neu (n_move rfl rfl) rfl ?_; refine l_guard rfl rfl rfl rfl (fun hg => by rw [hg]; exact n_loads_ref rfl rfl rfl) ?_; refine l_guard rfl rfl rfl rfl (fun hg => by rw [hg]; exact n_loads_ref rfl rfl rfl) ?_; refine l_guard rfl rfl rfl rfl (fun hg => by rw [hg]; exact n_eql_st (rowV r) (rowV r) rfl rfl rfl rfl (row_self2 r)) ?_; refine l_neu (n_pick_bool rfl (fun h => by first | rfl | (rw [h]; rfl)) (fun h => by first | rfl | (rw [h]; rfl))) rfl ?_; refine l_neu (n_move rfl rfl) rfl ?_; refine l_guard rfl rfl rfl rfl (fun hg => by have hq := hg; (try simp at hq); rw [hg]; exact n_call1 (awake19_ok) rfl rfl) ?_; refine l_neu (n_pick_bool rfl (fun h => by first | rfl | (rw [h]; rfl)) (fun h => by first | rfl | (rw [h]; rfl))) rfl ?_; refine l_neu (n_assign rfl rfl) rfl ?_; refine l_nil ?_
  refine k1 ?_; refine k10 ?_
  exact ret_ret (rs := [pBool true]) (ret1 rfl rfl rfl) rfl
def headTx : Str := [100, 105, 102, 102, 32, 45, 45, 99, 111, 109, 98, 105, 110, 101, 100, 32, 97, 10, 112, 97, 114, 101, 110, 116, 115, 32, 50, 10]
def goodC (x : Str) : Str := headTx ++ [64, 64, 64, 32, 45, 49, 32, 45, 49, 32, 43, 49, 32, 64, 64, 64, 10, 32, 32] ++ x ++ [10]
def badC (x : Str) : List Str := [
  headTx ++ [64, 64, 32, 45, 49, 32, 45, 49, 32, 43, 49, 32, 64, 64, 10, 32, 32] ++ x ++ [10],
  headTx ++ [64, 64, 64, 32, 45, 49, 44, 49, 32, 45, 49, 32, 43, 49, 32, 64, 64, 64, 10, 32, 32] ++ x ++ [10],
  headTx ++ [64, 64, 64, 32, 45, 49, 32, 45, 48, 44, 48, 32, 43, 49, 32, 64, 64, 64, 10, 45, 43] ++ x ++ [10],
  [100, 105, 102, 102, 32, 45, 45, 99, 99, 32, 32, 97, 10, 112, 97, 114, 101, 110, 116, 115, 32, 50, 10],
  [100, 105, 102, 102, 32, 45, 45, 99, 99, 32, 97, 10, 112, 97, 114, 101, 110, 116, 115, 32, 48, 50, 10],
  [100, 105, 102, 102, 32, 45, 45, 99, 99, 32, 97, 10, 112, 97, 114, 101, 110, 116, 115, 32, 51, 51, 10],
  (goodC x).take (((goodC x).length : Int) - 1).toNat, goodC x ++ [10]]
set_option maxHeartbeats 1000000
end Go.Proofs.YtgejaedjnbjpoaaDoor
