/- Walks of the program's functions. -/
import Derived.Test.YtgejaedjnbjpoaaDoorFb
import Derived.Test.YtgejaedjnbjpoaaDoorFa
namespace Go.Proofs.YtgejaedjnbjpoaaDoor
open Go Go.AL
set_option maxRecDepth 100000
theorem pParse19_ok (s : Str) (hs : s.length ≤ 600000) : FnOk Tryd.prog 11 [pStr s] (fun rs => rs = combR parseC s) := by
  have h16 : ¬ 16777216 < s.length := by omega
  have hL := stLines_ok s (by omega)
  have hfail : ∀ {x : Comb × Int}, combBy parseC s = x → x = (comb0, 4) → [pComb comb0, pInt 4] = combR parseC s := by
    intro x h1 h2
    unfold combR; rw [h1, h2]
  refine FnOk.intro Tryd.func11 (by decide) rfl rfl rfl rfl ?_
  refine k2 ?_
  refine c_region ?_; refine l_effv (f_alloc 2 rfl) rfl ?_; refine l_neu (n_assign rfl rfl) rfl ?_; refine l_nil ?_
  refine k1 ?_; refine k2 ?_; refine k2 ?_
  refine c_region ?_; refine l_neu (n_move rfl rfl) rfl ?_; refine l_neu (n_len_s rfl) rfl ?_; refine l_neu (n_gtr rfl rfl) rfl ?_; refine l_nil ?_
  refine k1 ?_
  refine c_cond rfl (fun ht => ?_) (fun ht => ?_)
  · exact absurd (of_decide_eq_true ht) (by omega)
  cases hl : linesS s with
  | none =>
    unfold linesR at hL
    rw [hl] at hL
    refine k5 ?_; refine k1 ?_; refine k2 ?_
    refine c_region ?_; refine l_neu (n_move rfl rfl) rfl ?_; refine l_call (hL) rfl rfl rfl ?_; rintro _ rfl; refine l_neu (n_move rfl rfl) rfl ?_; refine l_neu (n_extract rfl rfl) rfl ?_; refine l_neu (n_extract rfl rfl) rfl ?_; refine l_neu (n_assign rfl rfl) rfl ?_; refine l_neu (n_assign rfl rfl) rfl ?_; refine l_nil ?_
    refine k1 ?_; refine k2 ?_; refine k2 ?_
    refine c_region ?_; refine l_neu (n_move rfl rfl) rfl ?_; refine l_neu (n_not rfl) rfl ?_; refine l_nil ?_
    refine k1 ?_
    refine c_cond rfl (fun ht => ?_) (fun ht => ?_)
    · refine k2 ?_
      refine c_region ?_; refine l_neu (n_build rfl) rfl ?_; refine l_eff (e_store_ref TySz.out rfl rfl rfl rfl rfl rfl) ?_; refine l_neu (n_assign rfl rfl) rfl ?_; refine l_nil ?_
      refine k1 ?_
      refine c_sees (Sees.listB CHunk 2 chunkC 2 3 rfl rfl) ?_
      refine k10 ?_; refine k11 ?_
      exact ret_ret (rs := [pComb comb0, pInt 4]) (retc2 rfl rfl rfl rfl rfl rfl rfl) (hfail rfl (by unfold combBy; rw [if_neg h16, hl]))
    · cases ht
  | some l =>
    unfold linesR at hL
    rw [hl] at hL
    obtain ⟨z1, z2⟩ := linesS_sz hl
    have zw := linesS_w hl
    have hP := pparse_ok l (by omega) (fun t ht => by have := z2 t ht; omega)
    cases hp : parseC l with
    | none =>
      unfold parseResC at hP
      rw [hp] at hP
      refine k5 ?_; refine k1 ?_; refine k2 ?_
      refine c_region ?_; refine l_neu (n_move rfl rfl) rfl ?_; refine l_call (hL) rfl rfl rfl ?_; rintro _ rfl; refine l_neu (n_move rfl rfl) rfl ?_; refine l_neu (n_extract rfl rfl) rfl ?_; refine l_neu (n_extract rfl rfl) rfl ?_; refine l_neu (n_assign rfl rfl) rfl ?_; refine l_neu (n_assign rfl rfl) rfl ?_; refine l_nil ?_
      refine k1 ?_; refine k2 ?_; refine k2 ?_
      refine c_region ?_; refine l_neu (n_move rfl rfl) rfl ?_; refine l_neu (n_not rfl) rfl ?_; refine l_nil ?_
      refine k1 ?_
      refine c_cond rfl (fun ht => ?_) (fun ht => ?_)
      · cases ht
      refine k5 ?_; refine k1 ?_; refine k2 ?_
      refine c_region ?_; refine l_neu (n_move rfl rfl) rfl ?_; refine l_call (hP) rfl rfl rfl ?_; rintro _ rfl; refine l_neu (n_move rfl rfl) rfl ?_; refine l_neu (n_extract rfl rfl) rfl ?_; refine l_neu (n_extract rfl rfl) rfl ?_; refine l_effv (f_alloc 6 rfl) rfl ?_; refine l_eff (e_store_ref TySz.out rfl rfl rfl rfl rfl rfl) ?_; refine l_neu (n_assign rfl rfl) rfl ?_; refine l_nil ?_
      refine k1 ?_; refine k2 ?_; refine k2 ?_
      refine c_region ?_; refine l_neu (n_move rfl rfl) rfl ?_; refine l_neu (n_not rfl) rfl ?_; refine l_nil ?_
      refine k1 ?_
      refine c_cond rfl (fun ht => ?_) (fun ht => ?_)
      · refine k2 ?_
        refine c_region ?_; refine l_neu (n_build rfl) rfl ?_; refine l_eff (e_store_ref TySz.out rfl rfl rfl rfl rfl rfl) ?_; refine l_neu (n_assign rfl rfl) rfl ?_; refine l_nil ?_
        refine k1 ?_
        refine c_sees (Sees.listB CHunk 2 chunkC 2 3 rfl rfl) ?_
        refine k10 ?_; refine k11 ?_
        exact ret_ret (rs := [pComb comb0, pInt 4]) (retc2 rfl rfl rfl rfl rfl rfl rfl) (hfail rfl (by unfold combBy; rw [if_neg h16, hl]; dsimp only; rw [hp]))
      · cases ht
    | some p =>
      unfold parseResC at hP
      rw [hp] at hP
      obtain ⟨_, hsz, hci⟩ := parseC_sz hp
      have hz : szC p.Hunks ≤ 268435456 := by omega
      have hr : ∀ h ∈ p.Hunks, rowsIn h.Rows := fun h hm => (hci h hm).2
      have hF := cformat_ok p hz hr
      have hS : combBy parseC s = if check18 p ≠ 0 ∨ writeC p ≠ s then (comb0, 4) else (p, 0) := by unfold combBy; rw [if_neg h16, hl]; dsimp only; rw [hp]
      by_cases hc : check18 p = 0
      · rw [if_pos hc] at hF
        refine k5 ?_; refine k1 ?_; refine k2 ?_
        refine c_region ?_; refine l_neu (n_move rfl rfl) rfl ?_; refine l_call (hL) rfl rfl rfl ?_; rintro _ rfl; refine l_neu (n_move rfl rfl) rfl ?_; refine l_neu (n_extract rfl rfl) rfl ?_; refine l_neu (n_extract rfl rfl) rfl ?_; refine l_neu (n_assign rfl rfl) rfl ?_; refine l_neu (n_assign rfl rfl) rfl ?_; refine l_nil ?_
        refine k1 ?_; refine k2 ?_; refine k2 ?_
        refine c_region ?_; refine l_neu (n_move rfl rfl) rfl ?_; refine l_neu (n_not rfl) rfl ?_; refine l_nil ?_
        refine k1 ?_
        refine c_cond rfl (fun ht => ?_) (fun ht => ?_)
        · cases ht
        refine k5 ?_; refine k1 ?_; refine k2 ?_
        refine c_region ?_; refine l_neu (n_move rfl rfl) rfl ?_; refine l_call (hP) rfl rfl rfl ?_; rintro _ rfl; refine l_neu (n_move rfl rfl) rfl ?_; refine l_neu (n_extract rfl rfl) rfl ?_; refine l_neu (n_extract rfl rfl) rfl ?_; refine l_effv (f_alloc 6 rfl) rfl ?_; refine l_eff (e_store_ref TySz.out rfl rfl rfl rfl rfl rfl) ?_; refine l_neu (n_assign rfl rfl) rfl ?_; refine l_nil ?_
        refine k1 ?_; refine k2 ?_; refine k2 ?_
        refine c_region ?_; refine l_neu (n_move rfl rfl) rfl ?_; refine l_neu (n_not rfl) rfl ?_; refine l_nil ?_
        refine k1 ?_
        refine c_cond rfl (fun ht => ?_) (fun ht => ?_)
        · cases ht
        refine k5 ?_; refine k1 ?_; refine k2 ?_; refine k2 ?_
        refine c_region ?_; refine l_neu (n_loads_ref rfl rfl rfl) rfl ?_; refine l_call (hF) rfl rfl rfl ?_; rintro _ rfl; refine l_neu (n_move rfl rfl) rfl ?_; refine l_neu (n_extract rfl rfl) rfl ?_; refine l_neu (n_extract rfl rfl) rfl ?_; refine l_neu (n_assign rfl rfl) rfl ?_; refine l_neu (n_assign rfl rfl) rfl ?_; refine l_nil ?_
        refine k1 ?_; refine k2 ?_
        refine c_region ?_; refine l_neu (n_move rfl rfl) rfl ?_; refine l_neu (n_neq rfl rfl) rfl ?_; refine l_neu (n_move rfl rfl) rfl ?_; refine l_guard rfl rfl rfl rfl (fun hg => by rw [hg]; exact n_move rfl rfl) ?_; refine l_guard rfl rfl rfl rfl (fun hg => by rw [hg]; exact n_move rfl rfl) ?_; refine l_guard rfl rfl rfl rfl (fun hg => by rw [hg]; exact n_neq_s rfl rfl) ?_; refine l_neu (n_pick_bool rfl (fun h => by first | rfl | (rw [h]; rfl)) (fun h => by first | rfl | (rw [h]; rfl))) rfl ?_; refine l_nil ?_
        simp only [or_pick]
        refine k1 ?_
        by_cases hb : writeC p = s
        · rw [if_neg (by simp [hc, hb])] at hS
          refine c_cond rfl (fun ht => ?_) (fun ht => ?_)
          · exfalso
            rcases of_decide_eq_true ht with h | h
            · exact h rfl
            · exact h hb
          refine k5 ?_; refine k1 ?_; refine k2 ?_
          refine c_region ?_; refine l_neu (n_loads_ref rfl rfl rfl) rfl ?_; refine l_eff (e_store_ref TySz.out rfl rfl rfl rfl rfl rfl) ?_; refine l_neu (n_assign rfl rfl) rfl ?_; refine l_nil ?_
          refine k1 ?_; refine k10 ?_
          exact ret_ret (rs := [pComb p, pInt 0]) (retc2 rfl rfl rfl rfl rfl rfl rfl) (by unfold combR; rw [hS])
        · rw [if_pos (.inr hb)] at hS
          refine c_cond rfl (fun ht => ?_) (fun ht => ?_)
          rotate_left
          · exact absurd (.inr hb) (of_decide_eq_false ht)
          refine k2 ?_
          refine c_region ?_; refine l_neu (n_build rfl) rfl ?_; refine l_eff (e_store_ref TySz.out rfl rfl rfl rfl rfl rfl) ?_; refine l_neu (n_assign rfl rfl) rfl ?_; refine l_nil ?_
          refine k1 ?_
          refine c_sees (Sees.listB CHunk 2 chunkC 2 3 rfl rfl) ?_
          refine k10 ?_; refine k11 ?_
          exact ret_ret (rs := [pComb comb0, pInt 4]) (retc2 rfl rfl rfl rfl rfl rfl rfl) (hfail hS rfl)
      · rw [if_neg hc] at hF
        rw [if_pos (.inl hc)] at hS
        refine k5 ?_; refine k1 ?_; refine k2 ?_
        refine c_region ?_; refine l_neu (n_move rfl rfl) rfl ?_; refine l_call (hL) rfl rfl rfl ?_; rintro _ rfl; refine l_neu (n_move rfl rfl) rfl ?_; refine l_neu (n_extract rfl rfl) rfl ?_; refine l_neu (n_extract rfl rfl) rfl ?_; refine l_neu (n_assign rfl rfl) rfl ?_; refine l_neu (n_assign rfl rfl) rfl ?_; refine l_nil ?_
        refine k1 ?_; refine k2 ?_; refine k2 ?_
        refine c_region ?_; refine l_neu (n_move rfl rfl) rfl ?_; refine l_neu (n_not rfl) rfl ?_; refine l_nil ?_
        refine k1 ?_
        refine c_cond rfl (fun ht => ?_) (fun ht => ?_)
        · cases ht
        refine k5 ?_; refine k1 ?_; refine k2 ?_
        refine c_region ?_; refine l_neu (n_move rfl rfl) rfl ?_; refine l_call (hP) rfl rfl rfl ?_; rintro _ rfl; refine l_neu (n_move rfl rfl) rfl ?_; refine l_neu (n_extract rfl rfl) rfl ?_; refine l_neu (n_extract rfl rfl) rfl ?_; refine l_effv (f_alloc 6 rfl) rfl ?_; refine l_eff (e_store_ref TySz.out rfl rfl rfl rfl rfl rfl) ?_; refine l_neu (n_assign rfl rfl) rfl ?_; refine l_nil ?_
        refine k1 ?_; refine k2 ?_; refine k2 ?_
        refine c_region ?_; refine l_neu (n_move rfl rfl) rfl ?_; refine l_neu (n_not rfl) rfl ?_; refine l_nil ?_
        refine k1 ?_
        refine c_cond rfl (fun ht => ?_) (fun ht => ?_)
        · cases ht
        refine k5 ?_; refine k1 ?_; refine k2 ?_; refine k2 ?_
        refine c_region ?_; refine l_neu (n_loads_ref rfl rfl rfl) rfl ?_; refine l_call (hF) rfl rfl rfl ?_; rintro _ rfl; refine l_neu (n_move rfl rfl) rfl ?_; refine l_neu (n_extract rfl rfl) rfl ?_; refine l_neu (n_extract rfl rfl) rfl ?_; refine l_neu (n_assign rfl rfl) rfl ?_; refine l_neu (n_assign rfl rfl) rfl ?_; refine l_nil ?_
        refine k1 ?_; refine k2 ?_
        refine c_region ?_; refine l_neu (n_move rfl rfl) rfl ?_; refine l_neu (n_neq rfl rfl) rfl ?_; refine l_neu (n_move rfl rfl) rfl ?_; refine l_guard rfl rfl rfl rfl (fun hg => by rw [hg]; exact n_move rfl rfl) ?_; refine l_guard rfl rfl rfl rfl (fun hg => by rw [hg]; exact n_move rfl rfl) ?_; refine l_guard rfl rfl rfl rfl (fun hg => by rw [hg]; exact n_neq_s rfl rfl) ?_; refine l_neu (n_pick_bool rfl (fun h => by first | rfl | (rw [h]; rfl)) (fun h => by first | rfl | (rw [h]; rfl))) rfl ?_; refine l_nil ?_
        simp only [or_pick]
        refine k1 ?_
        refine c_cond rfl (fun ht => ?_) (fun ht => ?_)
        rotate_left
        · exact absurd (.inl hc) (of_decide_eq_false ht)
        refine k2 ?_
        refine c_region ?_; refine l_neu (n_build rfl) rfl ?_; refine l_eff (e_store_ref TySz.out rfl rfl rfl rfl rfl rfl) ?_; refine l_neu (n_assign rfl rfl) rfl ?_; refine l_nil ?_
        refine k1 ?_
        refine c_sees (Sees.listB CHunk 2 chunkC 2 3 rfl rfl) ?_
        refine k10 ?_; refine k11 ?_
        exact ret_ret (rs := [pComb comb0, pInt 4]) (retc2 rfl rfl rfl rfl rfl rfl rfl) (hfail hS rfl)
theorem cparse_written {c : Comb} (hc : check18 c = 0) (hw : (writeC c).length ≤ 600000) : FnOk Tryd.prog 11 [pStr (writeC c)] (fun rs => rs = [pComb c, pInt 0]) := by
  have h := pParse19_ok (writeC c) hw
  unfold combR at h
  rw [combBy_of (fun p hg => parseC_back hg) hc] at h
  exact h
theorem awake19_ok : FnOk Tryd.prog 5 [] (fun rs => rs = [pBool true]) := by
  have hf : fmtOf 3 = [51] := by rw [fmt_dec (by decide) (by decide), Lib.decDigits, dif_pos (by decide)]; rfl
  have e1 : writeC ⟨[120], true, 3, []⟩ = [100, 105, 102, 102, 32, 45, 45, 99, 99, 32, 120, 10, 112, 97, 114, 101, 110, 116, 115, 32, 51, 10] := by
    show (((kindS true ++ quoteOf [120] ++ [10]) :: (parS ++ fmtOf 3 ++ [10]) :: ([] : List Str))).flatten = _
    rw [hf]; decide
  have e2 : check18 ⟨[120], true, 3, []⟩ = 0 := by
    unfold check18
    rw [e1]; decide
  have hp := cparse_written (c := ⟨[120], true, 3, []⟩) e2 (by rw [e1]; decide)
  rw [e1] at hp
  have hr1 := pRow_ok [45, 32, 98, 10] 2
  have hr2 := pRow_ok [43, 45, 120] 2
  rw [rowR_some (show rowI [45, 32, 98, 10] 2 = some ⟨true, 1, [98, 10]⟩ by decide)] at hr1
  rw [rowR_none (show rowI [43, 45, 120] 2 = none by decide)] at hr2
  refine FnOk.intro Tryd.func5 (by decide) rfl rfl rfl rfl ?_
  refine k2 ?_
  refine c_region ?_; refine l_neu (n_assign rfl rfl) rfl ?_; refine l_nil ?_
  refine k1 ?_; refine k2 ?_
  refine c_region ?_; refine l_call (hr1) rfl rfl rfl ?_; rintro _ rfl; refine l_neu (n_move rfl rfl) rfl ?_; refine l_neu (n_extract rfl rfl) rfl ?_; refine l_neu (n_extract rfl rfl) rfl ?_; refine l_effv (f_alloc 1 rfl) rfl ?_; refine l_eff (e_store_ref TySz.out rfl rfl rfl rfl rfl rfl) ?_; refine l_neu (n_assign rfl rfl) rfl ?_; refine l_nil ?_
  refine k1 ?_; refine k2 ?_
  refine c_region ?_; refine l_call (hr2) rfl rfl rfl ?_; rintro _ rfl; refine l_neu (n_move rfl rfl) rfl ?_; refine l_neu (n_extract rfl rfl) rfl ?_; refine l_neu (n_extract rfl rfl) rfl ?_; refine l_effv (f_alloc 3 rfl) rfl ?_; refine l_eff (e_store_ref TySz.out rfl rfl rfl rfl rfl rfl) ?_; refine l_neu (n_assign rfl rfl) rfl ?_; refine l_nil ?_
  refine k1 ?_; refine k2 ?_
  refine c_region ?_; refine l_call (hp) rfl rfl rfl ?_; rintro _ rfl; refine l_neu (n_move rfl rfl) rfl ?_; refine l_neu (n_extract rfl rfl) rfl ?_; refine l_neu (n_extract rfl rfl) rfl ?_; refine l_effv (f_alloc 5 rfl) rfl ?_; refine l_eff (e_store_ref TySz.out rfl rfl rfl rfl rfl rfl) ?_; refine l_neu (n_assign rfl rfl) rfl ?_; refine l_nil ?_
  refine k1 ?_; refine k2 ?_
  refine c_region ?_; refine l_neu (n_move rfl rfl) rfl ?_; refine l_neu (n_move rfl rfl) rfl ?_; refine l_guard rfl rfl rfl rfl (fun hg => by rw [hg]; exact n_move rfl rfl) ?_; refine l_guard rfl rfl rfl rfl (fun hg => by rw [hg]; exact n_not rfl) ?_; refine l_neu (n_pick_bool rfl (fun h => by first | rfl | (rw [h]; rfl)) (fun h => by first | rfl | (rw [h]; rfl))) rfl ?_; refine l_neu (n_move rfl rfl) rfl ?_; refine l_guard rfl rfl rfl rfl (fun hg => by rw [hg]; exact n_loads_ref rfl rfl rfl) ?_; refine l_guard rfl rfl rfl rfl (fun hg => by rw [hg]; exact n_build rfl) ?_; refine l_guard rfl rfl rfl rfl (fun hg => by rw [hg]; exact n_eql_st (rowV ⟨true, 1, [98, 10]⟩) (rowV ⟨true, 1, [98, 10]⟩) rfl rfl rfl rfl ((row_eq _ _).trans (decide_eq_true rfl))) ?_; refine l_neu (n_pick_bool rfl (fun h => by first | rfl | (rw [h]; rfl)) (fun h => by first | rfl | (rw [h]; rfl))) rfl ?_; refine l_neu (n_move rfl rfl) rfl ?_; refine l_guard rfl rfl rfl rfl (fun hg => by rw [hg]; exact n_move rfl rfl) ?_; refine l_guard rfl rfl rfl rfl (fun hg => by rw [hg]; exact n_eql rfl rfl) ?_; refine l_neu (n_pick_bool rfl (fun h => by first | rfl | (rw [h]; rfl)) (fun h => by first | rfl | (rw [h]; rfl))) rfl ?_; refine l_neu (n_move rfl rfl) rfl ?_; refine l_guard rfl rfl rfl rfl (fun hg => by rw [hg]; exact n_field_ref rfl) ?_; refine l_guard rfl rfl rfl rfl (fun hg => by rw [hg]; exact n_load_ref rfl rfl rfl) ?_; refine l_guard rfl rfl rfl rfl (fun hg => by rw [hg]; exact n_eql rfl rfl) ?_; refine l_neu (n_pick_bool rfl (fun h => by first | rfl | (rw [h]; rfl)) (fun h => by first | rfl | (rw [h]; rfl))) rfl ?_; refine l_neu (n_move rfl rfl) rfl ?_; refine l_guard rfl rfl rfl rfl (fun hg => by rw [hg]; exact n_field_ref rfl) ?_; refine l_guard rfl rfl rfl rfl (fun hg => by rw [hg]; exact n_load_ref rfl rfl rfl) ?_; refine l_neu (n_pick_bool rfl (fun h => by first | rfl | (rw [h]; rfl)) (fun h => by first | rfl | (rw [h]; rfl))) rfl ?_; refine l_neu (n_move rfl rfl) rfl ?_; refine l_guard rfl rfl rfl rfl (fun hg => by rw [hg]; exact n_field_ref rfl) ?_; refine l_guard rfl rfl rfl rfl (fun hg => by rw [hg]; exact n_load_ref rfl rfl rfl) ?_; refine l_guard rfl rfl rfl rfl (fun hg => by rw [hg]; exact n_eql_s rfl rfl) ?_; refine l_neu (n_pick_bool rfl (fun h => by first | rfl | (rw [h]; rfl)) (fun h => by first | rfl | (rw [h]; rfl))) rfl ?_; refine l_neu (n_assign rfl rfl) rfl ?_; refine l_nil ?_
  refine k1 ?_; refine k10 ?_
  exact ret_ret (rs := [pBool true]) (ret1 rfl rfl rfl) rfl
end Go.Proofs.YtgejaedjnbjpoaaDoor
namespace Go.Proofs.YtgejaedjnbjpoaaDoor
open Go Go.AL
set_option maxRecDepth 100000
set_option maxHeartbeats 1000000
def headTx : Str := [100, 105, 102, 102, 32, 45, 45, 99, 111, 109, 98, 105, 110, 101, 100, 32, 97, 10, 112, 97, 114, 101, 110, 116, 115, 32, 50, 10]
def goodC (x : Str) : Str := headTx ++ [64, 64, 64, 32, 45, 49, 32, 45, 49, 32, 43, 49, 32, 64, 64, 64, 10, 32, 32] ++ x ++ [10]
def badC (x : Str) : List Str := [
  headTx ++ [64, 64, 32, 45, 49, 32, 45, 49, 32, 43, 49, 32, 64, 64, 10, 32, 32] ++ x ++ [10],
  headTx ++ [64, 64, 64, 32, 45, 49, 44, 49, 32, 45, 49, 32, 43, 49, 32, 64, 64, 64, 10, 32, 32] ++ x ++ [10],
  headTx ++ [64, 64, 64, 32, 45, 49, 32, 45, 48, 44, 48, 32, 43, 49, 32, 64, 64, 64, 10, 45, 43] ++ x ++ [10],
  [100, 105, 102, 102, 32, 45, 45, 99, 99, 32, 32, 97, 10, 112, 97, 114, 101, 110, 116, 115, 32, 50, 10],
  [100, 105, 102, 102, 32, 45, 45, 99, 99, 32, 97, 10, 112, 97, 114, 101, 110, 116, 115, 32, 48, 50, 10],
  [100, 105, 102, 102, 32, 45, 45, 99, 99, 32, 97, 10, 112, 97, 114, 101, 110, 116, 115, 32, 51, 51, 10],
  (goodC x).take (((goodC x).length : Int) - 1).toNat, goodC x ++ [10]]
def canonC (x : Str) : Bool := decide ((combBy parseC (goodC x)).2 = 0) && decide ((combBy parseC (goodC x)).1.Hunks.length = 1) && (badC x).all fun t => decide ((combBy parseC t).2 = 4)
theorem canonC_all : lineTab.all canonC = true := by kernel_rfl
theorem lineOf_in2 (k : Int) : lineOf k ∈ lineTab := by
  obtain ⟨h1, h2⟩ := modOf_in k (n := 10) (by omega)
  unfold lineOf
  rw [List.getD_eq_getElem?_getD]
  have h : (modOf k 10).toNat < lineTab.length := by show (modOf k 10).toNat < 10; omega
  rw [List.getElem?_eq_getElem h]
  exact List.getElem_mem h
theorem canonC_of (k : Int) : (combBy parseC (goodC (lineOf k))).2 = 0 ∧ (combBy parseC (goodC (lineOf k))).1.Hunks.length = 1 ∧ ∀ t ∈ badC (lineOf k), (combBy parseC t).2 = 4 ∧ t.length ≤ 1000 := by
  have h := List.all_eq_true.1 canonC_all _ (lineOf_in2 k)
  unfold canonC at h
  simp only [Bool.and_eq_true, decide_eq_true_eq, List.all_eq_true] at h
  refine ⟨h.1.1, h.1.2, fun t ht => ⟨h.2 t ht, ?_⟩⟩
  have hl := lineOf_len k
  have hh : headTx.length = 28 := rfl
  have hg : (goodC (lineOf k)).length ≤ 100 := by unfold goodC; simp only [List.length_append, List.length_cons, List.length_nil]; omega
  unfold badC at ht
  simp only [List.mem_cons, List.not_mem_nil, or_false] at ht
  rcases ht with rfl | rfl | rfl | rfl | rfl | rfl | rfl | rfl <;> simp only [List.length_append, List.length_cons, List.length_nil, List.length_take] <;> omega
set_option maxHeartbeats 1000000
theorem lawRCanonical_ok (raw : List Int) : FnOk Tryd.prog 4 [pInts raw] (fun rs => rs = [pBool true]) := by
  obtain ⟨k, hk⟩ : ∃ k, k = atOf raw 1 := ⟨_, rfl⟩
  obtain ⟨c1, c2, c3⟩ := canonC_of k
  have hl := lineOf_len k
  obtain ⟨x, hx⟩ : ∃ x, x = lineOf k := ⟨_, rfl⟩
  rw [← hx] at c1 c2 c3 hl
  have hh : headTx.length = 28 := rfl
  have hgl : (goodC x).length ≤ 100 := by unfold goodC; simp only [List.length_append, List.length_cons, List.length_nil]; omega
  have hg1 : 20 ≤ (goodC x).length := by unfold goodC; simp only [List.length_append, List.length_cons, List.length_nil]; omega
  have h1 := pParse19_ok (goodC x) (by omega)
  unfold combR at h1
  obtain ⟨q, hq⟩ : ∃ q, q = combBy parseC (goodC x) := ⟨_, rfl⟩
  rw [← hq] at c1 c2 h1
  rw [c1] at h1
  obtain ⟨L, hL⟩ : ∃ L, L = badC x := ⟨_, rfl⟩
  have hLl : L.length = 8 := by rw [hL]; rfl
  rw [← hL] at c3
  refine FnOk.intro Tryd.func4 (by decide) rfl rfl rfl rfl ?_
  refine k2 ?_
  refine c_region ?_; refine l_neu (n_assign rfl rfl) rfl ?_; refine l_nil ?_
  refine k1 ?_; refine k2 ?_
  refine c_region ?_; refine l_neu (n_move rfl rfl) rfl ?_; refine l_call (at_ok raw 1 (by omega) (by omega)) rfl rfl rfl ?_; rintro _ rfl; refine l_call (gline_ok _) rfl rfl rfl ?_; rintro _ rfl; refine l_neu (n_assign rfl rfl) rfl ?_; refine l_nil ?_
  rw [← hk, ← hx]
  refine k1 ?_; refine k2 ?_
  refine c_region ?_; refine l_neu (n_assign rfl rfl) rfl ?_; refine l_nil ?_
  refine k1 ?_; refine k2 ?_
  refine c_region ?_; refine l_neu (n_move rfl rfl) rfl ?_; refine l_neu (n_add_s rfl rfl (by (first | omega | (simp only [List.length_append, List.length_cons, List.length_nil]; omega)))) rfl ?_; refine l_neu (n_move rfl rfl) rfl ?_; refine l_neu (n_add_s rfl rfl (by (first | omega | (simp only [List.length_append, List.length_cons, List.length_nil]; omega)))) rfl ?_; refine l_neu (n_add_s rfl rfl (by (first | omega | (simp only [List.length_append, List.length_cons, List.length_nil]; omega)))) rfl ?_; refine l_neu (n_assign rfl rfl) rfl ?_; refine l_nil ?_
  refine c_sees (fr' := [(3, sStr x), (4, sStr headTx), (5, sStr (goodC x))]) (ob' := []) (Sees.of ⟨le1 rfl, le1 rfl, le1 rfl, trivial⟩ trivial) ?_
  refine k2 ?_
  refine c_region ?_; refine l_neu (n_move rfl rfl) rfl ?_; refine l_call (h1) rfl rfl rfl ?_; rintro _ rfl; refine l_neu (n_move rfl rfl) rfl ?_; refine l_neu (n_extract rfl rfl) rfl ?_; refine l_neu (n_extract rfl rfl) rfl ?_; refine l_effv (f_alloc 6 rfl) rfl ?_; refine l_eff (e_store_ref TySz.out rfl rfl rfl rfl rfl rfl) ?_; refine l_neu (n_assign rfl rfl) rfl ?_; refine l_nil ?_
  refine k1 ?_; refine k2 ?_
  refine c_region ?_; refine l_neu (n_move rfl rfl) rfl ?_; refine l_neu (n_add_s rfl rfl (by (first | omega | (simp only [List.length_append, List.length_cons, List.length_nil]; omega)))) rfl ?_; refine l_neu (n_move rfl rfl) rfl ?_; refine l_neu (n_add_s rfl rfl (by (first | omega | (simp only [List.length_append, List.length_cons, List.length_nil]; omega)))) rfl ?_; refine l_neu (n_add_s rfl rfl (by (first | omega | (simp only [List.length_append, List.length_cons, List.length_nil]; omega)))) rfl ?_; refine l_neu (n_move rfl rfl) rfl ?_; refine l_neu (n_add_s rfl rfl (by (first | omega | (simp only [List.length_append, List.length_cons, List.length_nil]; omega)))) rfl ?_; refine l_neu (n_move rfl rfl) rfl ?_; refine l_neu (n_add_s rfl rfl (by (first | omega | (simp only [List.length_append, List.length_cons, List.length_nil]; omega)))) rfl ?_; refine l_neu (n_add_s rfl rfl (by (first | omega | (simp only [List.length_append, List.length_cons, List.length_nil]; omega)))) rfl ?_; refine l_neu (n_move rfl rfl) rfl ?_; refine l_neu (n_add_s rfl rfl (by (first | omega | (simp only [List.length_append, List.length_cons, List.length_nil]; omega)))) rfl ?_; refine l_neu (n_move rfl rfl) rfl ?_; refine l_neu (n_add_s rfl rfl (by (first | omega | (simp only [List.length_append, List.length_cons, List.length_nil]; omega)))) rfl ?_; refine l_neu (n_add_s rfl rfl (by (first | omega | (simp only [List.length_append, List.length_cons, List.length_nil]; omega)))) rfl ?_; refine l_neu (n_move rfl rfl) rfl ?_; refine l_neu (n_move rfl rfl) rfl ?_; refine l_neu (n_len_s rfl) rfl ?_; refine l_neu (n_sub rfl rfl (by omega)) rfl ?_; refine l_neu (n_sub_h rfl rfl (by omega) (by omega)) rfl ?_; refine l_neu (n_move rfl rfl) rfl ?_; refine l_neu (n_add_s rfl rfl (by (first | omega | (simp only [List.length_append, List.length_cons, List.length_nil]; omega)))) rfl ?_; refine l_neu (n_buildSlice (c := strC) (ys := [_, _, _, _, _, _, _, _]) (asm_cons rfl rfl rfl rfl (asm_cons rfl rfl rfl rfl (asm_cons rfl rfl rfl rfl (asm_cons rfl rfl rfl rfl (asm_cons rfl rfl rfl rfl (asm_cons rfl rfl rfl rfl (asm_cons rfl rfl rfl rfl (asm_cons rfl rfl rfl rfl asm_nil)))))))) rfl rfl rfl) rfl ?_; refine l_neu (n_assign rfl rfl) rfl ?_; refine l_nil ?_
  refine k1 ?_; refine k2 ?_; refine k2 ?_
  refine c_region ?_; refine l_neu (n_assign rfl rfl) rfl ?_; refine l_nil ?_
  refine k1 ?_; refine k3 ?_
  refine c_while (X := Nat) (fun i => ([(6, .s (.one (.ref 6 0))), (7, sInt 0), (8, sList Str 1 strC L), (9, sInt i)], [(6, cBox q.1)])) (fun i => i ≤ 8) (fun i => 8 - i) 0 (by omega) (by rw [hL]; exact Sees.of ⟨le1 rfl, le1 rfl, le1 rfl, le1 rfl, trivial⟩ ⟨rfl, trivial⟩) ?_
  intro i hi
  dsimp only at hi ⊢
  refine k2 ?_; refine k2 ?_
  refine c_region ?_; refine l_neu (n_move rfl rfl) rfl ?_; refine l_neu (n_move rfl rfl) rfl ?_; refine l_neu (n_len rfl (.pure _ _ _ _)) rfl ?_; refine l_neu (n_lss rfl rfl) rfl ?_; refine l_nil ?_
  refine k1 ?_
  refine c_cond rfl (fun ht => ?_) (fun ht => ?_)
  rotate_left
  · refine k6 ?_; refine k2 ?_
    refine c_region ?_; refine l_neu (n_move rfl rfl) rfl ?_; refine l_neu (n_eql rfl rfl) rfl ?_; refine l_neu (n_move rfl rfl) rfl ?_; refine l_guard rfl rfl rfl rfl (fun hg => by rw [hg]; exact n_field_ref rfl) ?_; refine l_guard rfl rfl rfl rfl (fun hg => by rw [hg]; exact n_load_ref rfl rfl rfl) ?_; refine l_guard rfl rfl rfl rfl (fun hg => by rw [hg]; exact n_len rfl (.pure _ _ _ _)) ?_; refine l_guard rfl rfl rfl rfl (fun hg => by rw [hg]; exact n_eql rfl rfl) ?_; refine l_neu (n_pick_bool rfl (fun h => by first | rfl | (rw [h]; rfl)) (fun h => by first | rfl | (rw [h]; rfl))) rfl ?_; refine l_neu (n_move rfl rfl) rfl ?_; refine l_guard rfl rfl rfl rfl (fun hg => by have hq := hg; (try simp at hq); rw [hg]; exact n_call1 (awake19_ok) rfl rfl) ?_; refine l_neu (n_pick_bool rfl (fun h => by first | rfl | (rw [h]; rfl)) (fun h => by first | rfl | (rw [h]; rfl))) rfl ?_; refine l_neu (n_assign rfl rfl) rfl ?_; refine l_nil ?_
    refine k1 ?_; refine k10 ?_
    exact ret_ret (ret1 rfl rfl rfl) (by simp [c2])
  have hi2 : i < L.length := by have := of_decide_eq_true ht; omega
  obtain ⟨t, ht0⟩ : ∃ t, t = L[i] := ⟨_, rfl⟩
  have hv : L[i]? = some t := by rw [ht0]; simp [hi2]
  obtain ⟨d1, d2⟩ := c3 t (List.mem_of_getElem? hv)
  have h2 := pParse19_ok t (by omega)
  unfold combR at h2
  rw [d1] at h2
  refine k5 ?_; refine k1 ?_; refine k2 ?_; refine k3 ?_; refine k2 ?_
  refine c_region ?_; refine l_neu (n_move rfl rfl) rfl ?_; refine l_neu (n_move rfl rfl) rfl ?_; refine l_neu (n_indexAddr rfl (.pure _ _ _ _) rfl (by omega) hv) rfl ?_; refine l_neu (n_load_eref rfl rfl) rfl ?_; refine l_call (h2) rfl rfl rfl ?_; rintro _ rfl; refine l_neu (n_move rfl rfl) rfl ?_; refine l_neu (n_extract rfl rfl) rfl ?_; refine l_neu (n_extract rfl rfl) rfl ?_; refine l_effv (f_alloc 10 rfl) rfl ?_; refine l_eff (e_store_ref TySz.out rfl rfl rfl rfl rfl rfl) ?_; refine l_neu (n_assign rfl rfl) rfl ?_; refine l_nil ?_
  refine k1 ?_; refine k2 ?_
  refine c_region ?_; refine l_neu (n_move rfl rfl) rfl ?_; refine l_neu (n_neq rfl rfl) rfl ?_; refine l_nil ?_
  refine k1 ?_
  refine c_cond rfl (fun ht => ?_) (fun ht => ?_)
  · cases ht
  refine k5 ?_; refine k4 ?_; refine k1 ?_
  refine c_region ?_; refine l_neu (n_move rfl rfl) rfl ?_; refine l_neu (n_add rfl rfl (by omega)) rfl ?_; refine l_neu (n_assign rfl rfl) rfl ?_; refine l_nil ?_
  refine k1 ?_
  exact ⟨i + 1, by omega, by omega, Sees.of ⟨le1 rfl, le1 rfl, le1 rfl, le1 rfl, trivial⟩ ⟨rfl, trivial⟩⟩
end Go.Proofs.YtgejaedjnbjpoaaDoor
