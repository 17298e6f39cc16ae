/- Walks of the program's functions. -/
import Derived.Test.YtbiadkkamhpdnaaGreatDoorFc
import Derived.Test.YtbiadkkamhpdnaaGreatDoorFs
import Derived.Test.YtbiadkkamhpdnaaGreatDoorFb
import Derived.Test.YtbiadkkamhpdnaaGreatDoorFa
set_option linter.unusedSimpArgs false
namespace Go.Proofs.YtbiadkkamhpdnaaGreatDoor
open Go Go.AL
set_option maxRecDepth 100000
end Go.Proofs.YtbiadkkamhpdnaaGreatDoor
namespace Go.Proofs.YtbiadkkamhpdnaaGreatDoor
open Go Go.AL
set_option maxRecDepth 100000
set_option maxHeartbeats 1000000
theorem tid_old {gf : Fr} {ob : Obs} (names : List Str) (s : Str) (hs : s ∈ names) (h0 : getO ob 710 = some (.box [.mut 711, .buf 712 Str 1 strC names])) (h1 : getO ob 711 = some (.map Str strK (kvOf names 0))) :
    AL.Met Tryz.prog 218 [.one (.ref 710 0), .one (.p (.v (.string ⟨s.toArray⟩)))] gf ob [] (fun rs ob' => rs = [.one (.p (.v (.int .i64 (placeOf names s 0))))] ∧ ob' = ob) := by
  have hg := kv_get_in s names 0 hs
  refine AL.Met.intro Tryz.func218 (by decide) rfl rfl rfl ?_
  refine k2 ?_
  refine c_region ?_; refine l_neu (n_assign rfl rfl) rfl ?_; refine l_nil ?_
  refine k1 ?_; refine k2 ?_
  refine c_region ?_; refine l_neu (n_move rfl rfl) rfl ?_; refine l_neu (n_nilCheck_ref rfl) rfl ?_; refine l_neu (n_field_ref rfl) rfl ?_; refine l_neu (n_load_ref rfl h0 rfl) rfl ?_; refine l_neu (n_move rfl rfl) rfl ?_; refine l_neu (n_lookup (s) (r := some (.v (.int .i64 (placeOf names s 0)))) rfl h1 rfl strK_key strK_inj (hg)) rfl ?_; refine l_neu (n_move rfl rfl) rfl ?_; refine l_neu (n_extract rfl rfl) rfl ?_; refine l_neu (n_extract rfl rfl) rfl ?_; refine l_neu (n_assign rfl rfl) rfl ?_; refine l_neu (n_assign rfl rfl) rfl ?_; refine l_nil ?_
  refine k1 ?_; refine k2 ?_; refine k2 ?_
  refine c_region ?_; refine l_neu (n_move rfl rfl) rfl ?_; refine l_neu (n_not rfl) rfl ?_; refine l_nil ?_
  refine k1 ?_
  refine c_cond rfl (fun ht => ?_) (fun ht => ?_)
  · cases ht
  refine k5 ?_; refine k1 ?_; refine k2 ?_
  refine c_region ?_; refine l_neu (n_move rfl rfl) rfl ?_; refine l_neu (n_assign rfl rfl) rfl ?_; refine l_nil ?_
  refine k1 ?_; refine k10 ?_
  exact met_ret (rets1 rfl rfl) (by repeat (first | exact tail_refl | refine tail_cons rfl ?_ | refine tail_forget _ ?_)) (fun _ _ h => h) ⟨rfl, rfl⟩
theorem tid_new {gf : Fr} {ob : Obs} (names : List Str) (s : Str) (hs : s ∉ names) (hl : names.length ≤ 1073741823) (h0 : getO ob 710 = some (.box [.mut 711, .buf 712 Str 1 strC names])) (h1 : getO ob 711 = some (.map Str strK (kvOf names 0)))
    (h2 : getO ob 712 = some (.spare names.length 1 9)) :
    AL.Met Tryz.prog 218 [.one (.ref 710 0), .one (.p (.v (.string ⟨s.toArray⟩)))] gf ob [712] (fun rs ob' => rs = [.one (.p (.v (.int .i64 names.length)))] ∧ ob' = (710, .box [.mut 711, .buf 712 Str 1 strC (names ++ [s])]) :: (712, .spare (names ++ [s]).length 1 9) :: Obs.forget 712 ((711, .map Str strK (kvOf names 0 ++ [(s, .v (.int .i64 names.length))])) :: ob)) := by
  have hg := kv_get_out s names 0 hs
  refine AL.Met.intro Tryz.func218 (by decide) rfl rfl rfl ?_
  refine k2 ?_
  refine c_region ?_; refine l_neu (n_assign rfl rfl) rfl ?_; refine l_nil ?_
  refine k1 ?_; refine k2 ?_
  refine c_region ?_; refine l_neu (n_move rfl rfl) rfl ?_; refine l_neu (n_nilCheck_ref rfl) rfl ?_; refine l_neu (n_field_ref rfl) rfl ?_; refine l_neu (n_load_ref rfl h0 rfl) rfl ?_; refine l_neu (n_move rfl rfl) rfl ?_; refine l_neu (n_lookup (s) (r := none) rfl h1 rfl strK_key strK_inj (hg)) rfl ?_; refine l_neu (n_move rfl rfl) rfl ?_; refine l_neu (n_extract rfl rfl) rfl ?_; refine l_neu (n_extract rfl rfl) rfl ?_; refine l_neu (n_assign rfl rfl) rfl ?_; refine l_neu (n_assign rfl rfl) rfl ?_; refine l_nil ?_
  refine k1 ?_; refine k2 ?_; refine k2 ?_
  refine c_region ?_; refine l_neu (n_move rfl rfl) rfl ?_; refine l_neu (n_not rfl) rfl ?_; refine l_nil ?_
  refine k1 ?_
  refine c_cond rfl (fun ht => ?_) (fun ht => ?_)
  · refine k2 ?_
    refine c_region ?_; refine l_neu (n_move rfl rfl) rfl ?_; refine l_neu (n_nilCheck_ref rfl) rfl ?_; refine l_neu (n_field_ref rfl) rfl ?_; refine l_neu (n_load_ref rfl h0 rfl) rfl ?_; refine l_neu (n_len rfl (.buf _ _ _ _ _)) rfl ?_; refine l_neu (n_assign rfl rfl) rfl ?_; refine l_nil ?_
    refine k1 ?_; refine k2 ?_
    refine c_region ?_; refine l_neu (n_move rfl rfl) rfl ?_; refine l_neu (n_nilCheck_ref rfl) rfl ?_; refine l_neu (n_field_ref rfl) rfl ?_; refine l_neu (n_load_ref rfl h0 rfl) rfl ?_; refine l_neu (n_move rfl rfl) rfl ?_; refine l_neu (n_move rfl rfl) rfl ?_; refine l_eff (e_mapNew (s) rfl h1 rfl rfl rfl strK_key strK_inj (hg)) ?_; refine l_nil ?_
    refine k1 ?_
    have h0' : getO ((711, Ob.map Str strK (kvOf names 0 ++ [(s, .v (.int .i64 names.length))])) :: ob) 710 = some (.box [.mut 711, .buf 712 Str 1 strC names]) := by rw [getO_cons_other (by decide)]; exact h0
    have h2' : getO ((711, Ob.map Str strK (kvOf names 0 ++ [(s, .v (.int .i64 names.length))])) :: ob) 712 = some (.spare names.length 1 9) := by rw [getO_cons_other (by decide)]; exact h2
    have h0'' : getO ((712, Ob.spare (names ++ [s]).length 1 9) :: Obs.forget 712 ((711, Ob.map Str strK (kvOf names 0 ++ [(s, .v (.int .i64 names.length))])) :: ob)) 710 = some (.box [.mut 711, .p (.list Str 1 strC names)]) := by
      rw [getO_cons_other (by decide), getO_forget, h0']; rfl
    refine c_region ?_; refine l_neu (n_move rfl rfl) rfl ?_; refine l_neu (n_move rfl rfl) rfl ?_; refine l_neu (n_nilCheck_ref rfl) rfl ?_; refine l_neu (n_field_ref rfl) rfl ?_; refine l_neu (n_load_ref rfl h0' rfl) rfl ?_; refine l_neu (n_move rfl rfl) rfl ?_; refine l_neu (n_buildSlice (c := strC) (ys := [s]) (asm_cons rfl rfl rfl rfl asm_nil) rfl rfl rfl) rfl ?_; refine l_effv (e_append rfl h2' rfl (.pure _ _ _ _) (by (simp only [List.length_cons, List.length_nil]; omega)) rfl) rfl ?_; refine l_neu (n_nilCheck_ref rfl) rfl ?_; refine l_neu (n_field_ref rfl) rfl ?_; refine l_eff (e_store_ref TySz.out rfl h0'' rfl rfl rfl rfl) ?_; refine l_nil ?_
    refine k1 ?_; refine k2 ?_
    refine c_region ?_; refine l_neu (n_move rfl rfl) rfl ?_; refine l_neu (n_assign rfl rfl) rfl ?_; refine l_nil ?_
    refine k1 ?_; refine k10 ?_
    exact met_ret (rets1 rfl rfl) (by repeat (first | exact tail_refl | refine tail_cons rfl ?_ | refine tail_forget _ ?_)) (fun _ _ h => h) ⟨rfl, rfl⟩
  · cases ht
theorem rowsN_free (files : List (List Str)) (i m : Nat) : (rowsN files i).all (TC.free m) = true := by
  rw [List.all_eq_true]
  intro t ht
  unfold rowsN at ht
  obtain ⟨r, _, rfl⟩ := List.mem_map.1 ht
  split <;> rfl
theorem rows_back {files : List (List Str)} {i : Nat} (b x : TC) (m : Nat) : (((rowsN files i).set i b).map (TC.forget m)).set i x = (rowsN files i).set i x := by
  have e1 : (rowsN files i).map (TC.forget m) = rowsN files i := by
    unfold rowsN
    rw [List.map_map]
    apply List.map_congr_left
    intro r _
    simp only [Function.comp]
    split <;> rfl
  rw [List.map_set, e1, List.set_set]
theorem rows_back2 {files : List (List Str)} {i : Nat} (b x : TC) (m m' : Nat) : ((((rowsN files i).set i b).map (TC.forget m)).map (TC.forget m')).set i x = (rowsN files i).set i x := by
  have e1 : ∀ m, (rowsN files i).map (TC.forget m) = rowsN files i := by
    intro m
    unfold rowsN
    rw [List.map_map]
    apply List.map_congr_left
    intro r _
    simp only [Function.comp]
    split <;> rfl
  rw [List.map_set, e1, List.map_set, e1, List.set_set]
theorem number_ok (files : List (List Str)) (hn : files.length ≤ 1048576) (hl : files.flatten.length ≤ 536870911) : FnOk Tryz.prog 175 [pStrss files] (fun rs => rs = [pIntss (files.map (idsOf (namesOf files))), pStrs (namesOf files)]) := by
  refine FnOk.intro Tryz.func175 (by decide) rfl rfl rfl rfl ?_
  refine k2 ?_
  refine c_region ?_; refine l_neu (n_assign rfl rfl) rfl ?_; refine l_neu (n_assign rfl rfl) rfl ?_; refine l_nil ?_
  refine k1 ?_; refine k2 ?_
  refine c_region ?_; refine l_effv (f_makeMap 711 Str strK rfl) rfl ?_; refine l_neu (n_build rfl) rfl ?_; refine l_effv (f_box 710 rfl rfl rfl) rfl ?_; refine l_neu (n_assign rfl rfl) rfl ?_; refine l_nil ?_
  refine k1 ?_; refine k2 ?_
  refine c_sees (Sees.adoptB 712 Str 1 strC 9 (kb := 710) (o := 1) rfl rfl rfl) ?_
  refine c_region ?_; refine l_neu (n_move rfl rfl) rfl ?_; refine l_neu (n_len rfl (.pure _ _ _ _)) rfl ?_; refine l_effv (f_makeZ 20 Unit (fun _ _ => .v (.slice none 0 0)) () rfl rfl (by omega) (by omega) (fun _ => by first | exact ⟨⟨rfl, rfl⟩, trivial⟩ | exact ⟨rep_nil _ _ _, trivial⟩) (by first | rfl | (simp [frFree, obFree, Ob.free, SV.free, S1.free, TC.free] <;> rfl))) rfl ?_; refine l_neu (n_assign rfl rfl) rfl ?_; refine l_nil ?_
  refine k1 ?_; refine k2 ?_; refine k2 ?_
  refine c_sees (Sees.toT1 20 rfl) ?_
  have hz : ((List.replicate ((files.length : Nat) : Int).toNat ()).map fun x => TC.p ((fun (_ : Unit) (_ : Nat) => Cell.v (.slice none 0 0)) x 0)) = rowsN files 0 := by
    rw [Int.toNat_natCast, ← rowsN_zero]; simp
  have hz2 : (List.replicate ((files.length : Nat) : Int).toNat ()).length = files.length := by simp
  rw [hz, hz2]
  refine c_region ?_; refine l_neu (n_move rfl rfl) rfl ?_; refine l_neu (n_len rfl (.pure _ _ _ _)) rfl ?_; refine l_neu (n_move rfl rfl) rfl ?_; refine l_nil ?_
  refine k1 ?_; refine k3 ?_
  refine c_while (X := Nat) (fun i => ([(4, .s (.one (.ref 710 0))), (5, .s (.one (.mut 20))), (16, sList (List Str) 1 strsC files), (17, sInt files.length), (18, sInt i)], [(710, .box [.mut 711, .buf 712 Str 1 strC (namesTo files i 0)]), (711, .map Str strK (kvOf (namesTo files i 0) 0)), (712, .spare (namesTo files i 0).length 1 9), (20, .tarr files.length 1 (rowsN files i))])) (fun i => i ≤ files.length) (fun i => files.length - i) 0 (Nat.zero_le _) ?_ ?_
  · rw [show namesTo files 0 0 = [] from rfl]
    exact Sees.of ⟨le1 rfl, le1 rfl, le1 rfl, le1 rfl, le1 rfl, trivial⟩ ⟨rfl, rfl, rfl, rfl, trivial⟩
  intro i hi
  dsimp only at hi ⊢
  refine k2 ?_
  refine c_region ?_; refine l_neu (n_lss rfl rfl) rfl ?_; refine l_nil ?_
  refine k1 ?_; refine k2 ?_
  refine c_cond rfl (fun ht => ?_) (fun ht => ?_)
  · have hlt : i < files.length := by have := of_decide_eq_true ht; omega
    obtain ⟨f, hf⟩ : ∃ f, f = files.getD i [] := ⟨_, rfl⟩
    have hv : files[i]? = some f := by rw [hf]; simp [hlt]
    have hfl : f.length ≤ files.flatten.length := by
      have h1 : f ∈ files := List.mem_of_getElem? hv
      have : ∀ (fs : List (List Str)), f ∈ fs → f.length ≤ fs.flatten.length := by
        intro fs
        induction fs with
        | nil => intro h; simp at h
        | cons x r ih =>
          intro h
          simp only [List.flatten_cons, List.length_append]
          rcases List.mem_cons.1 h with rfl | h
          · omega
          · have := ih h; omega
      exact this files h1
    have hrl : (rowsN files i).length = files.length := by simp [rowsN]
    refine k5 ?_; refine k1 ?_; refine k2 ?_; refine k3 ?_; refine k2 ?_
    refine c_region ?_; refine l_neu (n_move rfl rfl) rfl ?_; refine l_neu (n_indexAddr rfl (.pure _ _ _ _) rfl (by omega) hv) rfl ?_; refine l_neu (n_load_eref rfl rfl) rfl ?_; refine l_neu (n_assign rfl rfl) rfl ?_; refine l_neu (n_assign rfl rfl) rfl ?_; refine l_nil ?_
    refine k1 ?_; refine k2 ?_
    refine c_region ?_; refine l_neu (n_move rfl rfl) rfl ?_; refine l_neu (n_len rfl (.pure _ _ _ _)) rfl ?_; refine l_neu (n_move rfl rfl) rfl ?_; refine l_nil ?_
    refine k1 ?_; refine k3 ?_
    refine c_sees (Sees.adoptE 713 Int 1 intC 3 (kb := 20) (o := i) rfl (rowsN_get hlt) (by simp [frFree, obFree, Ob.free, SV.free, S1.free, TC.free, rowsN_free]; repeat' (first | rfl | constructor))) ?_
    refine c_while (X := Nat) (fun j => ([(4, .s (.one (.ref 710 0))), (5, .s (.one (.mut 20))), (6, sInt i), (16, sList (List Str) 1 strsC files), (17, sInt files.length), (18, sInt i), (23, sList Str 1 strC f), (24, sInt f.length), (25, sInt j)], [(20, .tarr files.length 1 ((rowsN files i).set i (.buf 713 Int 1 intC (idsOf (namesOf files) (f.take j))))), (710, .box [.mut 711, .buf 712 Str 1 strC (namesTo files i j)]), (711, .map Str strK (kvOf (namesTo files i j) 0)), (712, .spare (namesTo files i j).length 1 9), (713, .spare (idsOf (namesOf files) (f.take j)).length 1 3)])) (fun j => j ≤ f.length) (fun j => f.length - j) 0 (Nat.zero_le _) ?_ ?_
    · exact Sees.of ⟨le1 rfl, le1 rfl, le1 rfl, le1 rfl, le1 rfl, le1 rfl, le1 rfl, le1 rfl, le1 rfl, trivial⟩ ⟨rfl, rfl, rfl, rfl, rfl, trivial⟩
    intro j hj
    dsimp only at hj ⊢
    refine k2 ?_
    refine c_region ?_; refine l_neu (n_lss rfl rfl) rfl ?_; refine l_nil ?_
    refine k1 ?_; refine k2 ?_
    refine c_cond rfl (fun ht => ?_) (fun ht => ?_)
    · have hlt2 : j < f.length := by have := of_decide_eq_true ht; omega
      obtain ⟨s, hs⟩ : ∃ s, s = f[j] := ⟨_, rfl⟩
      have hvs : f[j]? = some s := by rw [hs]; simp [hlt2]
      have hstep := namesTo_step files i j s (by rw [← hf]; exact hvs)
      obtain ⟨names, hnm⟩ : ∃ names, names = namesTo files i j := ⟨_, rfl⟩
      have hnl := namesTo_length files i j
      obtain ⟨rest, hrest⟩ := namesTo_sub files i (j + 1)
      obtain ⟨ids, hids⟩ : ∃ ids, ids = idsOf (namesOf files) (f.take j) := ⟨_, rfl⟩
      have hil : ids.length = j := by rw [hids]; simp [idsOf]; omega
      have hnext : idsOf (namesOf files) (f.take (j + 1)) = ids ++ [placeOf (namesOf files) s 0] := by
        rw [hids, List.take_succ_eq_append_getElem hlt2, ← hs]; unfold idsOf; rw [List.map_append]; rfl
      rw [hstep] at hrest
      rw [← hnm] at hstep hnl hrest ⊢
      rw [← hids]
      have hTi : ((rowsN files i).set i (.buf 713 Int 1 intC ids))[((i : Nat) : Int).toNat]? = some (.buf 713 Int 1 intC ids) := by
        rw [Int.toNat_natCast, List.getElem?_set_self (by rw [hrl]; omega)]
      have hTi2 : (((rowsN files i).set i (.buf 713 Int 1 intC ids)).map (TC.forget 712))[((i : Nat) : Int).toNat]? = some (.buf 713 Int 1 intC ids) := by
        rw [List.getElem?_map, hTi]; rfl
      refine k5 ?_; refine k1 ?_; refine k2 ?_; refine k3 ?_; refine k2 ?_
      refine c_region ?_; refine l_neu (n_indexAddr rfl (.pure _ _ _ _) rfl (by omega) hvs) rfl ?_; refine l_neu (n_load_eref rfl rfl) rfl ?_; refine l_neu (n_assign rfl rfl) rfl ?_; refine l_nil ?_
      by_cases hmem : s ∈ names
      · have hns : namesStep names s = names := by unfold namesStep; rw [if_pos hmem]
        rw [hns] at hstep hrest
        have hpl : placeOf (namesOf files) s 0 = placeOf names s 0 := by rw [hrest]; exact placeOf_app s rest names 0 hmem
        refine then_normal ?_
        refine c_cut ((9, sStr s) :: [(4, .s (.one (.ref 710 0))), (5, .s (.one (.mut 20))), (6, sInt i), (16, sList (List Str) 1 strsC files), (17, sInt files.length), (18, sInt i), (23, sList Str 1 strC f), (24, sInt f.length), (25, sInt j)]) [(20, .tarr files.length 1 ((rowsN files i).set i (.buf 713 Int 1 intC ids))), (710, .box [.mut 711, .buf 712 Str 1 strC names]), (711, .map Str strK (kvOf names 0)), (712, .spare names.length 1 9), (713, .spare ids.length 1 3)] (Sees.of ⟨le1 rfl, le1 rfl, le1 rfl, le1 rfl, le1 rfl, le1 rfl, le1 rfl, le1 rfl, le1 rfl, le1 rfl, trivial⟩ ⟨rfl, rfl, rfl, rfl, rfl, trivial⟩) ?_
        refine c_region_ord [12, 10, 8] [[], [8], [10, 8], [12, 10, 8]] [(8, ([], [])), (10, ([713], [34])), (12, ([], []))] [(0, []), (1, []), (2, []), (3, []), (4, []), (5, []), (6, []), (7, []), (8, []), (9, [8]), (10, [8]), (11, [10, 8]), (12, [10, 8])] [(0, [8]), (0, [10, 8]), (1, [8]), (1, [10, 8]), (2, [8]), (3, [8]), (4, [8]), (5, [8])] (by kernel_rfl) (by kernel_rfl) ?_; refine w_neu rfl rfl (by kernel_rfl) rfl rfl (n_move rfl rfl) ?_; refine w_neu rfl rfl (by kernel_rfl) rfl rfl (n_move rfl rfl) ?_; refine w_neu rfl rfl (by kernel_rfl) rfl rfl (n_move rfl rfl) ?_; refine w_neu rfl rfl (by kernel_rfl) rfl rfl (n_move rfl rfl) ?_; refine w_neu rfl rfl (by kernel_rfl) rfl rfl (n_indexAddr_mutT rfl rfl rfl (by omega) (by omega)) ?_; refine w_neu rfl rfl (by kernel_rfl) rfl rfl (n_load_mrefT1 rfl rfl (by first | exact hTi | exact hTi2)) ?_; refine w_neu rfl rfl (by kernel_rfl) rfl rfl (n_move rfl rfl) ?_; refine w_neu rfl rfl (by kernel_rfl) rfl rfl (n_move rfl rfl) ?_; refine w_eff rfl rfl (by kernel_rfl) rfl rfl (r_met (fun gf => tid_old names s hmem rfl rfl) rfl rfl) rfl ?_; refine w_neu rfl rfl (by kernel_rfl) rfl rfl (n_buildSlice (c := intC) (ys := [placeOf names s 0]) (asm_cons rfl rfl rfl rfl asm_nil) rfl rfl rfl) ?_; refine w_eff rfl rfl (by kernel_rfl) rfl rfl (r_turn (fun frc hU => e_append (opvU hU rfl) rfl (opvU hU rfl) (.pure _ _ _ _) (by (simp only [List.length_cons, List.length_nil]; omega)) rfl)) rfl ?_; refine w_neu rfl rfl (by kernel_rfl) rfl rfl (n_indexAddr_mutT rfl rfl rfl (by omega) (by omega)) ?_; refine w_eff rfl rfl (by kernel_rfl) rfl rfl (r_eff (fun frc hU => e_store_mrefT1 TySz.out (opvU hU rfl) rfl (by (simp; omega)) (opvU hU rfl) rfl)) rfl ?_; refine w_nil (by kernel_rfl) rfl ?_ ?_
        · refine x_neu rfl rfl (by kernel_rfl) rfl rfl (n_move rfl rfl) ?_; refine x_neu rfl rfl (by kernel_rfl) rfl rfl (n_move rfl rfl) ?_; refine x_neu rfl rfl (by kernel_rfl) rfl rfl (n_move rfl rfl) ?_; refine x_neu rfl rfl (by kernel_rfl) rfl rfl (n_move rfl rfl) ?_; refine x_neu rfl rfl (by kernel_rfl) rfl rfl (n_move rfl rfl) ?_; refine x_neu rfl rfl (by kernel_rfl) rfl rfl (n_move rfl rfl) ?_; refine x_neu rfl rfl (by kernel_rfl) rfl rfl (n_indexAddr_mutT rfl rfl rfl (by omega) (by omega)) ?_; refine x_neu rfl rfl (by kernel_rfl) rfl rfl (n_load_mrefT1 rfl rfl (by first | exact hTi | exact hTi2)) ?_; exact x_nil
        refine c_cut [(4, .s (.one (.ref 710 0))), (5, .s (.one (.mut 20))), (6, sInt i), (16, sList (List Str) 1 strsC files), (17, sInt files.length), (18, sInt i), (23, sList Str 1 strC f), (24, sInt f.length), (25, sInt j)] [(20, .tarr files.length 1 ((rowsN files i).set i (.buf 713 Int 1 intC (ids ++ [placeOf names s 0])))), (710, .box [.mut 711, .buf 712 Str 1 strC (names)]), (711, .map Str strK (kvOf (names) 0)), (712, .spare (names).length 1 9), (713, .spare (ids ++ [placeOf names s 0]).length 1 3)] (by rw [Int.toNat_natCast i, rows_back]; exact Sees.of ⟨le1 rfl, le1 rfl, le1 rfl, le1 rfl, le1 rfl, le1 rfl, le1 rfl, le1 rfl, le1 rfl, trivial⟩ ⟨rfl, rfl, rfl, rfl, rfl, trivial⟩) ?_
        refine c_region ?_; refine l_neu (n_add rfl rfl (by omega)) rfl ?_; refine l_neu (n_move rfl rfl) rfl ?_; refine l_nil ?_
        refine k1 ?_
        exact ⟨j + 1, hlt2, by omega, by rw [hstep, hnext, hpl]; exact Sees.of ⟨le1 rfl, le1 rfl, le1 rfl, le1 rfl, le1 rfl, le1 rfl, le1 rfl, le1 rfl, le1 rfl, trivial⟩ ⟨rfl, rfl, rfl, rfl, rfl, trivial⟩⟩
      · refine then_normal ?_
        have hns : namesStep names s = names ++ [s] := by unfold namesStep; rw [if_neg hmem]
        rw [hns] at hstep hrest
        have hkv : kvOf (names ++ [s]) 0 = kvOf names 0 ++ [(s, .v (.int .i64 (names.length : Int)))] := by rw [kvOf_snoc]; simp only [Int.zero_add]
        have hpl : placeOf (namesOf files) s 0 = names.length := by
          rw [hrest, placeOf_app s rest (names ++ [s]) 0 (by simp), placeOf_new s names 0 hmem]; omega
        refine c_cut ((9, sStr s) :: [(4, .s (.one (.ref 710 0))), (5, .s (.one (.mut 20))), (6, sInt i), (16, sList (List Str) 1 strsC files), (17, sInt files.length), (18, sInt i), (23, sList Str 1 strC f), (24, sInt f.length), (25, sInt j)]) [(20, .tarr files.length 1 ((rowsN files i).set i (.buf 713 Int 1 intC (ids)))), (710, .box [.mut 711, .buf 712 Str 1 strC (names)]), (711, .map Str strK (kvOf (names) 0)), (712, .spare (names).length 1 9), (713, .spare (ids).length 1 3)] (Sees.of ⟨le1 rfl, le1 rfl, le1 rfl, le1 rfl, le1 rfl, le1 rfl, le1 rfl, le1 rfl, le1 rfl, le1 rfl, trivial⟩ ⟨rfl, rfl, rfl, rfl, rfl, trivial⟩) ?_
        refine c_region_ord [12, 10, 8] [[], [8], [10, 8], [12, 10, 8]] [(8, ([712], [])), (10, ([713], [34])), (12, ([], []))] [(0, []), (1, []), (2, []), (3, []), (4, []), (5, []), (6, []), (7, []), (8, []), (9, [8]), (10, [8]), (11, [10, 8]), (12, [10, 8])] [(0, [8]), (0, [10, 8]), (1, [8]), (1, [10, 8]), (2, [8]), (3, [8]), (4, [8]), (5, [8])] (by kernel_rfl) (by kernel_rfl) ?_; refine w_neu rfl rfl (by kernel_rfl) rfl rfl (n_move rfl rfl) ?_; refine w_neu rfl rfl (by kernel_rfl) rfl rfl (n_move rfl rfl) ?_; refine w_neu rfl rfl (by kernel_rfl) rfl rfl (n_move rfl rfl) ?_; refine w_neu rfl rfl (by kernel_rfl) rfl rfl (n_move rfl rfl) ?_; refine w_neu rfl rfl (by kernel_rfl) rfl rfl (n_indexAddr_mutT rfl rfl rfl (by omega) (by omega)) ?_; refine w_neu rfl rfl (by kernel_rfl) rfl rfl (n_load_mrefT1 rfl rfl (by first | exact hTi | exact hTi2)) ?_; refine w_neu rfl rfl (by kernel_rfl) rfl rfl (n_move rfl rfl) ?_; refine w_neu rfl rfl (by kernel_rfl) rfl rfl (n_move rfl rfl) ?_; refine w_eff rfl rfl (by kernel_rfl) rfl rfl (r_met (fun gf => tid_new names s hmem (by omega) rfl rfl rfl) rfl rfl) rfl ?_; refine w_neu rfl rfl (by kernel_rfl) rfl rfl (n_buildSlice (c := intC) (ys := [(names.length : Int)]) (asm_cons rfl rfl rfl rfl asm_nil) rfl rfl rfl) ?_; refine w_eff rfl rfl (by kernel_rfl) rfl rfl (r_turn (fun frc hU => e_append (opvU hU rfl) rfl (opvU hU rfl) (.pure _ _ _ _) (by (simp only [List.length_cons, List.length_nil]; omega)) rfl)) rfl ?_; refine w_neu rfl rfl (by kernel_rfl) rfl rfl (n_indexAddr_mutT rfl rfl rfl (by omega) (by omega)) ?_; refine w_eff rfl rfl (by kernel_rfl) rfl rfl (r_eff (fun frc hU => e_store_mrefT1 TySz.out (opvU hU rfl) rfl (by (simp; omega)) (opvU hU rfl) rfl)) rfl ?_; refine w_nil (by kernel_rfl) rfl ?_ ?_
        · refine x_neu rfl rfl (by kernel_rfl) rfl rfl (n_move rfl rfl) ?_; refine x_neu rfl rfl (by kernel_rfl) rfl rfl (n_move rfl rfl) ?_; refine x_neu rfl rfl (by kernel_rfl) rfl rfl (n_move rfl rfl) ?_; refine x_neu rfl rfl (by kernel_rfl) rfl rfl (n_move rfl rfl) ?_; refine x_neu rfl rfl (by kernel_rfl) rfl rfl (n_move rfl rfl) ?_; refine x_neu rfl rfl (by kernel_rfl) rfl rfl (n_move rfl rfl) ?_; refine x_neu rfl rfl (by kernel_rfl) rfl rfl (n_indexAddr_mutT rfl rfl rfl (by omega) (by omega)) ?_; refine x_neu rfl rfl (by kernel_rfl) rfl rfl (n_load_mrefT1 rfl rfl (by first | exact hTi | exact hTi2)) ?_; exact x_nil
        refine c_cut [(4, .s (.one (.ref 710 0))), (5, .s (.one (.mut 20))), (6, sInt i), (16, sList (List Str) 1 strsC files), (17, sInt files.length), (18, sInt i), (23, sList Str 1 strC f), (24, sInt f.length), (25, sInt j)] [(20, .tarr files.length 1 ((rowsN files i).set i (.buf 713 Int 1 intC (ids ++ [(names.length : Int)])))), (710, .box [.mut 711, .buf 712 Str 1 strC (names ++ [s])]), (711, .map Str strK (kvOf (names ++ [s]) 0)), (712, .spare (names ++ [s]).length 1 9), (713, .spare (ids ++ [(names.length : Int)]).length 1 3)] (by rw [Int.toNat_natCast i, rows_back2, hkv]; exact Sees.of ⟨le1 rfl, le1 rfl, le1 rfl, le1 rfl, le1 rfl, le1 rfl, le1 rfl, le1 rfl, le1 rfl, trivial⟩ ⟨rfl, rfl, rfl, rfl, rfl, trivial⟩) ?_
        refine c_region ?_; refine l_neu (n_add rfl rfl (by omega)) rfl ?_; refine l_neu (n_move rfl rfl) rfl ?_; refine l_nil ?_
        refine k1 ?_
        exact ⟨j + 1, hlt2, by omega, by rw [hstep, hnext, hpl]; exact Sees.of ⟨le1 rfl, le1 rfl, le1 rfl, le1 rfl, le1 rfl, le1 rfl, le1 rfl, le1 rfl, le1 rfl, trivial⟩ ⟨rfl, rfl, rfl, rfl, rfl, trivial⟩⟩
    · have hj2 : j = f.length := by have := of_decide_eq_false ht; omega
      subst hj2
      rw [List.take_length]
      refine k6 ?_; refine k7 ?_; refine k7 ?_; refine k8 rfl ?_; refine k4 ?_; refine k1 ?_
      refine c_sees (Sees.forget 713) ?_
      have hfr : ((rowsN files i).set i (.buf 713 Int 1 intC (idsOf (namesOf files) f))).map (TC.forget 713) = rowsN files (i + 1) := by rw [hf]; exact rowsN_forget files i 713 hlt
      have hnr : namesTo files (i + 1) 0 = namesTo files i f.length := by rw [hf]; exact namesTo_row files i
      refine c_cut [(4, .s (.one (.ref 710 0))), (5, .s (.one (.mut 20))), (16, sList (List Str) 1 strsC files), (17, sInt files.length), (18, sInt i)] [(710, .box [.mut 711, .buf 712 Str 1 strC (namesTo files (i + 1) 0)]), (711, .map Str strK (kvOf (namesTo files (i + 1) 0) 0)), (712, .spare (namesTo files (i + 1) 0).length 1 9), (20, .tarr files.length 1 (rowsN files (i + 1)))] (by rw [hnr, ← hfr]; exact Sees.of ⟨le1 rfl, le1 rfl, le1 rfl, le1 rfl, le1 rfl, trivial⟩ ⟨rfl, rfl, rfl, rfl, trivial⟩) ?_
      refine c_region ?_; refine l_neu (n_add rfl rfl (by omega)) rfl ?_; refine l_neu (n_move rfl rfl) rfl ?_; refine l_nil ?_
      refine k1 ?_
      exact ⟨i + 1, hlt, by omega, Sees.of ⟨le1 rfl, le1 rfl, le1 rfl, le1 rfl, le1 rfl, trivial⟩ ⟨rfl, rfl, rfl, rfl, trivial⟩⟩
  · have hi2 : i = files.length := by have := of_decide_eq_false ht; omega
    rw [hi2, namesTo_all]
    refine c_sees (Sees.ofT1 20 (c := intsC) (files.map (idsOf (namesOf files))) rfl (by simp) (rowsN_full files)) ?_
    refine c_sees (Sees.freeze (k := 20) rfl) ?_
    refine c_sees (Sees.forget 712) ?_
    refine k6 ?_; refine k2 ?_
    refine c_region_draw (by kernel_rfl) (by kernel_rfl) ?_; refine d_neu (n_move rfl rfl) rfl rfl ?_; refine d_neu (n_move rfl rfl) rfl rfl ?_; refine d_neu (n_nilCheck_ref rfl) rfl rfl ?_; refine d_neu (n_field_ref rfl) rfl rfl ?_; refine d_neu (n_load_ref rfl rfl rfl) rfl rfl ?_; refine d_neu (n_assign rfl rfl) rfl rfl ?_; refine d_neu (n_assign rfl rfl) rfl rfl ?_; refine d_nil ?_
    refine k1 ?_; refine k10 ?_
    exact ret_ret (ret2 rfl rfl rfl rfl rfl) rfl
theorem internIds_ok (files : List (List Str)) (hn : files.length ≤ 1048576) (hl : files.flatten.length ≤ 536870911) : FnOk Tryz.prog 108 [pStrss files] (fun rs => rs = [pIntss (files.map (idsOf (namesOf files)))]) := by
  refine FnOk.intro Tryz.func108 (by decide) rfl rfl rfl rfl ?_
  refine k2 ?_
  refine c_region ?_; refine l_neu (n_assign rfl rfl) rfl ?_; refine l_nil ?_
  refine k1 ?_; refine k2 ?_
  refine c_region ?_; refine l_neu (n_move rfl rfl) rfl ?_; refine l_call (number_ok files hn hl) rfl rfl rfl ?_; rintro _ rfl; refine l_neu (n_move rfl rfl) rfl ?_; refine l_neu (n_extract rfl rfl) rfl ?_; refine l_neu (n_extract rfl rfl) rfl ?_; refine l_neu (n_assign rfl rfl) rfl ?_; refine l_neu (n_assign rfl rfl) rfl ?_; refine l_nil ?_
  refine k1 ?_; refine k2 ?_
  refine c_region ?_; refine l_neu (n_move rfl rfl) rfl ?_; refine l_neu (n_assign rfl rfl) rfl ?_; refine l_nil ?_
  refine k1 ?_; refine k10 ?_
  exact ret_ret (ret1 rfl rfl rfl) rfl
end Go.Proofs.YtbiadkkamhpdnaaGreatDoor
namespace Go.Proofs.YtbiadkkamhpdnaaGreatDoor
open Go Go.AL
set_option maxRecDepth 100000
theorem coalesceFrom_ok : ∀ (ls : List (List Int)) (acc : List Merged) (p B : Nat), (∀ x ∈ ls, x.length ≤ B) → acc.length + ls.length * B ≤ 4096 → (coalesceFrom acc p ls).2 = 0
  | [], acc, p, B, _, _ => rfl
  | x :: r, acc, p, B, h, hb => by
    have hx := h x (by simp)
    rw [List.length_cons, Nat.add_mul, Nat.one_mul] at hb
    have hj := joined_size acc x p
    unfold coalesceFrom
    rw [if_neg (by omega)]
    exact coalesceFrom_ok r _ _ B (fun y hy => h y (by simp [hy])) (by omega)
theorem shl32_nat (p : Nat) (h : p ≤ 32) : IntKind.u32.wrap (1 * 2 ^ (min (p : Int).toNat IntKind.u32.bits)) = bitOf p := by
  unfold bitOf; rw [u64_id (n := (p : Int)) (by omega)]
set_option maxHeartbeats 1000000
theorem lcoalesce_ok (ls : List (List Int)) (B : Nat) (hpos : 0 < ls.length) (hn : ls.length ≤ 32) (hB : ∀ x ∈ ls, x.length ≤ B) (hb : ls.length * B ≤ 4096) : FnOk Tryz.prog 176 [pIntss ls] (fun rs => rs = [pMerged (coalesceOf ls).1, pInt 0]) := by
  obtain ⟨W, hW⟩ : ∃ W, W = (coalesceOf ls).1 := ⟨_, rfl⟩
  have hW2 : W = (coalesceFrom [] 0 ls).1 := by rw [hW]; unfold coalesceOf; rw [if_neg (by omega)]
  rw [← hW]
  have h0 : ∀ x, ls[(0 : Int).toNat]? = some x → x.length ≤ 4096 := fun x hx => by
    have h1 := hB x (List.mem_of_getElem? hx)
    have h2 : 0 < ls.length := List.length_pos_of_mem (List.mem_of_getElem? hx)
    have h3 : 1 * B ≤ ls.length * B := Nat.mul_le_mul_right _ h2
    omega
  have hx0 : 0 < ls.length → ∃ x, ls[(0 : Int).toNat]? = some x ∧ x.length ≤ 4096 := fun h => ⟨ls[0], List.getElem?_eq_getElem h, h0 _ (List.getElem?_eq_getElem h)⟩
  refine FnOk.intro Tryz.func176 (by decide) rfl rfl rfl rfl ?_
  refine k2 ?_
  refine c_region ?_; refine l_neu (n_assign rfl rfl) rfl ?_; refine l_neu (n_assign rfl rfl) rfl ?_; refine l_nil ?_
  refine k1 ?_; refine k2 ?_; refine k2 ?_
  obtain ⟨x0, hv0, hxl⟩ := hx0 hpos
  refine c_region ?_; refine l_neu (n_move rfl rfl) rfl ?_; refine l_neu (n_len rfl (.pure _ _ _ _)) rfl ?_; refine l_neu (n_gtr rfl rfl) rfl ?_; refine l_neu (n_move rfl rfl) rfl ?_; refine l_guard rfl rfl rfl rfl (fun hg => by rw [hg]; exact n_move rfl rfl) ?_; refine l_guard rfl rfl rfl rfl (fun hg => by rw [hg]; exact n_len rfl (.pure _ _ _ _)) ?_; refine l_guard rfl rfl rfl rfl (fun hg => by rw [hg]; exact n_gtr rfl rfl) ?_; refine l_guard rfl rfl rfl rfl (fun hg => by rw [hg]; exact n_move rfl rfl) ?_; refine l_guardW rfl rfl rfl (.gd (.val _)) rfl (fun hg => by obtain ⟨hg1, hg2⟩ := gd_and hg; (try rw [hg1]); (try rw [hg2]); exact n_move rfl rfl) ?_; refine l_guardW rfl rfl rfl (.gd (.val _)) rfl (fun hg => by have hq := hg; (try simp at hq); obtain ⟨hg1, hg2⟩ := gd_and hg; (try rw [hg1]); (try rw [hg2]); exact n_indexAddr rfl (.pure _ _ _ _) rfl (by omega) hv0) ?_; refine l_guardW rfl rfl rfl (.gd (.val _)) rfl (fun hg => by obtain ⟨hg1, hg2⟩ := gd_and hg; (try rw [hg1]); (try rw [hg2]); exact n_load_eref rfl rfl) ?_; refine l_guardW rfl rfl rfl (.gd (.val _)) rfl (fun hg => by obtain ⟨hg1, hg2⟩ := gd_and hg; (try rw [hg1]); (try rw [hg2]); exact n_len rfl (.pure _ _ _ _)) ?_; refine l_guardW rfl rfl rfl (.gd (.val _)) rfl (fun hg => by obtain ⟨hg1, hg2⟩ := gd_and hg; (try rw [hg1]); (try rw [hg2]); exact n_gtr rfl rfl) ?_; refine l_guard rfl rfl rfl rfl (fun hg => by rw [hg]; exact n_pick_bool rfl (fun h => by first | rfl | (rw [h]; rfl)) (fun h => by first | rfl | (rw [h]; rfl))) ?_; refine l_neu (n_pick_bool rfl (fun h => by first | rfl | (rw [h]; rfl)) (fun h => by first | rfl | (rw [h]; rfl))) rfl ?_; refine l_nil ?_
  refine k1 ?_
  refine c_cond rfl (fun ht => ?_) (fun ht => ?_)
  · exfalso
    have q1 : ¬ ((ls.length : Int) > 32) := by omega
    have q2 : ¬ ((x0.length : Int) > 4096) := by omega
    simp [q1, q2] at ht
  refine c_cut [(0, sList (List Int) 1 intsC ls)] [] (Sees.of ⟨le1 rfl, trivial⟩ trivial) ?_
  refine k5 ?_; refine k1 ?_; refine k2 ?_
  refine c_region ?_; refine l_neu (n_assign_nil _ 2 mergedC) rfl ?_; refine l_nil ?_
  refine k1 ?_; refine k2 ?_; refine k2 ?_
  refine c_region ?_; refine l_neu (n_move rfl rfl) rfl ?_; refine l_neu (n_len rfl (.pure _ _ _ _)) rfl ?_; refine l_neu (n_move rfl rfl) rfl ?_; refine l_nil ?_
  refine k1 ?_; refine k3 ?_
  refine c_while (X := Nat × List Merged) (fun x => ([(4, sList Merged 2 mergedC x.2), (23, sList (List Int) 1 intsC ls), (24, sInt ls.length), (25, sInt x.1)], [])) (fun x => x.1 ≤ ls.length ∧ x.2.length ≤ x.1 * B ∧ W = (coalesceFrom x.2 x.1 (ls.drop x.1)).1) (fun x => ls.length - x.1) (0, []) ⟨Nat.zero_le _, (by simp), hW2⟩ (Sees.of ⟨le1 rfl, le1 rfl, le1 rfl, le1 rfl, trivial⟩ trivial) ?_
  rintro ⟨p, acc⟩ ⟨hp, hal, hw⟩
  dsimp only at hp hal hw ⊢
  have hpB : p * B ≤ ls.length * B := Nat.mul_le_mul_right _ hp
  refine k2 ?_
  refine c_region ?_; refine l_neu (n_lss rfl rfl) rfl ?_; refine l_nil ?_
  refine k1 ?_; refine k2 ?_
  refine c_cond rfl (fun ht => ?_) (fun ht => ?_)
  rotate_left
  · have hpl : p = ls.length := by have := of_decide_eq_false ht; omega
    rw [hpl, List.drop_eq_nil_of_le (Nat.le_refl _)] at hw
    have hw : W = acc := hw
    refine k6 ?_; refine k2 ?_
    refine c_region ?_; refine l_neu (n_move rfl rfl) rfl ?_; refine l_neu (n_assign rfl rfl) rfl ?_; refine l_neu (n_assign rfl rfl) rfl ?_; refine l_nil ?_
    refine k1 ?_; refine k10 ?_
    exact ret_ret (ret2 rfl rfl rfl rfl rfl) (by rw [hw])
  have hlt : p < ls.length := by have := of_decide_eq_true ht; omega
  have hv : ls[p]? = some ls[p] := by simp [hlt]
  have hx := hB _ (List.getElem_mem hlt)
  rw [List.drop_eq_getElem_cons hlt, coalesceFrom] at hw
  obtain ⟨x, hxd⟩ : ∃ x, x = ls[p] := ⟨_, rfl⟩
  rw [← hxd] at hv hx hw
  have h1B : 1 * B ≤ ls.length * B := Nat.mul_le_mul_right _ hpos
  rw [if_neg (by omega)] at hw
  have hjs := joined_size acc x p
  have hM := lmerge_ok acc x (bitOf p) (by omega) (by omega)
  have hres : mergedRes acc x (bitOf p) = joinedOf acc x p := rfl
  rw [hres] at hM
  refine k5 ?_; refine k1 ?_; refine k2 ?_; refine k3 ?_; refine k2 ?_
  refine c_region ?_; refine l_neu (n_move rfl rfl) rfl ?_; refine l_neu (n_indexAddr rfl (.pure _ _ _ _) rfl (by omega) hv) rfl ?_; refine l_neu (n_load_eref rfl rfl) rfl ?_; refine l_neu (n_assign rfl rfl) rfl ?_; refine l_neu (n_assign rfl rfl) rfl ?_; refine l_nil ?_
  refine k1 ?_; refine k2 ?_
  refine c_region ?_; refine l_neu (n_assign rfl rfl) rfl ?_; refine l_nil ?_
  refine k1 ?_; refine k2 ?_
  refine c_region ?_; refine l_neu (n_move rfl rfl) rfl ?_; refine l_neu (n_move rfl rfl) rfl ?_; refine l_neu (n_move rfl rfl) rfl ?_; refine l_neu (n_shl rfl rfl (by (show (0 : Int) ≤ (p : Int); omega))) rfl ?_; rw [shl32_nat p (by omega)]; refine l_call hM rfl rfl rfl ?_; rintro _ rfl; refine l_neu (n_move rfl rfl) rfl ?_; refine l_neu (n_extract rfl rfl) rfl ?_; refine l_neu (n_extract rfl rfl) rfl ?_; refine l_neu (n_assign rfl rfl) rfl ?_; refine l_neu (n_assign rfl rfl) rfl ?_; refine l_nil ?_
  refine k1 ?_; refine k2 ?_
  refine c_region ?_; refine l_neu (n_move rfl rfl) rfl ?_; refine l_neu (n_neq rfl rfl) rfl ?_; refine l_nil ?_
  refine k1 ?_
  refine c_cond rfl (fun ht => ?_) (fun ht => ?_)
  · cases ht
  refine k5 ?_; refine k4 ?_; refine k1 ?_
  refine c_region ?_; refine l_neu (n_add rfl rfl (by omega)) rfl ?_; refine l_neu (n_move rfl rfl) rfl ?_; refine l_nil ?_
  refine k1 ?_
  exact ⟨(p + 1, joinedOf acc x p), ⟨by dsimp only; omega, by dsimp only; rw [Nat.add_mul]; omega, hw⟩, by dsimp only; omega, Sees.of ⟨le1 rfl, le1 rfl, le1 rfl, le1 rfl, trivial⟩ trivial⟩
theorem internNames_ok (files : List (List Str)) (hn : files.length ≤ 1048576) (hl : files.flatten.length ≤ 536870911) : FnOk Tryz.prog 109 [pStrss files] (fun rs => rs = [pStrs (namesOf files)]) := by
  refine FnOk.intro Tryz.func109 (by decide) rfl rfl rfl rfl ?_
  refine k2 ?_
  refine c_region ?_; refine l_neu (n_assign rfl rfl) rfl ?_; refine l_nil ?_
  refine k1 ?_; refine k2 ?_
  refine c_region ?_; refine l_neu (n_move rfl rfl) rfl ?_; refine l_call (number_ok files hn hl) rfl rfl rfl ?_; rintro _ rfl; refine l_neu (n_move rfl rfl) rfl ?_; refine l_neu (n_extract rfl rfl) rfl ?_; refine l_neu (n_extract rfl rfl) rfl ?_; refine l_neu (n_assign rfl rfl) rfl ?_; refine l_neu (n_assign rfl rfl) rfl ?_; refine l_nil ?_
  refine k1 ?_; refine k2 ?_
  refine c_region ?_; refine l_neu (n_move rfl rfl) rfl ?_; refine l_neu (n_assign rfl rfl) rfl ?_; refine l_nil ?_
  refine k1 ?_; refine k10 ?_
  exact ret_ret (ret1 rfl rfl rfl) rfl
end Go.Proofs.YtbiadkkamhpdnaaGreatDoor
namespace Go.Proofs.YtbiadkkamhpdnaaGreatDoor
open Go Go.AL
set_option maxRecDepth 100000
abbrev gapRow (m : Nat) : List TC := rowDown intsC m 0 (fun _ => ([] : List (List Int)))
abbrev loomBox (names : List Str) (lines : List Int) (n : Nat) : Ob := .box [.p (.list Str 1 strC names), .p (.list Int 1 intC lines), .mut 731, .mut 732, .p (.v (.int .i64 n)), .p (.v (.slice none 0 0))]
abbrev t4Box : Ob := .box [.p (.v (.int .i64 0)), .p (.v (.slice none 0 0))]
abbrev loomO (names : List Str) (lines ms : List Int) (g : Nat → List (List Int)) (n m : Nat) : Obs :=
  (4, t4Box) :: (730, loomBox names lines n) :: (731, .arr Int 1 u32C ms) :: (732, .growT 138 m 1 (gapRow m)) :: gapObs intsC g (List.range m)
theorem gapRow_free {m k : Nat} (hk : k < 1000) : (gapRow m).all (TC.free k) = true := by
  rw [List.all_eq_true]
  intro t ht
  obtain ⟨r, _, rfl⟩ := List.mem_map.1 ht
  rw [if_neg (by omega)]
  simp [TC.free, beq_no (show r + 1000 ≠ k by omega)]
theorem loomO_free {names : List Str} {lines ms : List Int} {g : Nat → List (List Int)} {n m : Nat} : obFree 708 (loomO names lines ms g n m) = true := by
  have h1 := obFree_gap (k := 708) (by omega) (List.range m) (fun r _ => by omega) (c := intsC) (g := g)
  have h2 := gapRow_free (m := m) (k := 708) (by omega)
  simp only [obFree, Ob.free, h1, h2]
  rfl
theorem obs_top {i : Nat} {x y : Ob} {rest : Obs} : ∀ k o, getO ((i, x) :: rest) k = some o → getO ((i, x) :: (i, y) :: rest) k = some o := by
  intro k o h
  by_cases hk : i = k
  · subst hk; rw [getO_cons_same] at h ⊢; exact h
  · rw [getO_cons_other hk] at h; rw [getO_cons_other hk, getO_cons_other hk]; exact h
abbrev chBox (a b c d : Int) : Ob := .box [.p (.v (.int .i64 a)), .p (.v (.int .i64 b)), .p (.v (.int .i64 c)), .p (.v (.int .i64 d))]
set_option maxHeartbeats 1000000
theorem wadd_met {gf : Fr} (names : List Str) (lines file ms : List Int) (g : Nat → List (List Int)) (n p : Nat) (hl : lines.length ≤ 4096) (hf : file.length ≤ 4096) (hms : ms.length = lines.length) (hp : p < 32) (hpn : p < n) (hg : ∀ k, (g k).length = n) :
    AL.Met Tryz.prog 110 [.one (.ref 730 0), .one (.p (.v (.int .i64 p))), .one (.p (.list Int 1 intC file))] gf (loomO names lines ms g n (lines.length + 1)) [708]
      (fun rs ob' => rs = [.one (.p (.v (.int .i64 0)))] ∧ ob' = loomO names lines ((walkOf file lines).foldl (setRun p) ms) ((walkOf file lines).foldl (gapPut p file) g) n (lines.length + 1)) := by
  have hS := sScript_ok file lines hf hl
  have hwb := walkOf_bound file lines
  have hml := madeGo_length (walkGo 0 0 file lines) 0 0 file.length lines.length
  have hwl := walkGo_length 0 0 file lines
  obtain ⟨cs, hcs⟩ : ∃ cs, cs = walkOf file lines := ⟨_, rfl⟩
  have hcsl : cs.length ≤ 4097 := by rw [hcs]; unfold walkOf madeOf; omega
  rw [← hcs] at hS hwb ⊢
  refine AL.Met.introH Tryz.func110 (by decide) rfl rfl rfl (fun hH => ?_)
  refine k2 ?_
  refine c_region ?_; refine l_neu (n_assign rfl rfl) rfl ?_; refine l_nil ?_
  refine k1 ?_; refine k2 ?_
  refine c_region ?_; refine l_neu (n_move rfl rfl) rfl ?_; refine l_neu (n_move rfl rfl) rfl ?_; refine l_neu (n_nilCheck_ref rfl) rfl ?_; refine l_neu (n_field_ref rfl) rfl ?_; refine l_neu (n_load_ref rfl rfl rfl) rfl ?_; refine l_call (hS) rfl rfl rfl ?_; rintro _ rfl; refine l_neu (n_move rfl rfl) rfl ?_; refine l_neu (n_extract rfl rfl) rfl ?_; refine l_neu (n_extract rfl rfl) rfl ?_; refine l_neu (n_assign rfl rfl) rfl ?_; refine l_neu (n_assign rfl rfl) rfl ?_; refine l_nil ?_
  refine k1 ?_; refine k2 ?_; refine k2 ?_
  refine c_region ?_; refine l_neu (n_move rfl rfl) rfl ?_; refine l_neu (n_neq rfl rfl) rfl ?_; refine l_nil ?_
  refine k1 ?_
  refine c_cond rfl (fun ht => ?_) (fun ht => ?_)
  · cases ht
  refine k5 ?_; refine k1 ?_; refine k2 ?_; refine k2 ?_
  refine c_region ?_; refine l_neu (n_move rfl rfl) rfl ?_; refine l_neu (n_len rfl (.pure _ _ _ _)) rfl ?_; refine l_neu (n_move rfl rfl) rfl ?_; refine l_nil ?_
  refine k1 ?_; refine k3 ?_
  refine c_sees (Sees.tailN [708] (l := [(0, .s (.one (.ref 730 0))), (1, sInt p), (2, sList Int 1 intC file), (24, sList Change 4 changeC cs), (25, sInt cs.length), (26, sInt 0)]) (ob' := loomO names lines ms g n (lines.length + 1)) ⟨le1 rfl, le1 rfl, le1 rfl, le1 rfl, le1 rfl, le1 rfl, trivial⟩ hH (by repeat (first | exact tail_refl | refine tail_cons rfl ?_)) (fun _ _ h => h)) ?_
  refine c_while (X := Nat) (fun i => ([(0, .s (.one (.ref 730 0))), (1, sInt p), (2, sList Int 1 intC file), (24, sList Change 4 changeC cs), (25, sInt cs.length), (26, sInt i)] ++ fForgets [708] gf, loomO names lines ((cs.take i).foldl (setRun p) ms) ((cs.take i).foldl (gapPut p file) g) n (lines.length + 1))) (fun i => i ≤ cs.length) (fun i => cs.length - i) 0 (Nat.zero_le _) (Sees.fewer fun _ _ h => h) ?_
  intro i hi
  dsimp only at hi ⊢
  refine k2 ?_
  refine c_region ?_; refine l_neu (n_lss rfl rfl) rfl ?_; refine l_nil ?_
  refine k1 ?_; refine k2 ?_
  refine c_cond rfl (fun ht => ?_) (fun ht => ?_)
  rotate_left
  · have hil : i = cs.length := by have := of_decide_eq_false ht; omega
    rw [hil, List.take_length]
    refine k6 ?_; refine k2 ?_
    refine c_region ?_; refine l_neu (n_assign rfl rfl) rfl ?_; refine l_nil ?_
    refine k1 ?_; refine k10 ?_
    exact met_ret (rets1 rfl rfl) (by repeat (first | exact tail_refl | refine tail_cons rfl ?_)) (fun _ _ h => h) ⟨rfl, rfl⟩
  have hlt : i < cs.length := by have := of_decide_eq_true ht; omega
  have hv : cs[i]? = some cs[i] := by simp [hlt]
  have hcb := hwb _ (List.getElem_mem hlt)
  have hst1 : (cs.take (i + 1)).foldl (setRun p) ms = setRun p ((cs.take i).foldl (setRun p) ms) cs[i] := by rw [List.take_succ_eq_append_getElem hlt, List.foldl_append]; rfl
  have hst2 : (cs.take (i + 1)).foldl (gapPut p file) g = gapPut p file ((cs.take i).foldl (gapPut p file) g) cs[i] := by rw [List.take_succ_eq_append_getElem hlt, List.foldl_append]; rfl
  have hmi : ((cs.take i).foldl (setRun p) ms).length = lines.length := by
    have key : ∀ (q : List Change) (ms : List Int), (q.foldl (setRun p) ms).length = ms.length := by
      intro q
      induction q with
      | nil => intro ms; rfl
      | cons c r ih => intro ms; rw [List.foldl_cons, ih, setRun_length]
    rw [key, hms]
  have hgi : ∀ k, ((cs.take i).foldl (gapPut p file) g k).length = n := by
    have key : ∀ (q : List Change) (g : Nat → List (List Int)), (∀ k, (g k).length = n) → ∀ k, (q.foldl (gapPut p file) g k).length = n := by
      intro q
      induction q with
      | nil => intro g h; exact h
      | cons c r ih =>
        intro g h
        refine ih _ (fun k => ?_)
        unfold gapPut
        split
        · rw [List.length_set]; exact h k
        · exact h k
    exact key _ _ hg
  obtain ⟨m1, hm1⟩ : ∃ m1, m1 = (cs.take i).foldl (setRun p) ms := ⟨_, rfl⟩
  obtain ⟨g1, hg1⟩ : ∃ g1, g1 = (cs.take i).foldl (gapPut p file) g := ⟨_, rfl⟩
  obtain ⟨c, hc⟩ : ∃ c, c = cs[i] := ⟨_, rfl⟩
  rw [← hm1] at hst1 hmi ⊢
  rw [← hg1] at hst2 hgi ⊢
  rw [← hc] at hv hcb hst1 hst2
  obtain ⟨co, col, cn, cnl⟩ := c
  dsimp only at hcb
  obtain ⟨A, rfl⟩ : ∃ A : Nat, co = A := ⟨co.toNat, by omega⟩
  obtain ⟨B, rfl⟩ : ∃ B : Nat, col = B := ⟨col.toNat, by omega⟩
  obtain ⟨C, rfl⟩ : ∃ C : Nat, cn = C := ⟨cn.toNat, by omega⟩
  obtain ⟨D, rfl⟩ : ∃ D : Nat, cnl = D := ⟨cnl.toNat, by omega⟩
  have hfree : ∀ ms', obFree 708 (loomO names lines ms' g1 n (lines.length + 1)) = true := fun ms' => loomO_free
  obtain ⟨hf1, hf2, _⟩ := ob_free (hfree m1)
  refine k5 ?_; refine k1 ?_; refine k2 ?_; refine k3 ?_; refine k2 ?_
  refine c_region ?_; refine l_neu (n_indexAddr rfl (.pure _ _ _ _) rfl (by omega) hv) rfl ?_; refine l_neu (n_loads_eref rfl rfl) rfl ?_; refine l_effv (e_alloc 708 hf2 (by decide)) rfl ?_; refine l_eff (e_store_ref TySz.out rfl rfl rfl rfl rfl rfl) ?_; refine l_nil ?_
  rw [hf1]
  refine c_cut ([(0, .s (.one (.ref 730 0))), (1, sInt p), (2, sList Int 1 intC file), (10, .s (.one (.ref 708 0))), (24, sList Change 4 changeC cs), (25, sInt cs.length), (26, sInt i)] ++ fForgets [708] gf) ((708, chBox A B C D) :: loomO names lines m1 g1 n (lines.length + 1)) (Sees.tailed ⟨le1 rfl, le1 rfl, le1 rfl, le1 rfl, le1 rfl, le1 rfl, le1 rfl, trivial⟩ (high_forgets hH) (by repeat (first | exact tail_refl | refine tail_cons rfl ?_ | refine tail_in _ rfl ?_)) obs_top) ?_
  refine k2 ?_; refine k2 ?_
  refine c_region ?_; refine l_neu (n_field_ref rfl) rfl ?_; refine l_neu (n_load_ref rfl rfl rfl) rfl ?_; refine l_neu (n_assign rfl rfl) rfl ?_; refine l_nil ?_
  refine k1 ?_; refine k3 ?_
  refine c_while (X := Nat) (fun t => ([(0, .s (.one (.ref 730 0))), (1, sInt p), (2, sList Int 1 intC file), (10, .s (.one (.ref 708 0))), (11, sInt ((C + t : Nat) : Int)), (24, sList Change 4 changeC cs), (25, sInt cs.length), (26, sInt i)] ++ fForgets [708] gf, (708, chBox A B C D) :: loomO names lines (setRun p m1 ⟨A, B, C, t⟩) g1 n (lines.length + 1))) (fun t => t ≤ D) (fun t => D - t) 0 (Nat.zero_le _) ?_ ?_
  · dsimp only
    rw [show ((0 : Nat) : Int) = 0 from rfl, setRun_zero]
    exact Sees.tailed ⟨le1 rfl, le1 rfl, le1 rfl, le1 rfl, le1 rfl, le1 rfl, le1 rfl, le1 rfl, trivial⟩ (high_forgets hH) (by repeat (first | exact tail_refl | refine tail_cons rfl ?_)) (fun _ _ h => h)
  intro t ht1
  dsimp only at ht1 ⊢
  have hsl := setRun_length p m1 ⟨A, B, C, t⟩
  refine k2 ?_; refine k2 ?_
  refine c_region ?_; refine l_neu (n_move rfl rfl) rfl ?_; refine l_neu (n_field_ref rfl) rfl ?_; refine l_neu (n_load_ref rfl rfl rfl) rfl ?_; refine l_neu (n_field_ref rfl) rfl ?_; refine l_neu (n_load_ref rfl rfl rfl) rfl ?_; refine l_neu (n_add rfl rfl (by omega)) rfl ?_; refine l_neu (n_lss rfl rfl) rfl ?_; refine l_nil ?_
  refine k1 ?_
  refine c_cond rfl (fun ht => ?_) (fun ht => ?_)
  · have hltD : t < D := by have := of_decide_eq_true ht; omega
    obtain ⟨q1, q2⟩ := setRun_step p m1 A B C t (by omega)
    have hv2 : (setRun p m1 ⟨A, B, C, t⟩)[((C + t : Nat) : Int).toNat]? = some (m1.getD (C + t) 0) := by rw [Int.toNat_natCast]; exact q1
    refine k5 ?_; refine k1 ?_; refine k2 ?_; refine k3 ?_
    refine c_region_draw (by kernel_rfl) (by kernel_rfl) ?_; refine d_neu (n_move rfl rfl) rfl rfl ?_; refine d_neu (n_nilCheck_ref rfl) rfl rfl ?_; refine d_neu (n_field_ref rfl) rfl rfl ?_; refine d_neu (n_load_ref rfl rfl rfl) rfl rfl ?_; refine d_neu (n_move rfl rfl) rfl rfl ?_; refine d_neu (n_indexAddr_mut rfl rfl rfl (by omega) (by (rw [hsl]; omega))) rfl rfl ?_; refine d_neu (n_load_mref rfl rfl hv2 rfl) rfl rfl ?_; refine d_neu (n_move rfl rfl) rfl rfl ?_; refine d_neu (n_shl rfl rfl (by (show (0 : Int) ≤ (p : Int); omega))) rfl rfl ?_; refine d_neu (n_bits rfl rfl rfl (fun _ => rfl)) rfl rfl ?_; refine d_neu (n_indexAddr_mut rfl rfl rfl (by omega) (by (rw [hsl]; omega))) rfl rfl ?_; refine d_eff (e_store_mref1 TySz.out rfl rfl (by (rw [hsl]; omega)) rfl rfl) rfl ?_; refine d_nil ?_
    rw [shl32_nat p (by omega)]
    refine k4 ?_; refine k1 ?_
    refine c_region ?_; refine l_neu (n_move rfl rfl) rfl ?_; refine l_neu (n_add rfl rfl (by omega)) rfl ?_; refine l_neu (n_assign rfl rfl) rfl ?_; refine l_nil ?_
    refine k1 ?_
    refine ⟨t + 1, by omega, by omega, ?_⟩
    rw [← q2]
    refine Sees.tailed ⟨le1 rfl, le1 rfl, le1 rfl, le1 rfl, leE rfl (by rw [show ((C + (t + 1) : Nat) : Int) = ((C + t : Nat) : Int) + 1 by omega]), le1 rfl, le1 rfl, le1 rfl, trivial⟩ (high_forgets hH) (by repeat (first | exact tail_refl | refine tail_drop rfl ?_ | refine tail_cons rfl ?_ | refine tail_in _ rfl ?_)) ?_
    exact obs_put (L := [(708, _), (4, _), (730, _), (731, _), (732, _)]) ⟨rfl, rfl, rfl, rfl, rfl, trivial⟩ (by repeat (first | exact obs_refl | refine obs_skip rfl ?_))
  have htD : t = D := by have := of_decide_eq_false ht; omega
  subst htD
  rw [← hst1]
  have hC : C < lines.length + 1 := by omega
  have hrow : (gapRow (lines.length + 1))[C]? = some (.mut (C + 1000)) := rowDown_get hC (Nat.zero_le _)
  have hgl : (gapRow (lines.length + 1)).length = lines.length + 1 := rowDown_length
  obtain ⟨m2, hm2⟩ : ∃ m2, m2 = (cs.take (i + 1)).foldl (setRun p) ms := ⟨_, rfl⟩
  rw [← hm2]
  have hob : getO ((708, chBox A B C t) :: loomO names lines m2 g1 n (lines.length + 1)) (C + 1000) = some (.arr (List Int) 1 intsC (g1 C)) := by
    rw [getO_cons_other (by omega), getO_cons_other (by omega), getO_cons_other (by omega), getO_cons_other (by omega), getO_cons_other (by omega)]
    exact gap_get (List.mem_range.2 hC)
  have hgC := hgi C
  have eAB : ((A : Int) + B).toNat - (A : Int).toNat = B := by omega
  have hnew : (g1 C).set p ((file.drop A).take B) = (cs.take (i + 1)).foldl (gapPut p file) g C := by
    rw [hst2, gapPut, if_pos (by simp)]
    dsimp only
    rw [eAB, Int.toNat_natCast]
  have hsame : ∀ q, q ≠ C → (cs.take (i + 1)).foldl (gapPut p file) g q = g1 q := by
    intro q hq
    rw [hst2, gapPut, if_neg (by simpa using hq)]
  refine k6 ?_; refine k7 ?_; refine k7 ?_; refine k8 rfl ?_; refine k1 ?_
  refine c_region_draw (by kernel_rfl) (by kernel_rfl) ?_; refine d_neu (n_move rfl rfl) rfl rfl ?_; refine d_neu (n_nilCheck_ref rfl) rfl rfl ?_; refine d_neu (n_field_ref rfl) rfl rfl ?_; refine d_neu (n_load_ref rfl rfl rfl) rfl rfl ?_; refine d_neu (n_field_ref rfl) rfl rfl ?_; refine d_neu (n_load_ref rfl rfl rfl) rfl rfl ?_; refine d_neu (n_indexAddr_gT rfl rfl rfl (by omega) (by (first | omega | (rw [Int.toNat_natCast]; omega)))) rfl rfl ?_; refine d_neu (n_load_gT rfl rfl (by simpa using hrow)) rfl rfl ?_; refine d_neu (n_move rfl rfl) rfl rfl ?_; refine d_neu (n_move rfl rfl) rfl rfl ?_; refine d_neu (n_field_ref rfl) rfl rfl ?_; refine d_neu (n_load_ref rfl rfl rfl) rfl rfl ?_; refine d_neu (n_field_ref rfl) rfl rfl ?_; refine d_neu (n_load_ref rfl rfl rfl) rfl rfl ?_; refine d_neu (n_field_ref rfl) rfl rfl ?_; refine d_neu (n_load_ref rfl rfl rfl) rfl rfl ?_; refine d_neu (n_add rfl rfl (by omega)) rfl rfl ?_; refine d_neu (n_slice_lh rfl (.pure _ _ _ _) rfl rfl (by omega) (by omega) (by omega)) rfl rfl ?_; refine d_neu (n_indexAddr_mut rfl hob rfl (by omega) (by (first | omega | (rw [hgC]; omega)))) rfl rfl ?_; refine d_eff (e_store_mref1 TySz.out rfl hob (by (first | omega | (rw [Int.toNat_natCast, hgC]; omega))) rfl rfl) rfl ?_; refine d_nil ?_
  rw [eAB, Int.toNat_natCast, Int.toNat_natCast, hnew]
  refine k4 ?_; refine k1 ?_
  refine c_region ?_; refine l_neu (n_add rfl rfl (by omega)) rfl ?_; refine l_neu (n_move rfl rfl) rfl ?_; refine l_nil ?_
  refine k1 ?_
  refine ⟨i + 1, by omega, by omega, ?_⟩
  refine Sees.tailed ⟨le1 rfl, le1 rfl, le1 rfl, le1 rfl, le1 rfl, le1 rfl, trivial⟩ (high_forgets hH) (by repeat (first | exact tail_refl | refine tail_drop rfl ?_ | refine tail_cons rfl ?_ | refine tail_in _ rfl ?_)) ?_
  rw [← hm2]
  obtain ⟨g2, hg2⟩ : ∃ g2, g2 = (cs.take (i + 1)).foldl (gapPut p file) g := ⟨_, rfl⟩
  rw [← hg2] at hsame ⊢
  intro k o hk
  have h1 := gap_turn (c := intsC) (g := g1) (g' := g2) (pre := [(4, t4Box), (730, loomBox names lines n), (731, .arr Int 1 u32C m2), (732, .growT 138 (lines.length + 1) 1 (gapRow (lines.length + 1)))]) rfl (List.mem_range.2 hC) hsame k o hk
  by_cases hkC : C + 1000 = k
  · subst hkC; rw [getO_cons_same] at h1 ⊢; exact h1
  · rw [getO_cons_other hkC] at h1 ⊢
    by_cases h7 : 708 = k
    · subst h7
      have : getO ([(4, t4Box), (730, loomBox names lines n), (731, .arr Int 1 u32C m2), (732, .growT 138 (lines.length + 1) 1 (gapRow (lines.length + 1)))] ++ gapObs intsC g1 (List.range (lines.length + 1))) 708 = none := by
        rw [getO_app_none rfl]; exact gap_none (by omega)
      rw [this] at h1; cases h1
    · rw [getO_cons_other h7]; exact h1
end Go.Proofs.YtbiadkkamhpdnaaGreatDoor
namespace Go.Proofs.YtbiadkkamhpdnaaGreatDoor
open Go Go.AL
set_option maxRecDepth 100000
abbrev weaveO (names : List Str) (lines ms : List Int) (gs : List (List (List Int))) (n : Nat) (rows : List Row) : Obs :=
  [(4, t4Box), (730, .box [.p (.list Str 1 strC names), .p (.list Int 1 intC lines), .p (.list Int 1 u32C ms), .p (.list (List (List Int)) 1 intssC gs), .p (.v (.int .i64 n)), .buf 733 Row 3 rowC rows]), (733, .spare rows.length 3 69)]
set_option maxHeartbeats 1000000
theorem wweave_met {gf : Fr} (names file : List Str) (lines ms : List Int) (g : Nat → List (List Int)) (n B : Nat) (hl : file.length ≤ 4096) (hll : lines.length = file.length) (hms : ms.length = file.length) (hn : 1 ≤ n ∧ n ≤ 32) (hB : n * B ≤ 4096)
    (hg : ∀ k, (g k).length = n ∧ ∀ x ∈ g k, x.length ≤ B ∧ ∀ v ∈ x, 0 ≤ v ∧ v < (names.length : Int)) (hnm : ∀ k, k < file.length → 0 ≤ lines.getD k 0 ∧ names[(lines.getD k 0).toNat]? = some (file.getD k [])) :
    AL.Met Tryz.prog 111 [.one (.ref 730 0)] gf (weaveO names lines ms ((List.range (file.length + 1)).map g) n []) [708, 733]
      (fun rs ob' => rs = [.one (.p (.v (.int .i64 0)))] ∧ ob' = weaveO names lines ms ((List.range (file.length + 1)).map g) n (rowsTo names file (ms, g) (file.length + 1))) := by
  obtain ⟨gs, hgs⟩ : ∃ gs, gs = (List.range (file.length + 1)).map g := ⟨_, rfl⟩
  have hgl : gs.length = file.length + 1 := by rw [hgs]; simp
  obtain ⟨R, hR⟩ : ∃ R : Nat → List Row, R = fun k => rowsTo names file (ms, g) k := ⟨_, rfl⟩
  obtain ⟨F, hF⟩ : ∃ F : Merged → Row, F = fun m => ⟨true, m.Parents, names.getD m.Line.toNat []⟩ := ⟨_, rfl⟩
  have hcs : ∀ k, (coalesceOf (g k)).1.length ≤ 4096 ∧ ∀ m ∈ (coalesceOf (g k)).1, (0 ≤ m.Parents ∧ m.Parents < 4294967296) ∧ 0 ≤ m.Line ∧ m.Line < (names.length : Int) := fun k => by
    have h3 := coalesce_spec (fun v => 0 ≤ v ∧ v < (names.length : Int)) B (g k) (hg k).2
    rw [(hg k).1] at h3
    exact ⟨by omega, h3.2⟩
  have hR1 : ∀ k, R (k + 1) = R k ++ ((coalesceOf (g k)).1.map F ++ (if k < file.length then [⟨false, ms.getD k 0, file.getD k []⟩] else [])) := fun k => by
    rw [hR]; dsimp only; rw [rowsTo_succ, rowsOfGap, hF]
  have hRl : ∀ k, (R k).length ≤ k * 4097 := fun k => by
    induction k with
    | zero => rw [hR]; simp [rowsTo]
    | succ k ih => rw [hR1]; have := (hcs k).1; simp only [List.length_append, List.length_map]; split <;> simp <;> omega
  have hRn : rowsTo names file (ms, g) (file.length + 1) = R (file.length + 1) := by rw [hR]
  rw [hRn, ← hgs]
  have hR0 : R 0 = [] := by rw [hR]; rfl
  refine AL.Met.introH Tryz.func111 (by decide) rfl rfl rfl (fun hH => ?_)
  refine k2 ?_
  refine c_region ?_; refine l_neu (n_assign rfl rfl) rfl ?_; refine l_nil ?_
  refine k1 ?_; refine k2 ?_; refine k2 ?_
  refine c_region ?_; refine l_neu (n_move rfl rfl) rfl ?_; refine l_neu (n_nilCheck_ref rfl) rfl ?_; refine l_neu (n_field_ref rfl) rfl ?_; refine l_neu (n_load_ref rfl rfl rfl) rfl ?_; refine l_neu (n_len rfl (.pure _ _ _ _)) rfl ?_; refine l_neu (n_move rfl rfl) rfl ?_; refine l_nil ?_
  refine k1 ?_; refine k3 ?_
  refine c_sees (Sees.tailN [708, 733] (l := [(0, .s (.one (.ref 730 0))), (12, sList (List (List Int)) 1 intssC gs), (13, sInt gs.length), (14, sInt 0)]) (ob' := weaveO names lines ms gs n []) ⟨le1 rfl, le1 rfl, le1 rfl, le1 rfl, trivial⟩ hH (by repeat (first | exact tail_refl | refine tail_cons rfl ?_)) (fun _ _ h => h)) ?_
  refine c_while (X := Nat) (fun k => ([(0, .s (.one (.ref 730 0))), (12, sList (List (List Int)) 1 intssC gs), (13, sInt gs.length), (14, sInt k)] ++ fForgets [708, 733] gf, weaveO names lines ms gs n (R k))) (fun k => k ≤ file.length + 1) (fun k => file.length + 1 - k) 0 (Nat.zero_le _) (by rw [hR0]; exact Sees.fewer fun _ _ h => h) ?_
  intro k hk
  dsimp only at hk ⊢
  have hRk := hRl k
  refine k2 ?_
  refine c_region ?_; refine l_neu (n_lss rfl rfl) rfl ?_; refine l_nil ?_
  refine k1 ?_; refine k2 ?_
  refine c_cond rfl (fun ht => ?_) (fun ht => ?_)
  rotate_left
  · have hkl : k = file.length + 1 := by have := of_decide_eq_false ht; omega
    rw [hkl]
    refine k6 ?_; refine k2 ?_
    refine c_region ?_; refine l_neu (n_assign rfl rfl) rfl ?_; refine l_nil ?_
    refine k1 ?_; refine k10 ?_
    exact met_ret (rets1 rfl rfl) (by repeat (first | exact tail_refl | refine tail_cons rfl ?_)) (fun _ _ h => h) ⟨rfl, rfl⟩
  have hlt : k < file.length + 1 := by have := of_decide_eq_true ht; omega
  have hgv : gs[k]? = some (g k) := by rw [hgs, List.getElem?_map, List.getElem?_range hlt]; rfl
  have hck := hcs k
  have hgk := hg k
  have hC := lcoalesce_ok (g k) B (by omega) (by omega) (fun x hx => (hgk.2 x hx).1) (by rw [hgk.1]; exact hB)
  have hRs := hR1 k
  obtain ⟨l, hld⟩ : ∃ l, l = (coalesceOf (g k)).1 := ⟨_, rfl⟩
  rw [← hld] at hck hC hRs
  refine k5 ?_; refine k1 ?_; refine k2 ?_; refine k3 ?_; refine k2 ?_
  refine c_region ?_; refine l_neu (n_move rfl rfl) rfl ?_; refine l_neu (n_indexAddr rfl (.pure _ _ _ _) rfl (by omega) hgv) rfl ?_; refine l_neu (n_load_eref rfl rfl) rfl ?_; refine l_neu (n_assign rfl rfl) rfl ?_; refine l_neu (n_assign rfl rfl) rfl ?_; refine l_nil ?_
  refine k1 ?_; refine k2 ?_
  refine c_region ?_; refine l_neu (n_move rfl rfl) rfl ?_; refine l_call (hC) rfl rfl rfl ?_; rintro _ rfl; refine l_neu (n_move rfl rfl) rfl ?_; refine l_neu (n_extract rfl rfl) rfl ?_; refine l_neu (n_extract rfl rfl) rfl ?_; refine l_neu (n_assign rfl rfl) rfl ?_; refine l_neu (n_assign rfl rfl) rfl ?_; refine l_nil ?_
  refine k1 ?_; refine k2 ?_; refine k2 ?_
  refine c_region ?_; refine l_neu (n_move rfl rfl) rfl ?_; refine l_neu (n_neq rfl rfl) rfl ?_; refine l_nil ?_
  refine k1 ?_
  refine c_cond rfl (fun ht => ?_) (fun ht => ?_)
  · cases ht
  refine k5 ?_; refine k1 ?_; refine k2 ?_; refine k2 ?_
  refine c_region ?_; refine l_neu (n_move rfl rfl) rfl ?_; refine l_neu (n_len rfl (.pure _ _ _ _)) rfl ?_; refine l_neu (n_move rfl rfl) rfl ?_; refine l_nil ?_
  refine k1 ?_; refine k3 ?_
  refine c_while (X := Nat) (fun i => ([(0, .s (.one (.ref 730 0))), (3, sInt k), (12, sList (List (List Int)) 1 intssC gs), (13, sInt gs.length), (14, sInt k), (27, sList Merged 2 mergedC l), (28, sInt l.length), (29, sInt i)] ++ fForgets [708, 733] gf, weaveO names lines ms gs n (R k ++ (l.take i).map F))) (fun i => i ≤ l.length) (fun i => l.length - i) 0 (Nat.zero_le _) ?_ ?_
  · dsimp only
    rw [List.take_zero, List.map_nil, List.append_nil]
    exact Sees.tailed ⟨le1 rfl, le1 rfl, le1 rfl, le1 rfl, le1 rfl, le1 rfl, le1 rfl, le1 rfl, trivial⟩ (high_forgets hH) (by repeat (first | exact tail_refl | refine tail_cons rfl ?_)) (fun _ _ h => h)
  intro i hi
  dsimp only at hi ⊢
  have hil : (R k ++ (l.take i).map F).length ≤ k * 4097 + 4096 := by simp only [List.length_append, List.length_map, List.length_take]; omega
  refine k2 ?_
  refine c_region ?_; refine l_neu (n_lss rfl rfl) rfl ?_; refine l_nil ?_
  refine k1 ?_; refine k2 ?_
  refine c_cond rfl (fun ht => ?_) (fun ht => ?_)
  · have hli : i < l.length := by have := of_decide_eq_true ht; omega
    have hlv : l[i]? = some l[i] := by simp [hli]
    have hlb := hck.2 l[i] (List.getElem_mem hli)
    have hst : (l.take (i + 1)).map F = (l.take i).map F ++ [F l[i]] := by rw [List.take_succ_eq_append_getElem hli]; simp only [List.map_append, List.map_cons, List.map_nil]
    obtain ⟨m, hm⟩ : ∃ m, m = l[i] := ⟨_, rfl⟩
    rw [← hm] at hlv hlb hst
    have hnv : names[m.Line.toNat]? = some (names.getD m.Line.toNat []) := by rw [List.getD_eq_getElem?_getD, List.getElem?_eq_getElem (by omega)]; rfl
    have hFi : F m = ⟨true, m.Parents, names.getD m.Line.toNat []⟩ := by rw [hF]
    obtain ⟨Q, hQ⟩ : ∃ Q, Q = R k ++ (l.take i).map F := ⟨_, rfl⟩
    rw [← hQ] at hil ⊢
    refine k5 ?_; refine k1 ?_; refine k2 ?_; refine k3 ?_; refine k2 ?_
    refine c_region ?_; refine l_neu (n_indexAddr rfl (.pure _ _ _ _) rfl (by omega) hlv) rfl ?_; refine l_neu (n_loads_eref rfl rfl) rfl ?_; refine l_effv (e_alloc 708 rfl (by decide)) rfl ?_; refine l_eff (e_store_ref TySz.out rfl rfl rfl rfl rfl rfl) ?_; refine l_nil ?_
    refine k1 ?_
    refine c_cut ([(0, .s (.one (.ref 730 0))), (3, sInt k), (8, .s (.one (.ref 708 0))), (12, sList (List (List Int)) 1 intssC gs), (13, sInt gs.length), (14, sInt k), (27, sList Merged 2 mergedC l), (28, sInt l.length), (29, sInt i)] ++ fForgets [708, 733] gf) ((708, .box [.p (.v (.int .i64 m.Line)), .p (.v (.int .u32 m.Parents))]) :: weaveO names lines ms gs n Q) (Sees.tailed ⟨le1 rfl, le1 rfl, le1 rfl, le1 rfl, le1 rfl, le1 rfl, le1 rfl, le1 rfl, le1 rfl, trivial⟩ (high_forgets hH) (by repeat (first | exact tail_refl | refine tail_cons rfl ?_ | refine tail_in _ rfl ?_)) (ObIn.spec (ob' := (708, .box [.p (.v (.int .i64 m.Line)), .p (.v (.int .u32 m.Parents))]) :: weaveO names lines ms gs n Q) ⟨rfl, rfl, rfl, rfl, trivial⟩)) ?_
    refine c_region_ord [22, 18] [[], [18], [22, 18]] [(18, ([733], [38])), (22, ([], []))] [(0, []), (1, []), (2, []), (3, []), (4, []), (5, []), (6, []), (7, []), (8, []), (9, []), (10, []), (11, []), (12, []), (13, []), (14, []), (15, []), (16, []), (17, []), (18, []), (19, [18]), (20, [18]), (21, [18]), (22, [18])] [(0, [18])] (by kernel_rfl) (by kernel_rfl) ?_; refine w_neu rfl rfl (by kernel_rfl) rfl rfl (n_move rfl rfl) ?_; refine w_neu rfl rfl (by kernel_rfl) rfl rfl (n_move rfl rfl) ?_; refine w_neu rfl rfl (by kernel_rfl) rfl rfl (n_nilCheck_ref rfl) ?_; refine w_neu rfl rfl (by kernel_rfl) rfl rfl (n_field_ref rfl) ?_; refine w_neu rfl rfl (by kernel_rfl) rfl rfl (n_field_ref rfl) ?_; refine w_neu rfl rfl (by kernel_rfl) rfl rfl (n_load_ref rfl rfl rfl) ?_; refine w_neu rfl rfl (by kernel_rfl) rfl rfl (n_field_ref rfl) ?_; refine w_neu rfl rfl (by kernel_rfl) rfl rfl (n_load_ref rfl rfl rfl) ?_; refine w_neu rfl rfl (by kernel_rfl) rfl rfl (n_move rfl rfl) ?_; refine w_neu rfl rfl (by kernel_rfl) rfl rfl (n_nilCheck_ref rfl) ?_; refine w_neu rfl rfl (by kernel_rfl) rfl rfl (n_field_ref rfl) ?_; refine w_neu rfl rfl (by kernel_rfl) rfl rfl (n_load_ref rfl rfl rfl) ?_; refine w_neu rfl rfl (by kernel_rfl) rfl rfl (n_field_ref rfl) ?_; refine w_neu rfl rfl (by kernel_rfl) rfl rfl (n_load_ref rfl rfl rfl) ?_; refine w_neu rfl rfl (by kernel_rfl) rfl rfl (n_indexAddr rfl (.pure _ _ _ _) rfl (by omega) hnv) ?_; refine w_neu rfl rfl (by kernel_rfl) rfl rfl (n_load_eref rfl rfl) ?_; refine w_neu rfl rfl (by kernel_rfl) rfl rfl (n_build rfl) ?_; refine w_neu rfl rfl (by kernel_rfl) rfl rfl (n_buildSlice (c := rowC) (ys := [⟨true, m.Parents, names.getD m.Line.toNat []⟩]) (asm_cons rfl rfl rfl rfl asm_nil) rfl rfl rfl) ?_; refine w_eff rfl rfl (by kernel_rfl) rfl rfl (r_turn (fun frc hU => e_append (opvU hU rfl) rfl (opvU hU rfl) (.pure _ _ _ _) (by (simp only [List.length_cons, List.length_nil]; omega)) rfl)) rfl ?_; refine w_neu rfl rfl (by kernel_rfl) rfl rfl (n_nilCheck_ref rfl) ?_; refine w_neu rfl rfl (by kernel_rfl) rfl rfl (n_field_ref rfl) ?_; refine w_neu rfl rfl (by kernel_rfl) rfl rfl (n_field_ref rfl) ?_; refine w_eff rfl rfl (by kernel_rfl) rfl rfl (r_eff (fun frc hU => e_store_ref TySz.out (opvU hU rfl) rfl (opvU hU rfl) rfl rfl rfl)) rfl ?_; refine w_nilG rfl (by kernel_rfl) rfl ?_ ?_
    · refine x_neu rfl rfl (by kernel_rfl) rfl rfl (n_move rfl rfl) ?_; exact x_nil
    refine k4 ?_; refine k1 ?_
    refine c_region ?_; refine l_neu (n_add rfl rfl (by omega)) rfl ?_; refine l_neu (n_move rfl rfl) rfl ?_; refine l_nil ?_
    refine k1 ?_
    refine ⟨i + 1, by omega, by omega, ?_⟩
    rw [hst, hFi, ← List.append_assoc, ← hQ]
    exact Sees.tailed ⟨le1 rfl, le1 rfl, le1 rfl, le1 rfl, le1 rfl, le1 rfl, le1 rfl, le1 rfl, trivial⟩ (high_forgets hH) (by repeat (first | exact tail_refl | refine tail_drop rfl ?_ | refine tail_cons rfl ?_ | refine tail_in _ rfl ?_)) (ObIn.spec (ob' := weaveO names lines ms gs n (Q ++ [⟨true, m.Parents, names.getD m.Line.toNat []⟩])) ⟨rfl, rfl, rfl, trivial⟩)
  have hil2 : i = l.length := by have := of_decide_eq_false ht; omega
  rw [hil2, List.take_length] at hil ⊢
  rw [← List.append_assoc] at hRs
  obtain ⟨Q, hQ⟩ : ∃ Q, Q = R k ++ l.map F := ⟨_, rfl⟩
  rw [← hQ] at hil hRs ⊢
  refine k6 ?_; refine k2 ?_
  · skip
    refine c_region ?_; refine l_neu (n_move rfl rfl) rfl ?_; refine l_neu (n_move rfl rfl) rfl ?_; refine l_neu (n_nilCheck_ref rfl) rfl ?_; refine l_neu (n_field_ref rfl) rfl ?_; refine l_neu (n_load_ref rfl rfl rfl) rfl ?_; refine l_neu (n_len rfl (.pure _ _ _ _)) rfl ?_; refine l_neu (n_lss rfl rfl) rfl ?_; refine l_nil ?_
    refine k1 ?_
    refine c_cond rfl (fun ht => ?_) (fun ht => ?_)
    · have hkf : k < file.length := by have := of_decide_eq_true ht; omega
      rw [if_pos hkf] at hRs
      obtain ⟨q1, q2⟩ := hnm k hkf
      have hmv : ms[((k : Nat) : Int).toNat]? = some (ms.getD k 0) := by rw [Int.toNat_natCast, List.getD_eq_getElem?_getD, List.getElem?_eq_getElem (by omega)]; rfl
      have hlv : lines[((k : Nat) : Int).toNat]? = some (lines.getD k 0) := by rw [Int.toNat_natCast, List.getD_eq_getElem?_getD, List.getElem?_eq_getElem (by omega)]; rfl
      have q3 := (List.getElem?_eq_some_iff.1 q2).1
      skip
      refine c_cut ([(0, .s (.one (.ref 730 0))), (3, sInt k), (12, sList (List (List Int)) 1 intssC gs), (13, sInt gs.length), (14, sInt k)] ++ fForgets [708, 733] gf) (weaveO names lines ms gs n Q) (Sees.tailed ⟨le1 rfl, le1 rfl, le1 rfl, le1 rfl, le1 rfl, trivial⟩ (high_forgets hH) (by repeat (first | exact tail_refl | refine tail_cons rfl ?_)) (fun _ _ h => h)) ?_
      refine c_region_ord [32, 28] [[], [28], [32, 28]] [(28, ([733], [68])), (32, ([], []))] [(0, []), (1, []), (2, []), (3, []), (4, []), (5, []), (6, []), (7, []), (8, []), (9, []), (10, []), (11, []), (12, []), (13, []), (14, []), (15, []), (16, []), (17, []), (18, []), (19, []), (20, []), (21, []), (22, []), (23, []), (24, []), (25, []), (26, []), (27, []), (28, []), (29, [28]), (30, [28]), (31, [28]), (32, [28])] [(0, [28])] (by kernel_rfl) (by kernel_rfl) ?_; refine w_neu rfl rfl (by kernel_rfl) rfl rfl (n_move rfl rfl) ?_; refine w_neu rfl rfl (by kernel_rfl) rfl rfl (n_move rfl rfl) ?_; refine w_neu rfl rfl (by kernel_rfl) rfl rfl (n_nilCheck_ref rfl) ?_; refine w_neu rfl rfl (by kernel_rfl) rfl rfl (n_field_ref rfl) ?_; refine w_neu rfl rfl (by kernel_rfl) rfl rfl (n_field_ref rfl) ?_; refine w_neu rfl rfl (by kernel_rfl) rfl rfl (n_load_ref rfl rfl rfl) ?_; refine w_neu rfl rfl (by kernel_rfl) rfl rfl (n_move rfl rfl) ?_; refine w_neu rfl rfl (by kernel_rfl) rfl rfl (n_nilCheck_ref rfl) ?_; refine w_neu rfl rfl (by kernel_rfl) rfl rfl (n_field_ref rfl) ?_; refine w_neu rfl rfl (by kernel_rfl) rfl rfl (n_load_ref rfl rfl rfl) ?_; refine w_neu rfl rfl (by kernel_rfl) rfl rfl (n_move rfl rfl) ?_; refine w_neu rfl rfl (by kernel_rfl) rfl rfl (n_indexAddr rfl (.pure _ _ _ _) rfl (by omega) hmv) ?_; refine w_neu rfl rfl (by kernel_rfl) rfl rfl (n_load_eref rfl rfl) ?_; refine w_neu rfl rfl (by kernel_rfl) rfl rfl (n_move rfl rfl) ?_; refine w_neu rfl rfl (by kernel_rfl) rfl rfl (n_nilCheck_ref rfl) ?_; refine w_neu rfl rfl (by kernel_rfl) rfl rfl (n_field_ref rfl) ?_; refine w_neu rfl rfl (by kernel_rfl) rfl rfl (n_load_ref rfl rfl rfl) ?_; refine w_neu rfl rfl (by kernel_rfl) rfl rfl (n_move rfl rfl) ?_; refine w_neu rfl rfl (by kernel_rfl) rfl rfl (n_nilCheck_ref rfl) ?_; refine w_neu rfl rfl (by kernel_rfl) rfl rfl (n_field_ref rfl) ?_; refine w_neu rfl rfl (by kernel_rfl) rfl rfl (n_load_ref rfl rfl rfl) ?_; refine w_neu rfl rfl (by kernel_rfl) rfl rfl (n_move rfl rfl) ?_; refine w_neu rfl rfl (by kernel_rfl) rfl rfl (n_indexAddr rfl (.pure _ _ _ _) rfl (by omega) hlv) ?_; refine w_neu rfl rfl (by kernel_rfl) rfl rfl (n_load_eref rfl rfl) ?_; refine w_neu rfl rfl (by kernel_rfl) rfl rfl (n_indexAddr rfl (.pure _ _ _ _) rfl (by omega) q2) ?_; refine w_neu rfl rfl (by kernel_rfl) rfl rfl (n_load_eref rfl rfl) ?_; refine w_neu rfl rfl (by kernel_rfl) rfl rfl (n_build rfl) ?_; refine w_neu rfl rfl (by kernel_rfl) rfl rfl (n_buildSlice (c := rowC) (ys := [⟨false, ms.getD k 0, file.getD k []⟩]) (asm_cons rfl rfl rfl rfl asm_nil) rfl rfl rfl) ?_; refine w_eff rfl rfl (by kernel_rfl) rfl rfl (r_turn (fun frc hU => e_append (opvU hU rfl) rfl (opvU hU rfl) (.pure _ _ _ _) (by (simp only [List.length_cons, List.length_nil]; omega)) rfl)) rfl ?_; refine w_neu rfl rfl (by kernel_rfl) rfl rfl (n_nilCheck_ref rfl) ?_; refine w_neu rfl rfl (by kernel_rfl) rfl rfl (n_field_ref rfl) ?_; refine w_neu rfl rfl (by kernel_rfl) rfl rfl (n_field_ref rfl) ?_; refine w_eff rfl rfl (by kernel_rfl) rfl rfl (r_eff (fun frc hU => e_store_ref TySz.out (opvU hU rfl) rfl (opvU hU rfl) rfl rfl rfl)) rfl ?_
      refine w_nilG rfl (by kernel_rfl) rfl ?_ ?_
      · refine x_neu rfl rfl (by kernel_rfl) rfl rfl (n_move rfl rfl) ?_; exact x_nil
      refine k4 ?_; refine k1 ?_
      refine c_region ?_; refine l_neu (n_add rfl rfl (by omega)) rfl ?_; refine l_neu (n_move rfl rfl) rfl ?_; refine l_nil ?_
      refine k1 ?_
      refine ⟨k + 1, by omega, by omega, ?_⟩
      rw [hRs]
      exact Sees.tailed ⟨le1 rfl, le1 rfl, le1 rfl, le1 rfl, trivial⟩ (high_forgets hH) (by repeat (first | exact tail_refl | refine tail_drop rfl ?_ | refine tail_cons rfl ?_ | refine tail_in _ rfl ?_)) (ObIn.spec (ob' := weaveO names lines ms gs n (Q ++ [⟨false, ms.getD k 0, file.getD k []⟩])) ⟨rfl, rfl, rfl, trivial⟩)
    · have hkf : ¬ k < file.length := by have := of_decide_eq_false ht; omega
      rw [if_neg hkf, List.append_nil] at hRs
      refine k5 ?_; refine k4 ?_; refine k1 ?_
      refine c_region ?_; refine l_neu (n_add rfl rfl (by omega)) rfl ?_; refine l_neu (n_move rfl rfl) rfl ?_; refine l_nil ?_
      refine k1 ?_
      refine ⟨k + 1, by omega, by omega, ?_⟩
      rw [hRs]
      exact Sees.tailed ⟨le1 rfl, le1 rfl, le1 rfl, le1 rfl, trivial⟩ (high_forgets hH) (by repeat (first | exact tail_refl | refine tail_drop rfl ?_ | refine tail_cons rfl ?_ | refine tail_in _ rfl ?_)) (fun _ _ h => h)
end Go.Proofs.YtbiadkkamhpdnaaGreatDoor
namespace Go.Proofs.YtbiadkkamhpdnaaGreatDoor
open Go Go.AL
set_option maxRecDepth 100000
theorem placeOf_at (l : List Str) (s : Str) : ∀ k : Int, 0 ≤ k → s ∈ l → l[(placeOf l s k - k).toNat]? = some s := by
  induction l with
  | nil => intro k _ h; cases h
  | cons x r ih =>
    intro k h0 h
    by_cases hx : x = s
    · unfold placeOf
      rw [if_pos hx, Int.sub_self, hx]; rfl
    · have hm : s ∈ r := by rcases List.mem_cons.1 h with rfl | h; exact absurd rfl hx; exact h
      have h1 := ih (k + 1) (by omega) hm
      have h2 := placeOf_le r s (k + 1) (by omega) hm
      unfold placeOf
      rw [if_neg hx, show (placeOf r s (k + 1) - k).toNat = (placeOf r s (k + 1) - (k + 1)).toNat + 1 by omega, List.getElem?_cons_succ]
      exact h1
theorem gapRow_more (k : Nat) : (gapRow k ++ [TC.mut 734]).map (TC.ren 734 (k + 1000)) = gapRow (k + 1) := by
  unfold gapRow rowDown
  rw [List.map_append, List.range_succ, List.map_append, List.map_map]
  have h1 : (List.range k).map (TC.ren 734 (k + 1000) ∘ fun r => if r < 0 then TC.p (.list (List Int) 1 intsC []) else TC.mut (r + 1000)) = (List.range k).map fun r => if r < 0 then TC.p (.list (List Int) 1 intsC []) else TC.mut (r + 1000) := by
    refine List.map_congr_left fun r hr => ?_
    show TC.ren 734 (k + 1000) (if r < 0 then _ else TC.mut (r + 1000)) = _
    rw [if_neg (by omega)]
    simp [TC.ren, beq_no (show r + 1000 ≠ 734 by omega)]
  exact congr (congrArg _ h1) (by simp [TC.ren])
abbrev gapZ (n : Nat) : Nat → List (List Int) := fun _ => List.replicate n []
theorem gap_free {k : Nat} (hk : k < 1000) {m : Nat} {g : Nat → List (List Int)} : obFree k (gapObs intsC g (List.range m)) = true := obFree_gap (k := k) (by omega) (List.range m) (fun r _ => by omega) (c := intsC) (g := g)
abbrev loomB (names : List Str) (lines ms : List Int) (n k : Nat) : Obs := [(4, t4Box), (730, loomBox names lines n), (731, .arr Int 1 u32C ms), (732, .growT 138 k 1 (gapRow k))]
theorem gapRow_freeK (k : Nat) : (gapRow k).all (TC.free (k + 1000)) = true := by
  rw [List.all_eq_true]
  intro t ht
  obtain ⟨r, hr, rfl⟩ := List.mem_map.1 ht
  have := List.mem_range.1 hr
  rw [if_neg (by omega)]
  simp [TC.free, beq_no (show r + 1000 ≠ k + 1000 by omega)]
theorem gapRow_any (m : Nat) (g : Nat → List (List Int)) : gapRow m = rowDown intsC m 0 g := by
  unfold gapRow rowDown
  refine List.map_congr_left fun r _ => ?_
  rw [if_neg (by omega), if_neg (by omega)]
theorem gap_forget (q : Nat) (g : Nat → List (List Int)) (l : List Nat) : Obs.forget q (gapObs intsC g l) = gapObs intsC g l := by
  unfold Obs.forget gapObs
  rw [List.map_map]
  exact List.map_congr_left fun r _ => rfl
theorem gap_fgt {K : List Nat} {q : Nat} {g : Nat → List (List Int)} {l : List Nat} : ∀ j x, hasN K j = false → getO (gapObs intsC g l) j = some x → getO (Obs.forget q (gapObs intsC g l)) j = some x := fun j x _ h => by rw [gap_forget]; exact h
theorem loomB_free (q : Nat) (names : List Str) (lines ms : List Int) (n k : Nat) (hq : q < 1000) (h1 : 4 ≠ q) (h2 : 730 ≠ q) (h3 : 731 ≠ q) (h4 : 732 ≠ q) (g : Nat → List (List Int)) : obFree q (loomB names lines ms n k ++ gapObs intsC g (List.range k)) = true := by
  show obFree q ((4, t4Box) :: (730, loomBox names lines n) :: (731, .arr Int 1 u32C ms) :: (732, .growT 138 k 1 (gapRow k)) :: gapObs intsC g (List.range k)) = true
  simp only [obFree, Ob.free, List.all_cons, List.all_nil, TC.free, gap_free hq, gapRow_free hq, beq_no h1, beq_no h2, beq_no h3, beq_no h4, beq_no (Ne.symm h3), beq_no (Ne.symm h4)]
  rfl
theorem loom_name {P : Program} {nt : Nat} {fr : Fr} {names : List Str} {lines ms : List Int} {n k : Nat} (hk : k ≤ 100000) (hfr : frFree (k + 1000) fr = true) :
    Sees P nt fr ([(4, t4Box), (730, loomBox names lines n), (731, .arr Int 1 u32C ms), (732, .growT 138 (k + 1) 1 (gapRow k ++ [TC.mut 734])), (734, .arr (List Int) 1 intsC (List.replicate n [])), (735, .tarr 1 1 [.mut 734])] ++ gapObs intsC (gapZ n) (List.range k))
      fr (loomB names lines ms n (k + 1) ++ gapObs intsC (gapZ n) (List.range (k + 1))) := by
  refine Sees.rename (j := 734) (k := k + 1000) rfl (by simp; omega) (by omega) hfr ?_
  intro i o h
  have b731 := beq_no (show 731 ≠ k + 1000 by omega)
  have b732 := beq_no (show 732 ≠ k + 1000 by omega)
  have b734 := beq_no (show 734 ≠ k + 1000 by omega)
  by_cases e1 : i = 4
  · subst e1
    have h : some t4Box = some o := h
    cases h
    exact ⟨by omega, t4Box, by rw [if_neg (by omega)]; rfl, rfl, rfl⟩
  by_cases e2 : i = 730
  · subst e2
    have h : some (loomBox names lines n) = some o := h
    cases h
    exact ⟨by omega, loomBox names lines n, by rw [if_neg (by omega)]; rfl, by simp [Ob.free, TC.free, b731, b732], rfl⟩
  by_cases e3 : i = 731
  · subst e3
    have h : some (.arr Int 1 u32C ms) = some o := h
    cases h
    exact ⟨by omega, _, by rw [if_neg (by omega)]; rfl, rfl, rfl⟩
  by_cases e4 : i = 732
  · subst e4
    have h : some (.growT 138 (k + 1) 1 (gapRow (k + 1))) = some o := h
    cases h
    refine ⟨by omega, .growT 138 (k + 1) 1 (gapRow k ++ [TC.mut 734]), by rw [if_neg (by omega)]; rfl, ?_, ?_⟩
    · simp only [Ob.free, List.all_append, gapRow_freeK, List.all_cons, List.all_nil, TC.free, b734]; rfl
    · show _ = Ob.growT _ _ _ _
      rw [gapRow_more]
  have h : getO ([(4, t4Box), (730, loomBox names lines n), (731, .arr Int 1 u32C ms), (732, .growT 138 (k + 1) 1 (gapRow (k + 1)))] ++ gapObs intsC (gapZ n) (List.range (k + 1))) i = some o := h
  have hno : getO ([(4, t4Box), (730, loomBox names lines n), (731, .arr Int 1 u32C ms), (732, .growT 138 (k + 1) 1 (gapRow (k + 1)))] : Obs) i = none := by
    rw [getO_cons_other (Ne.symm e1), getO_cons_other (Ne.symm e2), getO_cons_other (Ne.symm e3), getO_cons_other (Ne.symm e4)]; rfl
  rw [getO_app_none hno] at h
  obtain ⟨r, h1, rfl, rfl⟩ := (getO_gap _ _ _).1 h
  have h1 := List.mem_range.1 h1
  refine ⟨by omega, .arr (List Int) 1 intsC (List.replicate n []), ?_, rfl, rfl⟩
  by_cases er : r = k
  · subst er; rw [if_pos rfl]; rfl
  · rw [if_neg (by omega), getO_app_none (low_none rfl (by omega))]
    exact gap_get (List.mem_range.2 (by omega))
set_option maxHeartbeats 2000000
theorem wMake_ok (result : Str) (parents : List Str) (B : Nat) (hpl : parents.length ≤ 536870912) (hB : 32 * B ≤ 4096) (h0 : (linesOf result).length ≤ B ∧ result.length ≤ 4096) (h1 : ∀ b ∈ parents, (linesOf b).length ≤ B ∧ b.length ≤ 4096) :
    FnOk Tryz.prog 53 [pStr result, pStrs parents] (fun rs => rs = [pTable (make16 result parents).1, pInt (make16 result parents).2]) := by
  refine FnOk.intro Tryz.func53 (by decide) rfl rfl rfl rfl ?_
  refine k2 ?_
  refine c_region ?_; refine l_effv (f_alloc 4 rfl) rfl ?_; refine l_neu (n_assign rfl rfl) rfl ?_; refine l_nil ?_
  refine k1 ?_; refine k2 ?_
  refine c_region ?_; refine l_neu (n_move rfl rfl) rfl ?_; refine l_neu (n_len rfl (.pure _ _ _ _)) rfl ?_; refine l_neu (n_assign rfl rfl) rfl ?_; refine l_nil ?_
  refine k1 ?_; refine k2 ?_; refine k2 ?_
  refine c_region ?_; refine l_neu (n_move rfl rfl) rfl ?_; refine l_neu (n_lss rfl rfl) rfl ?_; refine l_neu (n_move rfl rfl) rfl ?_; refine l_guard rfl rfl rfl rfl (fun hg => by rw [hg]; exact n_move rfl rfl) ?_; refine l_guard rfl rfl rfl rfl (fun hg => by rw [hg]; exact n_gtr rfl rfl) ?_; refine l_neu (n_pick_bool rfl (fun h => by first | rfl | (rw [h]; rfl)) (fun h => by first | rfl | (rw [h]; rfl))) rfl ?_; refine l_nil ?_
  refine k1 ?_
  refine c_cond rfl (fun ht => ?_) (fun ht => ?_)
  · have hc := of_decide_eq_true (or_pick.symm.trans ht)
    refine k2 ?_
    refine c_region ?_; refine l_neu (n_build rfl) rfl ?_; refine l_eff (e_store_ref TySz.out rfl rfl rfl rfl rfl rfl) ?_; refine l_neu (n_assign rfl rfl) rfl ?_; refine l_nil ?_
    refine k1 ?_
    refine c_sees (Sees.listB Row 3 rowC 4 1 rfl rfl) ?_
    refine k10 ?_; refine k11 ?_
    exact ret_ret (rs := [pTable ⟨0, []⟩, pInt 2]) (retc2 rfl rfl rfl rfl rfl rfl rfl) (by rw [make16, if_pos (by omega)])
  have hc := of_decide_eq_false (or_pick.symm.trans ht)
  obtain ⟨n, hn⟩ : ∃ n, n = parents.length := ⟨_, rfl⟩
  have hn1 : 1 ≤ n ∧ n ≤ 32 := by omega
  obtain ⟨f0, hf0⟩ : ∃ f0, f0 = linesOf result := ⟨_, rfl⟩
  obtain ⟨fs, hfs⟩ : ∃ fs, fs = linesOf result :: parents.map linesOf := ⟨_, rfl⟩
  have hfsm : fs = (result :: parents).map linesOf := by rw [hfs]; rfl
  have hfl : fs.length = n + 1 := by rw [hfs, hn]; simp
  have hfB : ∀ f ∈ fs, f.length ≤ B := by
    intro f hf
    rw [hfs] at hf
    rcases List.mem_cons.1 hf with rfl | hf
    · exact h0.1
    · obtain ⟨b, hb, rfl⟩ := List.mem_map.1 hf; exact (h1 b hb).1
  have hflat : fs.flatten.length ≤ (n + 1) * B := by
    rw [← hfl]
    clear hfsm hfs hfl
    induction fs with
    | nil => simp
    | cons x r ih =>
      have := ih fun f hf => hfB f (List.mem_cons_of_mem _ hf)
      have := hfB x (by simp)
      rw [List.flatten_cons, List.length_append, List.length_cons, Nat.add_mul, Nat.one_mul]; omega
  have hnB : n * B ≤ 4096 := Nat.le_trans (Nat.mul_le_mul_right _ hn1.2) hB
  have hB1 : (n + 1) * B ≤ 8192 := by rw [Nat.add_mul, Nat.one_mul]; omega
  obtain ⟨names, hnames⟩ : ∃ names, names = namesOf fs := ⟨_, rfl⟩
  obtain ⟨ids, hids⟩ : ∃ ids, ids = fs.map (idsOf names) := ⟨_, rfl⟩
  have hidl : ids.length = n + 1 := by rw [hids, List.length_map, hfl]
  obtain ⟨base, hbase⟩ : ∃ base, base = idsOf names f0 := ⟨_, rfl⟩
  have hb0 : base = ids.getD 0 [] := by rw [hids, hfs, hbase, hf0]; rfl
  have hbl : base.length = f0.length := by rw [hbase]; simp [idsOf]
  have hf0B : f0.length ≤ B := by rw [hf0]; exact h0.1
  have hidB : ∀ x ∈ ids, x.length ≤ B ∧ ∀ v ∈ x, 0 ≤ v ∧ v < (names.length : Int) := by
    intro x hx
    have h2 : ∀ v ∈ x, 0 ≤ v ∧ v < (names.length : Int) := by rw [hnames]; exact ids_in fs x (by rw [← hnames, ← hids]; exact hx)
    rw [hids] at hx
    obtain ⟨f, hf, rfl⟩ := List.mem_map.1 hx
    exact ⟨by rw [idsOf, List.length_map]; exact hfB f hf, h2⟩
  have hv0 : ids[(0 : Int).toNat]? = some base := by rw [hb0, List.getD_eq_getElem?_getD]; show ids[0]? = _; rw [List.getElem?_eq_getElem (by omega)]; rfl
  have hsame := fun p hp => loom_same (n := n) hb0 (fun x hx => by have := (hidB x hx).1; omega) (by omega) p hp
  have hok : ∀ p, LoomOk (fun v => 0 ≤ v ∧ v < (names.length : Int)) B base.length n (loomAt ids base.length n p) := fun p => loomAt_ok hidB p
  have hmk : make16 result parents = (⟨n, rowsTo names f0 (loomAt ids base.length n n) (f0.length + 1)⟩, 0) := by
    rw [make16, if_neg (by omega)]
    dsimp only
    rw [← hfs, ← hnames, ← hids, ← hf0, ← hn, ← hbl]
    rw [if_neg]
    rintro ⟨k, hk, hk2⟩
    refine hk2 ?_
    have h3 := (hok n).gaps k
    unfold coalesceOf
    rw [if_neg (by omega)]
    exact coalesceFrom_ok _ _ _ B (fun x hx => (h3.2 x hx).1) (by rw [h3.1]; simp only [List.length_nil]; omega)
  rw [hmk]
  refine c_cut [(0, sStr result), (1, sList Str 1 strC parents), (4, .s (.one (.ref 4 0))), (6, sInt n)] [(4, t4Box)] (by rw [hn]; exact Sees.of ⟨le1 rfl, le1 rfl, le1 rfl, le1 rfl, trivial⟩ ⟨rfl, trivial⟩) ?_
  refine k5 ?_; refine k1 ?_; refine k2 ?_
  refine c_region ?_; refine l_effv (f_adopt 760 _ strsC rfl) rfl ?_; refine l_nil ?_
  refine k1 ?_; refine k2 ?_; refine k2 ?_
  obtain ⟨bl, hbld⟩ : ∃ bl, bl = result :: parents := ⟨_, rfl⟩
  have hbll : bl.length = n + 1 := by rw [hbld, hn]; simp
  refine c_region ?_; refine l_neu (n_move rfl rfl) rfl ?_; refine l_neu (n_buildFull (c := strC) (ys := [result]) (asm_cons rfl rfl rfl rfl asm_nil) rfl rfl rfl) rfl ?_; refine l_neu (n_move rfl rfl) rfl ?_; refine l_neu (n_append_full rfl rfl (.pure _ _ _ _) (by (simp only [List.length_cons, List.length_nil]; omega)) ((by omega))) rfl ?_; refine l_neu (n_len rfl (.pure _ _ _ _)) rfl ?_; refine l_neu (n_move rfl rfl) rfl ?_; refine l_nil ?_
  refine k1 ?_; refine k3 ?_
  rw [show [result] ++ parents = bl by rw [hbld]; rfl]
  have hblB : ∀ b ∈ bl, (linesOf b).length ≤ B ∧ b.length ≤ 4096 := by
    intro b hb
    rw [hbld] at hb
    rcases List.mem_cons.1 hb with rfl | hb
    · exact h0
    · exact h1 b hb
  have hfsb : fs = bl.map linesOf := by rw [hfsm, hbld]
  refine c_while (X := Nat) (fun k => ([(4, .s (.one (.ref 4 0))), (6, sInt n), (7, .s (.one (.buf 760 (List Str) 1 strsC ((bl.take k).map linesOf)))), (29, sList Str 1 strC bl), (30, sInt bl.length), (31, sInt k)], [(4, t4Box), (760, .spare ((bl.take k).map linesOf).length 1 60)])) (fun k => k ≤ bl.length) (fun k => bl.length - k) 0 (Nat.zero_le _) (Sees.of ⟨le1 rfl, le1 rfl, le1 rfl, le1 rfl, le1 rfl, le1 rfl, trivial⟩ ⟨rfl, rfl, trivial⟩) ?_
  intro k hk
  dsimp only at hk ⊢
  have hml : ((bl.take k).map linesOf).length = k := by rw [List.length_map, List.length_take]; omega
  refine k2 ?_
  refine c_region ?_; refine l_neu (n_lss rfl rfl) rfl ?_; refine l_nil ?_
  refine k1 ?_; refine k2 ?_
  refine c_cond rfl (fun ht => ?_) (fun ht => ?_)
  · have hlt : k < bl.length := by have := of_decide_eq_true ht; omega
    have hv : bl[k]? = some bl[k] := by simp [hlt]
    have hbB := hblB _ (List.getElem_mem hlt)
    have hst : (bl.take (k + 1)).map linesOf = (bl.take k).map linesOf ++ [linesOf bl[k]] := by rw [List.take_succ_eq_append_getElem hlt]; simp only [List.map_append, List.map_cons, List.map_nil]
    obtain ⟨b, hb⟩ : ∃ b, b = bl[k] := ⟨_, rfl⟩
    rw [← hb] at hv hbB hst
    have hsp := tsplit_ok b (by omega)
    rw [splitOf_small hbB.2] at hsp
    dsimp only at hsp
    refine k5 ?_; refine k1 ?_; refine k2 ?_; refine k3 ?_; refine k2 ?_
    refine c_region ?_; refine l_neu (n_indexAddr rfl (.pure _ _ _ _) rfl (by omega) hv) rfl ?_; refine l_neu (n_load_eref rfl rfl) rfl ?_; refine l_neu (n_assign rfl rfl) rfl ?_; refine l_nil ?_
    refine k1 ?_; refine k2 ?_
    refine c_region ?_; refine l_neu (n_move rfl rfl) rfl ?_; refine l_call (hsp) rfl rfl rfl ?_; rintro _ rfl; refine l_neu (n_move rfl rfl) rfl ?_; refine l_neu (n_extract rfl rfl) rfl ?_; refine l_neu (n_extract rfl rfl) rfl ?_; refine l_neu (n_assign rfl rfl) rfl ?_; refine l_neu (n_assign rfl rfl) rfl ?_; refine l_nil ?_
    refine k1 ?_; refine k2 ?_; refine k2 ?_
    refine c_region ?_; refine l_neu (n_move rfl rfl) rfl ?_; refine l_neu (n_neq rfl rfl) rfl ?_; refine l_nil ?_
    refine k1 ?_
    refine c_cond rfl (fun ht => ?_) (fun ht => ?_)
    · cases ht
    refine k5 ?_; refine k1 ?_
    refine c_region ?_; refine l_neu (n_move rfl rfl) rfl ?_; refine l_neu (n_move rfl rfl) rfl ?_; refine l_neu (n_buildSlice (c := strsC) (ys := [linesOf b]) (asm_cons rfl rfl rfl rfl asm_nil) rfl rfl rfl) rfl ?_; refine l_effv (e_append rfl rfl rfl (.pure _ _ _ _) (by (rw [hml]; simp only [List.length_cons, List.length_nil]; omega)) rfl) rfl ?_; refine l_neu (n_assign rfl rfl) rfl ?_; refine l_nil ?_
    refine k4 ?_; refine k1 ?_
    refine c_region ?_; refine l_neu (n_add rfl rfl (by omega)) rfl ?_; refine l_neu (n_move rfl rfl) rfl ?_; refine l_nil ?_
    refine k1 ?_
    refine ⟨k + 1, by omega, by omega, ?_⟩
    rw [hst]
    exact Sees.of ⟨le1 rfl, le1 rfl, le1 rfl, le1 rfl, le1 rfl, le1 rfl, trivial⟩ ⟨rfl, rfl, trivial⟩
  have hkl : k = bl.length := by have := of_decide_eq_false ht; omega
  rw [hkl, List.take_length, ← hfsb]
  have hI := internIds_ok fs (by omega) (by omega)
  have hN := internNames_ok fs (by omega) (by omega)
  rw [← hnames, ← hids] at hI
  rw [← hnames] at hN
  refine k6 ?_; refine k2 ?_
  refine c_region ?_; refine l_neu (n_move rfl rfl) rfl ?_; refine l_call (hI) rfl rfl rfl ?_; rintro _ rfl; refine l_neu (n_assign rfl rfl) rfl ?_; refine l_nil ?_
  refine c_sees (fr' := [(4, .s (.one (.ref 4 0))), (6, sInt n), (7, sList (List Str) 1 strsC fs), (12, sList (List Int) 1 intsC ids)]) (ob' := [(4, t4Box)]) (Sees.of ⟨le1 rfl, le1 rfl, leL rfl, le1 rfl, trivial⟩ ⟨rfl, trivial⟩) ?_
  refine k2 ?_
  refine c_region_ord [13, 9] [[], [9], [13, 9]] [(9, ([731], [])), (13, ([730], []))] [(0, []), (1, []), (2, []), (3, []), (4, []), (5, []), (6, []), (7, []), (8, []), (9, []), (10, []), (11, []), (12, [9]), (13, [9]), (14, [13, 9])] [(0, [9]), (1, [9]), (2, [9]), (3, [9]), (4, [9]), (10, [9]), (11, [9])] (by kernel_rfl) (by kernel_rfl) ?_; refine w_neu rfl rfl (by kernel_rfl) rfl rfl (n_move rfl rfl) ?_; refine w_neu rfl rfl (by kernel_rfl) rfl rfl (n_call1 (hN) rfl rfl) ?_; refine w_neu rfl rfl (by kernel_rfl) rfl rfl (n_move rfl rfl) ?_; refine w_neu rfl rfl (by kernel_rfl) rfl rfl (n_indexAddr rfl (.pure _ _ _ _) rfl (by omega) hv0) ?_; refine w_neu rfl rfl (by kernel_rfl) rfl rfl (n_load_eref rfl rfl) ?_; refine w_neu rfl rfl (by kernel_rfl) rfl rfl (n_move rfl rfl) ?_; refine w_neu rfl rfl (by kernel_rfl) rfl rfl (n_indexAddr rfl (.pure _ _ _ _) rfl (by omega) hv0) ?_; refine w_neu rfl rfl (by kernel_rfl) rfl rfl (n_load_eref rfl rfl) ?_; refine w_neu rfl rfl (by kernel_rfl) rfl rfl (n_len rfl (.pure _ _ _ _)) ?_; refine w_eff rfl rfl (by kernel_rfl) rfl rfl (r_fresh (fun frc hU hk => f_makeZ 731 Int u32C 0 (opvU hU rfl) (opvU hU rfl) (by omega) (by omega) (fun _ => by first | exact ⟨⟨rfl, rfl⟩, trivial⟩ | exact ⟨rep_nil _ _ _, trivial⟩) (by rw [hk]; rfl))) rfl ?_; refine w_neu rfl rfl (by kernel_rfl) rfl rfl (n_move rfl rfl) ?_; refine w_neu rfl rfl (by kernel_rfl) rfl rfl (n_build rfl) ?_; refine w_neu rfl rfl (by kernel_rfl) rfl rfl (n_build rfl) ?_; refine w_eff rfl rfl (by kernel_rfl) rfl rfl (r_fresh (fun frc hU hk => f_box 730 (opvU hU rfl) rfl (by rw [hk]; rfl))) rfl ?_; refine w_neu rfl rfl (by kernel_rfl) rfl rfl (n_assign rfl rfl) ?_; refine w_nil (by kernel_rfl) rfl ?_ ?_
  · refine x_neu rfl rfl (by kernel_rfl) rfl rfl (n_move rfl rfl) ?_; refine x_neu rfl rfl (by kernel_rfl) rfl rfl (n_call1 (hN) rfl rfl) ?_; refine x_neu rfl rfl (by kernel_rfl) rfl rfl (n_move rfl rfl) ?_; refine x_neu rfl rfl (by kernel_rfl) rfl rfl (n_indexAddr rfl (.pure _ _ _ _) rfl (by omega) hv0) ?_; refine x_neu rfl rfl (by kernel_rfl) rfl rfl (n_load_eref rfl rfl) ?_; refine x_neu rfl rfl (by kernel_rfl) rfl rfl (n_move rfl rfl) ?_; refine x_neu rfl rfl (by kernel_rfl) rfl rfl (n_build rfl) ?_; exact x_nil
  rw [Int.toNat_natCast]
  refine k1 ?_; refine k2 ?_; refine k2 ?_
  refine c_sees (Sees.adoptBG 732 (List (List Int)) 1 intssC 138 (kb := 730) (o := 3) rfl rfl rfl) ?_
  refine c_sees (Sees.toGT 732 rfl) ?_
  refine c_region ?_; refine l_neu (n_move rfl rfl) rfl ?_; refine l_neu (n_indexAddr rfl (.pure _ _ _ _) rfl (by omega) hv0) rfl ?_; refine l_neu (n_load_eref rfl rfl) rfl ?_; refine l_neu (n_len rfl (.pure _ _ _ _)) rfl ?_; refine l_neu (n_add rfl rfl (by omega)) rfl ?_; refine l_neu (n_move rfl rfl) rfl ?_; refine l_nil ?_
  refine k1 ?_; refine k3 ?_
  refine c_while (X := Nat) (fun k => ([(4, .s (.one (.ref 4 0))), (6, sInt n), (12, sList (List Int) 1 intsC ids), (13, .s (.one (.ref 730 0))), (69, sInt ((base.length : Int) + 1)), (70, sInt k)], loomB names base (List.replicate base.length 0) n k ++ gapObs intsC (gapZ n) (List.range k))) (fun k => k ≤ base.length + 1) (fun k => base.length + 1 - k) 0 (Nat.zero_le _) (Sees.of ⟨le1 rfl, le1 rfl, le1 rfl, le1 rfl, le1 rfl, le1 rfl, trivial⟩ ⟨rfl, rfl, rfl, rfl, trivial⟩) ?_
  intro k hk
  dsimp only at hk ⊢
  refine k2 ?_
  refine c_region ?_; refine l_neu (n_lss rfl rfl) rfl ?_; refine l_nil ?_
  refine k1 ?_; refine k2 ?_
  refine c_cond rfl (fun ht => ?_) (fun ht => ?_)
  · have hlt : k < base.length + 1 := by have := of_decide_eq_true ht; omega
    have hfree := loomB_free 734 names base (List.replicate base.length 0) n k (by omega) (by omega) (by omega) (by omega) (by omega) (gapZ n)
    have hfree5 : obFree 735 ((734, .arr (List Int) 1 intsC (List.replicate n [])) :: (loomB names base (List.replicate base.length 0) n k ++ gapObs intsC (gapZ n) (List.range k))) = true := by
      have := loomB_free 735 names base (List.replicate base.length 0) n k (by omega) (by omega) (by omega) (by omega) (by omega) (gapZ n)
      rw [obFree, this]; rfl
    have h732 : (gapRow k ++ [TC.mut 734]).map (TC.forget 732) = gapRow k ++ [TC.mut 734] := tcs_free (by rw [List.all_append, gapRow_free (by omega)]; rfl)
    refine k5 ?_; refine k1 ?_; refine k2 ?_; refine k3 ?_
    refine c_region_ord [11, 8, 7, 6] [[], [6], [7, 6], [8, 7, 6], [11, 8, 7, 6]] [(6, ([734], [])), (7, ([735], [])), (8, ([732], [76])), (11, ([], []))] [(0, []), (1, []), (2, []), (3, []), (4, []), (5, []), (6, []), (7, [6]), (8, [7, 6]), (9, [8, 7, 6]), (10, [8, 7, 6]), (11, [8, 7, 6])] [(0, [6]), (0, [7, 6]), (0, [8, 7, 6]), (1, [6]), (1, [7, 6]), (2, [6]), (2, [7, 6]), (3, [6]), (3, [7, 6]), (4, [6]), (4, [7, 6])] (by kernel_rfl) (by kernel_rfl) ?_; refine w_neu rfl rfl (by kernel_rfl) rfl rfl (n_move rfl rfl) ?_; refine w_neu rfl rfl (by kernel_rfl) rfl rfl (n_move rfl rfl) ?_; refine w_neu rfl rfl (by kernel_rfl) rfl rfl (n_nilCheck_ref rfl) ?_; refine w_neu rfl rfl (by kernel_rfl) rfl rfl (n_field_ref rfl) ?_; refine w_neu rfl rfl (by kernel_rfl) rfl rfl (n_load_ref rfl rfl rfl) ?_; refine w_neu rfl rfl (by kernel_rfl) rfl rfl (n_move rfl rfl) ?_; refine w_eff rfl rfl (by kernel_rfl) rfl rfl (r_fresh (fun frc hU hk => f_makeZ 734 (List Int) intsC [] (opvU hU rfl) (opvU hU rfl) (by omega) (by omega) (fun _ => by first | exact ⟨⟨rfl, rfl⟩, trivial⟩ | exact ⟨rep_nil _ _ _, trivial⟩) (by rw [hk]; exact hfree))) rfl ?_; refine w_eff rfl rfl (by kernel_rfl) rfl rfl (r_fresh (fun frc hU hk => f_buildT 735 (opvU hU rfl) rfl rfl rfl rfl (by rw [hk]; exact hfree5))) rfl ?_; refine w_eff rfl rfl (by kernel_rfl) rfl rfl (r_turn (fun frc hU => e_append_gTT (opvU hU rfl) rfl (opvU hU rfl) rfl (by omega) rfl)) rfl ?_; refine w_neu rfl rfl (by kernel_rfl) rfl rfl (n_nilCheck_ref rfl) ?_; refine w_neu rfl rfl (by kernel_rfl) rfl rfl (n_field_ref rfl) ?_; refine w_eff rfl rfl (by kernel_rfl) rfl rfl (r_eff (fun frc hU => e_store_ref TySz.out (opvU hU rfl) rfl (opvU hU rfl) rfl rfl rfl)) rfl ?_; refine w_nil (by kernel_rfl) rfl ?_ ?_
    · refine x_neu rfl rfl (by kernel_rfl) rfl rfl (n_move rfl rfl) ?_; refine x_neu rfl rfl (by kernel_rfl) rfl rfl (n_move rfl rfl) ?_; refine x_neu rfl rfl (by kernel_rfl) rfl rfl (n_move rfl rfl) ?_; refine x_neu rfl rfl (by kernel_rfl) rfl rfl (n_move rfl rfl) ?_; refine x_neu rfl rfl (by kernel_rfl) rfl rfl (n_move rfl rfl) ?_; refine x_neu rfl rfl (by kernel_rfl) rfl rfl (n_nilCheck_ref rfl) ?_; refine x_neu rfl rfl (by kernel_rfl) rfl rfl (n_nilCheck_ref rfl) ?_; refine x_neu rfl rfl (by kernel_rfl) rfl rfl (n_field_ref rfl) ?_; refine x_neu rfl rfl (by kernel_rfl) rfl rfl (n_field_ref rfl) ?_; refine x_neu rfl rfl (by kernel_rfl) rfl rfl (n_load_ref rfl rfl rfl) ?_; refine x_neu rfl rfl (by kernel_rfl) rfl rfl (n_load_ref rfl rfl rfl) ?_; exact x_nil
    refine c_cut [(4, .s (.one (.ref 4 0))), (6, sInt n), (12, sList (List Int) 1 intsC ids), (13, .s (.one (.ref 730 0))), (69, sInt ((base.length : Int) + 1)), (70, sInt k)] ([(4, t4Box), (730, loomBox names base n), (731, .arr Int 1 u32C (List.replicate base.length 0)), (732, .growT 138 (k + 1) 1 (gapRow k ++ [TC.mut 734])), (734, .arr (List Int) 1 intsC (List.replicate n [])), (735, .tarr 1 1 [.mut 734])] ++ gapObs intsC (gapZ n) (List.range k)) (Sees.objs ⟨le1 rfl, le1 rfl, le1 rfl, le1 rfl, le1 rfl, le1 rfl, trivial⟩ (obs_put (L := [(4, _), (730, _), (731, _), (732, _), (734, _), (735, _)]) ⟨rfl, rfl, rfl, congrArg (fun ts => some (Ob.growT 138 (k + 1) 1 ts)) h732, rfl, rfl, trivial⟩ (by repeat (first | exact gap_fgt | refine obs_skip rfl ?_)))) ?_
    refine c_sees (loom_name (by omega) (by simp only [frFree, SV.free, S1.free, TC.free, beq_no (show 4 ≠ k + 1000 by omega), beq_no (show 730 ≠ k + 1000 by omega)]; rfl)) ?_
    skip
    refine c_region ?_; refine l_neu (n_add rfl rfl (by omega)) rfl ?_; refine l_neu (n_move rfl rfl) rfl ?_; refine l_nil ?_
    refine k1 ?_
    refine ⟨k + 1, by omega, by omega, ?_⟩
    exact Sees.objs ⟨le1 rfl, le1 rfl, le1 rfl, le1 rfl, le1 rfl, le1 rfl, trivial⟩ (fun _ _ h => h)
  have hkb : k = base.length + 1 := by have := of_decide_eq_false ht; omega
  rw [hkb]
  refine c_cut [(4, .s (.one (.ref 4 0))), (6, sInt n), (12, sList (List Int) 1 intsC ids), (13, .s (.one (.ref 730 0)))] (loomO names base (List.replicate base.length 0) (gapZ n) n (base.length + 1)) (Sees.objs ⟨le1 rfl, le1 rfl, le1 rfl, le1 rfl, trivial⟩ (fun _ _ h => h)) ?_
  refine k6 ?_; refine k2 ?_; refine k2 ?_
  refine c_region ?_; refine l_neu (n_move rfl rfl) rfl ?_; refine l_neu (n_move rfl rfl) rfl ?_; refine l_nil ?_
  refine k1 ?_; refine k3 ?_
  obtain ⟨s, hs⟩ : ∃ s : Nat → Loom, s = fun p => progAt ids base.length n p := ⟨_, rfl⟩
  have hsp : ∀ p, p ≤ 32 → s p = loomAt ids base.length n p ∧ (s p).1.length = base.length ∧ ∀ k, ((s p).2 k).length = n := fun p hp => by
    obtain ⟨q1, _, q3⟩ := hsame p hp
    rw [hs]
    dsimp only
    refine ⟨q1, q3, fun k => ?_⟩
    rw [q1]
    exact ((hok p).gaps k).1
  refine c_while (X := Nat) (fun p => ([(4, .s (.one (.ref 4 0))), (6, sInt n), (12, sList (List Int) 1 intsC ids), (13, .s (.one (.ref 730 0))), (84, sInt n), (85, sInt p)], loomO names base (s p).1 (s p).2 n (base.length + 1))) (fun p => p ≤ n) (fun p => n - p) 0 (Nat.zero_le _) (by rw [hs]; exact Sees.objs ⟨le1 rfl, le1 rfl, le1 rfl, le1 rfl, le1 rfl, le1 rfl, trivial⟩ (fun _ _ h => h)) ?_
  intro p hp
  dsimp only at hp ⊢
  obtain ⟨p1, p2, p3⟩ := hsp p (by omega)
  refine k2 ?_
  refine c_region ?_; refine l_neu (n_lss rfl rfl) rfl ?_; refine l_nil ?_
  refine k1 ?_; refine k2 ?_
  refine c_cond rfl (fun ht => ?_) (fun ht => ?_)
  · have hlt : p < n := by have := of_decide_eq_true ht; omega
    have hv1 : ids[((p : Int) + 1).toNat]? = some (ids.getD (p + 1) []) := by rw [show ((p : Int) + 1).toNat = p + 1 by omega, List.getD_eq_getElem?_getD, List.getElem?_eq_getElem (by omega)]; rfl
    have hfB := (hidB _ (List.mem_of_getElem? hv1)).1
    have hst : s (p + 1) = progStep ids (s p) p := by rw [hs]; exact progAt_succ ids base.length n p
    obtain ⟨file, hfile⟩ : ∃ f, f = ids.getD (p + 1) [] := ⟨_, rfl⟩
    have hst2 : s (p + 1) = ((walkOf file base).foldl (setRun p) (s p).1, (walkOf file base).foldl (gapPut p file) (s p).2) := by rw [hst, hfile, hb0]; rfl
    rw [← hfile] at hv1 hfB
    refine k5 ?_; refine k1 ?_; refine k2 ?_; refine k3 ?_; refine k2 ?_
    refine c_region ?_; refine l_neu (n_move rfl rfl) rfl ?_; refine l_neu (n_assign rfl rfl) rfl ?_; refine l_nil ?_
    refine k1 ?_; refine k2 ?_
    refine c_region ?_; refine l_neu (n_move rfl rfl) rfl ?_; refine l_neu (n_move rfl rfl) rfl ?_; refine l_neu (n_move rfl rfl) rfl ?_; refine l_neu (n_move rfl rfl) rfl ?_; refine l_neu (n_add rfl rfl (by omega)) rfl ?_; refine l_neu (n_indexAddr rfl (.pure _ _ _ _) rfl (by omega) hv1) rfl ?_; refine l_neu (n_load_eref rfl rfl) rfl ?_; refine l_met (wadd_met names base file (s p).1 (s p).2 n p (by omega) (by omega) p2 (by omega) hlt p3) rfl rfl rfl ?_; rintro _ _ ⟨rfl, rfl⟩; refine l_neu (n_assign rfl rfl) rfl ?_; refine l_nil ?_
    refine k1 ?_; refine k2 ?_
    refine c_region ?_; refine l_neu (n_move rfl rfl) rfl ?_; refine l_neu (n_neq rfl rfl) rfl ?_; refine l_nil ?_
    refine k1 ?_
    refine c_cond rfl (fun ht => ?_) (fun ht => ?_)
    · cases ht
    refine k5 ?_; refine k4 ?_; refine k1 ?_
    refine c_region ?_; refine l_neu (n_add rfl rfl (by omega)) rfl ?_; refine l_neu (n_move rfl rfl) rfl ?_; refine l_nil ?_
    refine k1 ?_
    refine ⟨p + 1, by omega, by omega, ?_⟩
    rw [hst2]
    exact Sees.objs ⟨le1 rfl, le1 rfl, le1 rfl, le1 rfl, le1 rfl, le1 rfl, trivial⟩ (fun _ _ h => h)
  have hpn : p = n := by have := of_decide_eq_false ht; omega
  subst hpn
  obtain ⟨ms, hms⟩ : ∃ ms, ms = (s p).1 := ⟨_, rfl⟩
  obtain ⟨g, hg⟩ : ∃ g, g = (s p).2 := ⟨_, rfl⟩
  have hpair : loomAt ids base.length p p = (ms, g) := by rw [← p1, hms, hg]
  rw [← hms, ← hg]
  rw [← hms] at p2
  have hgk := fun k => (hok p).gaps k
  rw [hpair] at hgk ⊢
  dsimp only at hgk
  refine c_cut [(4, .s (.one (.ref 4 0))), (6, sInt p), (13, .s (.one (.ref 730 0)))] ([(4, t4Box), (730, loomBox names base p), (731, .arr Int 1 u32C ms)] ++ ((732, .growT 138 (base.length + 1) 1 (rowDown intsC (base.length + 1) 0 g)) :: gapObs intsC g (List.range (base.length + 1)))) (by rw [← gapRow_any]; exact Sees.objs ⟨le1 rfl, le1 rfl, le1 rfl, trivial⟩ (fun _ _ h => h)) ?_
  refine c_sees (Sees.rowListG (by omega) rfl rfl (fun r _ => ?_) (fun r _ => ?_)) ?_
  · simp only [frFree, SV.free, S1.free, TC.free, beq_no (show 4 ≠ r + 1000 by omega), beq_no (show 730 ≠ r + 1000 by omega)]; rfl
  · simp only [allFree, Ob.free, List.all_cons, List.all_nil, TC.free, beq_no (show 731 ≠ r + 1000 by omega), beq_no (show 732 ≠ r + 1000 by omega)]; rfl
  obtain ⟨gs, hgs⟩ : ∃ gs, gs = (List.range (base.length + 1)).map g := ⟨_, rfl⟩
  rw [← hgs]
  refine c_sees (Sees.freeze (k := 731) rfl) ?_
  refine c_sees (Sees.freezeG (k := 732) rfl rfl) ?_
  refine c_cut [(4, .s (.one (.ref 4 0))), (6, sInt p), (13, .s (.one (.ref 730 0)))] [(4, t4Box), (730, .box [.p (.list Str 1 strC names), .p (.list Int 1 intC base), .p (.list Int 1 u32C ms), .p (.list (List (List Int)) 1 intssC gs), .p (.v (.int .i64 p)), .p (.v (.slice none 0 0))])] (Sees.of ⟨le1 rfl, le1 rfl, le1 rfl, trivial⟩ ⟨rfl, rfl, trivial⟩) ?_
  refine c_sees (Sees.adoptB 733 Row 3 rowC 69 (kb := 730) (o := 5) rfl rfl rfl) ?_
  refine c_cut [(4, .s (.one (.ref 4 0))), (6, sInt p), (13, .s (.one (.ref 730 0)))] (weaveO names base ms gs p []) (Sees.of ⟨le1 rfl, le1 rfl, le1 rfl, trivial⟩ ⟨rfl, rfl, rfl, trivial⟩) ?_
  have hnm : ∀ k, k < f0.length → 0 ≤ base.getD k 0 ∧ names[(base.getD k 0).toNat]? = some (f0.getD k []) := by
    intro k hk
    have hm : f0[k] ∈ names := by rw [hnames]; exact namesOf_mem fs _ f0 (by rw [hfs, hf0]; simp) (List.getElem_mem hk)
    have e1 : base.getD k 0 = placeOf names f0[k] 0 := by rw [hbase, List.getD_eq_getElem?_getD]; unfold idsOf; rw [List.getElem?_map, List.getElem?_eq_getElem hk]; rfl
    have e2 : f0.getD k [] = f0[k] := by rw [List.getD_eq_getElem?_getD, List.getElem?_eq_getElem hk]; rfl
    have e3 := placeOf_le names f0[k] 0 (Int.le_refl _) hm
    have e4 := placeOf_at names f0[k] 0 (Int.le_refl _) hm
    rw [e1, e2]
    rw [Int.sub_zero] at e4
    exact ⟨e3.1, e4⟩
  have hW := fun gf => wweave_met (gf := gf) names f0 base ms g p B (by omega) hbl (by omega) (by omega) hnB hgk hnm
  rw [hbl] at hgs
  rw [← hgs] at hW
  refine k6 ?_; refine k2 ?_; refine k2 ?_
  refine c_region ?_; refine l_neu (n_move rfl rfl) rfl ?_; refine l_met (hW _) rfl rfl rfl ?_; rintro _ _ ⟨rfl, rfl⟩; refine l_neu (n_assign rfl rfl) rfl ?_; refine l_nil ?_
  refine k1 ?_; refine k2 ?_
  refine c_region ?_; refine l_neu (n_move rfl rfl) rfl ?_; refine l_neu (n_neq rfl rfl) rfl ?_; refine l_nil ?_
  refine k1 ?_
  refine c_cond rfl (fun ht => ?_) (fun ht => ?_)
  · cases ht
  refine k5 ?_; refine k1 ?_; refine k2 ?_
  refine c_region ?_; refine l_neu (n_move rfl rfl) rfl ?_; refine l_neu (n_nilCheck_ref rfl) rfl ?_; refine l_neu (n_field_ref rfl) rfl ?_; refine l_neu (n_loads_ref rfl rfl rfl) rfl ?_; refine l_eff (e_store_ref TySz.out rfl rfl rfl rfl rfl rfl) ?_; refine l_neu (n_assign rfl rfl) rfl ?_; refine l_nil ?_
  refine k1 ?_; refine k10 ?_
  exact ret_ret (rs := [pTable ⟨p, rowsTo names f0 (ms, g) (f0.length + 1)⟩, pInt 0]) (retc2 rfl rfl rfl rfl rfl rfl rfl) rfl
end Go.Proofs.YtbiadkkamhpdnaaGreatDoor
namespace Go.Proofs.YtbiadkkamhpdnaaGreatDoor
open Go Go.AL
set_option maxRecDepth 100000
abbrev iS (i : Int) : S1 := .one (.p (.v (.int .i64 i)))
set_option maxHeartbeats 1000000
end Go.Proofs.YtbiadkkamhpdnaaGreatDoor
namespace Go.Proofs.YtbiadkkamhpdnaaGreatDoor
open Go Go.AL
set_option maxRecDepth 100000
end Go.Proofs.YtbiadkkamhpdnaaGreatDoor
