/- Walks of the program's functions. -/
import Derived.Test.YtbiadkkamhpdnaaGreatDoorFc
import Derived.Test.YtbiadkkamhpdnaaGreatDoorFd
import Derived.Test.YtbiadkkamhpdnaaGreatDoorFb
import Derived.Test.YtbiadkkamhpdnaaGreatDoorFs
set_option linter.unusedSimpArgs false
namespace Go.Proofs.YtbiadkkamhpdnaaGreatDoor
open Go Go.AL
set_option maxRecDepth 100000
set_option maxHeartbeats 1000000
end Go.Proofs.YtbiadkkamhpdnaaGreatDoor
namespace Go.Proofs.YtbiadkkamhpdnaaGreatDoor
open Go Go.AL
set_option maxRecDepth 100000
theorem pickM_made (raw : List Int) (ctx : Int) : pickM raw ctx = (⟨[111], [110], pickHs [111] [110] raw (modOf ctx 4)⟩, 0) := by
  have h1 := pickA_len raw
  have h2 := pickB_len raw
  obtain ⟨h3, h4⟩ := modOf_in ctx (n := 4) (by omega)
  obtain ⟨e1, _, _⟩ := make12_good [111] [110] (pickA raw) (pickB raw) (modOf ctx 4) (by decide) (by decide) h3 (by omega) (by omega) (by omega)
  have e2 := (pickHs_is (on := [111]) (nn := [110]) (by decide) (by decide) raw (c := modOf ctx 4) (by omega)).1
  unfold pickM
  rw [e1, ← e2]
  unfold made12 scriptD
  rw [if_neg (by decide), if_neg (by omega), if_neg (by decide)]
theorem sum_set_le (f : PatchHunk → Nat) : ∀ (l : List PatchHunk) (i : Nat) (x : PatchHunk), ((l.set i x).map f).sum ≤ (l.map f).sum + f x
  | [], _, _ => by simp
  | y :: r, 0, x => by simp only [List.set_cons_zero, List.map_cons, List.sum_cons]; omega
  | y :: r, i + 1, x => by
    have := sum_set_le f r i x
    simp only [List.set_cons_succ, List.map_cons, List.sum_cons]; omega
theorem sum_set_leL (f : PatchLine → Nat) : ∀ (l : List PatchLine) (i : Nat) (x : PatchLine), ((l.set i x).map f).sum ≤ (l.map f).sum + f x
  | [], _, _ => by simp
  | y :: r, 0, x => by simp only [List.set_cons_zero, List.map_cons, List.sum_cons]; omega
  | y :: r, i + 1, x => by
    have := sum_set_leL f r i x
    simp only [List.set_cons_succ, List.map_cons, List.sum_cons]; omega
theorem szP_set (hs : List PatchHunk) (r : Nat) (h : PatchHunk) : szP (hs.set r h) ≤ szP hs + szH h := sum_set_le szH hs r h
theorem szH_set (o n : Int) (ls : List PatchLine) (i : Nat) (x : PatchLine) : szH ⟨o, n, ls.set i x⟩ ≤ szH ⟨o, n, ls⟩ + szL x := by
  have := sum_set_leL szL ls i x
  unfold szH; dsimp only; omega
set_option maxHeartbeats 1000000
end Go.Proofs.YtbiadkkamhpdnaaGreatDoor
namespace Go.Proofs.YtbiadkkamhpdnaaGreatDoor
open Go Go.AL
set_option maxRecDepth 100000
set_option maxHeartbeats 1000000
theorem lawPRest_ok (raw : List Int) (ctx what pos : Int) : FnOk Tryz.prog 4 [pInts raw, pInt ctx, pInt what, pInt pos] (fun rs => rs = [pBool true]) := by
  have hal := pickA_len raw
  have hm4 := modOf_in ctx (n := 4) (by omega)
  obtain ⟨_, hck, hsz⟩ := pickHs_is (on := [111]) (nn := [110]) (by decide) (by decide) raw (c := modOf ctx 4) (by omega)
  have hgl := good_lines hck
  have hpm := pickM_made raw ctx
  have hpk := pick14_ok raw ctx
  have hmet := pick14_met raw ctx
  rw [hpm] at hpk
  obtain ⟨hs, hhs⟩ : ∃ hs, hs = pickHs [111] [110] raw (modOf ctx 4) := ⟨_, rfl⟩
  rw [← hhs] at hsz hgl hpk hmet
  dsimp only at hgl hpk
  have hsl := szP_len hs
  obtain ⟨a, ha⟩ : ∃ a, a = pickA raw := ⟨_, rfl⟩
  rw [← ha] at hpk hmet hal
  refine FnOk.intro Tryz.func4 (by decide) rfl rfl rfl rfl ?_
  refine k2 ?_
  refine c_region ?_; refine l_neu (n_assign rfl rfl) rfl ?_; refine l_nil ?_
  refine then_normal ?_
  refine c_joinE2 (X := Patch) (fun q => ([(0, .s (pInts raw).s1), (9, .s (.one (.ref 9 0))), (10, sStr a)], [(9, .box (pPatch q).s1.cells)])) (fun q => szP q.Hunks ≤ 1000000) ?_ ?_
  · by_cases hne : hs = []
    · rw [hne] at hpk
      refine c_region ?_; refine l_neu (n_move rfl rfl) rfl ?_; refine l_neu (n_move rfl rfl) rfl ?_; refine l_call (hpk) rfl rfl rfl ?_; rintro _ rfl; refine l_neu (n_move rfl rfl) rfl ?_; refine l_neu (n_extract rfl rfl) rfl ?_; refine l_neu (n_extract rfl rfl) rfl ?_; refine l_neu (n_extract rfl rfl) rfl ?_; refine l_effv (f_alloc 9 rfl) rfl ?_; refine l_eff (e_store_ref TySz.out rfl rfl rfl rfl rfl rfl) ?_; refine l_neu (n_assign rfl rfl) rfl ?_; refine l_neu (n_assign rfl rfl) rfl ?_; refine l_nil ?_
      refine k1 ?_; refine k2 ?_
      refine c_region ?_; refine l_neu (n_field_ref rfl) rfl ?_; refine l_neu (n_load_ref rfl rfl rfl) rfl ?_; refine l_neu (n_len rfl (.pure _ _ _ _)) rfl ?_; refine l_neu (n_gtr rfl rfl) rfl ?_; refine l_nil ?_
      refine k1 ?_
      refine c_cond rfl (fun ht => ?_) (fun ht => ?_)
      · exfalso; simp at ht
      refine k5 ?_; refine k1 ?_
      exact ⟨⟨[111], [110], []⟩, by decide, Sees.of ⟨le1 rfl, le1 rfl, le1 rfl, trivial⟩ ⟨rfl, trivial⟩⟩
    have hpos : 0 < hs.length := List.length_pos_iff.2 hne
    have hmi := modOf_in pos (n := hs.length) (by omega)
    have hmod := mod_ok pos hs.length (by omega) (by omega)
    obtain ⟨R, hR⟩ : ∃ R : Nat, modOf pos hs.length = R := ⟨(modOf pos hs.length).toNat, by omega⟩
    rw [hR] at hmi hmod
    have hRl : R < hs.length := by omega
    have hv : hs[R]? = some hs[R] := by simp [hRl]
    obtain ⟨gl1, gl2, gl3⟩ := hgl _ (List.getElem_mem hRl)
    obtain ⟨h, hh⟩ : ∃ h, h = hs[R] := ⟨_, rfl⟩
    have hhz : szH h ≤ 65536 := by have := szP_mem (List.getElem_mem hRl); rw [hh]; omega
    rw [← hh] at hv gl1 gl2 gl3
    have hmet := hmet R hRl
    rw [hunkLs_at hv] at hmet
    obtain ⟨ho1, ho2⟩ := hunkTs_rows hv
    have hmi2 := modOf_in pos (n := h.Lines.length) (by omega)
    have hll : h.Lines.length ≤ 65536 := by have := szL_len h.Lines; unfold szH at hhz; omega
    have hmod2 := mod_ok pos h.Lines.length (by omega) (by omega)
    obtain ⟨K, hK⟩ : ∃ K : Nat, modOf pos h.Lines.length = K := ⟨(modOf pos h.Lines.length).toNat, by omega⟩
    rw [hK] at hmi2 hmod2
    have hKl : K < h.Lines.length := by omega
    have hvx : h.Lines[K]? = some h.Lines[K] := by simp [hKl]
    obtain ⟨x, hx⟩ : ∃ x, x = h.Lines[K] := ⟨_, rfl⟩
    have hl3 := lineOf_len (atOf raw 9)
    have hat := at_ok raw 9 (by omega) (by omega)
    have hgli := gline_ok (atOf raw 9)
    obtain ⟨A, hA⟩ : ∃ A, A = atOf raw 9 := ⟨_, rfl⟩
    rw [← hA] at hl3 hat hgli
    obtain ⟨ln, hln9⟩ : ∃ ln, ln = lineOf A := ⟨_, rfl⟩
    rw [← hln9] at hl3 hgli
    rw [← hx] at hvx
    obtain ⟨ho, hn, hls⟩ := h
    dsimp only at gl1 gl2 gl3 hmet hmi2 hll hmod2 hKl hvx ho2
    have hzz := szP_set hs R
    refine c_region ?_; refine l_neu (n_move rfl rfl) rfl ?_; refine l_neu (n_move rfl rfl) rfl ?_; refine l_new (hmet) rfl rfl rfl rfl ?_; rintro _ _ ⟨rfl, rfl⟩; refine ⟨hunk_new rfl rfl, ?_⟩; refine l_neu (n_move rfl rfl) rfl ?_; refine l_neu (n_extract rfl rfl) rfl ?_; refine l_neu (n_extract rfl rfl) rfl ?_; refine l_neu (n_extract rfl rfl) rfl ?_; refine l_effv (f_alloc 9 (by show ((hunkTs hs R).all (TC.free 9) && true) = true; rw [hunkTs_free hs R rfl]; rfl)) rfl ?_; refine l_eff (e_store_ref TySz.out rfl rfl rfl rfl rfl rfl) ?_; refine l_neu (n_assign rfl rfl) rfl ?_; refine l_neu (n_assign rfl rfl) rfl ?_; refine l_nil ?_
    refine c_sees (Sees.openT 702 R hs [.p (.v (.int .i64 ho)), .p (.v (.int .i64 hn)), .mut 703] rfl rfl hRl rfl ho1 ho2) ?_
    refine c_cut [(0, .s (pInts raw).s1), (2, sInt what), (3, sInt pos), (9, .s (.one (.ref 9 0))), (10, sStr a)] [(9, .box [.p (.v (.string ⟨([111] : Str).toArray⟩)), .p (.v (.string ⟨([110] : Str).toArray⟩)), .mut 702]), (702, .growA 29 PatchHunk 3 phunkC hs R [.p (.v (.int .i64 ho)), .p (.v (.int .i64 hn)), .mut 703]), (703, .grow 36 PatchLine 2 plineC hls)] (Sees.of ⟨le1 rfl, le1 rfl, le1 rfl, le1 rfl, le1 rfl, trivial⟩ ⟨rfl, rfl, rfl, trivial⟩) ?_
    refine k2 ?_
    refine c_region ?_; refine l_neu (n_field_ref rfl) rfl ?_; refine l_neu (n_load_ref rfl rfl rfl) rfl ?_; refine l_neu (n_len_gA rfl rfl) rfl ?_; refine l_neu (n_gtr rfl rfl) rfl ?_; refine l_nil ?_
    refine k1 ?_
    refine c_cond rfl (fun ht => ?_) (fun ht => ?_)
    rotate_left
    · exfalso
      have := of_decide_eq_false ht
      omega
    refine k2 ?_
    refine c_region_draw (by kernel_rfl) (by kernel_rfl) ?_; refine d_neu (n_field_ref rfl) rfl rfl ?_; refine d_neu (n_load_ref rfl rfl rfl) rfl rfl ?_; refine d_neu (n_move rfl rfl) rfl rfl ?_; refine d_neu (n_field_ref rfl) rfl rfl ?_; refine d_neu (n_load_ref rfl rfl rfl) rfl rfl ?_; refine d_neu (n_len_gA rfl rfl) rfl rfl ?_; refine d_neu (n_call1 (hmod) rfl rfl) rfl rfl ?_; refine d_neu (n_indexAddr_gA rfl rfl rfl (by omega) (by omega)) rfl rfl ?_; refine d_neu (n_assign rfl rfl) rfl rfl ?_; refine d_nil ?_
    refine k1 ?_; refine k2 ?_
    refine c_region_draw (by kernel_rfl) (by kernel_rfl) ?_; refine d_neu (n_move rfl rfl) rfl rfl ?_; refine d_neu (n_nilCheck_mref rfl) rfl rfl ?_; refine d_neu (n_field_mref rfl) rfl rfl ?_; refine d_neu (n_load_gA rfl rfl (by first | rfl | omega) rfl) rfl rfl ?_; refine d_neu (n_move rfl rfl) rfl rfl ?_; refine d_neu (n_move rfl rfl) rfl rfl ?_; refine d_neu (n_nilCheck_mref rfl) rfl rfl ?_; refine d_neu (n_field_mref rfl) rfl rfl ?_; refine d_neu (n_load_gA rfl rfl (by first | rfl | omega) rfl) rfl rfl ?_; refine d_neu (n_len_g rfl rfl) rfl rfl ?_; refine d_neu (n_call1 (hmod2) rfl rfl) rfl rfl ?_; refine d_neu (n_indexAddr_g rfl rfl rfl (by omega) (by omega)) rfl rfl ?_; refine d_neu (n_assign rfl rfl) rfl rfl ?_; refine d_nil ?_
    refine then_normal ?_
    refine c_joinE (X := List PatchLine) (fun ls => ([(0, .s (pInts raw).s1), (2, sInt what), (3, sInt pos), (9, .s (.one (.ref 9 0))), (10, sStr a)], [(9, .box [.p (.v (.string ⟨([111] : Str).toArray⟩)), .p (.v (.string ⟨([110] : Str).toArray⟩)), .mut 702]), (702, .growA 29 PatchHunk 3 phunkC hs R [.p (.v (.int .i64 ho)), .p (.v (.int .i64 hn)), .mut 703]), (703, .grow 36 PatchLine 2 plineC ls)])) (fun ls => szH ⟨ho, hn, ls⟩ ≤ 131072) ?_ ?_
    · refine k2 ?_
      by_cases hw3 : what.tmod 3 = 0
      · refine c_region ?_; refine l_neu (n_move rfl rfl) rfl ?_; refine l_neu (n_rem rfl rfl (by omega)) rfl ?_; refine l_neu (n_eql rfl rfl) rfl ?_; refine l_neu (n_move rfl rfl) rfl ?_; refine l_run rfl rfl rfl (by simp [hw3]) ?_; refine l_neu (n_move rfl rfl) rfl ?_; refine l_run rfl rfl rfl (by simp [hw3]) ?_; refine l_neu (n_nilCheck_mref rfl) rfl ?_; refine l_run rfl rfl rfl (by simp [hw3]) ?_; refine l_neu (n_field_mref rfl) rfl ?_; refine l_run rfl rfl rfl (by simp [hw3]) ?_; refine l_neu (n_load_g rfl rfl hvx rfl) rfl ?_; refine l_run rfl rfl rfl (by simp [hw3]) ?_; refine l_neu (n_eql rfl rfl) rfl ?_; refine l_neu (n_pick_t rfl ((by simp [hw3])) rfl) rfl ?_; refine l_nil ?_
        refine k1 ?_
        refine c_cond rfl (fun ht => ?_) (fun ht => ?_)
        · skip
          refine c_region ?_; refine l_neu (n_move rfl rfl) rfl ?_; refine l_neu (n_move rfl rfl) rfl ?_; refine l_call (hat) rfl rfl rfl ?_; rintro _ rfl; refine l_call (hgli) rfl rfl rfl ?_; rintro _ rfl; refine l_neu (n_add_s rfl rfl (by (simp; omega))) rfl ?_; refine l_neu (n_nilCheck_mref rfl) rfl ?_; refine l_neu (n_field_mref rfl) rfl ?_; refine l_eff (e_store_g ((⟨x.Kind, ln ++ [10]⟩ : PatchLine)) TySz.out rfl rfl hvx rfl rfl rfl rfl (fun _ _ _ h => all2_unp h) (by intro j h1 h2; rcases j with _ | _ | _ | _ | _ | _ | _ | j <;> first | rfl | omega)) ?_; refine l_nil ?_
          refine k1 ?_
          refine ⟨hls.set K ⟨x.Kind, ln ++ [10]⟩, ?_, Sees.of ⟨le1 rfl, le1 rfl, le1 rfl, le1 rfl, le1 rfl, trivial⟩ ⟨rfl, rfl, rfl, trivial⟩⟩
          have h2 := szH_set ho hn hls K ⟨x.Kind, ln ++ [10]⟩
          have h3 : szL ⟨x.Kind, ln ++ [10]⟩ = (ln ++ [10]).length + 64 := rfl
          rw [List.length_append] at h3
          have h4 : ([10] : Str).length = 1 := rfl
          omega
        · skip
          refine k5 ?_; refine k1 ?_
          exact ⟨hls, by omega, Sees.of ⟨le1 rfl, le1 rfl, le1 rfl, le1 rfl, le1 rfl, trivial⟩ ⟨rfl, rfl, rfl, trivial⟩⟩
      · refine c_region ?_; refine l_neu (n_move rfl rfl) rfl ?_; refine l_neu (n_rem rfl rfl (by omega)) rfl ?_; refine l_neu (n_eql rfl rfl) rfl ?_; refine l_neu (n_move rfl rfl) rfl ?_; refine l_skip rfl rfl rfl (by simp [hw3]) rfl ?_; refine l_skip rfl rfl rfl (by simp [hw3]) rfl ?_; refine l_skip rfl rfl rfl (by simp [hw3]) rfl ?_; refine l_skip rfl rfl rfl (by simp [hw3]) rfl ?_; refine l_skip rfl rfl rfl (by simp [hw3]) rfl ?_; refine l_neu (n_pick_f rfl ((by simp [hw3])) rfl) rfl ?_; refine l_nil ?_
        refine k1 ?_
        refine c_cond rfl (fun ht => ?_) (fun ht => ?_)
        · cases ht
        · skip
          refine k5 ?_; refine k1 ?_
          exact ⟨hls, by omega, Sees.of ⟨le1 rfl, le1 rfl, le1 rfl, le1 rfl, le1 rfl, trivial⟩ ⟨rfl, rfl, rfl, trivial⟩⟩
    intro ls hlz
    dsimp only at hlz ⊢
    have h1 := hzz ⟨ho, hn, ls⟩
    refine k2 ?_
    refine c_region ?_; refine l_neu (n_move rfl rfl) rfl ?_; refine l_neu (n_rem rfl rfl (by omega)) rfl ?_; refine l_neu (n_eql rfl rfl) rfl ?_; refine l_nil ?_
    refine k1 ?_
    refine c_cond rfl (fun ht => ?_) (fun ht => ?_)
    · refine c_sees (Sees.trans (Sees.freezeG (k := 703) rfl rfl) (Sees.trans (Sees.closeA 702 (⟨ho, hn, ls⟩ : PatchHunk) rfl rfl) (Sees.freezeG (k := 702) rfl rfl))) ?_
      refine c_cut [(0, .s (pInts raw).s1), (3, sInt pos), (9, .s (.one (.ref 9 0))), (10, sStr a)] [(9, .box (pPatch ⟨[111], [110], hs.set R ⟨ho, hn, ls⟩⟩).s1.cells)] (Sees.of ⟨le1 rfl, le1 rfl, le1 rfl, le1 rfl, trivial⟩ ⟨rfl, trivial⟩) ?_
      have hln : (hs.set R ⟨ho, hn, ls⟩).length = hs.length := List.length_set
      obtain ⟨hs', hs'e⟩ : ∃ hs', hs' = hs.set R ⟨ho, hn, ls⟩ := ⟨_, rfl⟩
      rw [← hs'e] at h1 hln ⊢
      have hmod3 := mod_ok pos hs'.length (by omega) (by omega)
      rw [hln, hR] at hmod3
      rw [← hln] at hmod3
      have htk := szP_take hs' R
      skip
      refine c_region_draw (by kernel_rfl) (by kernel_rfl) ?_; refine d_neu (n_field_ref rfl) rfl rfl ?_; refine d_neu (n_load_ref rfl rfl rfl) rfl rfl ?_; refine d_neu (n_move rfl rfl) rfl rfl ?_; refine d_neu (n_field_ref rfl) rfl rfl ?_; refine d_neu (n_load_ref rfl rfl rfl) rfl rfl ?_; refine d_neu (n_len rfl (.pure _ _ _ _)) rfl rfl ?_; refine d_neu (n_call1 (hmod3) rfl rfl) rfl rfl ?_; refine d_neu (n_slice_h rfl (.pure _ _ _ _) rfl (by (first | omega | (dsimp only; omega))) (by (first | omega | (dsimp only; omega)))) rfl rfl ?_; refine d_neu (n_field_ref rfl) rfl rfl ?_; refine d_eff (e_store_ref TySz.out rfl rfl rfl rfl rfl rfl) rfl ?_; refine d_nil ?_
      refine k1 ?_
      refine ⟨⟨[111], [110], hs'.take R⟩, ?_, Sees.of ⟨le1 rfl, le1 rfl, le1 rfl, trivial⟩ ⟨rfl, trivial⟩⟩
      dsimp only; omega
    · skip
      refine k5 ?_; refine k1 ?_
      refine ⟨⟨[111], [110], hs.set R ⟨ho, hn, ls⟩⟩, ?_, Sees.trans (Sees.freezeG (k := 703) rfl rfl) (Sees.trans (Sees.closeA 702 (⟨ho, hn, ls⟩ : PatchHunk) rfl rfl) (Sees.trans (Sees.freezeG (k := 702) rfl rfl) (Sees.of ⟨le1 rfl, le1 rfl, le1 rfl, trivial⟩ ⟨rfl, trivial⟩)))⟩
      dsimp only; omega
  intro q hq
  dsimp only at hq ⊢
  refine k2 ?_; refine k2 ?_
  refine c_region ?_; refine l_neu (n_assign rfl rfl) rfl ?_; refine l_nil ?_
  refine k1 ?_; refine k3 ?_
  refine c_while (X := Nat × Str) (fun y => ([(0, .s (pInts raw).s1), (9, .s (.one (.ref 9 0))), (10, sStr y.2), (14, sInt y.1)], [(9, .box (pPatch q).s1.cells)])) (fun y => y.1 ≤ 2 ∧ (y.1 = 0 → y.2.length ≤ 36) ∧ (y.1 = 1 → y.2.length ≤ 180) ∧ y.2.length ≤ 900) (fun y => 2 - y.1) (0, a) ⟨by omega, fun _ => hal, fun h => (by cases h), by dsimp only; omega⟩ (Sees.of ⟨le1 rfl, le1 rfl, le1 rfl, le1 rfl, trivial⟩ ⟨rfl, trivial⟩) ?_
  rintro ⟨i, b⟩ ⟨hi, hb0, hb1, hb2⟩
  dsimp only at hi hb0 hb1 hb2 ⊢
  have hnl := near_len b raw 300
  refine k2 ?_; refine k2 ?_
  refine c_region ?_; refine l_neu (n_move rfl rfl) rfl ?_; refine l_neu (n_lss rfl rfl) rfl ?_; refine l_nil ?_
  refine k1 ?_
  refine c_cond rfl (fun ht => ?_) (fun ht => ?_)
  rotate_left
  · refine k6 ?_; refine k2 ?_
    refine c_region ?_; refine l_call (awake14_ok) rfl rfl rfl ?_; rintro _ rfl; refine l_neu (n_assign rfl rfl) rfl ?_; refine l_nil ?_
    refine k1 ?_; refine k10 ?_
    exact ret_ret (ret1 rfl rfl rfl) rfl
  have hi2 : i < 2 := by have := of_decide_eq_true ht; (try dsimp only at this); omega
  have hA := papply14_ok q b (by omega) (by omega)
  have hfw := apply14_few q b
  obtain ⟨y, e, hye⟩ : ∃ y e, apply14 q b = (y, e) := ⟨_, _, rfl⟩
  rw [hye] at hA hfw
  dsimp only at hA hfw
  have hfin : (i + 1 = 0 → (nearOf b raw 300).length ≤ 36) ∧ (i + 1 = 1 → (nearOf b raw 300).length ≤ 180) ∧ (nearOf b raw 300).length ≤ 900 := by
    refine ⟨fun h => by omega, fun h => ?_, ?_⟩
    · have := hb0 (by omega); omega
    · rcases (show i = 0 ∨ i = 1 by omega) with h | h
      · have := hb0 h; omega
      · have := hb1 h; omega
  refine k5 ?_; refine k1 ?_; refine k2 ?_; refine k3 ?_; refine k2 ?_
  refine c_region ?_; refine l_neu (n_loads_ref rfl rfl rfl) rfl ?_; refine l_neu (n_move rfl rfl) rfl ?_; refine l_call (hA) rfl rfl rfl ?_; rintro _ rfl; refine l_neu (n_move rfl rfl) rfl ?_; refine l_neu (n_extract rfl rfl) rfl ?_; refine l_neu (n_extract rfl rfl) rfl ?_; refine l_neu (n_assign rfl rfl) rfl ?_; refine l_neu (n_assign rfl rfl) rfl ?_; refine l_nil ?_
  refine k1 ?_; refine k2 ?_; refine k2 ?_
  refine c_region ?_; refine l_neu (n_move rfl rfl) rfl ?_; refine l_neu (n_eql rfl rfl) rfl ?_; refine l_nil ?_
  refine k1 ?_
  refine c_cond rfl (fun ht => ?_) (fun ht => ?_)
  · have he : e = 0 := of_decide_eq_true ht
    rw [he] at hye
    obtain ⟨v1, v2⟩ := apply_revF hye (few_of (by omega)) hfw
    have hR := preverse_ok q (by omega)
    have hrz := reverse14_sz q
    rw [v1] at hR hrz
    dsimp only at hR hrz
    have hB := papply14_ok (revP q) y (by omega) (by have := hfw.1; omega)
    rw [v2] at hB
    dsimp only at hB
    obtain ⟨q', hq'⟩ : ∃ q', q' = revP q := ⟨_, rfl⟩
    rw [← hq'] at hR hB
    refine k2 ?_
    refine c_region ?_; refine l_neu (n_loads_ref rfl rfl rfl) rfl ?_; refine l_call (hR) rfl rfl rfl ?_; rintro _ rfl; refine l_neu (n_move rfl rfl) rfl ?_; refine l_neu (n_extract rfl rfl) rfl ?_; refine l_neu (n_extract rfl rfl) rfl ?_; refine l_effv (f_alloc 17 rfl) rfl ?_; refine l_eff (e_store_ref TySz.out rfl rfl rfl rfl rfl rfl) ?_; refine l_neu (n_assign rfl rfl) rfl ?_; refine l_nil ?_
    refine k1 ?_; refine k2 ?_
    refine c_region ?_; refine l_neu (n_loads_ref rfl rfl rfl) rfl ?_; refine l_neu (n_move rfl rfl) rfl ?_; refine l_call (hB) rfl rfl rfl ?_; rintro _ rfl; refine l_neu (n_move rfl rfl) rfl ?_; refine l_neu (n_extract rfl rfl) rfl ?_; refine l_neu (n_extract rfl rfl) rfl ?_; refine l_neu (n_assign rfl rfl) rfl ?_; refine l_neu (n_assign rfl rfl) rfl ?_; refine l_nil ?_
    refine k1 ?_; refine k2 ?_
    refine c_region ?_; refine l_neu (n_move rfl rfl) rfl ?_; refine l_neu (n_neq rfl rfl) rfl ?_; refine l_neu (n_move rfl rfl) rfl ?_; refine l_guard rfl rfl rfl rfl (fun hg => by rw [hg]; exact n_move rfl rfl) ?_; refine l_guard rfl rfl rfl rfl (fun hg => by rw [hg]; exact n_neq rfl rfl) ?_; refine l_neu (n_pick_bool rfl (fun h => by first | rfl | (rw [h]; rfl)) (fun h => by first | rfl | (rw [h]; rfl))) rfl ?_; refine l_neu (n_move rfl rfl) rfl ?_; refine l_guard rfl rfl rfl rfl (fun hg => by rw [hg]; exact n_move rfl rfl) ?_; refine l_guard rfl rfl rfl rfl (fun hg => by rw [hg]; exact n_move rfl rfl) ?_; refine l_guard rfl rfl rfl rfl (fun hg => by rw [hg]; exact n_neq_s rfl rfl) ?_; refine l_neu (n_pick_bool rfl (fun h => by first | rfl | (rw [h]; rfl)) (fun h => by first | rfl | (rw [h]; rfl))) rfl ?_; refine l_nil ?_
    refine k1 ?_
    refine c_cond rfl (fun ht => ?_) (fun ht => ?_)
    · exfalso; simp at ht
    refine k5 ?_; refine k1 ?_
    refine c_region ?_; refine l_neu (n_move rfl rfl) rfl ?_; refine l_neu (n_move rfl rfl) rfl ?_; refine l_call (near_ok b raw 300 (by omega) (by omega)) rfl rfl rfl ?_; rintro _ rfl; refine l_neu (n_assign rfl rfl) rfl ?_; refine l_nil ?_
    refine k4 ?_; refine k1 ?_
    refine c_region ?_; refine l_neu (n_move rfl rfl) rfl ?_; refine l_neu (n_add rfl rfl (by omega)) rfl ?_; refine l_neu (n_assign rfl rfl) rfl ?_; refine l_nil ?_
    refine k1 ?_
    exact ⟨(i + 1, nearOf b raw 300), ⟨by dsimp only; omega, hfin⟩, by dsimp only; omega, Sees.of ⟨le1 rfl, le1 rfl, le1 rfl, le1 rfl, trivial⟩ ⟨rfl, trivial⟩⟩
  · skip
    refine k5 ?_; refine k1 ?_
    refine c_region ?_; refine l_neu (n_move rfl rfl) rfl ?_; refine l_neu (n_move rfl rfl) rfl ?_; refine l_call (near_ok b raw 300 (by omega) (by omega)) rfl rfl rfl ?_; rintro _ rfl; refine l_neu (n_assign rfl rfl) rfl ?_; refine l_nil ?_
    refine k4 ?_; refine k1 ?_
    refine c_region ?_; refine l_neu (n_move rfl rfl) rfl ?_; refine l_neu (n_add rfl rfl (by omega)) rfl ?_; refine l_neu (n_assign rfl rfl) rfl ?_; refine l_nil ?_
    refine k1 ?_
    exact ⟨(i + 1, nearOf b raw 300), ⟨by dsimp only; omega, hfin⟩, by dsimp only; omega, Sees.of ⟨le1 rfl, le1 rfl, le1 rfl, le1 rfl, trivial⟩ ⟨rfl, trivial⟩⟩
end Go.Proofs.YtbiadkkamhpdnaaGreatDoor
