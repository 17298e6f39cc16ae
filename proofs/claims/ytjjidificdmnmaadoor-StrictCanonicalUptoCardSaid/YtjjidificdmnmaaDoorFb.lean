/- Walks of the program's functions. -/
import Derived.Test.YtjjidificdmnmaaDoorFa
import Derived.Test.YtjjidificdmnmaaDoorFs
import Derived.Test.YtjjidificdmnmaaDoorAn
namespace Go.Proofs.YtjjidificdmnmaaDoor
open Go Go.AL
set_option maxRecDepth 100000
def phunkN : PatchHunk → Nat → Cell
  | h, 0 => .v (.int .i64 h.Old)
  | h, 1 => .v (.int .i64 h.New)
  | h, _ => match h.Lines with
    | [] => .v (.slice none 0 0)
    | _ :: _ => .list PatchLine 2 plineC h.Lines
abbrev zBox : Ob := .box [.p (.v (.string ⟨#[]⟩)), .p (.v (.string ⟨#[]⟩)), .p (.v (.slice none 0 0))]
abbrev psBox (o n : Str) : Ob := .box [.p (.v (.string ⟨o.toArray⟩)), .p (.v (.string ⟨n.toArray⟩)), .mut 731]
abbrev psShut (o n : Str) (hs : List PatchHunk) : Obs := [(730, psBox o n), (731, .grow 69 PatchHunk 3 phunkN hs), (2, zBox)]
abbrev psOpen (o n : Str) (hs : List PatchHunk) (a b : Int) (ls : List PatchLine) : Obs :=
  [(730, psBox o n), (731, .growA 69 PatchHunk 3 phunkN hs (hs.length - 1) [.p (.v (.int .i64 a)), .p (.v (.int .i64 b)), .mut 732]), (732, .grow 73 PatchLine 2 plineC ls), (2, zBox)]
theorem last_shut {gf : Fr} (o n : Str) : AL.Met Tryd.prog 79 [.one (.ref 730 0)] gf (psShut o n []) [] (fun rs ob' => rs = [.one (.p (.v (.pointer none)))] ∧ ob' = psShut o n []) := by
  refine AL.Met.intro Tryd.func79 (by decide) rfl rfl rfl ?_
  refine k2 ?_
  refine c_region ?_; refine l_neu (n_assign rfl rfl) rfl ?_; refine l_nil ?_
  refine k1 ?_; refine k2 ?_; refine k2 ?_
  refine c_region ?_; refine l_neu (n_move rfl rfl) rfl ?_; refine l_neu (n_nilCheck_ref rfl) rfl ?_; refine l_neu (n_field_ref rfl) rfl ?_; refine l_neu (n_field_ref rfl) rfl ?_; refine l_neu (n_load_ref rfl rfl rfl) rfl ?_; refine l_neu (n_len_g rfl rfl) rfl ?_; refine l_neu (n_eql rfl rfl) rfl ?_; refine l_nil ?_
  refine k1 ?_
  refine c_cond rfl (fun ht => ?_) (fun ht => ?_)
  rotate_left
  · exact absurd rfl (of_decide_eq_false ht)
  refine k2 ?_
  refine c_region ?_; refine l_neu (n_assign rfl rfl) rfl ?_; refine l_nil ?_
  refine k1 ?_; refine k10 ?_; refine k11 ?_
  exact met_ret (rets1 rfl rfl) (by repeat (first | exact tail_refl | refine tail_cons rfl ?_ | refine tail_forget _ ?_)) (fun _ _ h => h) ⟨rfl, rfl⟩
theorem last_open {gf : Fr} (o n : Str) (hs : List PatchHunk) (a b : Int) (ls : List PatchLine) (h0 : 0 < hs.length) (hl : hs.length ≤ 1073741824) :
    AL.Met Tryd.prog 79 [.one (.ref 730 0)] gf (psOpen o n hs a b ls) [] (fun rs ob' => rs = [.one (.mref 731 3 ((hs.length : Int) - 1).toNat 0)] ∧ ob' = psOpen o n hs a b ls) := by
  refine AL.Met.intro Tryd.func79 (by decide) rfl rfl rfl ?_
  refine k2 ?_
  refine c_region ?_; refine l_neu (n_assign rfl rfl) rfl ?_; refine l_nil ?_
  refine k1 ?_; refine k2 ?_; refine k2 ?_
  refine c_region ?_; refine l_neu (n_move rfl rfl) rfl ?_; refine l_neu (n_nilCheck_ref rfl) rfl ?_; refine l_neu (n_field_ref rfl) rfl ?_; refine l_neu (n_field_ref rfl) rfl ?_; refine l_neu (n_load_ref rfl rfl rfl) rfl ?_; refine l_neu (n_len_gA rfl rfl) rfl ?_; refine l_neu (n_eql rfl rfl) rfl ?_; refine l_nil ?_
  refine k1 ?_
  refine c_cond rfl (fun ht => ?_) (fun ht => ?_)
  · exact absurd (of_decide_eq_true ht) (by omega)
  refine k5 ?_; refine k1 ?_; refine k2 ?_
  refine c_region_draw (by kernel_rfl) (by kernel_rfl) ?_; refine d_neu (n_move rfl rfl) rfl rfl ?_; refine d_neu (n_nilCheck_ref rfl) rfl rfl ?_; refine d_neu (n_field_ref rfl) rfl rfl ?_; refine d_neu (n_field_ref rfl) rfl rfl ?_; refine d_neu (n_load_ref rfl rfl rfl) rfl rfl ?_; refine d_neu (n_move rfl rfl) rfl rfl ?_; refine d_neu (n_nilCheck_ref rfl) rfl rfl ?_; refine d_neu (n_field_ref rfl) rfl rfl ?_; refine d_neu (n_field_ref rfl) rfl rfl ?_; refine d_neu (n_load_ref rfl rfl rfl) rfl rfl ?_; refine d_neu (n_len_gA rfl rfl) rfl rfl ?_; refine d_neu (n_sub rfl rfl (by omega)) rfl rfl ?_; refine d_neu (n_indexAddr_gA rfl rfl rfl (by omega) (by omega)) rfl rfl ?_; refine d_neu (n_assign rfl rfl) rfl rfl ?_; refine d_nil ?_
  refine k1 ?_; refine k10 ?_
  exact met_ret (rets1 rfl rfl) (by repeat (first | exact tail_refl | refine tail_cons rfl ?_ | refine tail_forget _ ?_)) (fun _ _ h => h) ⟨rfl, rfl⟩
theorem header_met {gf : Fr} (o n : Str) (hs : List PatchHunk) (l : Str) (hl : hs.length ≤ 16777216) (hll : l.length ≤ 16777216) :
    AL.Met Tryd.prog 51 [.one (.ref 730 0), .one (.p (.v (.string ⟨l.toArray⟩)))] gf (psShut o n hs) [731]
      (fun rs ob' => match headAt l with
        | none => rs = [tBo false] ∧ ob' = [(2, zBox)]
        | some (a, _, b, _) => rs = [tBo true] ∧ ob' = psShut o n (hs ++ [⟨a, b, []⟩])) := by
  have s1 := stspan_ok l 0 [64, 64, 32, 45] (Nat.zero_le _) hll
  cases hp1 : spanAt l 0 [64, 64, 32, 45] with
  | none =>
    have hH : headAt l = none := by unfold headAt; rw [hp1]
    rw [hH]
    unfold spanR at s1
    rw [hp1] at s1
    refine AL.Met.intro Tryd.func51 (by decide) rfl rfl rfl ?_
    refine k2 ?_
    refine c_region ?_; refine l_neu (n_assign rfl rfl) rfl ?_; refine l_nil ?_
    refine k1 ?_; refine k2 ?_
    refine c_region ?_; refine l_neu (n_move rfl rfl) rfl ?_; refine l_call (s1) rfl rfl rfl ?_; rintro _ rfl; refine l_neu (n_move rfl rfl) rfl ?_; refine l_neu (n_extract rfl rfl) rfl ?_; refine l_neu (n_extract rfl rfl) rfl ?_; refine l_neu (n_extract rfl rfl) rfl ?_; refine l_neu (n_assign rfl rfl) rfl ?_; refine l_neu (n_assign rfl rfl) rfl ?_; refine l_neu (n_assign rfl rfl) rfl ?_; refine l_nil ?_
    refine k1 ?_; refine k2 ?_; refine k2 ?_
    refine c_region ?_; refine l_neu (n_move rfl rfl) rfl ?_; refine l_neu (n_not rfl) rfl ?_; refine l_nil ?_
    refine k1 ?_
    refine c_cond rfl (fun ht => ?_) (fun ht => ?_)
    · refine k2 ?_
      refine c_sees (Sees.forget 731) ?_
      refine c_region ?_; refine l_neu (n_assign rfl rfl) rfl ?_; refine l_nil ?_
      refine k1 ?_; refine k10 ?_; refine k11 ?_
      exact met_ret (rets1 rfl rfl) (by repeat (first | exact tail_refl | refine tail_cons rfl ?_ | refine tail_forget _ ?_)) (ObIn.spec (ob' := [(2, zBox)]) ⟨rfl, trivial⟩) ⟨rfl, rfl⟩
    · cases ht
  | some q =>
    obtain ⟨a, m, i⟩ := q
    unfold spanR at s1
    rw [hp1] at s1
    have hi := spanAt_le (Nat.zero_le _) hp1
    have s2 := stspan_ok l i [32, 43] hi hll
    cases hp2 : spanAt l i [32, 43] with
    | none =>
      have hH : headAt l = none := by unfold headAt; rw [hp1]; dsimp only; rw [hp2]
      rw [hH]
      unfold spanR at s2
      rw [hp2] at s2
      refine AL.Met.intro Tryd.func51 (by decide) rfl rfl rfl ?_
      refine k2 ?_
      refine c_region ?_; refine l_neu (n_assign rfl rfl) rfl ?_; refine l_nil ?_
      refine k1 ?_; refine k2 ?_
      refine c_region ?_; refine l_neu (n_move rfl rfl) rfl ?_; refine l_call (s1) rfl rfl rfl ?_; rintro _ rfl; refine l_neu (n_move rfl rfl) rfl ?_; refine l_neu (n_extract rfl rfl) rfl ?_; refine l_neu (n_extract rfl rfl) rfl ?_; refine l_neu (n_extract rfl rfl) rfl ?_; refine l_neu (n_assign rfl rfl) rfl ?_; refine l_neu (n_assign rfl rfl) rfl ?_; refine l_neu (n_assign rfl rfl) rfl ?_; refine l_nil ?_
      refine k1 ?_; refine k2 ?_; refine k2 ?_
      refine c_region ?_; refine l_neu (n_move rfl rfl) rfl ?_; refine l_neu (n_not rfl) rfl ?_; refine l_nil ?_
      refine k1 ?_
      refine c_cond rfl (fun ht => ?_) (fun ht => ?_)
      · cases ht
      refine k5 ?_; refine k1 ?_; refine k2 ?_
      refine c_region ?_; refine l_neu (n_move rfl rfl) rfl ?_; refine l_neu (n_move rfl rfl) rfl ?_; refine l_call (s2) rfl rfl rfl ?_; rintro _ rfl; refine l_neu (n_move rfl rfl) rfl ?_; refine l_neu (n_extract rfl rfl) rfl ?_; refine l_neu (n_extract rfl rfl) rfl ?_; refine l_neu (n_extract rfl rfl) rfl ?_; refine l_neu (n_assign rfl rfl) rfl ?_; refine l_neu (n_assign rfl rfl) rfl ?_; refine l_neu (n_assign rfl rfl) rfl ?_; refine l_nil ?_
      refine k1 ?_; refine k2 ?_; refine k2 ?_
      refine c_region ?_; refine l_neu (n_move rfl rfl) rfl ?_; refine l_neu (n_not rfl) rfl ?_; refine l_neu (n_move rfl rfl) rfl ?_; refine l_skip rfl rfl rfl (by simp) rfl ?_; refine l_skip rfl rfl rfl (by simp) rfl ?_; refine l_skip rfl rfl rfl (by simp) rfl ?_; refine l_skip rfl rfl rfl (by simp) rfl ?_; refine l_neu (n_pick_t rfl (rfl) rfl) rfl ?_; refine l_nil ?_
      refine k1 ?_
      refine c_cond rfl (fun ht => ?_) (fun ht => ?_)
      · refine k2 ?_
        refine c_sees (Sees.forget 731) ?_
        refine c_region ?_; refine l_neu (n_assign rfl rfl) rfl ?_; refine l_nil ?_
        refine k1 ?_; refine k10 ?_; refine k11 ?_
        exact met_ret (rets1 rfl rfl) (by repeat (first | exact tail_refl | refine tail_cons rfl ?_ | refine tail_forget _ ?_)) (ObIn.spec (ob' := [(2, zBox)]) ⟨rfl, trivial⟩) ⟨rfl, rfl⟩
      · cases ht
    | some q =>
      obtain ⟨b, k, j⟩ := q
      unfold spanR at s2
      rw [hp2] at s2
      have hj := spanAt_le hi hp2
      have hH : headAt l = if l.drop j = [32, 64, 64] then some (a, m, b, k) else none := by unfold headAt; rw [hp1]; dsimp only; rw [hp2]
      rw [hH]
      refine AL.Met.intro Tryd.func51 (by decide) rfl rfl rfl ?_
      refine k2 ?_
      refine c_region ?_; refine l_neu (n_assign rfl rfl) rfl ?_; refine l_nil ?_
      refine k1 ?_; refine k2 ?_
      refine c_region ?_; refine l_neu (n_move rfl rfl) rfl ?_; refine l_call (s1) rfl rfl rfl ?_; rintro _ rfl; refine l_neu (n_move rfl rfl) rfl ?_; refine l_neu (n_extract rfl rfl) rfl ?_; refine l_neu (n_extract rfl rfl) rfl ?_; refine l_neu (n_extract rfl rfl) rfl ?_; refine l_neu (n_assign rfl rfl) rfl ?_; refine l_neu (n_assign rfl rfl) rfl ?_; refine l_neu (n_assign rfl rfl) rfl ?_; refine l_nil ?_
      refine k1 ?_; refine k2 ?_; refine k2 ?_
      refine c_region ?_; refine l_neu (n_move rfl rfl) rfl ?_; refine l_neu (n_not rfl) rfl ?_; refine l_nil ?_
      refine k1 ?_
      refine c_cond rfl (fun ht => ?_) (fun ht => ?_)
      · cases ht
      refine k5 ?_; refine k1 ?_; refine k2 ?_
      refine c_region ?_; refine l_neu (n_move rfl rfl) rfl ?_; refine l_neu (n_move rfl rfl) rfl ?_; refine l_call (s2) rfl rfl rfl ?_; rintro _ rfl; refine l_neu (n_move rfl rfl) rfl ?_; refine l_neu (n_extract rfl rfl) rfl ?_; refine l_neu (n_extract rfl rfl) rfl ?_; refine l_neu (n_extract rfl rfl) rfl ?_; refine l_neu (n_assign rfl rfl) rfl ?_; refine l_neu (n_assign rfl rfl) rfl ?_; refine l_neu (n_assign rfl rfl) rfl ?_; refine l_nil ?_
      refine k1 ?_; refine k2 ?_; refine k2 ?_
      refine c_region ?_; refine l_neu (n_move rfl rfl) rfl ?_; refine l_neu (n_not rfl) rfl ?_; refine l_neu (n_move rfl rfl) rfl ?_; refine l_guard rfl rfl rfl rfl (fun hg => by rw [hg]; exact n_move rfl rfl) ?_; refine l_guard rfl rfl rfl rfl (fun hg => by rw [hg]; exact n_move rfl rfl) ?_; refine l_guard rfl rfl rfl rfl (fun hg => by have hq := hg; (try simp at hq); rw [hg]; exact n_sub_l rfl rfl (by omega) (by omega)) ?_; refine l_guard rfl rfl rfl rfl (fun hg => by rw [hg]; exact n_neq_s rfl rfl) ?_; refine l_neu (n_pick_bool rfl (fun h => by first | rfl | (rw [h]; rfl)) (fun h => by first | rfl | (rw [h]; rfl))) rfl ?_; refine l_nil ?_
      refine k1 ?_
      refine c_cond rfl (fun ht => ?_) (fun ht => ?_)
      · have hd : ¬ l.drop j = [32, 64, 64] := by simpa using ht
        rw [if_neg hd]
        refine k2 ?_
        refine c_sees (Sees.forget 731) ?_
        refine c_region ?_; refine l_neu (n_assign rfl rfl) rfl ?_; refine l_nil ?_
        refine k1 ?_; refine k10 ?_; refine k11 ?_
        exact met_ret (rets1 rfl rfl) (by repeat (first | exact tail_refl | refine tail_cons rfl ?_ | refine tail_forget _ ?_)) (ObIn.spec (ob' := [(2, zBox)]) ⟨rfl, trivial⟩) ⟨rfl, rfl⟩
      · have hd : l.drop j = [32, 64, 64] := by simpa using ht
        rw [if_pos hd]
        refine k5 ?_; refine k1 ?_; refine k2 ?_
        refine c_region ?_; refine l_neu (n_move rfl rfl) rfl ?_; refine l_neu (n_move rfl rfl) rfl ?_; refine l_neu (n_nilCheck_ref rfl) rfl ?_; refine l_neu (n_field_ref rfl) rfl ?_; refine l_neu (n_field_ref rfl) rfl ?_; refine l_neu (n_load_ref rfl rfl rfl) rfl ?_; refine l_neu (n_move rfl rfl) rfl ?_; refine l_neu (n_move rfl rfl) rfl ?_; refine l_neu (n_build rfl) rfl ?_; refine l_neu (n_buildSlice (c := phunkN) (ys := [⟨a, b, []⟩]) (asm_cons rfl rfl rfl rfl asm_nil) rfl rfl rfl) rfl ?_; refine l_effv (e_append_g rfl rfl rfl (.pure _ _ _ _) (by (simp; omega)) rfl) rfl ?_; refine l_neu (n_nilCheck_ref rfl) rfl ?_; refine l_neu (n_field_ref rfl) rfl ?_; refine l_neu (n_field_ref rfl) rfl ?_; refine l_eff (e_store_ref TySz.out rfl rfl rfl rfl rfl rfl) ?_; refine l_nil ?_
        refine k1 ?_; refine k2 ?_
        refine c_region ?_; refine l_neu (n_assign rfl rfl) rfl ?_; refine l_nil ?_
        refine k1 ?_; refine k10 ?_
        exact met_ret (rets1 rfl rfl) (by repeat (first | exact tail_refl | refine tail_cons rfl ?_ | refine tail_forget _ ?_)) (ObIn.spec (ob' := psShut o n (hs ++ [⟨a, b, []⟩])) ⟨rfl, rfl, rfl, trivial⟩) ⟨rfl, rfl⟩
theorem content_shut {gf : Fr} (o n l : Str) : AL.Met Tryd.prog 52 [.one (.ref 730 0), .one (.p (.v (.string ⟨l.toArray⟩)))] gf (psShut o n []) [732] (fun rs ob' => rs = [tBo false] ∧ ob' = [(2, zBox)]) := by
  refine AL.Met.intro Tryd.func52 (by decide) rfl rfl rfl ?_
  refine k2 ?_
  refine c_region ?_; refine l_neu (n_assign rfl rfl) rfl ?_; refine l_nil ?_
  refine k1 ?_; refine k2 ?_
  refine c_region ?_; refine l_neu (n_move rfl rfl) rfl ?_; refine l_met (last_shut o n) rfl rfl rfl ?_; rintro _ _ ⟨rfl, rfl⟩; refine l_neu (n_assign rfl rfl) rfl ?_; refine l_nil ?_
  refine k1 ?_; refine k2 ?_; refine k2 ?_
  refine c_region ?_; refine l_neu (n_move rfl rfl) rfl ?_; refine l_neu (n_eql_ptr0 rfl (by kernel_rfl)) rfl ?_; refine l_nil ?_
  refine k1 ?_
  refine c_cond rfl (fun ht => ?_) (fun ht => ?_)
  · refine k2 ?_
    refine c_sees (Sees.forget 732) ?_
    refine c_region ?_; refine l_neu (n_assign rfl rfl) rfl ?_; refine l_nil ?_
    refine k1 ?_; refine k10 ?_; refine k11 ?_
    exact met_ret (rets1 rfl rfl) (by repeat (first | exact tail_refl | refine tail_cons rfl ?_ | refine tail_forget _ ?_)) (ObIn.spec (ob' := [(2, zBox)]) ⟨rfl, trivial⟩) ⟨rfl, rfl⟩
  · cases ht
abbrev gfP (F : Nat) (l : Str) (R : List Str) (k : Nat) : Fr := [(1000060, sBool false), (1000061, .s (.one (.clo F [] []))), (1000062, .s (.one (.ref 730 0))), (1000063, sStr l), (1000004, .s (.one (.ref 730 0))), (1000002, .s (.one (.ref 2 0))), (1000046, sList Str 1 strC R), (1000047, sInt R.length), (1000048, sInt k)]
theorem content_open (F : Nat) (R : List Str) (k : Nat) (o n : Str) (hs : List PatchHunk) (a b : Int) (ls : List PatchLine) (c : UInt8) (r : Str) (h0 : 0 < hs.length) (hl : hs.length ≤ 16777216) (hls : ls.length ≤ 16777216) (hr : r.length ≤ 16777216) :
    AL.Met Tryd.prog 52 [.one (.ref 730 0), .one (.p (.v (.string ⟨(c :: r).toArray⟩)))] (gfP F (c :: r) R k) (psOpen o n hs a b ls) [732]
      (fun rs ob' => rs = [tBo true] ∧ ob' = psOpen o n hs a b (ls ++ [⟨c, r ++ [10]⟩])) := by
  refine AL.Met.intro Tryd.func52 (by decide) rfl rfl rfl ?_
  refine k2 ?_
  refine c_region ?_; refine l_neu (n_assign rfl rfl) rfl ?_; refine l_nil ?_
  refine k1 ?_; refine k2 ?_
  refine c_region ?_; refine l_neu (n_move rfl rfl) rfl ?_; refine l_met (last_open o n hs a b ls h0 (by omega)) rfl rfl rfl ?_; rintro _ _ ⟨rfl, rfl⟩; refine l_neu (n_assign rfl rfl) rfl ?_; refine l_nil ?_
  refine k1 ?_; refine k2 ?_; refine k2 ?_
  refine c_region ?_; refine l_neu (n_move rfl rfl) rfl ?_; refine l_neu (n_eql_mref0 rfl (by kernel_rfl)) rfl ?_; refine l_nil ?_
  refine k1 ?_
  refine c_cond rfl (fun ht => ?_) (fun ht => ?_)
  · cases ht
  refine k5 ?_; refine k1 ?_; refine k2 ?_
  refine c_region_ord [15, 12] [[], [12], [15, 12]] [(12, ([732], [14])), (15, ([], []))] [(0, []), (1, []), (2, []), (3, []), (4, []), (5, []), (6, []), (7, []), (8, []), (9, []), (10, []), (11, []), (12, []), (13, [12]), (14, [12]), (15, [12])] [(0, [12])] (by kernel_rfl) (by kernel_rfl) ?_; refine w_neu rfl rfl rfl rfl rfl (n_move rfl rfl) ?_; refine w_neu rfl rfl rfl rfl rfl (n_move rfl rfl) ?_; refine w_neu rfl rfl rfl rfl rfl (n_nilCheck_mref rfl) ?_; refine w_neu rfl rfl rfl rfl rfl (n_field_mref rfl) ?_; refine w_neu rfl rfl rfl rfl rfl (n_load_gA rfl rfl (by first | rfl | omega) rfl) ?_; refine w_neu rfl rfl rfl rfl rfl (n_move rfl rfl) ?_; refine w_neu rfl rfl rfl rfl rfl (n_index_s rfl rfl (by omega) (show (c :: r)[(0 : Int).toNat]? = some c from rfl)) ?_; refine w_neu rfl rfl rfl rfl rfl (n_move rfl rfl) ?_; refine w_neu rfl rfl rfl rfl rfl (n_sub_l rfl rfl (by (first | omega | (simp only [List.length_cons]; omega))) (by (first | omega | (simp only [List.length_cons]; omega)))) ?_; refine w_neu rfl rfl rfl rfl rfl (n_add_s rfl rfl (by (simp; omega))) ?_; refine w_neu rfl rfl rfl rfl rfl (n_build rfl) ?_; refine w_neu rfl rfl rfl rfl rfl (n_buildSlice (c := plineC) (ys := [⟨c, r ++ [10]⟩]) (asm_cons rfl rfl rfl rfl asm_nil) rfl rfl rfl) ?_; refine w_eff rfl rfl rfl rfl rfl (r_turn (fun frc hU => e_append_g (opvU hU rfl) rfl (opvU hU rfl) (.pure _ _ _ _) (by (simp; omega)) rfl)) rfl ?_; refine w_neu rfl rfl rfl rfl rfl (n_nilCheck_mref rfl) ?_; refine w_neu rfl rfl rfl rfl rfl (n_field_mref rfl) ?_; refine w_eff rfl rfl rfl rfl rfl (r_eff (fun frc hU => e_store_gA TySz.out (opvU hU rfl) rfl (by first | rfl | omega) (opvU hU rfl) rfl rfl rfl)) rfl ?_; refine w_nil rfl rfl ?_ ?_
  · refine x_neu rfl rfl rfl rfl rfl (n_move rfl rfl) ?_; exact x_nil
  refine k1 ?_; refine k2 ?_
  refine c_region ?_; refine l_neu (n_assign rfl rfl) rfl ?_; refine l_nil ?_
  refine k1 ?_; refine k10 ?_
  exact met_ret (rets1 rfl rfl) (by repeat (first | exact tail_refl | refine tail_cons rfl ?_ | refine tail_forget _ ?_)) (ObIn.spec (ob' := psOpen o n hs a b (ls ++ [⟨c, r ++ [10]⟩])) ⟨rfl, rfl, rfl, rfl, trivial⟩) ⟨rfl, rfl⟩
theorem unended_shut {gf : Fr} (o n l : Str) : AL.Met Tryd.prog 53 [.one (.ref 730 0), .one (.p (.v (.string ⟨l.toArray⟩)))] gf (psShut o n []) [] (fun rs ob' => rs = [tBo false] ∧ ob' = [(2, zBox)]) := by
  refine AL.Met.intro Tryd.func53 (by decide) rfl rfl rfl ?_
  refine k2 ?_
  refine c_region ?_; refine l_neu (n_assign rfl rfl) rfl ?_; refine l_nil ?_
  refine k1 ?_; refine k2 ?_
  refine c_region ?_; refine l_neu (n_move rfl rfl) rfl ?_; refine l_met (last_shut o n) rfl rfl rfl ?_; rintro _ _ ⟨rfl, rfl⟩; refine l_neu (n_assign rfl rfl) rfl ?_; refine l_nil ?_
  refine k1 ?_; refine k2 ?_; refine k2 ?_
  refine c_region ?_; refine l_neu (n_move rfl rfl) rfl ?_; refine l_neu (n_eql_ptr0 rfl (by kernel_rfl)) rfl ?_; refine l_neu (n_move rfl rfl) rfl ?_; refine l_skip rfl rfl rfl (by simp) rfl ?_; refine l_skip rfl rfl rfl (by simp) rfl ?_; refine l_skip rfl rfl rfl (by simp) rfl ?_; refine l_skip rfl rfl rfl (by simp) rfl ?_; refine l_skip rfl rfl rfl (by simp) rfl ?_; refine l_skip rfl rfl rfl (by simp) rfl ?_; refine l_neu (n_pick_t rfl (rfl) rfl) rfl ?_; refine l_neu (n_move rfl rfl) rfl ?_; refine l_skip rfl rfl rfl (by simp) rfl ?_; refine l_skip rfl rfl rfl (by simp) rfl ?_; refine l_neu (n_pick_t rfl (rfl) rfl) rfl ?_; refine l_nil ?_
  refine k1 ?_
  refine c_cond rfl (fun ht => ?_) (fun ht => ?_)
  · refine k2 ?_
    refine c_region ?_; refine l_neu (n_assign rfl rfl) rfl ?_; refine l_nil ?_
    refine k1 ?_; refine k10 ?_; refine k11 ?_
    exact met_ret (rets1 rfl rfl) (by repeat (first | exact tail_refl | refine tail_cons rfl ?_ | refine tail_forget _ ?_)) (ObIn.spec (ob' := [(2, zBox)]) ⟨rfl, trivial⟩) ⟨rfl, rfl⟩
  · cases ht
theorem unended_open {gf : Fr} (o n : Str) (hs : List PatchHunk) (a b : Int) (ls : List PatchLine) (l : Str) (h0 : 0 < hs.length) (hl : hs.length ≤ 16777216) (hls : ls.length ≤ 16777216) (htx : ∀ x ∈ ls, x.Text.length ≤ 1073741824) :
    AL.Met Tryd.prog 53 [.one (.ref 730 0), .one (.p (.v (.string ⟨l.toArray⟩)))] gf (psOpen o n hs a b ls) []
      (fun rs ob' => match ls.getLast? with
        | none => rs = [tBo false] ∧ ob' = [(2, zBox)]
        | some x => if l = noNl then rs = [tBo true] ∧ ob' = psOpen o n hs a b (ls.dropLast ++ [⟨x.Kind, trimS x.Text⟩]) else rs = [tBo false] ∧ ob' = [(2, zBox)]) := by
  cases hx : ls.getLast? with
  | none =>
    have hn : ls = [] := List.getLast?_eq_none_iff.1 hx
    subst hn
    refine AL.Met.intro Tryd.func53 (by decide) rfl rfl rfl ?_
    refine k2 ?_
    refine c_region ?_; refine l_neu (n_assign rfl rfl) rfl ?_; refine l_nil ?_
    refine k1 ?_; refine k2 ?_
    refine c_region ?_; refine l_neu (n_move rfl rfl) rfl ?_; refine l_met (last_open o n hs a b [] h0 (by omega)) rfl rfl rfl ?_; rintro _ _ ⟨rfl, rfl⟩; refine l_neu (n_assign rfl rfl) rfl ?_; refine l_nil ?_
    refine k1 ?_; refine k2 ?_; refine k2 ?_
    refine c_region ?_; refine l_neu (n_move rfl rfl) rfl ?_; refine l_neu (n_eql_mref0 rfl (by kernel_rfl)) rfl ?_; refine l_neu (n_move rfl rfl) rfl ?_; refine l_run rfl rfl rfl rfl ?_; refine l_neu (n_move rfl rfl) rfl ?_; refine l_run rfl rfl rfl rfl ?_; refine l_neu (n_nilCheck_mref rfl) rfl ?_; refine l_run rfl rfl rfl rfl ?_; refine l_neu (n_field_mref rfl) rfl ?_; refine l_run rfl rfl rfl rfl ?_; refine l_neu (n_load_gA rfl rfl (by first | rfl | omega) rfl) rfl ?_; refine l_run rfl rfl rfl rfl ?_; refine l_neu (n_len_g rfl rfl) rfl ?_; refine l_run rfl rfl rfl rfl ?_; refine l_neu (n_eql rfl rfl) rfl ?_; refine l_neu (n_pick_f rfl (rfl) rfl) rfl ?_; refine l_neu (n_move rfl rfl) rfl ?_; refine l_skip rfl rfl rfl (by simp) rfl ?_; refine l_skip rfl rfl rfl (by simp) rfl ?_; refine l_neu (n_pick_t rfl ((by simp)) rfl) rfl ?_; refine l_nil ?_
    refine k1 ?_
    refine c_cond rfl (fun ht => ?_) (fun ht => ?_)
    · refine k2 ?_
      refine c_region ?_; refine l_neu (n_assign rfl rfl) rfl ?_; refine l_nil ?_
      refine k1 ?_; refine k10 ?_; refine k11 ?_
      exact met_ret (rets1 rfl rfl) (by repeat (first | exact tail_refl | refine tail_cons rfl ?_ | refine tail_forget _ ?_)) (ObIn.spec (ob' := [(2, zBox)]) ⟨rfl, trivial⟩) ⟨rfl, rfl⟩
    · cases ht
  | some x =>
    have hne : ls ≠ [] := fun e => by rw [e] at hx; cases hx
    have hlen := List.length_pos_iff.2 hne
    have hv : ls[((ls.length : Int) - 1).toNat]? = some x := by rw [show ((ls.length : Int) - 1).toNat = ls.length - 1 by omega, ← List.getLast?_eq_getElem?]; exact hx
    have hset : ∀ y : PatchLine, ls.set (((ls.length : Int) - 1).toNat) y = ls.dropLast ++ [y] := by
      intro y
      rw [show ((ls.length : Int) - 1).toNat = ls.length - 1 by omega]
      have hd := List.dropLast_concat_getLast hne
      conv => lhs; rw [← hd]
      rw [List.set_append_right _ _ (by rw [List.length_dropLast, List.length_append, List.length_dropLast]; simp)]
      simp
    have hxt := htx x (List.mem_of_getElem? hv)
    have htr := trimSuffix_ok x.Text [10] (by omega)
    rw [trimSuffix_lf, show bareOf x.Text = trimS x.Text from rfl] at htr
    have hne0 : decide ((ls.length : Int) = 0) = false := decide_eq_false (by omega)
    refine AL.Met.intro Tryd.func53 (by decide) rfl rfl rfl ?_
    refine k2 ?_
    refine c_region ?_; refine l_neu (n_assign rfl rfl) rfl ?_; refine l_nil ?_
    refine k1 ?_; refine k2 ?_
    refine c_region ?_; refine l_neu (n_move rfl rfl) rfl ?_; refine l_met (last_open o n hs a b ls h0 (by omega)) rfl rfl rfl ?_; rintro _ _ ⟨rfl, rfl⟩; refine l_neu (n_assign rfl rfl) rfl ?_; refine l_nil ?_
    refine k1 ?_; refine k2 ?_; refine k2 ?_
    refine c_region ?_; refine l_neu (n_move rfl rfl) rfl ?_; refine l_neu (n_eql_mref0 rfl (by kernel_rfl)) rfl ?_; refine l_neu (n_move rfl rfl) rfl ?_; refine l_run rfl rfl rfl rfl ?_; refine l_neu (n_move rfl rfl) rfl ?_; refine l_run rfl rfl rfl rfl ?_; refine l_neu (n_nilCheck_mref rfl) rfl ?_; refine l_run rfl rfl rfl rfl ?_; refine l_neu (n_field_mref rfl) rfl ?_; refine l_run rfl rfl rfl rfl ?_; refine l_neu (n_load_gA rfl rfl (by first | rfl | omega) rfl) rfl ?_; refine l_run rfl rfl rfl rfl ?_; refine l_neu (n_len_g rfl rfl) rfl ?_; refine l_run rfl rfl rfl rfl ?_; refine l_neu (n_eql rfl rfl) rfl ?_; refine l_neu (n_pick_f rfl (rfl) rfl) rfl ?_; refine l_neu (n_move rfl rfl) rfl ?_; refine l_run rfl rfl rfl hne0 ?_; refine l_neu (n_move rfl rfl) rfl ?_; refine l_run rfl rfl rfl hne0 ?_; refine l_neu (n_neq_s rfl rfl) rfl ?_; refine l_neu (n_pick_f rfl (hne0) rfl) rfl ?_; refine l_nil ?_
    refine k1 ?_
    refine c_cond rfl (fun ht => ?_) (fun ht => ?_)
    · have hl2 : l ≠ noNl := of_decide_eq_true ht
      refine k2 ?_
      refine c_region ?_; refine l_neu (n_assign rfl rfl) rfl ?_; refine l_nil ?_
      refine k1 ?_; refine k10 ?_; refine k11 ?_
      refine met_ret (rets1 rfl rfl) (by repeat (first | exact tail_refl | refine tail_cons rfl ?_ | refine tail_forget _ ?_)) (ObIn.spec (ob' := [(2, zBox)]) ⟨rfl, trivial⟩) ?_
      dsimp only
      rw [if_neg hl2]
      exact ⟨rfl, rfl⟩
    · have hl2 : l = noNl := Decidable.not_not.1 (of_decide_eq_false ht)
      refine k5 ?_; refine k1 ?_; refine k2 ?_
      refine c_region_draw (by kernel_rfl) (by kernel_rfl) ?_; refine d_neu (n_move rfl rfl) rfl rfl ?_; refine d_neu (n_nilCheck_mref rfl) rfl rfl ?_; refine d_neu (n_field_mref rfl) rfl rfl ?_; refine d_neu (n_load_gA rfl rfl (by first | rfl | omega) rfl) rfl rfl ?_; refine d_neu (n_move rfl rfl) rfl rfl ?_; refine d_neu (n_nilCheck_mref rfl) rfl rfl ?_; refine d_neu (n_field_mref rfl) rfl rfl ?_; refine d_neu (n_load_gA rfl rfl (by first | rfl | omega) rfl) rfl rfl ?_; refine d_neu (n_len_g rfl rfl) rfl rfl ?_; refine d_neu (n_sub rfl rfl (by omega)) rfl rfl ?_; refine d_neu (n_indexAddr_g rfl rfl rfl (by omega) (by omega)) rfl rfl ?_; refine d_neu (n_assign rfl rfl) rfl rfl ?_; refine d_nil ?_
      refine k1 ?_; refine k2 ?_
      refine c_region ?_; refine l_neu (n_move rfl rfl) rfl ?_; refine l_neu (n_move rfl rfl) rfl ?_; refine l_neu (n_nilCheck_mref rfl) rfl ?_; refine l_neu (n_field_mref rfl) rfl ?_; refine l_neu (n_load_g rfl rfl hv rfl) rfl ?_; refine l_call (htr) rfl rfl rfl ?_; rintro _ rfl; refine l_neu (n_nilCheck_mref rfl) rfl ?_; refine l_neu (n_field_mref rfl) rfl ?_; refine l_eff (e_store_g (⟨x.Kind, trimS x.Text⟩) TySz.out rfl rfl hv rfl rfl rfl rfl (fun _ _ _ h => all2_unp h) (by intro j h1 h2; rcases j with _ | _ | _ | _ | _ | _ | _ | j <;> first | rfl | omega)) ?_; refine l_nil ?_
      rw [hset]
      refine k1 ?_; refine k2 ?_
      refine c_region ?_; refine l_neu (n_assign rfl rfl) rfl ?_; refine l_nil ?_
      refine k1 ?_; refine k10 ?_
      refine met_ret (rets1 rfl rfl) (by repeat (first | exact tail_refl | refine tail_cons rfl ?_ | refine tail_forget _ ?_)) (ObIn.spec (ob' := psOpen o n hs a b (ls.dropLast ++ [⟨x.Kind, trimS x.Text⟩])) ⟨rfl, rfl, rfl, rfl, trivial⟩) ?_
      dsimp only
      rw [if_pos hl2]
      exact ⟨rfl, rfl⟩
end Go.Proofs.YtjjidificdmnmaaDoor
namespace Go.Proofs.YtjjidificdmnmaaDoor
open Go Go.AL
set_option maxRecDepth 100000
end Go.Proofs.YtjjidificdmnmaaDoor
namespace Go.Proofs.YtjjidificdmnmaaDoor
open Go Go.AL
set_option maxRecDepth 100000
theorem kind_ne (a b : UInt8) : decide ((a.toNat : Int) ≠ (b.toNat : Int)) = decide (a ≠ b) := by
  by_cases h : a = b
  · subst h; simp
  · have : (a.toNat : Int) ≠ (b.toNat : Int) := fun e => h (UInt8.toNat_inj.1 (by omega))
    rw [decide_eq_true this, decide_eq_true h]
theorem kn32 (c : UInt8) : decide ((c.toNat : Int) ≠ 32) = decide (c ≠ 32) := kind_ne c 32
theorem kn45 (c : UInt8) : decide ((c.toNat : Int) ≠ 45) = decide (c ≠ 45) := kind_ne c 45
theorem kn43 (c : UInt8) : decide ((c.toNat : Int) ≠ 43) = decide (c ≠ 43) := kind_ne c 43
theorem notB (b : Bool) : (!b) = decide (b = false) := by cases b <;> rfl
theorem someCh_succ (ls : List PatchLine) (n : Nat) (h : n < ls.length) : someCh (ls.take (n + 1)) = (if someCh (ls.take n) = true then true else decide (ls[n].Kind ≠ 32)) := by
  unfold someCh
  rw [List.take_succ_eq_append_getElem h, List.any_append]
  cases (ls.take n).any _ <;> simp
end Go.Proofs.YtjjidificdmnmaaDoor
namespace Go.Proofs.YtjjidificdmnmaaDoor
open Go Go.AL
set_option maxRecDepth 100000
end Go.Proofs.YtjjidificdmnmaaDoor
namespace Go.Proofs.YtjjidificdmnmaaDoor
open Go Go.AL
set_option maxRecDepth 100000
end Go.Proofs.YtjjidificdmnmaaDoor
namespace Go.Proofs.YtjjidificdmnmaaDoor
open Go Go.AL
set_option maxRecDepth 100000
set_option maxHeartbeats 1000000
end Go.Proofs.YtjjidificdmnmaaDoor
namespace Go.Proofs.YtjjidificdmnmaaDoor
open Go Go.AL
set_option maxRecDepth 100000
end Go.Proofs.YtjjidificdmnmaaDoor
namespace Go.Proofs.YtjjidificdmnmaaDoor
open Go Go.AL
set_option maxRecDepth 100000
end Go.Proofs.YtjjidificdmnmaaDoor
namespace Go.Proofs.YtjjidificdmnmaaDoor
open Go Go.AL
set_option maxRecDepth 100000
theorem unamed_ok (s : Str) : FnOk Tryd.prog 19 [pStr s] (fun rs => rs = [pBool (nameOk s)]) := by
  refine FnOk.intro Tryd.func19 (by decide) rfl rfl rfl rfl ?_
  refine k2 ?_
  refine c_region ?_; refine l_neu (n_assign rfl rfl) rfl ?_; refine l_nil ?_
  refine k1 ?_; refine k2 ?_
  refine c_region ?_; refine l_neu (n_move rfl rfl) rfl ?_; refine l_neu (n_len_s rfl) rfl ?_; refine l_neu (n_geq rfl rfl) rfl ?_; refine l_neu (n_move rfl rfl) rfl ?_; refine l_guard rfl rfl rfl rfl (fun hg => by rw [hg]; exact n_move rfl rfl) ?_; refine l_guard rfl rfl rfl rfl (fun hg => by rw [hg]; exact n_len_s rfl) ?_; refine l_guard rfl rfl rfl rfl (fun hg => by rw [hg]; exact n_leq rfl rfl) ?_; refine l_neu (n_pick_bool rfl (fun h => by first | rfl | (rw [h]; rfl)) (fun h => by first | rfl | (rw [h]; rfl))) rfl ?_; refine l_neu (n_assign rfl rfl) rfl ?_; refine l_nil ?_
  refine k1 ?_; refine k10 ?_
  refine ret_ret (ret1 rfl rfl rfl) ?_
  simp only [and_pick]
  congr 4
  unfold nameOk
  congr 1
  apply propext
  omega
theorem usingle_ok (s : Str) (hs : s.length ≤ 1099511627776) : FnOk Tryd.prog 98 [pStr s] (fun rs => rs = [pBool (lineOk s)]) := by
  refine FnOk.intro Tryd.func98 (by decide) rfl rfl rfl rfl ?_
  refine k2 ?_
  refine c_region ?_; refine l_neu (n_assign rfl rfl) rfl ?_; refine l_nil ?_
  refine k1 ?_; refine k2 ?_
  refine c_region ?_; refine l_neu (n_move rfl rfl) rfl ?_; refine l_neu (n_neq_s rfl rfl) rfl ?_; refine l_neu (n_move rfl rfl) rfl ?_; refine l_guard rfl rfl rfl rfl (fun hg => by rw [hg]; exact n_move rfl rfl) ?_; refine l_guard rfl rfl rfl rfl (fun hg => by have hq := hg; (try simp at hq); rw [hg]; exact n_call1 (tbare_ok s hs) rfl rfl) ?_; refine l_guard rfl rfl rfl rfl (fun hg => by have hq := hg; (try simp at hq); rw [hg]; exact n_call1 (contains1_ok (bareOf s) 10) rfl rfl) ?_; refine l_guard rfl rfl rfl rfl (fun hg => by rw [hg]; exact n_not rfl) ?_; refine l_neu (n_pick_bool rfl (fun h => by first | rfl | (rw [h]; rfl)) (fun h => by first | rfl | (rw [h]; rfl))) rfl ?_; refine l_neu (n_assign rfl rfl) rfl ?_; refine l_nil ?_
  refine k1 ?_; refine k10 ?_
  exact ret_ret (ret1 rfl rfl rfl) (by rw [single_eq])
theorem usizes_ok (h : PatchHunk) (hl : h.Lines.length ≤ 268435456) : FnOk Tryd.prog 70 [pPhunk h] (fun rs => rs = [pInt (oldN h), pInt (newN h)]) := by
  refine FnOk.intro Tryd.func70 (by decide) rfl rfl rfl rfl ?_
  refine k2 ?_
  refine c_region ?_; refine l_effv (f_box 1 rfl rfl rfl) rfl ?_; refine l_neu (n_assign rfl rfl) rfl ?_; refine l_neu (n_assign rfl rfl) rfl ?_; refine l_nil ?_
  refine k1 ?_; refine k2 ?_
  refine c_region ?_; refine l_neu (n_assign rfl rfl) rfl ?_; refine l_neu (n_assign rfl rfl) rfl ?_; refine l_nil ?_
  refine k1 ?_; refine k2 ?_; refine k2 ?_
  refine c_region ?_; refine l_neu (n_field_ref rfl) rfl ?_; refine l_neu (n_load_ref rfl rfl rfl) rfl ?_; refine l_neu (n_len rfl (.pure _ _ _ _)) rfl ?_; refine l_neu (n_move rfl rfl) rfl ?_; refine l_nil ?_
  refine k1 ?_; refine k3 ?_
  refine c_while (X := Nat) (fun i => ([(4, sInt (linesNot (h.Lines.take i) 43).length), (5, sInt (linesNot (h.Lines.take i) 45).length), (9, sList PatchLine 2 plineC h.Lines), (10, sInt h.Lines.length), (11, sInt i)], [])) (fun i => i ≤ h.Lines.length) (fun i => h.Lines.length - i) 0 (Nat.zero_le _) (Sees.of ⟨le1 rfl, le1 rfl, le1 rfl, le1 rfl, le1 rfl, trivial⟩ trivial) ?_
  intro i hi
  dsimp only at hi ⊢
  have h1 := linesNot_len (h.Lines.take i) 43
  have h2 := linesNot_len (h.Lines.take i) 45
  rw [List.length_take] at h1 h2
  refine k2 ?_
  refine c_region ?_; refine l_neu (n_lss rfl rfl) rfl ?_; refine l_nil ?_
  refine k1 ?_; refine k2 ?_
  refine c_cond rfl (fun ht => ?_) (fun ht => ?_)
  · have hlt : i < h.Lines.length := by have := of_decide_eq_true ht; omega
    have hv : h.Lines[i]? = some h.Lines[i] := by simp [hlt]
    have s1 := linesNot_succ h.Lines 43 i hlt
    have s2 := linesNot_succ h.Lines 45 i hlt
    obtain ⟨x, hx⟩ : ∃ x, x = h.Lines[i] := ⟨_, rfl⟩
    rw [← hx] at hv s1 s2
    refine k5 ?_; refine k1 ?_; refine k2 ?_; refine k3 ?_; refine k2 ?_
    refine c_region ?_; refine l_neu (n_indexAddr rfl (.pure _ _ _ _) rfl (by omega) hv) rfl ?_; refine l_neu (n_loads_eref rfl rfl) rfl ?_; refine l_effv (f_alloc 7 rfl) rfl ?_; refine l_eff (e_store_ref TySz.out rfl rfl rfl rfl rfl rfl) ?_; refine l_nil ?_
    refine then_normal ?_
    refine c_join [(4, sInt (linesNot (h.Lines.take (i + 1)) 43).length), (5, sInt (linesNot (h.Lines.take i) 45).length), (7, .s (.one (.ref 7 0))), (9, sList PatchLine 2 plineC h.Lines), (10, sInt h.Lines.length), (11, sInt i)] [(7, .box [.p (.v (.int .u8 x.Kind.toNat)), .p (.v (.string ⟨x.Text.toArray⟩))])] ?_ ?_
    · refine k2 ?_
      refine c_region ?_; refine l_neu (n_field_ref rfl) rfl ?_; refine l_neu (n_load_ref rfl rfl rfl) rfl ?_; refine l_neu (n_neq rfl rfl) rfl ?_; refine l_nil ?_
      refine k1 ?_
      refine c_cond rfl (fun ht => ?_) (fun ht => ?_)
      · rw [kn43] at ht
        have h3 : x.Kind ≠ 43 := of_decide_eq_true ht
        rw [if_pos h3] at s1
        skip
        refine c_region ?_; refine l_neu (n_move rfl rfl) rfl ?_; refine l_neu (n_add rfl rfl (by omega)) rfl ?_; refine l_neu (n_assign rfl rfl) rfl ?_; refine l_nil ?_
        refine k1 ?_
        rw [s1, List.length_append, Int.natCast_add]
        exact Sees.of ⟨le1 rfl, le1 rfl, le1 rfl, le1 rfl, le1 rfl, le1 rfl, trivial⟩ ⟨rfl, trivial⟩
      · rw [kn43] at ht
        have h3 : ¬ x.Kind ≠ 43 := of_decide_eq_false ht
        rw [if_neg h3] at s1
        refine k5 ?_; refine k1 ?_
        rw [s1]
        exact Sees.of ⟨le1 rfl, le1 rfl, le1 rfl, le1 rfl, le1 rfl, le1 rfl, trivial⟩ ⟨rfl, trivial⟩
    · refine k2 ?_
      refine c_region ?_; refine l_neu (n_field_ref rfl) rfl ?_; refine l_neu (n_load_ref rfl rfl rfl) rfl ?_; refine l_neu (n_neq rfl rfl) rfl ?_; refine l_nil ?_
      refine k1 ?_
      refine c_cond rfl (fun ht => ?_) (fun ht => ?_)
      · rw [kn45] at ht
        have h3 : x.Kind ≠ 45 := of_decide_eq_true ht
        rw [if_pos h3] at s2
        skip
        refine c_region ?_; refine l_neu (n_move rfl rfl) rfl ?_; refine l_neu (n_add rfl rfl (by omega)) rfl ?_; refine l_neu (n_assign rfl rfl) rfl ?_; refine l_nil ?_
        refine k4 ?_; refine k1 ?_
        refine c_region ?_; refine l_neu (n_add rfl rfl (by omega)) rfl ?_; refine l_neu (n_move rfl rfl) rfl ?_; refine l_nil ?_
        refine k1 ?_
        refine ⟨i + 1, by omega, by omega, ?_⟩
        rw [s2, List.length_append, Int.natCast_add]
        exact Sees.of ⟨le1 rfl, le1 rfl, le1 rfl, le1 rfl, le1 rfl, trivial⟩ trivial
      · rw [kn45] at ht
        have h3 : ¬ x.Kind ≠ 45 := of_decide_eq_false ht
        rw [if_neg h3] at s2
        refine k5 ?_; refine k4 ?_; refine k1 ?_
        refine c_region ?_; refine l_neu (n_add rfl rfl (by omega)) rfl ?_; refine l_neu (n_move rfl rfl) rfl ?_; refine l_nil ?_
        refine k1 ?_
        refine ⟨i + 1, by omega, by omega, ?_⟩
        rw [s2]
        exact Sees.of ⟨le1 rfl, le1 rfl, le1 rfl, le1 rfl, le1 rfl, trivial⟩ trivial
  · have hi' : i = h.Lines.length := by have := of_decide_eq_false ht; omega
    subst hi'
    rw [List.take_length]
    refine k6 ?_; refine k2 ?_
    refine c_region ?_; refine l_neu (n_move rfl rfl) rfl ?_; refine l_neu (n_move rfl rfl) rfl ?_; refine l_neu (n_assign rfl rfl) rfl ?_; refine l_neu (n_assign rfl rfl) rfl ?_; refine l_nil ?_
    refine k1 ?_; refine k10 ?_
    exact ret_ret (ret2 rfl rfl rfl rfl rfl) rfl
theorem uheader_ok (h : PatchHunk) (hl : h.Lines.length ≤ 268435456) (ho : -4611686018427387904 ≤ h.Old ∧ h.Old ≤ 4611686018427387904) (hn : -4611686018427387904 ≤ h.New ∧ h.New ≤ 4611686018427387904) : FnOk Tryd.prog 45 [pPhunk h] (fun rs => rs = [pStr (headW h)]) := by
  have h1 := linesNot_len h.Lines 43
  have h2 := linesNot_len h.Lines 45
  have h3 : 0 ≤ oldN h ∧ oldN h ≤ 268435456 := by unfold oldN; omega
  have h4 : 0 ≤ newN h ∧ newN h ≤ 268435456 := by unfold newN; omega
  have h5 := rangeOf_len h.Old (oldN h)
  have h6 := rangeOf_len h.New (newN h)
  refine FnOk.intro Tryd.func45 (by decide) rfl rfl rfl rfl ?_
  refine k2 ?_
  refine c_region ?_; refine l_effv (f_box 1 rfl rfl rfl) rfl ?_; refine l_neu (n_assign rfl rfl) rfl ?_; refine l_nil ?_
  refine k1 ?_; refine k2 ?_
  refine c_region ?_; refine l_neu (n_loads_ref rfl rfl rfl) rfl ?_; refine l_call (usizes_ok h hl) rfl rfl rfl ?_; rintro _ rfl; refine l_neu (n_move rfl rfl) rfl ?_; refine l_neu (n_extract rfl rfl) rfl ?_; refine l_neu (n_extract rfl rfl) rfl ?_; refine l_neu (n_assign rfl rfl) rfl ?_; refine l_neu (n_assign rfl rfl) rfl ?_; refine l_nil ?_
  refine k1 ?_; refine k2 ?_
  refine c_region_draw (by kernel_rfl) (by kernel_rfl) ?_; refine d_neu (n_field_ref rfl) rfl rfl ?_; refine d_neu (n_load_ref rfl rfl rfl) rfl rfl ?_; refine d_neu (n_move rfl rfl) rfl rfl ?_; refine d_neu (n_call1 (srange_ok h.Old (oldN h) ho (by omega)) rfl rfl) rfl rfl ?_; refine d_neu (n_add_s rfl rfl (by (simp only [List.length_cons, List.length_nil]; omega))) rfl rfl ?_; refine d_neu (n_add_s rfl rfl (by (simp only [List.length_append, List.length_cons, List.length_nil]; omega))) rfl rfl ?_; refine d_neu (n_field_ref rfl) rfl rfl ?_; refine d_neu (n_load_ref rfl rfl rfl) rfl rfl ?_; refine d_neu (n_move rfl rfl) rfl rfl ?_; refine d_neu (n_call1 (srange_ok h.New (newN h) hn (by omega)) rfl rfl) rfl rfl ?_; refine d_neu (n_add_s rfl rfl (by (simp only [List.length_append, List.length_cons, List.length_nil]; omega))) rfl rfl ?_; refine d_neu (n_add_s rfl rfl (by (simp only [List.length_append, List.length_cons, List.length_nil]; omega))) rfl rfl ?_; refine d_neu (n_assign rfl rfl) rfl rfl ?_; refine d_nil ?_
  refine k1 ?_; refine k10 ?_
  exact ret_ret (ret1 rfl rfl rfl) rfl
end Go.Proofs.YtjjidificdmnmaaDoor
namespace Go.Proofs.YtjjidificdmnmaaDoor
open Go Go.AL
set_option maxRecDepth 100000
theorem uproper_ok (h : PatchHunk) (hl : (h.Lines.map szL).sum ≤ 1099511627776) : FnOk Tryd.prog 81 [pPhunk h] (fun rs => rs = [pBool (h.Lines.all goodLn && someCh h.Lines)]) := by
  have h3 := szL_len h.Lines
  refine FnOk.intro Tryd.func81 (by decide) rfl rfl rfl rfl ?_
  refine k2 ?_
  refine c_region ?_; refine l_effv (f_box 1 rfl rfl rfl) rfl ?_; refine l_neu (n_assign rfl rfl) rfl ?_; refine l_nil ?_
  refine k1 ?_; refine k2 ?_
  refine c_region ?_; refine l_neu (n_assign rfl rfl) rfl ?_; refine l_nil ?_
  refine k1 ?_; refine k2 ?_; refine k2 ?_
  refine c_region ?_; refine l_neu (n_field_ref rfl) rfl ?_; refine l_neu (n_load_ref rfl rfl rfl) rfl ?_; refine l_neu (n_len rfl (.pure _ _ _ _)) rfl ?_; refine l_neu (n_move rfl rfl) rfl ?_; refine l_nil ?_
  refine k1 ?_; refine k3 ?_
  refine c_while (X := Nat) (fun n => ([(3, sVal (.bool (someCh (h.Lines.take n)))), (7, sList PatchLine 2 plineC h.Lines), (8, sInt h.Lines.length), (9, sInt n)], [])) (fun n => n ≤ h.Lines.length ∧ h.Lines.all goodLn = (h.Lines.drop n).all goodLn) (fun n => h.Lines.length - n) 0 ⟨Nat.zero_le _, rfl⟩ (Sees.of ⟨le1 rfl, le1 rfl, le1 rfl, le1 rfl, trivial⟩ trivial) ?_
  rintro n ⟨hn1, hn2⟩
  dsimp only at hn1 hn2 ⊢
  refine k2 ?_
  refine c_region ?_; refine l_neu (n_lss rfl rfl) rfl ?_; refine l_nil ?_
  refine k1 ?_; refine k2 ?_
  refine c_cond rfl (fun ht => ?_) (fun ht => ?_)
  · have hlt2 : n < h.Lines.length := by have := of_decide_eq_true ht; omega
    have hv2 : h.Lines[n]? = some h.Lines[n] := by simp [hlt2]
    have hmem2 := szL_mem (List.getElem_mem hlt2)
    have hsucc := someCh_succ h.Lines n hlt2
    rw [List.drop_eq_getElem_cons hlt2, List.all_cons] at hn2
    obtain ⟨x, hx2⟩ : ∃ x, x = h.Lines[n] := ⟨_, rfl⟩
    rw [← hx2] at hv2 hmem2 hsucc hn2
    refine k5 ?_; refine k1 ?_; refine k2 ?_; refine k3 ?_; refine k2 ?_
    refine c_region ?_; refine l_neu (n_indexAddr rfl (.pure _ _ _ _) rfl (by omega) hv2) rfl ?_; refine l_neu (n_loads_eref rfl rfl) rfl ?_; refine l_effv (f_alloc 5 rfl) rfl ?_; refine l_eff (e_store_ref TySz.out rfl rfl rfl rfl rfl rfl) ?_; refine l_nil ?_
    refine k1 ?_; refine k2 ?_; refine k2 ?_
    refine c_region ?_; refine l_neu (n_field_ref rfl) rfl ?_; refine l_neu (n_load_ref rfl rfl rfl) rfl ?_; refine l_neu (n_neq rfl rfl) rfl ?_; refine l_neu (n_move rfl rfl) rfl ?_; refine l_guard rfl rfl rfl rfl (fun hg => by rw [hg]; exact n_field_ref rfl) ?_; refine l_guard rfl rfl rfl rfl (fun hg => by rw [hg]; exact n_load_ref rfl rfl rfl) ?_; refine l_guard rfl rfl rfl rfl (fun hg => by rw [hg]; exact n_neq rfl rfl) ?_; refine l_neu (n_pick_bool rfl (fun h => by first | rfl | (rw [h]; rfl)) (fun h => by first | rfl | (rw [h]; rfl))) rfl ?_; refine l_neu (n_move rfl rfl) rfl ?_; refine l_guard rfl rfl rfl rfl (fun hg => by rw [hg]; exact n_field_ref rfl) ?_; refine l_guard rfl rfl rfl rfl (fun hg => by rw [hg]; exact n_load_ref rfl rfl rfl) ?_; refine l_guard rfl rfl rfl rfl (fun hg => by rw [hg]; exact n_neq rfl rfl) ?_; refine l_neu (n_pick_bool rfl (fun h => by first | rfl | (rw [h]; rfl)) (fun h => by first | rfl | (rw [h]; rfl))) rfl ?_; refine l_neu (n_move rfl rfl) rfl ?_; refine l_guard rfl rfl rfl rfl (fun hg => by rw [hg]; exact n_field_ref rfl) ?_; refine l_guard rfl rfl rfl rfl (fun hg => by rw [hg]; exact n_load_ref rfl rfl rfl) ?_; refine l_guard rfl rfl rfl rfl (fun hg => by have hq := hg; (try simp at hq); rw [hg]; exact n_call1 (usingle_ok x.Text (by omega)) rfl rfl) ?_; refine l_guard rfl rfl rfl rfl (fun hg => by rw [hg]; exact n_not rfl) ?_; refine l_neu (n_pick_bool rfl (fun h => by first | rfl | (rw [h]; rfl)) (fun h => by first | rfl | (rw [h]; rfl))) rfl ?_; refine l_nil ?_
    refine k1 ?_
    refine c_cond rfl (fun ht => ?_) (fun ht => ?_)
    · simp only [kn32, kn45, kn43, and_pick, notB, or_pick] at ht
      have hb : badLn x := of_decide_eq_true ht
      refine k2 ?_
      refine c_region ?_; refine l_neu (n_assign rfl rfl) rfl ?_; refine l_nil ?_
      refine k1 ?_; refine k10 ?_; refine k11 ?_; refine k12 ?_; refine k11 ?_; refine k11 ?_; refine k12 ?_; refine k11 ?_
      refine ret_ret (ret1 rfl rfl rfl) ?_
      have : goodLn x = false := decide_eq_false (fun hh => hh hb)
      rw [hn2, this]; rfl
    · simp only [kn32, kn45, kn43, and_pick, notB, or_pick] at ht
      have hb : ¬ badLn x := of_decide_eq_false ht
      have hgl : goodLn x = true := decide_eq_true hb
      rw [hgl, Bool.true_and] at hn2
      refine k5 ?_; refine k1 ?_
      refine c_region ?_; refine l_neu (n_move rfl rfl) rfl ?_; refine l_neu (n_move rfl rfl) rfl ?_; refine l_guard rfl rfl rfl rfl (fun hg => by rw [hg]; exact n_field_ref rfl) ?_; refine l_guard rfl rfl rfl rfl (fun hg => by rw [hg]; exact n_load_ref rfl rfl rfl) ?_; refine l_guard rfl rfl rfl rfl (fun hg => by rw [hg]; exact n_neq rfl rfl) ?_; refine l_neu (n_pick_bool rfl (fun h => by first | rfl | (rw [h]; rfl)) (fun h => by first | rfl | (rw [h]; rfl))) rfl ?_; refine l_neu (n_assign rfl rfl) rfl ?_; refine l_nil ?_
      refine k4 ?_; refine k1 ?_
      refine c_region ?_; refine l_neu (n_add rfl rfl (by omega)) rfl ?_; refine l_neu (n_move rfl rfl) rfl ?_; refine l_nil ?_
      refine k1 ?_
      refine ⟨n + 1, ⟨by omega, hn2⟩, by omega, ?_⟩
      rw [kn32, ← hsucc]
      exact Sees.of ⟨le1 rfl, le1 rfl, le1 rfl, le1 rfl, trivial⟩ trivial
  · have hn' : n = h.Lines.length := by have := of_decide_eq_false ht; omega
    subst hn'
    rw [List.take_length]
    rw [List.drop_eq_nil_of_le (Nat.le_refl _)] at hn2
    refine k6 ?_; refine k2 ?_
    refine c_region ?_; refine l_neu (n_move rfl rfl) rfl ?_; refine l_neu (n_assign rfl rfl) rfl ?_; refine l_nil ?_
    refine k1 ?_; refine k10 ?_
    exact ret_ret (ret1 rfl rfl rfl) (by rw [hn2]; rfl)
theorem uline_met {gf : Fr} {ob : Obs} {k : Nat} {e : Int} {o : Bool} {t : Str} (hk : getO ob k = some (.box [.p (.v (.int .i64 e)), .p (.v (.bool o))])) (hs : t.length ≤ 1099511627776) :
    AL.Met Tryd.prog 99 [.one (.ref k 0), .one (.p (.v (.string ⟨t.toArray⟩)))] gf ob [] (fun rs ob' => rs = [.one (.p (.v (.bool (!o))))] ∧ ob' = (k, .box [.p (.v (.int .i64 e)), .p (.v (.bool (!ended t)))]) :: ob) := by
  refine AL.Met.intro Tryd.func99 (by decide) rfl rfl rfl ?_
  refine k2 ?_
  refine c_region ?_; refine l_neu (n_assign rfl rfl) rfl ?_; refine l_nil ?_
  refine k1 ?_; refine k2 ?_
  refine c_region ?_; refine l_neu (n_move rfl rfl) rfl ?_; refine l_neu (n_nilCheck_ref rfl) rfl ?_; refine l_neu (n_field_ref rfl) rfl ?_; refine l_neu (n_load_ref rfl hk rfl) rfl ?_; refine l_neu (n_not rfl) rfl ?_; refine l_neu (n_assign rfl rfl) rfl ?_; refine l_nil ?_
  refine k1 ?_; refine k2 ?_
  refine c_region ?_; refine l_neu (n_move rfl rfl) rfl ?_; refine l_neu (n_move rfl rfl) rfl ?_; refine l_call (tended_ok t hs) rfl rfl rfl ?_; rintro _ rfl; refine l_neu (n_not rfl) rfl ?_; refine l_neu (n_nilCheck_ref rfl) rfl ?_; refine l_neu (n_field_ref rfl) rfl ?_; refine l_eff (e_store_ref TySz.out rfl hk rfl rfl rfl rfl) ?_; refine l_nil ?_
  refine k1 ?_; refine k2 ?_
  refine c_region ?_; refine l_neu (n_move rfl rfl) rfl ?_; refine l_neu (n_assign rfl rfl) rfl ?_; refine l_nil ?_
  refine k1 ?_; refine k10 ?_
  exact met_ret (rets1 rfl rfl) (by repeat (first | exact tail_refl | refine tail_cons rfl ?_ | refine tail_forget _ ?_)) (fun _ _ h => h) ⟨rfl, rfl⟩
end Go.Proofs.YtjjidificdmnmaaDoor
namespace Go.Proofs.YtjjidificdmnmaaDoor
open Go Go.AL
set_option maxRecDepth 100000
end Go.Proofs.YtjjidificdmnmaaDoor
namespace Go.Proofs.YtjjidificdmnmaaDoor
open Go Go.AL
set_option maxRecDepth 100000
def wTo (p : Patch) (k : Nat) : Str := (namePs p ++ ((p.Hunks.take k).map hunkPs).flatten).flatten
theorem wTo_succ (p : Patch) (k : Nat) (h : k < p.Hunks.length) : wTo p (k + 1) = wTo p k ++ (hunkPs p.Hunks[k]).flatten := by
  unfold wTo
  rw [hunkTo_succ _ _ h]; simp only [List.flatten_append, List.append_assoc]
def lTo (ls : List PatchLine) (n : Nat) : Str := ((ls.take n).map linePs).flatten.flatten
theorem lTo_succ (ls : List PatchLine) (n : Nat) (h : n < ls.length) : lTo ls (n + 1) = lTo ls n ++ (linePs ls[n]).flatten := by
  unfold lTo; rw [lineTo_succ _ _ h, List.flatten_append]
theorem uwritten_ok (p : Patch) (hp : PFit p) (hrange : ∀ h ∈ p.Hunks, (-4611686018427387904 ≤ h.Old ∧ h.Old ≤ 4611686018427387904) ∧ (-4611686018427387904 ≤ h.New ∧ h.New ≤ 4611686018427387904)) : FnOk Tryd.prog 32 [pPatch p] (fun rs => rs = [pStr (writeOf p)]) := by
  have hsl := szP_len p.Hunks
  have hpl := hp.hunks
  have hpo := hp.old
  have hpn := hp.new
  have hq1 := quoteOf_len p.OldName
  have hq2 := quoteOf_len p.NewName
  have hnf := namePs_flat p
  have hw0 : wTo p 0 = [45, 45, 45, 32] ++ quoteOf p.OldName ++ [10, 43, 43, 43, 32] ++ quoteOf p.NewName ++ [10] := by
    unfold wTo namePs; simp
  have hwl : ∀ k, (wTo p k).length ≤ 33554446 + szP p.Hunks := fun k => by
    have h1 := hunksPs_flat (p.Hunks.take k)
    have h2 := szP_take p.Hunks k
    unfold wTo; rw [List.flatten_append, List.length_append]; omega
  refine FnOk.intro Tryd.func32 (by decide) rfl rfl rfl rfl ?_
  refine k2 ?_
  refine c_region ?_; refine l_effv (f_box 1 rfl rfl rfl) rfl ?_; refine l_neu (n_assign rfl rfl) rfl ?_; refine l_nil ?_
  refine k1 ?_; refine k2 ?_
  refine c_region ?_; refine l_effv (f_allocT 700 rfl) rfl ?_; refine l_nil ?_
  refine k1 ?_; refine k2 ?_
  refine c_sees (Sees.adoptT 701 UInt8 1 u8C 5 (kb := 700) (o := 1) rfl rfl rfl) ?_
  have hwl0 := hwl 0
  rw [hw0] at hwl0
  refine c_region_turn 10 (by kernel_rfl) (by kernel_rfl) rfl ?_; refine d_neu (n_field_ref rfl) rfl rfl ?_; refine d_neu (n_load_ref rfl rfl rfl) rfl rfl ?_; refine d_neu (n_call1 (squote_ok p.OldName (by omega)) rfl rfl) rfl rfl ?_; refine d_neu (n_add_s rfl rfl (by (simp only [List.length_cons, List.length_nil]; omega))) rfl rfl ?_; refine d_neu (n_add_s rfl rfl (by (simp only [List.length_append, List.length_cons, List.length_nil]; omega))) rfl rfl ?_; refine d_neu (n_field_ref rfl) rfl rfl ?_; refine d_neu (n_load_ref rfl rfl rfl) rfl rfl ?_; refine d_neu (n_call1 (squote_ok p.NewName (by omega)) rfl rfl) rfl rfl ?_; refine d_neu (n_add_s rfl rfl (by (simp only [List.length_append, List.length_cons, List.length_nil]; omega))) rfl rfl ?_; refine d_neu (n_add_s rfl rfl (by (simp only [List.length_append, List.length_cons, List.length_nil]; omega))) rfl rfl ?_; refine d_nil ?_; refine met_step (writeString_met (xs := []) ⟨⟨_, .inl rfl, rfl⟩, rfl⟩ (by simp only [List.length_nil]; omega)) rfl rfl rfl ?_; rintro _ _ ⟨rfl, rfl⟩; refine ⟨_, rfl, ?_⟩; refine d_nil ?_
  rw [← hw0]
  refine k1 ?_; refine k2 ?_; refine k2 ?_
  refine c_region ?_; refine l_neu (n_field_ref rfl) rfl ?_; refine l_neu (n_load_ref rfl rfl rfl) rfl ?_; refine l_neu (n_len rfl (.pure _ _ _ _)) rfl ?_; refine l_neu (n_move rfl rfl) rfl ?_; refine l_nil ?_
  refine k1 ?_; refine k3 ?_
  refine c_while (X := Nat) (fun k => ([(3, .s (.one (.ref 700 0))), (20, sList PatchHunk 3 phunkC p.Hunks), (21, sInt p.Hunks.length), (22, sInt k)], [(700, .tbx 114 [.ref 700 0, .buf 701 UInt8 1 u8C (wTo p k)]), (701, .spare (wTo p k).length 1 5)])) (fun k => k ≤ p.Hunks.length) (fun k => p.Hunks.length - k) 0 (Nat.zero_le _) (Sees.of ⟨le1 rfl, le1 rfl, le1 rfl, le1 rfl, trivial⟩ ⟨rfl, rfl, trivial⟩) ?_
  intro k hk
  dsimp only at hk ⊢
  refine k2 ?_
  refine c_region ?_; refine l_neu (n_lss rfl rfl) rfl ?_; refine l_nil ?_
  refine k1 ?_; refine k2 ?_
  refine c_cond rfl (fun ht => ?_) (fun ht => ?_)
  · have hlt : k < p.Hunks.length := by have := of_decide_eq_true ht; omega
    have hv : p.Hunks[k]? = some p.Hunks[k] := by simp [hlt]
    have hmem : p.Hunks[k] ∈ p.Hunks := List.getElem_mem hlt
    have hsucc := wTo_succ p k hlt
    have hwk := hwl k
    obtain ⟨h, hx⟩ : ∃ x, x = p.Hunks[k] := ⟨_, rfl⟩
    rw [← hx] at hv hmem hsucc
    have h1 := szP_mem hmem
    have h3 := szL_len h.Lines
    have h4 := headW_len h
    have hr := hrange h hmem
    unfold szH at h1
    obtain ⟨base, hbase⟩ : ∃ base, base = wTo p k := ⟨_, rfl⟩
    rw [← hbase] at hsucc hwk ⊢
    refine k5 ?_; refine k1 ?_; refine k2 ?_; refine k3 ?_; refine k2 ?_
    refine c_region ?_; refine l_neu (n_indexAddr rfl (.pure _ _ _ _) rfl (by omega) hv) rfl ?_; refine l_neu (n_loads_eref rfl rfl) rfl ?_; refine l_effv (f_alloc 5 rfl) rfl ?_; refine l_eff (e_store_ref TySz.out rfl rfl rfl rfl rfl rfl) ?_; refine l_nil ?_
    refine k1 ?_; refine k2 ?_
    refine c_region ?_; refine l_neu (n_loads_ref rfl rfl rfl) rfl ?_; refine l_call (uheader_ok h (by omega) hr.1 hr.2) rfl rfl rfl ?_; rintro _ rfl; refine l_met (writeString_met (xs := base) (s := headW h) ⟨⟨_, .inr rfl, rfl⟩, rfl⟩ (by omega)) rfl rfl rfl ?_; rintro _ _ ⟨rfl, rfl⟩; refine l_nil ?_
    refine k1 ?_; refine k2 ?_
    refine c_region ?_; refine l_neu (n_field_ref rfl) rfl ?_; refine l_neu (n_load_ref rfl rfl rfl) rfl ?_; refine l_neu (n_len rfl (.pure _ _ _ _)) rfl ?_; refine l_neu (n_move rfl rfl) rfl ?_; refine l_nil ?_
    refine k1 ?_; refine k3 ?_
    refine c_while (X := Nat) (fun n => ([(3, .s (.one (.ref 700 0))), (20, sList PatchHunk 3 phunkC p.Hunks), (21, sInt p.Hunks.length), (22, sInt k), (30, sList PatchLine 2 plineC h.Lines), (31, sInt h.Lines.length), (32, sInt n)], [(700, .tbx 114 [.ref 700 0, .buf 701 UInt8 1 u8C (base ++ headW h ++ lTo h.Lines n)]), (701, .spare (base ++ headW h ++ lTo h.Lines n).length 1 5)])) (fun n => n ≤ h.Lines.length) (fun n => h.Lines.length - n) 0 (Nat.zero_le _) ?_ ?_
    · have e : base ++ headW h ++ lTo h.Lines 0 = base ++ headW h := by simp [lTo]
      rw [e]
      exact Sees.of ⟨le1 rfl, le1 rfl, le1 rfl, le1 rfl, le1 rfl, le1 rfl, le1 rfl, trivial⟩ ⟨rfl, rfl, trivial⟩
    intro n hn1
    dsimp only at hn1 ⊢
    have hll := linesPs_flat (h.Lines.take n)
    have hl2 := szL_take h.Lines n
    have hlt0 : (lTo h.Lines n).length ≤ (h.Lines.map szL).sum := by unfold lTo; omega
    refine k2 ?_
    refine c_region ?_; refine l_neu (n_lss rfl rfl) rfl ?_; refine l_nil ?_
    refine k1 ?_; refine k2 ?_
    refine c_cond rfl (fun ht => ?_) (fun ht => ?_)
    · have hlt2 : n < h.Lines.length := by have := of_decide_eq_true ht; omega
      have hv2 : h.Lines[n]? = some h.Lines[n] := by simp [hlt2]
      have hmem2 := szL_mem (List.getElem_mem hlt2)
      have hsucc2 := lTo_succ h.Lines n hlt2
      obtain ⟨x, hx2⟩ : ∃ x, x = h.Lines[n] := ⟨_, rfl⟩
      rw [← hx2] at hv2 hmem2 hsucc2
      obtain ⟨bs, hbs⟩ : ∃ bs, bs = base ++ headW h ++ lTo h.Lines n := ⟨_, rfl⟩
      have hbl : bs.length ≤ 33554446 + szP p.Hunks + 52 + szP p.Hunks := by rw [hbs, List.length_append, List.length_append]; omega
      rw [← hbs]
      have hm29 : markS.length = 29 := rfl
      refine k5 ?_; refine k1 ?_; refine k2 ?_; refine k3 ?_; refine k2 ?_
      refine c_region ?_; refine l_neu (n_indexAddr rfl (.pure _ _ _ _) rfl (by omega) hv2) rfl ?_; refine l_neu (n_loads_eref rfl rfl) rfl ?_; refine l_effv (f_alloc 7 rfl) rfl ?_; refine l_eff (e_store_ref TySz.out rfl rfl rfl rfl rfl rfl) ?_; refine l_nil ?_
      refine k1 ?_; refine k2 ?_
      refine c_region ?_; refine l_neu (n_field_ref rfl) rfl ?_; refine l_neu (n_load_ref rfl rfl rfl) rfl ?_; refine l_met (writeByte_met (xs := bs) (c := x.Kind) ⟨⟨_, .inr rfl, rfl⟩, rfl⟩ (by omega)) rfl rfl rfl ?_; rintro _ _ ⟨rfl, rfl⟩; refine l_nil ?_
      refine k1 ?_; refine k2 ?_
      refine c_region ?_; refine l_neu (n_field_ref rfl) rfl ?_; refine l_neu (n_load_ref rfl rfl rfl) rfl ?_; refine l_met (writeString_met (xs := bs ++ [x.Kind]) (s := x.Text) ⟨⟨_, .inr rfl, rfl⟩, rfl⟩ (by simp only [List.length_append, List.length_cons, List.length_nil]; omega)) rfl rfl rfl ?_; rintro _ _ ⟨rfl, rfl⟩; refine l_nil ?_
      refine k1 ?_; refine k2 ?_
      refine c_region ?_; refine l_neu (n_field_ref rfl) rfl ?_; refine l_neu (n_load_ref rfl rfl rfl) rfl ?_; refine l_call (tended_ok x.Text (by omega)) rfl rfl rfl ?_; rintro _ rfl; refine l_neu (n_not rfl) rfl ?_; refine l_nil ?_
      refine k1 ?_
      refine c_cond rfl (fun ht => ?_) (fun ht => ?_)
      · have h2 : ended x.Text = false := by simpa using ht
        have e : base ++ headW h ++ lTo h.Lines (n + 1) = bs ++ [x.Kind] ++ x.Text ++ markS := by
          rw [hsucc2, hbs, linePs, h2]; simp
        skip
        refine c_region ?_; refine l_met (writeString_met (xs := bs ++ [x.Kind] ++ x.Text) (s := markS) ⟨⟨_, .inr rfl, rfl⟩, rfl⟩ (by simp only [List.length_append, List.length_cons, List.length_nil]; omega)) rfl rfl rfl ?_; rintro _ _ ⟨rfl, rfl⟩; refine l_nil ?_
        refine k4 ?_; refine k1 ?_
        refine c_region ?_; refine l_neu (n_add rfl rfl (by omega)) rfl ?_; refine l_neu (n_move rfl rfl) rfl ?_; refine l_nil ?_
        refine k1 ?_
        refine ⟨n + 1, by omega, by omega, ?_⟩
        rw [e]
        exact Sees.of ⟨le1 rfl, le1 rfl, le1 rfl, le1 rfl, le1 rfl, le1 rfl, le1 rfl, trivial⟩ ⟨rfl, rfl, trivial⟩
      · have h2 : ended x.Text = true := by simpa using ht
        have e : base ++ headW h ++ lTo h.Lines (n + 1) = bs ++ [x.Kind] ++ x.Text := by
          rw [hsucc2, hbs, linePs, h2]; simp
        refine k5 ?_; refine k4 ?_; refine k1 ?_
        refine c_region ?_; refine l_neu (n_add rfl rfl (by omega)) rfl ?_; refine l_neu (n_move rfl rfl) rfl ?_; refine l_nil ?_
        refine k1 ?_
        refine ⟨n + 1, by omega, by omega, ?_⟩
        rw [e]
        exact Sees.of ⟨le1 rfl, le1 rfl, le1 rfl, le1 rfl, le1 rfl, le1 rfl, le1 rfl, trivial⟩ ⟨rfl, rfl, trivial⟩
    · have hn' : n = h.Lines.length := by have := of_decide_eq_false ht; omega
      subst hn'
      have e : wTo p (k + 1) = base ++ headW h ++ lTo h.Lines h.Lines.length := by
        rw [hsucc, hunkPs, lTo, List.take_length]; simp
      rw [← e]
      refine k6 ?_; refine k7 ?_; refine k7 ?_; refine k8 rfl ?_; refine k4 ?_; refine k1 ?_
      refine c_region ?_; refine l_neu (n_add rfl rfl (by omega)) rfl ?_; refine l_neu (n_move rfl rfl) rfl ?_; refine l_nil ?_
      refine k1 ?_
      exact ⟨k + 1, by omega, by omega, Sees.of ⟨le1 rfl, le1 rfl, le1 rfl, le1 rfl, trivial⟩ ⟨rfl, rfl, trivial⟩⟩
  · have hk' : k = p.Hunks.length := by have := of_decide_eq_false ht; omega
    subst hk'
    have e : wTo p p.Hunks.length = writeOf p := by unfold wTo writeOf writePs; rw [List.take_length]
    rw [e]
    refine k6 ?_; refine k2 ?_
    refine c_region ?_; refine l_bstring (k := 700) (k' := 701) ⟨_, rfl, rfl, rfl⟩ bstring_calls rfl rfl rfl rfl rfl (.inr rfl) rfl ?_; refine l_neu (n_assign rfl rfl) rfl ?_; refine l_nil ?_
    refine k1 ?_; refine k10 ?_
    exact ret_ret (ret1 rfl rfl rfl) rfl
end Go.Proofs.YtjjidificdmnmaaDoor
namespace Go.Proofs.YtjjidificdmnmaaDoor
open Go Go.AL
set_option maxRecDepth 100000
theorem usize_ok (p : Patch) (hp : PFit p) (hrange : ∀ h ∈ p.Hunks, (-4611686018427387904 ≤ h.Old ∧ h.Old ≤ 4611686018427387904) ∧ (-4611686018427387904 ≤ h.New ∧ h.New ≤ 4611686018427387904)) : FnOk Tryd.prog 26 [pPatch p] (fun rs => rs = [pInt (writeOf p).length]) := by
  have hsl := szP_len p.Hunks
  have hpl := hp.hunks
  have hpo := hp.old
  have hpn := hp.new
  have hnf := namePs_flat p
  have hw0 : (writeOf ⟨p.OldName, p.NewName, []⟩).length = (wTo p 0).length := by
    unfold writeOf wTo writePs namePs; simp
  have hwl : ∀ k, (wTo p k).length ≤ 33554446 + szP p.Hunks := fun k => by
    have h1 := hunksPs_flat (p.Hunks.take k)
    have h2 := szP_take p.Hunks k
    unfold wTo; rw [List.flatten_append, List.length_append]; omega
  refine FnOk.intro Tryd.func26 (by decide) rfl rfl rfl rfl ?_
  refine k2 ?_
  refine c_region ?_; refine l_effv (f_box 1 rfl rfl rfl) rfl ?_; refine l_neu (n_assign rfl rfl) rfl ?_; refine l_nil ?_
  refine k1 ?_; refine k2 ?_
  refine c_region ?_; refine l_neu (n_field_ref rfl) rfl ?_; refine l_neu (n_load_ref rfl rfl rfl) rfl ?_; refine l_neu (n_field_ref rfl) rfl ?_; refine l_neu (n_load_ref rfl rfl rfl) rfl ?_; refine l_neu (n_build rfl) rfl ?_; refine l_sees (Sees.aggNil PatchHunk 3 phunkC 12 2 rfl rfl) ?_; refine l_call (uwritten_ok ⟨p.OldName, p.NewName, []⟩ ⟨by dsimp only; omega, by dsimp only; omega, by simp [szP]⟩ (by simp)) rfl rfl rfl ?_; rintro _ rfl; refine l_neu (n_len_s rfl) rfl ?_; refine l_neu (n_assign rfl rfl) rfl ?_; refine l_nil ?_
  rw [hw0]
  refine k1 ?_; refine k2 ?_; refine k2 ?_
  refine c_region ?_; refine l_neu (n_field_ref rfl) rfl ?_; refine l_neu (n_load_ref rfl rfl rfl) rfl ?_; refine l_neu (n_len rfl (.pure _ _ _ _)) rfl ?_; refine l_neu (n_move rfl rfl) rfl ?_; refine l_nil ?_
  refine k1 ?_; refine k3 ?_
  refine c_while (X := Nat) (fun k => ([(3, sInt (wTo p k).length), (16, sList PatchHunk 3 phunkC p.Hunks), (17, sInt p.Hunks.length), (18, sInt k)], [])) (fun k => k ≤ p.Hunks.length) (fun k => p.Hunks.length - k) 0 (Nat.zero_le _) (Sees.of ⟨le1 rfl, le1 rfl, le1 rfl, le1 rfl, trivial⟩ trivial) ?_
  intro k hk
  dsimp only at hk ⊢
  have hwk := hwl k
  refine k2 ?_
  refine c_region ?_; refine l_neu (n_lss rfl rfl) rfl ?_; refine l_nil ?_
  refine k1 ?_; refine k2 ?_
  refine c_cond rfl (fun ht => ?_) (fun ht => ?_)
  · have hlt : k < p.Hunks.length := by have := of_decide_eq_true ht; omega
    have hv : p.Hunks[k]? = some p.Hunks[k] := by simp [hlt]
    have hmem : p.Hunks[k] ∈ p.Hunks := List.getElem_mem hlt
    have hsucc := wTo_succ p k hlt
    obtain ⟨h, hx⟩ : ∃ x, x = p.Hunks[k] := ⟨_, rfl⟩
    rw [← hx] at hv hmem hsucc
    have h1 := szP_mem hmem
    have h3 := szL_len h.Lines
    have h4 := headW_len h
    have hr := hrange h hmem
    unfold szH at h1
    obtain ⟨base, hbase⟩ : ∃ base, base = (wTo p k).length := ⟨_, rfl⟩
    rw [← hbase] at hwk ⊢
    have hsl2 : (wTo p (k + 1)).length = base + (headW h).length + (lTo h.Lines h.Lines.length).length := by
      rw [hsucc, hunkPs, lTo, List.take_length, hbase]; simp; omega
    refine k5 ?_; refine k1 ?_; refine k2 ?_; refine k3 ?_; refine k2 ?_
    refine c_region ?_; refine l_neu (n_indexAddr rfl (.pure _ _ _ _) rfl (by omega) hv) rfl ?_; refine l_neu (n_loads_eref rfl rfl) rfl ?_; refine l_effv (f_alloc 5 rfl) rfl ?_; refine l_eff (e_store_ref TySz.out rfl rfl rfl rfl rfl rfl) ?_; refine l_nil ?_
    refine k1 ?_; refine k2 ?_
    refine c_region ?_; refine l_neu (n_move rfl rfl) rfl ?_; refine l_neu (n_loads_ref rfl rfl rfl) rfl ?_; refine l_call (uheader_ok h (by omega) hr.1 hr.2) rfl rfl rfl ?_; rintro _ rfl; refine l_neu (n_len_s rfl) rfl ?_; refine l_neu (n_add rfl rfl (by omega)) rfl ?_; refine l_neu (n_assign rfl rfl) rfl ?_; refine l_nil ?_
    refine k1 ?_; refine k2 ?_
    refine c_region ?_; refine l_neu (n_field_ref rfl) rfl ?_; refine l_neu (n_load_ref rfl rfl rfl) rfl ?_; refine l_neu (n_len rfl (.pure _ _ _ _)) rfl ?_; refine l_neu (n_move rfl rfl) rfl ?_; refine l_nil ?_
    refine k1 ?_; refine k3 ?_
    refine c_while (X := Nat) (fun n => ([(3, sInt (base + (headW h).length + (lTo h.Lines n).length : Nat)), (16, sList PatchHunk 3 phunkC p.Hunks), (17, sInt p.Hunks.length), (18, sInt k), (28, sList PatchLine 2 plineC h.Lines), (29, sInt h.Lines.length), (30, sInt n)], [])) (fun n => n ≤ h.Lines.length) (fun n => h.Lines.length - n) 0 (Nat.zero_le _) ?_ ?_
    · have e : ((base + (headW h).length + (lTo h.Lines 0).length : Nat) : Int) = (base : Int) + ((headW h).length : Int) := by simp [lTo]
      rw [e]
      exact Sees.of ⟨le1 rfl, le1 rfl, le1 rfl, le1 rfl, le1 rfl, le1 rfl, le1 rfl, trivial⟩ trivial
    intro n hn1
    dsimp only at hn1 ⊢
    have hll := linesPs_flat (h.Lines.take n)
    have hl2 := szL_take h.Lines n
    have hlt0 : (lTo h.Lines n).length ≤ (h.Lines.map szL).sum := by unfold lTo; omega
    refine k2 ?_
    refine c_region ?_; refine l_neu (n_lss rfl rfl) rfl ?_; refine l_nil ?_
    refine k1 ?_; refine k2 ?_
    refine c_cond rfl (fun ht => ?_) (fun ht => ?_)
    · have hlt2 : n < h.Lines.length := by have := of_decide_eq_true ht; omega
      have hv2 : h.Lines[n]? = some h.Lines[n] := by simp [hlt2]
      have hmem2 := szL_mem (List.getElem_mem hlt2)
      have hsucc2 := lTo_succ h.Lines n hlt2
      obtain ⟨x, hx2⟩ : ∃ x, x = h.Lines[n] := ⟨_, rfl⟩
      rw [← hx2] at hv2 hmem2 hsucc2
      have hm29 : markS.length = 29 := rfl
      refine k5 ?_; refine k1 ?_; refine k2 ?_; refine k3 ?_; refine k2 ?_
      refine c_region ?_; refine l_neu (n_indexAddr rfl (.pure _ _ _ _) rfl (by omega) hv2) rfl ?_; refine l_neu (n_loads_eref rfl rfl) rfl ?_; refine l_effv (f_alloc 7 rfl) rfl ?_; refine l_eff (e_store_ref TySz.out rfl rfl rfl rfl rfl rfl) ?_; refine l_nil ?_
      refine k1 ?_; refine k2 ?_
      refine c_region ?_; refine l_neu (n_move rfl rfl) rfl ?_; refine l_neu (n_field_ref rfl) rfl ?_; refine l_neu (n_load_ref rfl rfl rfl) rfl ?_; refine l_neu (n_len_s rfl) rfl ?_; refine l_neu (n_add rfl rfl (by omega)) rfl ?_; refine l_neu (n_add rfl rfl (by omega)) rfl ?_; refine l_neu (n_assign rfl rfl) rfl ?_; refine l_nil ?_
      refine k1 ?_; refine k2 ?_
      refine c_region ?_; refine l_neu (n_field_ref rfl) rfl ?_; refine l_neu (n_load_ref rfl rfl rfl) rfl ?_; refine l_call (tended_ok x.Text (by omega)) rfl rfl rfl ?_; rintro _ rfl; refine l_neu (n_not rfl) rfl ?_; refine l_nil ?_
      refine k1 ?_
      refine c_cond rfl (fun ht => ?_) (fun ht => ?_)
      · have h2 : ended x.Text = false := by simpa using ht
        have e : ((base + (headW h).length + (lTo h.Lines (n + 1)).length : Nat) : Int) = ((base + (headW h).length + (lTo h.Lines n).length : Nat) : Int) + (1 + (x.Text.length : Int)) + 29 := by
          rw [hsucc2, linePs, h2]; simp [hm29]; omega
        skip
        refine c_region ?_; refine l_neu (n_move rfl rfl) rfl ?_; refine l_neu (n_add rfl rfl (by omega)) rfl ?_; refine l_neu (n_assign rfl rfl) rfl ?_; refine l_nil ?_
        refine k4 ?_; refine k1 ?_
        refine c_region ?_; refine l_neu (n_add rfl rfl (by omega)) rfl ?_; refine l_neu (n_move rfl rfl) rfl ?_; refine l_nil ?_
        refine k1 ?_
        refine ⟨n + 1, by omega, by omega, ?_⟩
        rw [e]
        exact Sees.of ⟨le1 rfl, le1 rfl, le1 rfl, le1 rfl, le1 rfl, le1 rfl, le1 rfl, trivial⟩ trivial
      · have h2 : ended x.Text = true := by simpa using ht
        have e : ((base + (headW h).length + (lTo h.Lines (n + 1)).length : Nat) : Int) = ((base + (headW h).length + (lTo h.Lines n).length : Nat) : Int) + (1 + (x.Text.length : Int)) := by
          rw [hsucc2, linePs, h2]; simp; omega
        refine k5 ?_; refine k4 ?_; refine k1 ?_
        refine c_region ?_; refine l_neu (n_add rfl rfl (by omega)) rfl ?_; refine l_neu (n_move rfl rfl) rfl ?_; refine l_nil ?_
        refine k1 ?_
        refine ⟨n + 1, by omega, by omega, ?_⟩
        rw [e]
        exact Sees.of ⟨le1 rfl, le1 rfl, le1 rfl, le1 rfl, le1 rfl, le1 rfl, le1 rfl, trivial⟩ trivial
    · have hn' : n = h.Lines.length := by have := of_decide_eq_false ht; omega
      subst hn'
      rw [← hsl2]
      refine k6 ?_; refine k7 ?_; refine k7 ?_; refine k8 rfl ?_; refine k4 ?_; refine k1 ?_
      refine c_region ?_; refine l_neu (n_add rfl rfl (by omega)) rfl ?_; refine l_neu (n_move rfl rfl) rfl ?_; refine l_nil ?_
      refine k1 ?_
      exact ⟨k + 1, by omega, by omega, Sees.of ⟨le1 rfl, le1 rfl, le1 rfl, le1 rfl, trivial⟩ trivial⟩
  · have hk' : k = p.Hunks.length := by have := of_decide_eq_false ht; omega
    subst hk'
    have e : wTo p p.Hunks.length = writeOf p := by unfold wTo writeOf writePs; rw [List.take_length]
    rw [e]
    refine k6 ?_; refine k2 ?_
    refine c_region ?_; refine l_neu (n_move rfl rfl) rfl ?_; refine l_neu (n_assign rfl rfl) rfl ?_; refine l_nil ?_
    refine k1 ?_; refine k10 ?_
    exact ret_ret (ret1 rfl rfl rfl) rfl
end Go.Proofs.YtjjidificdmnmaaDoor
namespace Go.Proofs.YtjjidificdmnmaaDoor
open Go Go.AL
set_option maxRecDepth 100000
abbrev sideBox (e : Int) (o : Bool) : Ob := .box [.p (.v (.int .i64 e)), .p (.v (.bool o))]
theorem uplaced_met {gf : Fr} (h h' : PatchHunk) (i j : Int) (o n : Bool) (hl : (h.Lines.map szL).sum ≤ 268435456) (hi : 0 ≤ i ∧ i ≤ 8192) (hj : 0 ≤ j ∧ j ≤ 8192) (hf3 : frFree 3 gf = true) (hf8 : frFree 8 gf = true) :
    AL.Met Tryd.prog 82 [(pPhunk h).s1, .one (.ref 710 0), .one (.ref 711 0)] gf [(6, .box (pPhunk h').s1.cells), (710, sideBox i o), (711, sideBox j n)] []
      (fun rs ob' => ∃ b, rs = [.one (.p (.v (.bool b)))] ∧ b = (decide (¬ badPlace i j h) && match openGo o n h.Lines with
        | none => false
        | some _ => decide (h.Old + oldN h ≤ 4096 ∧ h.New + newN h ≤ 4096)) ∧
        (b = true → ∃ o' n', openGo o n h.Lines = some (o', n') ∧ ob' = [(6, .box (pPhunk h').s1.cells), (710, sideBox (h.Old + oldN h) o'), (711, sideBox (h.New + newN h) n')])) := by
  refine AL.Met.introH Tryd.func82 (by decide) rfl rfl rfl (fun hH => ?_)
  refine k2 ?_
  refine c_region ?_; refine l_effv (f_box 3 rfl rfl (show ((frFree 3 gf && true) && true) = true by rw [hf3]; rfl)) rfl ?_; refine l_neu (n_assign rfl rfl) rfl ?_; refine l_nil ?_
  refine k1 ?_; refine k2 ?_; refine k2 ?_
  refine c_region_draw (by kernel_rfl) (by kernel_rfl) ?_; refine d_neu (n_field_ref rfl) rfl rfl ?_; refine d_neu (n_load_ref rfl rfl rfl) rfl rfl ?_; refine d_neu (n_lss rfl rfl) rfl rfl ?_; refine d_neu (n_move rfl rfl) rfl rfl ?_; refine d_guard rfl rfl (fun hg => by rw [hg]; exact n_field_ref rfl) rfl rfl ?_; refine d_guard rfl rfl (fun hg => by rw [hg]; exact n_load_ref rfl rfl rfl) rfl rfl ?_; refine d_guard rfl rfl (fun hg => by rw [hg]; exact n_lss rfl rfl) rfl rfl ?_; refine d_neu (n_pick_bool rfl (fun h => by first | rfl | (rw [h]; rfl)) (fun h => by first | rfl | (rw [h]; rfl))) rfl rfl ?_; refine d_neu (n_move rfl rfl) rfl rfl ?_; refine d_guard rfl rfl (fun hg => by rw [hg]; exact n_field_ref rfl) rfl rfl ?_; refine d_guard rfl rfl (fun hg => by rw [hg]; exact n_load_ref rfl rfl rfl) rfl rfl ?_; refine d_guard rfl rfl (fun hg => by rw [hg]; exact n_gtr rfl rfl) rfl rfl ?_; refine d_neu (n_pick_bool rfl (fun h => by first | rfl | (rw [h]; rfl)) (fun h => by first | rfl | (rw [h]; rfl))) rfl rfl ?_; refine d_neu (n_move rfl rfl) rfl rfl ?_; refine d_guard rfl rfl (fun hg => by rw [hg]; exact n_field_ref rfl) rfl rfl ?_; refine d_guard rfl rfl (fun hg => by rw [hg]; exact n_load_ref rfl rfl rfl) rfl rfl ?_; refine d_guard rfl rfl (fun hg => by rw [hg]; exact n_gtr rfl rfl) rfl rfl ?_; refine d_neu (n_pick_bool rfl (fun h => by first | rfl | (rw [h]; rfl)) (fun h => by first | rfl | (rw [h]; rfl))) rfl rfl ?_; refine d_neu (n_move rfl rfl) rfl rfl ?_; refine d_guard rfl rfl (fun hg => by rw [hg]; exact n_field_ref rfl) rfl rfl ?_; refine d_guard rfl rfl (fun hg => by rw [hg]; exact n_load_ref rfl rfl rfl) rfl rfl ?_; refine d_guard rfl rfl (fun hg => by rw [hg]; exact n_move rfl rfl) rfl rfl ?_; refine d_guard rfl rfl (fun hg => by rw [hg]; exact n_nilCheck_ref rfl) rfl rfl ?_; refine d_guard rfl rfl (fun hg => by rw [hg]; exact n_field_ref rfl) rfl rfl ?_; refine d_guard rfl rfl (fun hg => by rw [hg]; exact n_load_ref rfl rfl rfl) rfl rfl ?_; refine d_guard rfl rfl (fun hg => by rw [hg]; exact n_lss rfl rfl) rfl rfl ?_; refine d_neu (n_pick_bool rfl (fun h => by first | rfl | (rw [h]; rfl)) (fun h => by first | rfl | (rw [h]; rfl))) rfl rfl ?_; refine d_neu (n_move rfl rfl) rfl rfl ?_; refine d_guard rfl rfl (fun hg => by rw [hg]; exact n_field_ref rfl) rfl rfl ?_; refine d_guard rfl rfl (fun hg => by rw [hg]; exact n_load_ref rfl rfl rfl) rfl rfl ?_; refine d_guard rfl rfl (fun hg => by rw [hg]; exact n_move rfl rfl) rfl rfl ?_; refine d_guard rfl rfl (fun hg => by rw [hg]; exact n_nilCheck_ref rfl) rfl rfl ?_; refine d_guard rfl rfl (fun hg => by rw [hg]; exact n_field_ref rfl) rfl rfl ?_; refine d_guard rfl rfl (fun hg => by rw [hg]; exact n_load_ref rfl rfl rfl) rfl rfl ?_; refine d_guard rfl rfl (fun hg => by have hq := hg; (try simp at hq); rw [hg]; exact n_sub rfl rfl (by omega)) rfl rfl ?_; refine d_guard rfl rfl (fun hg => by rw [hg]; exact n_field_ref rfl) rfl rfl ?_; refine d_guard rfl rfl (fun hg => by rw [hg]; exact n_load_ref rfl rfl rfl) rfl rfl ?_
  refine d_guard rfl rfl (fun hg => by rw [hg]; exact n_move rfl rfl) rfl rfl ?_; refine d_guard rfl rfl (fun hg => by rw [hg]; exact n_nilCheck_ref rfl) rfl rfl ?_; refine d_guard rfl rfl (fun hg => by rw [hg]; exact n_field_ref rfl) rfl rfl ?_; refine d_guard rfl rfl (fun hg => by rw [hg]; exact n_load_ref rfl rfl rfl) rfl rfl ?_; refine d_guard rfl rfl (fun hg => by have hq := hg; (try simp at hq); rw [hg]; exact n_sub rfl rfl (by omega)) rfl rfl ?_; refine d_guard rfl rfl (fun hg => by rw [hg]; exact n_neq rfl rfl) rfl rfl ?_; refine d_neu (n_pick_bool rfl (fun h => by first | rfl | (rw [h]; rfl)) (fun h => by first | rfl | (rw [h]; rfl))) rfl rfl ?_; refine d_nil ?_
  refine k1 ?_
  refine c_cond rfl (fun ht => ?_) (fun ht => ?_)
  · simp only [or_pick] at ht
    have hb : badPlace i j h := of_decide_eq_true ht
    refine k2 ?_
    refine c_region ?_; refine l_neu (n_assign rfl rfl) rfl ?_; refine l_nil ?_
    refine k1 ?_; refine k10 ?_; refine k11 ?_
    refine met_ret (rets1 rfl rfl) (by repeat (first | exact tail_refl | refine tail_cons rfl ?_ | refine tail_forget _ ?_)) (fun _ _ h => h) ⟨false, rfl, by rw [decide_eq_false (fun hh => hh hb)]; rfl, fun hh => by cases hh⟩
  · simp only [or_pick] at ht
    have hb : ¬ badPlace i j h := of_decide_eq_false ht
    have hln := szL_len h.Lines
    refine k5 ?_; refine k1 ?_; refine k2 ?_; refine k2 ?_
    refine c_region ?_; refine l_neu (n_field_ref rfl) rfl ?_; refine l_neu (n_load_ref rfl rfl rfl) rfl ?_; refine l_neu (n_len rfl (.pure _ _ _ _)) rfl ?_; refine l_neu (n_move rfl rfl) rfl ?_; refine l_nil ?_
    refine k1 ?_; refine k3 ?_
    refine c_while (X := Nat × Bool × Bool) (fun z => ([(1, .s (.one (.ref 710 0))), (2, .s (.one (.ref 711 0))), (3, .s (.one (.ref 3 0))), (56, sList PatchLine 2 plineC h.Lines), (57, sInt h.Lines.length), (58, sInt z.1)] ++ gf, [(3, .box (pPhunk h).s1.cells), (6, .box (pPhunk h').s1.cells), (710, sideBox i z.2.1), (711, sideBox j z.2.2)])) (fun z => z.1 ≤ h.Lines.length ∧ openGo o n h.Lines = openGo z.2.1 z.2.2 (h.Lines.drop z.1)) (fun z => h.Lines.length - z.1) (0, o, n) ⟨Nat.zero_le _, rfl⟩ ?_ ?_
    · exact Sees.tailed ⟨le1 rfl, le1 rfl, le1 rfl, le1 rfl, le1 rfl, le1 rfl, trivial⟩ hH (by repeat (first | exact tail_refl | refine tail_cons rfl ?_)) (fun _ _ hh => hh)
    rintro ⟨k, ok, nk⟩ ⟨hk, hp⟩
    dsimp only at hk hp ⊢
    refine k2 ?_
    refine c_region ?_; refine l_neu (n_lss rfl rfl) rfl ?_; refine l_nil ?_
    refine k1 ?_; refine k2 ?_
    refine c_cond rfl (fun ht => ?_) (fun ht => ?_)
    · have hlt : k < h.Lines.length := by have := of_decide_eq_true ht; omega
      have hv : h.Lines[k]? = some h.Lines[k] := by simp [hlt]
      have hmem2 := szL_mem (List.getElem_mem hlt)
      rw [List.drop_eq_getElem_cons hlt, openGo] at hp
      obtain ⟨x, hx⟩ : ∃ x, x = h.Lines[k] := ⟨_, rfl⟩
      rw [← hx] at hv hmem2 hp
      refine k5 ?_; refine k1 ?_; refine k2 ?_; refine k3 ?_; refine k2 ?_
      refine c_region ?_; refine l_neu (n_indexAddr rfl (.pure _ _ _ _) rfl (by omega) hv) rfl ?_; refine l_neu (n_loads_eref rfl rfl) rfl ?_; refine l_effv (f_alloc 8 (show ((frFree 8 gf && true) = true) by rw [hf8]; rfl)) rfl ?_; refine l_eff (e_store_ref TySz.out rfl rfl rfl rfl rfl rfl) ?_; refine l_nil ?_
      refine k1 ?_; refine k2 ?_
      refine c_cut ([(1, .s (.one (.ref 710 0))), (2, .s (.one (.ref 711 0))), (3, .s (.one (.ref 3 0))), (8, .s (.one (.ref 8 0))), (56, sList PatchLine 2 plineC h.Lines), (57, sInt h.Lines.length), (58, sInt k)] ++ gf) [(8, .box [.p (.v (.int .u8 x.Kind.toNat)), .p (.v (.string ⟨x.Text.toArray⟩))]), (3, .box (pPhunk h).s1.cells), (6, .box (pPhunk h').s1.cells), (710, sideBox i ok), (711, sideBox j nk)] (Sees.tailed ⟨le1 rfl, le1 rfl, le1 rfl, le1 rfl, le1 rfl, le1 rfl, le1 rfl, trivial⟩ hH (by repeat (first | exact tail_refl | refine tail_cons rfl ?_ | refine tail_forget' _ ?_)) (ObIn.spec ⟨rfl, rfl, rfl, rfl, rfl, trivial⟩)) ?_
      have hneg : ∀ {b : Bool}, b = (decide (¬ badPlace i j h) && match openGo o n h.Lines with
        | none => false
        | some _ => decide (h.Old + oldN h ≤ 4096 ∧ h.New + newN h ≤ 4096)) → openGo o n h.Lines = none → b = false := fun h1 h2 => by rw [h1, h2]; simp
      by_cases c1 : x.Kind ≠ 43
      · have c1n : (x.Kind.toNat : Int) ≠ 43 := (decide_eq_decide.1 (kind_ne x.Kind 43)).2 c1
        cases ok with
        | true =>
          rw [if_pos ⟨c1, rfl⟩] at hp
          refine c_region ?_; refine l_neu (n_field_ref rfl) rfl ?_; refine l_neu (n_load_ref rfl rfl rfl) rfl ?_; refine l_neu (n_neq rfl rfl) rfl ?_; refine l_neu (n_move rfl rfl) rfl ?_; refine l_run rfl rfl rfl (by simp [c1n]) ?_; refine l_neu (n_move rfl rfl) rfl ?_; refine l_run rfl rfl rfl (by simp [c1n]) ?_; refine l_neu (n_field_ref rfl) rfl ?_; refine l_run rfl rfl rfl (by simp [c1n]) ?_; refine l_neu (n_load_ref rfl rfl rfl) rfl ?_; refine l_run rfl rfl rfl (by simp [c1n]) ?_; refine l_met (uline_met (k := 710) (e := i) (o := true) rfl (by omega)) rfl rfl rfl ?_; rintro _ _ ⟨rfl, rfl⟩; refine l_run rfl rfl rfl (by simp [c1n]) ?_; refine l_neu (n_not rfl) rfl ?_; refine l_neu (n_pick_bool rfl (fun h => by first | rfl | (rw [h]; rfl)) (fun h => by first | rfl | (rw [h]; rfl))) rfl ?_; refine l_neu (n_move rfl rfl) rfl ?_; refine l_skip rfl rfl rfl (by simp [c1n]) rfl ?_; refine l_skip rfl rfl rfl (by simp [c1n]) rfl ?_; refine l_skip rfl rfl rfl (by simp [c1n]) rfl ?_; refine l_skip rfl rfl rfl (by simp [c1n]) rfl ?_; refine l_guardW (s := .any) rfl rfl rfl .un rfl (fun h => absurd h (by decide)) ?_; refine l_guardW (s := .any) rfl rfl rfl .un rfl (fun h => absurd h (by decide)) ?_; refine l_guardW (s := .any) rfl rfl rfl .un rfl (fun h => absurd h (by decide)) ?_; refine l_guardW (s := .any) rfl rfl rfl .un rfl (fun h => absurd h (by decide)) ?_; refine l_guardW (s := .any) rfl rfl rfl .un rfl (fun h => absurd h (by decide)) ?_; refine l_skip rfl rfl rfl (by simp [c1n]) rfl ?_; refine l_neu (n_pick_t rfl ((by simp [c1n])) rfl) rfl ?_; refine l_nil ?_
          refine k1 ?_
          refine c_cond rfl (fun ht => ?_) (fun ht => ?_)
          · refine k2 ?_
            refine c_region ?_; refine l_neu (n_assign rfl rfl) rfl ?_; refine l_nil ?_
            refine k1 ?_; refine k10 ?_; refine k12 ?_; refine k11 ?_; refine k11 ?_; refine k12 ?_; refine k11 ?_
            refine met_ret (rets1 rfl rfl) (by repeat (first | exact tail_refl | refine tail_cons rfl ?_ | refine tail_forget _ ?_)) (fun _ _ h => h) ⟨false, rfl, by rw [hp]; simp, fun hh => by cases hh⟩
          · cases ht
        | false =>
          rw [if_neg (by simp)] at hp
          by_cases c2 : x.Kind ≠ 45
          · have c2n : (x.Kind.toNat : Int) ≠ 45 := (decide_eq_decide.1 (kind_ne x.Kind 45)).2 c2
            refine c_region ?_; refine l_neu (n_field_ref rfl) rfl ?_; refine l_neu (n_load_ref rfl rfl rfl) rfl ?_; refine l_neu (n_neq rfl rfl) rfl ?_; refine l_neu (n_move rfl rfl) rfl ?_; refine l_run rfl rfl rfl (by simp [c1n]) ?_; refine l_neu (n_move rfl rfl) rfl ?_; refine l_run rfl rfl rfl (by simp [c1n]) ?_; refine l_neu (n_field_ref rfl) rfl ?_; refine l_run rfl rfl rfl (by simp [c1n]) ?_; refine l_neu (n_load_ref rfl rfl rfl) rfl ?_; refine l_run rfl rfl rfl (by simp [c1n]) ?_; refine l_met (uline_met (k := 710) (e := i) (o := false) rfl (by omega)) rfl rfl rfl ?_; rintro _ _ ⟨rfl, rfl⟩; refine l_run rfl rfl rfl (by simp [c1n]) ?_; refine l_neu (n_not rfl) rfl ?_; refine l_neu (n_pick_bool rfl (fun h => by first | rfl | (rw [h]; rfl)) (fun h => by first | rfl | (rw [h]; rfl))) rfl ?_; refine l_neu (n_move rfl rfl) rfl ?_; refine l_run rfl rfl rfl (by simp [c1n]) ?_; refine l_neu (n_field_ref rfl) rfl ?_; refine l_run rfl rfl rfl (by simp [c1n]) ?_; refine l_neu (n_load_ref rfl rfl rfl) rfl ?_; refine l_run rfl rfl rfl (by simp [c1n]) ?_; refine l_neu (n_neq rfl rfl) rfl ?_; refine l_run rfl rfl rfl (by simp [c1n]) ?_; refine l_neu (n_move rfl rfl) rfl ?_; refine l_run rfl rfl rfl (by simp [c1n, c2n]) ?_; refine l_neu (n_move rfl rfl) rfl ?_; refine l_run rfl rfl rfl (by simp [c1n, c2n]) ?_; refine l_neu (n_field_ref rfl) rfl ?_; refine l_run rfl rfl rfl (by simp [c1n, c2n]) ?_; refine l_neu (n_load_ref rfl rfl rfl) rfl ?_; refine l_run rfl rfl rfl (by simp [c1n, c2n]) ?_; refine l_met (uline_met (k := 711) (e := j) (o := nk) rfl (by omega)) rfl rfl rfl ?_; rintro _ _ ⟨rfl, rfl⟩; refine l_run rfl rfl rfl (by simp [c1n, c2n]) ?_; refine l_neu (n_not rfl) rfl ?_; refine l_run rfl rfl rfl (by simp [c1n]) ?_; refine l_neu (n_pick_bool rfl (fun h => by first | rfl | (rw [h]; rfl)) (fun h => by first | rfl | (rw [h]; rfl))) rfl ?_; refine l_neu (n_pick_bool rfl (fun h => by first | rfl | (rw [h]; rfl)) (fun h => by first | rfl | (rw [h]; rfl))) rfl ?_; refine l_nil ?_
            refine k1 ?_
            refine c_cond rfl (fun ht => ?_) (fun ht => ?_)
            · have hnk : nk = true := by revert ht; simp [c1n, c2n]
              rw [if_pos ⟨c2, hnk⟩] at hp
              refine k2 ?_
              refine c_region ?_; refine l_neu (n_assign rfl rfl) rfl ?_; refine l_nil ?_
              refine k1 ?_; refine k10 ?_; refine k12 ?_; refine k11 ?_; refine k11 ?_; refine k12 ?_; refine k11 ?_
              refine met_ret (rets1 rfl rfl) (by repeat (first | exact tail_refl | refine tail_cons rfl ?_ | refine tail_forget _ ?_)) (fun _ _ h => h) ⟨false, rfl, by rw [hp]; simp, fun hh => by cases hh⟩
            · have hnk : nk = false := by revert ht; simp [c1n, c2n]
              rw [if_neg (by simp [hnk]), if_pos c1, if_pos c2] at hp
              refine k5 ?_; refine k4 ?_; refine k1 ?_
              refine c_region ?_; refine l_neu (n_add rfl rfl (by omega)) rfl ?_; refine l_neu (n_move rfl rfl) rfl ?_; refine l_nil ?_
              refine k1 ?_
              exact ⟨(k + 1, !ended x.Text, !ended x.Text), ⟨by dsimp only; omega, hp⟩, by dsimp only; omega, Sees.tailed ⟨le1 rfl, le1 rfl, le1 rfl, le1 rfl, le1 rfl, le1 rfl, trivial⟩ hH (by repeat (first | exact tail_refl | refine tail_cons rfl ?_ | refine tail_forget' _ ?_)) (ObIn.spec ⟨rfl, rfl, rfl, rfl, trivial⟩)⟩
          · have c2n : (x.Kind.toNat : Int) = 45 := Decidable.not_not.1 (fun hh => c2 ((decide_eq_decide.1 (kind_ne x.Kind 45)).1 hh))
            refine c_region ?_; refine l_neu (n_field_ref rfl) rfl ?_; refine l_neu (n_load_ref rfl rfl rfl) rfl ?_; refine l_neu (n_neq rfl rfl) rfl ?_; refine l_neu (n_move rfl rfl) rfl ?_; refine l_run rfl rfl rfl (by simp [c1n]) ?_; refine l_neu (n_move rfl rfl) rfl ?_; refine l_run rfl rfl rfl (by simp [c1n]) ?_; refine l_neu (n_field_ref rfl) rfl ?_; refine l_run rfl rfl rfl (by simp [c1n]) ?_; refine l_neu (n_load_ref rfl rfl rfl) rfl ?_; refine l_run rfl rfl rfl (by simp [c1n]) ?_; refine l_met (uline_met (k := 710) (e := i) (o := false) rfl (by omega)) rfl rfl rfl ?_; rintro _ _ ⟨rfl, rfl⟩; refine l_run rfl rfl rfl (by simp [c1n]) ?_; refine l_neu (n_not rfl) rfl ?_; refine l_neu (n_pick_bool rfl (fun h => by first | rfl | (rw [h]; rfl)) (fun h => by first | rfl | (rw [h]; rfl))) rfl ?_; refine l_neu (n_move rfl rfl) rfl ?_; refine l_run rfl rfl rfl (by simp [c1n]) ?_; refine l_neu (n_field_ref rfl) rfl ?_; refine l_run rfl rfl rfl (by simp [c1n]) ?_; refine l_neu (n_load_ref rfl rfl rfl) rfl ?_; refine l_run rfl rfl rfl (by simp [c1n]) ?_; refine l_neu (n_neq rfl rfl) rfl ?_; refine l_run rfl rfl rfl (by simp [c1n]) ?_; refine l_neu (n_move rfl rfl) rfl ?_; refine l_skip rfl rfl rfl (by simp [c1n, c2n]) rfl ?_; refine l_skip rfl rfl rfl (by simp [c1n, c2n]) rfl ?_; refine l_skip rfl rfl rfl (by simp [c1n, c2n]) rfl ?_; refine l_skip rfl rfl rfl (by simp [c1n, c2n]) rfl ?_; refine l_skip rfl rfl rfl (by simp [c1n, c2n]) rfl ?_; refine l_run rfl rfl rfl (by simp [c1n]) ?_; refine l_neu (n_pick_f rfl ((by simp [c1n, c2n])) rfl) rfl ?_; refine l_neu (n_pick_bool rfl (fun h => by first | rfl | (rw [h]; rfl)) (fun h => by first | rfl | (rw [h]; rfl))) rfl ?_; refine l_nil ?_
            refine k1 ?_
            refine c_cond rfl (fun ht => ?_) (fun ht => ?_)
            · exfalso; revert ht; simp [c1n, c2n]
            · rw [if_neg (by simp [c2]), if_pos c1, if_neg c2] at hp
              refine k5 ?_; refine k4 ?_; refine k1 ?_
              refine c_region ?_; refine l_neu (n_add rfl rfl (by omega)) rfl ?_; refine l_neu (n_move rfl rfl) rfl ?_; refine l_nil ?_
              refine k1 ?_
              exact ⟨(k + 1, !ended x.Text, nk), ⟨by dsimp only; omega, hp⟩, by dsimp only; omega, Sees.tailed ⟨le1 rfl, le1 rfl, le1 rfl, le1 rfl, le1 rfl, le1 rfl, trivial⟩ hH (by repeat (first | exact tail_refl | refine tail_cons rfl ?_ | refine tail_forget' _ ?_)) (ObIn.spec ⟨rfl, rfl, rfl, rfl, trivial⟩)⟩
      · have c2 : x.Kind ≠ 45 := by rw [Decidable.not_not.1 c1]; decide
        have c1n : (x.Kind.toNat : Int) = 43 := Decidable.not_not.1 (fun hh => c1 ((decide_eq_decide.1 (kind_ne x.Kind 43)).1 hh))
        have c2n : (x.Kind.toNat : Int) ≠ 45 := (decide_eq_decide.1 (kind_ne x.Kind 45)).2 c2
        rw [if_neg (by simp [c1])] at hp
        refine c_region ?_; refine l_neu (n_field_ref rfl) rfl ?_; refine l_neu (n_load_ref rfl rfl rfl) rfl ?_; refine l_neu (n_neq rfl rfl) rfl ?_; refine l_neu (n_move rfl rfl) rfl ?_; refine l_skip rfl rfl rfl (by simp [c1n]) rfl ?_; refine l_skip rfl rfl rfl (by simp [c1n]) rfl ?_; refine l_skip rfl rfl rfl (by simp [c1n]) rfl ?_; refine l_skip rfl rfl rfl (by simp [c1n]) rfl ?_; refine l_skip rfl rfl rfl (by simp [c1n]) rfl ?_; refine l_neu (n_pick_f rfl ((by simp [c1n])) rfl) rfl ?_; refine l_neu (n_move rfl rfl) rfl ?_; refine l_run rfl rfl rfl (by simp [c1n]) ?_; refine l_neu (n_field_ref rfl) rfl ?_; refine l_run rfl rfl rfl (by simp [c1n]) ?_; refine l_neu (n_load_ref rfl rfl rfl) rfl ?_; refine l_run rfl rfl rfl (by simp [c1n]) ?_; refine l_neu (n_neq rfl rfl) rfl ?_; refine l_run rfl rfl rfl (by simp [c1n]) ?_; refine l_neu (n_move rfl rfl) rfl ?_; refine l_run rfl rfl rfl (by simp [c1n, c2n]) ?_; refine l_neu (n_move rfl rfl) rfl ?_; refine l_run rfl rfl rfl (by simp [c1n, c2n]) ?_; refine l_neu (n_field_ref rfl) rfl ?_; refine l_run rfl rfl rfl (by simp [c1n, c2n]) ?_; refine l_neu (n_load_ref rfl rfl rfl) rfl ?_; refine l_run rfl rfl rfl (by simp [c1n, c2n]) ?_; refine l_met (uline_met (k := 711) (e := j) (o := nk) rfl (by omega)) rfl rfl rfl ?_; rintro _ _ ⟨rfl, rfl⟩; refine l_run rfl rfl rfl (by simp [c1n, c2n]) ?_; refine l_neu (n_not rfl) rfl ?_; refine l_run rfl rfl rfl (by simp [c1n]) ?_; refine l_neu (n_pick_bool rfl (fun h => by first | rfl | (rw [h]; rfl)) (fun h => by first | rfl | (rw [h]; rfl))) rfl ?_; refine l_neu (n_pick_bool rfl (fun h => by first | rfl | (rw [h]; rfl)) (fun h => by first | rfl | (rw [h]; rfl))) rfl ?_; refine l_nil ?_
        refine k1 ?_
        refine c_cond rfl (fun ht => ?_) (fun ht => ?_)
        · have hnk : nk = true := by revert ht; simp [c1n, c2n]
          rw [if_pos ⟨c2, hnk⟩] at hp
          refine k2 ?_
          refine c_region ?_; refine l_neu (n_assign rfl rfl) rfl ?_; refine l_nil ?_
          refine k1 ?_; refine k10 ?_; refine k12 ?_; refine k11 ?_; refine k11 ?_; refine k12 ?_; refine k11 ?_
          refine met_ret (rets1 rfl rfl) (by repeat (first | exact tail_refl | refine tail_cons rfl ?_ | refine tail_forget _ ?_)) (fun _ _ h => h) ⟨false, rfl, by rw [hp]; simp, fun hh => by cases hh⟩
        · have hnk : nk = false := by revert ht; simp [c1n, c2n]
          rw [if_neg (by simp [hnk]), if_neg c1, if_pos c2] at hp
          refine k5 ?_; refine k4 ?_; refine k1 ?_
          refine c_region ?_; refine l_neu (n_add rfl rfl (by omega)) rfl ?_; refine l_neu (n_move rfl rfl) rfl ?_; refine l_nil ?_
          refine k1 ?_
          exact ⟨(k + 1, ok, !ended x.Text), ⟨by dsimp only; omega, hp⟩, by dsimp only; omega, Sees.tailed ⟨le1 rfl, le1 rfl, le1 rfl, le1 rfl, le1 rfl, le1 rfl, trivial⟩ hH (by repeat (first | exact tail_refl | refine tail_cons rfl ?_ | refine tail_forget' _ ?_)) (ObIn.spec ⟨rfl, rfl, rfl, rfl, trivial⟩)⟩
    · have hk' : k = h.Lines.length := by have := of_decide_eq_false ht; omega
      subst hk'
      rw [List.drop_eq_nil_of_le (Nat.le_refl _), openGo] at hp
      have hbb : (0 ≤ h.Old ∧ h.Old ≤ 4096) ∧ (0 ≤ h.New ∧ h.New ≤ 4096) := by unfold badPlace at hb; simp only [not_or] at hb; omega
      have hon := linesNot_len h.Lines 43
      have hnn := linesNot_len h.Lines 45
      have hon2 : oldN h ≤ h.Lines.length ∧ 0 ≤ oldN h := by unfold oldN; omega
      have hnn2 : newN h ≤ h.Lines.length ∧ 0 ≤ newN h := by unfold newN; omega
      refine k6 ?_; refine k2 ?_
      refine c_region ?_; refine l_neu (n_loads_ref rfl rfl rfl) rfl ?_; refine l_call (usizes_ok h (by omega)) rfl rfl rfl ?_; rintro _ rfl; refine l_neu (n_move rfl rfl) rfl ?_; refine l_neu (n_extract rfl rfl) rfl ?_; refine l_neu (n_extract rfl rfl) rfl ?_; refine l_neu (n_assign rfl rfl) rfl ?_; refine l_neu (n_assign rfl rfl) rfl ?_; refine l_nil ?_
      refine k1 ?_; refine k2 ?_
      have hbx : decide (¬ badPlace i j h) = true := decide_eq_true hb
      refine c_region_store 12 [(101, .s (.one (.ref 710 0))), (95, sInt (h.Old + oldN h))] (by kernel_rfl) (by kernel_rfl) rfl (u_store_ref TySz.out rfl rfl rfl rfl rfl rfl) rfl rfl ?_; refine s_neu (n_move rfl rfl) rfl (n_move rfl rfl) ?_; refine s_neu (n_move rfl rfl) rfl (n_move rfl rfl) ?_; refine s_neu (n_field_ref rfl) rfl (n_field_ref rfl) ?_; refine s_neu (n_load_ref rfl rfl rfl) rfl (n_load_ref rfl rfl rfl) ?_; refine s_neu (n_move rfl rfl) rfl (n_move rfl rfl) ?_; refine s_neu (n_add rfl rfl (by omega)) rfl (n_add rfl rfl (by omega)) ?_; refine s_neu (n_field_ref rfl) rfl (n_field_ref rfl) ?_; refine s_neu (n_load_ref rfl rfl rfl) rfl (n_load_ref rfl rfl rfl) ?_; refine s_neu (n_move rfl rfl) rfl (n_move rfl rfl) ?_; refine s_neu (n_add rfl rfl (by omega)) rfl (n_add rfl rfl (by omega)) ?_; refine s_neu (n_nilCheck_ref rfl) rfl (n_nilCheck_ref rfl) ?_; refine s_neu (n_field_ref rfl) rfl (n_field_ref rfl) ?_; refine s_nil ⟨rfl, rfl, trivial⟩ ?_; refine d_neu (n_nilCheck_ref rfl) rfl rfl ?_; refine d_neu (n_field_ref rfl) rfl rfl ?_; refine d_eff (e_store_ref TySz.out rfl rfl rfl rfl rfl rfl) rfl ?_; refine d_nil ?_
      refine k1 ?_; refine k2 ?_
      refine c_region ?_; refine l_neu (n_move rfl rfl) rfl ?_; refine l_neu (n_nilCheck_ref rfl) rfl ?_; refine l_neu (n_field_ref rfl) rfl ?_; refine l_neu (n_load_ref rfl rfl rfl) rfl ?_; refine l_neu (n_leq rfl rfl) rfl ?_; refine l_neu (n_move rfl rfl) rfl ?_; refine l_guard rfl rfl rfl rfl (fun hg => by rw [hg]; exact n_move rfl rfl) ?_; refine l_guard rfl rfl rfl rfl (fun hg => by rw [hg]; exact n_nilCheck_ref rfl) ?_; refine l_guard rfl rfl rfl rfl (fun hg => by rw [hg]; exact n_field_ref rfl) ?_; refine l_guard rfl rfl rfl rfl (fun hg => by rw [hg]; exact n_load_ref rfl rfl rfl) ?_; refine l_guard rfl rfl rfl rfl (fun hg => by rw [hg]; exact n_leq rfl rfl) ?_; refine l_neu (n_pick_bool rfl (fun h => by first | rfl | (rw [h]; rfl)) (fun h => by first | rfl | (rw [h]; rfl))) rfl ?_; refine l_neu (n_assign rfl rfl) rfl ?_; refine l_nil ?_
      refine k1 ?_; refine k10 ?_
      refine met_ret (ob' := [(6, .box (pPhunk h').s1.cells), (710, sideBox (h.Old + oldN h) ok), (711, sideBox (h.New + newN h) nk)]) (rets1 rfl rfl) (by repeat (first | exact tail_refl | refine tail_cons rfl ?_ | refine tail_forget _ ?_)) (ObIn.spec ⟨rfl, rfl, rfl, trivial⟩) ⟨_, rfl, ?_, fun hh => ⟨ok, nk, hp, rfl⟩⟩
      rw [hp, hbx]
      simp only [and_pick, Bool.true_and]
end Go.Proofs.YtjjidificdmnmaaDoor
namespace Go.Proofs.YtjjidificdmnmaaDoor
open Go Go.AL
set_option maxRecDepth 100000
theorem uwell_ok (hs : List PatchHunk) (hsz : szP hs ≤ 268435456) : FnOk Tryd.prog 54 [pPhunks hs] (fun rs => rs = [pBool (goodOf hs)]) := by
  have hsl := szP_len hs
  rw [← well_good]
  refine FnOk.intro Tryd.func54 (by decide) rfl rfl rfl rfl ?_
  refine k2 ?_
  refine c_region ?_; refine l_neu (n_assign rfl rfl) rfl ?_; refine l_nil ?_
  refine k1 ?_; refine k2 ?_
  refine c_region ?_; refine l_effv (f_alloc 710 rfl) rfl ?_; refine l_effv (f_alloc 711 rfl) rfl ?_; refine l_nil ?_
  refine k1 ?_; refine k2 ?_; refine k2 ?_
  refine c_region ?_; refine l_neu (n_move rfl rfl) rfl ?_; refine l_neu (n_len rfl (.pure _ _ _ _)) rfl ?_; refine l_neu (n_move rfl rfl) rfl ?_; refine l_nil ?_
  refine k1 ?_; refine k3 ?_
  refine c_while (X := Nat × (Int × Int) × Bool × Bool) (fun z => ([(3, .s (.one (.ref 710 0))), (4, .s (.one (.ref 711 0))), (7, sList PatchHunk 3 phunkC hs), (8, sInt hs.length), (9, sInt z.1)], [(710, sideBox z.2.1.1 z.2.2.1), (711, sideBox z.2.1.2 z.2.2.2)])) (fun z => z.1 ≤ hs.length ∧ ((0 ≤ z.2.1.1 ∧ z.2.1.1 ≤ 8192) ∧ (0 ≤ z.2.1.2 ∧ z.2.1.2 ≤ 8192)) ∧ wellGo 0 0 false false hs = wellGo z.2.1.1 z.2.1.2 z.2.2.1 z.2.2.2 (hs.drop z.1)) (fun z => hs.length - z.1) (0, (0, 0), false, false) ⟨Nat.zero_le _, by decide, rfl⟩ (Sees.of ⟨le1 rfl, le1 rfl, le1 rfl, le1 rfl, le1 rfl, trivial⟩ ⟨rfl, rfl, trivial⟩) ?_
  rintro ⟨k, ⟨i, j⟩, o, n⟩ ⟨hk, ⟨hi, hj⟩, hp⟩
  dsimp only at hk hi hj hp ⊢
  refine k2 ?_
  refine c_region ?_; refine l_neu (n_lss rfl rfl) rfl ?_; refine l_nil ?_
  refine k1 ?_; refine k2 ?_
  refine c_cond rfl (fun ht => ?_) (fun ht => ?_)
  · have hlt : k < hs.length := by have := of_decide_eq_true ht; omega
    have hv : hs[k]? = some hs[k] := by simp [hlt]
    have hmem : hs[k] ∈ hs := List.getElem_mem hlt
    rw [List.drop_eq_getElem_cons hlt, wellGo] at hp
    obtain ⟨h, hx⟩ : ∃ x, x = hs[k] := ⟨_, rfl⟩
    rw [← hx] at hv hmem hp
    have h1 := szP_mem hmem
    have h3 := szL_len h.Lines
    unfold szH at h1
    refine k5 ?_; refine k1 ?_; refine k2 ?_; refine k3 ?_; refine k2 ?_
    refine c_region ?_; refine l_neu (n_indexAddr rfl (.pure _ _ _ _) rfl (by omega) hv) rfl ?_; refine l_neu (n_loads_eref rfl rfl) rfl ?_; refine l_effv (f_alloc 6 rfl) rfl ?_; refine l_eff (e_store_ref TySz.out rfl rfl rfl rfl rfl rfl) ?_; refine l_nil ?_
    refine k1 ?_; refine k2 ?_
    refine c_cut [(3, .s (.one (.ref 710 0))), (4, .s (.one (.ref 711 0))), (6, .s (.one (.ref 6 0))), (7, sList PatchHunk 3 phunkC hs), (8, sInt hs.length), (9, sInt k)] [(6, .box (pPhunk h).s1.cells), (710, sideBox i o), (711, sideBox j n)] (Sees.of ⟨le1 rfl, le1 rfl, le1 rfl, le1 rfl, le1 rfl, le1 rfl, trivial⟩ ⟨rfl, rfl, rfl, trivial⟩) ?_
    cases hpr : (h.Lines.all goodLn && someCh h.Lines) with
    | false =>
      rw [hpr] at hp
      refine c_region ?_; refine l_neu (n_loads_ref rfl rfl rfl) rfl ?_; refine l_call (uproper_ok h (by omega)) rfl rfl rfl ?_; rintro _ rfl; refine l_neu (n_not rfl) rfl ?_; refine l_neu (n_move rfl rfl) rfl ?_; refine l_skip rfl rfl rfl (by rw [hpr]; decide) rfl ?_; refine l_skip rfl rfl rfl (by rw [hpr]; decide) rfl ?_; refine l_skip rfl rfl rfl (by rw [hpr]; decide) rfl ?_; refine l_neu (n_pick_t rfl ((by rw [hpr]; rfl)) rfl) rfl ?_; refine l_nil ?_
      refine k1 ?_
      refine c_cond rfl (fun ht => ?_) (fun ht => ?_)
      · refine k2 ?_
        refine c_region ?_; refine l_neu (n_assign rfl rfl) rfl ?_; refine l_nil ?_
        refine k1 ?_; refine k10 ?_; refine k12 ?_; refine k11 ?_; refine k11 ?_; refine k12 ?_; refine k11 ?_
        exact ret_ret (ret1 rfl rfl rfl) (by rw [hp]; rfl)
      · cases ht
    | true =>
      rw [hpr] at hp
      refine c_region ?_; refine l_neu (n_loads_ref rfl rfl rfl) rfl ?_; refine l_call (uproper_ok h (by omega)) rfl rfl rfl ?_; rintro _ rfl; refine l_neu (n_not rfl) rfl ?_; refine l_neu (n_move rfl rfl) rfl ?_; refine l_run rfl rfl rfl (by rw [hpr]; rfl) ?_; refine l_neu (n_loads_ref rfl rfl rfl) rfl ?_; refine l_run rfl rfl rfl (by rw [hpr]; rfl) ?_; refine l_met (uplaced_met h h i j o n (by omega) hi hj rfl rfl) rfl rfl rfl ?_; rintro _ _ ⟨b, rfl, hb, hpost⟩; refine l_run rfl rfl rfl (by rw [hpr]; rfl) ?_; refine l_neu (n_not rfl) rfl ?_; refine l_neu (n_pick_f rfl ((by rw [hpr]; rfl)) rfl) rfl ?_; refine l_nil ?_
      refine k1 ?_
      refine c_cond rfl (fun ht => ?_) (fun ht => ?_)
      · have hbf : b = false := by simpa using ht
        refine k2 ?_
        refine c_region ?_; refine l_neu (n_assign rfl rfl) rfl ?_; refine l_nil ?_
        refine k1 ?_; refine k10 ?_; refine k12 ?_; refine k11 ?_; refine k11 ?_; refine k12 ?_; refine k11 ?_
        refine ret_ret (ret1 rfl rfl rfl) ?_
        subst hbf
        rw [hp]
        cases hbp : decide (¬ badPlace i j h) with
        | false => rfl
        | true =>
          rw [hbp] at hb
          cases hop : openGo o n h.Lines with
          | none => rfl
          | some q =>
            rw [hop] at hb
            obtain ⟨q1, q2⟩ := q
            have hb2 : decide (h.Old + oldN h ≤ 4096 ∧ h.New + newN h ≤ 4096) = false := hb.symm
            show [pBool false] = [pBool (decide (h.Old + oldN h ≤ 4096 ∧ h.New + newN h ≤ 4096) && wellGo (h.Old + oldN h) (h.New + newN h) q1 q2 (List.drop (k + 1) hs))]
            rw [hb2]; rfl
      · have hbt : b = true := by simpa using ht
        obtain ⟨o', n', e1, rfl⟩ := hpost hbt
        rw [hbt, e1] at hb
        have hb2 := (Bool.and_eq_true _ _ ▸ hb.symm : _ ∧ _)
        have hb1 := of_decide_eq_true hb2.1
        have hb3 := of_decide_eq_true hb2.2
        rw [e1, hb2.1] at hp
        simp only [Bool.true_and] at hp
        rw [decide_eq_true hb3, Bool.true_and] at hp
        have hbb : (0 ≤ h.Old ∧ h.Old ≤ 4096) ∧ (0 ≤ h.New ∧ h.New ≤ 4096) := by unfold badPlace at hb1; simp only [not_or] at hb1; omega
        have hon2 : 0 ≤ oldN h := by unfold oldN; omega
        have hnn2 : 0 ≤ newN h := by unfold newN; omega
        refine k5 ?_; refine k4 ?_; refine k1 ?_
        refine c_region ?_; refine l_neu (n_add rfl rfl (by omega)) rfl ?_; refine l_neu (n_move rfl rfl) rfl ?_; refine l_nil ?_
        refine k1 ?_
        exact ⟨(k + 1, (h.Old + oldN h, h.New + newN h), o', n'), ⟨by dsimp only; omega, by dsimp only; omega, hp⟩, by dsimp only; omega, Sees.of ⟨le1 rfl, le1 rfl, le1 rfl, le1 rfl, le1 rfl, trivial⟩ ⟨rfl, rfl, trivial⟩⟩
  · have hk' : k = hs.length := by have := of_decide_eq_false ht; omega
    subst hk'
    rw [List.drop_eq_nil_of_le (Nat.le_refl _), wellGo] at hp
    refine k6 ?_; refine k2 ?_
    refine c_region ?_; refine l_neu (n_assign rfl rfl) rfl ?_; refine l_nil ?_
    refine k1 ?_; refine k10 ?_
    exact ret_ret (ret1 rfl rfl rfl) (by rw [hp])
end Go.Proofs.YtjjidificdmnmaaDoor
namespace Go.Proofs.YtjjidificdmnmaaDoor
open Go Go.AL
set_option maxRecDepth 100000
theorem ucheck_ok (p : Patch) (hp : szP p.Hunks ≤ 268435456) : FnOk Tryd.prog 31 [pPatch p] (fun rs => rs = [pInt (check12 p)]) := by
  refine FnOk.intro Tryd.func31 (by decide) rfl rfl rfl rfl ?_
  refine k2 ?_
  refine c_region ?_; refine l_effv (f_box 1 rfl rfl rfl) rfl ?_; refine l_neu (n_assign rfl rfl) rfl ?_; refine l_nil ?_
  refine k1 ?_; refine k2 ?_; refine k3 ?_; refine k2 ?_
  refine c_region ?_; refine l_neu (n_field_ref rfl) rfl ?_; refine l_neu (n_load_ref rfl rfl rfl) rfl ?_; refine l_call (unamed_ok p.OldName) rfl rfl rfl ?_; rintro _ rfl; refine l_neu (n_not rfl) rfl ?_; refine l_neu (n_move rfl rfl) rfl ?_; refine l_guard rfl rfl rfl rfl (fun hg => by rw [hg]; exact n_field_ref rfl) ?_; refine l_guard rfl rfl rfl rfl (fun hg => by rw [hg]; exact n_load_ref rfl rfl rfl) ?_; refine l_guard rfl rfl rfl rfl (fun hg => by have hq := hg; (try simp at hq); rw [hg]; exact n_call1 (unamed_ok p.NewName) rfl rfl) ?_; refine l_guard rfl rfl rfl rfl (fun hg => by rw [hg]; exact n_not rfl) ?_; refine l_neu (n_pick_bool rfl (fun h => by first | rfl | (rw [h]; rfl)) (fun h => by first | rfl | (rw [h]; rfl))) rfl ?_; refine l_neu (n_assign rfl rfl) rfl ?_; refine l_nil ?_
  refine k1 ?_
  refine c_cond rfl (fun ht => ?_) (fun ht => ?_)
  · simp only [notB, or_pick] at ht
    have h := of_decide_eq_true ht
    refine k2 ?_
    refine c_region ?_; refine l_neu (n_assign rfl rfl) rfl ?_; refine l_nil ?_
    refine k1 ?_; refine k10 ?_; refine k12 ?_; refine k11 ?_
    exact ret_ret (ret1 rfl rfl rfl) (by rw [check12, if_pos h])
  · simp only [notB, or_pick] at ht
    have h := of_decide_eq_false ht
    refine k2 ?_
    refine c_region ?_; refine l_neu (n_field_ref rfl) rfl ?_; refine l_neu (n_load_ref rfl rfl rfl) rfl ?_; refine l_call (uwell_ok p.Hunks hp) rfl rfl rfl ?_; rintro _ rfl; refine l_neu (n_not rfl) rfl ?_; refine l_neu (n_assign rfl rfl) rfl ?_; refine l_nil ?_
    refine k1 ?_
    refine c_cond rfl (fun ht => ?_) (fun ht => ?_)
    · have h2 : goodOf p.Hunks = false := by simpa using ht
      refine k2 ?_
      refine c_region ?_; refine l_neu (n_assign rfl rfl) rfl ?_; refine l_nil ?_
      refine k1 ?_; refine k10 ?_; refine k12 ?_; refine k11 ?_
      exact ret_ret (ret1 rfl rfl rfl) (by rw [check12, if_neg h, if_pos h2])
    · have h2 : goodOf p.Hunks = true := by simpa using ht
      have hr := goodOf_range h2
      have hn1 : nameOk p.OldName = true := by by_cases hh : nameOk p.OldName = true; exact hh; exact absurd (.inl (by simpa using hh)) h
      have hn2 : nameOk p.NewName = true := by by_cases hh : nameOk p.NewName = true; exact hh; exact absurd (.inr (by simpa using hh)) h
      have hn3 := of_decide_eq_true hn1
      have hn4 := of_decide_eq_true hn2
      have hpf : PFit p := ⟨by omega, by omega, hp⟩
      refine k2 ?_
      refine c_region ?_; refine l_neu (n_loads_ref rfl rfl rfl) rfl ?_; refine l_call (usize_ok p hpf (fun x hx => by have := hr x hx; omega)) rfl rfl rfl ?_; rintro _ rfl; refine l_neu (n_gtr rfl rfl) rfl ?_; refine l_neu (n_assign rfl rfl) rfl ?_; refine l_nil ?_
      refine k1 ?_
      refine c_cond rfl (fun ht => ?_) (fun ht => ?_)
      · have h3 := of_decide_eq_true ht
        refine k2 ?_
        refine c_region ?_; refine l_neu (n_assign rfl rfl) rfl ?_; refine l_nil ?_
        refine k1 ?_; refine k10 ?_; refine k12 ?_; refine k11 ?_
        exact ret_ret (ret1 rfl rfl rfl) (by rw [check12, if_neg h, if_neg (by rw [h2]; decide), if_pos (by omega)])
      · have h3 := of_decide_eq_false ht
        refine k5 ?_; refine k2 ?_
        refine c_region ?_; refine l_neu (n_assign rfl rfl) rfl ?_; refine l_nil ?_
        refine k1 ?_; refine k10 ?_
        exact ret_ret (ret1 rfl rfl rfl) (by rw [check12, if_neg h, if_neg (by rw [h2]; decide), if_neg (by omega)])
theorem check12_good {p : Patch} (h1 : ¬ check12 p ≠ 0) : goodOf p.Hunks = true := by
  by_cases hg : goodOf p.Hunks = true
  · exact hg
  · exfalso; apply h1; unfold check12; split
    · decide
    · rw [if_pos (by simpa using hg)]; decide
end Go.Proofs.YtjjidificdmnmaaDoor
namespace Go.Proofs.YtjjidificdmnmaaDoor
open Go Go.AL
set_option maxRecDepth 100000
end Go.Proofs.YtjjidificdmnmaaDoor
namespace Go.Proofs.YtjjidificdmnmaaDoor
open Go Go.AL
set_option maxRecDepth 100000
end Go.Proofs.YtjjidificdmnmaaDoor
namespace Go.Proofs.YtjjidificdmnmaaDoor
open Go Go.AL
set_option maxRecDepth 100000
end Go.Proofs.YtjjidificdmnmaaDoor
namespace Go.Proofs.YtjjidificdmnmaaDoor
open Go Go.AL
set_option maxRecDepth 100000
end Go.Proofs.YtjjidificdmnmaaDoor
namespace Go.Proofs.YtjjidificdmnmaaDoor
open Go Go.AL
set_option maxRecDepth 100000
end Go.Proofs.YtjjidificdmnmaaDoor
namespace Go.Proofs.YtjjidificdmnmaaDoor
open Go Go.AL
set_option maxRecDepth 100000
end Go.Proofs.YtjjidificdmnmaaDoor
namespace Go.Proofs.YtjjidificdmnmaaDoor
open Go Go.AL
set_option maxRecDepth 100000
end Go.Proofs.YtjjidificdmnmaaDoor
namespace Go.Proofs.YtjjidificdmnmaaDoor
open Go Go.AL
set_option maxRecDepth 100000
end Go.Proofs.YtjjidificdmnmaaDoor
namespace Go.Proofs.YtjjidificdmnmaaDoor
open Go Go.AL
set_option maxRecDepth 100000
end Go.Proofs.YtjjidificdmnmaaDoor
namespace Go.Proofs.YtjjidificdmnmaaDoor
open Go Go.AL
set_option maxRecDepth 100000
end Go.Proofs.YtjjidificdmnmaaDoor
namespace Go.Proofs.YtjjidificdmnmaaDoor
open Go Go.AL
set_option maxRecDepth 100000
end Go.Proofs.YtjjidificdmnmaaDoor
namespace Go.Proofs.YtjjidificdmnmaaDoor
open Go Go.AL
set_option maxRecDepth 100000
end Go.Proofs.YtjjidificdmnmaaDoor
namespace Go.Proofs.YtjjidificdmnmaaDoor
open Go Go.AL
set_option maxRecDepth 100000
end Go.Proofs.YtjjidificdmnmaaDoor
