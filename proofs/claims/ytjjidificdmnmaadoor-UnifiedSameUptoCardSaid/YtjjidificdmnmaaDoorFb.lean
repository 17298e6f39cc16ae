/- Walks of the program's functions. -/
import Derived.Test.YtjjidificdmnmaaDoorFa
import Derived.Test.YtjjidificdmnmaaDoorFs
namespace Go.Proofs.YtjjidificdmnmaaDoor
open Go Go.AL
set_option maxRecDepth 100000
theorem i64_id {n : Int} (h : -9223372036854775808 ≤ n ∧ n ≤ 9223372036854775807) : IntKind.i64.wrap n = n := IntWalk.i64_in _ h
theorem sat_met {gf : Fr} {ob : Obs} (a b : List Int) (i j : Nat) (ha : a.length ≤ 4096) (hb : b.length ≤ 4096) (hi : i ≤ a.length) (hj : j ≤ b.length) (h8 : getO ob 8 = some (.box [.p (.list Int 1 u16C (flat a b (fun _ _ => true)))])) (h3 : getO ob 3 = some (.box [.p (.list Int 1 intC b)])) :
    AL.Met Tryd.prog 65 [.one (.p (.v (.int .i64 i))), .one (.p (.v (.int .i64 j))), .one (.ref 8 0), .one (.ref 3 0)] gf ob [] (fun rs ob' => rs = [.one (.p (.v (.int .i64 (dist (a.drop i) (b.drop j) : Int))))] ∧ ob' = ob) := by
  have hg := flat_get (a := a) (b := b) (done := fun _ _ => true) hi hj
  rw [if_pos rfl] at hg
  have hin := (flat_at (a := a) (b := b) hi hj).1
  have hL := flat_length a b (fun _ _ => true)
  have e1 : (i : Int) * ((b.length : Int) + 1) = ((i * (b.length + 1) : Nat) : Int) := by push_cast; rfl
  have hbd : i * (b.length + 1) ≤ 4096 * 4097 := Nat.mul_le_mul (by omega) (by omega)
  have hbd2 : (a.length + 1) * (b.length + 1) ≤ 4097 * 4097 := Nat.mul_le_mul (by omega) (by omega)
  have hgi : (flat a b (fun _ _ => true))[((i : Int) * ((b.length : Int) + 1) + j).toNat]? = some (dist (a.drop i) (b.drop j) : Int) := by
    rw [e1, show (((i * (b.length + 1) : Nat) : Int) + j).toNat = i * (b.length + 1) + j by omega]; exact hg
  have hd := dist_le (a.drop i) (b.drop j)
  simp only [List.length_drop] at hd
  refine AL.Met.intro Tryd.func65 (by decide) rfl rfl rfl ?_
  refine k2 ?_
  refine c_region ?_; refine l_neu (n_assign rfl rfl) rfl ?_; refine l_nil ?_
  refine k1 ?_; refine k2 ?_
  refine c_region ?_; refine l_neu (n_load_ref rfl h8 rfl) rfl ?_; refine l_neu (n_move rfl rfl) rfl ?_; refine l_neu (n_load_ref rfl h3 rfl) rfl ?_; refine l_neu (n_len rfl (.pure _ _ _ _)) rfl ?_; refine l_neu (n_add rfl rfl (by omega)) rfl ?_; refine l_neu (n_mul rfl rfl (by (rw [e1]; omega))) rfl ?_; refine l_neu (n_move rfl rfl) rfl ?_; refine l_neu (n_add rfl rfl (by (rw [e1]; omega))) rfl ?_; refine l_neu (n_indexAddr rfl (.pure _ _ _ _) rfl (by omega) hgi) rfl ?_; refine l_neu (n_load_eref rfl rfl) rfl ?_; refine l_neu (n_convert rfl) rfl ?_; refine l_neu (n_assign rfl rfl) rfl ?_; refine l_nil ?_
  rw [i64_id (by omega)]
  refine k1 ?_; refine k10 ?_
  exact met_ret (rets1 rfl rfl) (by repeat (first | exact tail_refl | refine tail_cons rfl ?_ | refine tail_forget _ ?_)) (fun _ _ h => h) ⟨rfl, rfl⟩
theorem swalk_ok (a b : List Int) (ha : a.length ≤ 4096) (hb : b.length ≤ 4096) : FnOk Tryd.prog 38 [pInts a, pInts b] (fun rs => rs = [pSpans (walkGo 0 0 a b)]) := by
  obtain ⟨n, hn⟩ : ∃ n, n = begOf a b := ⟨_, rfl⟩
  have hnl := begOf_le a b
  rw [← hn] at hnl
  have hbeg := walkGo_beg a b 0 0
  rw [← hn] at hbeg
  refine FnOk.intro Tryd.func38 (by decide) rfl rfl rfl rfl ?_
  refine k2 ?_
  refine c_region ?_; refine l_effv (f_box 3 rfl rfl rfl) rfl ?_; refine l_neu (n_assign rfl rfl) rfl ?_; refine l_nil ?_
  refine k1 ?_; refine k2 ?_
  refine c_region ?_; refine l_effv (f_adopt 5 _ spanC rfl) rfl ?_; refine l_nil ?_
  refine k1 ?_; refine k2 ?_
  refine c_region ?_; refine l_neu (n_move rfl rfl) rfl ?_; refine l_neu (n_load_ref rfl rfl rfl) rfl ?_; refine l_call (sbeginning_ok a b (by omega)) rfl rfl rfl ?_; rintro _ rfl; refine l_neu (n_assign rfl rfl) rfl ?_; refine l_nil ?_
  rw [← hn]
  refine k1 ?_; refine k2 ?_; refine k2 ?_
  refine c_region ?_; refine l_neu (n_move rfl rfl) rfl ?_; refine l_neu (n_move rfl rfl) rfl ?_; refine l_nil ?_
  refine k1 ?_; refine k3 ?_
  refine c_while (X := Nat) (fun k => ([(0, sList Int 1 intC a), (3, .s (.one (.ref 3 0))), (5, .s (.one (.buf 5 Span 2 spanC (spanRun 0 0 k)))), (6, sInt n), (15, sInt n), (16, sInt k)], [(3, .box [.p (.list Int 1 intC b)]), (5, .spare (spanRun 0 0 k).length 2 64)])) (fun k => k ≤ n) (fun k => n - k) 0 (Nat.zero_le _) (Sees.of ⟨le1 rfl, le1 rfl, le1 rfl, le1 rfl, le1 rfl, le1 rfl, trivial⟩ ⟨rfl, rfl, trivial⟩) ?_
  intro k hk
  dsimp only at hk ⊢
  have hrl := spanRun_length 0 0 k
  refine k2 ?_
  refine c_region ?_; refine l_neu (n_lss rfl rfl) rfl ?_; refine l_nil ?_
  refine k1 ?_; refine k2 ?_
  refine c_cond rfl (fun ht => ?_) (fun ht => ?_)
  · have hlt : k < n := by have := of_decide_eq_true ht; omega
    have hsn := spanRun_snoc 0 0 k
    refine k5 ?_; refine k1 ?_; refine k2 ?_; refine k3 ?_; refine k2 ?_
    refine c_region ?_; refine l_neu (n_move rfl rfl) rfl ?_; refine l_neu (n_assign rfl rfl) rfl ?_; refine l_nil ?_
    refine k1 ?_
    refine c_region ?_; refine l_neu (n_move rfl rfl) rfl ?_; refine l_neu (n_move rfl rfl) rfl ?_; refine l_neu (n_move rfl rfl) rfl ?_; refine l_neu (n_build rfl) rfl ?_; refine l_neu (n_buildSlice (c := spanC) (ys := [⟨(k : Int), (k : Int)⟩]) (asm_cons rfl rfl rfl rfl asm_nil) rfl rfl rfl) rfl ?_; refine l_effv (e_append rfl rfl rfl (.pure _ _ _ _) (by (simp only [List.length_cons, List.length_nil]; omega)) rfl) rfl ?_; refine l_neu (n_assign rfl rfl) rfl ?_; refine l_nil ?_
    refine k4 ?_; refine k1 ?_
    refine c_region ?_; refine l_neu (n_add rfl rfl (by omega)) rfl ?_; refine l_neu (n_move rfl rfl) rfl ?_; refine l_nil ?_
    refine k1 ?_
    refine ⟨k + 1, by omega, by omega, ?_⟩
    rw [hsn, show (0 : Int) + (k : Int) = k by omega]
    exact Sees.of ⟨le1 rfl, le1 rfl, le1 rfl, le1 rfl, le1 rfl, le1 rfl, trivial⟩ ⟨rfl, rfl, trivial⟩
  have hk' : k = n := by have := of_decide_eq_false ht; omega
  subst hk'
  obtain ⟨a', ha'⟩ : ∃ a', a' = a.drop k := ⟨_, rfl⟩
  obtain ⟨b', hb'⟩ : ∃ b', b' = b.drop k := ⟨_, rfl⟩
  have hal : a'.length ≤ 4096 := by rw [ha', List.length_drop]; omega
  have hbl : b'.length ≤ 4096 := by rw [hb', List.length_drop]; omega
  rw [Int.zero_add, ← ha', ← hb'] at hbeg
  refine k6 ?_; refine k2 ?_
  refine c_region_draw (by kernel_rfl) (by kernel_rfl) ?_; refine d_neu (n_move rfl rfl) rfl rfl ?_; refine d_neu (n_move rfl rfl) rfl rfl ?_; refine d_neu (n_slice_l rfl (.pure _ _ _ _) rfl (by omega) (by omega)) rfl rfl ?_; refine d_neu (n_load_ref rfl rfl rfl) rfl rfl ?_; refine d_neu (n_move rfl rfl) rfl rfl ?_; refine d_neu (n_slice_l rfl (.pure _ _ _ _) rfl (by omega) (by omega)) rfl rfl ?_; refine d_neu (n_assign rfl rfl) rfl rfl ?_; refine d_eff (e_store_ref TySz.out rfl rfl rfl rfl rfl rfl) rfl ?_; refine d_nil ?_
  rw [Int.toNat_natCast, ← ha', ← hb']
  refine k1 ?_; refine k2 ?_
  refine c_region ?_; refine l_neu (n_move rfl rfl) rfl ?_; refine l_neu (n_load_ref rfl rfl rfl) rfl ?_; refine l_call (sdistances_ok a' b' hal hbl) rfl rfl rfl ?_; rintro _ rfl; refine l_effv (f_alloc 8 rfl) rfl ?_; refine l_eff (e_store_ref TySz.out rfl rfl rfl rfl rfl rfl) ?_; refine l_nil ?_
  refine k1 ?_; refine k2 ?_
  refine c_region ?_; refine l_neu (n_makeFunc rfl rfl) rfl ?_; refine l_neu (n_assign rfl rfl) rfl ?_; refine l_nil ?_
  refine k1 ?_; refine k2 ?_; refine k2 ?_
  refine c_region ?_; refine l_neu (n_assign rfl rfl) rfl ?_; refine l_neu (n_assign rfl rfl) rfl ?_; refine l_nil ?_
  refine k1 ?_; refine k3 ?_
  refine c_while (X := Nat × Nat × List Span) (fun x => ([(0, sList Int 1 intC a'), (3, .s (.one (.ref 3 0))), (5, .s (.one (.buf 5 Span 2 spanC x.2.2))), (6, sInt k), (8, .s (.one (.ref 8 0))), (9, .s (.one (.clo 65 [] [(8, 0), (3, 0)]))), (10, sInt x.1), (11, sInt x.2.1)], [(3, .box [.p (.list Int 1 intC b')]), (5, .spare x.2.2.length 2 64), (8, .box [.p (.list Int 1 u16C (flat a' b' (fun _ _ => true)))])])) (fun x => x.1 ≤ a'.length ∧ x.2.1 ≤ b'.length ∧ x.2.2.length ≤ k + x.1 ∧ walkGo 0 0 a b = x.2.2 ++ walkGo (k + x.1) (k + x.2.1) (a'.drop x.1) (b'.drop x.2.1)) (fun x => (a'.length - x.1) + (b'.length - x.2.1)) (0, 0, spanRun 0 0 k) ⟨Nat.zero_le _, Nat.zero_le _, by rw [hrl]; exact Nat.le_refl _, by simpa using hbeg⟩ (Sees.of ⟨le1 rfl, le1 rfl, le1 rfl, le1 rfl, le1 rfl, le1 rfl, le1 rfl, le1 rfl, trivial⟩ ⟨rfl, rfl, rfl, trivial⟩) ?_
  rintro ⟨i, j, out⟩ ⟨hi, hj, hol, he⟩
  dsimp only at hi hj hol he ⊢
  refine k2 ?_; refine k2 ?_
  refine c_region ?_; refine l_neu (n_move rfl rfl) rfl ?_; refine l_neu (n_move rfl rfl) rfl ?_; refine l_neu (n_len rfl (.pure _ _ _ _)) rfl ?_; refine l_neu (n_lss rfl rfl) rfl ?_; refine l_neu (n_move rfl rfl) rfl ?_; refine l_guard rfl rfl rfl rfl (fun hg => by rw [hg]; exact n_move rfl rfl) ?_; refine l_guard rfl rfl rfl rfl (fun hg => by rw [hg]; exact n_load_ref rfl rfl rfl) ?_; refine l_guard rfl rfl rfl rfl (fun hg => by rw [hg]; exact n_len rfl (.pure _ _ _ _)) ?_; refine l_guard rfl rfl rfl rfl (fun hg => by rw [hg]; exact n_lss rfl rfl) ?_; refine l_neu (n_pick_bool rfl (fun h => by first | rfl | (rw [h]; rfl)) (fun h => by first | rfl | (rw [h]; rfl))) rfl ?_; refine l_nil ?_
  refine k1 ?_
  refine c_cond rfl (fun ht => ?_) (fun ht => ?_)
  · simp only [or_pick] at ht
    have hcond := of_decide_eq_true ht
    refine c_cut [(0, sList Int 1 intC a'), (3, .s (.one (.ref 3 0))), (5, .s (.one (.buf 5 Span 2 spanC out))), (6, sInt k), (8, .s (.one (.ref 8 0))), (9, .s (.one (.clo 65 [] [(8, 0), (3, 0)]))), (10, sInt i), (11, sInt j)] [(3, .box [.p (.list Int 1 intC b')]), (5, .spare out.length 2 64), (8, .box [.p (.list Int 1 u16C (flat a' b' (fun _ _ => true)))])] (Sees.of ⟨le1 rfl, le1 rfl, le1 rfl, le1 rfl, le1 rfl, le1 rfl, le1 rfl, le1 rfl, trivial⟩ ⟨rfl, rfl, rfl, trivial⟩) ?_
    refine k5 ?_; refine k1 ?_; refine k3 ?_; refine k3 ?_; refine k2 ?_
    refine c_region_draw (by kernel_rfl) (by kernel_rfl) ?_; refine d_neu (n_move rfl rfl) rfl rfl ?_; refine d_neu (n_move rfl rfl) rfl rfl ?_; refine d_neu (n_len rfl (.pure _ _ _ _)) rfl rfl ?_; refine d_neu (n_lss rfl rfl) rfl rfl ?_; refine d_neu (n_move rfl rfl) rfl rfl ?_; refine d_guard rfl rfl (fun hg => by rw [hg]; exact n_move rfl rfl) rfl rfl ?_; refine d_guard rfl rfl (fun hg => by rw [hg]; exact n_load_ref rfl rfl rfl) rfl rfl ?_; refine d_guard rfl rfl (fun hg => by rw [hg]; exact n_len rfl (.pure _ _ _ _)) rfl rfl ?_; refine d_guard rfl rfl (fun hg => by rw [hg]; exact n_lss rfl rfl) rfl rfl ?_; refine d_neu (n_pick_bool rfl (fun h => by first | rfl | (rw [h]; rfl)) (fun h => by first | rfl | (rw [h]; rfl))) rfl rfl ?_; refine d_neu (n_move rfl rfl) rfl rfl ?_; refine d_guard rfl rfl (fun hg => by rw [hg]; exact n_move rfl rfl) rfl rfl ?_; refine d_guard rfl rfl (fun hg => by rw [hg]; exact n_move rfl rfl) rfl rfl ?_; refine d_guard rfl rfl (fun hg => by have hq := hg; (try simp at hq); rw [hg]; exact n_indexAddr rfl (.pure _ _ _ _) rfl (by omega) (getD_get (by omega))) rfl rfl ?_; refine d_guard rfl rfl (fun hg => by rw [hg]; exact n_load_eref rfl rfl) rfl rfl ?_; refine d_guard rfl rfl (fun hg => by rw [hg]; exact n_load_ref rfl rfl rfl) rfl rfl ?_; refine d_guard rfl rfl (fun hg => by rw [hg]; exact n_move rfl rfl) rfl rfl ?_; refine d_guard rfl rfl (fun hg => by have hq := hg; (try simp at hq); rw [hg]; exact n_indexAddr rfl (.pure _ _ _ _) rfl (by omega) (getD_get (by omega))) rfl rfl ?_; refine d_guard rfl rfl (fun hg => by rw [hg]; exact n_load_eref rfl rfl) rfl rfl ?_; refine d_guard rfl rfl (fun hg => by rw [hg]; exact n_eql rfl rfl) rfl rfl ?_; refine d_neu (n_pick_bool rfl (fun h => by first | rfl | (rw [h]; rfl)) (fun h => by first | rfl | (rw [h]; rfl))) rfl rfl ?_; refine d_neu (n_assign rfl rfl) rfl rfl ?_; refine d_nil ?_
    refine k1 ?_
    refine c_cond rfl (fun ht => ?_) (fun ht => ?_)
    · simp only [and_pick] at ht
      obtain ⟨⟨h1, h2⟩, h3⟩ := of_decide_eq_true ht
      have h1 : i < a'.length := by omega
      have h2 : j < b'.length := by omega
      rw [walkGo_drop a' b' i j h1 h2, if_pos (by simpa [h1, h2] using h3)] at he
      refine c_cut [(0, sList Int 1 intC a'), (3, .s (.one (.ref 3 0))), (5, .s (.one (.buf 5 Span 2 spanC out))), (6, sInt k), (8, .s (.one (.ref 8 0))), (9, .s (.one (.clo 65 [] [(8, 0), (3, 0)]))), (10, sInt i), (11, sInt j)] [(3, .box [.p (.list Int 1 intC b')]), (5, .spare out.length 2 64), (8, .box [.p (.list Int 1 u16C (flat a' b' (fun _ _ => true)))])] (Sees.of ⟨le1 rfl, le1 rfl, le1 rfl, le1 rfl, le1 rfl, le1 rfl, le1 rfl, le1 rfl, trivial⟩ ⟨rfl, rfl, rfl, trivial⟩) ?_
      refine k2 ?_
      refine c_region ?_; refine l_neu (n_move rfl rfl) rfl ?_; refine l_neu (n_move rfl rfl) rfl ?_; refine l_neu (n_move rfl rfl) rfl ?_; refine l_neu (n_add rfl rfl (by omega)) rfl ?_; refine l_neu (n_move rfl rfl) rfl ?_; refine l_neu (n_move rfl rfl) rfl ?_; refine l_neu (n_add rfl rfl (by omega)) rfl ?_; refine l_neu (n_build rfl) rfl ?_; refine l_neu (n_buildSlice (c := spanC) (ys := [⟨(k : Int) + i, (k : Int) + j⟩]) (asm_cons rfl rfl rfl rfl asm_nil) rfl rfl rfl) rfl ?_; refine l_effv (e_append rfl rfl rfl (.pure _ _ _ _) (by (simp only [List.length_cons, List.length_nil]; omega)) rfl) rfl ?_; refine l_neu (n_assign rfl rfl) rfl ?_; refine l_nil ?_
      refine k1 ?_
      refine c_region ?_; refine l_neu (n_move rfl rfl) rfl ?_; refine l_neu (n_add rfl rfl (by omega)) rfl ?_; refine l_neu (n_move rfl rfl) rfl ?_; refine l_neu (n_add rfl rfl (by omega)) rfl ?_; refine l_neu (n_assign rfl rfl) rfl ?_; refine l_neu (n_assign rfl rfl) rfl ?_; refine l_nil ?_
      refine k4 ?_; refine k4 ?_; refine k1 ?_
      refine ⟨(i + 1, j + 1, out ++ [⟨(k : Int) + i, (k : Int) + j⟩]), ⟨by dsimp only; omega, by dsimp only; omega, by simp; omega, ?_⟩, by dsimp only; omega, Sees.of ⟨le1 rfl, le1 rfl, le1 rfl, le1 rfl, le1 rfl, le1 rfl, le1 rfl, le1 rfl, trivial⟩ ⟨rfl, rfl, rfl, trivial⟩⟩
      dsimp only
      rw [he, List.append_assoc]
      congr 2
    · simp only [and_pick] at ht
      have hno := of_decide_eq_false ht
      refine c_cut [(0, sList Int 1 intC a'), (3, .s (.one (.ref 3 0))), (5, .s (.one (.buf 5 Span 2 spanC out))), (6, sInt k), (8, .s (.one (.ref 8 0))), (9, .s (.one (.clo 65 [] [(8, 0), (3, 0)]))), (10, sInt i), (11, sInt j)] [(3, .box [.p (.list Int 1 intC b')]), (5, .spare out.length 2 64), (8, .box [.p (.list Int 1 u16C (flat a' b' (fun _ _ => true)))])] (Sees.of ⟨le1 rfl, le1 rfl, le1 rfl, le1 rfl, le1 rfl, le1 rfl, le1 rfl, le1 rfl, trivial⟩ ⟨rfl, rfl, rfl, trivial⟩) ?_
      by_cases h1 : i < a'.length
      · have hr : decide ((i : Int) < (a'.length : Int)) = true := decide_eq_true (by omega)
        have hd1 := dist_le (a'.drop (i + 1)) (b'.drop j)
        simp only [List.length_drop] at hd1
        have hstep : ¬ j < b'.length → dist (a'.drop (i + 1)) (b'.drop j) + 1 = dist (a'.drop i) (b'.drop j) ∧ walkGo (k + i) (k + j) (a'.drop i) (b'.drop j) = walkGo (k + i + 1) (k + j) (a'.drop (i + 1)) (b'.drop j) := by
          intro hj2
          rw [show b'.drop j = [] from List.drop_eq_nil_of_le (by omega), dist_nil, dist_nil, List.length_drop, List.length_drop, walkGo_nil_right, walkGo_nil_right]
          exact ⟨by omega, rfl⟩
        have hgo : j < b'.length → walkGo (k + i) (k + j) (a'.drop i) (b'.drop j) = if dist (a'.drop (i + 1)) (b'.drop j) + 1 = dist (a'.drop i) (b'.drop j) then walkGo (k + i + 1) (k + j) (a'.drop (i + 1)) (b'.drop j) else walkGo (k + i) (k + j + 1) (a'.drop i) (b'.drop (j + 1)) := by
          intro h2
          rw [walkGo_drop a' b' i j h1 h2, if_neg]
          intro h3
          exact hno ⟨⟨by omega, by omega⟩, by simpa [h1, h2] using h3⟩
        refine k2 ?_
        refine c_region ?_; refine l_neu (n_move rfl rfl) rfl ?_; refine l_neu (n_move rfl rfl) rfl ?_; refine l_neu (n_len rfl (.pure _ _ _ _)) rfl ?_; refine l_neu (n_lss rfl rfl) rfl ?_; refine l_neu (n_move rfl rfl) rfl ?_; refine l_run rfl rfl rfl hr ?_; refine l_neu (n_move rfl rfl) rfl ?_; refine l_run rfl rfl rfl hr ?_; refine l_neu (n_move rfl rfl) rfl ?_; refine l_run rfl rfl rfl hr ?_; refine l_neu (n_add rfl rfl (by omega)) rfl ?_; refine l_run rfl rfl rfl hr ?_; refine l_neu (n_move rfl rfl) rfl ?_; refine l_run rfl rfl rfl hr ?_; refine l_metF (sat_met a' b' (i + 1) j hal hbl (by omega) hj rfl rfl) rfl rfl rfl rfl ?_; rintro _ _ ⟨rfl, rfl⟩; refine l_run rfl rfl rfl hr ?_; refine l_neu (n_add rfl rfl (by omega)) rfl ?_; refine l_run rfl rfl rfl hr ?_; refine l_neu (n_move rfl rfl) rfl ?_; refine l_run rfl rfl rfl hr ?_; refine l_neu (n_move rfl rfl) rfl ?_; refine l_run rfl rfl rfl hr ?_; refine l_neu (n_move rfl rfl) rfl ?_; refine l_run rfl rfl rfl hr ?_; refine l_metF (sat_met a' b' i j hal hbl hi hj rfl rfl) rfl rfl rfl rfl ?_; rintro _ _ ⟨rfl, rfl⟩; refine l_run rfl rfl rfl hr ?_; refine l_neu (n_eql rfl rfl) rfl ?_; refine l_neu (n_pick_bool rfl (fun h => by first | rfl | (rw [h]; rfl)) (fun h => by first | rfl | (rw [h]; rfl))) rfl ?_; refine l_neu (n_assign rfl rfl) rfl ?_; refine l_nil ?_
        refine k1 ?_
        refine c_cond rfl (fun ht => ?_) (fun ht => ?_)
        · simp only [and_pick] at ht
          obtain ⟨_, h3⟩ := of_decide_eq_true ht
          have h3 : dist (a'.drop (i + 1)) (b'.drop j) + 1 = dist (a'.drop i) (b'.drop j) := by omega
          have hnext : walkGo (k + i) (k + j) (a'.drop i) (b'.drop j) = walkGo (k + i + 1) (k + j) (a'.drop (i + 1)) (b'.drop j) := by
            by_cases h2 : j < b'.length
            · rw [hgo h2, if_pos h3]
            · exact (hstep h2).2
          rw [hnext] at he
          skip
          refine c_region ?_; refine l_neu (n_move rfl rfl) rfl ?_; refine l_neu (n_add rfl rfl (by omega)) rfl ?_; refine l_neu (n_assign rfl rfl) rfl ?_; refine l_nil ?_
          refine k4 ?_; refine k4 ?_; refine k1 ?_
          refine ⟨(i + 1, j, out), ⟨by dsimp only; omega, by dsimp only; omega, by dsimp only; omega, ?_⟩, by dsimp only; omega, Sees.of ⟨le1 rfl, le1 rfl, le1 rfl, le1 rfl, le1 rfl, le1 rfl, le1 rfl, le1 rfl, trivial⟩ ⟨rfl, rfl, rfl, trivial⟩⟩
          dsimp only
          rw [he, show (k : Int) + (i : Int) + 1 = (k : Int) + ((i + 1 : Nat) : Int) by omega]
        · simp only [and_pick] at ht
          have h3 := of_decide_eq_false ht
          have h3 : ¬ dist (a'.drop (i + 1)) (b'.drop j) + 1 = dist (a'.drop i) (b'.drop j) := fun q => h3 ⟨by omega, by omega⟩
          have h2 : j < b'.length := by
            by_cases h2 : j < b'.length
            · exact h2
            · exact absurd (hstep h2).1 h3
          rw [hgo h2, if_neg h3] at he
          skip
          refine c_region ?_; refine l_neu (n_move rfl rfl) rfl ?_; refine l_neu (n_add rfl rfl (by omega)) rfl ?_; refine l_neu (n_assign rfl rfl) rfl ?_; refine l_nil ?_
          refine k4 ?_; refine k4 ?_; refine k1 ?_
          refine ⟨(i, j + 1, out), ⟨by dsimp only; omega, by dsimp only; omega, by dsimp only; omega, ?_⟩, by dsimp only; omega, Sees.of ⟨le1 rfl, le1 rfl, le1 rfl, le1 rfl, le1 rfl, le1 rfl, le1 rfl, le1 rfl, trivial⟩ ⟨rfl, rfl, rfl, trivial⟩⟩
          dsimp only
          rw [he, show (k : Int) + (j : Int) + 1 = (k : Int) + ((j + 1 : Nat) : Int) by omega]
      · have hrf : decide ((i : Int) < (a'.length : Int)) = false := decide_eq_false (by omega)
        have h2 : j < b'.length := by omega
        refine k2 ?_
        refine c_region ?_; refine l_neu (n_move rfl rfl) rfl ?_; refine l_neu (n_move rfl rfl) rfl ?_; refine l_neu (n_len rfl (.pure _ _ _ _)) rfl ?_; refine l_neu (n_lss rfl rfl) rfl ?_; refine l_neu (n_move rfl rfl) rfl ?_; refine l_skip rfl rfl rfl (by rw [hrf]; decide) rfl ?_; refine l_skip rfl rfl rfl (by rw [hrf]; decide) rfl ?_; refine l_skip rfl rfl rfl (by rw [hrf]; decide) rfl ?_; refine l_skip rfl rfl rfl (by rw [hrf]; decide) rfl ?_; refine l_skip rfl rfl rfl (by rw [hrf]; decide) rfl ?_; refine l_skip rfl rfl rfl (by rw [hrf]; decide) rfl ?_; refine l_skip rfl rfl rfl (by rw [hrf]; decide) rfl ?_; refine l_skip rfl rfl rfl (by rw [hrf]; decide) rfl ?_; refine l_skip rfl rfl rfl (by rw [hrf]; decide) rfl ?_; refine l_skip rfl rfl rfl (by rw [hrf]; decide) rfl ?_; refine l_skip rfl rfl rfl (by rw [hrf]; decide) rfl ?_; refine l_neu (n_pick_f rfl (hrf) rfl) rfl ?_; refine l_neu (n_assign rfl rfl) rfl ?_; refine l_nil ?_
        refine k1 ?_
        refine c_cond rfl (fun ht => ?_) (fun ht => ?_)
        · cases ht
        · skip
          refine c_region ?_; refine l_neu (n_move rfl rfl) rfl ?_; refine l_neu (n_add rfl rfl (by omega)) rfl ?_; refine l_neu (n_assign rfl rfl) rfl ?_; refine l_nil ?_
          refine k4 ?_; refine k4 ?_; refine k1 ?_
          refine ⟨(i, j + 1, out), ⟨by dsimp only; omega, by dsimp only; omega, by dsimp only; omega, ?_⟩, by dsimp only; omega, Sees.of ⟨le1 rfl, le1 rfl, le1 rfl, le1 rfl, le1 rfl, le1 rfl, le1 rfl, le1 rfl, trivial⟩ ⟨rfl, rfl, rfl, trivial⟩⟩
          dsimp only
          rw [he, show a'.drop i = [] from List.drop_eq_nil_of_le (by omega), walkGo_nil_left, walkGo_nil_left]
  · simp only [or_pick] at ht
    have hcond := of_decide_eq_false ht
    rw [show a'.drop i = [] from List.drop_eq_nil_of_le (by omega), walkGo_nil_left, List.append_nil] at he
    refine k6 ?_; refine k2 ?_
    refine c_region ?_; refine l_neu (n_move rfl rfl) rfl ?_; refine l_neu (n_assign rfl rfl) rfl ?_; refine l_nil ?_
    refine k1 ?_; refine k10 ?_
    exact ret_ret (ret1 rfl rfl rfl) (by rw [he])
theorem sScript_ok (a b : List Int) (ha : a.length ≤ 4096) (hb : b.length ≤ 4096) : FnOk Tryd.prog 22 [pInts a, pInts b] (fun rs => rs = [pChanges (walkOf a b), pInt 0]) := by
  have hA := walkGo_asc a b 0 0
  rw [Int.zero_add, Int.zero_add] at hA
  have hl := walkGo_length 0 0 a b
  refine FnOk.intro Tryd.func22 (by decide) rfl rfl rfl rfl ?_
  refine k2 ?_
  refine c_region ?_; refine l_neu (n_assign rfl rfl) rfl ?_; refine l_neu (n_assign rfl rfl) rfl ?_; refine l_nil ?_
  refine k1 ?_; refine k2 ?_; refine k2 ?_
  refine c_region ?_; refine l_neu (n_move rfl rfl) rfl ?_; refine l_neu (n_move rfl rfl) rfl ?_; refine l_call (slimited_ok a b) rfl rfl rfl ?_; rintro _ rfl; refine l_neu (n_not rfl) rfl ?_; refine l_nil ?_
  refine k1 ?_
  refine c_cond rfl (fun ht => ?_) (fun ht => ?_)
  · exfalso
    have h : decide ((a.length : Int) ≤ 4096 ∧ (b.length : Int) ≤ 4096) = true := decide_eq_true ⟨by omega, by omega⟩
    rw [h] at ht; cases ht
  refine k5 ?_; refine k1 ?_; refine k2 ?_
  refine c_region ?_; refine l_neu (n_move rfl rfl) rfl ?_; refine l_neu (n_move rfl rfl) rfl ?_; refine l_call (swalk_ok a b ha hb) rfl rfl rfl ?_; rintro _ rfl; refine l_neu (n_move rfl rfl) rfl ?_; refine l_neu (n_len rfl (.pure _ _ _ _)) rfl ?_; refine l_neu (n_move rfl rfl) rfl ?_; refine l_neu (n_len rfl (.pure _ _ _ _)) rfl ?_; refine l_call (sFromPairs_ok (walkGo 0 0 a b) a.length b.length ⟨by omega, by omega⟩ ⟨by omega, by omega⟩ hA (by omega)) rfl rfl rfl ?_; rintro _ rfl; refine l_neu (n_extract rfl rfl) rfl ?_; refine l_neu (n_extract rfl rfl) rfl ?_; refine l_neu (n_assign rfl rfl) rfl ?_; refine l_neu (n_assign rfl rfl) rfl ?_; refine l_nil ?_
  refine k1 ?_; refine k10 ?_
  exact ret_ret (ret2 rfl rfl rfl rfl rfl) rfl
end Go.Proofs.YtjjidificdmnmaaDoor
namespace Go.Proofs.YtjjidificdmnmaaDoor
open Go Go.AL
set_option maxRecDepth 100000
abbrev pHunk (h : Hunk) : PV := .agg [.v (.int .i64 h.First), .v (.int .i64 h.Last), .v (.int .i64 h.Old.From), .v (.int .i64 h.Old.To), .v (.int .i64 h.New.From), .v (.int .i64 h.New.To)]
theorem hclosed_ok (l : List Change) (f z : Nat) (m ctx : Int) (hl : l.length ≤ 1073741824) (hf : f < z) (hz : z ≤ l.length) (hc : 0 ≤ ctx ∧ ctx ≤ 1048576) (hm : 0 ≤ m ∧ m ≤ 4096)
    (hb : ∀ k, k < l.length → in81 (cAt l k).Old ∧ in81 (cAt l k).OldLen ∧ in81 (cAt l k).New ∧ in81 (cAt l k).NewLen) :
    FnOk Tryd.prog 43 [pChanges l, pInt f, pInt z, pInt m, pInt ctx] (fun rs => rs = [pHunk (mkH l m ctx f z)]) := by
  have hva : l[((f : Nat) : Int).toNat]? = some (cAt l f) := by rw [Int.toNat_natCast]; exact cAt_get (by omega)
  have hvz : l[((z : Nat) : Int).toNat - 1]? = some (cAt l (z - 1)) := by rw [Int.toNat_natCast]; exact cAt_get (by omega)
  have hvz2 : l[(((z : Nat) : Int) - 1).toNat]? = some (cAt l (z - 1)) := by rw [show (((z : Nat) : Int) - 1).toNat = z - 1 by omega]; exact cAt_get (by omega)
  obtain ⟨⟨a1, a2⟩, ⟨a3, a4⟩, ⟨a5, a6⟩, ⟨a7, a8⟩⟩ := hb f (by omega)
  obtain ⟨⟨z1, z2⟩, ⟨z3, z4⟩, ⟨z5, z6⟩, ⟨z7, z8⟩⟩ := hb (z - 1) (by omega)
  obtain ⟨a, ha⟩ : ∃ a, a = cAt l f := ⟨_, rfl⟩
  obtain ⟨y, hy⟩ : ∃ y, y = cAt l (z - 1) := ⟨_, rfl⟩
  have hres : mkH l m ctx f z = ⟨f, z, ⟨a.Old - minI ctx a.Old, y.Old + y.OldLen + minI ctx (m - y.Old - y.OldLen)⟩, ⟨a.New - minI ctx a.Old, y.New + y.NewLen + minI ctx (m - y.Old - y.OldLen)⟩⟩ := by
    unfold mkH hunkEnd hunkOpen
    dsimp only
    rw [← ha, ← hy, show m - (y.Old + y.OldLen) = m - y.Old - y.OldLen by omega, show (((z - 1 : Nat) : Int) + 1) = z by omega]
  rw [← ha] at hva a1 a2 a3 a4 a5 a6 a7 a8
  rw [← hy] at hvz hvz2 z1 z2 z3 z4 z5 z6 z7 z8
  rw [hres]
  have n1 : -4096 ≤ minI ctx a.Old ∧ minI ctx a.Old ≤ 4096 := by unfold minI; split <;> omega
  have n2 : -8192 ≤ minI ctx (m - y.Old - y.OldLen) ∧ minI ctx (m - y.Old - y.OldLen) ≤ 1048576 := by unfold minI; split <;> omega
  refine FnOk.intro Tryd.func43 (by decide) rfl rfl rfl rfl ?_
  refine k2 ?_
  refine c_region ?_; refine l_effv (f_alloc 10 rfl) rfl ?_; refine l_nil ?_
  refine k1 ?_; refine k2 ?_
  refine c_region_any [12, 11, 10, 9] [[], [9], [10], [10, 9], [11, 10, 9], [12, 11, 10, 9]] [(0, [9]), (0, [10]), (0, [10, 9]), (1, [9]), (1, [10]), (1, [10, 9]), (2, [9]), (2, [10]), (2, [10, 9]), (3, [9]), (3, [10]), (3, [10, 9]), (4, [9]), (4, [10]), (4, [10, 9]), (4, [11, 10, 9]), (5, [9]), (5, [10]), (5, [10, 9]), (5, [11, 10, 9]), (6, [9]), (6, [10]), (6, [10, 9]), (6, [11, 10, 9]), (7, [9]), (7, [10]), (7, [10, 9]), (7, [11, 10, 9]), (8, [9]), (8, [10]), (8, [10, 9]), (8, [11, 10, 9]), (9, [10]), (10, [])] (by kernel_rfl) (by kernel_rfl) ?_; refine a_neu rfl (n_move rfl rfl) ?_; refine a_neu rfl (n_move rfl rfl) ?_; refine a_neu rfl (n_indexAddr rfl (.pure _ _ _ _) rfl (by omega) hva) ?_; refine a_neu rfl (n_loads_eref rfl rfl) ?_; refine a_neu rfl (n_move rfl rfl) ?_; refine a_neu rfl (n_move rfl rfl) ?_; refine a_neu rfl (n_sub rfl rfl (by omega)) ?_; refine a_neu rfl (n_indexAddr rfl (.pure _ _ _ _) rfl (by omega) hvz2) ?_; refine a_neu rfl (n_loads_eref rfl rfl) ?_; refine a_alloc 11 rfl rfl ?_; refine a_alloc 12 rfl rfl ?_; refine a_store (u_store_ref TySz.out rfl rfl rfl rfl rfl rfl) ?_; refine a_store (u_store_ref TySz.out rfl rfl rfl rfl rfl rfl) ?_; refine a_nil rfl ?_ ?_
  · refine o_neu rfl rfl (n_move rfl rfl) ?_; refine o_neu rfl rfl (n_move rfl rfl) ?_; refine o_neu rfl rfl (n_move rfl rfl) ?_; refine o_neu rfl rfl (n_move rfl rfl) ?_; refine o_neu rfl rfl (n_move rfl rfl) ?_; refine o_neu rfl rfl (n_move rfl rfl) ?_; refine o_neu rfl rfl (n_indexAddr rfl (.pure _ _ _ _) rfl (by omega) hva) ?_; refine o_neu rfl rfl (n_indexAddr rfl (.pure _ _ _ _) rfl (by omega) hva) ?_; refine o_neu rfl rfl (n_indexAddr rfl (.pure _ _ _ _) rfl (by omega) hva) ?_; refine o_neu rfl rfl (n_loads_eref rfl rfl) ?_; refine o_neu rfl rfl (n_loads_eref rfl rfl) ?_; refine o_neu rfl rfl (n_loads_eref rfl rfl) ?_; refine o_neu rfl rfl (n_move rfl rfl) ?_; refine o_neu rfl rfl (n_move rfl rfl) ?_; refine o_neu rfl rfl (n_move rfl rfl) ?_; refine o_neu rfl rfl (n_move rfl rfl) ?_; refine o_neu rfl rfl (n_move rfl rfl) ?_; refine o_neu rfl rfl (n_move rfl rfl) ?_; refine o_neu rfl rfl (n_move rfl rfl) ?_; refine o_neu rfl rfl (n_move rfl rfl) ?_; refine o_neu rfl rfl (n_sub rfl rfl (by omega)) ?_; refine o_neu rfl rfl (n_sub rfl rfl (by omega)) ?_; refine o_neu rfl rfl (n_sub rfl rfl (by omega)) ?_; refine o_neu rfl rfl (n_sub rfl rfl (by omega)) ?_; refine o_neu rfl rfl (n_indexAddr rfl (.pure _ _ _ _) rfl (by omega) hvz2) ?_; refine o_neu rfl rfl (n_indexAddr rfl (.pure _ _ _ _) rfl (by omega) hvz2) ?_; refine o_neu rfl rfl (n_indexAddr rfl (.pure _ _ _ _) rfl (by omega) hvz2) ?_; refine o_neu rfl rfl (n_indexAddr rfl (.pure _ _ _ _) rfl (by omega) hvz2) ?_; refine o_neu rfl rfl (n_loads_eref rfl rfl) ?_; refine o_neu rfl rfl (n_loads_eref rfl rfl) ?_; refine o_neu rfl rfl (n_loads_eref rfl rfl) ?_; refine o_neu rfl rfl (n_loads_eref rfl rfl) ?_; refine o_alloc rfl rfl rfl rfl rfl ?_; refine o_alloc rfl rfl rfl rfl rfl ?_; exact o_nil
  refine k1 ?_; refine k2 ?_
  refine c_region ?_; refine l_neu (n_move rfl rfl) rfl ?_; refine l_neu (n_field_ref rfl) rfl ?_; refine l_neu (n_load_ref rfl rfl rfl) rfl ?_; refine l_neu (n_min rfl rfl) rfl ?_; refine l_neu (n_assign rfl rfl) rfl ?_; refine l_nil ?_
  rw [show (if a.Old < ctx then a.Old else ctx) = minI ctx a.Old from rfl]
  refine k1 ?_; refine k2 ?_
  refine c_region ?_; refine l_neu (n_move rfl rfl) rfl ?_; refine l_neu (n_move rfl rfl) rfl ?_; refine l_neu (n_field_ref rfl) rfl ?_; refine l_neu (n_load_ref rfl rfl rfl) rfl ?_; refine l_neu (n_sub rfl rfl (by omega)) rfl ?_; refine l_neu (n_field_ref rfl) rfl ?_; refine l_neu (n_load_ref rfl rfl rfl) rfl ?_; refine l_neu (n_sub rfl rfl (by omega)) rfl ?_; refine l_neu (n_min rfl rfl) rfl ?_; refine l_neu (n_assign rfl rfl) rfl ?_; refine l_nil ?_
  rw [show (if m - y.Old - y.OldLen < ctx then m - y.Old - y.OldLen else ctx) = minI ctx (m - y.Old - y.OldLen) from rfl]
  refine k1 ?_; refine k2 ?_
  refine c_region ?_; refine l_neu (n_move rfl rfl) rfl ?_; refine l_neu (n_move rfl rfl) rfl ?_; refine l_neu (n_field_ref rfl) rfl ?_; refine l_neu (n_load_ref rfl rfl rfl) rfl ?_; refine l_neu (n_move rfl rfl) rfl ?_; refine l_neu (n_sub rfl rfl (by omega)) rfl ?_; refine l_neu (n_field_ref rfl) rfl ?_; refine l_neu (n_load_ref rfl rfl rfl) rfl ?_; refine l_neu (n_field_ref rfl) rfl ?_; refine l_neu (n_load_ref rfl rfl rfl) rfl ?_; refine l_neu (n_add rfl rfl (by omega)) rfl ?_; refine l_neu (n_move rfl rfl) rfl ?_; refine l_neu (n_add rfl rfl (by omega)) rfl ?_; refine l_neu (n_build rfl) rfl ?_; refine l_neu (n_field_ref rfl) rfl ?_; refine l_neu (n_load_ref rfl rfl rfl) rfl ?_; refine l_neu (n_move rfl rfl) rfl ?_; refine l_neu (n_sub rfl rfl (by omega)) rfl ?_; refine l_neu (n_field_ref rfl) rfl ?_; refine l_neu (n_load_ref rfl rfl rfl) rfl ?_; refine l_neu (n_field_ref rfl) rfl ?_; refine l_neu (n_load_ref rfl rfl rfl) rfl ?_; refine l_neu (n_add rfl rfl (by omega)) rfl ?_; refine l_neu (n_move rfl rfl) rfl ?_; refine l_neu (n_add rfl rfl (by omega)) rfl ?_; refine l_neu (n_build rfl) rfl ?_; refine l_neu (n_build rfl) rfl ?_; refine l_eff (e_store_ref TySz.out rfl rfl rfl rfl rfl rfl) ?_; refine l_nil ?_
  refine k1 ?_; refine k10 ?_
  exact ret_ret (retc rfl rfl rfl rfl rfl) rfl
theorem hGroup_ok (l : List Change) (m n ctx : Int) (hl : l.length ≤ 1073741824) : FnOk Tryd.prog 24 [pChanges l, pInt m, pInt n, pInt ctx] (fun rs => rs = [pHunks (groupOf l m n ctx).1, pInt (groupOf l m n ctx).2]) := by
  have hg0 : groupOf l m n ctx = if ctx < 0 ∨ 1048576 < ctx then ([], 3) else if check8 l m n ≠ 0 then ([], check8 l m n) else (groupTo l m ctx l.length, 0) := rfl
  refine FnOk.intro Tryd.func24 (by decide) rfl rfl rfl rfl ?_
  refine k2 ?_
  refine c_region ?_; refine l_neu (n_assign rfl rfl) rfl ?_; refine l_neu (n_assign rfl rfl) rfl ?_; refine l_nil ?_
  refine k1 ?_; refine k2 ?_; refine k2 ?_
  refine c_region ?_; refine l_neu (n_move rfl rfl) rfl ?_; refine l_neu (n_lss rfl rfl) rfl ?_; refine l_neu (n_move rfl rfl) rfl ?_; refine l_guard rfl rfl rfl rfl (fun hg => by rw [hg]; exact n_move rfl rfl) ?_; refine l_guard rfl rfl rfl rfl (fun hg => by rw [hg]; exact n_gtr rfl rfl) ?_; refine l_neu (n_pick_bool rfl (fun h => by first | rfl | (rw [h]; rfl)) (fun h => by first | rfl | (rw [h]; rfl))) rfl ?_; refine l_nil ?_
  refine k1 ?_
  refine c_cond rfl (fun ht => ?_) (fun ht => ?_)
  · simp only [or_pick] at ht
    have h := of_decide_eq_true ht
    rw [if_pos h] at hg0
    refine k2 ?_
    refine c_region ?_; refine l_neu (n_assign_nil _ 6 hunkC) rfl ?_; refine l_neu (n_assign rfl rfl) rfl ?_; refine l_nil ?_
    refine k1 ?_; refine k10 ?_; refine k11 ?_
    exact ret_ret (ret2 rfl rfl rfl rfl rfl) (by rw [hg0])
  simp only [or_pick] at ht
  have hc := of_decide_eq_false ht
  rw [if_neg hc] at hg0
  refine k5 ?_; refine k1 ?_; refine k2 ?_; refine k2 ?_
  refine c_region ?_; refine l_neu (n_move rfl rfl) rfl ?_; refine l_neu (n_move rfl rfl) rfl ?_; refine l_neu (n_move rfl rfl) rfl ?_; refine l_call (scheck_ok l m n hl) rfl rfl rfl ?_; rintro _ rfl; refine l_neu (n_assign rfl rfl) rfl ?_; refine l_nil ?_
  refine k1 ?_; refine k2 ?_
  refine c_region ?_; refine l_neu (n_move rfl rfl) rfl ?_; refine l_neu (n_neq rfl rfl) rfl ?_; refine l_nil ?_
  refine k1 ?_
  refine c_cond rfl (fun ht => ?_) (fun ht => ?_)
  · have h := of_decide_eq_true ht
    rw [if_pos h] at hg0
    refine k2 ?_
    refine c_region ?_; refine l_neu (n_move rfl rfl) rfl ?_; refine l_neu (n_assign_nil _ 6 hunkC) rfl ?_; refine l_neu (n_assign rfl rfl) rfl ?_; refine l_nil ?_
    refine k1 ?_; refine k10 ?_; refine k11 ?_
    exact ret_ret (ret2 rfl rfl rfl rfl rfl) (by rw [hg0])
  have h := of_decide_eq_false ht
  rw [if_neg h] at hg0
  obtain ⟨hm, hn, hs⟩ := check8_ok (Decidable.not_not.1 h)
  have hb : ∀ k, k < l.length → in81 (cAt l k).Old ∧ in81 (cAt l k).OldLen ∧ in81 (cAt l k).New ∧ in81 (cAt l k).NewLen := fun k hk => by
    obtain ⟨b1, b2, b3, b4, _⟩ := hs.get k hk
    exact ⟨b1, b2, b3, b4⟩
  refine c_cut [(0, sList Change 4 changeC l), (1, sInt m), (2, sInt n), (3, sInt ctx)] [] (Sees.of ⟨le1 rfl, le1 rfl, le1 rfl, le1 rfl, trivial⟩ trivial) ?_
  refine k5 ?_; refine k1 ?_; refine k2 ?_
  refine c_region ?_; refine l_effv (f_adopt 11 _ hunkC rfl) rfl ?_; refine l_nil ?_
  refine k1 ?_; refine k2 ?_
  refine c_region ?_; refine l_neu (n_assign rfl rfl) rfl ?_; refine l_nil ?_
  refine k1 ?_; refine k2 ?_; refine k2 ?_
  refine c_region ?_; refine l_neu (n_move rfl rfl) rfl ?_; refine l_neu (n_len rfl (.pure _ _ _ _)) rfl ?_; refine l_neu (n_move rfl rfl) rfl ?_; refine l_nil ?_
  refine k1 ?_; refine k3 ?_
  refine c_while (X := Nat × Nat × List Hunk) (fun x => ([(0, sList Change 4 changeC l), (1, sInt m), (3, sInt ctx), (11, .s (.one (.buf 11 Hunk 6 hunkC x.2.2))), (12, sInt x.2.1), (28, sList Change 4 changeC l), (29, sInt l.length), (30, sInt x.1)], [(11, .spare x.2.2.length 6 66)])) (fun x => x.1 ≤ l.length ∧ x.2.1 ≤ x.1 ∧ GrX l m ctx 0 x.2.2 x.2.1 ∧ (∀ c, x.2.1 < c → c ≤ x.1 → c < l.length → ¬ opens l ctx c) ∧ (x.2.1 < l.length → opens l ctx x.2.1) ∧ (x.1 = l.length → x.2.1 = l.length)) (fun x => l.length - x.1) (0, 0, []) ⟨Nat.zero_le _, Nat.le_refl _, rfl, fun c h1 h2 => by omega, fun _ => .inl rfl, fun h => h⟩ (Sees.of ⟨le1 rfl, le1 rfl, le1 rfl, le1 rfl, le1 rfl, le1 rfl, le1 rfl, le1 rfl, trivial⟩ ⟨rfl, trivial⟩) ?_
  rintro ⟨i, f, out⟩ ⟨hi, hfi, hx, hno, hof, hend⟩
  dsimp only at hi hfi hx hno hof hend ⊢
  have hxl := hx.len
  refine k2 ?_
  refine c_region ?_; refine l_neu (n_lss rfl rfl) rfl ?_; refine l_nil ?_
  refine k1 ?_; refine k2 ?_
  refine c_cond rfl (fun ht => ?_) (fun ht => ?_)
  · have hlt : i < l.length := by have := of_decide_eq_true ht; omega
    have hv : l[((i : Nat) : Int).toNat]? = some (cAt l i) := by rw [Int.toNat_natCast]; exact cAt_get hlt
    obtain ⟨⟨b1, b2⟩, ⟨b3, b4⟩, _⟩ := hb i hlt
    obtain ⟨c, hcc⟩ : ∃ c, c = cAt l i := ⟨_, rfl⟩
    have hopi : i + 1 < l.length → (opens l ctx (i + 1) ↔ 2 * ctx < (cAt l (i + 1)).Old - c.Old - c.OldLen) := fun h1 => by
      unfold opens
      rw [show i + 1 - 1 = i by omega, ← hcc]
      exact ⟨fun h => h.resolve_left (by omega), fun h => .inr h⟩
    rw [← hcc] at hv b1 b2 b3 b4
    have hnx : ∀ q : Int, q = (i : Int) + 1 → ¬ q = (l.length : Int) → l[q.toNat]? = some (cAt l (i + 1)) := by
      intro q hq hne
      rw [hq, show ((i : Int) + 1).toNat = i + 1 by omega]; exact cAt_get (by omega)
    have hbx : ¬ ((i : Int) + 1 = (l.length : Int)) → 0 ≤ (cAt l (i + 1)).Old ∧ (cAt l (i + 1)).Old ≤ 4096 := by
      intro hne; exact (hb (i + 1) (by omega)).1
    refine k5 ?_; refine k1 ?_; refine k2 ?_; refine k3 ?_; refine k2 ?_
    refine c_region ?_; refine l_neu (n_move rfl rfl) rfl ?_; refine l_neu (n_indexAddr rfl (.pure _ _ _ _) rfl (by omega) hv) rfl ?_; refine l_neu (n_loads_eref rfl rfl) rfl ?_; refine l_effv (f_alloc 14 rfl) rfl ?_; refine l_neu (n_assign rfl rfl) rfl ?_; refine l_eff (e_store_ref TySz.out rfl rfl rfl rfl rfl rfl) ?_; refine l_nil ?_
    refine k1 ?_; refine k2 ?_
    refine c_region_draw (by kernel_rfl) (by kernel_rfl) ?_; refine d_neu (n_move rfl rfl) rfl rfl ?_; refine d_neu (n_add rfl rfl (by omega)) rfl rfl ?_; refine d_neu (n_move rfl rfl) rfl rfl ?_; refine d_neu (n_len rfl (.pure _ _ _ _)) rfl rfl ?_; refine d_neu (n_eql rfl rfl) rfl rfl ?_; refine d_neu (n_move rfl rfl) rfl rfl ?_; refine d_guard rfl rfl (fun hg => by rw [hg]; exact n_move rfl rfl) rfl rfl ?_; refine d_guard rfl rfl (fun hg => by rw [hg]; exact n_move rfl rfl) rfl rfl ?_; refine d_guard rfl rfl (fun hg => by have hq := hg; (try simp at hq); skip; rw [hg]; exact n_add rfl rfl (by omega)) rfl rfl ?_; refine d_guard rfl rfl (fun hg => by have hq := hg; (try simp at hq); rw [hg]; exact n_indexAddr rfl (.pure _ _ _ _) rfl (by omega) (hnx _ rfl (by simpa using hq))) rfl rfl ?_; refine d_guard rfl rfl (fun hg => by rw [hg]; exact n_field_eref rfl) rfl rfl ?_; refine d_guard rfl rfl (fun hg => by rw [hg]; exact n_load_eref rfl rfl) rfl rfl ?_; refine d_guard rfl rfl (fun hg => by rw [hg]; exact n_field_ref rfl) rfl rfl ?_; refine d_guard rfl rfl (fun hg => by rw [hg]; exact n_load_ref rfl rfl rfl) rfl rfl ?_; refine d_guard rfl rfl (fun hg => by have hq := hg; (try simp at hq); rw [hg]; exact n_sub rfl rfl (by (have := hbx (by simpa using hq); omega))) rfl rfl ?_; refine d_guard rfl rfl (fun hg => by rw [hg]; exact n_field_ref rfl) rfl rfl ?_; refine d_guard rfl rfl (fun hg => by rw [hg]; exact n_load_ref rfl rfl rfl) rfl rfl ?_; refine d_guard rfl rfl (fun hg => by have hq := hg; (try simp at hq); rw [hg]; exact n_sub rfl rfl (by (have := hbx (by simpa using hq); omega))) rfl rfl ?_; refine d_guard rfl rfl (fun hg => by rw [hg]; exact n_move rfl rfl) rfl rfl ?_; refine d_guard rfl rfl (fun hg => by have hq := hg; (try simp at hq); rw [hg]; exact n_mul rfl rfl (by omega)) rfl rfl ?_; refine d_guard rfl rfl (fun hg => by rw [hg]; exact n_gtr rfl rfl) rfl rfl ?_; refine d_neu (n_pick_bool rfl (fun h => by first | rfl | (rw [h]; rfl)) (fun h => by first | rfl | (rw [h]; rfl))) rfl rfl ?_; refine d_nil ?_
    refine k1 ?_
    refine c_cond rfl (fun ht => ?_) (fun ht => ?_)
    · simp only [or_pick] at ht
      have hcl := of_decide_eq_true ht
      have hnext : i + 1 < l.length → opens l ctx (i + 1) := fun h1 => by
        rw [hopi h1]
        exact hcl.resolve_left (by omega)
      refine c_cut [(0, sList Change 4 changeC l), (1, sInt m), (3, sInt ctx), (11, .s (.one (.buf 11 Hunk 6 hunkC out))), (12, sInt f), (13, sInt i), (28, sList Change 4 changeC l), (29, sInt l.length), (30, sInt i)] [(11, .spare out.length 6 66)] (Sees.of ⟨le1 rfl, le1 rfl, le1 rfl, le1 rfl, le1 rfl, le1 rfl, le1 rfl, le1 rfl, le1 rfl, trivial⟩ ⟨rfl, trivial⟩) ?_
      refine k2 ?_
      refine c_region ?_; refine l_neu (n_move rfl rfl) rfl ?_; refine l_neu (n_move rfl rfl) rfl ?_; refine l_neu (n_move rfl rfl) rfl ?_; refine l_neu (n_move rfl rfl) rfl ?_; refine l_neu (n_add rfl rfl (by omega)) rfl ?_; refine l_neu (n_move rfl rfl) rfl ?_; refine l_neu (n_move rfl rfl) rfl ?_; refine l_call (hclosed_ok l f (i + 1) m ctx hl (by omega) (by omega) (by omega) hm hb) rfl rfl rfl ?_; rintro _ rfl; refine l_neu (n_buildSlice (c := hunkC) (ys := [mkH l m ctx f (i + 1)]) (asm_cons rfl rfl rfl rfl asm_nil) rfl rfl rfl) rfl ?_; refine l_effv (e_append rfl rfl rfl (.pure _ _ _ _) (by (simp only [List.length_cons, List.length_nil]; omega)) rfl) rfl ?_; refine l_neu (n_assign rfl rfl) rfl ?_; refine l_nil ?_
      refine k1 ?_
      refine c_region ?_; refine l_neu (n_move rfl rfl) rfl ?_; refine l_neu (n_add rfl rfl (by omega)) rfl ?_; refine l_neu (n_assign rfl rfl) rfl ?_; refine l_nil ?_
      refine k4 ?_; refine k1 ?_
      refine c_region ?_; refine l_neu (n_add rfl rfl (by omega)) rfl ?_; refine l_neu (n_move rfl rfl) rfl ?_; refine l_nil ?_
      refine k1 ?_
      refine ⟨(i + 1, i + 1, out ++ [mkH l m ctx f (i + 1)]), ⟨by dsimp only; omega, Nat.le_refl _, ?_, fun c h1 h2 => by dsimp only at h1 h2; omega, fun h1 => hnext h1, fun h1 => h1⟩, by dsimp only; omega, Sees.of ⟨le1 rfl, le1 rfl, le1 rfl, le1 rfl, le1 rfl, le1 rfl, le1 rfl, le1 rfl, trivial⟩ ⟨rfl, trivial⟩⟩
      exact hx.snoc (hof (by omega)) (by omega) (fun c h1 h2 => hno c h1 (by omega) (by omega))
    · simp only [or_pick] at ht
      have hcl := of_decide_eq_false ht
      have hne : ¬ (i : Int) + 1 = l.length := fun q => hcl (.inl q)
      have hnext : ¬ opens l ctx (i + 1) := fun q => by
        rw [hopi (by omega)] at q
        exact hcl (.inr q)
      refine k5 ?_; refine k4 ?_; refine k1 ?_
      refine c_region ?_; refine l_neu (n_add rfl rfl (by omega)) rfl ?_; refine l_neu (n_move rfl rfl) rfl ?_; refine l_nil ?_
      refine k1 ?_
      refine ⟨(i + 1, f, out), ⟨by dsimp only; omega, by dsimp only; omega, hx, fun c h1 h2 h3 => ?_, hof, fun h1 => by dsimp only at h1; omega⟩, by dsimp only; omega, Sees.of ⟨le1 rfl, le1 rfl, le1 rfl, le1 rfl, le1 rfl, le1 rfl, le1 rfl, le1 rfl, trivial⟩ ⟨rfl, trivial⟩⟩
      dsimp only at h1 h2
      by_cases hce : c = i + 1
      · rw [hce]; exact hnext
      · exact hno c h1 (by omega) h3
  · have hi' : i = l.length := by have := of_decide_eq_false ht; omega
    have hf' := hend hi'
    rw [hf'] at hx
    refine k6 ?_; refine k2 ?_
    refine c_region ?_; refine l_neu (n_move rfl rfl) rfl ?_; refine l_neu (n_assign rfl rfl) rfl ?_; refine l_neu (n_assign rfl rfl) rfl ?_; refine l_nil ?_
    refine k1 ?_; refine k10 ?_
    exact ret_ret (ret2 rfl rfl rfl rfl rfl) (by rw [hg0, GrX.unique hx (groupTo_grx l m ctx l.length)])
end Go.Proofs.YtjjidificdmnmaaDoor
namespace Go.Proofs.YtjjidificdmnmaaDoor
open Go Go.AL
set_option maxRecDepth 100000
theorem ulines_met {gf : Fr} {ob : Obs} (l : List PatchLine) (k : UInt8) (ts : List Str) (hk : getO ob 701 = some (.spare l.length 2 73)) (hlen : l.length + ts.length ≤ 1073741824) :
    AL.Met Tryd.prog 44 [.one (.buf 701 PatchLine 2 plineC l), .one (.p (.v (.int .u8 k.toNat))), .one (.p (.list Str 1 strC ts))] gf ob [701]
      (fun rs ob' => rs = [.one (.buf 701 PatchLine 2 plineC (l ++ putOf k ts))] ∧ ob' = (701, .spare (l ++ putOf k ts).length 2 73) :: Obs.forget 701 ob) := by
  refine AL.Met.introH Tryd.func44 (by decide) rfl rfl rfl (fun hH => ?_)
  refine k2 ?_
  refine c_region ?_; refine l_neu (n_assign rfl rfl) rfl ?_; refine l_nil ?_
  refine k1 ?_; refine k2 ?_; refine k2 ?_
  refine c_region ?_; refine l_neu (n_move rfl rfl) rfl ?_; refine l_neu (n_len rfl (.pure _ _ _ _)) rfl ?_; refine l_neu (n_move rfl rfl) rfl ?_; refine l_nil ?_
  refine k1 ?_; refine k3 ?_
  refine c_while (X := Nat) (fun i => ([(0, .s (.one (.buf 701 PatchLine 2 plineC (l ++ putOf k (ts.take i))))), (1, .s (pByte k).s1), (9, sList Str 1 strC ts), (10, sInt ts.length), (11, sInt i)] ++ Fr.forget 701 gf, (701, .spare (l ++ putOf k (ts.take i)).length 2 73) :: Obs.forget 701 ob)) (fun i => i ≤ ts.length) (fun i => ts.length - i) 0 (Nat.zero_le _) ?_ ?_
  · have e : l ++ putOf k (ts.take 0) = l := by simp [putOf]
    rw [e]
    exact Sees.tailF 701 ⟨le1 rfl, le1 rfl, le1 rfl, le1 rfl, le1 rfl, trivial⟩ hH (by repeat (first | exact tail_refl | refine tail_cons rfl ?_)) hk
  intro i hi
  dsimp only at hi ⊢
  have hpl := putOf_len k (ts.take i)
  rw [List.length_take] at hpl
  refine k2 ?_
  refine c_region ?_; refine l_neu (n_lss rfl rfl) rfl ?_; refine l_nil ?_
  refine k1 ?_; refine k2 ?_
  refine c_cond rfl (fun ht => ?_) (fun ht => ?_)
  · have hlt : i < ts.length := by have := of_decide_eq_true ht; omega
    have hv : ts[i]? = some ts[i] := by simp [hlt]
    have hsucc := putOf_succ k ts i hlt
    refine k5 ?_; refine k1 ?_; refine k2 ?_; refine k3 ?_; refine k2 ?_
    refine c_region ?_; refine l_neu (n_indexAddr rfl (.pure _ _ _ _) rfl (by omega) hv) rfl ?_; refine l_neu (n_load_eref rfl rfl) rfl ?_; refine l_neu (n_assign rfl rfl) rfl ?_; refine l_nil ?_
    refine k1 ?_
    refine c_region ?_; refine l_neu (n_move rfl rfl) rfl ?_; refine l_neu (n_move rfl rfl) rfl ?_; refine l_neu (n_move rfl rfl) rfl ?_; refine l_neu (n_build rfl) rfl ?_; refine l_neu (n_buildSlice (c := plineC) (ys := [⟨k, ts[i]⟩]) (asm_cons rfl rfl rfl rfl asm_nil) rfl rfl rfl) rfl ?_; refine l_effv (e_append rfl rfl rfl (.pure _ _ _ _) (by (simp only [List.length_append, List.length_cons, List.length_nil]; omega)) rfl) rfl ?_; refine l_neu (n_assign rfl rfl) rfl ?_; refine l_nil ?_
    refine k4 ?_; refine k1 ?_
    refine c_region ?_; refine l_neu (n_add rfl rfl (by omega)) rfl ?_; refine l_neu (n_move rfl rfl) rfl ?_; refine l_nil ?_
    refine k1 ?_
    refine ⟨i + 1, hlt, by omega, ?_⟩
    rw [hsucc, ← List.append_assoc]
    exact Sees.tailed ⟨le1 rfl, le1 rfl, le1 rfl, le1 rfl, le1 rfl, trivial⟩ (high_forget hH) (by repeat (first | exact tail_refl | refine tail_cons rfl ?_ | refine tail_forget' _ ?_)) obs_step
  · have hi' : i = ts.length := by have := of_decide_eq_false ht; omega
    subst hi'
    rw [List.take_length]
    refine k6 ?_; refine k2 ?_
    refine c_region ?_; refine l_neu (n_move rfl rfl) rfl ?_; refine l_neu (n_assign rfl rfl) rfl ?_; refine l_nil ?_
    refine k1 ?_; refine k10 ?_
    exact met_ret (rets1 rfl rfl) (by repeat (first | exact tail_refl | refine tail_cons rfl ?_ | refine tail_forget _ ?_)) (fun _ _ h => h) ⟨rfl, rfl⟩
theorem ubuild_ok (l : List Change) (x y : List Str) (q : Hunk) (hsc : ScOk 0 0 l x.length y.length) (hq : HunkOk l x.length l.length q) (hxl : x.length ≤ 4096) (hyl : y.length ≤ 4096) (hll : l.length ≤ 4097) :
    FnOk Tryd.prog 25 [pHunk q, pChanges l, pStrs x, pStrs y] (fun rs => rs = [pPhunk (hunkOfG l x y q)]) := by
  obtain ⟨a, b, q1, q2, q3, q4, q5, q6, q7, q8, q9, q10⟩ := hq
  have hgb := hsc.get b q4
  obtain ⟨ds, hds⟩ : ∃ ds, ds = (l.drop a).take (b + 1 - a) := ⟨_, rfl⟩
  have hdl : ds.length = b + 1 - a := by rw [hds, List.length_take, List.length_drop]; omega
  have hdv : ∀ t, a + t ≤ b → ds[t]? = some (cAt l (a + t)) := by
    intro t ht
    rw [hds, List.getElem?_take_of_lt (by omega), List.getElem?_drop]
    exact cAt_get (by omega)
  have hslice : (l.drop q.First.toNat).take (q.Last.toNat - q.First.toNat) = ds := by
    rw [hds, q1, q2, show ((b : Int) + 1).toNat = b + 1 by omega, show ((a : Nat) : Int).toNat = a by omega]
  refine FnOk.intro Tryd.func25 (by decide) rfl rfl rfl rfl ?_
  refine k2 ?_
  refine c_region ?_; refine l_effv (f_box 4 rfl rfl rfl) rfl ?_; refine l_effv (f_alloc 8 rfl) rfl ?_; refine l_nil ?_
  refine k1 ?_; refine k2 ?_
  refine c_region ?_; refine l_neu (n_field_ref rfl) rfl ?_; refine l_neu (n_field_ref rfl) rfl ?_; refine l_neu (n_load_ref rfl rfl rfl) rfl ?_; refine l_neu (n_field_ref rfl) rfl ?_; refine l_neu (n_field_ref rfl) rfl ?_; refine l_neu (n_load_ref rfl rfl rfl) rfl ?_; refine l_neu (n_build rfl) rfl ?_; refine l_effv (f_alloc 9 rfl) rfl ?_; refine l_eff (e_store_ref TySz.out rfl rfl rfl rfl rfl rfl) ?_; refine l_nil ?_
  refine k1 ?_; refine k2 ?_
  refine c_sees (Sees.adoptB 701 PatchLine 2 plineC 73 (kb := 9) (o := 2) rfl rfl rfl) ?_
  refine c_region ?_; refine l_neu (n_field_ref rfl) rfl ?_; refine l_neu (n_field_ref rfl) rfl ?_; refine l_neu (n_load_ref rfl rfl rfl) rfl ?_; refine l_neu (n_assign rfl rfl) rfl ?_; refine l_nil ?_
  refine k1 ?_; refine k2 ?_; refine k2 ?_
  refine c_region ?_; refine l_neu (n_move rfl rfl) rfl ?_; refine l_neu (n_field_ref rfl) rfl ?_; refine l_neu (n_load_ref rfl rfl rfl) rfl ?_; refine l_neu (n_field_ref rfl) rfl ?_; refine l_neu (n_load_ref rfl rfl rfl) rfl ?_; refine l_neu (n_slice_lh rfl (.pure _ _ _ _) rfl rfl (by (first | (rw [q1]; omega) | (rw [q1, q2]; omega) | (rw [q2]; omega))) (by (first | (rw [q1]; omega) | (rw [q1, q2]; omega) | (rw [q2]; omega))) (by (first | (rw [q1]; omega) | (rw [q1, q2]; omega) | (rw [q2]; omega)))) rfl ?_; refine l_neu (n_len rfl (.pure _ _ _ _)) rfl ?_; refine l_neu (n_move rfl rfl) rfl ?_; refine l_nil ?_
  rw [hslice]
  refine k1 ?_; refine k3 ?_
  refine c_while (X := Nat) (fun t => ([(2, sList Str 1 strC x), (3, sList Str 1 strC y), (4, .s (.one (.ref 4 0))), (8, .s (.one (.ref 8 0))), (9, .s (.one (.ref 9 0))), (10, sInt (posTo l q.Old.From a t)), (28, sList Change 4 changeC ds), (29, sInt ds.length), (30, sInt t)], [(4, .box (pHunk q).s1.cells), (8, .box [.p (.v (.int .i64 0)), .p (.v (.int .i64 0)), .p (.v (.slice none 0 0))]), (9, .box [.p (.v (.int .i64 q.Old.From)), .p (.v (.int .i64 q.New.From)), .buf 701 PatchLine 2 plineC (madeTo l x y q.Old.From a t)]), (701, .spare (madeTo l x y q.Old.From a t).length 2 73)])) (fun t => a + t ≤ b + 1) (fun t => b + 1 - t) 0 (by omega) ?_ ?_
  · have e1 : posTo l q.Old.From a 0 = q.Old.From := if_pos rfl
    rw [e1]
    exact Sees.of ⟨le1 rfl, le1 rfl, le1 rfl, le1 rfl, le1 rfl, le1 rfl, le1 rfl, le1 rfl, le1 rfl, trivial⟩ ⟨rfl, rfl, rfl, rfl, trivial⟩
  intro t hat
  dsimp only at hat ⊢
  have hml := madeTo_len l x y q.Old.From a t
  have hml2 : (madeTo l x y q.Old.From a t).length ≤ 4097 * 12288 := Nat.le_trans hml (Nat.mul_le_mul (by omega) (by omega))
  refine k2 ?_
  refine c_region ?_; refine l_neu (n_lss rfl rfl) rfl ?_; refine l_nil ?_
  refine k1 ?_; refine k2 ?_
  refine c_cond rfl (fun ht => ?_) (fun ht => ?_)
  · have hlt2 : a + t ≤ b := by have : ((t : Nat) : Int) < ds.length := of_decide_eq_true ht; omega
    obtain ⟨c, hc⟩ : ∃ c, c = cAt l (a + t) := ⟨_, rfl⟩
    have hcv := hdv t hlt2
    rw [← hc] at hcv
    have hgc := hsc.get (a + t) (by omega)
    rw [← hc] at hgc
    obtain ⟨⟨g1, g2⟩, ⟨g3, g4⟩, ⟨g5, g6⟩, ⟨g7, g8⟩, g9, g10⟩ := hgc
    obtain ⟨i0, hi0⟩ : ∃ i0, i0 = posTo l q.Old.From a t := ⟨_, rfl⟩
    have hpos : 0 ≤ i0 ∧ i0 ≤ c.Old := by
      rw [hi0, hc]; unfold posTo endC
      split
      · rename_i h0; subst h0; exact ⟨q5, q6⟩
      · have h4 := hsc.next (a + t - 1) (by omega)
        have h5 := hsc.get (a + t - 1) (by omega)
        rw [show a + t - 1 + 1 = a + t by omega] at h4
        unfold in81 at h5; omega
    obtain ⟨ls, hls⟩ : ∃ ls, ls = madeTo l x y q.Old.From a t := ⟨_, rfl⟩
    obtain ⟨p1, hp1⟩ : ∃ p1, p1 = putOf 32 (sub x i0 c.Old) := ⟨_, rfl⟩
    obtain ⟨p2, hp2⟩ : ∃ p2, p2 = putOf 45 (sub x c.Old (endC c)) := ⟨_, rfl⟩
    obtain ⟨p3, hp3⟩ : ∃ p3, p3 = putOf 43 (sub y c.New (c.New + c.NewLen)) := ⟨_, rfl⟩
    have hsucc : madeTo l x y q.Old.From a (t + 1) = ls ++ p1 ++ p2 ++ p3 := by rw [hls, hp1, hp2, hp3, hi0, hc]; rfl
    have hps : posTo l q.Old.From a (t + 1) = endC c := by rw [posTo_succ, hc]
    have l1 := sub_len x i0 c.Old
    have l2 := sub_len x c.Old (endC c)
    have l3 := sub_len y c.New (c.New + c.NewLen)
    have m1 : p1.length = (sub x i0 c.Old).length := by rw [hp1, putOf_len]
    have m2 : p2.length = (sub x c.Old (endC c)).length := by rw [hp2, putOf_len]
    have hend : endC c = c.Old + c.OldLen := rfl
    rw [← hls] at hml2 ⊢
    rw [← hi0]
    refine k5 ?_; refine k1 ?_; refine k2 ?_; refine k3 ?_; refine k2 ?_
    refine c_region ?_; refine l_neu (n_indexAddr rfl (.pure _ _ _ _) rfl (by omega) hcv) rfl ?_; refine l_neu (n_loads_eref rfl rfl) rfl ?_; refine l_effv (f_alloc 12 rfl) rfl ?_; refine l_eff (e_store_ref TySz.out rfl rfl rfl rfl rfl rfl) ?_; refine l_nil ?_
    refine k1 ?_; refine k2 ?_
    refine c_region_turn 7 (by kernel_rfl) (by kernel_rfl) rfl ?_; refine d_neu (n_field_ref rfl) rfl rfl ?_; refine d_neu (n_load_ref rfl rfl rfl) rfl rfl ?_; refine d_neu (n_move rfl rfl) rfl rfl ?_; refine d_neu (n_move rfl rfl) rfl rfl ?_; refine d_neu (n_field_ref rfl) rfl rfl ?_; refine d_neu (n_load_ref rfl rfl rfl) rfl rfl ?_; refine d_neu (n_slice_lh rfl (.pure _ _ _ _) rfl rfl (by omega) (by omega) (by omega)) rfl rfl ?_; refine d_nil ?_; refine met_step (ulines_met ls 32 (sub x i0 c.Old) rfl (by omega)) rfl rfl rfl ?_; rintro _ _ ⟨rfl, rfl⟩; refine ⟨_, rfl, ?_⟩; refine d_neu (n_field_ref rfl) rfl rfl ?_; refine d_eff (e_store_ref TySz.out rfl rfl rfl rfl rfl rfl) rfl ?_; refine d_nil ?_
    rw [← hp1]
    refine k1 ?_; refine k2 ?_
    refine c_region ?_; refine l_neu (n_field_ref rfl) rfl ?_; refine l_neu (n_load_ref rfl rfl rfl) rfl ?_; refine l_neu (n_field_ref rfl) rfl ?_; refine l_neu (n_load_ref rfl rfl rfl) rfl ?_; refine l_neu (n_add rfl rfl (by omega)) rfl ?_; refine l_neu (n_assign rfl rfl) rfl ?_; refine l_nil ?_
    rw [show c.Old + c.OldLen = endC c from rfl]
    refine k1 ?_; refine k2 ?_
    refine c_region_turn 7 (by kernel_rfl) (by kernel_rfl) rfl ?_; refine d_neu (n_field_ref rfl) rfl rfl ?_; refine d_neu (n_load_ref rfl rfl rfl) rfl rfl ?_; refine d_neu (n_move rfl rfl) rfl rfl ?_; refine d_neu (n_field_ref rfl) rfl rfl ?_; refine d_neu (n_load_ref rfl rfl rfl) rfl rfl ?_; refine d_neu (n_move rfl rfl) rfl rfl ?_; refine d_neu (n_slice_lh rfl (.pure _ _ _ _) rfl rfl (by omega) (by omega) (by omega)) rfl rfl ?_; refine d_nil ?_; refine met_step (ulines_met (ls ++ p1) 45 (sub x c.Old (endC c)) rfl (by simp only [List.length_append]; omega)) rfl rfl rfl ?_; rintro _ _ ⟨rfl, rfl⟩; refine ⟨_, rfl, ?_⟩; refine d_neu (n_field_ref rfl) rfl rfl ?_; refine d_eff (e_store_ref TySz.out rfl rfl rfl rfl rfl rfl) rfl ?_; refine d_nil ?_
    rw [← hp2]
    refine k1 ?_
    refine c_region_turn 11 (by kernel_rfl) (by kernel_rfl) rfl ?_; refine d_neu (n_field_ref rfl) rfl rfl ?_; refine d_neu (n_load_ref rfl rfl rfl) rfl rfl ?_; refine d_neu (n_move rfl rfl) rfl rfl ?_; refine d_neu (n_field_ref rfl) rfl rfl ?_; refine d_neu (n_load_ref rfl rfl rfl) rfl rfl ?_; refine d_neu (n_field_ref rfl) rfl rfl ?_; refine d_neu (n_load_ref rfl rfl rfl) rfl rfl ?_; refine d_neu (n_field_ref rfl) rfl rfl ?_; refine d_neu (n_load_ref rfl rfl rfl) rfl rfl ?_; refine d_neu (n_add rfl rfl (by omega)) rfl rfl ?_; refine d_neu (n_slice_lh rfl (.pure _ _ _ _) rfl rfl (by omega) (by omega) (by omega)) rfl rfl ?_; refine d_nil ?_; refine met_step (ulines_met (ls ++ p1 ++ p2) 43 (sub y c.New (c.New + c.NewLen)) rfl (by simp only [List.length_append]; omega)) rfl rfl rfl ?_; rintro _ _ ⟨rfl, rfl⟩; refine ⟨_, rfl, ?_⟩; refine d_neu (n_field_ref rfl) rfl rfl ?_; refine d_eff (e_store_ref TySz.out rfl rfl rfl rfl rfl rfl) rfl ?_; refine d_nil ?_
    rw [← hp3]
    refine k4 ?_; refine k1 ?_
    refine c_region ?_; refine l_neu (n_add rfl rfl (by omega)) rfl ?_; refine l_neu (n_move rfl rfl) rfl ?_; refine l_nil ?_
    refine k1 ?_
    refine ⟨t + 1, by omega, by omega, ?_⟩
    rw [hsucc, hps]
    exact Sees.of ⟨le1 rfl, le1 rfl, le1 rfl, le1 rfl, le1 rfl, le1 rfl, le1 rfl, le1 rfl, le1 rfl, trivial⟩ ⟨rfl, rfl, rfl, rfl, trivial⟩
  · have htb : a + t = b + 1 := by
      have h0 : ¬ ((t : Nat) : Int) < ds.length := of_decide_eq_false ht
      omega
    obtain ⟨i0, hi0⟩ : ∃ i0, i0 = posTo l q.Old.From a t := ⟨_, rfl⟩
    have hib : i0 = (cAt l b).Old + (cAt l b).OldLen := by
      rw [hi0]; unfold posTo endC
      rw [if_neg (by omega), show a + t - 1 = b by omega]
    unfold in81 at hgb
    obtain ⟨ls, hls⟩ : ∃ ls, ls = madeTo l x y q.Old.From a t := ⟨_, rfl⟩
    have hG : hunkOfG l x y q = ⟨q.Old.From, q.New.From, ls ++ putOf 32 (sub x i0 q.Old.To)⟩ := by
      rw [hunkOfG, q1, q2, show ((a : Nat) : Int).toNat = a by omega, show ((b : Int) + 1).toNat - a = t by omega, ← hls, ← hi0]
    have l1 := sub_len x i0 q.Old.To
    rw [← hls] at hml2 ⊢
    rw [← hi0]
    refine k6 ?_; refine k2 ?_
    refine c_region_turn 8 (by kernel_rfl) (by kernel_rfl) rfl ?_; refine d_neu (n_field_ref rfl) rfl rfl ?_; refine d_neu (n_load_ref rfl rfl rfl) rfl rfl ?_; refine d_neu (n_move rfl rfl) rfl rfl ?_; refine d_neu (n_move rfl rfl) rfl rfl ?_; refine d_neu (n_field_ref rfl) rfl rfl ?_; refine d_neu (n_field_ref rfl) rfl rfl ?_; refine d_neu (n_load_ref rfl rfl rfl) rfl rfl ?_; refine d_neu (n_slice_lh rfl (.pure _ _ _ _) rfl rfl (by omega) (by omega) (by omega)) rfl rfl ?_; refine d_nil ?_; refine met_step (ulines_met ls 32 (sub x i0 q.Old.To) rfl (by omega)) rfl rfl rfl ?_; rintro _ _ ⟨rfl, rfl⟩; refine ⟨_, rfl, ?_⟩; refine d_neu (n_field_ref rfl) rfl rfl ?_; refine d_eff (e_store_ref TySz.out rfl rfl rfl rfl rfl rfl) rfl ?_; refine d_nil ?_
    refine k1 ?_; refine k2 ?_
    refine c_region ?_; refine l_neu (n_loads_ref rfl rfl rfl) rfl ?_; refine l_eff (e_store_ref TySz.out rfl rfl rfl rfl rfl rfl) ?_; refine l_nil ?_
    refine k1 ?_; refine k10 ?_
    exact ret_ret (rs := [pPhunk (hunkOfG l x y q)]) (by rw [hG]; exact retc rfl rfl rfl rfl rfl) rfl
end Go.Proofs.YtjjidificdmnmaaDoor
namespace Go.Proofs.YtjjidificdmnmaaDoor
open Go Go.AL
set_option maxRecDepth 100000
theorem tid_old {gf : Fr} {ob : Obs} (names : List Str) (s : Str) (hs : s ∈ names) (h0 : getO ob 710 = some (.box [.mut 711, .buf 712 Str 1 strC names])) (h1 : getO ob 711 = some (.map Str strK (kvOf names 0))) :
    AL.Met Tryd.prog 60 [.one (.ref 710 0), .one (.p (.v (.string ⟨s.toArray⟩)))] gf ob [] (fun rs ob' => rs = [.one (.p (.v (.int .i64 (placeOf names s 0))))] ∧ ob' = ob) := by
  have hg := kv_get_in s names 0 hs
  refine AL.Met.intro Tryd.func60 (by decide) rfl rfl rfl ?_
  refine k2 ?_
  refine c_region ?_; refine l_neu (n_assign rfl rfl) rfl ?_; refine l_nil ?_
  refine k1 ?_; refine k2 ?_
  refine c_region ?_; refine l_neu (n_move rfl rfl) rfl ?_; refine l_neu (n_nilCheck_ref rfl) rfl ?_; refine l_neu (n_field_ref rfl) rfl ?_; refine l_neu (n_load_ref rfl h0 rfl) rfl ?_; refine l_neu (n_move rfl rfl) rfl ?_; refine l_neu (n_lookup (s) (r := some (.v (.int .i64 (placeOf names s 0)))) rfl h1 rfl strK_key strK_inj (hg)) rfl ?_; refine l_neu (n_move rfl rfl) rfl ?_; refine l_neu (n_extract rfl rfl) rfl ?_; refine l_neu (n_extract rfl rfl) rfl ?_; refine l_neu (n_assign rfl rfl) rfl ?_; refine l_neu (n_assign rfl rfl) rfl ?_; refine l_nil ?_
  refine k1 ?_; refine k2 ?_; refine k2 ?_
  refine c_region ?_; refine l_neu (n_move rfl rfl) rfl ?_; refine l_neu (n_not rfl) rfl ?_; refine l_nil ?_
  refine k1 ?_
  refine c_cond rfl (fun ht => ?_) (fun ht => ?_)
  · cases ht
  refine k5 ?_; refine k1 ?_; refine k2 ?_
  refine c_region ?_; refine l_neu (n_move rfl rfl) rfl ?_; refine l_neu (n_assign rfl rfl) rfl ?_; refine l_nil ?_
  refine k1 ?_; refine k10 ?_
  exact met_ret (rets1 rfl rfl) (by repeat (first | exact tail_refl | refine tail_cons rfl ?_ | refine tail_forget _ ?_)) (fun _ _ h => h) ⟨rfl, rfl⟩
theorem tid_new {gf : Fr} {ob : Obs} (names : List Str) (s : Str) (hs : s ∉ names) (hl : names.length ≤ 1073741823) (h0 : getO ob 710 = some (.box [.mut 711, .buf 712 Str 1 strC names])) (h1 : getO ob 711 = some (.map Str strK (kvOf names 0)))
    (h2 : getO ob 712 = some (.spare names.length 1 9)) :
    AL.Met Tryd.prog 60 [.one (.ref 710 0), .one (.p (.v (.string ⟨s.toArray⟩)))] gf ob [712] (fun rs ob' => rs = [.one (.p (.v (.int .i64 names.length)))] ∧ ob' = (710, .box [.mut 711, .buf 712 Str 1 strC (names ++ [s])]) :: (712, .spare (names ++ [s]).length 1 9) :: Obs.forget 712 ((711, .map Str strK (kvOf names 0 ++ [(s, .v (.int .i64 names.length))])) :: ob)) := by
  have hg := kv_get_out s names 0 hs
  refine AL.Met.intro Tryd.func60 (by decide) rfl rfl rfl ?_
  refine k2 ?_
  refine c_region ?_; refine l_neu (n_assign rfl rfl) rfl ?_; refine l_nil ?_
  refine k1 ?_; refine k2 ?_
  refine c_region ?_; refine l_neu (n_move rfl rfl) rfl ?_; refine l_neu (n_nilCheck_ref rfl) rfl ?_; refine l_neu (n_field_ref rfl) rfl ?_; refine l_neu (n_load_ref rfl h0 rfl) rfl ?_; refine l_neu (n_move rfl rfl) rfl ?_; refine l_neu (n_lookup (s) (r := none) rfl h1 rfl strK_key strK_inj (hg)) rfl ?_; refine l_neu (n_move rfl rfl) rfl ?_; refine l_neu (n_extract rfl rfl) rfl ?_; refine l_neu (n_extract rfl rfl) rfl ?_; refine l_neu (n_assign rfl rfl) rfl ?_; refine l_neu (n_assign rfl rfl) rfl ?_; refine l_nil ?_
  refine k1 ?_; refine k2 ?_; refine k2 ?_
  refine c_region ?_; refine l_neu (n_move rfl rfl) rfl ?_; refine l_neu (n_not rfl) rfl ?_; refine l_nil ?_
  refine k1 ?_
  refine c_cond rfl (fun ht => ?_) (fun ht => ?_)
  · refine k2 ?_
    refine c_region ?_; refine l_neu (n_move rfl rfl) rfl ?_; refine l_neu (n_nilCheck_ref rfl) rfl ?_; refine l_neu (n_field_ref rfl) rfl ?_; refine l_neu (n_load_ref rfl h0 rfl) rfl ?_; refine l_neu (n_len rfl (.buf _ _ _ _ _)) rfl ?_; refine l_neu (n_assign rfl rfl) rfl ?_; refine l_nil ?_
    refine k1 ?_; refine k2 ?_
    refine c_region ?_; refine l_neu (n_move rfl rfl) rfl ?_; refine l_neu (n_nilCheck_ref rfl) rfl ?_; refine l_neu (n_field_ref rfl) rfl ?_; refine l_neu (n_load_ref rfl h0 rfl) rfl ?_; refine l_neu (n_move rfl rfl) rfl ?_; refine l_neu (n_move rfl rfl) rfl ?_; refine l_eff (e_mapNew (s) rfl h1 rfl rfl rfl strK_key strK_inj (hg)) ?_; refine l_nil ?_
    refine k1 ?_
    have h0' : getO ((711, Ob.map Str strK (kvOf names 0 ++ [(s, .v (.int .i64 names.length))])) :: ob) 710 = some (.box [.mut 711, .buf 712 Str 1 strC names]) := by rw [getO_cons_other (by decide)]; exact h0
    have h2' : getO ((711, Ob.map Str strK (kvOf names 0 ++ [(s, .v (.int .i64 names.length))])) :: ob) 712 = some (.spare names.length 1 9) := by rw [getO_cons_other (by decide)]; exact h2
    have h0'' : getO ((712, Ob.spare (names ++ [s]).length 1 9) :: Obs.forget 712 ((711, Ob.map Str strK (kvOf names 0 ++ [(s, .v (.int .i64 names.length))])) :: ob)) 710 = some (.box [.mut 711, .p (.list Str 1 strC names)]) := by
      rw [getO_cons_other (by decide), getO_forget, h0']; rfl
    refine c_region ?_; refine l_neu (n_move rfl rfl) rfl ?_; refine l_neu (n_move rfl rfl) rfl ?_; refine l_neu (n_nilCheck_ref rfl) rfl ?_; refine l_neu (n_field_ref rfl) rfl ?_; refine l_neu (n_load_ref rfl h0' rfl) rfl ?_; refine l_neu (n_move rfl rfl) rfl ?_; refine l_neu (n_buildSlice (c := strC) (ys := [s]) (asm_cons rfl rfl rfl rfl asm_nil) rfl rfl rfl) rfl ?_; refine l_effv (e_append rfl h2' rfl (.pure _ _ _ _) (by (simp only [List.length_cons, List.length_nil]; omega)) rfl) rfl ?_; refine l_neu (n_nilCheck_ref rfl) rfl ?_; refine l_neu (n_field_ref rfl) rfl ?_; refine l_eff (e_store_ref TySz.out rfl h0'' rfl rfl rfl rfl) ?_; refine l_nil ?_
    refine k1 ?_; refine k2 ?_
    refine c_region ?_; refine l_neu (n_move rfl rfl) rfl ?_; refine l_neu (n_assign rfl rfl) rfl ?_; refine l_nil ?_
    refine k1 ?_; refine k10 ?_
    exact met_ret (rets1 rfl rfl) (by repeat (first | exact tail_refl | refine tail_cons rfl ?_ | refine tail_forget _ ?_)) (fun _ _ h => h) ⟨rfl, rfl⟩
  · cases ht
theorem rowsN_free (files : List (List Str)) (i m : Nat) : (rowsN files i).all (TC.free m) = true := by
  rw [List.all_eq_true]
  intro t ht
  unfold rowsN at ht
  obtain ⟨r, _, rfl⟩ := List.mem_map.1 ht
  split <;> rfl
theorem rows_back {files : List (List Str)} {i : Nat} (b x : TC) (m : Nat) : (((rowsN files i).set i b).map (TC.forget m)).set i x = (rowsN files i).set i x := by
  have e1 : (rowsN files i).map (TC.forget m) = rowsN files i := by
    unfold rowsN
    rw [List.map_map]
    apply List.map_congr_left
    intro r _
    simp only [Function.comp]
    split <;> rfl
  rw [List.map_set, e1, List.set_set]
theorem rows_back2 {files : List (List Str)} {i : Nat} (b x : TC) (m m' : Nat) : ((((rowsN files i).set i b).map (TC.forget m)).map (TC.forget m')).set i x = (rowsN files i).set i x := by
  have e1 : ∀ m, (rowsN files i).map (TC.forget m) = rowsN files i := by
    intro m
    unfold rowsN
    rw [List.map_map]
    apply List.map_congr_left
    intro r _
    simp only [Function.comp]
    split <;> rfl
  rw [List.map_set, e1, List.map_set, e1, List.set_set]
theorem number_ok (files : List (List Str)) (hn : files.length ≤ 1048576) (hl : files.flatten.length ≤ 536870911) : FnOk Tryd.prog 35 [pStrss files] (fun rs => rs = [pIntss (files.map (idsOf (namesOf files))), pStrs (namesOf files)]) := by
  refine FnOk.intro Tryd.func35 (by decide) rfl rfl rfl rfl ?_
  refine k2 ?_
  refine c_region ?_; refine l_neu (n_assign rfl rfl) rfl ?_; refine l_neu (n_assign rfl rfl) rfl ?_; refine l_nil ?_
  refine k1 ?_; refine k2 ?_
  refine c_region ?_; refine l_effv (f_makeMap 711 Str strK rfl) rfl ?_; refine l_neu (n_build rfl) rfl ?_; refine l_effv (f_box 710 rfl rfl rfl) rfl ?_; refine l_neu (n_assign rfl rfl) rfl ?_; refine l_nil ?_
  refine k1 ?_; refine k2 ?_
  refine c_sees (Sees.adoptB 712 Str 1 strC 9 (kb := 710) (o := 1) rfl rfl rfl) ?_
  refine c_region ?_; refine l_neu (n_move rfl rfl) rfl ?_; refine l_neu (n_len rfl (.pure _ _ _ _)) rfl ?_; refine l_effv (f_makeZ 20 Unit (fun _ _ => .v (.slice none 0 0)) () rfl rfl (by omega) (by omega) (fun _ => by first | exact ⟨⟨rfl, rfl⟩, trivial⟩ | exact ⟨rep_nil _ _ _, trivial⟩) (by first | rfl | (simp [frFree, obFree, Ob.free, SV.free, S1.free, TC.free] <;> rfl))) rfl ?_; refine l_neu (n_assign rfl rfl) rfl ?_; refine l_nil ?_
  refine k1 ?_; refine k2 ?_; refine k2 ?_
  refine c_sees (Sees.toT1 20 rfl) ?_
  have hz : ((List.replicate ((files.length : Nat) : Int).toNat ()).map fun x => TC.p ((fun (_ : Unit) (_ : Nat) => Cell.v (.slice none 0 0)) x 0)) = rowsN files 0 := by
    rw [Int.toNat_natCast, ← rowsN_zero]; simp
  have hz2 : (List.replicate ((files.length : Nat) : Int).toNat ()).length = files.length := by simp
  rw [hz, hz2]
  refine c_region ?_; refine l_neu (n_move rfl rfl) rfl ?_; refine l_neu (n_len rfl (.pure _ _ _ _)) rfl ?_; refine l_neu (n_move rfl rfl) rfl ?_; refine l_nil ?_
  refine k1 ?_; refine k3 ?_
  refine c_while (X := Nat) (fun i => ([(4, .s (.one (.ref 710 0))), (5, .s (.one (.mut 20))), (16, sList (List Str) 1 strsC files), (17, sInt files.length), (18, sInt i)], [(710, .box [.mut 711, .buf 712 Str 1 strC (namesTo files i 0)]), (711, .map Str strK (kvOf (namesTo files i 0) 0)), (712, .spare (namesTo files i 0).length 1 9), (20, .tarr files.length 1 (rowsN files i))])) (fun i => i ≤ files.length) (fun i => files.length - i) 0 (Nat.zero_le _) ?_ ?_
  · rw [show namesTo files 0 0 = [] from rfl]
    exact Sees.of ⟨le1 rfl, le1 rfl, le1 rfl, le1 rfl, le1 rfl, trivial⟩ ⟨rfl, rfl, rfl, rfl, trivial⟩
  intro i hi
  dsimp only at hi ⊢
  refine k2 ?_
  refine c_region ?_; refine l_neu (n_lss rfl rfl) rfl ?_; refine l_nil ?_
  refine k1 ?_; refine k2 ?_
  refine c_cond rfl (fun ht => ?_) (fun ht => ?_)
  · have hlt : i < files.length := by have := of_decide_eq_true ht; omega
    obtain ⟨f, hf⟩ : ∃ f, f = files.getD i [] := ⟨_, rfl⟩
    have hv : files[i]? = some f := by rw [hf]; simp [hlt]
    have hfl : f.length ≤ files.flatten.length := by
      have h1 : f ∈ files := List.mem_of_getElem? hv
      have : ∀ (fs : List (List Str)), f ∈ fs → f.length ≤ fs.flatten.length := by
        intro fs
        induction fs with
        | nil => intro h; simp at h
        | cons x r ih =>
          intro h
          simp only [List.flatten_cons, List.length_append]
          rcases List.mem_cons.1 h with rfl | h
          · omega
          · have := ih h; omega
      exact this files h1
    have hrl : (rowsN files i).length = files.length := by simp [rowsN]
    refine k5 ?_; refine k1 ?_; refine k2 ?_; refine k3 ?_; refine k2 ?_
    refine c_region ?_; refine l_neu (n_move rfl rfl) rfl ?_; refine l_neu (n_indexAddr rfl (.pure _ _ _ _) rfl (by omega) hv) rfl ?_; refine l_neu (n_load_eref rfl rfl) rfl ?_; refine l_neu (n_assign rfl rfl) rfl ?_; refine l_neu (n_assign rfl rfl) rfl ?_; refine l_nil ?_
    refine k1 ?_; refine k2 ?_
    refine c_region ?_; refine l_neu (n_move rfl rfl) rfl ?_; refine l_neu (n_len rfl (.pure _ _ _ _)) rfl ?_; refine l_neu (n_move rfl rfl) rfl ?_; refine l_nil ?_
    refine k1 ?_; refine k3 ?_
    refine c_sees (Sees.adoptE 713 Int 1 intC 3 (kb := 20) (o := i) rfl (rowsN_get hlt) (by simp [frFree, obFree, Ob.free, SV.free, S1.free, TC.free, rowsN_free]; repeat' (first | rfl | constructor))) ?_
    refine c_while (X := Nat) (fun j => ([(4, .s (.one (.ref 710 0))), (5, .s (.one (.mut 20))), (6, sInt i), (16, sList (List Str) 1 strsC files), (17, sInt files.length), (18, sInt i), (23, sList Str 1 strC f), (24, sInt f.length), (25, sInt j)], [(20, .tarr files.length 1 ((rowsN files i).set i (.buf 713 Int 1 intC (idsOf (namesOf files) (f.take j))))), (710, .box [.mut 711, .buf 712 Str 1 strC (namesTo files i j)]), (711, .map Str strK (kvOf (namesTo files i j) 0)), (712, .spare (namesTo files i j).length 1 9), (713, .spare (idsOf (namesOf files) (f.take j)).length 1 3)])) (fun j => j ≤ f.length) (fun j => f.length - j) 0 (Nat.zero_le _) ?_ ?_
    · exact Sees.of ⟨le1 rfl, le1 rfl, le1 rfl, le1 rfl, le1 rfl, le1 rfl, le1 rfl, le1 rfl, le1 rfl, trivial⟩ ⟨rfl, rfl, rfl, rfl, rfl, trivial⟩
    intro j hj
    dsimp only at hj ⊢
    refine k2 ?_
    refine c_region ?_; refine l_neu (n_lss rfl rfl) rfl ?_; refine l_nil ?_
    refine k1 ?_; refine k2 ?_
    refine c_cond rfl (fun ht => ?_) (fun ht => ?_)
    · have hlt2 : j < f.length := by have := of_decide_eq_true ht; omega
      obtain ⟨s, hs⟩ : ∃ s, s = f[j] := ⟨_, rfl⟩
      have hvs : f[j]? = some s := by rw [hs]; simp [hlt2]
      have hstep := namesTo_step files i j s (by rw [← hf]; exact hvs)
      obtain ⟨names, hnm⟩ : ∃ names, names = namesTo files i j := ⟨_, rfl⟩
      have hnl := namesTo_length files i j
      obtain ⟨rest, hrest⟩ := namesTo_sub files i (j + 1)
      obtain ⟨ids, hids⟩ : ∃ ids, ids = idsOf (namesOf files) (f.take j) := ⟨_, rfl⟩
      have hil : ids.length = j := by rw [hids]; simp [idsOf]; omega
      have hnext : idsOf (namesOf files) (f.take (j + 1)) = ids ++ [placeOf (namesOf files) s 0] := by
        rw [hids, List.take_succ_eq_append_getElem hlt2, ← hs]; unfold idsOf; rw [List.map_append]; rfl
      rw [hstep] at hrest
      rw [← hnm] at hstep hnl hrest ⊢
      rw [← hids]
      have hTi : ((rowsN files i).set i (.buf 713 Int 1 intC ids))[((i : Nat) : Int).toNat]? = some (.buf 713 Int 1 intC ids) := by
        rw [Int.toNat_natCast, List.getElem?_set_self (by rw [hrl]; omega)]
      have hTi2 : (((rowsN files i).set i (.buf 713 Int 1 intC ids)).map (TC.forget 712))[((i : Nat) : Int).toNat]? = some (.buf 713 Int 1 intC ids) := by
        rw [List.getElem?_map, hTi]; rfl
      refine k5 ?_; refine k1 ?_; refine k2 ?_; refine k3 ?_; refine k2 ?_
      refine c_region ?_; refine l_neu (n_indexAddr rfl (.pure _ _ _ _) rfl (by omega) hvs) rfl ?_; refine l_neu (n_load_eref rfl rfl) rfl ?_; refine l_neu (n_assign rfl rfl) rfl ?_; refine l_nil ?_
      by_cases hmem : s ∈ names
      · have hns : namesStep names s = names := by unfold namesStep; rw [if_pos hmem]
        rw [hns] at hstep hrest
        have hpl : placeOf (namesOf files) s 0 = placeOf names s 0 := by rw [hrest]; exact placeOf_app s rest names 0 hmem
        refine then_normal ?_
        refine c_cut ((9, sStr s) :: [(4, .s (.one (.ref 710 0))), (5, .s (.one (.mut 20))), (6, sInt i), (16, sList (List Str) 1 strsC files), (17, sInt files.length), (18, sInt i), (23, sList Str 1 strC f), (24, sInt f.length), (25, sInt j)]) [(20, .tarr files.length 1 ((rowsN files i).set i (.buf 713 Int 1 intC ids))), (710, .box [.mut 711, .buf 712 Str 1 strC names]), (711, .map Str strK (kvOf names 0)), (712, .spare names.length 1 9), (713, .spare ids.length 1 3)] (Sees.of ⟨le1 rfl, le1 rfl, le1 rfl, le1 rfl, le1 rfl, le1 rfl, le1 rfl, le1 rfl, le1 rfl, le1 rfl, trivial⟩ ⟨rfl, rfl, rfl, rfl, rfl, trivial⟩) ?_
        refine c_region_ord [12, 10, 8] [[], [8], [10, 8], [12, 10, 8]] [(8, ([], [])), (10, ([713], [34])), (12, ([], []))] [(0, []), (1, []), (2, []), (3, []), (4, []), (5, []), (6, []), (7, []), (8, []), (9, [8]), (10, [8]), (11, [10, 8]), (12, [10, 8])] [(0, [8]), (0, [10, 8]), (1, [8]), (1, [10, 8]), (2, [8]), (3, [8]), (4, [8]), (5, [8])] (by kernel_rfl) (by kernel_rfl) ?_; refine w_neu rfl rfl rfl rfl rfl (n_move rfl rfl) ?_; refine w_neu rfl rfl rfl rfl rfl (n_move rfl rfl) ?_; refine w_neu rfl rfl rfl rfl rfl (n_move rfl rfl) ?_; refine w_neu rfl rfl rfl rfl rfl (n_move rfl rfl) ?_; refine w_neu rfl rfl rfl rfl rfl (n_indexAddr_mutT rfl rfl rfl (by omega) (by omega)) ?_; refine w_neu rfl rfl rfl rfl rfl (n_load_mrefT1 rfl rfl (by first | exact hTi | exact hTi2)) ?_; refine w_neu rfl rfl rfl rfl rfl (n_move rfl rfl) ?_; refine w_neu rfl rfl rfl rfl rfl (n_move rfl rfl) ?_; refine w_eff rfl rfl rfl rfl rfl (r_met (fun gf => tid_old names s hmem rfl rfl) rfl rfl) rfl ?_; refine w_neu rfl rfl rfl rfl rfl (n_buildSlice (c := intC) (ys := [placeOf names s 0]) (asm_cons rfl rfl rfl rfl asm_nil) rfl rfl rfl) ?_; refine w_eff rfl rfl rfl rfl rfl (r_turn (fun frc hU => e_append (opvU hU rfl) rfl (opvU hU rfl) (.pure _ _ _ _) (by (simp only [List.length_cons, List.length_nil]; omega)) rfl)) rfl ?_; refine w_neu rfl rfl rfl rfl rfl (n_indexAddr_mutT rfl rfl rfl (by omega) (by omega)) ?_; refine w_eff rfl rfl rfl rfl rfl (r_eff (fun frc hU => e_store_mrefT1 TySz.out (opvU hU rfl) rfl (by (simp; omega)) (opvU hU rfl) rfl)) rfl ?_; refine w_nil rfl rfl ?_ ?_
        · refine x_neu rfl rfl rfl rfl rfl (n_move rfl rfl) ?_; refine x_neu rfl rfl rfl rfl rfl (n_move rfl rfl) ?_; refine x_neu rfl rfl rfl rfl rfl (n_move rfl rfl) ?_; refine x_neu rfl rfl rfl rfl rfl (n_move rfl rfl) ?_; refine x_neu rfl rfl rfl rfl rfl (n_move rfl rfl) ?_; refine x_neu rfl rfl rfl rfl rfl (n_move rfl rfl) ?_; refine x_neu rfl rfl rfl rfl rfl (n_indexAddr_mutT rfl rfl rfl (by omega) (by omega)) ?_; refine x_neu rfl rfl rfl rfl rfl (n_load_mrefT1 rfl rfl (by first | exact hTi | exact hTi2)) ?_; exact x_nil
        refine c_cut [(4, .s (.one (.ref 710 0))), (5, .s (.one (.mut 20))), (6, sInt i), (16, sList (List Str) 1 strsC files), (17, sInt files.length), (18, sInt i), (23, sList Str 1 strC f), (24, sInt f.length), (25, sInt j)] [(20, .tarr files.length 1 ((rowsN files i).set i (.buf 713 Int 1 intC (ids ++ [placeOf names s 0])))), (710, .box [.mut 711, .buf 712 Str 1 strC (names)]), (711, .map Str strK (kvOf (names) 0)), (712, .spare (names).length 1 9), (713, .spare (ids ++ [placeOf names s 0]).length 1 3)] (by rw [Int.toNat_natCast i, rows_back]; exact Sees.of ⟨le1 rfl, le1 rfl, le1 rfl, le1 rfl, le1 rfl, le1 rfl, le1 rfl, le1 rfl, le1 rfl, trivial⟩ ⟨rfl, rfl, rfl, rfl, rfl, trivial⟩) ?_
        refine c_region ?_; refine l_neu (n_add rfl rfl (by omega)) rfl ?_; refine l_neu (n_move rfl rfl) rfl ?_; refine l_nil ?_
        refine k1 ?_
        exact ⟨j + 1, hlt2, by omega, by rw [hstep, hnext, hpl]; exact Sees.of ⟨le1 rfl, le1 rfl, le1 rfl, le1 rfl, le1 rfl, le1 rfl, le1 rfl, le1 rfl, le1 rfl, trivial⟩ ⟨rfl, rfl, rfl, rfl, rfl, trivial⟩⟩
      · refine then_normal ?_
        have hns : namesStep names s = names ++ [s] := by unfold namesStep; rw [if_neg hmem]
        rw [hns] at hstep hrest
        have hkv : kvOf (names ++ [s]) 0 = kvOf names 0 ++ [(s, .v (.int .i64 (names.length : Int)))] := by rw [kvOf_snoc]; simp only [Int.zero_add]
        have hpl : placeOf (namesOf files) s 0 = names.length := by
          rw [hrest, placeOf_app s rest (names ++ [s]) 0 (by simp), placeOf_new s names 0 hmem]; omega
        refine c_cut ((9, sStr s) :: [(4, .s (.one (.ref 710 0))), (5, .s (.one (.mut 20))), (6, sInt i), (16, sList (List Str) 1 strsC files), (17, sInt files.length), (18, sInt i), (23, sList Str 1 strC f), (24, sInt f.length), (25, sInt j)]) [(20, .tarr files.length 1 ((rowsN files i).set i (.buf 713 Int 1 intC (ids)))), (710, .box [.mut 711, .buf 712 Str 1 strC (names)]), (711, .map Str strK (kvOf (names) 0)), (712, .spare (names).length 1 9), (713, .spare (ids).length 1 3)] (Sees.of ⟨le1 rfl, le1 rfl, le1 rfl, le1 rfl, le1 rfl, le1 rfl, le1 rfl, le1 rfl, le1 rfl, le1 rfl, trivial⟩ ⟨rfl, rfl, rfl, rfl, rfl, trivial⟩) ?_
        refine c_region_ord [12, 10, 8] [[], [8], [10, 8], [12, 10, 8]] [(8, ([712], [])), (10, ([713], [34])), (12, ([], []))] [(0, []), (1, []), (2, []), (3, []), (4, []), (5, []), (6, []), (7, []), (8, []), (9, [8]), (10, [8]), (11, [10, 8]), (12, [10, 8])] [(0, [8]), (0, [10, 8]), (1, [8]), (1, [10, 8]), (2, [8]), (3, [8]), (4, [8]), (5, [8])] (by kernel_rfl) (by kernel_rfl) ?_; refine w_neu rfl rfl rfl rfl rfl (n_move rfl rfl) ?_; refine w_neu rfl rfl rfl rfl rfl (n_move rfl rfl) ?_; refine w_neu rfl rfl rfl rfl rfl (n_move rfl rfl) ?_; refine w_neu rfl rfl rfl rfl rfl (n_move rfl rfl) ?_; refine w_neu rfl rfl rfl rfl rfl (n_indexAddr_mutT rfl rfl rfl (by omega) (by omega)) ?_; refine w_neu rfl rfl rfl rfl rfl (n_load_mrefT1 rfl rfl (by first | exact hTi | exact hTi2)) ?_; refine w_neu rfl rfl rfl rfl rfl (n_move rfl rfl) ?_; refine w_neu rfl rfl rfl rfl rfl (n_move rfl rfl) ?_; refine w_eff rfl rfl rfl rfl rfl (r_met (fun gf => tid_new names s hmem (by omega) rfl rfl rfl) rfl rfl) rfl ?_; refine w_neu rfl rfl rfl rfl rfl (n_buildSlice (c := intC) (ys := [(names.length : Int)]) (asm_cons rfl rfl rfl rfl asm_nil) rfl rfl rfl) ?_; refine w_eff rfl rfl rfl rfl rfl (r_turn (fun frc hU => e_append (opvU hU rfl) rfl (opvU hU rfl) (.pure _ _ _ _) (by (simp only [List.length_cons, List.length_nil]; omega)) rfl)) rfl ?_; refine w_neu rfl rfl rfl rfl rfl (n_indexAddr_mutT rfl rfl rfl (by omega) (by omega)) ?_; refine w_eff rfl rfl rfl rfl rfl (r_eff (fun frc hU => e_store_mrefT1 TySz.out (opvU hU rfl) rfl (by (simp; omega)) (opvU hU rfl) rfl)) rfl ?_; refine w_nil rfl rfl ?_ ?_
        · refine x_neu rfl rfl rfl rfl rfl (n_move rfl rfl) ?_; refine x_neu rfl rfl rfl rfl rfl (n_move rfl rfl) ?_; refine x_neu rfl rfl rfl rfl rfl (n_move rfl rfl) ?_; refine x_neu rfl rfl rfl rfl rfl (n_move rfl rfl) ?_; refine x_neu rfl rfl rfl rfl rfl (n_move rfl rfl) ?_; refine x_neu rfl rfl rfl rfl rfl (n_move rfl rfl) ?_; refine x_neu rfl rfl rfl rfl rfl (n_indexAddr_mutT rfl rfl rfl (by omega) (by omega)) ?_; refine x_neu rfl rfl rfl rfl rfl (n_load_mrefT1 rfl rfl (by first | exact hTi | exact hTi2)) ?_; exact x_nil
        refine c_cut [(4, .s (.one (.ref 710 0))), (5, .s (.one (.mut 20))), (6, sInt i), (16, sList (List Str) 1 strsC files), (17, sInt files.length), (18, sInt i), (23, sList Str 1 strC f), (24, sInt f.length), (25, sInt j)] [(20, .tarr files.length 1 ((rowsN files i).set i (.buf 713 Int 1 intC (ids ++ [(names.length : Int)])))), (710, .box [.mut 711, .buf 712 Str 1 strC (names ++ [s])]), (711, .map Str strK (kvOf (names ++ [s]) 0)), (712, .spare (names ++ [s]).length 1 9), (713, .spare (ids ++ [(names.length : Int)]).length 1 3)] (by rw [Int.toNat_natCast i, rows_back2, hkv]; exact Sees.of ⟨le1 rfl, le1 rfl, le1 rfl, le1 rfl, le1 rfl, le1 rfl, le1 rfl, le1 rfl, le1 rfl, trivial⟩ ⟨rfl, rfl, rfl, rfl, rfl, trivial⟩) ?_
        refine c_region ?_; refine l_neu (n_add rfl rfl (by omega)) rfl ?_; refine l_neu (n_move rfl rfl) rfl ?_; refine l_nil ?_
        refine k1 ?_
        exact ⟨j + 1, hlt2, by omega, by rw [hstep, hnext, hpl]; exact Sees.of ⟨le1 rfl, le1 rfl, le1 rfl, le1 rfl, le1 rfl, le1 rfl, le1 rfl, le1 rfl, le1 rfl, trivial⟩ ⟨rfl, rfl, rfl, rfl, rfl, trivial⟩⟩
    · have hj2 : j = f.length := by have := of_decide_eq_false ht; omega
      subst hj2
      rw [List.take_length]
      refine k6 ?_; refine k7 ?_; refine k7 ?_; refine k8 rfl ?_; refine k4 ?_; refine k1 ?_
      refine c_sees (Sees.forget 713) ?_
      have hfr : ((rowsN files i).set i (.buf 713 Int 1 intC (idsOf (namesOf files) f))).map (TC.forget 713) = rowsN files (i + 1) := by rw [hf]; exact rowsN_forget files i 713 hlt
      have hnr : namesTo files (i + 1) 0 = namesTo files i f.length := by rw [hf]; exact namesTo_row files i
      refine c_cut [(4, .s (.one (.ref 710 0))), (5, .s (.one (.mut 20))), (16, sList (List Str) 1 strsC files), (17, sInt files.length), (18, sInt i)] [(710, .box [.mut 711, .buf 712 Str 1 strC (namesTo files (i + 1) 0)]), (711, .map Str strK (kvOf (namesTo files (i + 1) 0) 0)), (712, .spare (namesTo files (i + 1) 0).length 1 9), (20, .tarr files.length 1 (rowsN files (i + 1)))] (by rw [hnr, ← hfr]; exact Sees.of ⟨le1 rfl, le1 rfl, le1 rfl, le1 rfl, le1 rfl, trivial⟩ ⟨rfl, rfl, rfl, rfl, trivial⟩) ?_
      refine c_region ?_; refine l_neu (n_add rfl rfl (by omega)) rfl ?_; refine l_neu (n_move rfl rfl) rfl ?_; refine l_nil ?_
      refine k1 ?_
      exact ⟨i + 1, hlt, by omega, Sees.of ⟨le1 rfl, le1 rfl, le1 rfl, le1 rfl, le1 rfl, trivial⟩ ⟨rfl, rfl, rfl, rfl, trivial⟩⟩
  · have hi2 : i = files.length := by have := of_decide_eq_false ht; omega
    rw [hi2, namesTo_all]
    refine c_sees (Sees.ofT1 20 (c := intsC) (files.map (idsOf (namesOf files))) rfl (by simp) (rowsN_full files)) ?_
    refine c_sees (Sees.freeze (k := 20) rfl) ?_
    refine c_sees (Sees.forget 712) ?_
    refine k6 ?_; refine k2 ?_
    refine c_region_draw (by kernel_rfl) (by kernel_rfl) ?_; refine d_neu (n_move rfl rfl) rfl rfl ?_; refine d_neu (n_move rfl rfl) rfl rfl ?_; refine d_neu (n_nilCheck_ref rfl) rfl rfl ?_; refine d_neu (n_field_ref rfl) rfl rfl ?_; refine d_neu (n_load_ref rfl rfl rfl) rfl rfl ?_; refine d_neu (n_assign rfl rfl) rfl rfl ?_; refine d_neu (n_assign rfl rfl) rfl rfl ?_; refine d_nil ?_
    refine k1 ?_; refine k10 ?_
    exact ret_ret (ret2 rfl rfl rfl rfl rfl) rfl
theorem internIds_ok (files : List (List Str)) (hn : files.length ≤ 1048576) (hl : files.flatten.length ≤ 536870911) : FnOk Tryd.prog 21 [pStrss files] (fun rs => rs = [pIntss (files.map (idsOf (namesOf files)))]) := by
  refine FnOk.intro Tryd.func21 (by decide) rfl rfl rfl rfl ?_
  refine k2 ?_
  refine c_region ?_; refine l_neu (n_assign rfl rfl) rfl ?_; refine l_nil ?_
  refine k1 ?_; refine k2 ?_
  refine c_region ?_; refine l_neu (n_move rfl rfl) rfl ?_; refine l_call (number_ok files hn hl) rfl rfl rfl ?_; rintro _ rfl; refine l_neu (n_move rfl rfl) rfl ?_; refine l_neu (n_extract rfl rfl) rfl ?_; refine l_neu (n_extract rfl rfl) rfl ?_; refine l_neu (n_assign rfl rfl) rfl ?_; refine l_neu (n_assign rfl rfl) rfl ?_; refine l_nil ?_
  refine k1 ?_; refine k2 ?_
  refine c_region ?_; refine l_neu (n_move rfl rfl) rfl ?_; refine l_neu (n_assign rfl rfl) rfl ?_; refine l_nil ?_
  refine k1 ?_; refine k10 ?_
  exact ret_ret (ret1 rfl rfl rfl) rfl
end Go.Proofs.YtjjidificdmnmaaDoor
namespace Go.Proofs.YtjjidificdmnmaaDoor
open Go Go.AL
set_option maxRecDepth 100000
abbrev iBox (i : Int) : Ob := .box [.p (.v (.int .i64 i))]
theorem spairs1_met {gf : Fr} {ob : Obs} (e i j : Int) (out : List Span) (he : e ≤ 1048576) (hj : 0 ≤ j) (hj2 : j ≤ 536870912) (ho : (out.length : Int) ≤ i)
    (h5 : getO ob 5 = some (.box [.buf 20 Span 2 spanC out])) (h6 : getO ob 6 = some (iBox i)) (h7 : getO ob 7 = some (iBox j)) (h20 : getO ob 20 = some (.spare out.length 2 64)) :
    AL.Met Tryd.prog 101 [.one (.p (.v (.int .i64 e))), .one (.ref 6 0), .one (.ref 5 0), .one (.ref 7 0)] gf ob [20]
      (fun rs ob' => rs = [] ∧ ob' = (5, .box [.buf 20 Span 2 spanC (out ++ spanRun i j (e - i).toNat)]) :: (6, iBox (i + (e - i).toNat)) :: (7, iBox (j + (e - i).toNat)) :: (20, .spare (out ++ spanRun i j (e - i).toNat).length 2 64) :: Obs.forget 20 ob) := by
  refine AL.Met.introH Tryd.func101 (by decide) rfl rfl rfl (fun hH => ?_)
  refine k3 ?_
  refine c_while (X := Nat) (fun t => ([(0, sInt e), (1, .s (.one (.ref 6 0))), (2, .s (.one (.ref 5 0))), (3, .s (.one (.ref 7 0)))] ++ Fr.forget 20 gf, (5, .box [.buf 20 Span 2 spanC (out ++ spanRun i j t)]) :: (6, iBox (i + t)) :: (7, iBox (j + t)) :: (20, .spare (out ++ spanRun i j t).length 2 64) :: Obs.forget 20 ob)) (fun t => t ≤ (e - i).toNat) (fun t => (e - i).toNat - t) 0 (Nat.zero_le _) ?_ ?_
  · rw [spanRun_zero, List.append_nil, show i + ((0 : Nat) : Int) = i by omega, show j + ((0 : Nat) : Int) = j by omega]
    exact Sees.tailL 20 (l := [(0, sInt e), (1, .s (.one (.ref 6 0))), (2, .s (.one (.ref 5 0))), (3, .s (.one (.ref 7 0)))]) (L := [(5, _), (6, _), (7, _), (20, _)]) ⟨le1 rfl, le1 rfl, le1 rfl, le1 rfl, trivial⟩ hH (by repeat (first | exact tail_refl | refine tail_cons rfl ?_)) ⟨h5, h6, h7, h20, trivial⟩
  intro t ht0
  dsimp only at ht0 ⊢
  have hsl := spanRun_length i j t
  refine k2 ?_; refine k2 ?_
  refine c_region ?_; refine l_neu (n_load_ref rfl rfl rfl) rfl ?_; refine l_neu (n_move rfl rfl) rfl ?_; refine l_neu (n_lss rfl rfl) rfl ?_; refine l_nil ?_
  refine k1 ?_
  refine c_cond rfl (fun ht => ?_) (fun ht => ?_)
  · have h1 := of_decide_eq_true ht
    refine k5 ?_; refine k1 ?_; refine k2 ?_; refine k3 ?_; refine k2 ?_
    refine c_region ?_; refine l_neu (n_load_ref rfl rfl rfl) rfl ?_; refine l_neu (n_load_ref rfl rfl rfl) rfl ?_; refine l_neu (n_load_ref rfl rfl rfl) rfl ?_; refine l_neu (n_build rfl) rfl ?_; refine l_neu (n_buildSlice (c := spanC) (ys := [⟨i + t, j + t⟩]) (asm_cons rfl rfl rfl rfl asm_nil) rfl rfl rfl) rfl ?_; refine l_effv (e_append rfl rfl rfl (.pure _ _ _ _) (by (simp only [List.length_append, List.length_cons, List.length_nil]; omega)) rfl) rfl ?_; refine l_eff (e_store_ref TySz.out rfl rfl rfl rfl rfl rfl) ?_; refine l_nil ?_
    refine k1 ?_
    refine c_region ?_; refine l_neu (n_load_ref rfl rfl rfl) rfl ?_; refine l_neu (n_add rfl rfl (by omega)) rfl ?_; refine l_eff (e_store_ref TySz.out rfl rfl rfl rfl rfl rfl) ?_; refine l_nil ?_
    refine k4 ?_; refine k1 ?_
    refine c_region ?_; refine l_neu (n_load_ref rfl rfl rfl) rfl ?_; refine l_neu (n_add rfl rfl (by omega)) rfl ?_; refine l_eff (e_store_ref TySz.out rfl rfl rfl rfl rfl rfl) ?_; refine l_nil ?_
    refine k1 ?_
    refine ⟨t + 1, by omega, by omega, ?_⟩
    rw [spanRun_snoc, ← List.append_assoc, show i + ((t + 1 : Nat) : Int) = i + t + 1 by omega, show j + ((t + 1 : Nat) : Int) = j + t + 1 by omega]
    exact Sees.tailed ⟨le1 rfl, le1 rfl, le1 rfl, le1 rfl, trivial⟩ (high_forget hH) (by repeat (first | exact tail_refl | refine tail_cons rfl ?_ | refine tail_forget' _ ?_)) (obs_put (L := [(5, _), (6, _), (7, _), (20, _)]) ⟨rfl, rfl, rfl, rfl, trivial⟩ (by repeat (first | exact obs_refl | refine obs_skip rfl ?_ | refine obs_fgt _ ?_)))
  · have h1 := of_decide_eq_false ht
    have h2 : t = (e - i).toNat := by omega
    subst h2
    refine k6 ?_; refine k7 ?_; refine k7 ?_; refine k8 rfl ?_
    exact met_normal (rets0 rfl) (by repeat (first | exact tail_refl | refine tail_cons rfl ?_ | refine tail_forget _ ?_)) (fun _ _ h => h) ⟨rfl, rfl⟩
theorem spairs_ok (l : List Change) (m : Int) (hl : l.length ≤ 32768) (hm : m ≤ 4096) (hb : ∀ c ∈ l, c.Old ≤ 4096 ∧ 0 ≤ c.OldLen ∧ c.OldLen ≤ 4096 ∧ 0 ≤ c.NewLen ∧ c.NewLen ≤ 4096) :
    FnOk Tryd.prog 89 [pChanges l, pInt m] (fun rs => rs = [pSpans (matchedOf l m)]) := by
  refine FnOk.intro Tryd.func89 (by decide) rfl rfl rfl rfl ?_
  refine k2 ?_
  refine c_region ?_; refine l_neu (n_assign rfl rfl) rfl ?_; refine l_nil ?_
  refine k1 ?_; refine k2 ?_
  refine c_region ?_; refine l_effv (f_alloc 5 rfl) rfl ?_; refine l_nil ?_
  refine c_sees (Sees.adoptB 20 Span 2 spanC 64 (kb := 5) (o := 0) rfl rfl rfl) ?_
  refine k2 ?_
  refine c_region ?_; refine l_effv (f_alloc 6 rfl) rfl ?_; refine l_effv (f_alloc 7 rfl) rfl ?_; refine l_eff (e_store_ref TySz.out rfl rfl rfl rfl rfl rfl) ?_; refine l_eff (e_store_ref TySz.out rfl rfl rfl rfl rfl rfl) ?_; refine l_nil ?_
  refine k1 ?_; refine k2 ?_
  refine c_region ?_; refine l_neu (n_makeFunc rfl rfl) rfl ?_; refine l_neu (n_assign rfl rfl) rfl ?_; refine l_nil ?_
  refine k1 ?_; refine k2 ?_; refine k2 ?_
  refine c_region ?_; refine l_neu (n_move rfl rfl) rfl ?_; refine l_neu (n_len rfl (.pure _ _ _ _)) rfl ?_; refine l_neu (n_move rfl rfl) rfl ?_; refine l_nil ?_
  refine k1 ?_; refine k3 ?_
  refine c_while (X := Nat × Int × Int × List Span) (fun x => ([(1, sInt m), (5, .s (.one (.ref 5 0))), (6, .s (.one (.ref 6 0))), (7, .s (.one (.ref 7 0))), (8, .s (.one (.clo 101 [] [(6, 0), (5, 0), (7, 0)]))), (12, sList Change 4 changeC l), (13, sInt l.length), (14, sInt x.1)], [(5, .box [.buf 20 Span 2 spanC x.2.2.2]), (6, iBox x.2.1), (7, iBox x.2.2.1), (20, .spare x.2.2.2.length 2 64)]))
    (fun x => x.1 ≤ l.length ∧ 0 ≤ x.2.1 ∧ (x.2.2.2.length : Int) ≤ x.2.1 ∧ x.2.1 ≤ 4096 + x.1 * 4096 ∧ 0 ≤ x.2.2.1 ∧ x.2.2.1 ≤ x.1 * 8192 ∧ x.2.2.2 ++ matchedGo x.2.1 x.2.2.1 (l.drop x.1) m = matchedOf l m)
    (fun x => l.length - x.1) (0, 0, 0, []) (by simp [matchedOf]) (Sees.of ⟨le1 rfl, le1 rfl, le1 rfl, le1 rfl, le1 rfl, le1 rfl, le1 rfl, le1 rfl, trivial⟩ ⟨rfl, rfl, rfl, rfl, trivial⟩) ?_
  rintro ⟨k, i, j, out⟩ ⟨hk, hi, ho, hi2, hj, hj2, hp⟩
  dsimp only at hk hi ho hi2 hj hj2 hp ⊢
  refine k2 ?_
  refine c_region ?_; refine l_neu (n_lss rfl rfl) rfl ?_; refine l_nil ?_
  refine k1 ?_; refine k2 ?_
  refine c_cond rfl (fun ht => ?_) (fun ht => ?_)
  · have hlt : k < l.length := by have := of_decide_eq_true ht; omega
    obtain ⟨c, hcd⟩ : ∃ c, c = l[k] := ⟨_, rfl⟩
    have hv : l[k]? = some c := by rw [hcd]; simp [hlt]
    have hc := hb c (List.mem_of_getElem? hv)
    rw [List.drop_eq_getElem_cons hlt, ← hcd, matchedGo] at hp
    refine k5 ?_; refine k1 ?_; refine k2 ?_; refine k3 ?_; refine k2 ?_
    refine c_region ?_; refine l_neu (n_indexAddr rfl (.pure _ _ _ _) rfl (by omega) hv) rfl ?_; refine l_neu (n_loads_eref rfl rfl) rfl ?_; refine l_effv (f_alloc 10 rfl) rfl ?_; refine l_eff (e_store_ref TySz.out rfl rfl rfl rfl rfl rfl) ?_; refine l_nil ?_
    refine k1 ?_; refine k2 ?_
    refine c_cut [(1, sInt m), (5, .s (.one (.ref 5 0))), (6, .s (.one (.ref 6 0))), (7, .s (.one (.ref 7 0))), (8, .s (.one (.clo 101 [] [(6, 0), (5, 0), (7, 0)]))), (10, .s (.one (.ref 10 0))), (12, sList Change 4 changeC l), (13, sInt l.length), (14, sInt k)] [(5, .box [.buf 20 Span 2 spanC out]), (6, iBox i), (7, iBox j), (20, .spare out.length 2 64), (10, .box [.p (.v (.int .i64 c.Old)), .p (.v (.int .i64 c.OldLen)), .p (.v (.int .i64 c.New)), .p (.v (.int .i64 c.NewLen))])] (Sees.of ⟨le1 rfl, le1 rfl, le1 rfl, le1 rfl, le1 rfl, le1 rfl, le1 rfl, le1 rfl, le1 rfl, trivial⟩ ⟨rfl, rfl, rfl, rfl, rfl, trivial⟩) ?_
    refine c_region ?_; refine l_neu (n_move rfl rfl) rfl ?_; refine l_neu (n_field_ref rfl) rfl ?_; refine l_neu (n_load_ref rfl rfl rfl) rfl ?_; refine l_metF (spairs1_met c.Old i j out (by omega) hj (by omega) ho rfl rfl rfl rfl) rfl rfl rfl rfl ?_; rintro _ _ ⟨rfl, rfl⟩; refine l_nil ?_
    refine k1 ?_
    obtain ⟨n, hn⟩ : ∃ n, n = (c.Old - i).toNat := ⟨_, rfl⟩
    rw [← hn] at hp ⊢
    refine c_cut [(1, sInt m), (5, .s (.one (.ref 5 0))), (6, .s (.one (.ref 6 0))), (7, .s (.one (.ref 7 0))), (8, .s (.one (.clo 101 [] [(6, 0), (5, 0), (7, 0)]))), (10, .s (.one (.ref 10 0))), (12, sList Change 4 changeC l), (13, sInt l.length), (14, sInt k)] [(5, .box [.buf 20 Span 2 spanC (out ++ spanRun i j n)]), (6, iBox (i + n)), (7, iBox (j + n)), (20, .spare (out ++ spanRun i j n).length 2 64), (10, .box [.p (.v (.int .i64 c.Old)), .p (.v (.int .i64 c.OldLen)), .p (.v (.int .i64 c.New)), .p (.v (.int .i64 c.NewLen))])] (Sees.of ⟨le1 rfl, le1 rfl, le1 rfl, le1 rfl, le1 rfl, le1 rfl, le1 rfl, le1 rfl, le1 rfl, trivial⟩ ⟨rfl, rfl, rfl, rfl, rfl, trivial⟩) ?_
    refine c_region_any [9, 8] [[], [8], [9, 8]] [(4, [8]), (5, [8]), (6, [8]), (7, [8])] (by kernel_rfl) (by kernel_rfl) ?_; refine a_neu rfl (n_load_ref rfl rfl rfl) ?_; refine a_neu rfl (n_field_ref rfl) ?_; refine a_neu rfl (n_load_ref rfl rfl rfl) ?_; refine a_neu rfl (n_add rfl rfl (by omega)) ?_; refine a_neu rfl (n_load_ref rfl rfl rfl) ?_; refine a_neu rfl (n_field_ref rfl) ?_; refine a_neu rfl (n_load_ref rfl rfl rfl) ?_; refine a_neu rfl (n_add rfl rfl (by omega)) ?_; refine a_store (u_store_ref TySz.out rfl rfl rfl rfl rfl rfl) ?_; refine a_store (u_store_ref TySz.out rfl rfl rfl rfl rfl rfl) ?_; refine a_nil rfl ?_ ?_
    · refine o_neu rfl rfl (n_load_ref rfl rfl rfl) ?_; refine o_neu rfl rfl (n_field_ref rfl) ?_; refine o_neu rfl rfl (n_load_ref rfl rfl rfl) ?_; refine o_neu rfl rfl (n_add rfl rfl (by omega)) ?_; exact o_nil
    refine k4 ?_; refine k1 ?_
    refine c_region ?_; refine l_neu (n_add rfl rfl (by omega)) rfl ?_; refine l_neu (n_move rfl rfl) rfl ?_; refine l_nil ?_
    refine k1 ?_
    have hsl := spanRun_length i j n
    have h3 : max i c.Old = i + n := by omega
    rw [h3] at hp
    exact ⟨(k + 1, i + n + c.OldLen, j + n + c.NewLen, out ++ spanRun i j n), ⟨by dsimp only; omega, by dsimp only; omega, by dsimp only; rw [List.length_append, hsl]; omega, by dsimp only; omega, by dsimp only; omega, by dsimp only; omega, by dsimp only; rw [List.append_assoc]; exact hp⟩, by dsimp only; omega, Sees.of ⟨le1 rfl, le1 rfl, le1 rfl, le1 rfl, le1 rfl, le1 rfl, le1 rfl, le1 rfl, trivial⟩ ⟨rfl, rfl, rfl, rfl, trivial⟩⟩
  · have hk' : k = l.length := by have := of_decide_eq_false ht; omega
    rw [hk', List.drop_eq_nil_of_le (Nat.le_refl _), matchedGo] at hp
    refine k6 ?_; refine k2 ?_
    refine c_region ?_; refine l_neu (n_move rfl rfl) rfl ?_; refine l_neu (n_move rfl rfl) rfl ?_; refine l_metF (spairs1_met m i j out (by omega) hj (by omega) ho rfl rfl rfl rfl) rfl rfl rfl rfl ?_; rintro _ _ ⟨rfl, rfl⟩; refine l_nil ?_
    refine k1 ?_; refine k2 ?_
    rw [hp]
    refine c_sees (Sees.forget 20) ?_
    refine c_region ?_; refine l_neu (n_load_ref rfl rfl rfl) rfl ?_; refine l_neu (n_assign rfl rfl) rfl ?_; refine l_nil ?_
    refine k1 ?_; refine k10 ?_
    exact ret_ret (ret1 rfl rfl rfl) rfl
theorem script_cs {l : List Change} {m n : Int} (hok : ScOk 0 0 l m n) : ∀ c ∈ l, c.Old ≤ 4096 ∧ 0 ≤ c.OldLen ∧ c.OldLen ≤ 4096 ∧ 0 ≤ c.NewLen ∧ c.NewLen ≤ 4096 := by
  intro c hc
  obtain ⟨k, hk, rfl⟩ := List.mem_iff_getElem.1 hc
  have := hok.get k hk
  have e : cAt l k = l[k] := by unfold cAt; simp [hk]
  rw [e] at this
  obtain ⟨⟨_, h1⟩, ⟨h2, h3⟩, _, ⟨h4, h5⟩, _⟩ := this
  exact ⟨h1, h2, h3, h4, h5⟩
theorem matched_len {l : List Change} {m n : Int} (hm : m ≤ 4096) (hok : ScOk 0 0 l m n) : (matchedOf l m).length ≤ 4096 := by
  have := matchedGo_length l 0 0 m (by omega) 4096 (by omega) (fun c hc => ⟨by have := (script_cs hok c hc).1; omega, (script_cs hok c hc).2.1⟩)
  unfold matchedOf; omega
def PairAt (a b : List Int) (p : Span) : Prop := 0 ≤ p.From ∧ 0 ≤ p.To ∧ ∃ v, a[p.From.toNat]? = some v ∧ b[p.To.toNat]? = some v
theorem sFits_ok (l : List Change) (a b : List Int) (hl : l.length ≤ 32768) (hc : check8 l a.length b.length = 0) (hp : ∀ p ∈ matchedOf l a.length, PairAt a b p) :
    FnOk Tryd.prog 66 [pChanges l, pInts a, pInts b] (fun rs => rs = [pBool true]) := by
  obtain ⟨⟨_, ha⟩, ⟨_, hb⟩, hok⟩ := check8_ok hc
  have hcs := script_cs hok
  have hpl := matched_len (by omega) hok
  obtain ⟨ps, hps⟩ : ∃ ps, ps = matchedOf l a.length := ⟨_, rfl⟩
  rw [← hps] at hpl
  refine FnOk.intro Tryd.func66 (by decide) rfl rfl rfl rfl ?_
  refine k2 ?_
  refine c_region ?_; refine l_neu (n_assign rfl rfl) rfl ?_; refine l_nil ?_
  refine k1 ?_; refine k2 ?_; refine k2 ?_
  refine c_region ?_; refine l_neu (n_move rfl rfl) rfl ?_; refine l_neu (n_move rfl rfl) rfl ?_; refine l_neu (n_len rfl (.pure _ _ _ _)) rfl ?_; refine l_neu (n_move rfl rfl) rfl ?_; refine l_neu (n_len rfl (.pure _ _ _ _)) rfl ?_; refine l_call (scheck_ok l a.length b.length (by omega)) rfl rfl rfl ?_; rintro _ rfl; refine l_neu (n_neq rfl rfl) rfl ?_; refine l_nil ?_
  rw [hc]
  refine k1 ?_
  refine c_cond rfl (fun ht => ?_) (fun ht => ?_)
  · cases ht
  refine k5 ?_; refine k1 ?_; refine k2 ?_; refine k2 ?_
  refine c_region ?_; refine l_neu (n_move rfl rfl) rfl ?_; refine l_neu (n_move rfl rfl) rfl ?_; refine l_neu (n_len rfl (.pure _ _ _ _)) rfl ?_; refine l_call (spairs_ok l a.length hl ha hcs) rfl rfl rfl ?_; rintro _ rfl; refine l_neu (n_len rfl (.pure _ _ _ _)) rfl ?_; refine l_neu (n_move rfl rfl) rfl ?_; refine l_nil ?_
  rw [← hps] at hp ⊢
  refine k1 ?_; refine k3 ?_
  refine c_while (X := Nat) (fun k => ([(1, sList Int 1 intC a), (2, sList Int 1 intC b), (19, sList Span 2 spanC ps), (20, sInt ps.length), (21, sInt k)], [])) (fun k => k ≤ ps.length) (fun k => ps.length - k) 0 (Nat.zero_le _) (Sees.of ⟨le1 rfl, le1 rfl, le1 rfl, le1 rfl, le1 rfl, trivial⟩ trivial) ?_
  intro k hk
  dsimp only at hk ⊢
  refine k2 ?_
  refine c_region ?_; refine l_neu (n_lss rfl rfl) rfl ?_; refine l_nil ?_
  refine k1 ?_; refine k2 ?_
  refine c_cond rfl (fun ht => ?_) (fun ht => ?_)
  · have hlt : k < ps.length := by have := of_decide_eq_true ht; omega
    obtain ⟨p, hpd⟩ : ∃ p, p = ps[k] := ⟨_, rfl⟩
    have hv : ps[k]? = some p := by rw [hpd]; simp [hlt]
    obtain ⟨h1, h2, v, h3, h4⟩ := hp p (List.mem_of_getElem? hv)
    have h5 := (List.getElem?_eq_some_iff.1 h3).1
    have h6 := (List.getElem?_eq_some_iff.1 h4).1
    refine k5 ?_; refine k1 ?_; refine k2 ?_; refine k3 ?_; refine k2 ?_
    refine c_region ?_; refine l_neu (n_indexAddr rfl (.pure _ _ _ _) rfl (by omega) hv) rfl ?_; refine l_neu (n_loads_eref rfl rfl) rfl ?_; refine l_effv (f_alloc 8 rfl) rfl ?_; refine l_eff (e_store_ref TySz.out rfl rfl rfl rfl rfl rfl) ?_; refine l_nil ?_
    refine k1 ?_; refine k2 ?_
    refine c_region_draw (by kernel_rfl) (by kernel_rfl) ?_; refine d_neu (n_move rfl rfl) rfl rfl ?_; refine d_neu (n_field_ref rfl) rfl rfl ?_; refine d_neu (n_load_ref rfl rfl rfl) rfl rfl ?_; refine d_neu (n_indexAddr rfl (.pure _ _ _ _) rfl (by omega) h3) rfl rfl ?_; refine d_neu (n_load_eref rfl rfl) rfl rfl ?_; refine d_neu (n_move rfl rfl) rfl rfl ?_; refine d_neu (n_field_ref rfl) rfl rfl ?_; refine d_neu (n_load_ref rfl rfl rfl) rfl rfl ?_; refine d_neu (n_indexAddr rfl (.pure _ _ _ _) rfl (by omega) h4) rfl rfl ?_; refine d_neu (n_load_eref rfl rfl) rfl rfl ?_; refine d_neu (n_neq rfl rfl) rfl rfl ?_; refine d_nil ?_
    refine k1 ?_
    refine c_cond rfl (fun ht => ?_) (fun ht => ?_)
    · exact absurd (of_decide_eq_true ht) (by simp)
    refine k5 ?_; refine k4 ?_; refine k1 ?_
    refine c_region ?_; refine l_neu (n_add rfl rfl (by omega)) rfl ?_; refine l_neu (n_move rfl rfl) rfl ?_; refine l_nil ?_
    refine k1 ?_
    exact ⟨k + 1, hlt, by omega, Sees.of ⟨le1 rfl, le1 rfl, le1 rfl, le1 rfl, le1 rfl, trivial⟩ trivial⟩
  · refine k6 ?_; refine k2 ?_
    refine c_region ?_; refine l_neu (n_assign rfl rfl) rfl ?_; refine l_nil ?_
    refine k1 ?_; refine k10 ?_
    exact ret_ret (ret1 rfl rfl rfl) rfl
end Go.Proofs.YtjjidificdmnmaaDoor
namespace Go.Proofs.YtjjidificdmnmaaDoor
open Go Go.AL
set_option maxRecDepth 100000
theorem fit_pairs {x y : List Str} {names : List Str} {l : List Change} (h : ScFit x y l) : ∀ p ∈ matchedOf l ((idsOf names x).length : Int), PairAt (idsOf names x) (idsOf names y) p := by
  intro p hp
  rw [show ((idsOf names x).length : Int) = x.length by simp [idsOf]] at hp
  obtain ⟨h1, h2, v, h3, h4⟩ := h.pairs p hp
  refine ⟨h1, h2, placeOf names v 0, ?_, ?_⟩
  · unfold idsOf; rw [List.getElem?_map, h3]; rfl
  · unfold idsOf; rw [List.getElem?_map, h4]; rfl
end Go.Proofs.YtjjidificdmnmaaDoor
namespace Go.Proofs.YtjjidificdmnmaaDoor
open Go Go.AL
set_option maxRecDepth 100000
abbrev tI (i : Int) : S1 := .one (.p (.v (.int .i64 i)))
abbrev tIs (l : List Int) : S1 := .one (.p (.list Int 1 intC l))
abbrev tB (b : Bool) : S1 := .one (.p (.v (.bool b)))
abbrev mvO (l : List Change) (a b : List Int) : Obs := [(700, .box [.mut 701, .p (.list Int 1 intC a), .p (.list Int 1 intC b)]), (701, .grow 100 Change 4 changeC l)]
def sideS (c : Change) (a b : List Int) : List S1 := if c.NewLen = 0 then [tIs a, tI c.Old, tI c.OldLen, tB true] else if c.OldLen = 0 then [tIs b, tI c.New, tI c.NewLen, tB true] else [.one (.p (.v (.slice none 0 0))), tI 0, tI 0, tB false]
theorem region_met {gf : Fr} (l : List Change) (a b : List Int) (k : Nat) (c : Change) (hv : l[k]? = some c) :
    AL.Met Tryd.prog 68 [.one (.ref 700 0), tI k] gf (mvO l a b) [708] (fun rs ob' => rs = sideS c a b ∧ ob' = mvO l a b) := by
  have hk := (List.getElem?_eq_some_iff.1 hv).1
  refine AL.Met.intro Tryd.func68 (by decide) rfl rfl rfl ?_
  refine k2 ?_
  refine c_region ?_; refine l_neu (n_assign rfl rfl) rfl ?_; refine l_neu (n_assign rfl rfl) rfl ?_; refine l_neu (n_assign rfl rfl) rfl ?_; refine l_neu (n_assign rfl rfl) rfl ?_; refine l_nil ?_
  refine k1 ?_; refine k2 ?_
  refine c_region ?_; refine l_neu (n_move rfl rfl) rfl ?_; refine l_neu (n_nilCheck_ref rfl) rfl ?_; refine l_neu (n_field_ref rfl) rfl ?_; refine l_neu (n_load_ref rfl rfl rfl) rfl ?_; refine l_neu (n_move rfl rfl) rfl ?_; refine l_neu (n_indexAddr_g rfl rfl rfl (by omega) (by omega)) rfl ?_; refine l_neu (n_loads_g rfl rfl hv rfl) rfl ?_; refine l_effv (e_alloc 708 rfl (by decide)) rfl ?_; refine l_eff (e_store_ref TySz.out rfl rfl rfl rfl rfl rfl) ?_; refine l_nil ?_
  refine k1 ?_; refine k2 ?_; refine k3 ?_; refine k2 ?_
  refine c_region ?_; refine l_neu (n_field_ref rfl) rfl ?_; refine l_neu (n_load_ref rfl rfl rfl) rfl ?_; refine l_neu (n_eql rfl rfl) rfl ?_; refine l_neu (n_assign rfl rfl) rfl ?_; refine l_nil ?_
  refine k1 ?_
  refine c_cond rfl (fun ht => ?_) (fun ht => ?_)
  · have h1 := of_decide_eq_true ht
    refine k2 ?_
    refine c_region_draw (by kernel_rfl) (by kernel_rfl) ?_; refine d_neu (n_move rfl rfl) rfl rfl ?_; refine d_neu (n_nilCheck_ref rfl) rfl rfl ?_; refine d_neu (n_field_ref rfl) rfl rfl ?_; refine d_neu (n_load_ref rfl rfl rfl) rfl rfl ?_; refine d_neu (n_field_ref rfl) rfl rfl ?_; refine d_neu (n_load_ref rfl rfl rfl) rfl rfl ?_; refine d_neu (n_field_ref rfl) rfl rfl ?_; refine d_neu (n_load_ref rfl rfl rfl) rfl rfl ?_; refine d_neu (n_assign rfl rfl) rfl rfl ?_; refine d_neu (n_assign rfl rfl) rfl rfl ?_; refine d_neu (n_assign rfl rfl) rfl rfl ?_; refine d_neu (n_assign rfl rfl) rfl rfl ?_; refine d_nil ?_
    refine k1 ?_; refine k10 ?_; refine k12 ?_; refine k11 ?_
    exact met_ret (rets4 rfl rfl rfl rfl rfl) (by repeat (first | exact tail_refl | refine tail_cons rfl ?_ | refine tail_forget _ ?_)) (ObIn.spec (ob' := mvO l a b) ⟨rfl, rfl, trivial⟩) ⟨by unfold sideS; rw [if_pos h1]; rfl, rfl⟩
  · have h1 := of_decide_eq_false ht
    refine k2 ?_
    refine c_region ?_; refine l_neu (n_field_ref rfl) rfl ?_; refine l_neu (n_load_ref rfl rfl rfl) rfl ?_; refine l_neu (n_eql rfl rfl) rfl ?_; refine l_neu (n_assign rfl rfl) rfl ?_; refine l_nil ?_
    refine k1 ?_
    refine c_cond rfl (fun ht => ?_) (fun ht => ?_)
    · have h2 := of_decide_eq_true ht
      refine k2 ?_
      refine c_region_draw (by kernel_rfl) (by kernel_rfl) ?_; refine d_neu (n_move rfl rfl) rfl rfl ?_; refine d_neu (n_nilCheck_ref rfl) rfl rfl ?_; refine d_neu (n_field_ref rfl) rfl rfl ?_; refine d_neu (n_load_ref rfl rfl rfl) rfl rfl ?_; refine d_neu (n_field_ref rfl) rfl rfl ?_; refine d_neu (n_load_ref rfl rfl rfl) rfl rfl ?_; refine d_neu (n_field_ref rfl) rfl rfl ?_; refine d_neu (n_load_ref rfl rfl rfl) rfl rfl ?_; refine d_neu (n_assign rfl rfl) rfl rfl ?_; refine d_neu (n_assign rfl rfl) rfl rfl ?_; refine d_neu (n_assign rfl rfl) rfl rfl ?_; refine d_neu (n_assign rfl rfl) rfl rfl ?_; refine d_nil ?_
      refine k1 ?_; refine k10 ?_; refine k12 ?_; refine k11 ?_
      exact met_ret (rets4 rfl rfl rfl rfl rfl) (by repeat (first | exact tail_refl | refine tail_cons rfl ?_ | refine tail_forget _ ?_)) (ObIn.spec (ob' := mvO l a b) ⟨rfl, rfl, trivial⟩) ⟨by unfold sideS; rw [if_neg h1, if_pos h2]; rfl, rfl⟩
    · have h2 := of_decide_eq_false ht
      refine k5 ?_; refine k2 ?_
      refine c_region ?_; refine l_neu (n_assign rfl rfl) rfl ?_; refine l_neu (n_assign rfl rfl) rfl ?_; refine l_neu (n_assign rfl rfl) rfl ?_; refine l_neu (n_assign rfl rfl) rfl ?_; refine l_nil ?_
      refine k1 ?_; refine k10 ?_
      exact met_ret (rets4 rfl rfl rfl rfl rfl) (by repeat (first | exact tail_refl | refine tail_cons rfl ?_ | refine tail_forget _ ?_)) (ObIn.spec (ob' := mvO l a b) ⟨rfl, rfl, trivial⟩) ⟨by unfold sideS; rw [if_neg h1, if_neg h2], rfl⟩
theorem end_met {gf : Fr} (l : List Change) (a b : List Int) (k : Nat) (c : Change) (hv : l[k]? = some c) (h1 : 0 ≤ c.Old ∧ c.Old ≤ 4096) (h2 : 0 ≤ c.OldLen ∧ c.OldLen ≤ 4096) :
    AL.Met Tryd.prog 69 [.one (.ref 700 0), tI k] gf (mvO l a b) [] (fun rs ob' => rs = [tI (c.Old + c.OldLen)] ∧ ob' = mvO l a b) := by
  have hk := (List.getElem?_eq_some_iff.1 hv).1
  refine AL.Met.intro Tryd.func69 (by decide) rfl rfl rfl ?_
  refine k2 ?_
  refine c_region ?_; refine l_neu (n_assign rfl rfl) rfl ?_; refine l_nil ?_
  refine k1 ?_; refine k2 ?_
  refine c_region_draw (by kernel_rfl) (by kernel_rfl) ?_; refine d_neu (n_move rfl rfl) rfl rfl ?_; refine d_neu (n_nilCheck_ref rfl) rfl rfl ?_; refine d_neu (n_field_ref rfl) rfl rfl ?_; refine d_neu (n_load_ref rfl rfl rfl) rfl rfl ?_; refine d_neu (n_move rfl rfl) rfl rfl ?_; refine d_neu (n_indexAddr_g rfl rfl rfl (by omega) (by omega)) rfl rfl ?_; refine d_neu (n_field_mref rfl) rfl rfl ?_; refine d_neu (n_load_g rfl rfl hv rfl) rfl rfl ?_; refine d_neu (n_move rfl rfl) rfl rfl ?_; refine d_neu (n_nilCheck_ref rfl) rfl rfl ?_; refine d_neu (n_field_ref rfl) rfl rfl ?_; refine d_neu (n_load_ref rfl rfl rfl) rfl rfl ?_; refine d_neu (n_move rfl rfl) rfl rfl ?_; refine d_neu (n_indexAddr_g rfl rfl rfl (by omega) (by omega)) rfl rfl ?_; refine d_neu (n_field_mref rfl) rfl rfl ?_; refine d_neu (n_load_g rfl rfl hv rfl) rfl rfl ?_; refine d_neu (n_add rfl rfl (by omega)) rfl rfl ?_; refine d_neu (n_assign rfl rfl) rfl rfl ?_; refine d_nil ?_
  refine k1 ?_; refine k10 ?_
  exact met_ret (rets1 rfl rfl) (by repeat (first | exact tail_refl | refine tail_cons rfl ?_ | refine tail_forget _ ?_)) (ObIn.spec (ob' := mvO l a b) ⟨rfl, rfl, trivial⟩) ⟨rfl, rfl⟩
theorem sdown_met {gf : Fr} (l : List Change) (a b : List Int) (k : Nat) (hk : k < l.length) (hl : l.length ≤ 32768) (ha : a.length ≤ 4096) (hb : b.length ≤ 4096) (hsc : scriptGo 0 0 0 l a.length b.length = true) :
    AL.Met Tryd.prog 41 [.one (.ref 700 0), tI k] gf (mvO l a b) [708] (fun rs ob' => rs = [tB (canDown l a b k)] ∧ ob' = mvO (if canDown l a b k = true then movedOf l k else l) a b) := by
  have hok := scriptGo_ok _ _ _ _ _ _ hsc
  obtain ⟨c, hc⟩ : ∃ c, c = cAt l k := ⟨_, rfl⟩
  have hv : l[k]? = some c := by rw [hc]; exact cAt_get hk
  have hg := hok.get k hk
  rw [← hc] at hg
  obtain ⟨c1, c2, c3, c4, c5, c6⟩ := hg
  unfold in81 at c1 c2 c3 c4
  have hnx : k + 1 < l.length → l[k + 1]? = some (cAt l (k + 1)) ∧ 0 ≤ (cAt l (k + 1)).Old ∧ (cAt l (k + 1)).Old ≤ a.length := fun h => by
    have := hok.get (k + 1) h
    unfold in81 at this
    exact ⟨cAt_get h, this.1.1, by omega⟩
  have hnx' : k + 1 < l.length → l[((k : Int) + 1).toNat]? = some (cAt l (k + 1)) := fun h => by
    rw [show ((k : Int) + 1).toNat = k + 1 by omega]; exact cAt_get h
  obtain ⟨z, hz⟩ : ∃ z : Int, z = if k + 1 < l.length then (cAt l (k + 1)).Old - (c.Old + c.OldLen) - 1 else a.length - (c.Old + c.OldLen) := ⟨_, rfl⟩
  have hge := sc_end _ _ _ 0 0 0 hsc
  have hcase : (∃ (t : List Int) (f n : Int), sideS c a b = [tIs t, tI f, tI n, tB true] ∧ canDown l a b k = decide (1 ≤ z ∧ atI t f = atI t (f + n)) ∧ t.length ≤ 4096 ∧ 0 ≤ f ∧ 0 ≤ n ∧ (1 ≤ z → f + n < t.length)) ∨ (sideS c a b = [.one (.p (.v (.slice none 0 0))), tI 0, tI 0, tB false] ∧ canDown l a b k = false) := by
    have hzr : (1 ≤ z ↔ (k + 1 = l.length ∨ c.Old + c.OldLen + 1 < (cAt l (k + 1)).Old) ∧ c.Old + c.OldLen < a.length) ∧ (1 ≤ z ↔ (k + 1 = l.length ∨ c.Old + c.OldLen + 1 < (cAt l (k + 1)).Old) ∧ c.New + c.NewLen < b.length) := by
      by_cases q : k + 1 < l.length
      · rw [if_pos q] at hz
        have g1 := hnx q
        have g2 := hok.get (k + 1) q
        have g3 := sc_get _ _ _ 0 0 0 hsc (k + 1) q
        rw [eoI_succ, enI_succ, ← hc] at g3
        unfold in81 endC endN at g3
        unfold in81 at g2
        omega
      · rw [if_neg q] at hz
        have q2 : l.length = k + 1 := by omega
        rw [q2, eoI_succ, enI_succ, ← hc] at hge
        unfold endC endN at hge
        omega
    unfold sideS canDown
    rw [← hc]
    by_cases h1 : c.NewLen = 0
    · rw [if_pos h1, if_pos h1]
      refine .inl ⟨_, _, _, rfl, ?_, ha, c1.1, c2.1, fun h => (hzr.1.1 h).2⟩
      have e : downT l k a c.Old c.OldLen ↔ 1 ≤ z ∧ atI a c.Old = atI a (c.Old + c.OldLen) := by
        unfold downT
        rw [← hc, hzr.1]
        constructor
        · rintro ⟨⟨q1, q2⟩, q3⟩; exact ⟨⟨q3, q1⟩, q2⟩
        · rintro ⟨⟨q3, q1⟩, q2⟩; exact ⟨⟨q1, q2⟩, q3⟩
      simp only [e]
    · rw [if_neg h1, if_neg h1]
      by_cases h2 : c.OldLen = 0
      · rw [if_pos h2, if_pos h2]
        refine .inl ⟨_, _, _, rfl, ?_, hb, c3.1, c4.1, fun h => (hzr.2.1 h).2⟩
        have e : downT l k b c.New c.NewLen ↔ 1 ≤ z ∧ atI b c.New = atI b (c.New + c.NewLen) := by
          unfold downT
          rw [← hc, hzr.2]
          constructor
          · rintro ⟨⟨q1, q2⟩, q3⟩; exact ⟨⟨q3, q1⟩, q2⟩
          · rintro ⟨⟨q3, q1⟩, q2⟩; exact ⟨⟨q1, q2⟩, q3⟩
        simp only [e]
      · rw [if_neg h2, if_neg h2]; exact .inr ⟨rfl, rfl⟩
  rcases hcase with ⟨t, f, n, hr, hcd, ht4, f0, n0, fn⟩ | ⟨hr, hcd⟩
  · have hrm := fun gf => region_met (gf := gf) l a b k c hv
    rw [hr] at hrm
    have hat : ∀ i : Int, 0 ≤ i → i < t.length → t[i.toNat]? = some (atI t i) := fun i h0 h1 => by
      unfold atI; rw [List.getD_eq_getElem?_getD, List.getElem?_eq_getElem (show i.toNat < t.length by omega)]; rfl
    refine AL.Met.introH Tryd.func41 (by decide) rfl rfl rfl (fun hH => ?_)
    refine k2 ?_
    refine c_region ?_; refine l_neu (n_assign rfl rfl) rfl ?_; refine l_nil ?_
    refine k1 ?_; refine k2 ?_
    refine c_region ?_; refine l_neu (n_move rfl rfl) rfl ?_; refine l_neu (n_move rfl rfl) rfl ?_; refine l_met (hrm _) rfl rfl rfl ?_; rintro _ _ ⟨rfl, rfl⟩; refine l_neu (n_move rfl rfl) rfl ?_; refine l_neu (n_extract rfl rfl) rfl ?_; refine l_neu (n_extract rfl rfl) rfl ?_; refine l_neu (n_extract rfl rfl) rfl ?_; refine l_neu (n_extract rfl rfl) rfl ?_; refine l_neu (n_assign rfl rfl) rfl ?_; refine l_neu (n_assign rfl rfl) rfl ?_; refine l_neu (n_assign rfl rfl) rfl ?_; refine l_neu (n_assign rfl rfl) rfl ?_; refine l_nil ?_
    refine k1 ?_; refine k2 ?_; refine k2 ?_
    refine c_region ?_; refine l_neu (n_move rfl rfl) rfl ?_; refine l_neu (n_not rfl) rfl ?_; refine l_nil ?_
    refine k1 ?_
    refine c_cond rfl (fun ht => ?_) (fun ht => ?_)
    · cases ht
    refine k5 ?_; refine k1 ?_; refine k2 ?_
    refine c_cut ([(0, .s (.one (.ref 700 0))), (1, sInt k), (5, sList Int 1 intC t), (6, sInt f), (7, sInt n)] ++ Fr.forget 708 gf) (mvO l a b) (Sees.tailed ⟨le1 rfl, le1 rfl, le1 rfl, le1 rfl, le1 rfl, trivial⟩ (high_forget hH) (by repeat (first | exact tail_refl | refine tail_drop rfl ?_ | refine tail_cons rfl ?_ | refine tail_forget' _ ?_)) (ObIn.spec (ob' := mvO l a b) ⟨rfl, rfl, trivial⟩)) ?_
    refine c_region_ord [7] [[], [7]] [(7, ([], []))] [(0, []), (1, []), (2, []), (3, []), (4, []), (5, []), (6, []), (7, []), (8, [7]), (9, [7])] [(0, [7]), (1, [7]), (2, [7]), (3, [7]), (4, [7])] (by kernel_rfl) (by kernel_rfl) ?_; refine w_neu rfl rfl rfl rfl rfl (n_move rfl rfl) ?_; refine w_neu rfl rfl rfl rfl rfl (n_nilCheck_ref rfl) ?_; refine w_neu rfl rfl rfl rfl rfl (n_field_ref rfl) ?_; refine w_neu rfl rfl rfl rfl rfl (n_load_ref rfl rfl rfl) ?_; refine w_neu rfl rfl rfl rfl rfl (n_len rfl (.pure _ _ _ _)) ?_; refine w_neu rfl rfl rfl rfl rfl (n_move rfl rfl) ?_; refine w_neu rfl rfl rfl rfl rfl (n_move rfl rfl) ?_; refine w_eff rfl rfl rfl rfl rfl (r_met (fun gf => end_met l a b k c hv c1 c2) rfl rfl) rfl ?_; refine w_neu rfl rfl rfl rfl rfl (n_sub rfl rfl (by omega)) ?_; refine w_neu rfl rfl rfl rfl rfl (n_assign rfl rfl) ?_; refine w_nil rfl rfl ?_ ?_
    · refine x_neu rfl rfl rfl rfl rfl (n_move rfl rfl) ?_; refine x_neu rfl rfl rfl rfl rfl (n_nilCheck_ref rfl) ?_; refine x_neu rfl rfl rfl rfl rfl (n_field_ref rfl) ?_; refine x_neu rfl rfl rfl rfl rfl (n_load_ref rfl rfl rfl) ?_; refine x_neu rfl rfl rfl rfl rfl (n_len rfl (.pure _ _ _ _)) ?_; exact x_nil
    refine then_normal ?_
    refine c_cut ([(0, .s (.one (.ref 700 0))), (1, sInt k), (5, sList Int 1 intC t), (6, sInt f), (7, sInt n), (9, sInt ((a.length : Int) - (c.Old + c.OldLen)))] ++ Fr.forget 708 gf) (mvO l a b) (Sees.tailed ⟨le1 rfl, le1 rfl, le1 rfl, le1 rfl, le1 rfl, le1 rfl, trivial⟩ (high_forget hH) (by repeat (first | exact tail_refl | refine tail_drop rfl ?_ | refine tail_cons rfl ?_ | refine tail_forget' _ ?_)) (ObIn.spec (ob' := mvO l a b) ⟨rfl, rfl, trivial⟩)) ?_
    refine c_join ([(0, .s (.one (.ref 700 0))), (1, sInt k), (5, sList Int 1 intC t), (6, sInt f), (7, sInt n), (9, sInt z)] ++ Fr.forget 708 gf) (mvO l a b) ?_ ?_
    · refine k2 ?_
      refine c_region ?_; refine l_neu (n_move rfl rfl) rfl ?_; refine l_neu (n_add rfl rfl (by omega)) rfl ?_; refine l_neu (n_move rfl rfl) rfl ?_; refine l_neu (n_nilCheck_ref rfl) rfl ?_; refine l_neu (n_field_ref rfl) rfl ?_; refine l_neu (n_load_ref rfl rfl rfl) rfl ?_; refine l_neu (n_len_g rfl rfl) rfl ?_; refine l_neu (n_lss rfl rfl) rfl ?_; refine l_nil ?_
      refine k1 ?_
      refine c_cond rfl (fun ht => ?_) (fun ht => ?_)
      · have h1 : k + 1 < l.length := by have := of_decide_eq_true ht; omega
        have hn1 := hnx h1
        rw [if_pos h1] at hz
        skip
        refine c_region_ord [11] [[], [11]] [(11, ([], []))] [(0, []), (1, []), (2, []), (3, []), (4, []), (5, []), (6, []), (7, []), (8, []), (9, []), (10, []), (11, []), (12, [11]), (13, [11]), (14, [11])] [(0, [11]), (1, [11]), (2, [11]), (3, [11]), (4, [11]), (5, [11]), (6, [11]), (7, [11]), (8, [11])] (by kernel_rfl) (by kernel_rfl) ?_; refine w_neu rfl rfl rfl rfl rfl (n_move rfl rfl) ?_; refine w_neu rfl rfl rfl rfl rfl (n_nilCheck_ref rfl) ?_; refine w_neu rfl rfl rfl rfl rfl (n_field_ref rfl) ?_; refine w_neu rfl rfl rfl rfl rfl (n_load_ref rfl rfl rfl) ?_; refine w_neu rfl rfl rfl rfl rfl (n_move rfl rfl) ?_; refine w_neu rfl rfl rfl rfl rfl (n_add rfl rfl (by omega)) ?_; refine w_neu rfl rfl rfl rfl rfl (n_indexAddr_g rfl rfl rfl (by omega) (by omega)) ?_; refine w_neu rfl rfl rfl rfl rfl (n_field_mref rfl) ?_; refine w_neu rfl rfl rfl rfl rfl (n_load_g rfl rfl (hnx' h1) rfl) ?_; refine w_neu rfl rfl rfl rfl rfl (n_move rfl rfl) ?_; refine w_neu rfl rfl rfl rfl rfl (n_move rfl rfl) ?_; refine w_eff rfl rfl rfl rfl rfl (r_met (fun gf => end_met l a b k c hv c1 c2) rfl rfl) rfl ?_; refine w_neu rfl rfl rfl rfl rfl (n_sub rfl rfl (by omega)) ?_; refine w_neu rfl rfl rfl rfl rfl (n_sub rfl rfl (by omega)) ?_; refine w_neu rfl rfl rfl rfl rfl (n_assign rfl rfl) ?_; refine w_nil rfl rfl ?_ ?_
        · refine x_neu rfl rfl rfl rfl rfl (n_move rfl rfl) ?_; refine x_neu rfl rfl rfl rfl rfl (n_nilCheck_ref rfl) ?_; refine x_neu rfl rfl rfl rfl rfl (n_field_ref rfl) ?_; refine x_neu rfl rfl rfl rfl rfl (n_load_ref rfl rfl rfl) ?_; refine x_neu rfl rfl rfl rfl rfl (n_move rfl rfl) ?_; refine x_neu rfl rfl rfl rfl rfl (n_add rfl rfl (by omega)) ?_; refine x_neu rfl rfl rfl rfl rfl (n_indexAddr_g rfl rfl rfl (by omega) (by omega)) ?_; refine x_neu rfl rfl rfl rfl rfl (n_field_mref rfl) ?_; refine x_neu rfl rfl rfl rfl rfl (n_load_g rfl rfl (hnx' h1) rfl) ?_; exact x_nil
        refine k1 ?_
        rw [hz]
        exact (Sees.tailed ⟨le1 rfl, le1 rfl, le1 rfl, le1 rfl, le1 rfl, le1 rfl, trivial⟩ (high_forget hH) (by repeat (first | exact tail_refl | refine tail_drop rfl ?_ | refine tail_cons rfl ?_ | refine tail_forget' _ ?_)) (ObIn.spec (ob' := mvO l a b) ⟨rfl, rfl, trivial⟩))
      · have h1 : ¬ k + 1 < l.length := by have := of_decide_eq_false ht; omega
        rw [if_neg h1] at hz
        refine k5 ?_; refine k1 ?_
        rw [hz]
        exact (Sees.tailed ⟨le1 rfl, le1 rfl, le1 rfl, le1 rfl, le1 rfl, le1 rfl, trivial⟩ (high_forget hH) (by repeat (first | exact tail_refl | refine tail_drop rfl ?_ | refine tail_cons rfl ?_ | refine tail_forget' _ ?_)) (ObIn.spec (ob' := mvO l a b) ⟨rfl, rfl, trivial⟩))
    · refine k2 ?_; refine k2 ?_
      refine c_region_draw (by kernel_rfl) (by kernel_rfl) ?_; refine d_neu (n_move rfl rfl) rfl rfl ?_; refine d_neu (n_lss rfl rfl) rfl rfl ?_; refine d_neu (n_move rfl rfl) rfl rfl ?_; refine d_guard rfl rfl (fun hg => by rw [hg]; exact n_move rfl rfl) rfl rfl ?_; refine d_guard rfl rfl (fun hg => by rw [hg]; exact n_move rfl rfl) rfl rfl ?_; refine d_guard rfl rfl (fun hg => by have hq := hg; (try simp at hq); rw [hg]; exact n_indexAddr rfl (.pure _ _ _ _) rfl (by omega) (hat f f0 (by have := fn (by omega); omega))) rfl rfl ?_; refine d_guard rfl rfl (fun hg => by rw [hg]; exact n_load_eref rfl rfl) rfl rfl ?_; refine d_guard rfl rfl (fun hg => by rw [hg]; exact n_move rfl rfl) rfl rfl ?_; refine d_guard rfl rfl (fun hg => by rw [hg]; exact n_move rfl rfl) rfl rfl ?_; refine d_guard rfl rfl (fun hg => by rw [hg]; exact n_move rfl rfl) rfl rfl ?_; refine d_guard rfl rfl (fun hg => by have hq := hg; (try simp at hq); rw [hg]; exact n_add rfl rfl (by omega)) rfl rfl ?_; refine d_guard rfl rfl (fun hg => by have hq := hg; (try simp at hq); rw [hg]; exact n_indexAddr rfl (.pure _ _ _ _) rfl (by omega) (hat (f + n) (by omega) (by have := fn (by omega); omega))) rfl rfl ?_; refine d_guard rfl rfl (fun hg => by rw [hg]; exact n_load_eref rfl rfl) rfl rfl ?_; refine d_guard rfl rfl (fun hg => by rw [hg]; exact n_neq rfl rfl) rfl rfl ?_; refine d_neu (n_pick_bool rfl (fun h => by first | rfl | (rw [h]; rfl)) (fun h => by first | rfl | (rw [h]; rfl))) rfl rfl ?_; refine d_nil ?_
      refine k1 ?_
      refine c_cond rfl (fun ht => ?_) (fun ht => ?_)
      · have h1 : ¬ (1 ≤ z ∧ atI t f = atI t (f + n)) := by
          rintro ⟨q1, q2⟩
          simp [q2] at ht
          omega
        rw [hcd, decide_eq_false h1]
        refine k2 ?_
        refine c_region ?_; refine l_neu (n_assign rfl rfl) rfl ?_; refine l_nil ?_
        refine k1 ?_; refine k10 ?_; refine k11 ?_
        exact met_ret (rets1 rfl rfl) (by repeat (first | exact tail_refl | refine tail_cons rfl ?_ | refine tail_forget _ ?_)) (ObIn.spec (ob' := mvO l a b) ⟨rfl, rfl, trivial⟩) ⟨rfl, rfl⟩
      · have h1 : 1 ≤ z := Classical.byContradiction fun q => by simp [show z < 1 by omega] at ht
        have h2 : atI t f = atI t (f + n) := Classical.byContradiction fun q => by simp [q] at ht
        rw [hcd, decide_eq_true (show 1 ≤ z ∧ atI t f = atI t (f + n) from ⟨h1, h2⟩)]
        rw [if_pos rfl]
        obtain ⟨c', hc'⟩ : ∃ c' : Change, c' = { c with Old := c.Old + 1 } := ⟨_, rfl⟩
        have hv' : (l.set k c')[k]? = some c' := List.getElem?_set_self hk
        have hfin : (l.set k c').set k ({ c' with New := c'.New + 1 } : Change) = movedOf l k := by
          rw [List.set_set]; unfold movedOf; rw [← hc, hc']; rfl
        have hl' : (l.set k c').length = l.length := by simp
        refine k5 ?_; refine k1 ?_; refine k2 ?_
        refine c_region ?_; refine l_neu (n_move rfl rfl) rfl ?_; refine l_neu (n_nilCheck_ref rfl) rfl ?_; refine l_neu (n_field_ref rfl) rfl ?_; refine l_neu (n_load_ref rfl rfl rfl) rfl ?_; refine l_neu (n_move rfl rfl) rfl ?_; refine l_neu (n_indexAddr_g rfl rfl rfl (by omega) (by omega)) rfl ?_; refine l_neu (n_field_mref rfl) rfl ?_; refine l_neu (n_load_g rfl rfl hv rfl) rfl ?_; refine l_neu (n_add rfl rfl (by omega)) rfl ?_; refine l_neu (n_indexAddr_g rfl rfl rfl (by omega) (by omega)) rfl ?_; refine l_neu (n_field_mref rfl) rfl ?_; refine l_eff (e_store_g (({ c with Old := c.Old + 1 } : Change)) TySz.out rfl rfl hv rfl rfl rfl rfl (fun _ _ _ h => all2_unp h) (by intro j h1 h2; rcases j with _ | _ | _ | _ | _ | _ | _ | j <;> first | rfl | omega)) ?_; refine l_nil ?_
        rw [Int.toNat_natCast, ← hc']
        refine k1 ?_; refine k2 ?_
        refine c_region ?_; refine l_neu (n_move rfl rfl) rfl ?_; refine l_neu (n_nilCheck_ref rfl) rfl ?_; refine l_neu (n_field_ref rfl) rfl ?_; refine l_neu (n_load_ref rfl rfl rfl) rfl ?_; refine l_neu (n_move rfl rfl) rfl ?_; refine l_neu (n_indexAddr_g rfl rfl rfl (by omega) (by (rw [hl']; omega))) rfl ?_; refine l_neu (n_field_mref rfl) rfl ?_; refine l_neu (n_load_g rfl rfl hv' rfl) rfl ?_; refine l_neu (n_add rfl rfl (by (rw [hc']; dsimp only; omega))) rfl ?_; refine l_neu (n_indexAddr_g rfl rfl rfl (by omega) (by (rw [hl']; omega))) rfl ?_; refine l_neu (n_field_mref rfl) rfl ?_; refine l_eff (e_store_g (({ c' with New := c'.New + 1 } : Change)) TySz.out rfl rfl hv' rfl rfl rfl rfl (fun _ _ _ h => all2_unp h) (by intro j h1 h2; rcases j with _ | _ | _ | _ | _ | _ | _ | j <;> first | rfl | omega)) ?_; refine l_nil ?_
        rw [Int.toNat_natCast, hfin]
        refine k1 ?_; refine k2 ?_
        refine c_region ?_; refine l_neu (n_assign rfl rfl) rfl ?_; refine l_nil ?_
        refine k1 ?_; refine k10 ?_
        exact met_ret (rets1 rfl rfl) (by repeat (first | exact tail_refl | refine tail_cons rfl ?_ | refine tail_forget _ ?_)) (ObIn.spec (ob' := mvO (movedOf l k) a b) ⟨rfl, rfl, trivial⟩) ⟨rfl, rfl⟩
  · have hrm := fun gf => region_met (gf := gf) l a b k c hv
    rw [hr] at hrm
    rw [hcd]
    refine AL.Met.intro Tryd.func41 (by decide) rfl rfl rfl ?_
    refine k2 ?_
    refine c_region ?_; refine l_neu (n_assign rfl rfl) rfl ?_; refine l_nil ?_
    refine k1 ?_; refine k2 ?_
    refine c_region ?_; refine l_neu (n_move rfl rfl) rfl ?_; refine l_neu (n_move rfl rfl) rfl ?_; refine l_met (hrm _) rfl rfl rfl ?_; rintro _ _ ⟨rfl, rfl⟩; refine l_neu (n_move rfl rfl) rfl ?_; refine l_neu (n_extract rfl rfl) rfl ?_; refine l_neu (n_extract rfl rfl) rfl ?_; refine l_neu (n_extract rfl rfl) rfl ?_; refine l_neu (n_extract rfl rfl) rfl ?_; refine l_neu (n_assign rfl rfl) rfl ?_; refine l_neu (n_assign rfl rfl) rfl ?_; refine l_neu (n_assign rfl rfl) rfl ?_; refine l_neu (n_assign rfl rfl) rfl ?_; refine l_nil ?_
    refine k1 ?_; refine k2 ?_; refine k2 ?_
    refine c_region ?_; refine l_neu (n_move rfl rfl) rfl ?_; refine l_neu (n_not rfl) rfl ?_; refine l_nil ?_
    refine k1 ?_
    refine c_cond rfl (fun ht => ?_) (fun ht => ?_)
    · refine k2 ?_
      refine c_region ?_; refine l_neu (n_assign rfl rfl) rfl ?_; refine l_nil ?_
      refine k1 ?_; refine k10 ?_; refine k11 ?_
      exact met_ret (rets1 rfl rfl) (by repeat (first | exact tail_refl | refine tail_cons rfl ?_ | refine tail_forget _ ?_)) (ObIn.spec (ob' := mvO l a b) ⟨rfl, rfl, trivial⟩) ⟨rfl, rfl⟩
    · cases ht
theorem often_met {gf : Fr} {x y : List Str} {a b : List Int} (ia : IdsOf x a) (ib : IdsOf y b) (l : List Change) (k : Nat) (hk : k < l.length) (hl : l.length ≤ 32768) (h : ScFit x y l) :
    AL.Met Tryd.prog 40 [.one (.clo 41 [(700, 0)] []), tI k] gf (mvO l a b) [708] (fun rs ob' => (∃ n : Int, rs = [tI n]) ∧ ob' = mvO (slideOne a b l k) a b) := by
  have hla := ia.len
  have hlb := ib.len
  have hxl := h.lx
  have hyl := h.ly
  refine AL.Met.introH Tryd.func40 (by decide) rfl rfl rfl (fun hH => ?_)
  refine k2 ?_
  refine c_region ?_; refine l_neu (n_assign rfl rfl) rfl ?_; refine l_nil ?_
  refine k1 ?_; refine k2 ?_
  refine c_region ?_; refine l_neu (n_assign rfl rfl) rfl ?_; refine l_nil ?_
  refine k1 ?_; refine k2 ?_; refine k3 ?_
  refine c_sees (Sees.tailL 708 (l := [(0, .s (.one (.clo 41 [(700, 0)] []))), (1, sInt k), (5, sInt 0)]) (L := mvO l a b) ⟨le1 rfl, le1 rfl, le1 rfl, trivial⟩ hH (by repeat (first | exact tail_refl | refine tail_cons rfl ?_)) ⟨rfl, rfl, trivial⟩) ?_
  refine c_while (X := Nat × List Change) (fun s => ([(0, .s (.one (.clo 41 [(700, 0)] []))), (1, sInt k), (5, sInt s.1)] ++ Fr.forget 708 gf, mvO s.2 a b)) (fun s => s.2.length = l.length ∧ ScFit x y s.2 ∧ slideOne a b s.2 k = slideOne a b l k ∧ s.1 + measK s.2 a b k ≤ measK l a b k) (fun s => measK s.2 a b k) (0, l) ⟨rfl, h, rfl, by dsimp only; omega⟩ (Sees.tailed ⟨le1 rfl, le1 rfl, le1 rfl, trivial⟩ (high_forget hH) (by repeat (first | exact tail_refl | refine tail_cons rfl ?_)) (ObIn.spec (ob' := mvO l a b) ⟨rfl, rfl, trivial⟩)) ?_
  rintro ⟨n, l2⟩ ⟨hl2, hf2, hs2, hn⟩
  dsimp only at hl2 hf2 hs2 hn ⊢
  have hsc := hf2.sc
  rw [← hla, ← hlb] at hsc
  have hml : measK l a b k ≤ 16384 := by
    have := (scriptGo_ok _ _ _ _ _ _ h.sc).get k hk
    unfold measK
    obtain ⟨⟨q1, _⟩, _, ⟨q2, _⟩, _⟩ := this
    omega
  refine k2 ?_; refine k2 ?_
  refine c_region ?_; refine l_neu (n_move rfl rfl) rfl ?_; refine l_neu (n_move rfl rfl) rfl ?_; refine l_metF (sdown_met l2 a b k (by omega) (by omega) (by omega) (by omega) hsc) rfl rfl rfl rfl ?_; rintro _ _ ⟨rfl, rfl⟩; refine l_nil ?_
  refine k1 ?_
  refine c_cond rfl (fun ht => ?_) (fun ht => ?_)
  · have hm := meas_down ia ib hf2 (by omega) ht
    have hst := slideOne_down ia ib hf2 (by omega) ht
    rw [if_pos ht]
    refine k5 ?_; refine k1 ?_; refine k3 ?_
    refine c_region ?_; refine l_neu (n_move rfl rfl) rfl ?_; refine l_neu (n_add rfl rfl (by omega)) rfl ?_; refine l_neu (n_assign rfl rfl) rfl ?_; refine l_nil ?_
    refine k4 ?_; refine k1 ?_
    refine ⟨(n + 1, movedOf l2 k), ⟨by dsimp only; rw [movedOf_length]; exact hl2, hf2.down ia ib (by omega) ht, by dsimp only; rw [← hst]; exact hs2, by dsimp only; omega⟩, hm, ?_⟩
    exact Sees.tailed ⟨le1 rfl, le1 rfl, le1 rfl, trivial⟩ (high_forget hH) (by repeat (first | exact tail_refl | refine tail_drop rfl ?_ | refine tail_cons rfl ?_ | refine tail_forget' _ ?_)) (ObIn.spec (ob' := mvO (movedOf l2 k) a b) ⟨rfl, rfl, trivial⟩)
  · have hst := slideOne_stop (a := a) (b := b) ht
    rw [hst] at hs2
    have hif : (if canDown l2 a b k = true then movedOf l2 k else l2) = slideOne a b l k := by rw [← hs2, if_neg (by rw [ht]; decide)]
    rw [hif]
    refine k6 ?_; refine k2 ?_
    refine c_region ?_; refine l_neu (n_move rfl rfl) rfl ?_; refine l_neu (n_assign rfl rfl) rfl ?_; refine l_nil ?_
    refine k1 ?_; refine k10 ?_
    exact met_ret (rets1 rfl rfl) (by repeat (first | exact tail_refl | refine tail_cons rfl ?_ | refine tail_forget' _ ?_)) (ObIn.spec (ob' := mvO (slideOne a b l k) a b) ⟨rfl, rfl, trivial⟩) ⟨⟨_, rfl⟩, rfl⟩
theorem clone_met {gf : Fr} (l : List Change) (hl : l.length ≤ 1073741824) :
    AL.Met Tryd.prog 67 [.one (.p (.list Change 4 changeC l))] gf [] [701] (fun rs ob' => rs = [.one (.mut 701)] ∧ ob' = [(701, .grow 100 Change 4 changeC l)]) := by
  refine AL.Met.intro Tryd.func67 (by decide) rfl rfl rfl ?_
  refine k2 ?_
  refine c_region ?_; refine l_neu (n_assign rfl rfl) rfl ?_; refine l_nil ?_
  refine k1 ?_; refine k2 ?_; refine k2 ?_
  refine c_region ?_; refine l_neu (n_move rfl rfl) rfl ?_; (first | (refine l_neuP (n_eql_nil rfl (.pure _ _ _ _)) rfl ?_) | (refine l_neuP (n_eql_nil rfl (.buf _ _ _ _ _)) rfl ?_)); rintro _ ⟨b1, rfl, hnil⟩; refine l_nil ?_
  refine k1 ?_
  refine c_cond rfl (fun ht => ?_) (fun ht => ?_)
  · rw [hnil ht]
    refine k2 ?_
    refine c_region ?_; refine l_effv (e_adoptG 701 _ changeC rfl rfl) rfl ?_; refine l_nil ?_
    refine k1 ?_; refine k10 ?_; refine k11 ?_
    exact met_ret (rets1 rfl rfl) (by repeat (first | exact tail_refl | refine tail_cons rfl ?_ | refine tail_forget _ ?_)) (fun _ _ h => h) ⟨rfl, rfl⟩
  · refine k5 ?_; refine k1 ?_; refine k2 ?_
    refine c_region ?_; refine l_effv (e_buildG 701 _ changeC rfl rfl rfl) rfl ?_; refine l_neu (n_move rfl rfl) rfl ?_; refine l_effv (e_append_g rfl rfl rfl (.pure _ _ _ _) (by (simp; omega)) rfl) rfl ?_; refine l_neu (n_assign rfl rfl) rfl ?_; refine l_nil ?_
    simp only [List.nil_append]
    refine k1 ?_; refine k10 ?_
    exact met_ret (rets1 rfl rfl) (by (repeat refine tail_cons rfl ?_); refine tail_forget' _ ?_; (repeat refine tail_cons rfl ?_); refine tail_forget _ ?_; (repeat (first | exact tail_refl | refine tail_cons rfl ?_))) (ObIn.spec (ob' := [(701, .grow 100 Change 4 changeC l)]) ⟨rfl, trivial⟩) ⟨rfl, rfl⟩
theorem start_met {gf : Fr} (l : List Change) (a b : List Int) (hl : l.length ≤ 32768) (hc : check8 l a.length b.length = 0) (hp : ∀ p ∈ matchedOf l a.length, PairAt a b p) :
    AL.Met Tryd.prog 39 [.one (.p (.list Change 4 changeC l)), tIs a, tIs b] gf [] [701, 700] (fun rs ob' => rs = [.one (.ref 700 0), tI 0] ∧ ob' = mvO l a b) := by
  refine AL.Met.intro Tryd.func39 (by decide) rfl rfl rfl ?_
  refine k2 ?_
  refine c_region ?_; refine l_neu (n_assign rfl rfl) rfl ?_; refine l_neu (n_assign rfl rfl) rfl ?_; refine l_nil ?_
  refine k1 ?_; refine k2 ?_; refine k2 ?_
  refine c_region ?_; refine l_neu (n_move rfl rfl) rfl ?_; refine l_neu (n_move rfl rfl) rfl ?_; refine l_neu (n_move rfl rfl) rfl ?_; refine l_call (sFits_ok l a b hl hc hp) rfl rfl rfl ?_; rintro _ rfl; refine l_neu (n_not rfl) rfl ?_; refine l_nil ?_
  refine k1 ?_
  refine c_cond rfl (fun ht => ?_) (fun ht => ?_)
  · cases ht
  refine k5 ?_; refine k1 ?_; refine k2 ?_
  refine c_region ?_; refine l_neu (n_move rfl rfl) rfl ?_; refine l_met (clone_met l (by omega)) rfl rfl rfl ?_; rintro _ _ ⟨rfl, rfl⟩; refine l_neu (n_move rfl rfl) rfl ?_; refine l_neu (n_move rfl rfl) rfl ?_; refine l_neu (n_build rfl) rfl ?_; refine l_effv (e_box 700 rfl rfl rfl (by decide)) rfl ?_; refine l_neu (n_assign rfl rfl) rfl ?_; refine l_neu (n_assign rfl rfl) rfl ?_; refine l_nil ?_
  refine k1 ?_; refine k10 ?_
  exact met_ret (rets2 rfl rfl rfl) (by repeat (first | exact tail_refl | refine tail_cons rfl ?_ | refine tail_forget _ ?_)) (ObIn.spec (ob' := mvO l a b) ⟨rfl, rfl, trivial⟩) ⟨rfl, rfl⟩
theorem sDown_ok (x y names : List Str) (l : List Change) (h : ScFit x y l) (hl : l.length ≤ 32768) (hx : ∀ s ∈ x, s ∈ names) (hy : ∀ s ∈ y, s ∈ names) :
    FnOk Tryd.prog 23 [pChanges l, pInts (idsOf names x), pInts (idsOf names y)] (fun rs => rs = [pChanges (downOf l (idsOf names x) (idsOf names y)), pInt 0]) := by
  obtain ⟨a, ha⟩ : ∃ a, a = idsOf names x := ⟨_, rfl⟩
  obtain ⟨b, hb⟩ : ∃ b, b = idsOf names y := ⟨_, rfl⟩
  have hpp := fit_pairs (names := names) h
  have ia : IdsOf x a := by rw [ha]; exact idsOf_ids hx
  have ib : IdsOf y b := by rw [hb]; exact idsOf_ids hy
  rw [← ha, ← hb] at hpp ⊢
  have hla := ia.len
  have hlb := ib.len
  have hck := h.check
  rw [← hla, ← hlb] at hck
  refine FnOk.intro Tryd.func23 (by decide) rfl rfl rfl rfl ?_
  refine k2 ?_
  refine c_region ?_; refine l_neu (n_assign rfl rfl) rfl ?_; refine l_neu (n_assign rfl rfl) rfl ?_; refine l_nil ?_
  refine k1 ?_; refine k2 ?_
  refine c_region ?_; refine l_neu (n_move rfl rfl) rfl ?_; refine l_neu (n_move rfl rfl) rfl ?_; refine l_neu (n_move rfl rfl) rfl ?_; refine l_met (start_met l a b hl hck hpp) rfl rfl rfl ?_; rintro _ _ ⟨rfl, rfl⟩; refine l_neu (n_move rfl rfl) rfl ?_; refine l_neu (n_extract rfl rfl) rfl ?_; refine l_neu (n_extract rfl rfl) rfl ?_; refine l_neu (n_assign rfl rfl) rfl ?_; refine l_neu (n_assign rfl rfl) rfl ?_; refine l_nil ?_
  refine k1 ?_; refine k2 ?_; refine k2 ?_
  refine c_region ?_; refine l_neu (n_move rfl rfl) rfl ?_; refine l_neu (n_neq rfl rfl) rfl ?_; refine l_nil ?_
  refine k1 ?_
  refine c_cond rfl (fun ht => ?_) (fun ht => ?_)
  · cases ht
  refine k5 ?_; refine k1 ?_; refine k2 ?_; refine k2 ?_
  refine c_region ?_; refine l_neu (n_move rfl rfl) rfl ?_; refine l_neu (n_len rfl (.pure _ _ _ _)) rfl ?_; refine l_neu (n_sub rfl rfl (by omega)) rfl ?_; refine l_neu (n_assign rfl rfl) rfl ?_; refine l_nil ?_
  refine k1 ?_; refine k3 ?_
  refine c_while (X := Nat × List Change) (fun s => ([(8, .s (.one (.ref 700 0))), (10, sInt ((s.1 : Int) - 1))], mvO s.2 a b)) (fun s => s.1 ≤ l.length ∧ s.2.length = l.length ∧ ScFit x y s.2 ∧ slideAll a b s.1 s.2 = downOf l a b) (fun s => s.1) (l.length, l) ⟨Nat.le_refl _, rfl, h, rfl⟩ (Sees.of ⟨le1 rfl, le1 rfl, trivial⟩ ⟨rfl, rfl, trivial⟩) ?_
  rintro ⟨n, l1⟩ ⟨hn, hl1, hf1, hs1⟩
  dsimp only at hn hl1 hf1 hs1 ⊢
  refine k2 ?_; refine k2 ?_
  refine c_region ?_; refine l_neu (n_move rfl rfl) rfl ?_; refine l_neu (n_geq rfl rfl) rfl ?_; refine l_nil ?_
  refine k1 ?_
  refine c_cond rfl (fun ht => ?_) (fun ht => ?_)
  · have hn0 : 0 < n := by have := of_decide_eq_true ht; omega
    obtain ⟨k, rfl⟩ : ∃ k, n = k + 1 := ⟨n - 1, by omega⟩
    rw [show ((k + 1 : Nat) : Int) - 1 = k by omega]
    have hfit := slideOne_fit ia ib hf1 (k := k) (by omega)
    have hlen := lens_len hfit.2
    refine k5 ?_; refine k1 ?_; refine k2 ?_; refine k3 ?_
    refine c_region ?_; refine l_neu (n_move rfl rfl) rfl ?_; refine l_neu (n_makeFunc rfl rfl) rfl ?_; refine l_neu (n_move rfl rfl) rfl ?_; refine l_met (often_met ia ib l1 k (by omega) (by omega) hf1) rfl rfl rfl ?_; rintro _ _ ⟨⟨cnt, rfl⟩, rfl⟩; refine l_nil ?_
    refine k4 ?_; refine k1 ?_
    refine c_region ?_; refine l_neu (n_move rfl rfl) rfl ?_; refine l_neu (n_sub rfl rfl (by omega)) rfl ?_; refine l_neu (n_assign rfl rfl) rfl ?_; refine l_nil ?_
    refine k1 ?_
    exact ⟨(k, slideOne a b l1 k), ⟨by dsimp only; omega, by dsimp only; omega, hfit.1, hs1⟩, by dsimp only; omega, Sees.of ⟨le1 rfl, le1 rfl, trivial⟩ ⟨rfl, rfl, trivial⟩⟩
  · have hn0 : n = 0 := by have := of_decide_eq_false ht; omega
    subst hn0
    have hs1 : l1 = downOf l a b := hs1
    refine k6 ?_; refine k2 ?_
    refine c_region ?_; refine l_neu (n_move rfl rfl) rfl ?_; refine l_neu (n_nilCheck_ref rfl) rfl ?_; refine l_neu (n_field_ref rfl) rfl ?_; refine l_neu (n_load_ref rfl rfl rfl) rfl ?_; refine l_neu (n_assign rfl rfl) rfl ?_; refine l_neu (n_assign rfl rfl) rfl ?_; refine l_nil ?_
    refine k1 ?_
    refine c_sees (Sees.growBuf (t := 6) rfl rfl rfl) ?_
    refine k10 ?_
    exact ret_ret (ret2 rfl rfl rfl rfl rfl) (by rw [hs1])
end Go.Proofs.YtjjidificdmnmaaDoor
namespace Go.Proofs.YtjjidificdmnmaaDoor
open Go Go.AL
set_option maxRecDepth 100000
set_option maxHeartbeats 1000000
theorem umake_ok (on nn a b : Str) (ctx : Int) (d : Bool) (ha : a.length ≤ 4096) (hb : b.length ≤ 4096) :
    FnOk Tryd.prog 11 [pStr on, pStr nn, pStr a, pStr b, pInt ctx, pBool d] (fun rs => rs = [pPatch (made12 on nn a b ctx d).1, pInt (made12 on nn a b ctx d).2]) := by
  obtain ⟨x, hx⟩ : ∃ x, x = linesOf a := ⟨_, rfl⟩
  obtain ⟨y, hy⟩ : ∃ y, y = linesOf b := ⟨_, rfl⟩
  obtain ⟨f1, f2⟩ := lines_flat a
  obtain ⟨f3, f4⟩ := lines_flat b
  rw [← hx] at f1 f2
  rw [← hy] at f3 f4
  have hsa := splitOf_small ha
  have hsb := splitOf_small hb
  rw [← hx] at hsa
  rw [← hy] at hsb
  have hxm : ∀ s ∈ x, s ∈ namesOf [x, y] := fun s hs => namesOf_mem _ _ x (by simp) hs
  have hym : ∀ s ∈ y, s ∈ namesOf [x, y] := fun s hs => namesOf_mem _ _ y (by simp) hs
  have i1 : (idsOf (namesOf [x, y]) x).length = x.length := by simp [idsOf]
  have i2 : (idsOf (namesOf [x, y]) y).length = y.length := by simp [idsOf]
  have hs0 := script_fit x y (by omega) (by omega)
  have hs0l := scriptOf_len x y
  have hdf := (scriptD_fit x y d (by omega) (by omega)).1
  have hdl := scriptD_len x y d (by omega) (by omega)
  obtain ⟨l, hl⟩ : ∃ l, l = scriptD x y d := ⟨_, rfl⟩
  rw [← hl] at hdf hdl
  have hmk : made12 on nn a b ctx d = if nameOk on = false ∨ nameOk nn = false then (patch0, 120) else if ctx < 0 ∨ 1048576 < ctx then (patch0, 3) else (⟨on, nn, hunksOf l x y ctx⟩, 0) := by rw [hl, hx, hy]; rfl
  refine FnOk.intro Tryd.func11 (by decide) rfl rfl rfl rfl ?_
  refine k2 ?_
  refine c_region ?_; refine l_effv (f_alloc 12 rfl) rfl ?_; refine l_neu (n_assign rfl rfl) rfl ?_; refine l_nil ?_
  refine k1 ?_; refine k2 ?_; refine k2 ?_
  refine c_region ?_; refine l_neu (n_move rfl rfl) rfl ?_; refine l_call (unamed_ok on) rfl rfl rfl ?_; rintro _ rfl; refine l_neu (n_not rfl) rfl ?_; refine l_neu (n_move rfl rfl) rfl ?_; refine l_guard rfl rfl rfl rfl (fun hg => by rw [hg]; exact n_move rfl rfl) ?_; refine l_guard rfl rfl rfl rfl (fun hg => by have hq := hg; (try simp at hq); rw [hg]; exact n_call1 (unamed_ok nn) rfl rfl) ?_; refine l_guard rfl rfl rfl rfl (fun hg => by rw [hg]; exact n_not rfl) ?_; refine l_neu (n_pick_bool rfl (fun h => by first | rfl | (rw [h]; rfl)) (fun h => by first | rfl | (rw [h]; rfl))) rfl ?_; refine l_nil ?_
  refine k1 ?_
  refine c_cond rfl (fun ht => ?_) (fun ht => ?_)
  · simp only [notB, or_pick] at ht
    have h := of_decide_eq_true ht
    refine k2 ?_
    refine c_region ?_; refine l_neu (n_build rfl) rfl ?_; refine l_eff (e_store_ref TySz.out rfl rfl rfl rfl rfl rfl) ?_; refine l_neu (n_assign rfl rfl) rfl ?_; refine l_nil ?_
    refine k1 ?_
    refine c_sees (Sees.listB PatchHunk 3 phunkC 12 2 rfl rfl) ?_
    refine k10 ?_; refine k11 ?_
    exact ret_ret (rs := [pPatch patch0, pInt 120]) (retc2 rfl rfl rfl rfl rfl rfl rfl) (by rw [hmk, if_pos h])
  simp only [notB, or_pick] at ht
  have h := of_decide_eq_false ht
  rw [if_neg h] at hmk
  have hn1 : nameOk on = true := by cases q : nameOk on <;> simp [q] at h ⊢
  have hn2 : nameOk nn = true := by cases q : nameOk nn <;> simp [q] at h ⊢
  refine k5 ?_; refine k1 ?_; refine k2 ?_
  refine c_region ?_; refine l_neu (n_move rfl rfl) rfl ?_; refine l_call (tsplit_ok a (by omega)) rfl rfl rfl ?_; rintro _ rfl; refine l_neu (n_move rfl rfl) rfl ?_; refine l_neu (n_extract rfl rfl) rfl ?_; refine l_neu (n_extract rfl rfl) rfl ?_; refine l_neu (n_assign rfl rfl) rfl ?_; refine l_neu (n_assign rfl rfl) rfl ?_; refine l_nil ?_
  rw [hsa]
  refine k1 ?_; refine k2 ?_; refine k2 ?_
  refine c_region ?_; refine l_neu (n_move rfl rfl) rfl ?_; refine l_neu (n_neq rfl rfl) rfl ?_; refine l_nil ?_
  refine k1 ?_
  refine c_cond rfl (fun ht => ?_) (fun ht => ?_)
  · cases ht
  refine k5 ?_; refine k1 ?_; refine k2 ?_
  refine c_region ?_; refine l_neu (n_move rfl rfl) rfl ?_; refine l_call (tsplit_ok b (by omega)) rfl rfl rfl ?_; rintro _ rfl; refine l_neu (n_move rfl rfl) rfl ?_; refine l_neu (n_extract rfl rfl) rfl ?_; refine l_neu (n_extract rfl rfl) rfl ?_; refine l_neu (n_assign rfl rfl) rfl ?_; refine l_neu (n_assign rfl rfl) rfl ?_; refine l_nil ?_
  rw [hsb]
  refine k1 ?_; refine k2 ?_; refine k2 ?_
  refine c_region ?_; refine l_neu (n_move rfl rfl) rfl ?_; refine l_neu (n_neq rfl rfl) rfl ?_; refine l_nil ?_
  refine k1 ?_
  refine c_cond rfl (fun ht => ?_) (fun ht => ?_)
  · cases ht
  refine k5 ?_; refine k1 ?_; refine k2 ?_
  refine c_region ?_; refine l_neu (n_move rfl rfl) rfl ?_; refine l_neu (n_move rfl rfl) rfl ?_; refine l_neu (n_buildSlice (c := strsC) (ys := [x, y]) (asm_cons rfl rfl rfl rfl (asm_cons rfl rfl rfl rfl asm_nil)) rfl rfl rfl) rfl ?_; refine l_call (internIds_ok [x, y] (by simp) (by simp; omega)) rfl rfl rfl ?_; rintro _ rfl; refine l_neu (n_assign rfl rfl) rfl ?_; refine l_nil ?_
  refine k1 ?_; refine k2 ?_
  refine c_region_draw (by kernel_rfl) (by kernel_rfl) ?_; refine d_neu (n_move rfl rfl) rfl rfl ?_; refine d_neu (n_indexAddr rfl (.pure _ _ _ _) rfl (by omega) (show ([x, y].map (idsOf (namesOf [x, y])))[(0 : Int).toNat]? = some (idsOf (namesOf [x, y]) x) from rfl)) rfl rfl ?_; refine d_neu (n_load_eref rfl rfl) rfl rfl ?_; refine d_neu (n_move rfl rfl) rfl rfl ?_; refine d_neu (n_indexAddr rfl (.pure _ _ _ _) rfl (by omega) (show ([x, y].map (idsOf (namesOf [x, y])))[(1 : Int).toNat]? = some (idsOf (namesOf [x, y]) y) from rfl)) rfl rfl ?_; refine d_neu (n_load_eref rfl rfl) rfl rfl ?_; refine d_neu (n_call1 (sScript_ok (idsOf (namesOf [x, y]) x) (idsOf (namesOf [x, y]) y) (by omega) (by omega)) rfl rfl) rfl rfl ?_; refine d_neu (n_move rfl rfl) rfl rfl ?_; refine d_neu (n_extract rfl rfl) rfl rfl ?_; refine d_neu (n_extract rfl rfl) rfl rfl ?_; refine d_neu (n_assign rfl rfl) rfl rfl ?_; refine d_neu (n_assign rfl rfl) rfl rfl ?_; refine d_nil ?_
  rw [show walkOf (idsOf (namesOf [x, y]) x) (idsOf (namesOf [x, y]) y) = scriptOf x y from rfl]
  refine then_normal ?_
  refine c_cut [(0, sStr on), (1, sStr nn), (4, sInt ctx), (5, sVal (.bool d)), (12, .s (.one (.ref 12 0))), (14, sList Str 1 strC x), (16, sList Str 1 strC y), (17, sList (List Int) 1 intsC ([x, y].map (idsOf (namesOf [x, y])))), (18, sList Change 4 changeC (scriptOf x y))] [(12, .box [.p (.v (.string ⟨#[]⟩)), .p (.v (.string ⟨#[]⟩)), .p (.v (.slice none 0 0))])] (Sees.of ⟨le1 rfl, le1 rfl, le1 rfl, le1 rfl, le1 rfl, le1 rfl, le1 rfl, le1 rfl, le1 rfl, trivial⟩ ⟨rfl, trivial⟩) ?_
  refine c_join [(0, sStr on), (1, sStr nn), (4, sInt ctx), (12, .s (.one (.ref 12 0))), (14, sList Str 1 strC x), (16, sList Str 1 strC y), (18, sList Change 4 changeC l)] [(12, .box [.p (.v (.string ⟨#[]⟩)), .p (.v (.string ⟨#[]⟩)), .p (.v (.slice none 0 0))])] ?_ ?_
  · refine k2 ?_
    refine c_region ?_; refine l_neu (n_move rfl rfl) rfl ?_; refine l_nil ?_
    refine k1 ?_
    refine c_cond rfl (fun ht => ?_) (fun ht => ?_)
    · have hd : d = true := ht
      have hl2 : l = downOf (scriptOf x y) (idsOf (namesOf [x, y]) x) (idsOf (namesOf [x, y]) y) := by rw [hl, hd]; rfl
      skip
      refine c_region_draw (by kernel_rfl) (by kernel_rfl) ?_; refine d_neu (n_move rfl rfl) rfl rfl ?_; refine d_neu (n_move rfl rfl) rfl rfl ?_; refine d_neu (n_indexAddr rfl (.pure _ _ _ _) rfl (by omega) (show ([x, y].map (idsOf (namesOf [x, y])))[(0 : Int).toNat]? = some (idsOf (namesOf [x, y]) x) from rfl)) rfl rfl ?_; refine d_neu (n_load_eref rfl rfl) rfl rfl ?_; refine d_neu (n_move rfl rfl) rfl rfl ?_; refine d_neu (n_indexAddr rfl (.pure _ _ _ _) rfl (by omega) (show ([x, y].map (idsOf (namesOf [x, y])))[(1 : Int).toNat]? = some (idsOf (namesOf [x, y]) y) from rfl)) rfl rfl ?_; refine d_neu (n_load_eref rfl rfl) rfl rfl ?_; refine d_neu (n_call1 (sDown_ok x y (namesOf [x, y]) (scriptOf x y) hs0 (by omega) hxm hym) rfl rfl) rfl rfl ?_; refine d_neu (n_move rfl rfl) rfl rfl ?_; refine d_neu (n_extract rfl rfl) rfl rfl ?_; refine d_neu (n_extract rfl rfl) rfl rfl ?_; refine d_neu (n_assign rfl rfl) rfl rfl ?_; refine d_nil ?_
      rw [← hl2]
      refine k1 ?_
      exact Sees.of ⟨le1 rfl, le1 rfl, le1 rfl, le1 rfl, le1 rfl, le1 rfl, le1 rfl, trivial⟩ ⟨rfl, trivial⟩
    · have hd : d = false := ht
      have hl2 : l = scriptOf x y := by rw [hl, hd]; rfl
      rw [← hl2]
      refine k5 ?_; refine k1 ?_
      exact Sees.of ⟨le1 rfl, le1 rfl, le1 rfl, le1 rfl, le1 rfl, le1 rfl, le1 rfl, trivial⟩ ⟨rfl, trivial⟩
  refine k2 ?_
  refine c_region ?_; refine l_neu (n_move rfl rfl) rfl ?_; refine l_neu (n_move rfl rfl) rfl ?_; refine l_neu (n_len rfl (.pure _ _ _ _)) rfl ?_; refine l_neu (n_move rfl rfl) rfl ?_; refine l_neu (n_len rfl (.pure _ _ _ _)) rfl ?_; refine l_neu (n_move rfl rfl) rfl ?_; refine l_call (hGroup_ok l x.length y.length ctx (by omega)) rfl rfl rfl ?_; rintro _ rfl; refine l_neu (n_move rfl rfl) rfl ?_; refine l_neu (n_extract rfl rfl) rfl ?_; refine l_neu (n_extract rfl rfl) rfl ?_; refine l_neu (n_assign rfl rfl) rfl ?_; refine l_neu (n_assign rfl rfl) rfl ?_; refine l_nil ?_
  refine k1 ?_; refine k2 ?_; refine k2 ?_
  by_cases hcx : ctx < 0 ∨ 1048576 < ctx
  · rw [group_err hcx]
    refine c_region ?_; refine l_neu (n_move rfl rfl) rfl ?_; refine l_neu (n_neq rfl rfl) rfl ?_; refine l_nil ?_
    refine k1 ?_
    refine c_cond rfl (fun ht => ?_) (fun ht => ?_)
    · refine k2 ?_
      refine c_region ?_; refine l_neu (n_build rfl) rfl ?_; refine l_neu (n_move rfl rfl) rfl ?_; refine l_eff (e_store_ref TySz.out rfl rfl rfl rfl rfl rfl) ?_; refine l_neu (n_assign rfl rfl) rfl ?_; refine l_nil ?_
      refine k1 ?_
      refine c_sees (Sees.listB PatchHunk 3 phunkC 12 2 rfl rfl) ?_
      refine k10 ?_; refine k11 ?_
      exact ret_ret (rs := [pPatch patch0, pInt 3]) (retc2 rfl rfl rfl rfl rfl rfl rfl) (by rw [hmk, if_pos hcx])
    · cases ht
  rw [group_fit hdf hcx]
  rw [if_neg hcx] at hmk
  have hmd := made12_is on nn a b l ctx hn1 hn2 hcx ha hb (by rw [← hx, ← hy]; exact hdf)
  have hgo := groupTo_ok hdf.ok (by omega) (ctx := ctx) l.length (Nat.le_refl _)
  have hgl := (groupTo_len l x.length ctx l.length).1
  have hho : hunksOf l x y ctx = (groupTo l x.length ctx l.length).map (hunkOfG l x y) := rfl
  obtain ⟨g, hg⟩ : ∃ g, g = groupTo l x.length ctx l.length := ⟨_, rfl⟩
  rw [← hg] at hgo hgl hho ⊢
  refine c_region ?_; refine l_neu (n_move rfl rfl) rfl ?_; refine l_neu (n_neq rfl rfl) rfl ?_; refine l_nil ?_
  refine k1 ?_
  refine c_cond rfl (fun ht => ?_) (fun ht => ?_)
  · cases ht
  refine k5 ?_; refine k1 ?_; refine k2 ?_
  refine c_region ?_; refine l_neu (n_move rfl rfl) rfl ?_; refine l_neu (n_move rfl rfl) rfl ?_; refine l_neu (n_build rfl) rfl ?_; refine l_effv (f_alloc 21 rfl) rfl ?_; refine l_eff (e_store_ref TySz.out rfl rfl rfl rfl rfl rfl) ?_; refine l_nil ?_
  refine c_cut [(12, .s (.one (.ref 12 0))), (14, sList Str 1 strC x), (16, sList Str 1 strC y), (18, sList Change 4 changeC l), (20, sList Hunk 6 hunkC g), (21, .s (.one (.ref 21 0)))] [(12, .box [.p (.v (.string ⟨#[]⟩)), .p (.v (.string ⟨#[]⟩)), .p (.v (.slice none 0 0))]), (21, .box [.p (.v (.string ⟨on.toArray⟩)), .p (.v (.string ⟨nn.toArray⟩)), .p (.v (.slice none 0 0))])] (Sees.of ⟨le1 rfl, le1 rfl, le1 rfl, le1 rfl, le1 rfl, le1 rfl, trivial⟩ ⟨rfl, rfl, trivial⟩) ?_
  refine c_sees (Sees.adoptB 702 PatchHunk 3 phunkC 69 (kb := 21) (o := 2) rfl rfl rfl) ?_
  refine k2 ?_; refine k2 ?_
  refine c_region ?_; refine l_neu (n_move rfl rfl) rfl ?_; refine l_neu (n_len rfl (.pure _ _ _ _)) rfl ?_; refine l_neu (n_move rfl rfl) rfl ?_; refine l_nil ?_
  refine k1 ?_; refine k3 ?_
  refine c_while (X := Nat) (fun k => ([(12, .s (.one (.ref 12 0))), (14, sList Str 1 strC x), (16, sList Str 1 strC y), (18, sList Change 4 changeC l), (21, .s (.one (.ref 21 0))), (94, sList Hunk 6 hunkC g), (95, sInt g.length), (96, sInt k)], [(12, .box [.p (.v (.string ⟨#[]⟩)), .p (.v (.string ⟨#[]⟩)), .p (.v (.slice none 0 0))]), (21, .box [.p (.v (.string ⟨on.toArray⟩)), .p (.v (.string ⟨nn.toArray⟩)), .buf 702 PatchHunk 3 phunkC ((g.take k).map (hunkOfG l x y))]), (702, .spare ((g.take k).map (hunkOfG l x y)).length 3 69)])) (fun k => k ≤ g.length) (fun k => g.length - k) 0 (Nat.zero_le _) (Sees.of ⟨le1 rfl, le1 rfl, le1 rfl, le1 rfl, le1 rfl, le1 rfl, le1 rfl, le1 rfl, trivial⟩ ⟨rfl, rfl, rfl, trivial⟩) ?_
  intro k hk
  dsimp only at hk ⊢
  refine k2 ?_
  refine c_region ?_; refine l_neu (n_lss rfl rfl) rfl ?_; refine l_nil ?_
  refine k1 ?_; refine k2 ?_
  refine c_cond rfl (fun ht => ?_) (fun ht => ?_)
  · have hlt : k < g.length := by have := of_decide_eq_true ht; omega
    obtain ⟨q, hqe⟩ : ∃ q, q = g[k] := ⟨_, rfl⟩
    have hv : g[k]? = some q := by rw [hqe]; simp [hlt]
    have hq := hgo _ (List.mem_of_getElem? hv)
    have htk : (g.take (k + 1)).map (hunkOfG l x y) = (g.take k).map (hunkOfG l x y) ++ [hunkOfG l x y q] := by rw [List.take_succ_eq_append_getElem hlt, List.map_append, hqe]; rfl
    obtain ⟨hs, hhs⟩ : ∃ hs, hs = (g.take k).map (hunkOfG l x y) := ⟨_, rfl⟩
    have hhl : hs.length = k := by rw [hhs, List.length_map, List.length_take]; omega
    rw [← hhs] at htk ⊢
    obtain ⟨z, hz⟩ : ∃ z, z = hunkOfG l x y q := ⟨_, rfl⟩
    refine k5 ?_; refine k1 ?_; refine k2 ?_; refine k3 ?_; refine k2 ?_
    refine c_region ?_; refine l_neu (n_indexAddr rfl (.pure _ _ _ _) rfl (by omega) hv) rfl ?_; refine l_neu (n_loads_eref rfl rfl) rfl ?_; refine l_effv (f_alloc 23 rfl) rfl ?_; refine l_eff (e_store_ref TySz.out rfl rfl rfl rfl rfl rfl) ?_; refine l_nil ?_
    refine k1 ?_
    refine c_region_draw (by kernel_rfl) (by kernel_rfl) ?_; refine d_neu (n_field_ref rfl) rfl rfl ?_; refine d_neu (n_load_ref rfl rfl rfl) rfl rfl ?_; refine d_neu (n_loads_ref rfl rfl rfl) rfl rfl ?_; refine d_neu (n_move rfl rfl) rfl rfl ?_; refine d_neu (n_move rfl rfl) rfl rfl ?_; refine d_neu (n_move rfl rfl) rfl rfl ?_; refine d_neu (n_call1 (ubuild_ok l x y q hdf.ok hq (by omega) (by omega) (by omega)) rfl rfl) rfl rfl ?_; refine d_neu (n_buildSlice (c := phunkC) (ys := [hunkOfG l x y q]) (asm_cons rfl rfl rfl rfl asm_nil) rfl rfl rfl) rfl rfl ?_; refine d_effv (e_append rfl rfl rfl (.pure _ _ _ _) (by (simp only [List.length_cons, List.length_nil]; omega)) rfl) rfl rfl ?_; refine d_neu (n_field_ref rfl) rfl rfl ?_; refine d_eff (e_store_ref TySz.out rfl rfl rfl rfl rfl rfl) rfl ?_; refine d_nil ?_
    rw [← htk]
    refine k4 ?_; refine k1 ?_
    refine c_region ?_; refine l_neu (n_add rfl rfl (by omega)) rfl ?_; refine l_neu (n_move rfl rfl) rfl ?_; refine l_nil ?_
    refine k1 ?_
    exact ⟨k + 1, hlt, by omega, Sees.of ⟨le1 rfl, le1 rfl, le1 rfl, le1 rfl, le1 rfl, le1 rfl, le1 rfl, le1 rfl, trivial⟩ ⟨rfl, rfl, rfl, trivial⟩⟩
  · have hk' : k = g.length := by have := of_decide_eq_false ht; omega
    subst hk'
    rw [List.take_length, ← hho]
    have hfit := hmd.fit
    have hrg := hmd.rg
    have hwr := hmd.wr
    rw [← hx, ← hy] at hfit hrg hwr
    refine k6 ?_; refine k2 ?_; refine k2 ?_
    refine c_region ?_; refine l_neu (n_loads_ref rfl rfl rfl) rfl ?_; refine l_call (usize_ok ⟨on, nn, hunksOf l x y ctx⟩ hfit hrg) rfl rfl rfl ?_; rintro _ rfl; refine l_neu (n_gtr rfl rfl) rfl ?_; refine l_nil ?_
    refine k1 ?_
    refine c_cond rfl (fun ht => ?_) (fun ht => ?_)
    · have h4 := of_decide_eq_true ht
      exact absurd h4 (by omega)
    · refine k5 ?_; refine k1 ?_; refine k2 ?_
      refine c_region ?_; refine l_neu (n_loads_ref rfl rfl rfl) rfl ?_; refine l_eff (e_store_ref TySz.out rfl rfl rfl rfl rfl rfl) ?_; refine l_neu (n_assign rfl rfl) rfl ?_; refine l_nil ?_
      refine k1 ?_; refine k10 ?_
      exact ret_ret (rs := [pPatch ⟨on, nn, hunksOf l x y ctx⟩, pInt 0]) (retc2 rfl rfl rfl rfl rfl rfl rfl) (by rw [hmk])
end Go.Proofs.YtjjidificdmnmaaDoor
namespace Go.Proofs.YtjjidificdmnmaaDoor
open Go Go.AL
set_option maxRecDepth 100000
set_option maxHeartbeats 1000000
end Go.Proofs.YtjjidificdmnmaaDoor
namespace Go.Proofs.YtjjidificdmnmaaDoor
open Go Go.AL
set_option maxRecDepth 100000
theorem check12_names {p : Patch} (h1 : check12 p = 0) : nameOk p.OldName = true ∧ nameOk p.NewName = true := by
  have h : ¬ (nameOk p.OldName = false ∨ nameOk p.NewName = false) := fun q => by
    unfold check12 at h1; rw [if_pos q] at h1; exact absurd h1 (by decide)
  exact ⟨by cases q : nameOk p.OldName <;> simp [q] at h ⊢, by cases q : nameOk p.NewName <;> simp [q] at h ⊢⟩
theorem uformat_ok (p : Patch) (hp : szP p.Hunks ≤ 268435456) : FnOk Tryd.prog 17 [pPatch p] (fun rs => rs = [pStr (if check12 p ≠ 0 then [] else writeOf p), pInt (check12 p)]) := by
  refine FnOk.intro Tryd.func17 (by decide) rfl rfl rfl rfl ?_
  refine k2 ?_
  refine c_region ?_; refine l_effv (f_box 1 rfl rfl rfl) rfl ?_; refine l_neu (n_assign rfl rfl) rfl ?_; refine l_neu (n_assign rfl rfl) rfl ?_; refine l_nil ?_
  refine k1 ?_; refine k2 ?_; refine k2 ?_
  refine c_region ?_; refine l_neu (n_loads_ref rfl rfl rfl) rfl ?_; refine l_call (ucheck_ok p hp) rfl rfl rfl ?_; rintro _ rfl; refine l_neu (n_assign rfl rfl) rfl ?_; refine l_nil ?_
  refine k1 ?_; refine k2 ?_
  refine c_region ?_; refine l_neu (n_move rfl rfl) rfl ?_; refine l_neu (n_neq rfl rfl) rfl ?_; refine l_nil ?_
  refine k1 ?_
  refine c_cond rfl (fun ht => ?_) (fun ht => ?_)
  · have h1 : check12 p ≠ 0 := of_decide_eq_true ht
    rw [if_pos h1]
    refine k2 ?_
    refine c_region ?_; refine l_neu (n_move rfl rfl) rfl ?_; refine l_neu (n_assign rfl rfl) rfl ?_; refine l_neu (n_assign rfl rfl) rfl ?_; refine l_nil ?_
    refine k1 ?_; refine k10 ?_; refine k11 ?_
    exact ret_ret (ret2 rfl rfl rfl rfl rfl) rfl
  · have h1 : ¬ check12 p ≠ 0 := of_decide_eq_false ht
    have hr := goodOf_range (check12_good h1)
    obtain ⟨hn1, hn2⟩ := check12_names (Decidable.not_not.1 h1)
    have hn3 := of_decide_eq_true hn1
    have hn4 := of_decide_eq_true hn2
    have hpf : PFit p := ⟨by omega, by omega, hp⟩
    rw [if_neg h1, Decidable.not_not.1 h1]
    refine k5 ?_; refine k1 ?_; refine k2 ?_
    refine c_region ?_; refine l_neu (n_loads_ref rfl rfl rfl) rfl ?_; refine l_call (uwritten_ok p hpf (fun x hx => by have := hr x hx; omega)) rfl rfl rfl ?_; rintro _ rfl; refine l_neu (n_assign rfl rfl) rfl ?_; refine l_neu (n_assign rfl rfl) rfl ?_; refine l_nil ?_
    refine k1 ?_; refine k10 ?_
    exact ret_ret (ret2 rfl rfl rfl rfl rfl) rfl
theorem awake_made : made12 [120] [120] [97, 10, 98] [97, 10, 99, 10] 1 false = (awakeP, 0) := by
  have h := (make12_good [120] [120] [97, 10, 98] [97, 10, 99, 10] 1 (by decide) (by decide) (by decide) (by decide) (by decide) (by decide)).1
  rw [awake_make] at h
  unfold made12 scriptD
  rw [if_neg (by decide), if_neg (by decide), if_neg (by decide)]
  exact h.symm
theorem range_02 : rangeOf 0 2 = [49, 44, 50] := by
  unfold rangeOf
  rw [if_neg (by decide), if_neg (by decide), if_neg (by decide), show (0 : Int) + 1 = 1 from rfl, fmt_small 1 (by decide) (by decide), fmt_small 2 (by decide) (by decide)]
  decide
theorem awake_head : headW ⟨0, 0, [⟨32, [97, 10]⟩, ⟨45, [98]⟩, ⟨43, [99, 10]⟩]⟩ = [64, 64, 32, 45, 49, 44, 50, 32, 43, 49, 44, 50, 32, 64, 64, 10] := by
  unfold headW
  rw [show oldN ⟨0, 0, [⟨32, [97, 10]⟩, ⟨45, [98]⟩, ⟨43, [99, 10]⟩]⟩ = 2 by decide, show newN ⟨0, 0, [⟨32, [97, 10]⟩, ⟨45, [98]⟩, ⟨43, [99, 10]⟩]⟩ = 2 by decide]
  dsimp only
  rw [range_02]
  decide
theorem awake_write : writeOf awakeP = [45, 45, 45, 32, 120, 10, 43, 43, 43, 32, 120, 10, 64, 64, 32, 45, 49, 44, 50, 32, 43, 49, 44, 50, 32, 64, 64, 10, 32, 97, 10, 45, 98, 10, 92, 32, 78, 111, 32, 110, 101, 119, 108, 105, 110, 101, 32, 97, 116, 32, 101, 110, 100, 32, 111, 102, 32, 102, 105, 108, 101, 10, 43, 99, 10] := by
  unfold writeOf writePs awakeP
  dsimp only [List.map]
  unfold hunkPs
  rw [awake_head]
  decide
theorem awake12_ok : FnOk Tryd.prog 14 [] (fun rs => rs = [pBool true]) := by
  have hmk := umake_ok [120] [120] [97, 10, 98] [97, 10, 99, 10] 1 false (by decide) (by decide)
  rw [awake_made] at hmk
  have hf := uformat_ok awakeP (by decide)
  rw [awake_check, if_neg (by decide), awake_write] at hf
  refine FnOk.intro Tryd.func14 (by decide) rfl rfl rfl rfl ?_
  refine k2 ?_
  refine c_region ?_; refine l_neu (n_assign rfl rfl) rfl ?_; refine l_nil ?_
  refine k1 ?_; refine k2 ?_
  refine c_region ?_; refine l_call (hmk) rfl rfl rfl ?_; rintro _ rfl; refine l_neu (n_move rfl rfl) rfl ?_; refine l_neu (n_extract rfl rfl) rfl ?_; refine l_neu (n_extract rfl rfl) rfl ?_; refine l_effv (f_alloc 1 rfl) rfl ?_; refine l_eff (e_store_ref TySz.out rfl rfl rfl rfl rfl rfl) ?_; refine l_neu (n_assign rfl rfl) rfl ?_; refine l_nil ?_
  refine k1 ?_; refine k2 ?_
  refine c_region ?_; refine l_neu (n_loads_ref rfl rfl rfl) rfl ?_; refine l_call (hf) rfl rfl rfl ?_; rintro _ rfl; refine l_neu (n_move rfl rfl) rfl ?_; refine l_neu (n_extract rfl rfl) rfl ?_; refine l_neu (n_extract rfl rfl) rfl ?_; refine l_neu (n_assign rfl rfl) rfl ?_; refine l_neu (n_assign rfl rfl) rfl ?_; refine l_nil ?_
  refine k1 ?_; refine k2 ?_
  refine c_region ?_; refine l_neu (n_move rfl rfl) rfl ?_; refine l_neu (n_eql rfl rfl) rfl ?_; refine l_neu (n_move rfl rfl) rfl ?_; refine l_guard rfl rfl rfl rfl (fun hg => by rw [hg]; exact n_move rfl rfl) ?_; refine l_guard rfl rfl rfl rfl (fun hg => by rw [hg]; exact n_eql rfl rfl) ?_; refine l_neu (n_pick_bool rfl (fun h => by first | rfl | (rw [h]; rfl)) (fun h => by first | rfl | (rw [h]; rfl))) rfl ?_; refine l_neu (n_move rfl rfl) rfl ?_; refine l_guard rfl rfl rfl rfl (fun hg => by rw [hg]; exact n_move rfl rfl) ?_; refine l_guard rfl rfl rfl rfl (fun hg => by rw [hg]; exact n_eql_s rfl rfl) ?_; refine l_neu (n_pick_bool rfl (fun h => by first | rfl | (rw [h]; rfl)) (fun h => by first | rfl | (rw [h]; rfl))) rfl ?_; refine l_neu (n_assign rfl rfl) rfl ?_; refine l_nil ?_
  refine k1 ?_; refine k10 ?_
  exact ret_ret (ret1 rfl rfl rfl) (by simp)
end Go.Proofs.YtjjidificdmnmaaDoor
namespace Go.Proofs.YtjjidificdmnmaaDoor
open Go Go.AL
set_option maxRecDepth 100000
theorem kind_is {k : UInt8} {n : UInt8} (h : decide ((k.toNat : Int) = (n.toNat : Int)) = true) : k = n := UInt8.toNat_inj.1 (by have := of_decide_eq_true h; omega)
theorem kind_not {k : UInt8} {n : UInt8} (h : decide ((k.toNat : Int) = (n.toNat : Int)) = false) : ¬ k = n := fun e => by have := of_decide_eq_false h; rw [e] at this; exact this rfl
theorem ucount_ok (p : Patch) (hp : szP p.Hunks ≤ 268435456) : FnOk Tryd.prog 13 [pPatch p] (fun rs => rs = [pInt (cntP 45 p.Hunks), pInt (cntP 43 p.Hunks)]) := by
  obtain ⟨hs, hhs⟩ : ∃ hs, hs = p.Hunks := ⟨_, rfl⟩
  rw [← hhs] at hp
  have hsl := szP_len hs
  refine FnOk.intro Tryd.func13 (by decide) rfl rfl rfl rfl ?_
  refine k2 ?_
  refine c_region ?_; refine l_effv (f_box 1 rfl rfl rfl) rfl ?_; refine l_neu (n_assign rfl rfl) rfl ?_; refine l_neu (n_assign rfl rfl) rfl ?_; refine l_nil ?_
  refine k1 ?_; refine k2 ?_
  refine c_region ?_; refine l_neu (n_assign rfl rfl) rfl ?_; refine l_neu (n_assign rfl rfl) rfl ?_; refine l_nil ?_
  refine k1 ?_; refine k2 ?_; refine k2 ?_
  refine c_region ?_; refine l_neu (n_field_ref rfl) rfl ?_; refine l_neu (n_load_ref rfl rfl rfl) rfl ?_; refine l_neu (n_len rfl (.pure _ _ _ _)) rfl ?_; refine l_neu (n_move rfl rfl) rfl ?_; refine l_nil ?_
  rw [← hhs]
  refine k1 ?_; refine k3 ?_
  refine c_while (X := Nat) (fun j => ([(4, sInt (cntP 45 (hs.take j))), (5, sInt (cntP 43 (hs.take j))), (11, sList PatchHunk 3 phunkC hs), (12, sInt hs.length), (13, sInt j)], [])) (fun j => j ≤ hs.length) (fun j => hs.length - j) 0 (Nat.zero_le _) (Sees.of ⟨le1 rfl, le1 rfl, le1 rfl, le1 rfl, le1 rfl, trivial⟩ trivial) ?_
  intro j hj
  dsimp only at hj ⊢
  refine k2 ?_
  refine c_region ?_; refine l_neu (n_lss rfl rfl) rfl ?_; refine l_nil ?_
  refine k1 ?_; refine k2 ?_
  refine c_cond rfl (fun ht => ?_) (fun ht => ?_)
  · have hlt : j < hs.length := by have := of_decide_eq_true ht; omega
    obtain ⟨h, hh⟩ : ∃ h, h = hs[j] := ⟨_, rfl⟩
    have hv : hs[j]? = some h := by rw [hh]; simp [hlt]
    have n1 := cntP_succ 45 hs j h hv
    have n2 := cntP_succ 43 hs j h hv
    have hll : h.Lines.length ≤ 268435456 := by
      have h3 := szP_mem (List.mem_of_getElem? hv)
      have h4 := szL_len h.Lines
      unfold szH at h3; omega
    refine k5 ?_; refine k1 ?_; refine k2 ?_; refine k3 ?_; refine k2 ?_
    refine c_region ?_; refine l_neu (n_indexAddr rfl (.pure _ _ _ _) rfl (by omega) hv) rfl ?_; refine l_neu (n_loads_eref rfl rfl) rfl ?_; refine l_effv (f_alloc 7 rfl) rfl ?_; refine l_eff (e_store_ref TySz.out rfl rfl rfl rfl rfl rfl) ?_; refine l_nil ?_
    refine k1 ?_; refine k2 ?_
    refine c_region ?_; refine l_neu (n_field_ref rfl) rfl ?_; refine l_neu (n_load_ref rfl rfl rfl) rfl ?_; refine l_neu (n_len rfl (.pure _ _ _ _)) rfl ?_; refine l_neu (n_move rfl rfl) rfl ?_; refine l_nil ?_
    refine k1 ?_; refine k3 ?_
    refine c_while (X := Nat) (fun i => ([(4, sInt ((cntP 45 (hs.take j) + cntL 45 (h.Lines.take i) : Nat) : Int)), (5, sInt ((cntP 43 (hs.take j) + cntL 43 (h.Lines.take i) : Nat) : Int)), (11, sList PatchHunk 3 phunkC hs), (12, sInt hs.length), (13, sInt j), (18, sList PatchLine 2 plineC h.Lines), (19, sInt h.Lines.length), (20, sInt i)], [])) (fun i => i ≤ h.Lines.length) (fun i => h.Lines.length - i) 0 (Nat.zero_le _) (Sees.of ⟨le1 rfl, le1 rfl, le1 rfl, le1 rfl, le1 rfl, le1 rfl, le1 rfl, le1 rfl, trivial⟩ trivial) ?_
    intro i hi
    dsimp only at hi ⊢
    have b1 := cnt_bound 45 hs j i h hv
    have b2 := cnt_bound 43 hs j i h hv
    refine k2 ?_
    refine c_region ?_; refine l_neu (n_lss rfl rfl) rfl ?_; refine l_nil ?_
    refine k1 ?_; refine k2 ?_
    refine c_cond rfl (fun ht => ?_) (fun ht => ?_)
    · have hlt2 : i < h.Lines.length := by have := of_decide_eq_true ht; omega
      obtain ⟨x, hx⟩ : ∃ x, x = h.Lines[i] := ⟨_, rfl⟩
      have hvx : h.Lines[i]? = some x := by rw [hx]; simp [hlt2]
      have s1 := cntL_succ 45 h.Lines i x hvx
      have s2 := cntL_succ 43 h.Lines i x hvx
      refine k5 ?_; refine k1 ?_; refine k2 ?_; refine k3 ?_; refine k2 ?_
      refine c_region ?_; refine l_neu (n_indexAddr rfl (.pure _ _ _ _) rfl (by omega) hvx) rfl ?_; refine l_neu (n_loads_eref rfl rfl) rfl ?_; refine l_effv (f_alloc 9 rfl) rfl ?_; refine l_eff (e_store_ref TySz.out rfl rfl rfl rfl rfl rfl) ?_; refine l_nil ?_
      refine k1 ?_; refine k2 ?_
      refine c_region ?_; refine l_neu (n_field_ref rfl) rfl ?_; refine l_neu (n_load_ref rfl rfl rfl) rfl ?_; refine l_nil ?_
      refine k1 ?_; refine k3 ?_; refine k2 ?_
      refine c_region ?_; refine l_neu (n_eql rfl rfl) rfl ?_; refine l_neu (n_assign rfl rfl) rfl ?_; refine l_nil ?_
      refine k1 ?_
      refine c_cond rfl (fun ht => ?_) (fun ht => ?_)
      · have h3 : x.Kind = 45 := kind_is ht
        rw [if_pos h3] at s1
        rw [if_neg (by rw [h3]; decide)] at s2
        skip
        refine c_region ?_; refine l_neu (n_move rfl rfl) rfl ?_; refine l_neu (n_add rfl rfl (by omega)) rfl ?_; refine l_neu (n_assign rfl rfl) rfl ?_; refine l_nil ?_
        refine k4 ?_; refine k4 ?_; refine k1 ?_
        refine c_region ?_; refine l_neu (n_add rfl rfl (by omega)) rfl ?_; refine l_neu (n_move rfl rfl) rfl ?_; refine l_nil ?_
        refine k1 ?_
        refine ⟨i + 1, hlt2, by omega, ?_⟩
        rw [s1, s2, ← Nat.add_assoc, Nat.add_zero, Int.natCast_add (cntP 45 (hs.take j) + cntL 45 (h.Lines.take i)) 1]
        exact Sees.of ⟨le1 rfl, le1 rfl, le1 rfl, le1 rfl, le1 rfl, le1 rfl, le1 rfl, le1 rfl, trivial⟩ trivial
      · have h3 : ¬ x.Kind = 45 := kind_not ht
        rw [if_neg h3] at s1
        refine k2 ?_
        refine c_region ?_; refine l_neu (n_eql rfl rfl) rfl ?_; refine l_neu (n_assign rfl rfl) rfl ?_; refine l_nil ?_
        refine k1 ?_
        refine c_cond rfl (fun ht => ?_) (fun ht => ?_)
        · have h4 : x.Kind = 43 := kind_is ht
          rw [if_pos h4] at s2
          skip
          refine c_region ?_; refine l_neu (n_move rfl rfl) rfl ?_; refine l_neu (n_add rfl rfl (by omega)) rfl ?_; refine l_neu (n_assign rfl rfl) rfl ?_; refine l_nil ?_
          refine k4 ?_; refine k4 ?_; refine k1 ?_
          refine c_region ?_; refine l_neu (n_add rfl rfl (by omega)) rfl ?_; refine l_neu (n_move rfl rfl) rfl ?_; refine l_nil ?_
          refine k1 ?_
          refine ⟨i + 1, hlt2, by omega, ?_⟩
          rw [s1, s2, ← Nat.add_assoc, Nat.add_zero, ← Nat.add_assoc, Int.natCast_add (cntP 43 (hs.take j) + cntL 43 (h.Lines.take i)) 1]
          exact Sees.of ⟨le1 rfl, le1 rfl, le1 rfl, le1 rfl, le1 rfl, le1 rfl, le1 rfl, le1 rfl, trivial⟩ trivial
        · have h4 : ¬ x.Kind = 43 := kind_not ht
          rw [if_neg h4] at s2
          refine k5 ?_; refine k4 ?_; refine k4 ?_; refine k1 ?_
          refine c_region ?_; refine l_neu (n_add rfl rfl (by omega)) rfl ?_; refine l_neu (n_move rfl rfl) rfl ?_; refine l_nil ?_
          refine k1 ?_
          refine ⟨i + 1, hlt2, by omega, ?_⟩
          rw [s1, s2, Nat.add_zero, Nat.add_zero]
          exact Sees.of ⟨le1 rfl, le1 rfl, le1 rfl, le1 rfl, le1 rfl, le1 rfl, le1 rfl, le1 rfl, trivial⟩ trivial
    · have hi2 : i = h.Lines.length := by have := of_decide_eq_false ht; omega
      subst hi2
      rw [List.take_length, ← n1, ← n2]
      refine k6 ?_; refine k7 ?_; refine k7 ?_; refine k8 rfl ?_; refine k4 ?_; refine k1 ?_
      refine c_region ?_; refine l_neu (n_add rfl rfl (by omega)) rfl ?_; refine l_neu (n_move rfl rfl) rfl ?_; refine l_nil ?_
      refine k1 ?_
      exact ⟨j + 1, hlt, by omega, Sees.of ⟨le1 rfl, le1 rfl, le1 rfl, le1 rfl, le1 rfl, trivial⟩ trivial⟩
  · have hj2 : j = hs.length := by have := of_decide_eq_false ht; omega
    subst hj2
    rw [List.take_length]
    refine k6 ?_; refine k2 ?_
    refine c_region ?_; refine l_neu (n_move rfl rfl) rfl ?_; refine l_neu (n_move rfl rfl) rfl ?_; refine l_neu (n_assign rfl rfl) rfl ?_; refine l_neu (n_assign rfl rfl) rfl ?_; refine l_nil ?_
    refine k1 ?_; refine k10 ?_
    exact ret_ret (ret2 rfl rfl rfl rfl rfl) rfl
set_option maxHeartbeats 1000000
end Go.Proofs.YtjjidificdmnmaaDoor
namespace Go.Proofs.YtjjidificdmnmaaDoor
open Go Go.AL
set_option maxRecDepth 100000
theorem made_facts (a b : Str) (ctx : Int) (d : Bool) (ha : a.length ≤ 4096) (hb : b.length ≤ 4096) (hc : 0 ≤ ctx ∧ ctx ≤ 1048576) : ∃ hs : List PatchHunk, made12 [111] [110] a b ctx d = (⟨[111], [110], hs⟩, 0) ∧ szP hs ≤ 268435456 ∧
    cntP 45 hs = sumO (scriptOf (linesOf a) (linesOf b)) ∧ cntP 43 hs = sumN (scriptOf (linesOf a) (linesOf b)) ∧ (a = b → hs = []) := by
  have h1 := (lines_flat a).2
  have h2 := (lines_flat b).2
  obtain ⟨hf, hln⟩ := scriptD_fit (linesOf a) (linesOf b) d (by omega) (by omega)
  have hm := made12_is [111] [110] a b _ ctx (by decide) (by decide) (by omega) ha hb hf
  obtain ⟨c1, c2⟩ := cnt_hunks hf ctx
  obtain ⟨s1, s2⟩ := sum_lens hln
  refine ⟨_, ?_, hm.sz, c1.trans s1, c2.trans s2, ?_⟩
  · unfold made12
    rw [if_neg (by decide), if_neg (by omega)]
  · rintro rfl
    have hl := lens_len hln
    rw [script_self] at hl
    rw [← List.length_eq_zero_iff, hunks_nil]
    exact List.length_eq_zero_iff.1 (by simpa using hl)
set_option maxHeartbeats 1000000
theorem lawSame_ok (raw : List Int) (ctx : Int) : FnOk Tryd.prog 4 [pInts raw, pInt ctx] (fun rs => rs = [pBool true]) := by
  have hal : (blobOf raw 0 9 3).length ≤ 36 := by have := blobOf_len raw 0 9 3 (by omega); omega
  have hbl := near_len (blobOf raw 0 9 3) raw 100
  obtain ⟨h3, h4⟩ := modOf_in ctx (n := 4) (by omega)
  obtain ⟨a, ha⟩ : ∃ a, a = blobOf raw 0 9 3 := ⟨_, rfl⟩
  obtain ⟨b, hb⟩ : ∃ b, b = nearOf (blobOf raw 0 9 3) raw 100 := ⟨_, rfl⟩
  rw [← ha] at hal
  rw [← hb, ← ha] at hbl
  obtain ⟨p, p1, p2, p3, p4, _⟩ := made_facts a b (modOf ctx 4) false (by omega) (by omega) (by omega)
  obtain ⟨q, q1, q2, q3, q4, _⟩ := made_facts a b (modOf ctx 4) true (by omega) (by omega) (by omega)
  obtain ⟨r, r1, r2, _, _, r5⟩ := made_facts a a 3 true (by omega) (by omega) (by omega)
  have r5 := r5 rfl
  subst r5
  have m1 := umake_ok [111] [110] a b (modOf ctx 4) false (by omega) (by omega)
  have m2 := umake_ok [111] [110] a b (modOf ctx 4) true (by omega) (by omega)
  have m3 := umake_ok [111] [110] a a 3 true (by omega) (by omega)
  rw [p1] at m1
  rw [q1] at m2
  rw [r1] at m3
  have u1 := ucount_ok ⟨[111], [110], p⟩ p2
  have u2 := ucount_ok ⟨[111], [110], q⟩ q2
  rw [show cntP 45 (Patch.mk [111] [110] p).Hunks = _ from p3, show cntP 43 (Patch.mk [111] [110] p).Hunks = _ from p4] at u1
  rw [show cntP 45 (Patch.mk [111] [110] q).Hunks = _ from q3, show cntP 43 (Patch.mk [111] [110] q).Hunks = _ from q4] at u2
  obtain ⟨x, hx⟩ : ∃ x, x = sumO (scriptOf (linesOf a) (linesOf b)) := ⟨_, rfl⟩
  obtain ⟨y, hy⟩ : ∃ y, y = sumN (scriptOf (linesOf a) (linesOf b)) := ⟨_, rfl⟩
  rw [← hx, ← hy] at u1 u2
  refine FnOk.intro Tryd.func4 (by decide) rfl rfl rfl rfl ?_
  refine k2 ?_
  refine c_region ?_; refine l_neu (n_assign rfl rfl) rfl ?_; refine l_nil ?_
  refine k1 ?_; refine k2 ?_
  refine c_region ?_; refine l_neu (n_move rfl rfl) rfl ?_; refine l_call (blob_ok raw 0 9 3 (by omega) (by omega) (by omega)) rfl rfl rfl ?_; rintro _ rfl; refine l_neu (n_assign rfl rfl) rfl ?_; refine l_nil ?_
  rw [← ha]
  refine k1 ?_; refine k2 ?_
  refine c_region ?_; refine l_neu (n_move rfl rfl) rfl ?_; refine l_neu (n_move rfl rfl) rfl ?_; refine l_call (near_ok a raw 100 (by omega) (by omega)) rfl rfl rfl ?_; rintro _ rfl; refine l_neu (n_assign rfl rfl) rfl ?_; refine l_nil ?_
  rw [show nearOf a raw 100 = b by rw [hb, ha]]
  refine k1 ?_; refine k2 ?_
  refine c_region ?_; refine l_neu (n_move rfl rfl) rfl ?_; refine l_neu (n_move rfl rfl) rfl ?_; refine l_neu (n_move rfl rfl) rfl ?_; refine l_call (mod_ok ctx 4 (by omega) (by omega)) rfl rfl rfl ?_; rintro _ rfl; refine l_call (m1) rfl rfl rfl ?_; rintro _ rfl; refine l_neu (n_move rfl rfl) rfl ?_; refine l_neu (n_extract rfl rfl) rfl ?_; refine l_neu (n_extract rfl rfl) rfl ?_; refine l_effv (f_alloc 7 rfl) rfl ?_; refine l_eff (e_store_ref TySz.out rfl rfl rfl rfl rfl rfl) ?_; refine l_neu (n_assign rfl rfl) rfl ?_; refine l_nil ?_
  refine k1 ?_; refine k2 ?_
  refine c_region ?_; refine l_neu (n_move rfl rfl) rfl ?_; refine l_neu (n_move rfl rfl) rfl ?_; refine l_neu (n_move rfl rfl) rfl ?_; refine l_call (mod_ok ctx 4 (by omega) (by omega)) rfl rfl rfl ?_; rintro _ rfl; refine l_call (m2) rfl rfl rfl ?_; rintro _ rfl; refine l_neu (n_move rfl rfl) rfl ?_; refine l_neu (n_extract rfl rfl) rfl ?_; refine l_neu (n_extract rfl rfl) rfl ?_; refine l_effv (f_alloc 9 rfl) rfl ?_; refine l_eff (e_store_ref TySz.out rfl rfl rfl rfl rfl rfl) ?_; refine l_neu (n_assign rfl rfl) rfl ?_; refine l_nil ?_
  refine k1 ?_; refine k2 ?_
  refine c_region ?_; refine l_neu (n_move rfl rfl) rfl ?_; refine l_neu (n_move rfl rfl) rfl ?_; refine l_call (m3) rfl rfl rfl ?_; rintro _ rfl; refine l_neu (n_move rfl rfl) rfl ?_; refine l_neu (n_extract rfl rfl) rfl ?_; refine l_neu (n_extract rfl rfl) rfl ?_; refine l_effv (f_alloc 11 rfl) rfl ?_; refine l_eff (e_store_ref TySz.out rfl rfl rfl rfl rfl rfl) ?_; refine l_neu (n_assign rfl rfl) rfl ?_; refine l_nil ?_
  refine k1 ?_; refine k2 ?_
  refine c_region ?_; refine l_neu (n_loads_ref rfl rfl rfl) rfl ?_; refine l_call (u1) rfl rfl rfl ?_; rintro _ rfl; refine l_neu (n_move rfl rfl) rfl ?_; refine l_neu (n_extract rfl rfl) rfl ?_; refine l_neu (n_extract rfl rfl) rfl ?_; refine l_neu (n_assign rfl rfl) rfl ?_; refine l_neu (n_assign rfl rfl) rfl ?_; refine l_nil ?_
  refine k1 ?_; refine k2 ?_
  refine c_region ?_; refine l_neu (n_loads_ref rfl rfl rfl) rfl ?_; refine l_call (u2) rfl rfl rfl ?_; rintro _ rfl; refine l_neu (n_move rfl rfl) rfl ?_; refine l_neu (n_extract rfl rfl) rfl ?_; refine l_neu (n_extract rfl rfl) rfl ?_; refine l_neu (n_assign rfl rfl) rfl ?_; refine l_neu (n_assign rfl rfl) rfl ?_; refine l_nil ?_
  refine k1 ?_; refine k2 ?_
  refine c_region ?_; refine l_neu (n_move rfl rfl) rfl ?_; refine l_neu (n_eql rfl rfl) rfl ?_; refine l_neu (n_move rfl rfl) rfl ?_; refine l_guard rfl rfl rfl rfl (fun hg => by rw [hg]; exact n_move rfl rfl) ?_; refine l_guard rfl rfl rfl rfl (fun hg => by rw [hg]; exact n_eql rfl rfl) ?_; refine l_neu (n_pick_bool rfl (fun h => by first | rfl | (rw [h]; rfl)) (fun h => by first | rfl | (rw [h]; rfl))) rfl ?_; refine l_neu (n_move rfl rfl) rfl ?_; refine l_guard rfl rfl rfl rfl (fun hg => by rw [hg]; exact n_move rfl rfl) ?_; refine l_guard rfl rfl rfl rfl (fun hg => by rw [hg]; exact n_eql rfl rfl) ?_; refine l_neu (n_pick_bool rfl (fun h => by first | rfl | (rw [h]; rfl)) (fun h => by first | rfl | (rw [h]; rfl))) rfl ?_; refine l_neu (n_move rfl rfl) rfl ?_; refine l_guard rfl rfl rfl rfl (fun hg => by rw [hg]; exact n_move rfl rfl) ?_; refine l_guard rfl rfl rfl rfl (fun hg => by rw [hg]; exact n_move rfl rfl) ?_; refine l_guard rfl rfl rfl rfl (fun hg => by rw [hg]; exact n_eql rfl rfl) ?_; refine l_neu (n_pick_bool rfl (fun h => by first | rfl | (rw [h]; rfl)) (fun h => by first | rfl | (rw [h]; rfl))) rfl ?_; refine l_neu (n_move rfl rfl) rfl ?_; refine l_guard rfl rfl rfl rfl (fun hg => by rw [hg]; exact n_move rfl rfl) ?_; refine l_guard rfl rfl rfl rfl (fun hg => by rw [hg]; exact n_move rfl rfl) ?_; refine l_guard rfl rfl rfl rfl (fun hg => by rw [hg]; exact n_eql rfl rfl) ?_; refine l_neu (n_pick_bool rfl (fun h => by first | rfl | (rw [h]; rfl)) (fun h => by first | rfl | (rw [h]; rfl))) rfl ?_; refine l_neu (n_move rfl rfl) rfl ?_; refine l_guard rfl rfl rfl rfl (fun hg => by rw [hg]; exact n_field_ref rfl) ?_; refine l_guard rfl rfl rfl rfl (fun hg => by rw [hg]; exact n_load_ref rfl rfl rfl) ?_; refine l_guard rfl rfl rfl rfl (fun hg => by rw [hg]; exact n_len rfl (.pure _ _ _ _)) ?_; refine l_guard rfl rfl rfl rfl (fun hg => by rw [hg]; exact n_eql rfl rfl) ?_; refine l_neu (n_pick_bool rfl (fun h => by first | rfl | (rw [h]; rfl)) (fun h => by first | rfl | (rw [h]; rfl))) rfl ?_; refine l_neu (n_move rfl rfl) rfl ?_; refine l_guard rfl rfl rfl rfl (fun hg => by have hq := hg; (try simp at hq); rw [hg]; exact n_call1 (awake12_ok) rfl rfl) ?_; refine l_neu (n_pick_bool rfl (fun h => by first | rfl | (rw [h]; rfl)) (fun h => by first | rfl | (rw [h]; rfl))) rfl ?_; refine l_neu (n_assign rfl rfl) rfl ?_; refine l_nil ?_
  refine k1 ?_; refine k10 ?_
  refine ret_ret (ret1 rfl rfl rfl) ?_
  simp [pBool]
end Go.Proofs.YtjjidificdmnmaaDoor
