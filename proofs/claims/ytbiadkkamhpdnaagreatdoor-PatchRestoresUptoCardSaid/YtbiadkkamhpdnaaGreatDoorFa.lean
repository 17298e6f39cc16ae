/- Walks of the program's functions. -/
import Derived.Test.YtbiadkkamhpdnaaGreatDoorTy
import Derived.Test.YtbiadkkamhpdnaaGreatDoorFs
import Derived.Test.YtbiadkkamhpdnaaGreatDoorSh
set_option linter.unusedSimpArgs false
namespace Go.Proofs.YtbiadkkamhpdnaaGreatDoor
open Go Go.AL
set_option maxRecDepth 100000
theorem u64_nonneg (p : Int) : 0 ≤ IntKind.u64.wrap p := by simp [IntKind.wrap, IntKind.signed, IntKind.bits]; omega
theorem ended_ok (s : Str) (hs : s.length ≤ 1099511627776) : FnOk Tryz.prog 128 [pStr s] (fun rs => rs = [pBool (ended s)]) := by
  refine FnOk.intro Tryz.func128 (by decide) rfl rfl rfl rfl ?_
  refine k2 ?_
  refine c_region ?_; refine l_neu (n_assign rfl rfl) rfl ?_; refine l_nil ?_
  refine k1 ?_; refine k2 ?_
  have hl : s ≠ [] → s[((s.length : Int) - 1).toNat]? = some (s.getLastD 0) := by
    intro h
    have h1 : 0 < s.length := List.length_pos_iff.2 h
    have h2 : ((s.length : Int) - 1).toNat = s.length - 1 := by omega
    rw [h2, ← List.getLast?_eq_getElem?, List.getLast?_eq_some_getLast h, List.getLastD_eq_getLast?, List.getLast?_eq_some_getLast h]
    rfl
  refine c_region ?_; refine l_neu (n_move rfl rfl) rfl ?_; refine l_neu (n_neq_s rfl rfl) rfl ?_; refine l_neu (n_move rfl rfl) rfl ?_; refine l_guard rfl rfl rfl rfl (fun hg => by rw [hg]; exact n_move rfl rfl) ?_; refine l_guard rfl rfl rfl rfl (fun hg => by rw [hg]; exact n_move rfl rfl) ?_; refine l_guard rfl rfl rfl rfl (fun hg => by rw [hg]; exact n_len_s rfl) ?_; refine l_guard rfl rfl rfl rfl (fun hg => by have hq := hg; (try simp at hq); rw [hg]; exact n_sub rfl rfl (by omega)) ?_; refine l_guard rfl rfl rfl rfl (fun hg => by have hq := hg; (try simp at hq); have h1 := List.length_pos_iff.2 hq; rw [hg]; exact n_index_s rfl rfl (by omega) (hl hq)) ?_; refine l_guard rfl rfl rfl rfl (fun hg => by rw [hg]; exact n_eql rfl rfl) ?_; refine l_neu (n_pick_bool rfl (fun h => by first | rfl | (rw [h]; rfl)) (fun h => by first | rfl | (rw [h]; rfl))) rfl ?_; refine l_neu (n_assign rfl rfl) rfl ?_; refine l_nil ?_
  refine k1 ?_; refine k10 ?_
  refine ret_ret (ret1 rfl rfl rfl) ?_
  rw [ended_eq]
theorem lines_ok (b : Str) (hb : b.length ≤ 536870912) : FnOk Tryz.prog 70 [pStr b] (fun rs => rs = [pStrs (linesOf b)]) := by
  refine FnOk.intro Tryz.func70 (by decide) rfl rfl rfl rfl ?_
  refine k2 ?_
  refine c_region ?_; refine l_neu (n_assign rfl rfl) rfl ?_; refine l_nil ?_
  refine k1 ?_; refine k2 ?_
  refine c_region ?_; refine l_effv (f_adopt 3 _ strC rfl) rfl ?_; refine l_nil ?_
  refine k1 ?_; refine k2 ?_
  refine c_region ?_; refine l_neu (n_assign rfl rfl) rfl ?_; refine l_nil ?_
  refine k1 ?_; refine k2 ?_; refine k2 ?_
  refine c_region ?_; refine l_neu (n_assign rfl rfl) rfl ?_; refine l_nil ?_
  refine k1 ?_; refine k3 ?_
  refine c_while (X := Nat × Nat × List Str) (fun x => ([(0, sStr b), (3, .s (.one (.buf 3 Str 1 strC x.2.2))), (4, sInt x.2.1), (5, sInt x.1)], [(3, .spare x.2.2.length 1 9)]))
    (fun x => x.1 ≤ b.length ∧ x.2.1 ≤ x.1 ∧ x.2.2.length ≤ x.1 ∧ (x.1 = b.length → x.2.1 = x.1) ∧ x.2.2 ++ linesAux ((b.drop x.2.1).take (x.1 - x.2.1)) (b.drop x.1) = linesOf b) (fun x => b.length - x.1) (0, 0, []) (by simp [linesOf]) ?_ ?_
  · exact Sees.of ⟨⟨_, rfl, .same _⟩, ⟨_, rfl, .same _⟩, ⟨_, rfl, .same _⟩, ⟨_, rfl, .same _⟩, trivial⟩ ⟨rfl, trivial⟩
  · rintro ⟨i, from', out⟩ ⟨hi, hf, ho, he, hp⟩
    dsimp only at hi hf ho he hp ⊢
    refine k2 ?_; refine k2 ?_
    refine c_region ?_; refine l_neu (n_move rfl rfl) rfl ?_; refine l_neu (n_move rfl rfl) rfl ?_; refine l_neu (n_len_s rfl) rfl ?_; refine l_neu (n_lss rfl rfl) rfl ?_; refine l_nil ?_
    refine k1 ?_
    refine c_cond rfl (fun ht => ?_) (fun ht => ?_)
    · have hlt : i < b.length := by simpa using ht
      have hv : b[i]? = some b[i] := by simp [hlt]
      refine k5 ?_; refine k1 ?_; refine k2 ?_; refine k3 ?_; refine k2 ?_
      refine c_region ?_; refine l_neu (n_move rfl rfl) rfl ?_; refine l_neu (n_move rfl rfl) rfl ?_; refine l_neu (n_index_s rfl rfl (by omega) hv) rfl ?_; refine l_neu (n_eql rfl rfl) rfl ?_; refine l_neu (n_move rfl rfl) rfl ?_; refine l_guard rfl rfl rfl rfl (fun hg => by rw [hg]; exact n_move rfl rfl) ?_; refine l_guard rfl rfl rfl rfl (fun hg => by have hq := hg; (try simp at hq); rw [hg]; exact n_add rfl rfl (by omega)) ?_; refine l_guard rfl rfl rfl rfl (fun hg => by rw [hg]; exact n_move rfl rfl) ?_; refine l_guard rfl rfl rfl rfl (fun hg => by rw [hg]; exact n_len_s rfl) ?_; refine l_guard rfl rfl rfl rfl (fun hg => by rw [hg]; exact n_eql rfl rfl) ?_; refine l_neu (n_pick_bool rfl (fun h => by first | rfl | (rw [h]; rfl)) (fun h => by first | rfl | (rw [h]; rfl))) rfl ?_; refine l_nil ?_
      refine k1 ?_
      refine c_cond rfl (fun ht2 => ?_) (fun ht2 => ?_)
      · refine k2 ?_
        refine c_region ?_; refine l_neu (n_move rfl rfl) rfl ?_; refine l_neu (n_move rfl rfl) rfl ?_; refine l_neu (n_move rfl rfl) rfl ?_; refine l_neu (n_move rfl rfl) rfl ?_; refine l_neu (n_add rfl rfl (by omega)) rfl ?_; refine l_neu (n_sub_lh rfl rfl rfl (by omega) (by omega) (by omega)) rfl ?_; refine l_neu (n_buildSlice (c := strC) (ys := [_]) (asm_cons rfl rfl rfl rfl asm_nil) rfl rfl rfl) rfl ?_; refine l_effv (e_append rfl rfl rfl (.pure _ _ _ _) (by simp; omega) rfl) rfl ?_; refine l_neu (n_assign rfl rfl) rfl ?_; refine l_nil ?_
        refine k1 ?_
        refine c_region ?_; refine l_neu (n_move rfl rfl) rfl ?_; refine l_neu (n_add rfl rfl (by omega)) rfl ?_; refine l_neu (n_assign rfl rfl) rfl ?_; refine l_nil ?_
        refine k4 ?_; refine k1 ?_
        refine c_region ?_; refine l_neu (n_move rfl rfl) rfl ?_; refine l_neu (n_add rfl rfl (by omega)) rfl ?_; refine l_neu (n_assign rfl rfl) rfl ?_; refine l_nil ?_
        refine k1 ?_
        refine ⟨(i + 1, i + 1, _), ⟨?_, ?_, ?_, ?_, ?_⟩, ?_, Sees.of ⟨⟨_, rfl, .same _⟩, ⟨_, rfl, .same _⟩, ⟨_, rfl, .same _⟩, ⟨_, rfl, .same _⟩, trivial⟩ ⟨rfl, trivial⟩⟩
        all_goals dsimp only
        · omega
        · omega
        · simp; omega
        · omega
        · have hc : b[i] = 10 ∨ i + 1 = b.length := by
            simp only [u8_lf] at ht2
            by_cases h : b[i] = 10
            · exact .inl h
            · simp [h] at ht2; exact .inr (by omega)
          rw [toNat_succ, Int.toNat_natCast, Nat.sub_self, List.take_zero, ← part_snoc b from' i hf hlt, List.append_assoc, ← hp, List.drop_eq_getElem_cons hlt, linesAux_step]
          rcases hc with h | h
          · rw [if_pos h]; rfl
          · have hd : b.drop (i + 1) = [] := List.drop_eq_nil_of_le (by omega)
            rw [hd]
            split
            · rfl
            · rw [show linesAux ([] : Str) [] = [] from rfl, linesAux_end _ (by simp)]; simp
        · omega
      · refine k5 ?_; refine k4 ?_; refine k1 ?_
        refine c_region ?_; refine l_neu (n_move rfl rfl) rfl ?_; refine l_neu (n_add rfl rfl (by omega)) rfl ?_; refine l_neu (n_assign rfl rfl) rfl ?_; refine l_nil ?_
        refine k1 ?_
        refine ⟨(i + 1, from', out), ⟨?_, ?_, ?_, ?_, ?_⟩, ?_, Sees.of ⟨⟨_, rfl, .same _⟩, ⟨_, rfl, .same _⟩, ⟨_, rfl, .same _⟩, ⟨_, rfl, .same _⟩, trivial⟩ ⟨rfl, trivial⟩⟩
        all_goals dsimp only
        · omega
        · omega
        · omega
        · intro h
          simp [show (i : Int) + 1 = (b.length : Int) by omega] at ht2
        · have hc : b[i] ≠ 10 := fun h => by simp [h] at ht2
          rw [← part_snoc b from' i hf hlt, ← hp, List.drop_eq_getElem_cons hlt, linesAux_step, if_neg hc]
        · omega
    · refine k6 ?_; refine k2 ?_
      refine c_region ?_; refine l_neu (n_move rfl rfl) rfl ?_; refine l_neu (n_assign rfl rfl) rfl ?_; refine l_nil ?_
      refine k1 ?_; refine k10 ?_
      refine ret_ret (ret1 rfl rfl rfl) ?_
      have hi' : i = b.length := by simp at ht; omega
      subst hi'
      have := he rfl
      subst this
      rw [Nat.sub_self, List.take_zero, List.drop_eq_nil_of_le (Nat.le_refl _)] at hp
      rw [← hp]; simp [linesAux]
theorem check_ok (b : Str) (hb : b.length ≤ 1099511627776) : FnOk Tryz.prog 99 [pStr b] (fun rs => rs = [pInt (checkOf b)]) := by
  refine FnOk.intro Tryz.func99 (by decide) rfl rfl rfl rfl ?_
  refine k2 ?_
  refine c_region ?_; refine l_neu (n_assign rfl rfl) rfl ?_; refine l_nil ?_
  refine k1 ?_; refine k2 ?_; refine k2 ?_
  refine c_region ?_; refine l_neu (n_move rfl rfl) rfl ?_; refine l_neu (n_len_s rfl) rfl ?_; refine l_neu (n_gtr rfl rfl) rfl ?_; refine l_neu (n_move rfl rfl) rfl ?_; refine l_guard rfl rfl rfl rfl (fun hg => by rw [hg]; exact n_move rfl rfl) ?_; refine l_guard rfl rfl rfl rfl (fun hg => by have hq := hg; (try simp at hq); rw [hg]; exact n_call1 (lines_ok b (by omega)) rfl rfl) ?_; refine l_guard rfl rfl rfl rfl (fun hg => by rw [hg]; exact n_len rfl (.pure _ _ _ _)) ?_; refine l_guard rfl rfl rfl rfl (fun hg => by rw [hg]; exact n_gtr rfl rfl) ?_; refine l_neu (n_pick_bool rfl (fun h => by first | rfl | (rw [h]; rfl)) (fun h => by first | rfl | (rw [h]; rfl))) rfl ?_; refine l_nil ?_
  refine k1 ?_
  refine c_cond rfl (fun ht => ?_) (fun ht => ?_)
  · have h := of_decide_eq_true (or_pick.symm.trans ht)
    refine k2 ?_
    refine c_region ?_; refine l_neu (n_assign rfl rfl) rfl ?_; refine l_nil ?_
    refine k1 ?_; refine k10 ?_; refine k11 ?_
    exact ret_ret (ret1 rfl rfl rfl) (by rw [checkOf, if_pos (by omega)])
  · have h := of_decide_eq_false (or_pick.symm.trans ht)
    refine k5 ?_; refine k1 ?_; refine k2 ?_
    refine c_region ?_; refine l_neu (n_assign rfl rfl) rfl ?_; refine l_nil ?_
    refine k1 ?_; refine k10 ?_
    exact ret_ret (ret1 rfl rfl rfl) (by rw [checkOf, if_neg (by omega)])
theorem all_ok (l : List Str) (hl : l.flatten.length ≤ 536870912) : FnOk Tryz.prog 129 [pStrs l] (fun rs => rs = [pStr l.flatten]) := by
  refine FnOk.intro Tryz.func129 (by decide) rfl rfl rfl rfl ?_
  refine c_bound (t := 0) rfl (.pure _ _ _ _) fun hlen => ?_
  refine k2 ?_
  refine c_region ?_; refine l_neu (n_assign rfl rfl) rfl ?_; refine l_nil ?_
  refine k1 ?_; refine k2 ?_
  refine c_region ?_; refine l_effv (f_adopt 3 _ u8C rfl) rfl ?_; refine l_nil ?_
  refine k1 ?_; refine k2 ?_; refine k2 ?_
  refine c_region ?_; refine l_neu (n_assign rfl rfl) rfl ?_; refine l_nil ?_
  refine k1 ?_; refine k3 ?_
  refine c_while (X := Nat) (fun i => ([(0, sList Str 1 strC l), (3, .s (.one (.buf 3 UInt8 1 u8C (l.take i).flatten))), (4, sInt i)], [(3, .spare (l.take i).flatten.length 1 5)])) (fun i => i ≤ l.length) (fun i => l.length - i) 0 (by simp) (Sees.of ⟨le1 rfl, le1 rfl, le1 rfl, trivial⟩ ⟨rfl, trivial⟩) ?_
  intro i hi
  dsimp only at hi ⊢
  refine k2 ?_; refine k2 ?_
  refine c_region ?_; refine l_neu (n_move rfl rfl) rfl ?_; refine l_neu (n_move rfl rfl) rfl ?_; refine l_neu (n_len rfl (.pure _ _ _ _)) rfl ?_; refine l_neu (n_lss rfl rfl) rfl ?_; refine l_nil ?_
  refine k1 ?_
  refine c_cond rfl (fun ht => ?_) (fun ht => ?_)
  · have hlt : i < l.length := by simpa using ht
    have hv : l[i]? = some l[i] := by simp [hlt]
    have hf := flatten_take_succ l i hlt
    have hle := flatten_take_le l (i + 1)
    rw [hf, List.length_append] at hle
    refine k5 ?_; refine k1 ?_; refine k2 ?_; refine k3 ?_
    refine c_region ?_; refine l_neu (n_move rfl rfl) rfl ?_; refine l_neu (n_move rfl rfl) rfl ?_; refine l_neu (n_move rfl rfl) rfl ?_; refine l_neu (n_indexAddr rfl (.pure _ _ _ _) rfl (by omega) hv) rfl ?_; refine l_neu (n_load_eref rfl rfl) rfl ?_; refine l_effv (e_append_s TyStr.out rfl rfl rfl (by omega) rfl) rfl ?_; refine l_neu (n_assign rfl rfl) rfl ?_; refine l_nil ?_
    refine k4 ?_; refine k1 ?_
    refine c_region ?_; refine l_neu (n_move rfl rfl) rfl ?_; refine l_neu (n_add rfl rfl (by omega)) rfl ?_; refine l_neu (n_assign rfl rfl) rfl ?_; refine l_nil ?_
    refine k1 ?_
    refine ⟨i + 1, by omega, by omega, ?_⟩
    dsimp only
    rw [hf]
    exact Sees.of ⟨le1 rfl, le1 rfl, le1 rfl, trivial⟩ ⟨rfl, trivial⟩
  · have : i = l.length := by simp at ht; omega
    subst this
    refine k6 ?_; refine k2 ?_
    refine c_region ?_; refine l_neu (n_move rfl rfl) rfl ?_; refine l_neu (n_bytes_string TyStr.out rfl (.buf _ _ _ _ _)) rfl ?_; refine l_neu (n_assign rfl rfl) rfl ?_; refine l_nil ?_
    refine k1 ?_; refine k10 ?_
    exact ret_ret (ret1 rfl rfl rfl) (by simp)
theorem line_ok (s : Str) (hs : s.length ≤ 1099511627776) : FnOk Tryz.prog 142 [pStr s] (fun rs => rs = [pBool (lineOk s)]) := by
  refine FnOk.intro Tryz.func142 (by decide) rfl rfl rfl rfl ?_
  refine k2 ?_
  refine c_region ?_; refine l_neu (n_assign rfl rfl) rfl ?_; refine l_nil ?_
  refine k1 ?_; refine k2 ?_; refine k2 ?_
  refine c_region ?_; refine l_neu (n_assign rfl rfl) rfl ?_; refine l_nil ?_
  refine k1 ?_; refine k3 ?_
  refine c_while (X := Nat) (fun k => ([(0, sStr s), (3, sInt k)], [])) (fun k => k ≤ s.length ∧ lineOk s = ((s.dropLast.drop k).all (· ≠ 10) && s != [])) (fun k => s.length - k) 0 (by simp [lineOk]) (Sees.of ⟨le1 rfl, le1 rfl, trivial⟩ trivial) ?_
  intro k hk
  dsimp only at hk ⊢
  refine k2 ?_; refine k2 ?_
  refine c_region ?_; refine l_neu (n_move rfl rfl) rfl ?_; refine l_neu (n_add rfl rfl (by omega)) rfl ?_; refine l_neu (n_move rfl rfl) rfl ?_; refine l_neu (n_len_s rfl) rfl ?_; refine l_neu (n_lss rfl rfl) rfl ?_; refine l_nil ?_
  refine k1 ?_
  refine c_cond rfl (fun ht => ?_) (fun ht => ?_)
  · have hk2 : k + 1 < s.length := by have := of_decide_eq_true ht; omega
    have hvk : s[k]? = some (s[k]'(by omega)) := List.getElem?_eq_getElem (by omega)
    have hd : s.dropLast.drop k = s[k]'(by omega) :: s.dropLast.drop (k + 1) := by
      rw [List.drop_eq_getElem_cons (by simp; omega)]; simp
    rw [hd, List.all_cons] at hk
    refine k5 ?_; refine k1 ?_; refine k2 ?_; refine k3 ?_; refine k2 ?_
    refine c_region ?_; refine l_neu (n_move rfl rfl) rfl ?_; refine l_neu (n_move rfl rfl) rfl ?_; refine l_neu (n_index_s rfl rfl (by omega) hvk) rfl ?_; refine l_neu (n_eql rfl rfl) rfl ?_; refine l_nil ?_
    refine k1 ?_
    refine c_cond rfl (fun ht => ?_) (fun ht => ?_)
    · have h10 := (u8_lf _).1 (of_decide_eq_true ht)
      refine k2 ?_
      refine c_region ?_; refine l_neu (n_assign rfl rfl) rfl ?_; refine l_nil ?_
      refine k1 ?_; refine k10 ?_; refine k12 ?_; refine k11 ?_; refine k11 ?_; refine k12 ?_; refine k11 ?_
      exact ret_ret (ret1 rfl rfl rfl) (by rw [hk.2]; simp [h10])
    · have h10 : s[k]'(by omega) ≠ 10 := fun h => of_decide_eq_false ht ((u8_lf _).2 h)
      refine k5 ?_; refine k4 ?_; refine k1 ?_
      refine c_region ?_; refine l_neu (n_move rfl rfl) rfl ?_; refine l_neu (n_add rfl rfl (by omega)) rfl ?_; refine l_neu (n_assign rfl rfl) rfl ?_; refine l_nil ?_
      refine k1 ?_
      exact ⟨k + 1, ⟨by omega, by rw [hk.2]; simp [h10]⟩, by omega, Sees.of ⟨le1 rfl, le1 rfl, trivial⟩ trivial⟩
  · have hk2 : s.length ≤ k + 1 := by have := of_decide_eq_false ht; omega
    have hlo : lineOk s = (s != []) := by rw [hk.2, List.drop_eq_nil_of_le (by simp; omega)]; rfl
    refine k6 ?_; refine k2 ?_
    refine c_region ?_; refine l_neu (n_move rfl rfl) rfl ?_; refine l_neu (n_neq_s rfl rfl) rfl ?_; refine l_neu (n_assign rfl rfl) rfl ?_; refine l_nil ?_
    refine k1 ?_; refine k10 ?_
    exact ret_ret (ret1 rfl rfl rfl) (by rw [hlo]; by_cases h : s = [] <;> simp [h])
theorem place_ok (l : List Str) (s : Str) : FnOk Tryz.prog 167 [pStrs l, pStr s] (fun rs => rs = [pInt (placeOf l s 0)]) := by
  refine FnOk.intro Tryz.func167 (by decide) rfl rfl rfl rfl ?_
  refine c_bound (t := 0) rfl (.pure _ _ _ _) fun hlen => ?_
  refine k2 ?_
  refine c_region ?_; refine l_neu (n_assign rfl rfl) rfl ?_; refine l_nil ?_
  refine k1 ?_; refine k2 ?_; refine k2 ?_
  refine c_region ?_; refine l_neu (n_assign rfl rfl) rfl ?_; refine l_nil ?_
  refine k1 ?_; refine k3 ?_
  refine c_while (X := Nat) (fun i => ([(0, sList Str 1 strC l), (1, sStr s), (5, sInt i)], [])) (fun i => i ≤ l.length ∧ placeOf l s 0 = placeOf (l.drop i) s i) (fun i => l.length - i) 0 (by simp) (Sees.of ⟨le1 rfl, le1 rfl, le1 rfl, trivial⟩ trivial) ?_
  rintro i ⟨hi, hp⟩
  dsimp only at hi hp ⊢
  refine k2 ?_; refine k2 ?_
  refine c_region ?_; refine l_neu (n_move rfl rfl) rfl ?_; refine l_neu (n_move rfl rfl) rfl ?_; refine l_neu (n_len rfl (.pure _ _ _ _)) rfl ?_; refine l_neu (n_lss rfl rfl) rfl ?_; refine l_nil ?_
  refine k1 ?_
  refine c_cond rfl (fun ht => ?_) (fun ht => ?_)
  · have hlt : i < l.length := by simpa using ht
    have hv : l[i]? = some l[i] := by simp [hlt]
    rw [placeOf_drop l s i hlt] at hp
    refine k5 ?_; refine k1 ?_; refine k2 ?_; refine k3 ?_; refine k2 ?_
    refine c_region ?_; refine l_neu (n_move rfl rfl) rfl ?_; refine l_neu (n_move rfl rfl) rfl ?_; refine l_neu (n_indexAddr rfl (.pure _ _ _ _) rfl (by omega) hv) rfl ?_; refine l_neu (n_load_eref rfl rfl) rfl ?_; refine l_neu (n_move rfl rfl) rfl ?_; refine l_neu (n_eql_s rfl rfl) rfl ?_; refine l_nil ?_
    refine k1 ?_
    refine c_cond rfl (fun ht => ?_) (fun ht => ?_)
    · rw [if_pos (by simpa using ht)] at hp
      refine k2 ?_
      refine c_region ?_; refine l_neu (n_move rfl rfl) rfl ?_; refine l_neu (n_assign rfl rfl) rfl ?_; refine l_nil ?_
      refine k1 ?_; refine k10 ?_; refine k12 ?_; refine k11 ?_; refine k11 ?_; refine k12 ?_; refine k11 ?_
      exact ret_ret (ret1 rfl rfl rfl) (by rw [hp])
    · rw [if_neg (by simpa using ht)] at hp
      refine k5 ?_; refine k4 ?_; refine k1 ?_
      refine c_region ?_; refine l_neu (n_move rfl rfl) rfl ?_; refine l_neu (n_add rfl rfl (by omega)) rfl ?_; refine l_neu (n_assign rfl rfl) rfl ?_; refine l_nil ?_
      refine k1 ?_
      exact ⟨i + 1, ⟨by omega, by simpa using hp⟩, by omega, Sees.of ⟨le1 rfl, le1 rfl, le1 rfl, trivial⟩ trivial⟩
  · have : i = l.length := by simp at ht; omega
    subst this
    refine k6 ?_; refine k2 ?_
    refine c_region ?_; refine l_neu (n_assign rfl rfl) rfl ?_; refine l_nil ?_
    refine k1 ?_; refine k10 ?_
    exact ret_ret (ret1 rfl rfl rfl) (by rw [hp]; simp [placeOf])
theorem names_ok (fs : List (List Str)) (hfs : fs.flatten.length ≤ 536870912) : FnOk Tryz.prog 100 [pStrss fs] (fun rs => rs = [pStrs (namesOf fs)]) := by
  refine FnOk.intro Tryz.func100 (by decide) rfl rfl rfl rfl ?_
  refine c_bound (t := 0) rfl (.pure _ _ _ _) fun hlen => ?_
  refine k2 ?_
  refine c_region ?_; refine l_neu (n_assign rfl rfl) rfl ?_; refine l_nil ?_
  refine k1 ?_; refine k2 ?_
  refine c_region ?_; refine l_effv (f_adopt 3 _ strC rfl) rfl ?_; refine l_nil ?_
  refine k1 ?_; refine k2 ?_; refine k2 ?_
  refine c_region ?_; refine l_neu (n_assign rfl rfl) rfl ?_; refine l_nil ?_
  refine k1 ?_; refine k3 ?_
  refine c_while (X := Nat) (fun f => ([(0, sList (List Str) 1 strsC fs), (3, .s (.one (.buf 3 Str 1 strC (namesOf (fs.take f))))), (4, sInt f)], [(3, .spare (namesOf (fs.take f)).length 1 9)])) (fun f => f ≤ fs.length) (fun f => fs.length - f) 0 (by simp) (Sees.of ⟨le1 rfl, le1 rfl, le1 rfl, trivial⟩ ⟨rfl, trivial⟩) ?_
  intro f hf
  dsimp only at hf ⊢
  refine k2 ?_; refine k2 ?_
  refine c_region ?_; refine l_neu (n_move rfl rfl) rfl ?_; refine l_neu (n_move rfl rfl) rfl ?_; refine l_neu (n_len rfl (.pure _ _ _ _)) rfl ?_; refine l_neu (n_lss rfl rfl) rfl ?_; refine l_nil ?_
  refine k1 ?_
  refine c_cond rfl (fun ht => ?_) (fun ht => ?_)
  · have hlt : f < fs.length := by have := of_decide_eq_true ht; omega
    have hv : fs[f]? = some fs[f] := by simp [hlt]
    have hfl := flatten_take_succ fs f hlt
    have hle := flatten_take_le fs (f + 1)
    rw [hfl, List.length_append] at hle
    have hn0 := namesOf_length (fs.take f)
    refine k5 ?_; refine k1 ?_; refine k2 ?_; refine k3 ?_; refine k2 ?_
    refine c_region ?_; refine l_neu (n_assign rfl rfl) rfl ?_; refine l_nil ?_
    refine k1 ?_; refine k3 ?_
    refine c_while (X := Nat) (fun i => ([(0, sList (List Str) 1 strsC fs), (3, .s (.one (.buf 3 Str 1 strC ((fs[f].take i).foldl namesStep (namesOf (fs.take f)))))), (4, sInt f), (5, sInt i)], [(3, .spare ((fs[f].take i).foldl namesStep (namesOf (fs.take f))).length 1 9)])) (fun i => i ≤ fs[f].length) (fun i => fs[f].length - i) 0 (by simp) (Sees.of ⟨le1 rfl, le1 rfl, le1 rfl, le1 rfl, trivial⟩ ⟨rfl, trivial⟩) ?_
    intro i hi
    dsimp only at hi ⊢
    have hni := foldl_names_length (fs[f].take i) (namesOf (fs.take f))
    rw [List.length_take] at hni
    refine k2 ?_; refine k2 ?_
    refine c_region ?_; refine l_neu (n_move rfl rfl) rfl ?_; refine l_neu (n_move rfl rfl) rfl ?_; refine l_neu (n_move rfl rfl) rfl ?_; refine l_neu (n_indexAddr rfl (.pure _ _ _ _) rfl (by omega) hv) rfl ?_; refine l_neu (n_load_eref rfl rfl) rfl ?_; refine l_neu (n_len rfl (.pure _ _ _ _)) rfl ?_; refine l_neu (n_lss rfl rfl) rfl ?_; refine l_nil ?_
    refine k1 ?_
    refine c_cond rfl (fun ht => ?_) (fun ht => ?_)
    · have hlt2 : i < fs[f].length := by have := of_decide_eq_true ht; omega
      have hvi : fs[f][i]? = some fs[f][i] := by simp [hlt2]
      have hst : (fs[f].take (i + 1)).foldl namesStep (namesOf (fs.take f)) = namesStep ((fs[f].take i).foldl namesStep (namesOf (fs.take f))) fs[f][i] := by
        rw [List.take_add_one, hvi, Option.toList_some, List.foldl_append]; rfl
      refine k5 ?_; refine k1 ?_; refine k2 ?_; refine k3 ?_; refine k2 ?_
      refine c_region ?_; refine l_neu (n_move rfl rfl) rfl ?_; refine l_neu (n_move rfl rfl) rfl ?_; refine l_neu (n_move rfl rfl) rfl ?_; refine l_neu (n_indexAddr rfl (.pure _ _ _ _) rfl (by omega) hv) rfl ?_; refine l_neu (n_load_eref rfl rfl) rfl ?_; refine l_neu (n_move rfl rfl) rfl ?_; refine l_neu (n_indexAddr rfl (.pure _ _ _ _) rfl (by omega) hvi) rfl ?_; refine l_neu (n_load_eref rfl rfl) rfl ?_; refine l_call (place_ok _ _) rfl rfl rfl ?_; rintro _ rfl; refine l_neu (n_lss rfl rfl) rfl ?_; refine l_nil ?_
      refine k1 ?_
      have hpl := placeOf_neg ((fs[f].take i).foldl namesStep (namesOf (fs.take f))) fs[f][i] 0 (Int.le_refl _)
      refine c_cond rfl (fun ht => ?_) (fun ht => ?_)
      · have hnot := hpl.1 (of_decide_eq_true ht)
        skip
        refine c_region ?_; refine l_neu (n_move rfl rfl) rfl ?_; refine l_neu (n_move rfl rfl) rfl ?_; refine l_neu (n_move rfl rfl) rfl ?_; refine l_neu (n_indexAddr rfl (.pure _ _ _ _) rfl (by omega) hv) rfl ?_; refine l_neu (n_load_eref rfl rfl) rfl ?_; refine l_neu (n_move rfl rfl) rfl ?_; refine l_neu (n_indexAddr rfl (.pure _ _ _ _) rfl (by omega) hvi) rfl ?_; refine l_neu (n_load_eref rfl rfl) rfl ?_; refine l_neu (n_buildSlice (c := strC) (ys := [_]) (asm_cons rfl rfl rfl rfl asm_nil) rfl rfl rfl) rfl ?_; refine l_effv (e_append rfl rfl rfl (.pure _ _ _ _) (by simp; omega) rfl) rfl ?_; refine l_neu (n_assign rfl rfl) rfl ?_; refine l_nil ?_
        refine k4 ?_; refine k1 ?_
        refine c_region ?_; refine l_neu (n_move rfl rfl) rfl ?_; refine l_neu (n_add rfl rfl (by omega)) rfl ?_; refine l_neu (n_assign rfl rfl) rfl ?_; refine l_nil ?_
        refine k1 ?_
        refine ⟨i + 1, by omega, by omega, ?_⟩
        rw [hst, namesStep, if_neg hnot]
        exact Sees.of ⟨le1 rfl, le1 rfl, le1 rfl, le1 rfl, trivial⟩ ⟨rfl, trivial⟩
      · have hin : fs[f][i] ∈ (fs[f].take i).foldl namesStep (namesOf (fs.take f)) := Classical.byContradiction fun h => of_decide_eq_false ht (hpl.2 h)
        refine k5 ?_; refine k4 ?_; refine k1 ?_
        refine c_region ?_; refine l_neu (n_move rfl rfl) rfl ?_; refine l_neu (n_add rfl rfl (by omega)) rfl ?_; refine l_neu (n_assign rfl rfl) rfl ?_; refine l_nil ?_
        refine k1 ?_
        refine ⟨i + 1, by omega, by omega, ?_⟩
        rw [hst, namesStep, if_pos hin]
        exact Sees.of ⟨le1 rfl, le1 rfl, le1 rfl, le1 rfl, trivial⟩ ⟨rfl, trivial⟩
    · have hi' : i = fs[f].length := by have := of_decide_eq_false ht; omega
      subst hi'
      refine k6 ?_; refine k7 ?_; refine k7 ?_; refine k8 rfl ?_; refine k4 ?_; refine k1 ?_
      have : namesOf (fs.take (f + 1)) = (fs[f].take fs[f].length).foldl namesStep (namesOf (fs.take f)) := by
        rw [namesOf, hfl, List.foldl_append, List.take_length]; rfl
      refine c_region ?_; refine l_neu (n_move rfl rfl) rfl ?_; refine l_neu (n_add rfl rfl (by omega)) rfl ?_; refine l_neu (n_assign rfl rfl) rfl ?_; refine l_nil ?_
      refine k1 ?_
      refine ⟨f + 1, by omega, by omega, ?_⟩
      rw [this]
      exact Sees.of ⟨le1 rfl, le1 rfl, le1 rfl, trivial⟩ ⟨rfl, trivial⟩
  · have : f = fs.length := by have := of_decide_eq_false ht; omega
    subst this
    refine k6 ?_; refine k2 ?_
    refine c_region ?_; refine l_neu (n_move rfl rfl) rfl ?_; refine l_neu (n_assign rfl rfl) rfl ?_; refine l_nil ?_
    refine k1 ?_; refine k10 ?_
    exact ret_ret (ret1 rfl rfl rfl) (by simp)
end Go.Proofs.YtbiadkkamhpdnaaGreatDoor
namespace Go.Proofs.YtbiadkkamhpdnaaGreatDoor
open Go Go.AL
set_option maxRecDepth 100000
theorem made_ok (p : List Span) (m n : Int) (hp : p.length ≤ 536870912) (hb : ∀ s ∈ p, -1099511627776 ≤ s.From ∧ s.From ≤ 1099511627776 ∧ -1099511627776 ≤ s.To ∧ s.To ≤ 1099511627776)
    (hm : -1099511627776 ≤ m ∧ m ≤ 1099511627776 ∧ -1099511627776 ≤ n ∧ n ≤ 1099511627776) :
    FnOk Tryz.prog 169 [pSpans p, pInt m, pInt n] (fun rs => rs = [pChanges (madeOf p m n)]) := by
  refine FnOk.intro Tryz.func169 (by decide) rfl rfl rfl rfl ?_
  refine k2 ?_
  refine c_region ?_; refine l_neu (n_assign rfl rfl) rfl ?_; refine l_nil ?_
  refine k1 ?_; refine k2 ?_
  refine c_region ?_; refine l_effv (f_adopt 7 _ changeC rfl) rfl ?_; refine l_nil ?_
  refine k1 ?_; refine k2 ?_
  refine c_region ?_; refine l_neu (n_assign rfl rfl) rfl ?_; refine l_neu (n_assign rfl rfl) rfl ?_; refine l_nil ?_
  refine k1 ?_; refine k2 ?_; refine k2 ?_
  refine c_region ?_; refine l_neu (n_assign rfl rfl) rfl ?_; refine l_nil ?_
  refine k1 ?_; refine k3 ?_
  refine c_while (X := Nat × Int × Int × List Change) (fun x => ([(0, sList Span 2 spanC p), (1, sInt m), (2, sInt n), (7, .s (.one (.buf 7 Change 4 changeC x.2.2.2))), (8, sInt x.2.1), (9, sInt x.2.2.1), (10, sInt x.1)], [(7, .spare x.2.2.2.length 4 146)]))
    (fun x => x.1 ≤ p.length + 1 ∧ x.2.2.2.length ≤ x.1 ∧ (-1099511627776 ≤ x.2.1 ∧ x.2.1 ≤ 1099511627777 ∧ -1099511627776 ≤ x.2.2.1 ∧ x.2.2.1 ≤ 1099511627777) ∧ (x.1 ≤ p.length → x.2.2.2 ++ madeGo x.2.1 x.2.2.1 (p.drop x.1) m n = madeOf p m n) ∧ (x.1 = p.length + 1 → x.2.2.2 = madeOf p m n))
    (fun x => p.length + 1 - x.1) (0, 0, 0, []) (by simp [madeOf]) (Sees.of ⟨le1 rfl, le1 rfl, le1 rfl, le1 rfl, le1 rfl, le1 rfl, le1 rfl, trivial⟩ ⟨rfl, trivial⟩) ?_
  rintro ⟨k, i, j, out⟩ ⟨hk, ho, hij, h1, h2⟩
  dsimp only at hk ho hij h1 h2 ⊢
  refine k2 ?_; refine k2 ?_
  refine c_region ?_; refine l_neu (n_move rfl rfl) rfl ?_; refine l_neu (n_move rfl rfl) rfl ?_; refine l_neu (n_len rfl (.pure _ _ _ _)) rfl ?_; refine l_neu (n_leq rfl rfl) rfl ?_; refine l_nil ?_
  refine k1 ?_
  refine c_cond rfl (fun ht => ?_) (fun ht => ?_)
  · have hk' : k ≤ p.length := by have := of_decide_eq_true ht; omega
    have hpp := h1 hk'
    refine k5 ?_; refine k1 ?_; refine k2 ?_; refine k3 ?_; refine k2 ?_
    refine c_region ?_; refine l_neu (n_move rfl rfl) rfl ?_; refine l_neu (n_move rfl rfl) rfl ?_; refine l_neu (n_build rfl) rfl ?_; refine l_effv (f_alloc 11 rfl) rfl ?_; refine l_eff (e_store_ref TySz.out rfl rfl rfl rfl rfl rfl) ?_; refine l_nil ?_
    refine then_normal ?_
    obtain ⟨x, hx⟩ : ∃ x, x = p.getD k ⟨m, n⟩ := ⟨_, rfl⟩
    have hxb : -1099511627776 ≤ x.From ∧ x.From ≤ 1099511627776 ∧ -1099511627776 ≤ x.To ∧ x.To ≤ 1099511627776 := by
      rw [hx, List.getD_eq_getElem?_getD]
      by_cases h : k < p.length
      · rw [List.getElem?_eq_getElem h]; exact hb _ (List.getElem_mem h)
      · rw [List.getElem?_eq_none (by omega)]; exact hm
    have hmade : madeGo i j (p.drop k) m n = (if x.From > i ∨ x.To > j then [⟨i, x.From - i, j, x.To - j⟩] else []) ++ (if k < p.length then madeGo (x.From + 1) (x.To + 1) (p.drop (k + 1)) m n else []) := by
      by_cases h : k < p.length
      · rw [List.drop_eq_getElem_cons h, if_pos h, hx, List.getD_eq_getElem?_getD, List.getElem?_eq_getElem h]; rfl
      · rw [List.drop_eq_nil_of_le (by omega), if_neg h, hx, List.getD_eq_getElem?_getD, List.getElem?_eq_none (by omega)]; simp [madeGo]
    refine c_join [(0, sList Span 2 spanC p), (1, sInt m), (2, sInt n), (7, .s (.one (.buf 7 Change 4 changeC out))), (8, sInt i), (9, sInt j), (10, sInt k), (11, .s (.one (.ref 11 0)))] [(11, .box [.p (.v (.int .i64 x.From)), .p (.v (.int .i64 x.To))]), (7, .spare out.length 4 146)] ?_ ?_
    · refine k2 ?_
      refine c_region ?_; refine l_neu (n_move rfl rfl) rfl ?_; refine l_neu (n_move rfl rfl) rfl ?_; refine l_neu (n_len rfl (.pure _ _ _ _)) rfl ?_; refine l_neu (n_lss rfl rfl) rfl ?_; refine l_nil ?_
      refine k1 ?_
      refine c_cond rfl (fun ht => ?_) (fun ht => ?_)
      · have hlt : k < p.length := by have := of_decide_eq_true ht; omega
        have hv : p[k]? = some p[k] := by simp [hlt]
        have : x = p[k] := by rw [hx, List.getD_eq_getElem?_getD, hv]; rfl
        subst this
        skip
        refine c_region ?_; refine l_neu (n_move rfl rfl) rfl ?_; refine l_neu (n_move rfl rfl) rfl ?_; refine l_neu (n_indexAddr rfl (.pure _ _ _ _) rfl (by omega) hv) rfl ?_; refine l_neu (n_loads_eref rfl rfl) rfl ?_; refine l_eff (e_store_ref TySz.out rfl rfl rfl rfl rfl rfl) ?_; refine l_nil ?_
        refine k1 ?_
        exact Sees.of ⟨le1 rfl, le1 rfl, le1 rfl, le1 rfl, le1 rfl, le1 rfl, le1 rfl, le1 rfl, trivial⟩ ⟨rfl, rfl, trivial⟩
      · have hlt : ¬ k < p.length := by have := of_decide_eq_false ht; omega
        have : x = ⟨m, n⟩ := by rw [hx, List.getD_eq_getElem?_getD, List.getElem?_eq_none (by omega)]; rfl
        subst this
        refine k5 ?_; refine k1 ?_
        exact Sees.of ⟨le1 rfl, le1 rfl, le1 rfl, le1 rfl, le1 rfl, le1 rfl, le1 rfl, le1 rfl, trivial⟩ ⟨rfl, rfl, trivial⟩
    · obtain ⟨out', hout'⟩ : ∃ o, o = out ++ (if x.From > i ∨ x.To > j then [⟨i, x.From - i, j, x.To - j⟩] else []) := ⟨_, rfl⟩
      have hol : out'.length ≤ k + 1 := by rw [hout', List.length_append]; split <;> simp <;> omega
      refine c_join [(0, sList Span 2 spanC p), (1, sInt m), (2, sInt n), (7, .s (.one (.buf 7 Change 4 changeC out'))), (10, sInt k), (11, .s (.one (.ref 11 0)))] [(11, .box [.p (.v (.int .i64 x.From)), .p (.v (.int .i64 x.To))]), (7, .spare out'.length 4 146)] ?_ ?_
      · refine k2 ?_
        refine c_region ?_; refine l_neu (n_field_ref rfl) rfl ?_; refine l_neu (n_load_ref rfl rfl rfl) rfl ?_; refine l_neu (n_move rfl rfl) rfl ?_; refine l_neu (n_gtr rfl rfl) rfl ?_; refine l_neu (n_move rfl rfl) rfl ?_; refine l_guard rfl rfl rfl rfl (fun hg => by rw [hg]; exact n_field_ref rfl) ?_; refine l_guard rfl rfl rfl rfl (fun hg => by rw [hg]; exact n_load_ref rfl rfl rfl) ?_; refine l_guard rfl rfl rfl rfl (fun hg => by rw [hg]; exact n_move rfl rfl) ?_; refine l_guard rfl rfl rfl rfl (fun hg => by rw [hg]; exact n_gtr rfl rfl) ?_; refine l_neu (n_pick_bool rfl (fun h => by first | rfl | (rw [h]; rfl)) (fun h => by first | rfl | (rw [h]; rfl))) rfl ?_; refine l_nil ?_
        refine k1 ?_
        refine c_cond rfl (fun ht => ?_) (fun ht => ?_)
        · have h := of_decide_eq_true (or_pick.symm.trans ht)
          rw [if_pos h] at hout'
          subst hout'
          skip
          refine c_region ?_; refine l_neu (n_move rfl rfl) rfl ?_; refine l_neu (n_move rfl rfl) rfl ?_; refine l_neu (n_field_ref rfl) rfl ?_; refine l_neu (n_load_ref rfl rfl rfl) rfl ?_; refine l_neu (n_move rfl rfl) rfl ?_; refine l_neu (n_sub rfl rfl (by omega)) rfl ?_; refine l_neu (n_move rfl rfl) rfl ?_; refine l_neu (n_field_ref rfl) rfl ?_; refine l_neu (n_load_ref rfl rfl rfl) rfl ?_; refine l_neu (n_move rfl rfl) rfl ?_; refine l_neu (n_sub rfl rfl (by omega)) rfl ?_; refine l_neu (n_build rfl) rfl ?_; refine l_neu (n_buildSlice (c := changeC) (ys := [⟨_, _, _, _⟩]) (asm_cons rfl rfl rfl rfl asm_nil) rfl rfl rfl) rfl ?_; refine l_effv (e_append rfl rfl rfl (.pure _ _ _ _) (by simp; omega) rfl) rfl ?_; refine l_neu (n_assign rfl rfl) rfl ?_; refine l_nil ?_
          refine k1 ?_
          exact Sees.of ⟨le1 rfl, le1 rfl, le1 rfl, le1 rfl, le1 rfl, le1 rfl, trivial⟩ ⟨rfl, rfl, trivial⟩
        · have h := of_decide_eq_false (or_pick.symm.trans ht)
          rw [if_neg h, List.append_nil] at hout'
          subst hout'
          refine k5 ?_; refine k1 ?_
          exact Sees.of ⟨le1 rfl, le1 rfl, le1 rfl, le1 rfl, le1 rfl, le1 rfl, trivial⟩ ⟨rfl, rfl, trivial⟩
      · skip
        refine c_region_draw (by kernel_rfl) (by kernel_rfl) ?_; refine d_neu (n_field_ref rfl) rfl rfl ?_; refine d_neu (n_load_ref rfl rfl rfl) rfl rfl ?_; refine d_neu (n_add rfl rfl (by omega)) rfl rfl ?_; refine d_neu (n_field_ref rfl) rfl rfl ?_; refine d_neu (n_load_ref rfl rfl rfl) rfl rfl ?_; refine d_neu (n_add rfl rfl (by omega)) rfl rfl ?_; refine d_neu (n_assign rfl rfl) rfl rfl ?_; refine d_neu (n_assign rfl rfl) rfl rfl ?_; refine d_nil ?_
        refine k4 ?_; refine k1 ?_
        refine c_region ?_; refine l_neu (n_move rfl rfl) rfl ?_; refine l_neu (n_add rfl rfl (by omega)) rfl ?_; refine l_neu (n_assign rfl rfl) rfl ?_; refine l_nil ?_
        refine k1 ?_
        refine ⟨(k + 1, x.From + 1, x.To + 1, out'), ⟨by dsimp only; omega, hol, by dsimp only; omega, ?_, ?_⟩, by dsimp only; omega, Sees.of ⟨le1 rfl, le1 rfl, le1 rfl, le1 rfl, le1 rfl, le1 rfl, le1 rfl, trivial⟩ ⟨rfl, trivial⟩⟩
        · intro hk2
          dsimp only at hk2 ⊢
          rw [← hpp, hmade, if_pos (show k < p.length by omega), hout']; simp
        · intro hk2
          dsimp only at hk2 ⊢
          rw [← hpp, hmade, if_neg (show ¬ k < p.length by omega), hout']; simp
  · have hk' : k = p.length + 1 := by have := of_decide_eq_false ht; omega
    refine k6 ?_; refine k2 ?_
    refine c_region ?_; refine l_neu (n_move rfl rfl) rfl ?_; refine l_neu (n_assign rfl rfl) rfl ?_; refine l_nil ?_
    refine k1 ?_; refine k10 ?_
    exact ret_ret (ret1 rfl rfl rfl) (by rw [h2 hk'])
theorem table_ok (a b : List Int) (ha : a.length ≤ 536870912) (hb : b.length ≤ 536870912) : FnOk Tryz.prog 168 [pInts a, pInts b] (fun rs => rs = [pIntss (distTable a b)]) := by
  refine FnOk.intro Tryz.func168 (by decide) rfl rfl rfl rfl ?_
  refine k2 ?_
  refine c_region ?_; refine l_neu (n_assign rfl rfl) rfl ?_; refine l_nil ?_
  refine k1 ?_; refine k2 ?_
  refine c_region ?_; refine l_neu (n_move rfl rfl) rfl ?_; refine l_neu (n_len rfl (.pure _ _ _ _)) rfl ?_; refine l_neu (n_add rfl rfl (by omega)) rfl ?_; refine l_effv (f_makeZ 5 (List Int) intsC [] rfl rfl (by omega) (by omega) (fun _ => by first | exact ⟨⟨rfl, rfl⟩, trivial⟩ | exact ⟨rep_nil _ _ _, trivial⟩) (by first | rfl | (simp [frFree, obFree, Ob.free, SV.free, S1.free, TC.free] <;> rfl))) rfl ?_; refine l_neu (n_assign rfl rfl) rfl ?_; refine l_nil ?_
  refine k1 ?_; refine k2 ?_; refine k2 ?_
  refine c_region ?_; refine l_neu (n_move rfl rfl) rfl ?_; refine l_neu (n_len rfl (.pure _ _ _ _)) rfl ?_; refine l_neu (n_assign rfl rfl) rfl ?_; refine l_nil ?_
  refine k1 ?_; refine k3 ?_
  refine c_while (X := Nat) (fun i => ([(0, sList Int 1 intC a), (1, sList Int 1 intC b), (5, .s (.one (.mut 5))), (6, sInt ((i : Int) - 1))], [(5, .arr (List Int) 1 intsC (distRows a b i))])) (fun i => i ≤ a.length + 1) (fun i => i) (a.length + 1) (Nat.le_refl _) ?_ ?_
  · refine Sees.of ⟨⟨_, rfl, .same _⟩, ⟨_, rfl, .same _⟩, ⟨_, rfl, .same _⟩, ⟨_, rfl, .eq (by simp)⟩, trivial⟩ ⟨?_, trivial⟩
    rw [← distRows_full]; rfl
  intro i hi
  dsimp only at hi ⊢
  refine k2 ?_; refine k2 ?_
  refine c_region ?_; refine l_neu (n_move rfl rfl) rfl ?_; refine l_neu (n_geq rfl rfl) rfl ?_; refine l_nil ?_
  refine k1 ?_
  refine c_cond rfl (fun ht => ?_) (fun ht => ?_)
  · obtain ⟨i, rfl⟩ : ∃ r, i = r + 1 := ⟨i - 1, by have := of_decide_eq_true ht; omega⟩
    refine c_cut [(0, sList Int 1 intC a), (1, sList Int 1 intC b), (5, .s (.one (.mut 5))), (6, sInt i)] [(5, .arr (List Int) 1 intsC (distRows a b (i + 1)))] (Sees.of ⟨le1 rfl, le1 rfl, le1 rfl, leE rfl (by first | (simp; done) | (simp; omega)), trivial⟩ ⟨rfl, trivial⟩) ?_
    refine c_sees (Sees.toT1 5 rfl) ?_
    have hTl : ((distRows a b (i + 1)).map fun x => TC.p (intsC x 0)).length = a.length + 1 := by simp [distRows_length]
    have hRs := distRows_length a b (i + 1)
    refine k5 ?_; refine k1 ?_; refine k2 ?_; refine k3 ?_; refine k2 ?_
    refine c_region ?_; refine l_neu (n_move rfl rfl) rfl ?_; refine l_neu (n_move rfl rfl) rfl ?_; refine l_neu (n_move rfl rfl) rfl ?_; refine l_neu (n_len rfl (.pure _ _ _ _)) rfl ?_; refine l_neu (n_add rfl rfl (by omega)) rfl ?_; refine l_effv (f_makeZ 23 Int intC 0 rfl rfl (by omega) (by omega) (fun _ => by first | exact ⟨⟨rfl, rfl⟩, trivial⟩ | exact ⟨rep_nil _ _ _, trivial⟩) (by first | rfl | (simp [frFree, obFree, Ob.free, SV.free, S1.free, TC.free] <;> rfl))) rfl ?_; refine l_neu (n_indexAddr_mutT rfl rfl rfl (by omega) (by omega)) rfl ?_; refine l_eff (e_store_mrefT1 TySz.out rfl rfl (by (rw [hTl]; simp; omega)) rfl rfl) ?_; refine l_nil ?_
    refine k1 ?_; refine k2 ?_
    refine c_region ?_; refine l_neu (n_move rfl rfl) rfl ?_; refine l_neu (n_len rfl (.pure _ _ _ _)) rfl ?_; refine l_neu (n_assign rfl rfl) rfl ?_; refine l_nil ?_
    refine k1 ?_; refine k3 ?_
    obtain ⟨T, hT⟩ : ∃ T, T = ((distRows a b (i + 1)).map fun x => TC.p (intsC x 0)).set i (.mut 23) := ⟨_, rfl⟩
    have hTi : T[i]? = some (.mut 23) := by rw [hT, List.getElem?_set_self (by rw [hTl]; omega)]
    have hTn : i + 1 ≤ a.length → T[i + 1]? = some (.p (intsC (distRow a b (i + 1) 0) 0)) := fun h => by
      rw [hT, List.getElem?_set_ne (by omega), List.getElem?_map, distRows_get a b (i + 1) (i + 1) (Nat.le_refl _) h]; rfl
    refine c_while (X := Nat) (fun j => ([(0, sList Int 1 intC a), (1, sList Int 1 intC b), (5, .s (.one (.mut 5))), (6, sInt i), (7, sInt ((j : Int) - 1))], [(5, .tarr (distRows a b (i + 1)).length 1 T), (23, .arr Int 1 intC (distRow a b i j))])) (fun j => j ≤ b.length + 1) (fun j => j) (b.length + 1) (Nat.le_refl _) ?_ ?_
    · refine Sees.of ⟨⟨_, rfl, .same _⟩, ⟨_, rfl, .same _⟩, ⟨_, rfl, .same _⟩, ⟨_, rfl, .same _⟩, ⟨_, rfl, .eq (by simp)⟩, trivial⟩ ⟨by rw [hT]; rfl, ?_, trivial⟩
      rw [← distRow_full]; rfl
    intro j hj
    dsimp only at hj ⊢
    refine k2 ?_; refine k2 ?_
    refine c_region ?_; refine l_neu (n_move rfl rfl) rfl ?_; refine l_neu (n_geq rfl rfl) rfl ?_; refine l_nil ?_
    refine k1 ?_
    refine c_cond rfl (fun ht => ?_) (fun ht => ?_)
    · obtain ⟨j, rfl⟩ : ∃ r, j = r + 1 := ⟨j - 1, by have := of_decide_eq_true ht; omega⟩
      refine c_cut [(0, sList Int 1 intC a), (1, sList Int 1 intC b), (5, .s (.one (.mut 5))), (6, sInt i), (7, sInt j)] [(5, .tarr (distRows a b (i + 1)).length 1 T), (23, .arr Int 1 intC (distRow a b i (j + 1)))] (Sees.of ⟨le1 rfl, le1 rfl, le1 rfl, le1 rfl, leE rfl (by first | (simp; done) | (simp; omega)), trivial⟩ ⟨rfl, rfl, trivial⟩) ?_
      have hRl := distRow_length a b i (j + 1)
      have hst := distRow_set a b i j
      refine c_skip ?_
      refine then_normal ?_
      refine c_join [(0, sList Int 1 intC a), (1, sList Int 1 intC b), (5, .s (.one (.mut 5))), (6, sInt i), (7, sInt j)] [(5, .tarr (distRows a b (i + 1)).length 1 T), (23, .arr Int 1 intC (distRow a b i j))] ?_ ?_
      · refine k3 ?_; refine k3 ?_; refine k2 ?_
        refine c_region ?_; refine l_neu (n_move rfl rfl) rfl ?_; refine l_neu (n_move rfl rfl) rfl ?_; refine l_neu (n_len rfl (.pure _ _ _ _)) rfl ?_; refine l_neu (n_eql rfl rfl) rfl ?_; refine l_neu (n_assign rfl rfl) rfl ?_; refine l_nil ?_
        refine k1 ?_
        refine c_cond rfl (fun ht => ?_) (fun ht => ?_)
        · have hia : i = a.length := by have := of_decide_eq_true ht; omega
          have hd : (dist (a.drop i) (b.drop j) : Int) = b.length - j := by rw [hia, List.drop_eq_nil_of_le (Nat.le_refl _), dist, List.length_drop]; omega
          rw [hd] at hst
          skip
          refine c_region ?_; refine l_neu (n_move rfl rfl) rfl ?_; refine l_neu (n_move rfl rfl) rfl ?_; refine l_neu (n_indexAddr_mutT rfl rfl rfl (by omega) (by omega)) rfl ?_; refine l_neu (n_load_mrefT1 rfl rfl hTi) rfl ?_; refine l_neu (n_move rfl rfl) rfl ?_; refine l_neu (n_move rfl rfl) rfl ?_; refine l_neu (n_len rfl (.pure _ _ _ _)) rfl ?_; refine l_neu (n_move rfl rfl) rfl ?_; refine l_neu (n_sub rfl rfl (by omega)) rfl ?_; refine l_neu (n_indexAddr_mut rfl rfl rfl (by omega) (by omega)) rfl ?_; refine l_eff (e_store_mref1 TySz.out rfl rfl (by (rw [hRl]; simp; omega)) rfl rfl) ?_; refine l_nil ?_
          refine k4 ?_; refine k4 ?_; refine k1 ?_
          rw [← hst]
          exact Sees.of ⟨le1 rfl, le1 rfl, le1 rfl, le1 rfl, le1 rfl, trivial⟩ ⟨rfl, rfl, trivial⟩
        · have hia : i < a.length := by have := of_decide_eq_false ht; omega
          refine k2 ?_
          refine c_region ?_; refine l_neu (n_move rfl rfl) rfl ?_; refine l_neu (n_move rfl rfl) rfl ?_; refine l_neu (n_len rfl (.pure _ _ _ _)) rfl ?_; refine l_neu (n_eql rfl rfl) rfl ?_; refine l_neu (n_assign rfl rfl) rfl ?_; refine l_nil ?_
          refine k1 ?_
          refine c_cond rfl (fun ht => ?_) (fun ht => ?_)
          · have hjb : j = b.length := by have := of_decide_eq_true ht; omega
            have hd : (dist (a.drop i) (b.drop j) : Int) = a.length - i := by rw [hjb, List.drop_eq_nil_of_le (Nat.le_refl b.length), dist_nil, List.length_drop]; omega
            rw [hd] at hst
            skip
            refine c_region ?_; refine l_neu (n_move rfl rfl) rfl ?_; refine l_neu (n_move rfl rfl) rfl ?_; refine l_neu (n_indexAddr_mutT rfl rfl rfl (by omega) (by omega)) rfl ?_; refine l_neu (n_load_mrefT1 rfl rfl hTi) rfl ?_; refine l_neu (n_move rfl rfl) rfl ?_; refine l_neu (n_move rfl rfl) rfl ?_; refine l_neu (n_len rfl (.pure _ _ _ _)) rfl ?_; refine l_neu (n_move rfl rfl) rfl ?_; refine l_neu (n_sub rfl rfl (by omega)) rfl ?_; refine l_neu (n_indexAddr_mut rfl rfl rfl (by omega) (by omega)) rfl ?_; refine l_eff (e_store_mref1 TySz.out rfl rfl (by (rw [hRl]; simp; omega)) rfl rfl) ?_; refine l_nil ?_
            refine k4 ?_; refine k4 ?_; refine k1 ?_
            rw [← hst]
            exact Sees.of ⟨le1 rfl, le1 rfl, le1 rfl, le1 rfl, le1 rfl, trivial⟩ ⟨rfl, rfl, trivial⟩
          · have hjb : j < b.length := by have := of_decide_eq_false ht; omega
            have hva : a[i]? = some a[i] := by simp [hia]
            have hvb : b[j]? = some b[j] := by simp [hjb]
            have hdd := dist_drop a b i j hia hjb
            have hTn' := hTn hia
            refine k2 ?_
            refine c_region_draw (by kernel_rfl) (by kernel_rfl) ?_; refine d_neu (n_move rfl rfl) rfl rfl ?_; refine d_neu (n_move rfl rfl) rfl rfl ?_; refine d_neu (n_indexAddr rfl (.pure _ _ _ _) rfl (by omega) hva) rfl rfl ?_; refine d_neu (n_load_eref rfl rfl) rfl rfl ?_; refine d_neu (n_move rfl rfl) rfl rfl ?_; refine d_neu (n_move rfl rfl) rfl rfl ?_; refine d_neu (n_indexAddr rfl (.pure _ _ _ _) rfl (by omega) hvb) rfl rfl ?_; refine d_neu (n_load_eref rfl rfl) rfl rfl ?_; refine d_neu (n_eql rfl rfl) rfl rfl ?_; refine d_neu (n_assign rfl rfl) rfl rfl ?_; refine d_nil ?_
            refine k1 ?_
            refine c_cond rfl (fun ht => ?_) (fun ht => ?_)
            · rw [if_pos (of_decide_eq_true ht)] at hdd
              have hg := distRow_get a b (i + 1) 0 (j + 1) (Nat.zero_le _) hjb
              rw [hdd] at hst
              skip
              refine c_region_draw (by kernel_rfl) (by kernel_rfl) ?_; refine d_neu (n_move rfl rfl) rfl rfl ?_; refine d_neu (n_move rfl rfl) rfl rfl ?_; refine d_neu (n_indexAddr_mutT rfl rfl rfl (by omega) (by omega)) rfl rfl ?_; refine d_neu (n_load_mrefT1 rfl rfl hTi) rfl rfl ?_; refine d_neu (n_move rfl rfl) rfl rfl ?_; refine d_neu (n_move rfl rfl) rfl rfl ?_; refine d_neu (n_move rfl rfl) rfl rfl ?_; refine d_neu (n_add rfl rfl (by omega)) rfl rfl ?_; refine d_neu (n_indexAddr_mutT rfl rfl rfl (by omega) (by omega)) rfl rfl ?_; refine d_neu (n_load_mrefT1 rfl rfl hTn') rfl rfl ?_; refine d_neu (n_move rfl rfl) rfl rfl ?_; refine d_neu (n_add rfl rfl (by omega)) rfl rfl ?_; refine d_neu (n_indexAddr rfl (.pure _ _ _ _) rfl (by omega) hg) rfl rfl ?_; refine d_neu (n_load_eref rfl rfl) rfl rfl ?_; refine d_neu (n_indexAddr_mut rfl rfl rfl (by omega) (by omega)) rfl rfl ?_; refine d_eff (e_store_mref1 TySz.out rfl rfl (by (rw [hRl]; simp; omega)) rfl rfl) rfl ?_; refine d_nil ?_
              refine k4 ?_; refine k4 ?_; refine k1 ?_
              rw [← hst]
              exact Sees.of ⟨le1 rfl, le1 rfl, le1 rfl, le1 rfl, le1 rfl, trivial⟩ ⟨rfl, rfl, trivial⟩
            · rw [if_neg (of_decide_eq_false ht)] at hdd
              have hg1 := distRow_get a b (i + 1) 0 j (Nat.zero_le _) (by omega)
              have hg2 := distRow_get a b i (j + 1) (j + 1) (Nat.le_refl _) (by omega)
              have hl1 := dist_le (a.drop (i + 1)) (b.drop j)
              have hl2 := dist_le (a.drop i) (b.drop (j + 1))
              simp only [List.length_drop] at hl1 hl2
              have hval : (1 : Int) + (if (dist (a.drop i) (b.drop (j + 1)) : Int) < (dist (a.drop (i + 1)) (b.drop j) : Int) then (dist (a.drop i) (b.drop (j + 1)) : Int) else (dist (a.drop (i + 1)) (b.drop j) : Int)) = (dist (a.drop i) (b.drop j) : Int) := by
                rw [hdd]; split <;> omega
              rw [← hval] at hst
              skip
              refine c_region_draw (by kernel_rfl) (by kernel_rfl) ?_; refine d_neu (n_move rfl rfl) rfl rfl ?_; refine d_neu (n_move rfl rfl) rfl rfl ?_; refine d_neu (n_indexAddr_mutT rfl rfl rfl (by omega) (by omega)) rfl rfl ?_; refine d_neu (n_load_mrefT1 rfl rfl hTi) rfl rfl ?_; refine d_neu (n_move rfl rfl) rfl rfl ?_; refine d_neu (n_move rfl rfl) rfl rfl ?_; refine d_neu (n_move rfl rfl) rfl rfl ?_; refine d_neu (n_add rfl rfl (by omega)) rfl rfl ?_; refine d_neu (n_indexAddr_mutT rfl rfl rfl (by omega) (by omega)) rfl rfl ?_; refine d_neu (n_load_mrefT1 rfl rfl hTn') rfl rfl ?_; refine d_neu (n_move rfl rfl) rfl rfl ?_; refine d_neu (n_indexAddr rfl (.pure _ _ _ _) rfl (by omega) hg1) rfl rfl ?_; refine d_neu (n_load_eref rfl rfl) rfl rfl ?_; refine d_neu (n_move rfl rfl) rfl rfl ?_; refine d_neu (n_move rfl rfl) rfl rfl ?_; refine d_neu (n_indexAddr_mutT rfl rfl rfl (by omega) (by omega)) rfl rfl ?_; refine d_neu (n_load_mrefT1 rfl rfl hTi) rfl rfl ?_; refine d_neu (n_move rfl rfl) rfl rfl ?_; refine d_neu (n_add rfl rfl (by omega)) rfl rfl ?_; refine d_neu (n_indexAddr_mut rfl rfl rfl (by omega) (by omega)) rfl rfl ?_; refine d_neu (n_load_mref rfl rfl hg2 rfl) rfl rfl ?_; refine d_neu (n_min rfl rfl) rfl rfl ?_; refine d_neu (n_add rfl rfl (by (constructor <;> split <;> omega))) rfl rfl ?_; refine d_neu (n_indexAddr_mut rfl rfl rfl (by omega) (by omega)) rfl rfl ?_; refine d_eff (e_store_mref1 TySz.out rfl rfl (by (rw [hRl]; simp; omega)) rfl rfl) rfl ?_; refine d_nil ?_
              refine k4 ?_; refine k4 ?_; refine k1 ?_
              rw [← hst]
              exact Sees.of ⟨le1 rfl, le1 rfl, le1 rfl, le1 rfl, le1 rfl, trivial⟩ ⟨rfl, rfl, trivial⟩
      · skip
        refine c_region ?_; refine l_neu (n_move rfl rfl) rfl ?_; refine l_neu (n_sub rfl rfl (by omega)) rfl ?_; refine l_neu (n_assign rfl rfl) rfl ?_; refine l_nil ?_
        refine k1 ?_
        exact ⟨j, by omega, by omega, Sees.of ⟨le1 rfl, le1 rfl, le1 rfl, le1 rfl, le1 rfl, trivial⟩ ⟨rfl, rfl, trivial⟩⟩
    · obtain rfl : j = 0 := by have := of_decide_eq_false ht; omega
      refine c_sees (Sees.freeze (k := 23) rfl) ?_
      refine c_sees (Sees.ofT1 5 (distRows a b i) rfl (by simp [distRows_length]) (by rw [hT, freeze_set (y := distRow a b i 0) rfl, distRows_set])) ?_
      refine k6 ?_; refine k7 ?_; refine k7 ?_; refine k8 rfl ?_; refine k4 ?_; refine k1 ?_
      refine c_region ?_; refine l_neu (n_move rfl rfl) rfl ?_; refine l_neu (n_sub rfl rfl (by omega)) rfl ?_; refine l_neu (n_assign rfl rfl) rfl ?_; refine l_nil ?_
      refine k1 ?_
      exact ⟨i, by omega, by omega, Sees.of ⟨le1 rfl, le1 rfl, le1 rfl, le1 rfl, trivial⟩ ⟨rfl, trivial⟩⟩
  · obtain rfl : i = 0 := by have := of_decide_eq_false ht; omega
    refine c_sees (Sees.freeze (k := 5) rfl) ?_
    refine k6 ?_; refine k2 ?_
    refine c_region ?_; refine l_neu (n_move rfl rfl) rfl ?_; refine l_neu (n_assign rfl rfl) rfl ?_; refine l_nil ?_
    refine k1 ?_; refine k10 ?_
    exact ret_ret (ret1 rfl rfl rfl) rfl
theorem walkGo_bound (a b : List Int) : ∀ (p q : Int), ∀ s ∈ walkGo p q a b, p ≤ s.From ∧ s.From < p + a.length ∧ q ≤ s.To ∧ s.To < q + b.length := by
  induction a generalizing b with
  | nil => intro p q s hs; simp [walkGo] at hs
  | cons x a iha =>
    induction b with
    | nil => intro p q s hs; simp [walkGo] at hs
    | cons y b ihb =>
      intro p q s hs
      rw [walkGo] at hs
      simp only [List.length_cons]
      split at hs
      · rcases List.mem_cons.1 hs with rfl | hs
        · simp only; omega
        · have := iha b (p + 1) (q + 1) s hs; omega
      · split at hs
        · have := iha (y :: b) (p + 1) q s hs; simp only [List.length_cons] at this; omega
        · have := ihb p (q + 1) s hs; simp only [List.length_cons] at this; omega
theorem walk_ok (a b : List Int) (ha : a.length ≤ 536870911) (hb : b.length ≤ 536870911) : FnOk Tryz.prog 102 [pInts a, pInts b] (fun rs => rs = [pChanges (walkOf a b)]) := by
  refine FnOk.intro Tryz.func102 (by decide) rfl rfl rfl rfl ?_
  refine k2 ?_
  refine c_region ?_; refine l_neu (n_assign rfl rfl) rfl ?_; refine l_nil ?_
  refine k1 ?_; refine k2 ?_
  refine c_region ?_; refine l_neu (n_move rfl rfl) rfl ?_; refine l_neu (n_move rfl rfl) rfl ?_; refine l_call (table_ok a b (by omega) (by omega)) rfl rfl rfl ?_; rintro _ rfl; refine l_neu (n_assign rfl rfl) rfl ?_; refine l_nil ?_
  refine k1 ?_; refine k2 ?_
  refine c_region ?_; refine l_effv (f_adopt 6 _ spanC rfl) rfl ?_; refine l_nil ?_
  refine k1 ?_; refine k2 ?_
  refine c_region ?_; refine l_neu (n_assign rfl rfl) rfl ?_; refine l_neu (n_assign rfl rfl) rfl ?_; refine l_nil ?_
  refine k1 ?_; refine k2 ?_; refine k3 ?_
  refine c_while (X := Nat × Nat × List Span) (fun x => ([(0, sList Int 1 intC a), (1, sList Int 1 intC b), (5, sList (List Int) 1 intsC (distTable a b)), (6, .s (.one (.buf 6 Span 2 spanC x.2.2))), (7, sInt x.1), (8, sInt x.2.1)], [(6, .spare x.2.2.length 2 88)]))
    (fun x => x.1 ≤ a.length ∧ x.2.1 ≤ b.length ∧ x.2.2.length ≤ x.1 ∧ x.2.2 ++ walkGo x.1 x.2.1 (a.drop x.1) (b.drop x.2.1) = walkGo 0 0 a b) (fun x => a.length + b.length - x.1 - x.2.1) (0, 0, []) (by simp) (Sees.of ⟨le1 rfl, le1 rfl, le1 rfl, le1 rfl, le1 rfl, le1 rfl, trivial⟩ ⟨rfl, trivial⟩) ?_
  rintro ⟨i, j, out⟩ ⟨hi, hj, ho, hp⟩
  dsimp only at hi hj ho hp ⊢
  refine k2 ?_; refine k2 ?_
  refine c_region ?_; refine l_neu (n_move rfl rfl) rfl ?_; refine l_neu (n_move rfl rfl) rfl ?_; refine l_neu (n_len rfl (.pure _ _ _ _)) rfl ?_; refine l_neu (n_lss rfl rfl) rfl ?_; refine l_neu (n_move rfl rfl) rfl ?_; refine l_guard rfl rfl rfl rfl (fun hg => by rw [hg]; exact n_move rfl rfl) ?_; refine l_guard rfl rfl rfl rfl (fun hg => by rw [hg]; exact n_move rfl rfl) ?_; refine l_guard rfl rfl rfl rfl (fun hg => by rw [hg]; exact n_len rfl (.pure _ _ _ _)) ?_; refine l_guard rfl rfl rfl rfl (fun hg => by rw [hg]; exact n_lss rfl rfl) ?_; refine l_neu (n_pick_bool rfl (fun h => by first | rfl | (rw [h]; rfl)) (fun h => by first | rfl | (rw [h]; rfl))) rfl ?_; refine l_nil ?_
  refine k1 ?_
  refine c_cond rfl (fun ht => ?_) (fun ht => ?_)
  · have hor := of_decide_eq_true (or_pick.symm.trans ht)
    refine c_skip ?_
    refine then_normal ?_
    refine k3 ?_; refine k3 ?_; refine k2 ?_
    have hTi : i < a.length → (distTable a b)[i]? = some (distRow a b i 0) := fun h => distRows_get a b 0 i (Nat.zero_le _) (by omega)
    have hTn : i < a.length → (distTable a b)[i + 1]? = some (distRow a b (i + 1) 0) := fun h => distRows_get a b 0 (i + 1) (Nat.zero_le _) (by omega)
    have hva : i < a.length → a[i]? = some (a.getD i 0) := fun h => by simp [List.getD_eq_getElem?_getD, h]
    have hvb : j < b.length → b[j]? = some (b.getD j 0) := fun h => by simp [List.getD_eq_getElem?_getD, h]
    have hga : ∀ h : i < a.length, a.getD i 0 = a[i] := fun h => by simp [List.getD_eq_getElem?_getD, h]
    have hgb : ∀ h : j < b.length, b.getD j 0 = b[j] := fun h => by simp [List.getD_eq_getElem?_getD, h]
    refine c_region_draw (by kernel_rfl) (by kernel_rfl) ?_; refine d_neu (n_move rfl rfl) rfl rfl ?_; refine d_neu (n_move rfl rfl) rfl rfl ?_; refine d_neu (n_len rfl (.pure _ _ _ _)) rfl rfl ?_; refine d_neu (n_lss rfl rfl) rfl rfl ?_; refine d_neu (n_move rfl rfl) rfl rfl ?_; refine d_guard rfl rfl (fun hg => by rw [hg]; exact n_move rfl rfl) rfl rfl ?_; refine d_guard rfl rfl (fun hg => by rw [hg]; exact n_move rfl rfl) rfl rfl ?_; refine d_guard rfl rfl (fun hg => by rw [hg]; exact n_len rfl (.pure _ _ _ _)) rfl rfl ?_; refine d_guard rfl rfl (fun hg => by rw [hg]; exact n_lss rfl rfl) rfl rfl ?_; refine d_neu (n_pick_bool rfl (fun h => by first | rfl | (rw [h]; rfl)) (fun h => by first | rfl | (rw [h]; rfl))) rfl rfl ?_; refine d_neu (n_move rfl rfl) rfl rfl ?_; refine d_guard rfl rfl (fun hg => by rw [hg]; exact n_move rfl rfl) rfl rfl ?_; refine d_guard rfl rfl (fun hg => by rw [hg]; exact n_move rfl rfl) rfl rfl ?_; refine d_guard rfl rfl (fun hg => by have hq := hg; (try simp at hq); rw [hg]; exact n_indexAddr rfl (.pure _ _ _ _) rfl (by omega) (hva (by omega))) rfl rfl ?_; refine d_guard rfl rfl (fun hg => by rw [hg]; exact n_load_eref rfl rfl) rfl rfl ?_; refine d_guard rfl rfl (fun hg => by rw [hg]; exact n_move rfl rfl) rfl rfl ?_; refine d_guard rfl rfl (fun hg => by rw [hg]; exact n_move rfl rfl) rfl rfl ?_; refine d_guard rfl rfl (fun hg => by have hq := hg; (try simp at hq); rw [hg]; exact n_indexAddr rfl (.pure _ _ _ _) rfl (by omega) (hvb (by omega))) rfl rfl ?_; refine d_guard rfl rfl (fun hg => by rw [hg]; exact n_load_eref rfl rfl) rfl rfl ?_; refine d_guard rfl rfl (fun hg => by rw [hg]; exact n_eql rfl rfl) rfl rfl ?_; refine d_neu (n_pick_bool rfl (fun h => by first | rfl | (rw [h]; rfl)) (fun h => by first | rfl | (rw [h]; rfl))) rfl rfl ?_; refine d_neu (n_assign rfl rfl) rfl rfl ?_; refine d_nil ?_
    refine k1 ?_
    refine c_cond rfl (fun ht => ?_) (fun ht => ?_)
    · simp only [and_pick] at ht
      obtain ⟨⟨hia, hjb⟩, heq⟩ := of_decide_eq_true ht
      have hia' : i < a.length := by omega
      have hjb' : j < b.length := by omega
      rw [hga hia', hgb hjb'] at heq
      rw [walkGo_drop a b i j hia' hjb', if_pos heq] at hp
      refine k2 ?_
      refine c_region ?_; refine l_neu (n_move rfl rfl) rfl ?_; refine l_neu (n_move rfl rfl) rfl ?_; refine l_neu (n_move rfl rfl) rfl ?_; refine l_neu (n_build rfl) rfl ?_; refine l_neu (n_buildSlice (c := spanC) (ys := [⟨_, _⟩]) (asm_cons rfl rfl rfl rfl asm_nil) rfl rfl rfl) rfl ?_; refine l_effv (e_append rfl rfl rfl (.pure _ _ _ _) (by simp; omega) rfl) rfl ?_; refine l_neu (n_assign rfl rfl) rfl ?_; refine l_nil ?_
      refine k1 ?_
      refine c_region ?_; refine l_neu (n_move rfl rfl) rfl ?_; refine l_neu (n_add rfl rfl (by omega)) rfl ?_; refine l_neu (n_move rfl rfl) rfl ?_; refine l_neu (n_add rfl rfl (by omega)) rfl ?_; refine l_neu (n_assign rfl rfl) rfl ?_; refine l_neu (n_assign rfl rfl) rfl ?_; refine l_nil ?_
      refine k4 ?_; refine k4 ?_; refine k1 ?_
      exact ⟨(i + 1, j + 1, out ++ [⟨i, j⟩]), ⟨by dsimp only; omega, by dsimp only; omega, by dsimp only; simp; omega, by dsimp only; rw [List.append_assoc]; exact hp⟩, by dsimp only; omega, Sees.of ⟨le1 rfl, le1 rfl, le1 rfl, le1 rfl, le1 rfl, le1 rfl, trivial⟩ ⟨rfl, trivial⟩⟩
    · have hne : ∀ (h1 : i < a.length) (h2 : j < b.length), a[i] ≠ b[j] := fun h1 h2 h => by
        simp only [and_pick] at ht
        exact of_decide_eq_false ht ⟨⟨by omega, by omega⟩, by rw [hga h1, hgb h2]; exact h⟩
      refine k2 ?_
      refine c_region_draw (by kernel_rfl) (by kernel_rfl) ?_; refine d_neu (n_move rfl rfl) rfl rfl ?_; refine d_neu (n_move rfl rfl) rfl rfl ?_; refine d_neu (n_len rfl (.pure _ _ _ _)) rfl rfl ?_; refine d_neu (n_lss rfl rfl) rfl rfl ?_; refine d_neu (n_move rfl rfl) rfl rfl ?_; refine d_guard rfl rfl (fun hg => by rw [hg]; exact n_move rfl rfl) rfl rfl ?_; refine d_guard rfl rfl (fun hg => by rw [hg]; exact n_move rfl rfl) rfl rfl ?_; refine d_guard rfl rfl (fun hg => by have hq := hg; (try simp at hq); rw [hg]; exact n_add rfl rfl (by omega)) rfl rfl ?_; refine d_guard rfl rfl (fun hg => by have hq := hg; (try simp at hq); rw [hg]; exact n_indexAddr rfl (.pure _ _ _ _) rfl (by omega) (hTn (by omega))) rfl rfl ?_; refine d_guard rfl rfl (fun hg => by rw [hg]; exact n_load_eref rfl rfl) rfl rfl ?_; refine d_guard rfl rfl (fun hg => by rw [hg]; exact n_move rfl rfl) rfl rfl ?_; refine d_guard rfl rfl (fun hg => by have hq := hg; (try simp at hq); rw [hg]; exact n_indexAddr rfl (.pure _ _ _ _) rfl (by omega) (distRow_get a b (i + 1) 0 j (Nat.zero_le _) hj)) rfl rfl ?_; refine d_guard rfl rfl (fun hg => by rw [hg]; exact n_load_eref rfl rfl) rfl rfl ?_; refine d_guard rfl rfl (fun hg => by have hq := hg; (try simp at hq); have h1 := dist_le (a.drop (i + 1)) (b.drop j); simp only [List.length_drop] at h1; rw [hg]; exact n_add rfl rfl (by omega)) rfl rfl ?_; refine d_guard rfl rfl (fun hg => by rw [hg]; exact n_move rfl rfl) rfl rfl ?_; refine d_guard rfl rfl (fun hg => by rw [hg]; exact n_move rfl rfl) rfl rfl ?_; refine d_guard rfl rfl (fun hg => by have hq := hg; (try simp at hq); rw [hg]; exact n_indexAddr rfl (.pure _ _ _ _) rfl (by omega) (hTi (by omega))) rfl rfl ?_; refine d_guard rfl rfl (fun hg => by rw [hg]; exact n_load_eref rfl rfl) rfl rfl ?_; refine d_guard rfl rfl (fun hg => by rw [hg]; exact n_move rfl rfl) rfl rfl ?_; refine d_guard rfl rfl (fun hg => by have hq := hg; (try simp at hq); rw [hg]; exact n_indexAddr rfl (.pure _ _ _ _) rfl (by omega) (distRow_get a b i 0 j (Nat.zero_le _) hj)) rfl rfl ?_; refine d_guard rfl rfl (fun hg => by rw [hg]; exact n_load_eref rfl rfl) rfl rfl ?_; refine d_guard rfl rfl (fun hg => by rw [hg]; exact n_eql rfl rfl) rfl rfl ?_; refine d_neu (n_pick_bool rfl (fun h => by first | rfl | (rw [h]; rfl)) (fun h => by first | rfl | (rw [h]; rfl))) rfl rfl ?_; refine d_neu (n_assign rfl rfl) rfl rfl ?_; refine d_nil ?_
      refine k1 ?_
      refine c_cond rfl (fun ht => ?_) (fun ht => ?_)
      · rw [and_pick] at ht
        obtain ⟨hia, hd⟩ := of_decide_eq_true ht
        have hia' : i < a.length := by omega
        have hp' : out ++ walkGo (i + 1 : Nat) j (a.drop (i + 1)) (b.drop j) = walkGo 0 0 a b := by
          by_cases hjb : j < b.length
          · rw [walkGo_drop a b i j hia' hjb, if_neg (hne hia' hjb), if_pos (by omega)] at hp
            exact hp
          · rw [List.drop_eq_nil_of_le (show b.length ≤ j by omega), walkGo_nil_right] at hp ⊢
            exact hp
        skip
        refine c_region ?_; refine l_neu (n_move rfl rfl) rfl ?_; refine l_neu (n_add rfl rfl (by omega)) rfl ?_; refine l_neu (n_assign rfl rfl) rfl ?_; refine l_nil ?_
        refine k4 ?_; refine k4 ?_; refine k1 ?_
        exact ⟨(i + 1, j, out), ⟨by dsimp only; omega, by dsimp only; omega, by dsimp only; omega, hp'⟩, by dsimp only; omega, Sees.of ⟨le1 rfl, le1 rfl, le1 rfl, le1 rfl, le1 rfl, le1 rfl, trivial⟩ ⟨rfl, trivial⟩⟩
      · rw [and_pick] at ht
        have hd := of_decide_eq_false ht
        have hjb : j < b.length := by
          refine Classical.byContradiction fun h => ?_
          have hjb : j = b.length := by omega
          have hia : i < a.length := by omega
          apply hd
          refine ⟨by omega, ?_⟩
          rw [List.drop_eq_nil_of_le (show b.length ≤ j by omega), dist_nil, dist_nil, List.length_drop, List.length_drop]
          omega
        have hp' : out ++ walkGo i (j + 1 : Nat) (a.drop i) (b.drop (j + 1)) = walkGo 0 0 a b := by
          by_cases hia : i < a.length
          · rw [walkGo_drop a b i j hia hjb, if_neg (hne hia hjb), if_neg (fun h => hd ⟨by omega, by omega⟩)] at hp
            exact hp
          · rw [List.drop_eq_nil_of_le (show a.length ≤ i by omega), walkGo_nil_left] at hp ⊢
            exact hp
        skip
        refine c_region ?_; refine l_neu (n_move rfl rfl) rfl ?_; refine l_neu (n_add rfl rfl (by omega)) rfl ?_; refine l_neu (n_assign rfl rfl) rfl ?_; refine l_nil ?_
        refine k4 ?_; refine k4 ?_; refine k1 ?_
        exact ⟨(i, j + 1, out), ⟨by dsimp only; omega, by dsimp only; omega, by dsimp only; omega, hp'⟩, by dsimp only; omega, Sees.of ⟨le1 rfl, le1 rfl, le1 rfl, le1 rfl, le1 rfl, le1 rfl, trivial⟩ ⟨rfl, trivial⟩⟩
  · have hor := of_decide_eq_false (or_pick.symm.trans ht)
    have hi' : i = a.length := by omega
    have hj' : j = b.length := by omega
    rw [hi', List.drop_eq_nil_of_le (Nat.le_refl a.length)] at hp
    have hout : out = walkGo 0 0 a b := by rw [← hp]; simp [walkGo]
    refine k6 ?_; refine k2 ?_
    refine c_region ?_; refine l_neu (n_move rfl rfl) rfl ?_; refine l_neu (n_move rfl rfl) rfl ?_; refine l_neu (n_len rfl (.pure _ _ _ _)) rfl ?_; refine l_neu (n_move rfl rfl) rfl ?_; refine l_neu (n_len rfl (.pure _ _ _ _)) rfl ?_; refine l_call (made_ok out a.length b.length (by omega) (fun s hs => by have := walkGo_bound a b 0 0 s (hout ▸ hs); omega) (by omega)) rfl rfl rfl ?_; rintro _ rfl; refine l_neu (n_assign rfl rfl) rfl ?_; refine l_nil ?_
    refine k1 ?_; refine k10 ?_
    exact ret_ret (ret1 rfl rfl rfl) (by rw [hout]; rfl)
end Go.Proofs.YtbiadkkamhpdnaaGreatDoor
namespace Go.Proofs.YtbiadkkamhpdnaaGreatDoor
open Go Go.AL
set_option maxRecDepth 100000
end Go.Proofs.YtbiadkkamhpdnaaGreatDoor
namespace Go.Proofs.YtbiadkkamhpdnaaGreatDoor
open Go Go.AL
set_option maxRecDepth 100000
theorem u64_in {n : Int} (h : 0 ≤ n ∧ n < 18446744073709551616) : IntKind.u64.wrap n = n := by simp [IntKind.wrap, IntKind.signed, IntKind.bits]; omega
def modOf (a n : Int) : Int := IntKind.u64.wrap a % n
theorem modOf_in (a : Int) {n : Int} (h : 1 ≤ n) : 0 ≤ modOf a n ∧ modOf a n < n := ⟨Int.emod_nonneg _ (by omega), Int.emod_lt_of_pos _ (by omega)⟩
theorem mod_ok (a n : Int) (hn : 1 ≤ n) (hn' : n ≤ 9223372036854775807) : FnOk Tryz.prog 18 [pInt a, pInt n] (fun rs => rs = [pInt (modOf a n)]) := by
  refine FnOk.intro Tryz.func18 (by decide) rfl rfl rfl rfl ?_
  refine k2 ?_
  refine c_region ?_; refine l_neu (n_assign rfl rfl) rfl ?_; refine l_nil ?_
  refine k1 ?_; refine k2 ?_
  have h1 : IntKind.u64.wrap n = n := u64_in (by omega)
  refine c_region ?_; refine l_neu (n_move rfl rfl) rfl ?_; refine l_neu (n_convert rfl) rfl ?_; refine l_neu (n_move rfl rfl) rfl ?_; refine l_neu (n_convert rfl) rfl ?_; refine l_neu (n_rem rfl rfl (by (rw [h1]; omega))) rfl ?_; refine l_neu (n_convert rfl) rfl ?_; refine l_neu (n_assign rfl rfl) rfl ?_; refine l_nil ?_
  refine k1 ?_; refine k10 ?_
  refine ret_ret (ret1 rfl rfl rfl) ?_
  have h2 := u64_nonneg a
  have h3 : (IntKind.u64.wrap a).tmod n = IntKind.u64.wrap a % n := Int.tmod_eq_emod_of_nonneg h2
  have h4 := modOf_in a hn
  unfold modOf at *
  rw [h1, h3, i64_wrap_in ⟨by omega, by omega⟩]
def xor64 (a b : Int) : Int := IntKind.u64.wrap ((BitVec.ofInt IntKind.u64.bits a ^^^ BitVec.ofInt IntKind.u64.bits b).toNat : Int)
def shr64 (a n : Int) : Int := a.fdiv (2 ^ (min n.toNat IntKind.u64.bits))
def at0 (k : Int) : Int := IntKind.u64.wrap (IntKind.u64.wrap (k + 1) * 11400714819323198485)
def at1 (raw : List Int) (k : Int) : Int := if 0 < raw.length then xor64 (at0 k) (IntKind.u64.wrap (raw.getD (k.tmod raw.length).toNat 0)) else at0 k
def at2 (x : Int) : Int := IntKind.u64.wrap (xor64 x (shr64 x 31) * 13787848793156543929)
def atOf (raw : List Int) (k : Int) : Int := IntKind.i64.wrap (shr64 (xor64 (at2 (at1 raw k)) (shr64 (at2 (at1 raw k)) 29)) 1)
theorem at_ok (raw : List Int) (k : Int) (h0 : 0 ≤ k) (h1 : k ≤ 1099511627776) : FnOk Tryz.prog 25 [pInts raw, pInt k] (fun rs => rs = [pInt (atOf raw k)]) := by
  refine FnOk.intro Tryz.func25 (by decide) rfl rfl rfl rfl ?_
  refine c_bound (t := 0) rfl (.pure _ _ _ _) fun hlen => ?_
  refine k2 ?_
  refine c_region ?_; refine l_neu (n_assign rfl rfl) rfl ?_; refine l_nil ?_
  refine k1 ?_; refine k2 ?_
  refine c_region ?_; refine l_neu (n_move rfl rfl) rfl ?_; refine l_neu (n_add rfl rfl (by omega)) rfl ?_; refine l_neu (n_convert rfl) rfl ?_; refine l_neu (n_mul_w rfl rfl) rfl ?_; refine l_neu (n_assign rfl rfl) rfl ?_; refine l_nil ?_
  refine then_normal ?_
  refine c_join [(0, sList Int 1 intC raw), (1, sInt k), (5, sVal (.int .u64 (at1 raw k)))] [] ?_ ?_
  · refine k2 ?_
    refine c_region ?_; refine l_neu (n_move rfl rfl) rfl ?_; refine l_neu (n_len rfl (.pure _ _ _ _)) rfl ?_; refine l_neu (n_gtr rfl rfl) rfl ?_; refine l_nil ?_
    refine k1 ?_
    refine c_cond rfl (fun ht => ?_) (fun ht => ?_)
    · have hpos : 0 < raw.length := by have := of_decide_eq_true ht; omega
      have hm0 : 0 ≤ k.tmod raw.length := Int.tmod_nonneg _ h0
      have hm1 : k.tmod raw.length < raw.length := Int.tmod_lt_of_pos _ (by omega)
      have hv : raw[(k.tmod raw.length).toNat]? = some (raw.getD (k.tmod raw.length).toNat 0) := by
        rw [List.getD_eq_getElem?_getD, List.getElem?_eq_getElem (by omega)]; rfl
      skip
      refine c_region ?_; refine l_neu (n_move rfl rfl) rfl ?_; refine l_neu (n_move rfl rfl) rfl ?_; refine l_neu (n_move rfl rfl) rfl ?_; refine l_neu (n_move rfl rfl) rfl ?_; refine l_neu (n_len rfl (.pure _ _ _ _)) rfl ?_; refine l_neu (n_rem rfl rfl (by omega)) rfl ?_; refine l_neu (n_indexAddr rfl (.pure _ _ _ _) rfl (by omega) hv) rfl ?_; refine l_neu (n_load_eref rfl rfl) rfl ?_; refine l_neu (n_convert rfl) rfl ?_; refine l_neu (n_bits rfl rfl rfl (fun _ => rfl)) rfl ?_; refine l_neu (n_assign rfl rfl) rfl ?_; refine l_nil ?_
      refine k1 ?_
      rw [at1, if_pos hpos]
      exact Sees.of ⟨le1 rfl, le1 rfl, le1 rfl, trivial⟩ trivial
    · have hpos : ¬ 0 < raw.length := by have := of_decide_eq_false ht; omega
      refine k5 ?_; refine k1 ?_
      rw [at1, if_neg hpos]
      exact Sees.of ⟨le1 rfl, le1 rfl, le1 rfl, trivial⟩ trivial
  · refine k2 ?_
    refine c_region ?_; refine l_neu (n_move rfl rfl) rfl ?_; refine l_neu (n_move rfl rfl) rfl ?_; refine l_neu (n_shr rfl rfl (by omega)) rfl ?_; refine l_neu (n_bits rfl rfl rfl (fun _ => rfl)) rfl ?_; refine l_neu (n_mul_w rfl rfl) rfl ?_; refine l_neu (n_assign rfl rfl) rfl ?_; refine l_nil ?_
    refine k1 ?_; refine k2 ?_
    refine c_region ?_; refine l_neu (n_move rfl rfl) rfl ?_; refine l_neu (n_move rfl rfl) rfl ?_; refine l_neu (n_shr rfl rfl (by omega)) rfl ?_; refine l_neu (n_bits rfl rfl rfl (fun _ => rfl)) rfl ?_; refine l_neu (n_shr rfl rfl (by omega)) rfl ?_; refine l_neu (n_convert rfl) rfl ?_; refine l_neu (n_assign rfl rfl) rfl ?_; refine l_nil ?_
    refine k1 ?_; refine k10 ?_
    exact ret_ret (ret1 rfl rfl rfl) rfl
def lineTab : List Str := [[97], [98], [99], [97, 98], [98, 97], [], [97, 97], [98, 32, 97], [120, 43, 121], [92]]
def lineOf (k : Int) : Str := lineTab.getD (modOf k 10).toNat []
theorem lineTab_len : ∀ s ∈ lineTab, s.length ≤ 3 := by decide
theorem lineOf_len (k : Int) : (lineOf k).length ≤ 3 := by
  unfold lineOf
  rw [List.getD_eq_getElem?_getD]
  cases h : lineTab[(modOf k 10).toNat]? with
  | none => simp
  | some s => exact lineTab_len s (List.mem_of_getElem? h)
theorem gline_ok (k : Int) : FnOk Tryz.prog 24 [pInt k] (fun rs => rs = [pStr (lineOf k)]) := by
  refine FnOk.intro Tryz.func24 (by decide) rfl rfl rfl rfl ?_
  refine k2 ?_
  refine c_region ?_; refine l_neu (n_assign rfl rfl) rfl ?_; refine l_nil ?_
  refine k1 ?_; refine k2 ?_
  have hm := modOf_in k (n := 10) (by decide)
  have hv : lineTab[(modOf k 10).toNat]? = some (lineOf k) := by
    unfold lineOf
    rw [List.getD_eq_getElem?_getD, List.getElem?_eq_getElem (show (modOf k 10).toNat < lineTab.length by simp [lineTab]; omega)]; rfl
  refine c_region ?_; refine l_neu (n_buildSlice (c := strC) (ys := lineTab) (asm_cons rfl rfl rfl rfl (asm_cons rfl rfl rfl rfl (asm_cons rfl rfl rfl rfl (asm_cons rfl rfl rfl rfl (asm_cons rfl rfl rfl rfl (asm_cons rfl rfl rfl rfl (asm_cons rfl rfl rfl rfl (asm_cons rfl rfl rfl rfl (asm_cons rfl rfl rfl rfl (asm_cons rfl rfl rfl rfl asm_nil)))))))))) rfl rfl rfl) rfl ?_; refine l_neu (n_move rfl rfl) rfl ?_; refine l_call (mod_ok k 10 (by decide) (by decide)) rfl rfl rfl ?_; rintro _ rfl; refine l_neu (n_indexAddr rfl (.pure _ _ _ _) rfl (by omega) hv) rfl ?_; refine l_neu (n_load_eref rfl rfl) rfl ?_; refine l_neu (n_assign rfl rfl) rfl ?_; refine l_nil ?_
  refine k1 ?_; refine k10 ?_
  exact ret_ret (ret1 rfl rfl rfl) rfl
theorem ids_ok (fs : List (List Str)) (hfs : fs.flatten.length ≤ 536870912) (hf1 : fs.length ≤ 536870912) : FnOk Tryz.prog 101 [pStrss fs] (fun rs => rs = [pIntss (fs.map (idsOf (namesOf fs)))]) := by
  refine FnOk.intro Tryz.func101 (by decide) rfl rfl rfl rfl ?_
  refine k2 ?_
  refine c_region ?_; refine l_neu (n_assign rfl rfl) rfl ?_; refine l_nil ?_
  refine k1 ?_; refine k2 ?_
  refine c_region ?_; refine l_neu (n_move rfl rfl) rfl ?_; refine l_call (names_ok fs hfs) rfl rfl rfl ?_; rintro _ rfl; refine l_neu (n_assign rfl rfl) rfl ?_; refine l_nil ?_
  refine k1 ?_; refine k2 ?_
  refine c_region ?_; refine l_effv (f_adopt 4 _ intsC rfl) rfl ?_; refine l_nil ?_
  refine k1 ?_; refine k2 ?_; refine k2 ?_
  refine c_region ?_; refine l_neu (n_assign rfl rfl) rfl ?_; refine l_nil ?_
  refine k1 ?_; refine k3 ?_
  refine c_while (X := Nat) (fun f => ([(0, sList (List Str) 1 strsC fs), (3, sList Str 1 strC (namesOf fs)), (4, .s (.one (.buf 4 (List Int) 1 intsC ((fs.take f).map (idsOf (namesOf fs)))))), (5, sInt f)], [(4, .spare ((fs.take f).map (idsOf (namesOf fs))).length 1 25)])) (fun f => f ≤ fs.length) (fun f => fs.length - f) 0 (by simp) (Sees.of ⟨le1 rfl, le1 rfl, le1 rfl, le1 rfl, trivial⟩ ⟨rfl, trivial⟩) ?_
  intro f hf
  dsimp only at hf ⊢
  refine k2 ?_; refine k2 ?_
  refine c_region ?_; refine l_neu (n_move rfl rfl) rfl ?_; refine l_neu (n_move rfl rfl) rfl ?_; refine l_neu (n_len rfl (.pure _ _ _ _)) rfl ?_; refine l_neu (n_lss rfl rfl) rfl ?_; refine l_nil ?_
  refine k1 ?_
  have hfl : ((fs.take f).map (idsOf (namesOf fs))).length = f := by simp; omega
  refine c_cond rfl (fun ht => ?_) (fun ht => ?_)
  · have hlt : f < fs.length := by have := of_decide_eq_true ht; omega
    have hv : fs[f]? = some fs[f] := by simp [hlt]
    have hle := flatten_take_le fs (f + 1)
    rw [flatten_take_succ fs f hlt, List.length_append] at hle
    refine k5 ?_; refine k1 ?_; refine k2 ?_; refine k3 ?_; refine k2 ?_
    refine c_region ?_; refine l_effv (f_buildBuf 16 (c := intC) (ys := []) asm_nil rfl rfl rfl (by first | rfl | (simp [frFree, obFree, Ob.free, SV.free, S1.free, TC.free] <;> rfl))) rfl ?_; refine l_neu (n_assign rfl rfl) rfl ?_; refine l_nil ?_
    refine k1 ?_; refine k2 ?_; refine k2 ?_
    refine c_region ?_; refine l_neu (n_assign rfl rfl) rfl ?_; refine l_nil ?_
    refine k1 ?_; refine k3 ?_
    refine c_while (X := Nat) (fun i => ([(0, sList (List Str) 1 strsC fs), (3, sList Str 1 strC (namesOf fs)), (4, .s (.one (.buf 4 (List Int) 1 intsC ((fs.take f).map (idsOf (namesOf fs)))))), (5, sInt f), (6, .s (.one (.buf 16 Int 1 intC (idsOf (namesOf fs) (fs[f].take i))))), (7, sInt i)], [(4, .spare ((fs.take f).map (idsOf (namesOf fs))).length 1 25), (16, .spare (idsOf (namesOf fs) (fs[f].take i)).length 1 3)])) (fun i => i ≤ fs[f].length) (fun i => fs[f].length - i) 0 (by simp) (Sees.of ⟨le1 rfl, le1 rfl, le1 rfl, le1 rfl, le1 rfl, le1 rfl, trivial⟩ ⟨rfl, rfl, trivial⟩) ?_
    intro i hi
    dsimp only at hi ⊢
    have hil : (idsOf (namesOf fs) (fs[f].take i)).length = i := by simp [idsOf]; omega
    refine k2 ?_; refine k2 ?_
    refine c_region ?_; refine l_neu (n_move rfl rfl) rfl ?_; refine l_neu (n_move rfl rfl) rfl ?_; refine l_neu (n_move rfl rfl) rfl ?_; refine l_neu (n_indexAddr rfl (.pure _ _ _ _) rfl (by omega) hv) rfl ?_; refine l_neu (n_load_eref rfl rfl) rfl ?_; refine l_neu (n_len rfl (.pure _ _ _ _)) rfl ?_; refine l_neu (n_lss rfl rfl) rfl ?_; refine l_nil ?_
    refine k1 ?_
    refine c_cond rfl (fun ht => ?_) (fun ht => ?_)
    · have hlt2 : i < fs[f].length := by have := of_decide_eq_true ht; omega
      have hvi : fs[f][i]? = some fs[f][i] := by simp [hlt2]
      have hst : idsOf (namesOf fs) (fs[f].take (i + 1)) = idsOf (namesOf fs) (fs[f].take i) ++ [placeOf (namesOf fs) fs[f][i] 0] := by
        unfold idsOf; rw [List.take_add_one, hvi, Option.toList_some, List.map_append]; rfl
      refine k5 ?_; refine k1 ?_; refine k2 ?_; refine k3 ?_
      refine c_region ?_; refine l_neu (n_move rfl rfl) rfl ?_; refine l_neu (n_move rfl rfl) rfl ?_; refine l_neu (n_move rfl rfl) rfl ?_; refine l_neu (n_move rfl rfl) rfl ?_; refine l_neu (n_indexAddr rfl (.pure _ _ _ _) rfl (by omega) hv) rfl ?_; refine l_neu (n_load_eref rfl rfl) rfl ?_; refine l_neu (n_move rfl rfl) rfl ?_; refine l_neu (n_indexAddr rfl (.pure _ _ _ _) rfl (by omega) hvi) rfl ?_; refine l_neu (n_load_eref rfl rfl) rfl ?_; refine l_call (place_ok _ _) rfl rfl rfl ?_; rintro _ rfl; refine l_neu (n_buildSlice (c := intC) (ys := [_]) (asm_cons rfl rfl rfl rfl asm_nil) rfl rfl rfl) rfl ?_; refine l_effv (e_append rfl rfl rfl (.pure _ _ _ _) (by (simp only [List.length_cons, List.length_nil]; omega)) rfl) rfl ?_; refine l_neu (n_assign rfl rfl) rfl ?_; refine l_nil ?_
      refine k4 ?_; refine k1 ?_
      refine c_region ?_; refine l_neu (n_move rfl rfl) rfl ?_; refine l_neu (n_add rfl rfl (by omega)) rfl ?_; refine l_neu (n_assign rfl rfl) rfl ?_; refine l_nil ?_
      refine k1 ?_
      refine ⟨i + 1, by omega, by omega, ?_⟩
      rw [hst]
      exact Sees.of ⟨le1 rfl, le1 rfl, le1 rfl, le1 rfl, le1 rfl, le1 rfl, trivial⟩ ⟨rfl, rfl, trivial⟩
    · have hi' : i = fs[f].length := by have := of_decide_eq_false ht; omega
      have hst : (fs.take (f + 1)).map (idsOf (namesOf fs)) = (fs.take f).map (idsOf (namesOf fs)) ++ [idsOf (namesOf fs) (fs[f].take i)] := by
        rw [List.take_add_one, hv, Option.toList_some, List.map_append, hi', List.take_length]; rfl
      refine k6 ?_; refine k7 ?_; refine k7 ?_; refine k8 rfl ?_; refine k1 ?_
      refine c_region ?_; refine l_neu (n_move rfl rfl) rfl ?_; refine l_neu (n_move rfl rfl) rfl ?_; refine l_neu (n_buildSlice (c := intsC) (ys := [_]) (asm_cons rfl rfl rfl rfl asm_nil) rfl rfl rfl) rfl ?_; refine l_effv (e_append rfl rfl rfl (.pure _ _ _ _) (by (simp only [List.length_cons, List.length_nil]; omega)) rfl) rfl ?_; refine l_neu (n_assign rfl rfl) rfl ?_; refine l_nil ?_
      refine k4 ?_; refine k1 ?_
      refine c_region ?_; refine l_neu (n_move rfl rfl) rfl ?_; refine l_neu (n_add rfl rfl (by omega)) rfl ?_; refine l_neu (n_assign rfl rfl) rfl ?_; refine l_nil ?_
      refine k1 ?_
      refine ⟨f + 1, by omega, by omega, ?_⟩
      rw [hst]
      exact Sees.of ⟨le1 rfl, le1 rfl, le1 rfl, le1 rfl, trivial⟩ ⟨rfl, trivial⟩
  · have hk' : f = fs.length := by have := of_decide_eq_false ht; omega
    subst hk'
    refine k6 ?_; refine k2 ?_
    refine c_region ?_; refine l_neu (n_move rfl rfl) rfl ?_; refine l_neu (n_assign rfl rfl) rfl ?_; refine l_nil ?_
    refine k1 ?_; refine k10 ?_
    exact ret_ret (ret1 rfl rfl rfl) (by rw [List.take_length])
def blobLines (raw : List Int) (from' : Int) (kinds : Int) (m : Nat) : Str := ((List.range m).map fun (i : Nat) => lineOf (modOf (atOf raw (from' + 1 + (i : Int))) kinds) ++ [10]).flatten
def blobOf (raw : List Int) (from' n kinds : Int) : Str :=
  let s := blobLines raw from' kinds (modOf (atOf raw from') (n + 1)).toNat
  if ((atOf raw (from' + 90)).tmod 4 = 0 ∧ (1 : Int) < s.length) ∧ ((s.getD (s.length - 2) 0).toNat : Int) ≠ 10 then s.take (s.length - 1) else s
theorem blobLines_succ (raw : List Int) (from' kinds : Int) (m : Nat) : blobLines raw from' kinds (m + 1) = blobLines raw from' kinds m ++ lineOf (modOf (atOf raw (from' + 1 + (m : Int))) kinds) ++ [10] := by
  unfold blobLines; rw [List.range_succ, List.map_append, List.flatten_append]; simp
theorem blobLines_len (raw : List Int) (from' kinds : Int) (m : Nat) : (blobLines raw from' kinds m).length ≤ 4 * m := by
  induction m with
  | zero => simp [blobLines]
  | succ m ih => have := lineOf_len (modOf (atOf raw (from' + 1 + (m : Int))) kinds); rw [blobLines_succ]; simp only [List.length_append, List.length_cons, List.length_nil]; omega
theorem blob_ok (raw : List Int) (from' n kinds : Int) (h0 : 0 ≤ from' ∧ from' ≤ 1073741824) (h1 : 0 ≤ n ∧ n ≤ 1048576) (h2 : 1 ≤ kinds ∧ kinds ≤ 1048576) :
    FnOk Tryz.prog 64 [pInts raw, pInt from', pInt n, pInt kinds] (fun rs => rs = [pStr (blobOf raw from' n kinds)]) := by
  obtain ⟨m, hm⟩ : ∃ m : Nat, modOf (atOf raw from') (n + 1) = m := ⟨(modOf (atOf raw from') (n + 1)).toNat, by have := modOf_in (atOf raw from') (n := n + 1) (by omega); omega⟩
  have hmi := modOf_in (atOf raw from') (n := n + 1) (by omega)
  have hml : m ≤ 1048576 := by omega
  refine FnOk.intro Tryz.func64 (by decide) rfl rfl rfl rfl ?_
  refine k2 ?_
  refine c_region ?_; refine l_neu (n_assign rfl rfl) rfl ?_; refine l_nil ?_
  refine k1 ?_; refine k2 ?_
  refine c_region ?_; refine l_neu (n_move rfl rfl) rfl ?_; refine l_neu (n_move rfl rfl) rfl ?_; refine l_call (at_ok raw from' (by omega) (by omega)) rfl rfl rfl ?_; rintro _ rfl; refine l_neu (n_move rfl rfl) rfl ?_; refine l_neu (n_add rfl rfl (by omega)) rfl ?_; refine l_call (mod_ok _ (n + 1) (by omega) (by omega)) rfl rfl rfl ?_; rintro _ rfl; refine l_neu (n_assign rfl rfl) rfl ?_; refine l_nil ?_
  refine k1 ?_; refine k2 ?_
  rw [hm]
  refine c_region ?_; refine l_neu (n_assign rfl rfl) rfl ?_; refine l_nil ?_
  refine k1 ?_; refine k2 ?_; refine k2 ?_
  refine c_region ?_; refine l_neu (n_assign rfl rfl) rfl ?_; refine l_nil ?_
  refine k1 ?_; refine k3 ?_
  refine c_while (X := Nat) (fun i => ([(0, sList Int 1 intC raw), (1, sInt from'), (2, sInt m), (3, sInt kinds), (9, sStr (blobLines raw from' kinds i)), (10, sInt i)], [])) (fun i => i ≤ m) (fun i => m - i) 0 (Nat.zero_le _) (Sees.of ⟨le1 rfl, le1 rfl, le1 rfl, le1 rfl, le1 rfl, le1 rfl, trivial⟩ trivial) ?_
  intro i hi
  dsimp only at hi ⊢
  have hbl := blobLines_len raw from' kinds i
  refine k2 ?_; refine k2 ?_
  refine c_region ?_; refine l_neu (n_move rfl rfl) rfl ?_; refine l_neu (n_move rfl rfl) rfl ?_; refine l_neu (n_lss rfl rfl) rfl ?_; refine l_nil ?_
  refine k1 ?_
  refine c_cond rfl (fun ht => ?_) (fun ht => ?_)
  · have hlt : i < m := by have := of_decide_eq_true ht; omega
    have hll := lineOf_len (modOf (atOf raw (from' + 1 + (i : Int))) kinds)
    refine k5 ?_; refine k1 ?_; refine k2 ?_; refine k3 ?_
    refine c_region ?_; refine l_neu (n_move rfl rfl) rfl ?_; refine l_neu (n_move rfl rfl) rfl ?_; refine l_neu (n_move rfl rfl) rfl ?_; refine l_neu (n_add rfl rfl (by omega)) rfl ?_; refine l_neu (n_move rfl rfl) rfl ?_; refine l_neu (n_add rfl rfl (by omega)) rfl ?_; refine l_call (at_ok raw _ (by omega) (by omega)) rfl rfl rfl ?_; rintro _ rfl; refine l_neu (n_move rfl rfl) rfl ?_; refine l_call (mod_ok _ kinds (by omega) (by omega)) rfl rfl rfl ?_; rintro _ rfl; refine l_call (gline_ok _) rfl rfl rfl ?_; rintro _ rfl; refine l_neu (n_add_s rfl rfl (by omega)) rfl ?_; refine l_neu (n_add_s rfl rfl (by (simp only [List.length_append, List.length_cons, List.length_nil]; omega))) rfl ?_; refine l_neu (n_assign rfl rfl) rfl ?_; refine l_nil ?_
    refine k4 ?_; refine k1 ?_
    refine c_region ?_; refine l_neu (n_move rfl rfl) rfl ?_; refine l_neu (n_add rfl rfl (by omega)) rfl ?_; refine l_neu (n_assign rfl rfl) rfl ?_; refine l_nil ?_
    refine k1 ?_
    refine ⟨i + 1, by omega, by omega, ?_⟩
    rw [blobLines_succ]
    exact Sees.of ⟨le1 rfl, le1 rfl, le1 rfl, le1 rfl, le1 rfl, le1 rfl, trivial⟩ trivial
  · have hi' : i = m := by have := of_decide_eq_false ht; omega
    subst hi'
    obtain ⟨s, hs⟩ : ∃ s, s = blobLines raw from' kinds i := ⟨_, rfl⟩
    have hv : (1 : Int) < s.length → s[((s.length : Int) - 2).toNat]? = some (s.getD (s.length - 2) 0) := fun h => by
      rw [show ((s.length : Int) - 2).toNat = s.length - 2 by omega, List.getD_eq_getElem?_getD, List.getElem?_eq_getElem (by omega)]; rfl
    have hbo : blobOf raw from' n kinds = if ((atOf raw (from' + 90)).tmod 4 = 0 ∧ (1 : Int) < s.length) ∧ ((s.getD (s.length - 2) 0).toNat : Int) ≠ 10 then s.take (s.length - 1) else s := by
      simp only [blobOf, hm, Int.toNat_natCast, ← hs]
    rw [← hs] at hbl
    refine k6 ?_; refine k2 ?_; refine k2 ?_
    rw [← hs]
    refine c_region ?_; refine l_neu (n_move rfl rfl) rfl ?_; refine l_neu (n_move rfl rfl) rfl ?_; refine l_neu (n_add rfl rfl (by omega)) rfl ?_; refine l_call (at_ok raw _ (by omega) (by omega)) rfl rfl rfl ?_; rintro _ rfl; refine l_neu (n_rem rfl rfl (by omega)) rfl ?_; refine l_neu (n_eql rfl rfl) rfl ?_; refine l_neu (n_move rfl rfl) rfl ?_; refine l_guard rfl rfl rfl rfl (fun hg => by rw [hg]; exact n_move rfl rfl) ?_; refine l_guard rfl rfl rfl rfl (fun hg => by rw [hg]; exact n_len_s rfl) ?_; refine l_guard rfl rfl rfl rfl (fun hg => by rw [hg]; exact n_gtr rfl rfl) ?_; refine l_neu (n_pick_bool rfl (fun h => by first | rfl | (rw [h]; rfl)) (fun h => by first | rfl | (rw [h]; rfl))) rfl ?_; refine l_neu (n_move rfl rfl) rfl ?_; refine l_guard rfl rfl rfl rfl (fun hg => by rw [hg]; exact n_move rfl rfl) ?_; refine l_guard rfl rfl rfl rfl (fun hg => by rw [hg]; exact n_move rfl rfl) ?_; refine l_guard rfl rfl rfl rfl (fun hg => by rw [hg]; exact n_len_s rfl) ?_; refine l_guard rfl rfl rfl rfl (fun hg => by have hq := hg; (try simp at hq); rw [hg]; exact n_sub rfl rfl (by omega)) ?_; refine l_guard rfl rfl rfl rfl (fun hg => by have hq := hg; (try simp at hq); rw [hg]; exact n_index_s rfl rfl (by omega) (hv (by omega))) ?_; refine l_guard rfl rfl rfl rfl (fun hg => by rw [hg]; exact n_neq rfl rfl) ?_; refine l_neu (n_pick_bool rfl (fun h => by first | rfl | (rw [h]; rfl)) (fun h => by first | rfl | (rw [h]; rfl))) rfl ?_; refine l_nil ?_
    refine k1 ?_
    refine c_cond rfl (fun ht => ?_) (fun ht => ?_)
    · simp only [and_pick] at ht
      have h := of_decide_eq_true ht
      skip
      refine c_region ?_; refine l_neu (n_move rfl rfl) rfl ?_; refine l_neu (n_move rfl rfl) rfl ?_; refine l_neu (n_len_s rfl) rfl ?_; refine l_neu (n_sub rfl rfl (by omega)) rfl ?_; refine l_neu (n_sub_h rfl rfl (by omega) (by omega)) rfl ?_; refine l_neu (n_assign rfl rfl) rfl ?_; refine l_nil ?_
      refine k1 ?_; refine k2 ?_
      refine c_region ?_; refine l_neu (n_move rfl rfl) rfl ?_; refine l_neu (n_assign rfl rfl) rfl ?_; refine l_nil ?_
      refine k1 ?_; refine k10 ?_
      exact ret_ret (ret1 rfl rfl rfl) (by rw [hbo, if_pos h, show ((s.length : Int) - 1).toNat = s.length - 1 by omega])
    · simp only [and_pick] at ht
      have h := of_decide_eq_false ht
      refine k5 ?_; refine k1 ?_; refine k2 ?_
      refine c_region ?_; refine l_neu (n_move rfl rfl) rfl ?_; refine l_neu (n_assign rfl rfl) rfl ?_; refine l_nil ?_
      refine k1 ?_; refine k10 ?_
      exact ret_ret (ret1 rfl rfl rfl) (by rw [hbo, if_neg h])
theorem blobOf_len (raw : List Int) (from' n kinds : Int) (h1 : 0 ≤ n) : ((blobOf raw from' n kinds).length : Int) ≤ 4 * n := by
  have h := modOf_in (atOf raw from') (n := n + 1) (by omega)
  have h2 := blobLines_len raw from' kinds (modOf (atOf raw from') (n + 1)).toNat
  unfold blobOf
  simp only
  split
  · simp only [List.length_take]; omega
  · omega
def nearGo (raw : List Int) (from' : Int) (i : Nat) (s : Str) : List Str → Str
  | [] => s
  | x :: r => if (atOf raw (from' + (i : Int))).tmod 6 = 0 then nearGo raw from' (i + 1) s r
    else if (atOf raw (from' + (i : Int))).tmod 6 = 1 then nearGo raw from' (i + 1) (s ++ lineOf (atOf raw (from' + 40 + (i : Int))) ++ [10] ++ x) r
    else nearGo raw from' (i + 1) (s ++ x) r
def nearOf (blob : Str) (raw : List Int) (from' : Int) : Str := nearGo raw from' 0 [] (linesOf blob)
theorem nearGo_len (raw : List Int) (from' : Int) : ∀ (l : List Str) (i : Nat) (s : Str), (nearGo raw from' i s l).length ≤ s.length + l.flatten.length + 4 * l.length
  | [], i, s => by simp [nearGo]
  | x :: r, i, s => by
    have h1 := nearGo_len raw from' r (i + 1) s
    have h2 := nearGo_len raw from' r (i + 1) (s ++ lineOf (atOf raw (from' + 40 + (i : Int))) ++ [10] ++ x)
    have h3 := nearGo_len raw from' r (i + 1) (s ++ x)
    have h4 := lineOf_len (atOf raw (from' + 40 + (i : Int)))
    simp only [List.length_append, List.length_cons, List.length_nil, List.flatten_cons] at *
    unfold nearGo
    split
    · omega
    · split <;> omega
theorem linesAux_flatten (s cur : Str) : (linesAux cur s).flatten = cur ++ s := by
  induction s generalizing cur with
  | nil => unfold linesAux; split <;> simp [*]
  | cons c r ih => unfold linesAux; split <;> simp [ih]
theorem linesOf_flatten (s : Str) : (linesOf s).flatten = s := linesAux_flatten s []
theorem near_ok (blob : Str) (raw : List Int) (from' : Int) (hb : blob.length ≤ 16777216) (h0 : 0 ≤ from' ∧ from' ≤ 1073741824) :
    FnOk Tryz.prog 26 [pStr blob, pInts raw, pInt from'] (fun rs => rs = [pStr (nearOf blob raw from')]) := by
  have hll := linesOf_length blob
  have hlf := linesOf_flatten blob
  have hlf' : (linesOf blob).flatten.length = blob.length := by rw [hlf]
  refine FnOk.intro Tryz.func26 (by decide) rfl rfl rfl rfl ?_
  refine k2 ?_
  refine c_region ?_; refine l_neu (n_assign rfl rfl) rfl ?_; refine l_nil ?_
  refine k1 ?_; refine k2 ?_
  refine c_region ?_; refine l_neu (n_move rfl rfl) rfl ?_; refine l_call (lines_ok blob (by omega)) rfl rfl rfl ?_; rintro _ rfl; refine l_neu (n_assign rfl rfl) rfl ?_; refine l_nil ?_
  refine k1 ?_; refine k2 ?_
  obtain ⟨l, hl⟩ : ∃ l, l = linesOf blob := ⟨_, rfl⟩
  have hno : nearOf blob raw from' = nearGo raw from' 0 [] l := by rw [nearOf, hl]
  rw [← hl] at hll hlf' ⊢
  refine c_region ?_; refine l_neu (n_assign rfl rfl) rfl ?_; refine l_nil ?_
  refine k1 ?_; refine k2 ?_; refine k2 ?_
  refine c_region ?_; refine l_neu (n_assign rfl rfl) rfl ?_; refine l_nil ?_
  refine k1 ?_; refine k3 ?_
  refine c_while (X := Nat × Str) (fun x => ([(1, sList Int 1 intC raw), (2, sInt from'), (7, sList Str 1 strC l), (8, sStr x.2), (9, sInt x.1)], [])) (fun x => x.1 ≤ l.length ∧ x.2.length ≤ (l.take x.1).flatten.length + 4 * x.1 ∧ nearGo raw from' x.1 x.2 (l.drop x.1) = nearGo raw from' 0 [] l) (fun x => l.length - x.1) (0, []) (by simp) (Sees.of ⟨le1 rfl, le1 rfl, le1 rfl, le1 rfl, le1 rfl, trivial⟩ trivial) ?_
  rintro ⟨i, s⟩ ⟨hi, hs, hp⟩
  dsimp only at hi hs hp ⊢
  have hle := flatten_take_le l i
  refine k2 ?_; refine k2 ?_
  refine c_region ?_; refine l_neu (n_move rfl rfl) rfl ?_; refine l_neu (n_move rfl rfl) rfl ?_; refine l_neu (n_len rfl (.pure _ _ _ _)) rfl ?_; refine l_neu (n_lss rfl rfl) rfl ?_; refine l_nil ?_
  refine k1 ?_
  refine c_cond rfl (fun ht => ?_) (fun ht => ?_)
  · have hlt : i < l.length := by have := of_decide_eq_true ht; omega
    have hv : l[i]? = some l[i] := by simp [hlt]
    have hle2 := flatten_take_le l (i + 1)
    have hst := flatten_take_succ l i hlt
    rw [hst, List.length_append] at hle2
    rw [List.drop_eq_getElem_cons hlt, nearGo] at hp
    refine k5 ?_; refine k1 ?_; refine k2 ?_; refine k3 ?_; refine k2 ?_; refine k2 ?_
    refine c_region ?_; refine l_neu (n_move rfl rfl) rfl ?_; refine l_neu (n_move rfl rfl) rfl ?_; refine l_neu (n_move rfl rfl) rfl ?_; refine l_neu (n_add rfl rfl (by omega)) rfl ?_; refine l_call (at_ok raw _ (by omega) (by omega)) rfl rfl rfl ?_; rintro _ rfl; refine l_neu (n_rem rfl rfl (by omega)) rfl ?_; refine l_nil ?_
    refine k1 ?_; refine k3 ?_; refine k2 ?_
    refine c_region ?_; refine l_neu (n_eql rfl rfl) rfl ?_; refine l_neu (n_assign rfl rfl) rfl ?_; refine l_nil ?_
    refine k1 ?_
    refine c_cond rfl (fun ht => ?_) (fun ht => ?_)
    · rw [if_pos (of_decide_eq_true ht)] at hp
      refine k6 ?_; refine k9 rfl ?_; refine k7 ?_; refine k8 rfl ?_; refine k1 ?_
      refine c_region ?_; refine l_neu (n_move rfl rfl) rfl ?_; refine l_neu (n_add rfl rfl (by omega)) rfl ?_; refine l_neu (n_assign rfl rfl) rfl ?_; refine l_nil ?_
      refine k1 ?_
      exact ⟨(i + 1, s), ⟨by dsimp only; omega, by dsimp only; rw [hst, List.length_append]; omega, hp⟩, by dsimp only; omega, Sees.of ⟨le1 rfl, le1 rfl, le1 rfl, le1 rfl, le1 rfl, trivial⟩ trivial⟩
    · rw [if_neg (of_decide_eq_false ht)] at hp
      refine k2 ?_
      refine c_region ?_; refine l_neu (n_eql rfl rfl) rfl ?_; refine l_neu (n_assign rfl rfl) rfl ?_; refine l_nil ?_
      refine k1 ?_
      refine c_cond rfl (fun ht => ?_) (fun ht => ?_)
      · rw [if_pos (of_decide_eq_true ht)] at hp
        have h4 := lineOf_len (atOf raw (from' + 40 + (i : Int)))
        skip
        refine c_region ?_; refine l_neu (n_move rfl rfl) rfl ?_; refine l_neu (n_move rfl rfl) rfl ?_; refine l_neu (n_move rfl rfl) rfl ?_; refine l_neu (n_add rfl rfl (by omega)) rfl ?_; refine l_neu (n_move rfl rfl) rfl ?_; refine l_neu (n_add rfl rfl (by omega)) rfl ?_; refine l_call (at_ok raw _ (by omega) (by omega)) rfl rfl rfl ?_; rintro _ rfl; refine l_call (gline_ok _) rfl rfl rfl ?_; rintro _ rfl; refine l_neu (n_add_s rfl rfl (by omega)) rfl ?_; refine l_neu (n_add_s rfl rfl (by (simp only [List.length_append, List.length_cons, List.length_nil]; omega))) rfl ?_; refine l_neu (n_assign rfl rfl) rfl ?_; refine l_nil ?_
        refine k4 ?_; refine k1 ?_
        refine c_region ?_; refine l_neu (n_move rfl rfl) rfl ?_; refine l_neu (n_move rfl rfl) rfl ?_; refine l_neu (n_move rfl rfl) rfl ?_; refine l_neu (n_indexAddr rfl (.pure _ _ _ _) rfl (by omega) hv) rfl ?_; refine l_neu (n_load_eref rfl rfl) rfl ?_; refine l_neu (n_add_s rfl rfl (by (simp only [List.length_append, List.length_cons, List.length_nil]; omega))) rfl ?_; refine l_neu (n_assign rfl rfl) rfl ?_; refine l_nil ?_
        refine k4 ?_; refine k1 ?_
        refine c_region ?_; refine l_neu (n_move rfl rfl) rfl ?_; refine l_neu (n_add rfl rfl (by omega)) rfl ?_; refine l_neu (n_assign rfl rfl) rfl ?_; refine l_nil ?_
        refine k1 ?_
        exact ⟨(i + 1, s ++ lineOf (atOf raw (from' + 40 + (i : Int))) ++ [10] ++ l[i]), ⟨by dsimp only; omega, by dsimp only; rw [hst]; simp only [List.length_append, List.length_cons, List.length_nil]; omega, hp⟩, by dsimp only; omega, Sees.of ⟨le1 rfl, le1 rfl, le1 rfl, le1 rfl, le1 rfl, trivial⟩ trivial⟩
      · rw [if_neg (of_decide_eq_false ht)] at hp
        refine k5 ?_; refine k4 ?_; refine k1 ?_
        refine c_region ?_; refine l_neu (n_move rfl rfl) rfl ?_; refine l_neu (n_move rfl rfl) rfl ?_; refine l_neu (n_move rfl rfl) rfl ?_; refine l_neu (n_indexAddr rfl (.pure _ _ _ _) rfl (by omega) hv) rfl ?_; refine l_neu (n_load_eref rfl rfl) rfl ?_; refine l_neu (n_add_s rfl rfl (by omega)) rfl ?_; refine l_neu (n_assign rfl rfl) rfl ?_; refine l_nil ?_
        refine k4 ?_; refine k1 ?_
        refine c_region ?_; refine l_neu (n_move rfl rfl) rfl ?_; refine l_neu (n_add rfl rfl (by omega)) rfl ?_; refine l_neu (n_assign rfl rfl) rfl ?_; refine l_nil ?_
        refine k1 ?_
        exact ⟨(i + 1, s ++ l[i]), ⟨by dsimp only; omega, by dsimp only; rw [hst, List.length_append, List.length_append]; omega, hp⟩, by dsimp only; omega, Sees.of ⟨le1 rfl, le1 rfl, le1 rfl, le1 rfl, le1 rfl, trivial⟩ trivial⟩
  · have hi' : i = l.length := by have := of_decide_eq_false ht; omega
    rw [hi', List.drop_eq_nil_of_le (Nat.le_refl _)] at hp
    refine k6 ?_; refine k2 ?_
    refine c_region ?_; refine l_neu (n_move rfl rfl) rfl ?_; refine l_neu (n_assign rfl rfl) rfl ?_; refine l_nil ?_
    refine k1 ?_; refine k10 ?_
    exact ret_ret (ret1 rfl rfl rfl) (by rw [hno, ← hp]; rfl)
end Go.Proofs.YtbiadkkamhpdnaaGreatDoor
namespace Go.Proofs.YtbiadkkamhpdnaaGreatDoor
open Go Go.AL
set_option maxRecDepth 100000
end Go.Proofs.YtbiadkkamhpdnaaGreatDoor
namespace Go.Proofs.YtbiadkkamhpdnaaGreatDoor
open Go Go.AL
set_option maxRecDepth 100000
theorem str_size' (s : Str) : (ByteArray.mk s.toArray).size = s.length := by simp [ByteArray.size]
theorem hasSuffix_ok (s p : Str) (hs : s.length ≤ 1099511627776) : FnOk Tryz.prog 200 [pStr s, pStr p] (fun rs => rs = [pBool (Lib.hasSuffix s p)]) :=
  FnOk.ofPlain (xs := [.string ⟨s.toArray⟩, .string ⟨p.toArray⟩]) ⟨_, rfl, rfl, rfl⟩ rfl fun w => by simpa using Tryz.strings_HasSuffix ⟨s.toArray⟩ ⟨p.toArray⟩ w (by rw [str_size']; omega)
theorem trimSuffix_ok (s p : Str) (hs : s.length ≤ 1099511627776) : FnOk Tryz.prog 225 [pStr s, pStr p] (fun rs => rs = [pStr (Lib.trimSuffix s p)]) :=
  FnOk.ofPlain (xs := [.string ⟨s.toArray⟩, .string ⟨p.toArray⟩]) ⟨_, rfl, rfl, rfl⟩ rfl fun w => by simpa using Tryz.strings_TrimSuffix ⟨s.toArray⟩ ⟨p.toArray⟩ w (by rw [str_size']; omega)
theorem indexByte_ok (s : Str) (c : UInt8) : FnOk Tryz.prog 125 [pStr s, .one (.v (.int .u8 c.toNat))] (fun rs => rs = [pInt (Lib.indexByte s c)]) :=
  FnOk.ofPlain (xs := [.string ⟨s.toArray⟩, .int .u8 c.toNat]) ⟨_, rfl, rfl, rfl⟩ rfl fun w => by simpa using Tryz.strings_IndexByte ⟨s.toArray⟩ c.toNat w
theorem contains1_ok (s : Str) (c : UInt8) : FnOk Tryz.prog 209 [pStr s, pStr [c]] (fun rs => rs = [pBool (decide (0 ≤ Lib.indexByte s c))]) :=
  FnOk.ofPlain (xs := [.string ⟨s.toArray⟩, .string ⟨#[c]⟩]) ⟨_, rfl, rfl, rfl⟩ rfl fun w => by simpa using Tryz.strings_Contains_one ⟨s.toArray⟩ c w
theorem sjoin_ok (l : List Str) (hl : l.length ≤ 536870912) (hf : l.flatten.length ≤ 536870912) : FnOk Tryz.prog 126 [pStrs l, pStr []] (fun rs => rs = [pStr l.flatten]) := by
  have hmap : (l.map fun s => (⟨s.toArray⟩ : ByteArray)).map (·.data.toList) = l := by rw [List.map_map]; simp [Function.comp_def]
  refine FnOk.ofJoin ⟨_, rfl, rfl, rfl⟩ (fun h a c w => ?_) (fun b o c w hne hc hb hcap => ?_)
  · subst h; exact Tryz.strings_Join_none a c _ w
  · have := Tryz.strings_Join b o c (l.map fun s => (⟨s.toArray⟩ : ByteArray)) ⟨#[]⟩ w hc hb (by rw [List.length_map]; omega) (by rw [List.length_map]; exact hcap) (by rw [hmap]; show (Lib.join l []).length ≤ _; rw [join_nil]; omega)
    rw [List.length_map, hmap] at this
    have e : Lib.join l (⟨#[]⟩ : ByteArray).data.toList = l.flatten := join_nil l
    rw [e] at this
    exact this
theorem tended_ok (s : Str) (hs : s.length ≤ 1099511627776) : FnOk Tryz.prog 137 [pStr s] (fun rs => rs = [pBool (ended s)]) := by
  refine FnOk.intro Tryz.func137 (by decide) rfl rfl rfl rfl ?_
  refine k2 ?_
  refine c_region ?_; refine l_neu (n_assign rfl rfl) rfl ?_; refine l_nil ?_
  refine k1 ?_; refine k2 ?_
  refine c_region ?_; refine l_neu (n_move rfl rfl) rfl ?_; refine l_call (hasSuffix_ok s [10] hs) rfl rfl rfl ?_; rintro _ rfl; refine l_neu (n_assign rfl rfl) rfl ?_; refine l_nil ?_
  rw [hasSuffix_lf]
  refine k1 ?_; refine k10 ?_
  exact ret_ret (ret1 rfl rfl rfl) rfl
theorem tbare_ok (s : Str) (hs : s.length ≤ 1099511627776) : FnOk Tryz.prog 210 [pStr s] (fun rs => rs = [pStr (bareOf s)]) := by
  refine FnOk.intro Tryz.func210 (by decide) rfl rfl rfl rfl ?_
  refine k2 ?_
  refine c_region ?_; refine l_neu (n_assign rfl rfl) rfl ?_; refine l_nil ?_
  refine k1 ?_; refine k2 ?_
  refine c_region ?_; refine l_neu (n_move rfl rfl) rfl ?_; refine l_call (trimSuffix_ok s [10] hs) rfl rfl rfl ?_; rintro _ rfl; refine l_neu (n_assign rfl rfl) rfl ?_; refine l_nil ?_
  rw [trimSuffix_lf]
  refine k1 ?_; refine k10 ?_
  exact ret_ret (ret1 rfl rfl rfl) rfl
theorem tjoin_ok (l : List Str) (hf : l.flatten.length ≤ 536870911) (hll : l.length ≤ 536870911) : FnOk Tryz.prog 68 [pStrs l] (fun rs => rs = [pStr (joinOf l).1, pInt (joinOf l).2]) := by
  refine FnOk.intro Tryz.func68 (by decide) rfl rfl rfl rfl ?_
  refine k2 ?_
  refine c_region ?_; refine l_neu (n_assign rfl rfl) rfl ?_; refine l_neu (n_assign rfl rfl) rfl ?_; refine l_nil ?_
  refine k1 ?_; refine k2 ?_
  refine c_region ?_; refine l_neu (n_assign rfl rfl) rfl ?_; refine l_nil ?_
  refine k1 ?_; refine k2 ?_; refine k2 ?_
  refine c_region ?_; refine l_neu (n_move rfl rfl) rfl ?_; refine l_neu (n_len rfl (.pure _ _ _ _)) rfl ?_; refine l_neu (n_move rfl rfl) rfl ?_; refine l_nil ?_
  refine k1 ?_; refine k3 ?_
  refine c_while (X := Nat) (fun i => ([(0, sList Str 1 strC l), (4, sInt (l.take i).flatten.length), (8, sList Str 1 strC l), (9, sInt l.length), (10, sInt i)], [])) (fun i => i ≤ l.length ∧ listOk l = listOk (l.drop i)) (fun i => l.length - i) 0 ⟨Nat.zero_le _, by simp⟩ (Sees.of ⟨le1 rfl, le1 rfl, le1 rfl, le1 rfl, le1 rfl, trivial⟩ trivial) ?_
  rintro i ⟨hi, hp⟩
  dsimp only at hi hp ⊢
  have hfl := flatten_take_le l i
  refine k2 ?_
  refine c_region ?_; refine l_neu (n_lss rfl rfl) rfl ?_; refine l_nil ?_
  refine k1 ?_; refine k2 ?_
  refine c_cond rfl (fun ht => ?_) (fun ht => ?_)
  · have hlt : i < l.length := by have := of_decide_eq_true ht; omega
    have hv : l[i]? = some l[i] := by simp [hlt]
    have hfl2 := flatten_take_le l (i + 1)
    have hst : (l.take (i + 1)).flatten.length = (l.take i).flatten.length + l[i].length := by rw [flatten_take_succ l i hlt, List.length_append]
    have hbad := badLine_iff l[i] (l.drop (i + 1))
    rw [List.drop_eq_getElem_cons hlt, listOk_cons] at hp
    have hemp : (l.drop (i + 1)).isEmpty = decide (l.length ≤ i + 1) := by rw [Bool.eq_iff_iff]; simp
    rw [hemp] at hbad
    unfold badLine at hbad
    refine k5 ?_; refine k1 ?_; refine k2 ?_; refine k3 ?_; refine k2 ?_
    refine c_region ?_; refine l_neu (n_move rfl rfl) rfl ?_; refine l_neu (n_indexAddr rfl (.pure _ _ _ _) rfl (by omega) hv) rfl ?_; refine l_neu (n_load_eref rfl rfl) rfl ?_; refine l_neu (n_assign rfl rfl) rfl ?_; refine l_neu (n_assign rfl rfl) rfl ?_; refine l_nil ?_
    refine k1 ?_; refine k2 ?_
    refine c_region ?_; refine l_neu (n_move rfl rfl) rfl ?_; refine l_call (indexByte_ok l[i] 10) rfl rfl rfl ?_; rintro _ rfl; refine l_neu (n_assign rfl rfl) rfl ?_; refine l_nil ?_
    refine k1 ?_; refine k2 ?_; refine k2 ?_
    refine c_region ?_; refine l_neu (n_move rfl rfl) rfl ?_; refine l_neu (n_eql_s rfl rfl) rfl ?_; refine l_neu (n_move rfl rfl) rfl ?_; refine l_guard rfl rfl rfl rfl (fun hg => by rw [hg]; exact n_move rfl rfl) ?_; refine l_guard rfl rfl rfl rfl (fun hg => by rw [hg]; exact n_geq rfl rfl) ?_; refine l_guard rfl rfl rfl rfl (fun hg => by rw [hg]; exact n_move rfl rfl) ?_; refine l_guardW rfl rfl rfl (.gd (.val _)) rfl (fun hg => by obtain ⟨hg1, hg2⟩ := gd_and hg; (try rw [hg1]); (try rw [hg2]); exact n_move rfl rfl) ?_; refine l_guardW rfl rfl rfl (.gd (.val _)) rfl (fun hg => by obtain ⟨hg1, hg2⟩ := gd_and hg; (try rw [hg1]); (try rw [hg2]); exact n_move rfl rfl) ?_; refine l_guardW rfl rfl rfl (.gd (.val _)) rfl (fun hg => by obtain ⟨hg1, hg2⟩ := gd_and hg; (try rw [hg1]); (try rw [hg2]); exact n_len_s rfl) ?_; refine l_guardW rfl rfl rfl (.gd (.val _)) rfl (fun hg => by have hq := hg; (try simp at hq); obtain ⟨hg1, hg2⟩ := gd_and hg; (try rw [hg1]); (try rw [hg2]); exact n_sub rfl rfl (by omega)) ?_; refine l_guardW rfl rfl rfl (.gd (.val _)) rfl (fun hg => by obtain ⟨hg1, hg2⟩ := gd_and hg; (try rw [hg1]); (try rw [hg2]); exact n_lss rfl rfl) ?_; refine l_guard rfl rfl rfl rfl (fun hg => by rw [hg]; exact n_pick_bool rfl (fun h => by first | rfl | (rw [h]; rfl)) (fun h => by first | rfl | (rw [h]; rfl))) ?_; refine l_neu (n_pick_bool rfl (fun h => by first | rfl | (rw [h]; rfl)) (fun h => by first | rfl | (rw [h]; rfl))) rfl ?_; refine l_neu (n_move rfl rfl) rfl ?_; refine l_guard rfl rfl rfl rfl (fun hg => by rw [hg]; exact n_move rfl rfl) ?_; refine l_guard rfl rfl rfl rfl (fun hg => by rw [hg]; exact n_lss rfl rfl) ?_; refine l_guard rfl rfl rfl rfl (fun hg => by rw [hg]; exact n_move rfl rfl) ?_; refine l_guardW rfl rfl rfl (.gd (.val _)) rfl (fun hg => by obtain ⟨hg1, hg2⟩ := gd_and hg; (try rw [hg1]); (try rw [hg2]); exact n_move rfl rfl) ?_; refine l_guardW rfl rfl rfl (.gd (.val _)) rfl (fun hg => by obtain ⟨hg1, hg2⟩ := gd_and hg; (try rw [hg1]); (try rw [hg2]); exact n_move rfl rfl) ?_; refine l_guardW rfl rfl rfl (.gd (.val _)) rfl (fun hg => by obtain ⟨hg1, hg2⟩ := gd_and hg; (try rw [hg1]); (try rw [hg2]); exact n_len rfl (.pure _ _ _ _)) ?_; refine l_guardW rfl rfl rfl (.gd (.val _)) rfl (fun hg => by have hq := hg; (try simp at hq); obtain ⟨hg1, hg2⟩ := gd_and hg; (try rw [hg1]); (try rw [hg2]); exact n_sub rfl rfl (by omega)) ?_; refine l_guardW rfl rfl rfl (.gd (.val _)) rfl (fun hg => by obtain ⟨hg1, hg2⟩ := gd_and hg; (try rw [hg1]); (try rw [hg2]); exact n_lss rfl rfl) ?_; refine l_guard rfl rfl rfl rfl (fun hg => by rw [hg]; exact n_pick_bool rfl (fun h => by first | rfl | (rw [h]; rfl)) (fun h => by first | rfl | (rw [h]; rfl))) ?_; refine l_neu (n_pick_bool rfl (fun h => by first | rfl | (rw [h]; rfl)) (fun h => by first | rfl | (rw [h]; rfl))) rfl ?_; refine l_nil ?_
    refine k1 ?_
    refine c_cond rfl (fun ht => ?_) (fun ht => ?_)
    · simp only [and_pick, or_pick] at ht
      have h1 := of_decide_eq_true ht
      have h2 := hbad.1 (by
        rcases h1 with (h | h) | h
        · exact .inl h
        · exact .inr (.inl h)
        · exact .inr (.inr ⟨h.1, by simp only [decide_eq_false_iff_not]; omega⟩))
      rw [hemp, h2, Bool.false_and] at hp
      refine k2 ?_
      refine c_region ?_; refine l_neu (n_assign rfl rfl) rfl ?_; refine l_neu (n_assign rfl rfl) rfl ?_; refine l_nil ?_
      refine k1 ?_; refine k10 ?_; refine k11 ?_; refine k12 ?_; refine k11 ?_; refine k11 ?_; refine k12 ?_; refine k11 ?_
      exact ret_ret (ret2 rfl rfl rfl rfl rfl) (by rw [joinOf, if_pos hp])
    · simp only [and_pick, or_pick] at ht
      have h1 := of_decide_eq_false ht
      have h2 : (lineOk l[i] && (decide (l.length ≤ i + 1) || ended l[i])) = true := by
        cases h3 : (lineOk l[i] && (decide (l.length ≤ i + 1) || ended l[i]))
        · have h4 := hbad.2 h3
          simp only [decide_eq_false_iff_not] at h4
          refine absurd ?_ h1
          rcases h4 with h | h | h
          · exact .inl (.inl h)
          · exact .inl (.inr h)
          · exact .inr ⟨h.1, by omega⟩
        · rfl
      rw [hemp, h2, Bool.true_and] at hp
      refine k5 ?_; refine k1 ?_
      refine c_region ?_; refine l_neu (n_move rfl rfl) rfl ?_; refine l_neu (n_move rfl rfl) rfl ?_; refine l_neu (n_len_s rfl) rfl ?_; refine l_neu (n_add rfl rfl (by omega)) rfl ?_; refine l_neu (n_assign rfl rfl) rfl ?_; refine l_nil ?_
      refine k4 ?_; refine k1 ?_
      refine c_region ?_; refine l_neu (n_add rfl rfl (by omega)) rfl ?_; refine l_neu (n_move rfl rfl) rfl ?_; refine l_nil ?_
      refine k1 ?_
      refine ⟨i + 1, ⟨by omega, hp⟩, by omega, ?_⟩
      rw [hst]
      exact Sees.of ⟨le1 rfl, le1 rfl, le1 rfl, le1 rfl, le1 rfl, trivial⟩ trivial
  · have hil : i = l.length := by have := of_decide_eq_false ht; omega
    rw [hil, List.take_length] at hfl ⊢
    rw [hil, List.drop_eq_nil_of_le (Nat.le_refl _)] at hp
    refine k6 ?_; refine k2 ?_; refine k2 ?_
    refine c_region ?_; refine l_neu (n_move rfl rfl) rfl ?_; refine l_neu (n_gtr rfl rfl) rfl ?_; refine l_neu (n_move rfl rfl) rfl ?_; refine l_guard rfl rfl rfl rfl (fun hg => by rw [hg]; exact n_move rfl rfl) ?_; refine l_guard rfl rfl rfl rfl (fun hg => by rw [hg]; exact n_len rfl (.pure _ _ _ _)) ?_; refine l_guard rfl rfl rfl rfl (fun hg => by rw [hg]; exact n_gtr rfl rfl) ?_; refine l_neu (n_pick_bool rfl (fun h => by first | rfl | (rw [h]; rfl)) (fun h => by first | rfl | (rw [h]; rfl))) rfl ?_; refine l_nil ?_
    refine k1 ?_
    refine c_cond rfl (fun ht => ?_) (fun ht => ?_)
    · have h1 := of_decide_eq_true (or_pick.symm.trans ht)
      refine k2 ?_
      refine c_region ?_; refine l_neu (n_assign rfl rfl) rfl ?_; refine l_neu (n_assign rfl rfl) rfl ?_; refine l_nil ?_
      refine k1 ?_; refine k10 ?_; refine k11 ?_
      exact ret_ret (ret2 rfl rfl rfl rfl rfl) (by rw [joinOf, if_neg (by rw [hp]; simp [listOk]), if_pos (by omega)])
    · have h1 := of_decide_eq_false (or_pick.symm.trans ht)
      refine k5 ?_; refine k1 ?_; refine k2 ?_
      refine c_region ?_; refine l_neu (n_move rfl rfl) rfl ?_; refine l_call (sjoin_ok l (by omega) (by omega)) rfl rfl rfl ?_; rintro _ rfl; refine l_neu (n_assign rfl rfl) rfl ?_; refine l_neu (n_assign rfl rfl) rfl ?_; refine l_nil ?_
      refine k1 ?_; refine k10 ?_
      exact ret_ret (ret2 rfl rfl rfl rfl rfl) (by rw [joinOf, if_neg (by rw [hp]; simp [listOk]), if_neg (by omega)])
end Go.Proofs.YtbiadkkamhpdnaaGreatDoor
namespace Go.Proofs.YtbiadkkamhpdnaaGreatDoor
open Go Go.AL
set_option maxRecDepth 100000
def isBld (ob : Obs) (xs : Str) : Prop := (∃ a, (a = .p (.v (.pointer none)) ∨ a = .ref 700 0) ∧ getO ob 700 = some (.tbx 124 [a, .buf 701 UInt8 1 u8C xs])) ∧ getO ob 701 = some (.spare xs.length 1 5)
abbrev bldObs (ob : Obs) (ys xs : Str) : Obs := (700, .tbx 124 [.ref 700 0, .buf 701 UInt8 1 u8C xs]) :: (701, .spare xs.length 1 5) :: Obs.forget 701 ((700, .tbx 124 [.ref 700 0, .buf 701 UInt8 1 u8C ys]) :: ob)
def ccRen : Go.Shelf.Ren := ⟨fun | 240 => 147 | 276 => 204 | n => n, fun | 72 => 124 | 70 => 122 | 164 => 240 | 37 => 115 | n => n, fun n => n⟩
theorem ccLays : Go.Proofs.Lays.n240 Tryz.prog ccRen := {
  mixed := by kernel_rfl
  f240 := Tryz.func147.trans (congrArg some (by kernel_rfl))
  f276 := Tryz.func204.trans (congrArg some (by kernel_rfl))
  t0 := Tryz.underlying0
  a0 := Tryz.isAgg0
  z0 := Tryz.sizeOf0
  v0 := Tryz.zeroValue0
  t4 := Tryz.underlying4
  a4 := Tryz.isAgg4
  z4 := Tryz.sizeOf4
  v4 := Tryz.zeroValue4
  t9 := Tryz.underlying9
  a9 := Tryz.isAgg9
  z9 := Tryz.sizeOf9
  v9 := Tryz.zeroValue9
  t20 := Tryz.underlying20
  a20 := Tryz.isAgg20
  z20 := Tryz.sizeOf20
  v20 := Tryz.zeroValue20
  t70 := Tryz.underlying122
  a70 := Tryz.isAgg122
  z70 := Tryz.sizeOf122
  v70 := Tryz.zeroValue122
  t72 := Tryz.underlying124
  a72 := Tryz.isAgg124
  z72 := Tryz.sizeOf124
  v72 := Tryz.zeroValue124
  t164 := Tryz.underlying240
  a164 := Tryz.isAgg240
  z164 := Tryz.sizeOf240
  v164 := Tryz.zeroValue240 }
theorem ccX : Builder.X72 Tryz.prog ccRen := {
  sizeBuilder := by kernel_rfl
  liesBuilder := by kernel_rfl }
theorem copyCheck_met {gf : Fr} {ob : Obs} {a t : TC} (hk : getO ob 700 = some (.tbx 124 [a, t])) (ha : a = .p (.v (.pointer none)) ∨ a = .ref 700 0) :
    AL.Met Tryz.prog 147 [.one (.ref 700 0)] gf ob [] (fun rs ob' => rs = [] ∧ ob' = (700, .tbx 124 [.ref 700 0, t]) :: ob) :=
  AL.Met.copyCheck ⟨_, rfl, rfl, rfl⟩ (fun b w h1 h2 h3 => Any.Builder_copyCheck_fresh (ρ := ccRen) ccLays ccX b w h1 h2 h3) (fun b w h => Any.Builder_copyCheck_used (ρ := ccRen) ccLays ccX b w h) hk ha
theorem writeString_met {gf : Fr} {ob : Obs} {xs s : Str} (hb : isBld ob xs) (hlen : xs.length + s.length ≤ 1073741824) :
    AL.Met Tryz.prog 85 [.one (.ref 700 0), .one (.p (.v (.string ⟨s.toArray⟩)))] gf ob [701] (fun rs ob' => rs = [.one (.p (.v (.int .i64 s.length))), .one (.p (.v .nilIface))] ∧ ob' = bldObs ob xs (xs ++ s)) := by
  obtain ⟨⟨a, ha, hk⟩, hk1⟩ := hb
  refine AL.Met.intro Tryz.func85 (by decide) rfl rfl rfl ?_
  refine k2 ?_
  refine c_region ?_; refine l_neu (n_assign rfl rfl) rfl ?_; refine l_neu (n_assign rfl rfl) rfl ?_; refine l_nil ?_
  refine k1 ?_; refine k2 ?_
  refine c_region ?_; refine l_neu (n_move rfl rfl) rfl ?_; refine l_met (copyCheck_met hk ha) rfl rfl rfl ?_; rintro _ _ ⟨rfl, rfl⟩; refine l_nil ?_
  refine k1 ?_; refine k2 ?_
  refine c_region ?_; refine l_neu (n_move rfl rfl) rfl ?_; refine l_neu (n_move rfl rfl) rfl ?_; refine l_neu (n_nilCheck_ref rfl) rfl ?_; refine l_neu (n_field_ref rfl) rfl ?_; refine l_neu (n_load_tref rfl rfl rfl) rfl ?_; refine l_neu (n_move rfl rfl) rfl ?_; refine l_effv (e_append_s TyStr.out rfl hk1 rfl (by first | omega | (simp; omega)) rfl) rfl ?_; refine l_neu (n_nilCheck_ref rfl) rfl ?_; refine l_neu (n_field_ref rfl) rfl ?_; refine l_eff (e_store_tref TySz.out rfl rfl rfl rfl rfl rfl) ?_; refine l_nil ?_
  refine k1 ?_; refine k2 ?_
  refine c_region ?_; refine l_neu (n_move rfl rfl) rfl ?_; refine l_neu (n_len_s rfl) rfl ?_; refine l_neu (n_assign rfl rfl) rfl ?_; refine l_neu (n_assign rfl rfl) rfl ?_; refine l_nil ?_
  refine k1 ?_; refine k10 ?_
  exact met_ret (rets2 rfl rfl rfl) (by repeat (first | exact tail_refl | refine tail_cons rfl ?_ | refine tail_forget _ ?_)) (fun _ _ h => h) ⟨rfl, rfl⟩
theorem writeByte_met {gf : Fr} {ob : Obs} {xs : Str} {c : UInt8} (hb : isBld ob xs) (hlen : xs.length + 1 ≤ 1073741824) :
    AL.Met Tryz.prog 136 [.one (.ref 700 0), .one (.p (.v (.int .u8 c.toNat)))] gf ob [701] (fun rs ob' => rs = [.one (.p (.v .nilIface))] ∧ ob' = bldObs ob xs (xs ++ [c])) := by
  obtain ⟨⟨a, ha, hk⟩, hk1⟩ := hb
  refine AL.Met.intro Tryz.func136 (by decide) rfl rfl rfl ?_
  refine k2 ?_
  refine c_region ?_; refine l_neu (n_assign rfl rfl) rfl ?_; refine l_nil ?_
  refine k1 ?_; refine k2 ?_
  refine c_region ?_; refine l_neu (n_move rfl rfl) rfl ?_; refine l_met (copyCheck_met hk ha) rfl rfl rfl ?_; rintro _ _ ⟨rfl, rfl⟩; refine l_nil ?_
  refine k1 ?_; refine k2 ?_
  refine c_region ?_; refine l_neu (n_move rfl rfl) rfl ?_; refine l_neu (n_move rfl rfl) rfl ?_; refine l_neu (n_nilCheck_ref rfl) rfl ?_; refine l_neu (n_field_ref rfl) rfl ?_; refine l_neu (n_load_tref rfl rfl rfl) rfl ?_; refine l_neu (n_move rfl rfl) rfl ?_; refine l_neu (n_buildSlice (c := u8C) (ys := [c]) (asm_cons rfl rfl rfl rfl asm_nil) rfl rfl rfl) rfl ?_; refine l_effv (e_append rfl hk1 rfl (.pure _ _ _ _) (by (simp; omega)) rfl) rfl ?_; refine l_neu (n_nilCheck_ref rfl) rfl ?_; refine l_neu (n_field_ref rfl) rfl ?_; refine l_eff (e_store_tref TySz.out rfl rfl rfl rfl rfl rfl) ?_; refine l_nil ?_
  refine k1 ?_; refine k2 ?_
  refine c_region ?_; refine l_neu (n_assign rfl rfl) rfl ?_; refine l_nil ?_
  refine k1 ?_; refine k10 ?_
  exact met_ret (rets1 rfl rfl) (by repeat (first | exact tail_refl | refine tail_cons rfl ?_ | refine tail_forget _ ?_)) (fun _ _ h => h) ⟨rfl, rfl⟩
end Go.Proofs.YtbiadkkamhpdnaaGreatDoor
