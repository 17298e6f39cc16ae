/- Walks of the program's functions. -/
import Derived.Test.YtjjidificdmnmaaDoorTy
import Derived.Test.YtjjidificdmnmaaDoorFs
import Derived.Test.YtjjidificdmnmaaDoorSh
import Derived.Lib.AppendIntMem
import Derived.Test.YtjjidificdmnmaaDoorAn
namespace Go.Proofs.YtjjidificdmnmaaDoor
open Go Go.AL
set_option maxRecDepth 100000
theorem u64_nonneg (p : Int) : 0 ≤ IntKind.u64.wrap p := by simp [IntKind.wrap, IntKind.signed, IntKind.bits]; omega
theorem lines_ok (b : Str) (hb : b.length ≤ 536870912) : FnOk Tryd.prog 18 [pStr b] (fun rs => rs = [pStrs (linesOf b)]) := by
  refine FnOk.intro Tryd.func18 (by decide) rfl rfl rfl rfl ?_
  refine k2 ?_
  refine c_region ?_; refine l_neu (n_assign rfl rfl) rfl ?_; refine l_nil ?_
  refine k1 ?_; refine k2 ?_
  refine c_region ?_; refine l_effv (f_adopt 3 _ strC rfl) rfl ?_; refine l_nil ?_
  refine k1 ?_; refine k2 ?_
  refine c_region ?_; refine l_neu (n_assign rfl rfl) rfl ?_; refine l_nil ?_
  refine k1 ?_; refine k2 ?_; refine k2 ?_
  refine c_region ?_; refine l_neu (n_assign rfl rfl) rfl ?_; refine l_nil ?_
  refine k1 ?_; refine k3 ?_
  refine c_while (X := Nat × Nat × List Str) (fun x => ([(0, sStr b), (3, .s (.one (.buf 3 Str 1 strC x.2.2))), (4, sInt x.2.1), (5, sInt x.1)], [(3, .spare x.2.2.length 1 9)]))
    (fun x => x.1 ≤ b.length ∧ x.2.1 ≤ x.1 ∧ x.2.2.length ≤ x.1 ∧ (x.1 = b.length → x.2.1 = x.1) ∧ x.2.2 ++ linesAux ((b.drop x.2.1).take (x.1 - x.2.1)) (b.drop x.1) = linesOf b) (fun x => b.length - x.1) (0, 0, []) (by simp [linesOf]) ?_ ?_
  · exact Sees.of ⟨⟨_, rfl, .same _⟩, ⟨_, rfl, .same _⟩, ⟨_, rfl, .same _⟩, ⟨_, rfl, .same _⟩, trivial⟩ ⟨rfl, trivial⟩
  · rintro ⟨i, from', out⟩ ⟨hi, hf, ho, he, hp⟩
    dsimp only at hi hf ho he hp ⊢
    refine k2 ?_; refine k2 ?_
    refine c_region ?_; refine l_neu (n_move rfl rfl) rfl ?_; refine l_neu (n_move rfl rfl) rfl ?_; refine l_neu (n_len_s rfl) rfl ?_; refine l_neu (n_lss rfl rfl) rfl ?_; refine l_nil ?_
    refine k1 ?_
    refine c_cond rfl (fun ht => ?_) (fun ht => ?_)
    · have hlt : i < b.length := by simpa using ht
      have hv : b[i]? = some b[i] := by simp [hlt]
      refine k5 ?_; refine k1 ?_; refine k2 ?_; refine k3 ?_; refine k2 ?_
      refine c_region ?_; refine l_neu (n_move rfl rfl) rfl ?_; refine l_neu (n_move rfl rfl) rfl ?_; refine l_neu (n_index_s rfl rfl (by omega) hv) rfl ?_; refine l_neu (n_eql rfl rfl) rfl ?_; refine l_neu (n_move rfl rfl) rfl ?_; refine l_guard rfl rfl rfl rfl (fun hg => by rw [hg]; exact n_move rfl rfl) ?_; refine l_guard rfl rfl rfl rfl (fun hg => by have hq := hg; (try simp at hq); rw [hg]; exact n_add rfl rfl (by omega)) ?_; refine l_guard rfl rfl rfl rfl (fun hg => by rw [hg]; exact n_move rfl rfl) ?_; refine l_guard rfl rfl rfl rfl (fun hg => by rw [hg]; exact n_len_s rfl) ?_; refine l_guard rfl rfl rfl rfl (fun hg => by rw [hg]; exact n_eql rfl rfl) ?_; refine l_neu (n_pick_bool rfl (fun h => by first | rfl | (rw [h]; rfl)) (fun h => by first | rfl | (rw [h]; rfl))) rfl ?_; refine l_nil ?_
      refine k1 ?_
      refine c_cond rfl (fun ht2 => ?_) (fun ht2 => ?_)
      · refine k2 ?_
        refine c_region ?_; refine l_neu (n_move rfl rfl) rfl ?_; refine l_neu (n_move rfl rfl) rfl ?_; refine l_neu (n_move rfl rfl) rfl ?_; refine l_neu (n_move rfl rfl) rfl ?_; refine l_neu (n_add rfl rfl (by omega)) rfl ?_; refine l_neu (n_sub_lh rfl rfl rfl (by omega) (by omega) (by omega)) rfl ?_; refine l_neu (n_buildSlice (c := strC) (ys := [_]) (asm_cons rfl rfl rfl rfl asm_nil) rfl rfl rfl) rfl ?_; refine l_effv (e_append rfl rfl rfl (.pure _ _ _ _) (by simp; omega) rfl) rfl ?_; refine l_neu (n_assign rfl rfl) rfl ?_; refine l_nil ?_
        refine k1 ?_
        refine c_region ?_; refine l_neu (n_move rfl rfl) rfl ?_; refine l_neu (n_add rfl rfl (by omega)) rfl ?_; refine l_neu (n_assign rfl rfl) rfl ?_; refine l_nil ?_
        refine k4 ?_; refine k1 ?_
        refine c_region ?_; refine l_neu (n_move rfl rfl) rfl ?_; refine l_neu (n_add rfl rfl (by omega)) rfl ?_; refine l_neu (n_assign rfl rfl) rfl ?_; refine l_nil ?_
        refine k1 ?_
        refine ⟨(i + 1, i + 1, _), ⟨?_, ?_, ?_, ?_, ?_⟩, ?_, Sees.of ⟨⟨_, rfl, .same _⟩, ⟨_, rfl, .same _⟩, ⟨_, rfl, .same _⟩, ⟨_, rfl, .same _⟩, trivial⟩ ⟨rfl, trivial⟩⟩
        all_goals dsimp only
        · omega
        · omega
        · simp; omega
        · omega
        · have hc : b[i] = 10 ∨ i + 1 = b.length := by
            simp only [u8_lf] at ht2
            by_cases h : b[i] = 10
            · exact .inl h
            · simp [h] at ht2; exact .inr (by omega)
          rw [toNat_succ, Int.toNat_natCast, Nat.sub_self, List.take_zero, ← part_snoc b from' i hf hlt, List.append_assoc, ← hp, List.drop_eq_getElem_cons hlt, linesAux_step]
          rcases hc with h | h
          · rw [if_pos h]; rfl
          · have hd : b.drop (i + 1) = [] := List.drop_eq_nil_of_le (by omega)
            rw [hd]
            split
            · rfl
            · rw [show linesAux ([] : Str) [] = [] from rfl, linesAux_end _ (by simp)]; simp
        · omega
      · refine k5 ?_; refine k4 ?_; refine k1 ?_
        refine c_region ?_; refine l_neu (n_move rfl rfl) rfl ?_; refine l_neu (n_add rfl rfl (by omega)) rfl ?_; refine l_neu (n_assign rfl rfl) rfl ?_; refine l_nil ?_
        refine k1 ?_
        refine ⟨(i + 1, from', out), ⟨?_, ?_, ?_, ?_, ?_⟩, ?_, Sees.of ⟨⟨_, rfl, .same _⟩, ⟨_, rfl, .same _⟩, ⟨_, rfl, .same _⟩, ⟨_, rfl, .same _⟩, trivial⟩ ⟨rfl, trivial⟩⟩
        all_goals dsimp only
        · omega
        · omega
        · omega
        · intro h
          simp [show (i : Int) + 1 = (b.length : Int) by omega] at ht2
        · have hc : b[i] ≠ 10 := fun h => by simp [h] at ht2
          rw [← part_snoc b from' i hf hlt, ← hp, List.drop_eq_getElem_cons hlt, linesAux_step, if_neg hc]
        · omega
    · refine k6 ?_; refine k2 ?_
      refine c_region ?_; refine l_neu (n_move rfl rfl) rfl ?_; refine l_neu (n_assign rfl rfl) rfl ?_; refine l_nil ?_
      refine k1 ?_; refine k10 ?_
      refine ret_ret (ret1 rfl rfl rfl) ?_
      have hi' : i = b.length := by simp at ht; omega
      subst hi'
      have := he rfl
      subst this
      rw [Nat.sub_self, List.take_zero, List.drop_eq_nil_of_le (Nat.le_refl _)] at hp
      rw [← hp]; simp [linesAux]
end Go.Proofs.YtjjidificdmnmaaDoor
namespace Go.Proofs.YtjjidificdmnmaaDoor
open Go Go.AL
set_option maxRecDepth 100000
end Go.Proofs.YtjjidificdmnmaaDoor
namespace Go.Proofs.YtjjidificdmnmaaDoor
open Go Go.AL
set_option maxRecDepth 100000
end Go.Proofs.YtjjidificdmnmaaDoor
namespace Go.Proofs.YtjjidificdmnmaaDoor
open Go Go.AL
set_option maxRecDepth 100000
theorem u64_in {n : Int} (h : 0 ≤ n ∧ n < 18446744073709551616) : IntKind.u64.wrap n = n := by simp [IntKind.wrap, IntKind.signed, IntKind.bits]; omega
def modOf (a n : Int) : Int := IntKind.u64.wrap a % n
theorem modOf_in (a : Int) {n : Int} (h : 1 ≤ n) : 0 ≤ modOf a n ∧ modOf a n < n := ⟨Int.emod_nonneg _ (by omega), Int.emod_lt_of_pos _ (by omega)⟩
theorem mod_ok (a n : Int) (hn : 1 ≤ n) (hn' : n ≤ 9223372036854775807) : FnOk Tryd.prog 12 [pInt a, pInt n] (fun rs => rs = [pInt (modOf a n)]) := by
  refine FnOk.intro Tryd.func12 (by decide) rfl rfl rfl rfl ?_
  refine k2 ?_
  refine c_region ?_; refine l_neu (n_assign rfl rfl) rfl ?_; refine l_nil ?_
  refine k1 ?_; refine k2 ?_
  have h1 : IntKind.u64.wrap n = n := u64_in (by omega)
  refine c_region ?_; refine l_neu (n_move rfl rfl) rfl ?_; refine l_neu (n_convert rfl) rfl ?_; refine l_neu (n_move rfl rfl) rfl ?_; refine l_neu (n_convert rfl) rfl ?_; refine l_neu (n_rem rfl rfl (by (rw [h1]; omega))) rfl ?_; refine l_neu (n_convert rfl) rfl ?_; refine l_neu (n_assign rfl rfl) rfl ?_; refine l_nil ?_
  refine k1 ?_; refine k10 ?_
  refine ret_ret (ret1 rfl rfl rfl) ?_
  have h2 := u64_nonneg a
  have h3 : (IntKind.u64.wrap a).tmod n = IntKind.u64.wrap a % n := Int.tmod_eq_emod_of_nonneg h2
  have h4 := modOf_in a hn
  unfold modOf at *
  rw [h1, h3, i64_wrap_in ⟨by omega, by omega⟩]
def xor64 (a b : Int) : Int := IntKind.u64.wrap ((BitVec.ofInt IntKind.u64.bits a ^^^ BitVec.ofInt IntKind.u64.bits b).toNat : Int)
def shr64 (a n : Int) : Int := a.fdiv (2 ^ (min n.toNat IntKind.u64.bits))
def at0 (k : Int) : Int := IntKind.u64.wrap (IntKind.u64.wrap (k + 1) * 11400714819323198485)
def at1 (raw : List Int) (k : Int) : Int := if 0 < raw.length then xor64 (at0 k) (IntKind.u64.wrap (raw.getD (k.tmod raw.length).toNat 0)) else at0 k
def at2 (x : Int) : Int := IntKind.u64.wrap (xor64 x (shr64 x 31) * 13787848793156543929)
def atOf (raw : List Int) (k : Int) : Int := IntKind.i64.wrap (shr64 (xor64 (at2 (at1 raw k)) (shr64 (at2 (at1 raw k)) 29)) 1)
theorem at_ok (raw : List Int) (k : Int) (h0 : 0 ≤ k) (h1 : k ≤ 1099511627776) : FnOk Tryd.prog 6 [pInts raw, pInt k] (fun rs => rs = [pInt (atOf raw k)]) := by
  refine FnOk.intro Tryd.func6 (by decide) rfl rfl rfl rfl ?_
  refine c_bound (t := 0) rfl (.pure _ _ _ _) fun hlen => ?_
  refine k2 ?_
  refine c_region ?_; refine l_neu (n_assign rfl rfl) rfl ?_; refine l_nil ?_
  refine k1 ?_; refine k2 ?_
  refine c_region ?_; refine l_neu (n_move rfl rfl) rfl ?_; refine l_neu (n_add rfl rfl (by omega)) rfl ?_; refine l_neu (n_convert rfl) rfl ?_; refine l_neu (n_mul_w rfl rfl) rfl ?_; refine l_neu (n_assign rfl rfl) rfl ?_; refine l_nil ?_
  refine then_normal ?_
  refine c_join [(0, sList Int 1 intC raw), (1, sInt k), (5, sVal (.int .u64 (at1 raw k)))] [] ?_ ?_
  · refine k2 ?_
    refine c_region ?_; refine l_neu (n_move rfl rfl) rfl ?_; refine l_neu (n_len rfl (.pure _ _ _ _)) rfl ?_; refine l_neu (n_gtr rfl rfl) rfl ?_; refine l_nil ?_
    refine k1 ?_
    refine c_cond rfl (fun ht => ?_) (fun ht => ?_)
    · have hpos : 0 < raw.length := by have := of_decide_eq_true ht; omega
      have hm0 : 0 ≤ k.tmod raw.length := Int.tmod_nonneg _ h0
      have hm1 : k.tmod raw.length < raw.length := Int.tmod_lt_of_pos _ (by omega)
      have hv : raw[(k.tmod raw.length).toNat]? = some (raw.getD (k.tmod raw.length).toNat 0) := by
        rw [List.getD_eq_getElem?_getD, List.getElem?_eq_getElem (by omega)]; rfl
      skip
      refine c_region ?_; refine l_neu (n_move rfl rfl) rfl ?_; refine l_neu (n_move rfl rfl) rfl ?_; refine l_neu (n_move rfl rfl) rfl ?_; refine l_neu (n_move rfl rfl) rfl ?_; refine l_neu (n_len rfl (.pure _ _ _ _)) rfl ?_; refine l_neu (n_rem rfl rfl (by omega)) rfl ?_; refine l_neu (n_indexAddr rfl (.pure _ _ _ _) rfl (by omega) hv) rfl ?_; refine l_neu (n_load_eref rfl rfl) rfl ?_; refine l_neu (n_convert rfl) rfl ?_; refine l_neu (n_bits rfl rfl rfl (fun _ => rfl)) rfl ?_; refine l_neu (n_assign rfl rfl) rfl ?_; refine l_nil ?_
      refine k1 ?_
      rw [at1, if_pos hpos]
      exact Sees.of ⟨le1 rfl, le1 rfl, le1 rfl, trivial⟩ trivial
    · have hpos : ¬ 0 < raw.length := by have := of_decide_eq_false ht; omega
      refine k5 ?_; refine k1 ?_
      rw [at1, if_neg hpos]
      exact Sees.of ⟨le1 rfl, le1 rfl, le1 rfl, trivial⟩ trivial
  · refine k2 ?_
    refine c_region ?_; refine l_neu (n_move rfl rfl) rfl ?_; refine l_neu (n_move rfl rfl) rfl ?_; refine l_neu (n_shr rfl rfl (by omega)) rfl ?_; refine l_neu (n_bits rfl rfl rfl (fun _ => rfl)) rfl ?_; refine l_neu (n_mul_w rfl rfl) rfl ?_; refine l_neu (n_assign rfl rfl) rfl ?_; refine l_nil ?_
    refine k1 ?_; refine k2 ?_
    refine c_region ?_; refine l_neu (n_move rfl rfl) rfl ?_; refine l_neu (n_move rfl rfl) rfl ?_; refine l_neu (n_shr rfl rfl (by omega)) rfl ?_; refine l_neu (n_bits rfl rfl rfl (fun _ => rfl)) rfl ?_; refine l_neu (n_shr rfl rfl (by omega)) rfl ?_; refine l_neu (n_convert rfl) rfl ?_; refine l_neu (n_assign rfl rfl) rfl ?_; refine l_nil ?_
    refine k1 ?_; refine k10 ?_
    exact ret_ret (ret1 rfl rfl rfl) rfl
def lineTab : List Str := [[97], [98], [99], [97, 98], [98, 97], [], [97, 97], [98, 32, 97], [120, 43, 121], [92]]
def lineOf (k : Int) : Str := lineTab.getD (modOf k 10).toNat []
theorem lineTab_len : ∀ s ∈ lineTab, s.length ≤ 3 := by decide
theorem lineOf_len (k : Int) : (lineOf k).length ≤ 3 := by
  unfold lineOf
  rw [List.getD_eq_getElem?_getD]
  cases h : lineTab[(modOf k 10).toNat]? with
  | none => simp
  | some s => exact lineTab_len s (List.mem_of_getElem? h)
theorem gline_ok (k : Int) : FnOk Tryd.prog 5 [pInt k] (fun rs => rs = [pStr (lineOf k)]) := by
  refine FnOk.intro Tryd.func5 (by decide) rfl rfl rfl rfl ?_
  refine k2 ?_
  refine c_region ?_; refine l_neu (n_assign rfl rfl) rfl ?_; refine l_nil ?_
  refine k1 ?_; refine k2 ?_
  have hm := modOf_in k (n := 10) (by decide)
  have hv : lineTab[(modOf k 10).toNat]? = some (lineOf k) := by
    unfold lineOf
    rw [List.getD_eq_getElem?_getD, List.getElem?_eq_getElem (show (modOf k 10).toNat < lineTab.length by simp [lineTab]; omega)]; rfl
  refine c_region ?_; refine l_neu (n_buildSlice (c := strC) (ys := lineTab) (asm_cons rfl rfl rfl rfl (asm_cons rfl rfl rfl rfl (asm_cons rfl rfl rfl rfl (asm_cons rfl rfl rfl rfl (asm_cons rfl rfl rfl rfl (asm_cons rfl rfl rfl rfl (asm_cons rfl rfl rfl rfl (asm_cons rfl rfl rfl rfl (asm_cons rfl rfl rfl rfl (asm_cons rfl rfl rfl rfl asm_nil)))))))))) rfl rfl rfl) rfl ?_; refine l_neu (n_move rfl rfl) rfl ?_; refine l_call (mod_ok k 10 (by decide) (by decide)) rfl rfl rfl ?_; rintro _ rfl; refine l_neu (n_indexAddr rfl (.pure _ _ _ _) rfl (by omega) hv) rfl ?_; refine l_neu (n_load_eref rfl rfl) rfl ?_; refine l_neu (n_assign rfl rfl) rfl ?_; refine l_nil ?_
  refine k1 ?_; refine k10 ?_
  exact ret_ret (ret1 rfl rfl rfl) rfl
def blobLines (raw : List Int) (from' : Int) (kinds : Int) (m : Nat) : Str := ((List.range m).map fun (i : Nat) => lineOf (modOf (atOf raw (from' + 1 + (i : Int))) kinds) ++ [10]).flatten
def blobOf (raw : List Int) (from' n kinds : Int) : Str :=
  let s := blobLines raw from' kinds (modOf (atOf raw from') (n + 1)).toNat
  if ((atOf raw (from' + 90)).tmod 4 = 0 ∧ (1 : Int) < s.length) ∧ ((s.getD (s.length - 2) 0).toNat : Int) ≠ 10 then s.take (s.length - 1) else s
theorem blobLines_succ (raw : List Int) (from' kinds : Int) (m : Nat) : blobLines raw from' kinds (m + 1) = blobLines raw from' kinds m ++ lineOf (modOf (atOf raw (from' + 1 + (m : Int))) kinds) ++ [10] := by
  unfold blobLines; rw [List.range_succ, List.map_append, List.flatten_append]; simp
theorem blobLines_len (raw : List Int) (from' kinds : Int) (m : Nat) : (blobLines raw from' kinds m).length ≤ 4 * m := by
  induction m with
  | zero => simp [blobLines]
  | succ m ih => have := lineOf_len (modOf (atOf raw (from' + 1 + (m : Int))) kinds); rw [blobLines_succ]; simp only [List.length_append, List.length_cons, List.length_nil]; omega
theorem blob_ok (raw : List Int) (from' n kinds : Int) (h0 : 0 ≤ from' ∧ from' ≤ 1073741824) (h1 : 0 ≤ n ∧ n ≤ 1048576) (h2 : 1 ≤ kinds ∧ kinds ≤ 1048576) :
    FnOk Tryd.prog 9 [pInts raw, pInt from', pInt n, pInt kinds] (fun rs => rs = [pStr (blobOf raw from' n kinds)]) := by
  obtain ⟨m, hm⟩ : ∃ m : Nat, modOf (atOf raw from') (n + 1) = m := ⟨(modOf (atOf raw from') (n + 1)).toNat, by have := modOf_in (atOf raw from') (n := n + 1) (by omega); omega⟩
  have hmi := modOf_in (atOf raw from') (n := n + 1) (by omega)
  have hml : m ≤ 1048576 := by omega
  refine FnOk.intro Tryd.func9 (by decide) rfl rfl rfl rfl ?_
  refine k2 ?_
  refine c_region ?_; refine l_neu (n_assign rfl rfl) rfl ?_; refine l_nil ?_
  refine k1 ?_; refine k2 ?_
  refine c_region ?_; refine l_neu (n_move rfl rfl) rfl ?_; refine l_neu (n_move rfl rfl) rfl ?_; refine l_call (at_ok raw from' (by omega) (by omega)) rfl rfl rfl ?_; rintro _ rfl; refine l_neu (n_move rfl rfl) rfl ?_; refine l_neu (n_add rfl rfl (by omega)) rfl ?_; refine l_call (mod_ok _ (n + 1) (by omega) (by omega)) rfl rfl rfl ?_; rintro _ rfl; refine l_neu (n_assign rfl rfl) rfl ?_; refine l_nil ?_
  refine k1 ?_; refine k2 ?_
  rw [hm]
  refine c_region ?_; refine l_neu (n_assign rfl rfl) rfl ?_; refine l_nil ?_
  refine k1 ?_; refine k2 ?_; refine k2 ?_
  refine c_region ?_; refine l_neu (n_assign rfl rfl) rfl ?_; refine l_nil ?_
  refine k1 ?_; refine k3 ?_
  refine c_while (X := Nat) (fun i => ([(0, sList Int 1 intC raw), (1, sInt from'), (2, sInt m), (3, sInt kinds), (9, sStr (blobLines raw from' kinds i)), (10, sInt i)], [])) (fun i => i ≤ m) (fun i => m - i) 0 (Nat.zero_le _) (Sees.of ⟨le1 rfl, le1 rfl, le1 rfl, le1 rfl, le1 rfl, le1 rfl, trivial⟩ trivial) ?_
  intro i hi
  dsimp only at hi ⊢
  have hbl := blobLines_len raw from' kinds i
  refine k2 ?_; refine k2 ?_
  refine c_region ?_; refine l_neu (n_move rfl rfl) rfl ?_; refine l_neu (n_move rfl rfl) rfl ?_; refine l_neu (n_lss rfl rfl) rfl ?_; refine l_nil ?_
  refine k1 ?_
  refine c_cond rfl (fun ht => ?_) (fun ht => ?_)
  · have hlt : i < m := by have := of_decide_eq_true ht; omega
    have hll := lineOf_len (modOf (atOf raw (from' + 1 + (i : Int))) kinds)
    refine k5 ?_; refine k1 ?_; refine k2 ?_; refine k3 ?_
    refine c_region ?_; refine l_neu (n_move rfl rfl) rfl ?_; refine l_neu (n_move rfl rfl) rfl ?_; refine l_neu (n_move rfl rfl) rfl ?_; refine l_neu (n_add rfl rfl (by omega)) rfl ?_; refine l_neu (n_move rfl rfl) rfl ?_; refine l_neu (n_add rfl rfl (by omega)) rfl ?_; refine l_call (at_ok raw _ (by omega) (by omega)) rfl rfl rfl ?_; rintro _ rfl; refine l_neu (n_move rfl rfl) rfl ?_; refine l_call (mod_ok _ kinds (by omega) (by omega)) rfl rfl rfl ?_; rintro _ rfl; refine l_call (gline_ok _) rfl rfl rfl ?_; rintro _ rfl; refine l_neu (n_add_s rfl rfl (by omega)) rfl ?_; refine l_neu (n_add_s rfl rfl (by (simp only [List.length_append, List.length_cons, List.length_nil]; omega))) rfl ?_; refine l_neu (n_assign rfl rfl) rfl ?_; refine l_nil ?_
    refine k4 ?_; refine k1 ?_
    refine c_region ?_; refine l_neu (n_move rfl rfl) rfl ?_; refine l_neu (n_add rfl rfl (by omega)) rfl ?_; refine l_neu (n_assign rfl rfl) rfl ?_; refine l_nil ?_
    refine k1 ?_
    refine ⟨i + 1, by omega, by omega, ?_⟩
    rw [blobLines_succ]
    exact Sees.of ⟨le1 rfl, le1 rfl, le1 rfl, le1 rfl, le1 rfl, le1 rfl, trivial⟩ trivial
  · have hi' : i = m := by have := of_decide_eq_false ht; omega
    subst hi'
    obtain ⟨s, hs⟩ : ∃ s, s = blobLines raw from' kinds i := ⟨_, rfl⟩
    have hv : (1 : Int) < s.length → s[((s.length : Int) - 2).toNat]? = some (s.getD (s.length - 2) 0) := fun h => by
      rw [show ((s.length : Int) - 2).toNat = s.length - 2 by omega, List.getD_eq_getElem?_getD, List.getElem?_eq_getElem (by omega)]; rfl
    have hbo : blobOf raw from' n kinds = if ((atOf raw (from' + 90)).tmod 4 = 0 ∧ (1 : Int) < s.length) ∧ ((s.getD (s.length - 2) 0).toNat : Int) ≠ 10 then s.take (s.length - 1) else s := by
      simp only [blobOf, hm, Int.toNat_natCast, ← hs]
    rw [← hs] at hbl
    refine k6 ?_; refine k2 ?_; refine k2 ?_
    rw [← hs]
    refine c_region ?_; refine l_neu (n_move rfl rfl) rfl ?_; refine l_neu (n_move rfl rfl) rfl ?_; refine l_neu (n_add rfl rfl (by omega)) rfl ?_; refine l_call (at_ok raw _ (by omega) (by omega)) rfl rfl rfl ?_; rintro _ rfl; refine l_neu (n_rem rfl rfl (by omega)) rfl ?_; refine l_neu (n_eql rfl rfl) rfl ?_; refine l_neu (n_move rfl rfl) rfl ?_; refine l_guard rfl rfl rfl rfl (fun hg => by rw [hg]; exact n_move rfl rfl) ?_; refine l_guard rfl rfl rfl rfl (fun hg => by rw [hg]; exact n_len_s rfl) ?_; refine l_guard rfl rfl rfl rfl (fun hg => by rw [hg]; exact n_gtr rfl rfl) ?_; refine l_neu (n_pick_bool rfl (fun h => by first | rfl | (rw [h]; rfl)) (fun h => by first | rfl | (rw [h]; rfl))) rfl ?_; refine l_neu (n_move rfl rfl) rfl ?_; refine l_guard rfl rfl rfl rfl (fun hg => by rw [hg]; exact n_move rfl rfl) ?_; refine l_guard rfl rfl rfl rfl (fun hg => by rw [hg]; exact n_move rfl rfl) ?_; refine l_guard rfl rfl rfl rfl (fun hg => by rw [hg]; exact n_len_s rfl) ?_; refine l_guard rfl rfl rfl rfl (fun hg => by have hq := hg; (try simp at hq); rw [hg]; exact n_sub rfl rfl (by omega)) ?_; refine l_guard rfl rfl rfl rfl (fun hg => by have hq := hg; (try simp at hq); rw [hg]; exact n_index_s rfl rfl (by omega) (hv (by omega))) ?_; refine l_guard rfl rfl rfl rfl (fun hg => by rw [hg]; exact n_neq rfl rfl) ?_; refine l_neu (n_pick_bool rfl (fun h => by first | rfl | (rw [h]; rfl)) (fun h => by first | rfl | (rw [h]; rfl))) rfl ?_; refine l_nil ?_
    refine k1 ?_
    refine c_cond rfl (fun ht => ?_) (fun ht => ?_)
    · simp only [and_pick] at ht
      have h := of_decide_eq_true ht
      skip
      refine c_region ?_; refine l_neu (n_move rfl rfl) rfl ?_; refine l_neu (n_move rfl rfl) rfl ?_; refine l_neu (n_len_s rfl) rfl ?_; refine l_neu (n_sub rfl rfl (by omega)) rfl ?_; refine l_neu (n_sub_h rfl rfl (by omega) (by omega)) rfl ?_; refine l_neu (n_assign rfl rfl) rfl ?_; refine l_nil ?_
      refine k1 ?_; refine k2 ?_
      refine c_region ?_; refine l_neu (n_move rfl rfl) rfl ?_; refine l_neu (n_assign rfl rfl) rfl ?_; refine l_nil ?_
      refine k1 ?_; refine k10 ?_
      exact ret_ret (ret1 rfl rfl rfl) (by rw [hbo, if_pos h, show ((s.length : Int) - 1).toNat = s.length - 1 by omega])
    · simp only [and_pick] at ht
      have h := of_decide_eq_false ht
      refine k5 ?_; refine k1 ?_; refine k2 ?_
      refine c_region ?_; refine l_neu (n_move rfl rfl) rfl ?_; refine l_neu (n_assign rfl rfl) rfl ?_; refine l_nil ?_
      refine k1 ?_; refine k10 ?_
      exact ret_ret (ret1 rfl rfl rfl) (by rw [hbo, if_neg h])
theorem blobOf_len (raw : List Int) (from' n kinds : Int) (h1 : 0 ≤ n) : ((blobOf raw from' n kinds).length : Int) ≤ 4 * n := by
  have h := modOf_in (atOf raw from') (n := n + 1) (by omega)
  have h2 := blobLines_len raw from' kinds (modOf (atOf raw from') (n + 1)).toNat
  unfold blobOf
  simp only
  split
  · simp only [List.length_take]; omega
  · omega
def nearGo (raw : List Int) (from' : Int) (i : Nat) (s : Str) : List Str → Str
  | [] => s
  | x :: r => if (atOf raw (from' + (i : Int))).tmod 6 = 0 then nearGo raw from' (i + 1) s r
    else if (atOf raw (from' + (i : Int))).tmod 6 = 1 then nearGo raw from' (i + 1) (s ++ lineOf (atOf raw (from' + 40 + (i : Int))) ++ [10] ++ x) r
    else nearGo raw from' (i + 1) (s ++ x) r
def nearOf (blob : Str) (raw : List Int) (from' : Int) : Str := nearGo raw from' 0 [] (linesOf blob)
theorem nearGo_len (raw : List Int) (from' : Int) : ∀ (l : List Str) (i : Nat) (s : Str), (nearGo raw from' i s l).length ≤ s.length + l.flatten.length + 4 * l.length
  | [], i, s => by simp [nearGo]
  | x :: r, i, s => by
    have h1 := nearGo_len raw from' r (i + 1) s
    have h2 := nearGo_len raw from' r (i + 1) (s ++ lineOf (atOf raw (from' + 40 + (i : Int))) ++ [10] ++ x)
    have h3 := nearGo_len raw from' r (i + 1) (s ++ x)
    have h4 := lineOf_len (atOf raw (from' + 40 + (i : Int)))
    simp only [List.length_append, List.length_cons, List.length_nil, List.flatten_cons] at *
    unfold nearGo
    split
    · omega
    · split <;> omega
theorem linesAux_flatten (s cur : Str) : (linesAux cur s).flatten = cur ++ s := by
  induction s generalizing cur with
  | nil => unfold linesAux; split <;> simp [*]
  | cons c r ih => unfold linesAux; split <;> simp [ih]
theorem linesOf_flatten (s : Str) : (linesOf s).flatten = s := linesAux_flatten s []
theorem near_ok (blob : Str) (raw : List Int) (from' : Int) (hb : blob.length ≤ 16777216) (h0 : 0 ≤ from' ∧ from' ≤ 1073741824) :
    FnOk Tryd.prog 10 [pStr blob, pInts raw, pInt from'] (fun rs => rs = [pStr (nearOf blob raw from')]) := by
  have hll := linesOf_length blob
  have hlf := linesOf_flatten blob
  have hlf' : (linesOf blob).flatten.length = blob.length := by rw [hlf]
  refine FnOk.intro Tryd.func10 (by decide) rfl rfl rfl rfl ?_
  refine k2 ?_
  refine c_region ?_; refine l_neu (n_assign rfl rfl) rfl ?_; refine l_nil ?_
  refine k1 ?_; refine k2 ?_
  refine c_region ?_; refine l_neu (n_move rfl rfl) rfl ?_; refine l_call (lines_ok blob (by omega)) rfl rfl rfl ?_; rintro _ rfl; refine l_neu (n_assign rfl rfl) rfl ?_; refine l_nil ?_
  refine k1 ?_; refine k2 ?_
  obtain ⟨l, hl⟩ : ∃ l, l = linesOf blob := ⟨_, rfl⟩
  have hno : nearOf blob raw from' = nearGo raw from' 0 [] l := by rw [nearOf, hl]
  rw [← hl] at hll hlf' ⊢
  refine c_region ?_; refine l_neu (n_assign rfl rfl) rfl ?_; refine l_nil ?_
  refine k1 ?_; refine k2 ?_; refine k2 ?_
  refine c_region ?_; refine l_neu (n_assign rfl rfl) rfl ?_; refine l_nil ?_
  refine k1 ?_; refine k3 ?_
  refine c_while (X := Nat × Str) (fun x => ([(1, sList Int 1 intC raw), (2, sInt from'), (7, sList Str 1 strC l), (8, sStr x.2), (9, sInt x.1)], [])) (fun x => x.1 ≤ l.length ∧ x.2.length ≤ (l.take x.1).flatten.length + 4 * x.1 ∧ nearGo raw from' x.1 x.2 (l.drop x.1) = nearGo raw from' 0 [] l) (fun x => l.length - x.1) (0, []) (by simp) (Sees.of ⟨le1 rfl, le1 rfl, le1 rfl, le1 rfl, le1 rfl, trivial⟩ trivial) ?_
  rintro ⟨i, s⟩ ⟨hi, hs, hp⟩
  dsimp only at hi hs hp ⊢
  have hle := flatten_take_le l i
  refine k2 ?_; refine k2 ?_
  refine c_region ?_; refine l_neu (n_move rfl rfl) rfl ?_; refine l_neu (n_move rfl rfl) rfl ?_; refine l_neu (n_len rfl (.pure _ _ _ _)) rfl ?_; refine l_neu (n_lss rfl rfl) rfl ?_; refine l_nil ?_
  refine k1 ?_
  refine c_cond rfl (fun ht => ?_) (fun ht => ?_)
  · have hlt : i < l.length := by have := of_decide_eq_true ht; omega
    have hv : l[i]? = some l[i] := by simp [hlt]
    have hle2 := flatten_take_le l (i + 1)
    have hst := flatten_take_succ l i hlt
    rw [hst, List.length_append] at hle2
    rw [List.drop_eq_getElem_cons hlt, nearGo] at hp
    refine k5 ?_; refine k1 ?_; refine k2 ?_; refine k3 ?_; refine k2 ?_; refine k2 ?_
    refine c_region ?_; refine l_neu (n_move rfl rfl) rfl ?_; refine l_neu (n_move rfl rfl) rfl ?_; refine l_neu (n_move rfl rfl) rfl ?_; refine l_neu (n_add rfl rfl (by omega)) rfl ?_; refine l_call (at_ok raw _ (by omega) (by omega)) rfl rfl rfl ?_; rintro _ rfl; refine l_neu (n_rem rfl rfl (by omega)) rfl ?_; refine l_nil ?_
    refine k1 ?_; refine k3 ?_; refine k2 ?_
    refine c_region ?_; refine l_neu (n_eql rfl rfl) rfl ?_; refine l_neu (n_assign rfl rfl) rfl ?_; refine l_nil ?_
    refine k1 ?_
    refine c_cond rfl (fun ht => ?_) (fun ht => ?_)
    · rw [if_pos (of_decide_eq_true ht)] at hp
      refine k6 ?_; refine k9 rfl ?_; refine k7 ?_; refine k8 rfl ?_; refine k1 ?_
      refine c_region ?_; refine l_neu (n_move rfl rfl) rfl ?_; refine l_neu (n_add rfl rfl (by omega)) rfl ?_; refine l_neu (n_assign rfl rfl) rfl ?_; refine l_nil ?_
      refine k1 ?_
      exact ⟨(i + 1, s), ⟨by dsimp only; omega, by dsimp only; rw [hst, List.length_append]; omega, hp⟩, by dsimp only; omega, Sees.of ⟨le1 rfl, le1 rfl, le1 rfl, le1 rfl, le1 rfl, trivial⟩ trivial⟩
    · rw [if_neg (of_decide_eq_false ht)] at hp
      refine k2 ?_
      refine c_region ?_; refine l_neu (n_eql rfl rfl) rfl ?_; refine l_neu (n_assign rfl rfl) rfl ?_; refine l_nil ?_
      refine k1 ?_
      refine c_cond rfl (fun ht => ?_) (fun ht => ?_)
      · rw [if_pos (of_decide_eq_true ht)] at hp
        have h4 := lineOf_len (atOf raw (from' + 40 + (i : Int)))
        skip
        refine c_region ?_; refine l_neu (n_move rfl rfl) rfl ?_; refine l_neu (n_move rfl rfl) rfl ?_; refine l_neu (n_move rfl rfl) rfl ?_; refine l_neu (n_add rfl rfl (by omega)) rfl ?_; refine l_neu (n_move rfl rfl) rfl ?_; refine l_neu (n_add rfl rfl (by omega)) rfl ?_; refine l_call (at_ok raw _ (by omega) (by omega)) rfl rfl rfl ?_; rintro _ rfl; refine l_call (gline_ok _) rfl rfl rfl ?_; rintro _ rfl; refine l_neu (n_add_s rfl rfl (by omega)) rfl ?_; refine l_neu (n_add_s rfl rfl (by (simp only [List.length_append, List.length_cons, List.length_nil]; omega))) rfl ?_; refine l_neu (n_assign rfl rfl) rfl ?_; refine l_nil ?_
        refine k4 ?_; refine k1 ?_
        refine c_region ?_; refine l_neu (n_move rfl rfl) rfl ?_; refine l_neu (n_move rfl rfl) rfl ?_; refine l_neu (n_move rfl rfl) rfl ?_; refine l_neu (n_indexAddr rfl (.pure _ _ _ _) rfl (by omega) hv) rfl ?_; refine l_neu (n_load_eref rfl rfl) rfl ?_; refine l_neu (n_add_s rfl rfl (by (simp only [List.length_append, List.length_cons, List.length_nil]; omega))) rfl ?_; refine l_neu (n_assign rfl rfl) rfl ?_; refine l_nil ?_
        refine k4 ?_; refine k1 ?_
        refine c_region ?_; refine l_neu (n_move rfl rfl) rfl ?_; refine l_neu (n_add rfl rfl (by omega)) rfl ?_; refine l_neu (n_assign rfl rfl) rfl ?_; refine l_nil ?_
        refine k1 ?_
        exact ⟨(i + 1, s ++ lineOf (atOf raw (from' + 40 + (i : Int))) ++ [10] ++ l[i]), ⟨by dsimp only; omega, by dsimp only; rw [hst]; simp only [List.length_append, List.length_cons, List.length_nil]; omega, hp⟩, by dsimp only; omega, Sees.of ⟨le1 rfl, le1 rfl, le1 rfl, le1 rfl, le1 rfl, trivial⟩ trivial⟩
      · rw [if_neg (of_decide_eq_false ht)] at hp
        refine k5 ?_; refine k4 ?_; refine k1 ?_
        refine c_region ?_; refine l_neu (n_move rfl rfl) rfl ?_; refine l_neu (n_move rfl rfl) rfl ?_; refine l_neu (n_move rfl rfl) rfl ?_; refine l_neu (n_indexAddr rfl (.pure _ _ _ _) rfl (by omega) hv) rfl ?_; refine l_neu (n_load_eref rfl rfl) rfl ?_; refine l_neu (n_add_s rfl rfl (by omega)) rfl ?_; refine l_neu (n_assign rfl rfl) rfl ?_; refine l_nil ?_
        refine k4 ?_; refine k1 ?_
        refine c_region ?_; refine l_neu (n_move rfl rfl) rfl ?_; refine l_neu (n_add rfl rfl (by omega)) rfl ?_; refine l_neu (n_assign rfl rfl) rfl ?_; refine l_nil ?_
        refine k1 ?_
        exact ⟨(i + 1, s ++ l[i]), ⟨by dsimp only; omega, by dsimp only; rw [hst, List.length_append, List.length_append]; omega, hp⟩, by dsimp only; omega, Sees.of ⟨le1 rfl, le1 rfl, le1 rfl, le1 rfl, le1 rfl, trivial⟩ trivial⟩
  · have hi' : i = l.length := by have := of_decide_eq_false ht; omega
    rw [hi', List.drop_eq_nil_of_le (Nat.le_refl _)] at hp
    refine k6 ?_; refine k2 ?_
    refine c_region ?_; refine l_neu (n_move rfl rfl) rfl ?_; refine l_neu (n_assign rfl rfl) rfl ?_; refine l_nil ?_
    refine k1 ?_; refine k10 ?_
    exact ret_ret (ret1 rfl rfl rfl) (by rw [hno, ← hp]; rfl)
end Go.Proofs.YtjjidificdmnmaaDoor
namespace Go.Proofs.YtjjidificdmnmaaDoor
open Go Go.AL
set_option maxRecDepth 100000
end Go.Proofs.YtjjidificdmnmaaDoor
namespace Go.Proofs.YtjjidificdmnmaaDoor
open Go Go.AL
set_option maxRecDepth 100000
theorem str_size' (s : Str) : (ByteArray.mk s.toArray).size = s.length := by simp [ByteArray.size]
theorem hasSuffix_ok (s p : Str) (hs : s.length ≤ 1099511627776) : FnOk Tryd.prog 72 [pStr s, pStr p] (fun rs => rs = [pBool (Lib.hasSuffix s p)]) :=
  FnOk.ofPlain (xs := [.string ⟨s.toArray⟩, .string ⟨p.toArray⟩]) ⟨_, rfl, rfl, rfl⟩ rfl fun w => by simpa using Tryd.strings_HasSuffix ⟨s.toArray⟩ ⟨p.toArray⟩ w (by rw [str_size']; omega)
theorem trimSuffix_ok (s p : Str) (hs : s.length ≤ 1099511627776) : FnOk Tryd.prog 80 [pStr s, pStr p] (fun rs => rs = [pStr (Lib.trimSuffix s p)]) :=
  FnOk.ofPlain (xs := [.string ⟨s.toArray⟩, .string ⟨p.toArray⟩]) ⟨_, rfl, rfl, rfl⟩ rfl fun w => by simpa using Tryd.strings_TrimSuffix ⟨s.toArray⟩ ⟨p.toArray⟩ w (by rw [str_size']; omega)
theorem contains1_ok (s : Str) (c : UInt8) : FnOk Tryd.prog 110 [pStr s, pStr [c]] (fun rs => rs = [pBool (decide (0 ≤ Lib.indexByte s c))]) :=
  FnOk.ofPlain (xs := [.string ⟨s.toArray⟩, .string ⟨#[c]⟩]) ⟨_, rfl, rfl, rfl⟩ rfl fun w => by simpa using Tryd.strings_Contains_one ⟨s.toArray⟩ c w
theorem tended_ok (s : Str) (hs : s.length ≤ 1099511627776) : FnOk Tryd.prog 46 [pStr s] (fun rs => rs = [pBool (ended s)]) := by
  refine FnOk.intro Tryd.func46 (by decide) rfl rfl rfl rfl ?_
  refine k2 ?_
  refine c_region ?_; refine l_neu (n_assign rfl rfl) rfl ?_; refine l_nil ?_
  refine k1 ?_; refine k2 ?_
  refine c_region ?_; refine l_neu (n_move rfl rfl) rfl ?_; refine l_call (hasSuffix_ok s [10] hs) rfl rfl rfl ?_; rintro _ rfl; refine l_neu (n_assign rfl rfl) rfl ?_; refine l_nil ?_
  rw [hasSuffix_lf]
  refine k1 ?_; refine k10 ?_
  exact ret_ret (ret1 rfl rfl rfl) rfl
theorem tbare_ok (s : Str) (hs : s.length ≤ 1099511627776) : FnOk Tryd.prog 111 [pStr s] (fun rs => rs = [pStr (bareOf s)]) := by
  refine FnOk.intro Tryd.func111 (by decide) rfl rfl rfl rfl ?_
  refine k2 ?_
  refine c_region ?_; refine l_neu (n_assign rfl rfl) rfl ?_; refine l_nil ?_
  refine k1 ?_; refine k2 ?_
  refine c_region ?_; refine l_neu (n_move rfl rfl) rfl ?_; refine l_call (trimSuffix_ok s [10] hs) rfl rfl rfl ?_; rintro _ rfl; refine l_neu (n_assign rfl rfl) rfl ?_; refine l_nil ?_
  rw [trimSuffix_lf]
  refine k1 ?_; refine k10 ?_
  exact ret_ret (ret1 rfl rfl rfl) rfl
end Go.Proofs.YtjjidificdmnmaaDoor
namespace Go.Proofs.YtjjidificdmnmaaDoor
open Go Go.AL
set_option maxRecDepth 100000
def isBld (ob : Obs) (xs : Str) : Prop := (∃ a, (a = .p (.v (.pointer none)) ∨ a = .ref 700 0) ∧ getO ob 700 = some (.tbx 114 [a, .buf 701 UInt8 1 u8C xs])) ∧ getO ob 701 = some (.spare xs.length 1 5)
abbrev bldObs (ob : Obs) (ys xs : Str) : Obs := (700, .tbx 114 [.ref 700 0, .buf 701 UInt8 1 u8C xs]) :: (701, .spare xs.length 1 5) :: Obs.forget 701 ((700, .tbx 114 [.ref 700 0, .buf 701 UInt8 1 u8C ys]) :: ob)
def ccRen : Go.Shelf.Ren := ⟨fun | 240 => 83 | 276 => 100 | n => n, fun | 72 => 114 | 70 => 111 | 164 => 168 | 37 => 112 | n => n, fun n => n⟩
theorem ccLays : Go.Proofs.Lays.n240 Tryd.prog ccRen := {
  mixed := by kernel_rfl
  f240 := Tryd.func83.trans (congrArg some (by kernel_rfl))
  f276 := Tryd.func100.trans (congrArg some (by kernel_rfl))
  t0 := Tryd.underlying0
  a0 := Tryd.isAgg0
  z0 := Tryd.sizeOf0
  v0 := Tryd.zeroValue0
  t4 := Tryd.underlying4
  a4 := Tryd.isAgg4
  z4 := Tryd.sizeOf4
  v4 := Tryd.zeroValue4
  t9 := Tryd.underlying9
  a9 := Tryd.isAgg9
  z9 := Tryd.sizeOf9
  v9 := Tryd.zeroValue9
  t20 := Tryd.underlying20
  a20 := Tryd.isAgg20
  z20 := Tryd.sizeOf20
  v20 := Tryd.zeroValue20
  t70 := Tryd.underlying111
  a70 := Tryd.isAgg111
  z70 := Tryd.sizeOf111
  v70 := Tryd.zeroValue111
  t72 := Tryd.underlying114
  a72 := Tryd.isAgg114
  z72 := Tryd.sizeOf114
  v72 := Tryd.zeroValue114
  t164 := Tryd.underlying168
  a164 := Tryd.isAgg168
  z164 := Tryd.sizeOf168
  v164 := Tryd.zeroValue168 }
theorem ccX : Builder.X72 Tryd.prog ccRen := {
  sizeBuilder := by kernel_rfl
  liesBuilder := by kernel_rfl }
theorem copyCheck_met {gf : Fr} {ob : Obs} {a t : TC} (hk : getO ob 700 = some (.tbx 114 [a, t])) (ha : a = .p (.v (.pointer none)) ∨ a = .ref 700 0) :
    AL.Met Tryd.prog 83 [.one (.ref 700 0)] gf ob [] (fun rs ob' => rs = [] ∧ ob' = (700, .tbx 114 [.ref 700 0, t]) :: ob) :=
  AL.Met.copyCheck ⟨_, rfl, rfl, rfl⟩ (fun b w h1 h2 h3 => Any.Builder_copyCheck_fresh (ρ := ccRen) ccLays ccX b w h1 h2 h3) (fun b w h => Any.Builder_copyCheck_used (ρ := ccRen) ccLays ccX b w h) hk ha
theorem writeString_met {gf : Fr} {ob : Obs} {xs s : Str} (hb : isBld ob xs) (hlen : xs.length + s.length ≤ 1073741824) :
    AL.Met Tryd.prog 55 [.one (.ref 700 0), .one (.p (.v (.string ⟨s.toArray⟩)))] gf ob [701] (fun rs ob' => rs = [.one (.p (.v (.int .i64 s.length))), .one (.p (.v .nilIface))] ∧ ob' = bldObs ob xs (xs ++ s)) := by
  obtain ⟨⟨a, ha, hk⟩, hk1⟩ := hb
  refine AL.Met.intro Tryd.func55 (by decide) rfl rfl rfl ?_
  refine k2 ?_
  refine c_region ?_; refine l_neu (n_assign rfl rfl) rfl ?_; refine l_neu (n_assign rfl rfl) rfl ?_; refine l_nil ?_
  refine k1 ?_; refine k2 ?_
  refine c_region ?_; refine l_neu (n_move rfl rfl) rfl ?_; refine l_met (copyCheck_met hk ha) rfl rfl rfl ?_; rintro _ _ ⟨rfl, rfl⟩; refine l_nil ?_
  refine k1 ?_; refine k2 ?_
  refine c_region ?_; refine l_neu (n_move rfl rfl) rfl ?_; refine l_neu (n_move rfl rfl) rfl ?_; refine l_neu (n_nilCheck_ref rfl) rfl ?_; refine l_neu (n_field_ref rfl) rfl ?_; refine l_neu (n_load_tref rfl rfl rfl) rfl ?_; refine l_neu (n_move rfl rfl) rfl ?_; refine l_effv (e_append_s TyStr.out rfl hk1 rfl (by first | omega | (simp; omega)) rfl) rfl ?_; refine l_neu (n_nilCheck_ref rfl) rfl ?_; refine l_neu (n_field_ref rfl) rfl ?_; refine l_eff (e_store_tref TySz.out rfl rfl rfl rfl rfl rfl) ?_; refine l_nil ?_
  refine k1 ?_; refine k2 ?_
  refine c_region ?_; refine l_neu (n_move rfl rfl) rfl ?_; refine l_neu (n_len_s rfl) rfl ?_; refine l_neu (n_assign rfl rfl) rfl ?_; refine l_neu (n_assign rfl rfl) rfl ?_; refine l_nil ?_
  refine k1 ?_; refine k10 ?_
  exact met_ret (rets2 rfl rfl rfl) (by repeat (first | exact tail_refl | refine tail_cons rfl ?_ | refine tail_forget _ ?_)) (fun _ _ h => h) ⟨rfl, rfl⟩
theorem writeByte_met {gf : Fr} {ob : Obs} {xs : Str} {c : UInt8} (hb : isBld ob xs) (hlen : xs.length + 1 ≤ 1073741824) :
    AL.Met Tryd.prog 57 [.one (.ref 700 0), .one (.p (.v (.int .u8 c.toNat)))] gf ob [701] (fun rs ob' => rs = [.one (.p (.v .nilIface))] ∧ ob' = bldObs ob xs (xs ++ [c])) := by
  obtain ⟨⟨a, ha, hk⟩, hk1⟩ := hb
  refine AL.Met.intro Tryd.func57 (by decide) rfl rfl rfl ?_
  refine k2 ?_
  refine c_region ?_; refine l_neu (n_assign rfl rfl) rfl ?_; refine l_nil ?_
  refine k1 ?_; refine k2 ?_
  refine c_region ?_; refine l_neu (n_move rfl rfl) rfl ?_; refine l_met (copyCheck_met hk ha) rfl rfl rfl ?_; rintro _ _ ⟨rfl, rfl⟩; refine l_nil ?_
  refine k1 ?_; refine k2 ?_
  refine c_region ?_; refine l_neu (n_move rfl rfl) rfl ?_; refine l_neu (n_move rfl rfl) rfl ?_; refine l_neu (n_nilCheck_ref rfl) rfl ?_; refine l_neu (n_field_ref rfl) rfl ?_; refine l_neu (n_load_tref rfl rfl rfl) rfl ?_; refine l_neu (n_move rfl rfl) rfl ?_; refine l_neu (n_buildSlice (c := u8C) (ys := [c]) (asm_cons rfl rfl rfl rfl asm_nil) rfl rfl rfl) rfl ?_; refine l_effv (e_append rfl hk1 rfl (.pure _ _ _ _) (by (simp; omega)) rfl) rfl ?_; refine l_neu (n_nilCheck_ref rfl) rfl ?_; refine l_neu (n_field_ref rfl) rfl ?_; refine l_eff (e_store_tref TySz.out rfl rfl rfl rfl rfl rfl) ?_; refine l_nil ?_
  refine k1 ?_; refine k2 ?_
  refine c_region ?_; refine l_neu (n_assign rfl rfl) rfl ?_; refine l_nil ?_
  refine k1 ?_; refine k10 ?_
  exact met_ret (rets1 rfl rfl) (by repeat (first | exact tail_refl | refine tail_cons rfl ?_ | refine tail_forget _ ?_)) (fun _ _ h => h) ⟨rfl, rfl⟩
end Go.Proofs.YtjjidificdmnmaaDoor
namespace Go.Proofs.YtjjidificdmnmaaDoor
open Go Go.AL
set_option maxRecDepth 100000
theorem splain_ok (c : UInt8) : FnOk Tryd.prog 84 [pByte c] (fun rs => rs = [pBool (plainB c)]) := by
  refine FnOk.intro Tryd.func84 (by decide) rfl rfl rfl rfl ?_
  refine k2 ?_
  refine c_region ?_; refine l_neu (n_assign rfl rfl) rfl ?_; refine l_nil ?_
  refine k1 ?_; refine k2 ?_
  refine c_region ?_; refine l_neu (n_move rfl rfl) rfl ?_; refine l_neu (n_geq rfl rfl) rfl ?_; refine l_neu (n_move rfl rfl) rfl ?_; refine l_guard rfl rfl rfl rfl (fun hg => by rw [hg]; exact n_move rfl rfl) ?_; refine l_guard rfl rfl rfl rfl (fun hg => by rw [hg]; exact n_leq rfl rfl) ?_; refine l_neu (n_pick_bool rfl (fun h => by first | rfl | (rw [h]; rfl)) (fun h => by first | rfl | (rw [h]; rfl))) rfl ?_; refine l_neu (n_move rfl rfl) rfl ?_; refine l_guard rfl rfl rfl rfl (fun hg => by rw [hg]; exact n_move rfl rfl) ?_; refine l_guard rfl rfl rfl rfl (fun hg => by rw [hg]; exact n_neq rfl rfl) ?_; refine l_neu (n_pick_bool rfl (fun h => by first | rfl | (rw [h]; rfl)) (fun h => by first | rfl | (rw [h]; rfl))) rfl ?_; refine l_neu (n_move rfl rfl) rfl ?_; refine l_guard rfl rfl rfl rfl (fun hg => by rw [hg]; exact n_move rfl rfl) ?_; refine l_guard rfl rfl rfl rfl (fun hg => by rw [hg]; exact n_neq rfl rfl) ?_; refine l_neu (n_pick_bool rfl (fun h => by first | rfl | (rw [h]; rfl)) (fun h => by first | rfl | (rw [h]; rfl))) rfl ?_; refine l_neu (n_assign rfl rfl) rfl ?_; refine l_nil ?_
  refine k1 ?_; refine k10 ?_
  refine ret_ret (ret1 rfl rfl rfl) ?_
  simp only [and_pick]
  congr 4
  unfold plainB
  congr 1
  simp; omega
end Go.Proofs.YtjjidificdmnmaaDoor
namespace Go.Proofs.YtjjidificdmnmaaDoor
open Go Go.AL Go.RowKit
set_option maxRecDepth 100000
theorem u8dig (q : Nat) (h : q < 8) : IntKind.u8.wrap (48 + (q : Int)) = ((UInt8.ofNat (48 + q)).toNat : Int) := by
  rw [IntWalk.u8_in _ (by omega)]
  have : (UInt8.ofNat (48 + q)).toNat = 48 + q := by rw [UInt8.toNat_ofNat']; omega
  rw [this]; simp
theorem and7_u8 (x : Nat) (h : x < 256) : IntKind.u8.wrap ((BitVec.ofInt IntKind.u8.bits (x : Int) &&& BitVec.ofInt IntKind.u8.bits 7).toNat : Int) = ((x % 8 : Nat) : Int) := by
  have h1 : (BitVec.ofInt IntKind.u8.bits (x : Int) &&& BitVec.ofInt IntKind.u8.bits 7).toNat = x % 8 := by
    rw [BitVec.toNat_and, BitVec.toNat_ofInt, BitVec.toNat_ofInt]
    have e1 : ((x : Int) % ((2 ^ IntKind.u8.bits : Nat) : Int)).toNat = x := by
      rw [show ((2 ^ IntKind.u8.bits : Nat) : Int) = 256 by rfl]; omega
    have e2 : ((7 : Int) % ((2 ^ IntKind.u8.bits : Nat) : Int)).toNat = 2 ^ 3 - 1 := by rfl
    rw [e1, e2, Nat.and_two_pow_sub_one_eq_mod]
  rw [h1, IntWalk.u8_in _ (by omega)]
theorem shr_u8 (x : Nat) (c : Nat) (h : c ≤ 8) : (x : Int).fdiv (2 ^ min (Int.toNat (c : Int)) IntKind.u8.bits) = ((x / 2 ^ c : Nat) : Int) := by
  rw [shr_eq _ _ IntKind.u8.bits ⟨by omega, by show (c : Int) ≤ 8; omega⟩]
  simp
theorem escaped_ok (c : UInt8) : FnOk Tryd.prog 85 [pByte c] (fun rs => rs = [pStr (escOf c)]) := by
  have hc := c.toNat_lt
  refine FnOk.intro Tryd.func85 (by decide) rfl rfl rfl rfl ?_
  refine k2 ?_
  refine c_region ?_; refine l_neu (n_assign rfl rfl) rfl ?_; refine l_nil ?_
  refine k1 ?_; refine k2 ?_; refine k3 ?_; refine k2 ?_
  refine c_region ?_; refine l_neu (n_move rfl rfl) rfl ?_; refine l_neu (n_eql rfl rfl) rfl ?_; refine l_neu (n_move rfl rfl) rfl ?_; refine l_guard rfl rfl rfl rfl (fun hg => by rw [hg]; exact n_move rfl rfl) ?_; refine l_guard rfl rfl rfl rfl (fun hg => by rw [hg]; exact n_eql rfl rfl) ?_; refine l_neu (n_pick_bool rfl (fun h => by first | rfl | (rw [h]; rfl)) (fun h => by first | rfl | (rw [h]; rfl))) rfl ?_; refine l_neu (n_assign rfl rfl) rfl ?_; refine l_nil ?_
  refine k1 ?_
  refine c_cond rfl (fun ht => ?_) (fun ht => ?_)
  · have h := of_decide_eq_true (or_pick.symm.trans ht)
    refine k2 ?_
    refine c_region ?_; refine l_neu (n_move rfl rfl) rfl ?_; refine l_neu (n_byte_string rfl (by omega)) rfl ?_; refine l_neu (n_add_s rfl rfl (by simp)) rfl ?_; refine l_neu (n_assign rfl rfl) rfl ?_; refine l_nil ?_
    refine k1 ?_; refine k10 ?_; refine k12 ?_; refine k11 ?_
    exact ret_ret (ret1 rfl rfl rfl) (by rw [escOf, if_pos (by omega)]; rfl)
  · have h := of_decide_eq_false (or_pick.symm.trans ht)
    refine k2 ?_
    refine c_region ?_; refine l_neu (n_move rfl rfl) rfl ?_; refine l_neu (n_eql rfl rfl) rfl ?_; refine l_neu (n_assign rfl rfl) rfl ?_; refine l_nil ?_
    refine k1 ?_
    refine c_cond rfl (fun ht => ?_) (fun ht => ?_)
    · have h1 := of_decide_eq_true ht
      refine k2 ?_
      refine c_region ?_; refine l_neu (n_assign rfl rfl) rfl ?_; refine l_nil ?_
      refine k1 ?_; refine k10 ?_; refine k12 ?_; refine k11 ?_
      exact ret_ret (ret1 rfl rfl rfl) (by rw [escOf, if_neg (by omega), if_pos (by omega)])
    · have h1 := of_decide_eq_false ht
      refine k2 ?_
      refine c_region ?_; refine l_neu (n_move rfl rfl) rfl ?_; refine l_neu (n_eql rfl rfl) rfl ?_; refine l_neu (n_assign rfl rfl) rfl ?_; refine l_nil ?_
      refine k1 ?_
      refine c_cond rfl (fun ht => ?_) (fun ht => ?_)
      · have h2 := of_decide_eq_true ht
        refine k2 ?_
        refine c_region ?_; refine l_neu (n_assign rfl rfl) rfl ?_; refine l_nil ?_
        refine k1 ?_; refine k10 ?_; refine k12 ?_; refine k11 ?_
        exact ret_ret (ret1 rfl rfl rfl) (by rw [escOf, if_neg (by omega), if_neg (by omega), if_pos (by omega)])
      · have h2 := of_decide_eq_false ht
        refine k2 ?_
        refine c_region ?_; refine l_neu (n_move rfl rfl) rfl ?_; refine l_neu (n_lss rfl rfl) rfl ?_; refine l_neu (n_move rfl rfl) rfl ?_; refine l_guard rfl rfl rfl rfl (fun hg => by rw [hg]; exact n_move rfl rfl) ?_; refine l_guard rfl rfl rfl rfl (fun hg => by rw [hg]; exact n_gtr rfl rfl) ?_; refine l_neu (n_pick_bool rfl (fun h => by first | rfl | (rw [h]; rfl)) (fun h => by first | rfl | (rw [h]; rfl))) rfl ?_; refine l_neu (n_assign rfl rfl) rfl ?_; refine l_nil ?_
        refine k1 ?_
        refine c_cond rfl (fun ht => ?_) (fun ht => ?_)
        · have h3 := of_decide_eq_true (or_pick.symm.trans ht)
          refine k2 ?_
          have f6 : (c.toNat : Int).fdiv (2 ^ min (Int.toNat 6) IntKind.u8.bits) = ((c.toNat / 64 : Nat) : Int) := shr_u8 c.toNat 6 (by omega)
          have f3 : (c.toNat : Int).fdiv (2 ^ min (Int.toNat 3) IntKind.u8.bits) = ((c.toNat / 8 : Nat) : Int) := shr_u8 c.toNat 3 (by omega)
          have e1 := u8dig (c.toNat / 64) (by omega)
          have e2 := u8dig (c.toNat / 8 % 8) (by omega)
          have e3 := u8dig (c.toNat % 8) (by omega)
          have hol := octOf_bytes c
          refine c_region ?_; refine l_neu (n_move rfl rfl) rfl ?_; refine l_neu (n_shr rfl rfl (by omega)) rfl ?_; refine l_neu (n_add_w rfl rfl) rfl ?_; refine l_neu (n_move rfl rfl) rfl ?_; refine l_neu (n_shr rfl rfl (by omega)) rfl ?_; refine l_neu (n_bits rfl rfl rfl (fun _ => rfl)) rfl ?_; refine l_neu (n_add_w rfl rfl) rfl ?_; refine l_neu (n_move rfl rfl) rfl ?_; refine l_neu (n_bits rfl rfl rfl (fun _ => rfl)) rfl ?_; refine l_neu (n_add_w rfl rfl) rfl ?_; rw [f6, f3, and7_u8 (c.toNat / 8) (by omega), and7_u8 c.toNat (by omega), e1, e2, e3]; refine l_neu (n_buildSlice (c := u8C) (ys := [UInt8.ofNat (48 + c.toNat / 64), UInt8.ofNat (48 + c.toNat / 8 % 8), UInt8.ofNat (48 + c.toNat % 8)]) (asm_cons rfl rfl rfl rfl (asm_cons rfl rfl rfl rfl (asm_cons rfl rfl rfl rfl asm_nil))) rfl rfl rfl) rfl ?_; refine l_neu (n_bytes_string TyStr.out rfl (.pure _ _ _ _)) rfl ?_; refine l_neu (n_add_s rfl rfl (by simp)) rfl ?_; refine l_neu (n_assign rfl rfl) rfl ?_; refine l_nil ?_
          refine k1 ?_; refine k10 ?_; refine k12 ?_; refine k11 ?_
          exact ret_ret (ret1 rfl rfl rfl) (by rw [escOf, if_neg (by omega), if_neg (by omega), if_neg (by omega), if_pos (by omega), hol]; rfl)
        · have h3 := of_decide_eq_false (or_pick.symm.trans ht)
          refine k5 ?_; refine k2 ?_
          refine c_region ?_; refine l_neu (n_move rfl rfl) rfl ?_; refine l_neu (n_byte_string rfl (by omega)) rfl ?_; refine l_neu (n_assign rfl rfl) rfl ?_; refine l_nil ?_
          refine k1 ?_; refine k10 ?_
          exact ret_ret (ret1 rfl rfl rfl) (by rw [escOf, if_neg (by omega), if_neg (by omega), if_neg (by omega), if_neg (by omega)])
theorem itoa_ok (n : Int) (h : 0 ≤ n ∧ n ≤ 2147483647) : FnOk Tryd.prog 102 [pInt n] (fun rs => rs = [pStr (Lib.itoa n)]) :=
  FnOk.ofPlainG (xs := [.int .i64 n]) (r := .string ⟨(Lib.itoa n).toArray⟩) ⟨_, rfl, rfl, rfl⟩ rfl fun w hw =>
    (Tryd.strconv_Itoa n (by omega) (by omega) w (hw.pow10 rfl)).mono fun e w' ⟨he, k, os, hw'⟩ => ⟨he, by subst hw'; exact Lib.below_grow _ _ (Nat.le_refl _) _ _⟩
theorem sformat_ok (n : Int) : FnOk Tryd.prog 90 [pInt n] (fun rs => rs = [pStr (fmtOf n)]) := by
  refine FnOk.intro Tryd.func90 (by decide) rfl rfl rfl rfl ?_
  refine k2 ?_
  refine c_region ?_; refine l_neu (n_assign rfl rfl) rfl ?_; refine l_nil ?_
  refine k1 ?_; refine k2 ?_; refine k2 ?_
  refine c_region ?_; refine l_neu (n_move rfl rfl) rfl ?_; refine l_neu (n_lss rfl rfl) rfl ?_; refine l_neu (n_move rfl rfl) rfl ?_; refine l_guard rfl rfl rfl rfl (fun hg => by rw [hg]; exact n_move rfl rfl) ?_; refine l_guard rfl rfl rfl rfl (fun hg => by rw [hg]; exact n_gtr rfl rfl) ?_; refine l_neu (n_pick_bool rfl (fun h => by first | rfl | (rw [h]; rfl)) (fun h => by first | rfl | (rw [h]; rfl))) rfl ?_; refine l_nil ?_
  refine k1 ?_
  refine c_cond rfl (fun ht => ?_) (fun ht => ?_)
  · have h := of_decide_eq_true (or_pick.symm.trans ht)
    refine k2 ?_
    refine c_region ?_; refine l_neu (n_assign rfl rfl) rfl ?_; refine l_nil ?_
    refine k1 ?_; refine k10 ?_; refine k11 ?_
    exact ret_ret (ret1 rfl rfl rfl) (by rw [fmtOf, if_pos (by omega)])
  · have h := of_decide_eq_false (or_pick.symm.trans ht)
    refine k5 ?_; refine k1 ?_; refine k2 ?_
    refine c_region ?_; refine l_neu (n_move rfl rfl) rfl ?_; refine l_call (itoa_ok n (by omega)) rfl rfl rfl ?_; rintro _ rfl; refine l_neu (n_assign rfl rfl) rfl ?_; refine l_nil ?_
    refine k1 ?_; refine k10 ?_
    exact ret_ret (ret1 rfl rfl rfl) (by rw [fmtOf, if_neg (by omega)])
theorem srange_ok (a n : Int) (ha : -4611686018427387904 ≤ a ∧ a ≤ 4611686018427387904) (hn : -4611686018427387904 ≤ n ∧ n ≤ 4611686018427387904) : FnOk Tryd.prog 71 [pInt a, pInt n] (fun rs => rs = [pStr (rangeOf a n)]) := by
  refine FnOk.intro Tryd.func71 (by decide) rfl rfl rfl rfl ?_
  refine k2 ?_
  refine c_region ?_; refine l_neu (n_assign rfl rfl) rfl ?_; refine l_nil ?_
  refine k1 ?_; refine k2 ?_; refine k2 ?_
  refine c_region ?_; refine l_neu (n_move rfl rfl) rfl ?_; refine l_neu (n_lss rfl rfl) rfl ?_; refine l_neu (n_move rfl rfl) rfl ?_; refine l_guard rfl rfl rfl rfl (fun hg => by rw [hg]; exact n_move rfl rfl) ?_; refine l_guard rfl rfl rfl rfl (fun hg => by rw [hg]; exact n_lss rfl rfl) ?_; refine l_neu (n_pick_bool rfl (fun h => by first | rfl | (rw [h]; rfl)) (fun h => by first | rfl | (rw [h]; rfl))) rfl ?_; refine l_neu (n_move rfl rfl) rfl ?_; refine l_guard rfl rfl rfl rfl (fun hg => by rw [hg]; exact n_move rfl rfl) ?_; refine l_guard rfl rfl rfl rfl (fun hg => by rw [hg]; exact n_gtr rfl rfl) ?_; refine l_neu (n_pick_bool rfl (fun h => by first | rfl | (rw [h]; rfl)) (fun h => by first | rfl | (rw [h]; rfl))) rfl ?_; refine l_neu (n_move rfl rfl) rfl ?_; refine l_guard rfl rfl rfl rfl (fun hg => by rw [hg]; exact n_move rfl rfl) ?_; refine l_guard rfl rfl rfl rfl (fun hg => by rw [hg]; exact n_move rfl rfl) ?_; refine l_guard rfl rfl rfl rfl (fun hg => by rw [hg]; exact n_sub rfl rfl (by (first | omega | (simp at hq; omega)))) ?_; refine l_guard rfl rfl rfl rfl (fun hg => by rw [hg]; exact n_gtr rfl rfl) ?_; refine l_neu (n_pick_bool rfl (fun h => by first | rfl | (rw [h]; rfl)) (fun h => by first | rfl | (rw [h]; rfl))) rfl ?_; refine l_nil ?_
  refine k1 ?_
  have l1 := fmtOf_len a
  have l2 := fmtOf_len (a + 1)
  have l3 := fmtOf_len n
  refine c_cond rfl (fun ht => ?_) (fun ht => ?_)
  · have h := of_decide_eq_true ((by simp only [or_pick] at ht; exact ht) : decide _ = true)
    refine k2 ?_
    refine c_region ?_; refine l_neu (n_assign rfl rfl) rfl ?_; refine l_nil ?_
    refine k1 ?_; refine k10 ?_; refine k11 ?_
    exact ret_ret (ret1 rfl rfl rfl) (by rw [rangeOf, if_pos (by omega)])
  · have h := of_decide_eq_false ((by simp only [or_pick] at ht; exact ht) : decide _ = false)
    refine k5 ?_; refine k1 ?_; refine k2 ?_; refine k2 ?_
    refine c_region ?_; refine l_neu (n_move rfl rfl) rfl ?_; refine l_nil ?_
    refine k1 ?_; refine k3 ?_; refine k2 ?_
    refine c_region ?_; refine l_neu (n_eql rfl rfl) rfl ?_; refine l_neu (n_assign rfl rfl) rfl ?_; refine l_nil ?_
    refine k1 ?_
    refine c_cond rfl (fun ht => ?_) (fun ht => ?_)
    · have h0 := of_decide_eq_true ht
      refine k2 ?_
      refine c_region ?_; refine l_neu (n_move rfl rfl) rfl ?_; refine l_call (sformat_ok a) rfl rfl rfl ?_; rintro _ rfl; refine l_neu (n_add_s rfl rfl (by simp; omega)) rfl ?_; refine l_neu (n_assign rfl rfl) rfl ?_; refine l_nil ?_
      refine k1 ?_; refine k10 ?_; refine k12 ?_; refine k11 ?_
      exact ret_ret (ret1 rfl rfl rfl) (by rw [rangeOf, if_neg (by omega), if_pos h0])
    · have h0 := of_decide_eq_false ht
      refine k2 ?_
      refine c_region ?_; refine l_neu (n_eql rfl rfl) rfl ?_; refine l_neu (n_assign rfl rfl) rfl ?_; refine l_nil ?_
      refine k1 ?_
      refine c_cond rfl (fun ht => ?_) (fun ht => ?_)
      · have h1 := of_decide_eq_true ht
        refine k2 ?_
        refine c_region ?_; refine l_neu (n_move rfl rfl) rfl ?_; refine l_neu (n_add rfl rfl (by omega)) rfl ?_; refine l_call (sformat_ok (a + 1)) rfl rfl rfl ?_; rintro _ rfl; refine l_neu (n_assign rfl rfl) rfl ?_; refine l_nil ?_
        refine k1 ?_; refine k10 ?_; refine k12 ?_; refine k11 ?_
        exact ret_ret (ret1 rfl rfl rfl) (by rw [rangeOf, if_neg (by omega), if_neg h0, if_pos h1])
      · have h1 := of_decide_eq_false ht
        refine k5 ?_; refine k2 ?_
        refine c_region ?_; refine l_neu (n_move rfl rfl) rfl ?_; refine l_neu (n_add rfl rfl (by omega)) rfl ?_; refine l_call (sformat_ok (a + 1)) rfl rfl rfl ?_; rintro _ rfl; refine l_neu (n_add_s rfl rfl (by simp; omega)) rfl ?_; refine l_neu (n_move rfl rfl) rfl ?_; refine l_call (sformat_ok n) rfl rfl rfl ?_; rintro _ rfl; refine l_neu (n_add_s rfl rfl (by simp; omega)) rfl ?_; refine l_neu (n_assign rfl rfl) rfl ?_; refine l_nil ?_
        refine k1 ?_; refine k10 ?_
        exact ret_ret (ret1 rfl rfl rfl) (by rw [rangeOf, if_neg (by omega), if_neg h0, if_neg h1])
theorem bstring_calls (B b : Nat) (l : List UInt8) (w : World) (h : Lib.IsBuilder 114 5 B b (Lib.byteCells l) w) (hBw : B ≤ w.heap.size) :
    Calls Tryd.prog 58 #[.pointer (some ⟨b, 0, none⟩)] w fun e w' => e = .returned (.string ⟨l.toArray⟩) ∧ Below B w w' := Tryd.Builder_String_any B b l w h hBw
theorem squote_ok (s : Str) (hs : s.length ≤ 16777216) : FnOk Tryd.prog 56 [pStr s] (fun rs => rs = [pStr (quoteOf s)]) := by
  refine FnOk.intro Tryd.func56 (by decide) rfl rfl rfl rfl ?_
  refine k2 ?_
  refine c_region ?_; refine l_neu (n_assign rfl rfl) rfl ?_; refine l_nil ?_
  refine k1 ?_; refine k2 ?_
  refine c_region ?_; refine l_neu (n_move rfl rfl) rfl ?_; refine l_neu (n_neq_s rfl rfl) rfl ?_; refine l_neu (n_assign rfl rfl) rfl ?_; refine l_nil ?_
  refine k1 ?_; refine k2 ?_; refine k2 ?_
  refine c_region ?_; refine l_neu (n_move rfl rfl) rfl ?_; refine l_neu (n_len_s rfl) rfl ?_; refine l_neu (n_move rfl rfl) rfl ?_; refine l_nil ?_
  refine k1 ?_; refine k3 ?_
  refine c_while (X := Nat) (fun i => ([(0, sStr s), (3, sVal (.bool (plains s i))), (10, sInt s.length), (11, sInt i)], [])) (fun i => i ≤ s.length) (fun i => s.length - i) 0 (Nat.zero_le _) ?_ ?_
  · rw [plains_zero]
    exact Sees.of ⟨le1 rfl, le1 rfl, le1 rfl, le1 rfl, trivial⟩ trivial
  intro i hi
  dsimp only at hi ⊢
  refine k2 ?_
  refine c_region ?_; refine l_neu (n_lss rfl rfl) rfl ?_; refine l_nil ?_
  refine k1 ?_; refine k2 ?_
  refine c_cond rfl (fun ht => ?_) (fun ht => ?_)
  · have hlt : i < s.length := by have := of_decide_eq_true ht; omega
    have hv : s[i]? = some s[i] := by simp [hlt]
    obtain ⟨c, hc⟩ : ∃ c, c = s[i] := ⟨_, rfl⟩
    have h2 := plains_succ s i hlt
    rw [← hc] at hv h2
    refine k5 ?_; refine k1 ?_; refine k2 ?_; refine k3 ?_; refine k2 ?_
    refine c_region ?_; refine l_neu (n_move rfl rfl) rfl ?_; refine l_neu (n_assign rfl rfl) rfl ?_; refine l_nil ?_
    refine k1 ?_
    refine c_region ?_; refine l_neu (n_move rfl rfl) rfl ?_; refine l_neu (n_move rfl rfl) rfl ?_; refine l_guard rfl rfl rfl rfl (fun hg => by rw [hg]; exact n_move rfl rfl) ?_; refine l_guard rfl rfl rfl rfl (fun hg => by rw [hg]; exact n_move rfl rfl) ?_; refine l_guard rfl rfl rfl rfl (fun hg => by have hq := hg; (try simp at hq); rw [hg]; exact n_index_s rfl rfl (by omega) hv) ?_; refine l_guard rfl rfl rfl rfl (fun hg => by have hq := hg; (try simp at hq); rw [hg]; exact n_call1 (splain_ok c) rfl rfl) ?_; refine l_neu (n_pick_bool rfl (fun h => by first | rfl | (rw [h]; rfl)) (fun h => by first | rfl | (rw [h]; rfl))) rfl ?_; refine l_neu (n_assign rfl rfl) rfl ?_; refine l_nil ?_
    refine k4 ?_; refine k1 ?_
    refine c_region ?_; refine l_neu (n_add rfl rfl (by omega)) rfl ?_; refine l_neu (n_move rfl rfl) rfl ?_; refine l_nil ?_
    refine k1 ?_
    refine ⟨i + 1, hlt, by omega, ?_⟩
    rw [show (if plains s i = true then plainB c else false) = plains s (i + 1) from by rw [h2]; cases plains s i <;> rfl]
    exact Sees.of ⟨le1 rfl, le1 rfl, le1 rfl, le1 rfl, trivial⟩ trivial
  have hi' : i = s.length := by have := of_decide_eq_false ht; omega
  subst hi'
  refine k6 ?_; refine k2 ?_; refine k2 ?_
  refine c_region ?_; refine l_neu (n_move rfl rfl) rfl ?_; refine l_nil ?_
  refine k1 ?_
  refine c_cond rfl (fun ht => ?_) (fun ht => ?_)
  · have h : plains s s.length = true := ht
    refine k2 ?_
    refine c_region ?_; refine l_neu (n_move rfl rfl) rfl ?_; refine l_neu (n_assign rfl rfl) rfl ?_; refine l_nil ?_
    refine k1 ?_; refine k10 ?_; refine k11 ?_
    exact ret_ret (ret1 rfl rfl rfl) (by rw [quoteOf_eq, if_pos h])
  have h : plains s s.length = false := ht
  have hq : quoteOf s = (34 :: escs s s.length) ++ [34] := by rw [quoteOf_eq, h]; rfl
  refine k5 ?_; refine k1 ?_; refine k2 ?_
  refine c_region ?_; refine l_effv (f_allocT 700 rfl) rfl ?_; refine l_nil ?_
  refine k1 ?_; refine k2 ?_
  refine c_sees (Sees.adoptT 701 UInt8 1 u8C 5 (kb := 700) (o := 1) rfl rfl rfl) ?_
  refine c_region ?_; refine l_met (writeByte_met (xs := []) (c := 34) ⟨⟨_, .inl rfl, rfl⟩, rfl⟩ (by simp)) rfl rfl rfl ?_; rintro _ _ ⟨rfl, rfl⟩; refine l_nil ?_
  refine k1 ?_; refine k2 ?_; refine k2 ?_
  refine c_region ?_; refine l_neu (n_move rfl rfl) rfl ?_; refine l_neu (n_len_s rfl) rfl ?_; refine l_neu (n_move rfl rfl) rfl ?_; refine l_nil ?_
  refine k1 ?_; refine k3 ?_
  refine c_while (X := Nat) (fun i => ([(0, sStr s), (5, .s (.one (.ref 700 0))), (26, sInt s.length), (27, sInt i)], [(700, .tbx 114 [.ref 700 0, .buf 701 UInt8 1 u8C (34 :: escs s i)]), (701, .spare (34 :: escs s i).length 1 5)])) (fun i => i ≤ s.length) (fun i => s.length - i) 0 (Nat.zero_le _) (Sees.of ⟨le1 rfl, le1 rfl, le1 rfl, le1 rfl, trivial⟩ ⟨rfl, rfl, trivial⟩) ?_
  intro i hi
  dsimp only at hi ⊢
  have hel := escs_len s i hi
  refine k2 ?_
  refine c_region ?_; refine l_neu (n_lss rfl rfl) rfl ?_; refine l_nil ?_
  refine k1 ?_; refine k2 ?_
  refine c_cond rfl (fun ht => ?_) (fun ht => ?_)
  · have hlt : i < s.length := by have := of_decide_eq_true ht; omega
    have hv : s[i]? = some s[i] := by simp [hlt]
    obtain ⟨c, hc⟩ : ∃ c, c = s[i] := ⟨_, rfl⟩
    have h1 := escs_succ s i hlt
    have h2 := escOf_len c
    rw [← hc] at hv h1
    refine k5 ?_; refine k1 ?_; refine k2 ?_; refine k3 ?_; refine k2 ?_
    refine c_region ?_; refine l_neu (n_move rfl rfl) rfl ?_; refine l_neu (n_assign rfl rfl) rfl ?_; refine l_nil ?_
    refine k1 ?_
    refine c_region ?_; refine l_neu (n_move rfl rfl) rfl ?_; refine l_neu (n_move rfl rfl) rfl ?_; refine l_neu (n_index_s rfl rfl (by omega) hv) rfl ?_; refine l_call (escaped_ok c) rfl rfl rfl ?_; rintro _ rfl; refine l_met (writeString_met (xs := 34 :: escs s i) (s := escOf c) ⟨⟨_, .inr rfl, rfl⟩, rfl⟩ (by simp only [List.length_cons]; omega)) rfl rfl rfl ?_; rintro _ _ ⟨rfl, rfl⟩; refine l_nil ?_
    refine k4 ?_; refine k1 ?_
    refine c_region ?_; refine l_neu (n_add rfl rfl (by omega)) rfl ?_; refine l_neu (n_move rfl rfl) rfl ?_; refine l_nil ?_
    refine k1 ?_
    refine ⟨i + 1, hlt, by omega, ?_⟩
    rw [h1]
    exact Sees.of ⟨le1 rfl, le1 rfl, le1 rfl, le1 rfl, trivial⟩ ⟨rfl, rfl, trivial⟩
  have hi' : i = s.length := by have := of_decide_eq_false ht; omega
  subst hi'
  refine k6 ?_; refine k2 ?_
  refine c_region ?_; refine l_met (writeByte_met (xs := 34 :: escs s s.length) (c := 34) ⟨⟨_, .inr rfl, rfl⟩, rfl⟩ (by simp only [List.length_cons]; omega)) rfl rfl rfl ?_; rintro _ _ ⟨rfl, rfl⟩; refine l_nil ?_
  refine k1 ?_; refine k2 ?_
  refine c_region ?_; refine l_bstring (k := 700) (k' := 701) ⟨_, rfl, rfl, rfl⟩ bstring_calls rfl rfl rfl rfl rfl (.inr rfl) rfl ?_; refine l_neu (n_assign rfl rfl) rfl ?_; refine l_nil ?_
  refine k1 ?_; refine k10 ?_
  exact ret_ret (ret1 rfl rfl rfl) (by rw [hq])
end Go.Proofs.YtjjidificdmnmaaDoor
namespace Go.Proofs.YtjjidificdmnmaaDoor
open Go Go.AL
set_option maxRecDepth 100000
theorem count1_ok (s : Str) (c : UInt8) : FnOk Tryd.prog 59 [pStr s, pStr [c]] (fun rs => rs = [pInt (s.count c)]) :=
  FnOk.ofPlain (xs := [.string ⟨s.toArray⟩, .string ⟨#[c]⟩]) ⟨_, rfl, rfl, rfl⟩ rfl fun w => by simpa [Lib.countByte] using Tryd.strings_Count_one ⟨s.toArray⟩ c w
theorem index1_ok (s : Str) (c : UInt8) : FnOk Tryd.prog 75 [pStr s, pStr [c]] (fun rs => rs = [pInt (Lib.indexByte s c)]) :=
  FnOk.ofPlain (xs := [.string ⟨s.toArray⟩, .string ⟨#[c]⟩]) ⟨_, rfl, rfl, rfl⟩ rfl fun w => by simpa using Tryd.strings_Index_one ⟨s.toArray⟩ c w
theorem genSplit_ok (s : Str) (hs : s.length ≤ 536870912) : FnOk Tryd.prog 48 [pStr s, pStr [10], pInt 1, pInt (-1)] (fun rs => rs = [pStrs (partsOf s)]) := by
  have hP := partsAux_count s []
  have hc : s.count 10 ≤ s.length := List.count_le_length
  have h10 : ([10] : Str).length = 1 := rfl
  obtain ⟨P, hPe⟩ : ∃ P, P = partsOf s := ⟨_, rfl⟩
  have hPl : P.length = s.count 10 + 1 := by rw [hPe]; exact hP
  refine FnOk.intro Tryd.func48 (by decide) rfl rfl rfl rfl ?_
  refine k2 ?_
  refine c_region ?_; refine l_neu (n_assign rfl rfl) rfl ?_; refine l_nil ?_
  refine k1 ?_; refine k2 ?_; refine k2 ?_
  refine c_region ?_; refine l_neu (n_move rfl rfl) rfl ?_; refine l_neu (n_eql rfl rfl) rfl ?_; refine l_nil ?_
  refine k1 ?_
  refine c_cond rfl (fun ht => ?_) (fun ht => ?_)
  · exact absurd (of_decide_eq_true ht) (by omega)
  refine k5 ?_; refine k1 ?_; refine k2 ?_; refine k2 ?_
  refine c_region ?_; refine l_neu (n_move rfl rfl) rfl ?_; refine l_neu (n_eql_s rfl rfl) rfl ?_; refine l_nil ?_
  refine k1 ?_
  refine c_cond rfl (fun ht => ?_) (fun ht => ?_)
  · exact absurd (of_decide_eq_true ht) (by simp)
  refine k5 ?_; refine k1 ?_; refine k2 ?_; refine k2 ?_
  refine c_region ?_; refine l_neu (n_move rfl rfl) rfl ?_; refine l_neu (n_lss rfl rfl) rfl ?_; refine l_nil ?_
  refine k1 ?_
  refine c_cond rfl (fun ht => ?_) (fun ht => ?_)
  rotate_left
  · exact absurd (of_decide_eq_false ht) (by omega)
  skip
  refine c_region ?_; refine l_neu (n_move rfl rfl) rfl ?_; refine l_neu (n_move rfl rfl) rfl ?_; refine l_call (count1_ok s 10) rfl rfl rfl ?_; rintro _ rfl; refine l_neu (n_add rfl rfl (by omega)) rfl ?_; refine l_neu (n_assign rfl rfl) rfl ?_; refine l_nil ?_
  refine k1 ?_; refine k2 ?_
  refine c_region ?_; refine l_neu (n_move rfl rfl) rfl ?_; refine l_neu (n_move rfl rfl) rfl ?_; refine l_neu (n_len_s rfl) rfl ?_; refine l_neu (n_add rfl rfl (by omega)) rfl ?_; refine l_neu (n_min rfl rfl) rfl ?_; refine l_neu (n_assign rfl rfl) rfl ?_; refine l_nil ?_
  refine k1 ?_; refine k2 ?_
  rw [show (if (s.length : Int) + 1 < (s.count 10 : Int) + 1 then (s.length : Int) + 1 else (s.count 10 : Int) + 1) = (P.length : Int) from by split <;> omega]
  refine c_region ?_; refine l_neu (n_move rfl rfl) rfl ?_; refine l_effv (f_makeZ 9 Str strC [] rfl rfl (by omega) (by omega) (fun _ => by first | exact ⟨⟨rfl, rfl⟩, trivial⟩ | exact ⟨rep_nil _ _ _, trivial⟩) (by first | rfl | (simp [frFree, obFree, Ob.free, SV.free, S1.free, TC.free] <;> rfl))) rfl ?_; refine l_neu (n_assign rfl rfl) rfl ?_; refine l_nil ?_
  refine k1 ?_; refine k2 ?_
  refine c_region ?_; refine l_neu (n_move rfl rfl) rfl ?_; refine l_neu (n_sub rfl rfl (by omega)) rfl ?_; refine l_neu (n_assign rfl rfl) rfl ?_; refine l_nil ?_
  refine k1 ?_; refine k2 ?_
  refine c_region ?_; refine l_neu (n_assign rfl rfl) rfl ?_; refine l_nil ?_
  refine k1 ?_; refine k2 ?_; refine k3 ?_
  refine c_while (X := Nat × Str) (fun x => ([(0, sStr x.2), (1, sStr [10]), (2, sInt 1), (3, sInt ((P.length : Int) - 1)), (9, .s (.one (.mut 9))), (10, sInt x.1)], [(9, .arr Str 1 strC (P.take x.1 ++ List.replicate (P.length - x.1) []))])) (fun x => x.1 + 1 ≤ P.length ∧ P.drop x.1 = partsOf x.2 ∧ x.2.length ≤ s.length) (fun x => P.length - x.1) (0, s) ⟨by dsimp only; omega, hPe, Nat.le_refl _⟩ (Sees.of ⟨le1 rfl, le1 rfl, le1 rfl, le1 rfl, le1 rfl, le1 rfl, trivial⟩ ⟨rfl, trivial⟩) ?_
  rintro ⟨i, r⟩ ⟨hi, hp, hr⟩
  dsimp only at hi hp hr ⊢
  refine k2 ?_; refine k2 ?_
  refine c_region ?_; refine l_neu (n_move rfl rfl) rfl ?_; refine l_neu (n_move rfl rfl) rfl ?_; refine l_neu (n_lss rfl rfl) rfl ?_; refine l_nil ?_
  refine k1 ?_
  refine c_cond rfl (fun ht => ?_) (fun ht => ?_)
  · have hlt : i + 1 < P.length := by have := of_decide_eq_true ht; omega
    have hin : (10 : UInt8) ∈ r := by
      have h1 := partsAux_count r []
      have h2 : (P.drop i).length = r.count 10 + 1 := by rw [hp]; exact h1
      rw [List.length_drop] at h2
      exact List.count_pos_iff.1 (by omega)
    rcases indexByte_first 10 r with ⟨h1, _⟩ | ⟨a, b, h1, h2, h3⟩
    · exact absurd hin h1
    obtain ⟨h4, h5⟩ := parts_step hp h1 h2
    have hl : r.length = a.length + 1 + b.length := by rw [h1]; simp; omega
    refine k5 ?_; refine k1 ?_; refine k3 ?_; refine k2 ?_
    refine c_region ?_; refine l_neu (n_move rfl rfl) rfl ?_; refine l_neu (n_move rfl rfl) rfl ?_; refine l_call (index1_ok r 10) rfl rfl rfl ?_; rintro _ rfl; refine l_neu (n_assign rfl rfl) rfl ?_; refine l_nil ?_
    refine k1 ?_; refine k2 ?_; refine k2 ?_
    refine c_region ?_; refine l_neu (n_move rfl rfl) rfl ?_; refine l_neu (n_lss rfl rfl) rfl ?_; refine l_nil ?_
    refine k1 ?_
    rw [h3]
    refine c_cond rfl (fun ht => ?_) (fun ht => ?_)
    · exact absurd (of_decide_eq_true ht) (by omega)
    refine k5 ?_; refine k1 ?_; refine k2 ?_
    refine c_region ?_; refine l_neu (n_move rfl rfl) rfl ?_; refine l_neu (n_move rfl rfl) rfl ?_; refine l_neu (n_move rfl rfl) rfl ?_; refine l_neu (n_move rfl rfl) rfl ?_; refine l_neu (n_move rfl rfl) rfl ?_; refine l_neu (n_add rfl rfl (by omega)) rfl ?_; refine l_neu (n_sub_h rfl rfl (by omega) (by omega)) rfl ?_; refine l_neu (n_indexAddr_mut rfl rfl rfl (by omega) (by (simp; omega))) rfl ?_; refine l_eff (e_store_mref1 TySz.out rfl rfl (by simp; omega) rfl rfl) ?_; refine l_nil ?_
    refine k1 ?_; refine k2 ?_
    refine c_region ?_; refine l_neu (n_move rfl rfl) rfl ?_; refine l_neu (n_move rfl rfl) rfl ?_; refine l_neu (n_move rfl rfl) rfl ?_; refine l_neu (n_len_s rfl) rfl ?_; refine l_neu (n_add rfl rfl (by omega)) rfl ?_; refine l_neu (n_sub_l rfl rfl (by omega) (by omega)) rfl ?_; refine l_neu (n_assign rfl rfl) rfl ?_; refine l_nil ?_
    refine k1 ?_
    refine c_region ?_; refine l_neu (n_move rfl rfl) rfl ?_; refine l_neu (n_add rfl rfl (by omega)) rfl ?_; refine l_neu (n_assign rfl rfl) rfl ?_; refine l_nil ?_
    refine k4 ?_; refine k1 ?_
    have e1 : r.take (((a.length : Int) + 1).toNat) = a ++ [10] := by rw [h1, show ((a.length : Int) + 1).toNat = a.length + 1 by omega, show a ++ 10 :: b = (a ++ [10]) ++ b by simp, List.take_left' (by simp)]
    have e2 : r.drop (((a.length : Int) + (([10] : Str).length : Int)).toNat) = b := by rw [h1, h10, show ((a.length : Int) + ((1 : Nat) : Int)).toNat = a.length + 1 by omega, show a ++ 10 :: b = (a ++ [10]) ++ b by simp, List.drop_left' (by simp)]
    refine ⟨(i + 1, b), ⟨by dsimp only; omega, h5, by dsimp only; omega⟩, by dsimp only; omega, ?_⟩
    rw [e1, e2]
    dsimp only
    rw [← fill_step P [] _ i h4]
    exact Sees.of ⟨le1 rfl, le1 rfl, le1 rfl, le1 rfl, le1 rfl, le1 rfl, trivial⟩ ⟨rfl, trivial⟩
  · have hge : i + 1 = P.length := by have := of_decide_eq_false ht; omega
    have h1 := partsAux_count r []
    have h2 : (P.drop i).length = r.count 10 + 1 := by rw [hp]; exact h1
    rw [List.length_drop] at h2
    have h3 : (10 : UInt8) ∉ r := List.count_eq_zero.1 (by omega)
    have h4 : P[i]? = some r := by rw [← List.head?_drop, hp]; unfold partsOf; rw [partsAux_none _ _ h3]; rfl
    refine k6 ?_; refine k2 ?_
    refine c_region ?_; refine l_neu (n_move rfl rfl) rfl ?_; refine l_neu (n_move rfl rfl) rfl ?_; refine l_neu (n_move rfl rfl) rfl ?_; refine l_neu (n_indexAddr_mut rfl rfl rfl (by omega) (by (simp; omega))) rfl ?_; refine l_eff (e_store_mref1 TySz.out rfl rfl (by simp; omega) rfl rfl) ?_; refine l_nil ?_
    refine k1 ?_; refine k2 ?_
    have e : (P.take i ++ List.replicate (P.length - i) ([] : Str)).set (i : Int).toNat r = P := by rw [Int.toNat_natCast, fill_step P [] r i h4, hge]; simp
    rw [e]
    refine c_sees (Sees.freeze (k := 9) rfl) ?_
    refine c_region ?_; refine l_neu (n_move rfl rfl) rfl ?_; refine l_neu (n_move rfl rfl) rfl ?_; refine l_neu (n_add rfl rfl (by omega)) rfl ?_; refine l_neu (n_slice_h rfl (.pure _ _ _ _) rfl (by omega) (by omega)) rfl ?_; refine l_neu (n_assign rfl rfl) rfl ?_; refine l_nil ?_
    refine k1 ?_; refine k10 ?_
    exact ret_ret (ret1 rfl rfl rfl) (by rw [show ((i : Int) + 1).toNat = P.length by omega, List.take_length, hPe])
theorem splitAfter_ok (s : Str) (hs : s.length ≤ 536870912) : FnOk Tryd.prog 34 [pStr s, pStr [10]] (fun rs => rs = [pStrs (partsOf s)]) := by
  refine FnOk.intro Tryd.func34 (by decide) rfl rfl rfl rfl ?_
  refine k2 ?_
  refine c_region ?_; refine l_neu (n_assign rfl rfl) rfl ?_; refine l_nil ?_
  refine k1 ?_; refine k2 ?_
  refine c_region ?_; refine l_neu (n_move rfl rfl) rfl ?_; refine l_neu (n_move rfl rfl) rfl ?_; refine l_neu (n_move rfl rfl) rfl ?_; refine l_neu (n_len_s rfl) rfl ?_; refine l_call (genSplit_ok s hs) rfl rfl rfl ?_; rintro _ rfl; refine l_neu (n_assign rfl rfl) rfl ?_; refine l_nil ?_
  refine k1 ?_; refine k10 ?_
  exact ret_ret (ret1 rfl rfl rfl) rfl
theorem tcheck_ok (s : Str) (hs : s.length ≤ 536870912) : FnOk Tryd.prog 33 [pStr s] (fun rs => rs = [pInt (checkOf s)]) := by
  have hl := linesOf_count s
  have hc : s.count 10 ≤ s.length := List.count_le_length
  refine FnOk.intro Tryd.func33 (by decide) rfl rfl rfl rfl ?_
  refine k2 ?_
  refine c_region ?_; refine l_neu (n_assign rfl rfl) rfl ?_; refine l_nil ?_
  refine k1 ?_; refine k2 ?_
  refine c_region ?_; refine l_neu (n_move rfl rfl) rfl ?_; refine l_call (count1_ok s 10) rfl rfl rfl ?_; rintro _ rfl; refine l_neu (n_assign rfl rfl) rfl ?_; refine l_nil ?_
  refine then_normal ?_
  refine c_join [(0, sStr s), (3, sInt (linesOf s).length)] [] ?_ ?_
  · refine k2 ?_
    refine c_region ?_; refine l_neu (n_move rfl rfl) rfl ?_; refine l_neu (n_neq_s rfl rfl) rfl ?_; refine l_neu (n_move rfl rfl) rfl ?_; refine l_guard rfl rfl rfl rfl (fun hg => by rw [hg]; exact n_move rfl rfl) ?_; refine l_guard rfl rfl rfl rfl (fun hg => by have hq := hg; (try simp at hq); rw [hg]; exact n_call1 (tended_ok s (by omega)) rfl rfl) ?_; refine l_guard rfl rfl rfl rfl (fun hg => by rw [hg]; exact n_not rfl) ?_; refine l_neu (n_pick_bool rfl (fun h => by first | rfl | (rw [h]; rfl)) (fun h => by first | rfl | (rw [h]; rfl))) rfl ?_; refine l_nil ?_
    refine k1 ?_
    refine c_cond rfl (fun ht => ?_) (fun ht => ?_)
    · have h : s ≠ [] ∧ ended s = false := by
        by_cases h1 : s = []
        · simp [h1] at ht
        · refine ⟨h1, ?_⟩; simpa [h1] using ht
      rw [if_pos h] at hl
      skip
      refine c_region ?_; refine l_neu (n_move rfl rfl) rfl ?_; refine l_neu (n_add rfl rfl (by omega)) rfl ?_; refine l_neu (n_assign rfl rfl) rfl ?_; refine l_nil ?_
      refine k1 ?_
      rw [hl, Int.natCast_add]
      exact Sees.of ⟨le1 rfl, le1 rfl, trivial⟩ trivial
    · have h : ¬ (s ≠ [] ∧ ended s = false) := by
        rintro ⟨h1, h2⟩
        simp [h1, h2] at ht
      rw [if_neg h] at hl
      refine k5 ?_; refine k1 ?_
      rw [hl]
      exact Sees.of ⟨le1 rfl, le1 rfl, trivial⟩ trivial
  · refine k2 ?_; refine k2 ?_
    refine c_region ?_; refine l_neu (n_move rfl rfl) rfl ?_; refine l_neu (n_len_s rfl) rfl ?_; refine l_neu (n_gtr rfl rfl) rfl ?_; refine l_neu (n_move rfl rfl) rfl ?_; refine l_guard rfl rfl rfl rfl (fun hg => by rw [hg]; exact n_move rfl rfl) ?_; refine l_guard rfl rfl rfl rfl (fun hg => by rw [hg]; exact n_gtr rfl rfl) ?_; refine l_neu (n_pick_bool rfl (fun h => by first | rfl | (rw [h]; rfl)) (fun h => by first | rfl | (rw [h]; rfl))) rfl ?_; refine l_nil ?_
    refine k1 ?_
    refine c_cond rfl (fun ht => ?_) (fun ht => ?_)
    · have h := of_decide_eq_true (or_pick.symm.trans ht)
      refine k2 ?_
      refine c_region ?_; refine l_neu (n_assign rfl rfl) rfl ?_; refine l_nil ?_
      refine k1 ?_; refine k10 ?_; refine k11 ?_
      exact ret_ret (ret1 rfl rfl rfl) (by rw [checkOf, if_pos (by omega)])
    · have h := of_decide_eq_false (or_pick.symm.trans ht)
      refine k5 ?_; refine k1 ?_; refine k2 ?_
      refine c_region ?_; refine l_neu (n_assign rfl rfl) rfl ?_; refine l_nil ?_
      refine k1 ?_; refine k10 ?_
      exact ret_ret (ret1 rfl rfl rfl) (by rw [checkOf, if_neg (by omega)])
theorem tsplit_ok (s : Str) (hs : s.length ≤ 536870912) : FnOk Tryd.prog 20 [pStr s] (fun rs => rs = [pStrs (splitOf s).1, pInt (splitOf s).2]) := by
  have hp : linesOf s = if (partsOf s).getLastD [] = [] then (partsOf s).dropLast else partsOf s := parts_lines s []
  have hc : (partsOf s).length = s.count 10 + 1 := partsAux_count s []
  have hcl : s.count 10 ≤ s.length := List.count_le_length
  refine FnOk.intro Tryd.func20 (by decide) rfl rfl rfl rfl ?_
  refine k2 ?_
  refine c_region ?_; refine l_neu (n_assign rfl rfl) rfl ?_; refine l_neu (n_assign rfl rfl) rfl ?_; refine l_nil ?_
  refine k1 ?_; refine k2 ?_; refine k2 ?_
  refine c_region ?_; refine l_neu (n_move rfl rfl) rfl ?_; refine l_call (tcheck_ok s hs) rfl rfl rfl ?_; rintro _ rfl; refine l_neu (n_assign rfl rfl) rfl ?_; refine l_nil ?_
  refine k1 ?_; refine k2 ?_
  refine c_region ?_; refine l_neu (n_move rfl rfl) rfl ?_; refine l_neu (n_neq rfl rfl) rfl ?_; refine l_nil ?_
  refine k1 ?_
  refine c_cond rfl (fun ht => ?_) (fun ht => ?_)
  · have h : checkOf s ≠ 0 := by simpa using ht
    have h1 : s.length > 1048576 ∨ (linesOf s).length > 4096 := by
      by_cases h1 : s.length > 1048576 ∨ (linesOf s).length > 4096
      · exact h1
      · exact absurd (by rw [checkOf, if_neg h1]) h
    refine k2 ?_
    refine c_region ?_; refine l_neu (n_move rfl rfl) rfl ?_; refine l_neu (n_assign_nil _ 1 strC) rfl ?_; refine l_neu (n_assign rfl rfl) rfl ?_; refine l_nil ?_
    refine k1 ?_; refine k10 ?_; refine k11 ?_
    exact ret_ret (ret2 rfl rfl rfl rfl rfl) (by rw [splitOf, if_pos h1, checkOf, if_pos h1])
  · have h : checkOf s = 0 := by simpa using ht
    have h1 : ¬ (s.length > 1048576 ∨ (linesOf s).length > 4096) := fun h1 => by rw [checkOf, if_pos h1] at h; omega
    have hv : (partsOf s)[(partsOf s).length - 1]? = some ((partsOf s).getLastD []) := by
      rw [← List.getLast?_eq_getElem?, List.getLast?_eq_some_getLast (fun e => by rw [e] at hc; simp at hc)]
      rw [List.getLastD_eq_getLast?, List.getLast?_eq_some_getLast (fun e => by rw [e] at hc; simp at hc)]; rfl
    have hi : (((partsOf s).length : Int) - 1).toNat = (partsOf s).length - 1 := by omega
    refine k5 ?_; refine k1 ?_; refine k2 ?_
    refine c_region ?_; refine l_neu (n_move rfl rfl) rfl ?_; refine l_call (splitAfter_ok s hs) rfl rfl rfl ?_; rintro _ rfl; refine l_neu (n_assign rfl rfl) rfl ?_; refine l_nil ?_
    refine then_normal ?_
    refine c_join [(5, sList Str 1 strC (linesOf s))] [] ?_ ?_
    · refine k2 ?_
      refine c_region ?_; refine l_neu (n_move rfl rfl) rfl ?_; refine l_neu (n_move rfl rfl) rfl ?_; refine l_neu (n_len rfl (.pure _ _ _ _)) rfl ?_; refine l_neu (n_sub rfl rfl (by omega)) rfl ?_; refine l_neu (n_indexAddr rfl (.pure _ _ _ _) rfl (by omega) (by rw [hi]; exact hv)) rfl ?_; refine l_neu (n_load_eref rfl rfl) rfl ?_; refine l_neu (n_eql_s rfl rfl) rfl ?_; refine l_nil ?_
      refine k1 ?_
      refine c_cond rfl (fun ht => ?_) (fun ht => ?_)
      · have h2 := of_decide_eq_true ht
        skip
        refine c_region ?_; refine l_neu (n_move rfl rfl) rfl ?_; refine l_neu (n_move rfl rfl) rfl ?_; refine l_neu (n_len rfl (.pure _ _ _ _)) rfl ?_; refine l_neu (n_sub rfl rfl (by omega)) rfl ?_; refine l_neu (n_slice_h rfl (.pure _ _ _ _) rfl (by omega) (by omega)) rfl ?_; refine l_neu (n_assign rfl rfl) rfl ?_; refine l_nil ?_
        refine k1 ?_
        rw [hp, if_pos h2, List.dropLast_eq_take, ← hi]
        exact Sees.of ⟨le1 rfl, trivial⟩ trivial
      · have h2 := of_decide_eq_false ht
        refine k5 ?_; refine k1 ?_
        rw [hp, if_neg h2]
        exact Sees.of ⟨le1 rfl, trivial⟩ trivial
    · refine k2 ?_
      refine c_region ?_; refine l_neu (n_move rfl rfl) rfl ?_; refine l_neu (n_assign rfl rfl) rfl ?_; refine l_neu (n_assign rfl rfl) rfl ?_; refine l_nil ?_
      refine k1 ?_; refine k10 ?_
      exact ret_ret (ret2 rfl rfl rfl rfl rfl) (by rw [splitOf, if_neg h1])
end Go.Proofs.YtjjidificdmnmaaDoor
namespace Go.Proofs.YtjjidificdmnmaaDoor
open Go Go.AL
set_option maxRecDepth 100000
end Go.Proofs.YtjjidificdmnmaaDoor
namespace Go.Proofs.YtjjidificdmnmaaDoor
open Go Go.AL
set_option maxRecDepth 100000
theorem kind_ne (a b : UInt8) : decide ((a.toNat : Int) ≠ (b.toNat : Int)) = decide (a ≠ b) := by
  by_cases h : a = b
  · subst h; simp
  · have : (a.toNat : Int) ≠ (b.toNat : Int) := fun e => h (UInt8.toNat_inj.1 (by omega))
    rw [decide_eq_true this, decide_eq_true h]
theorem kn32 (c : UInt8) : decide ((c.toNat : Int) ≠ 32) = decide (c ≠ 32) := kind_ne c 32
theorem kn45 (c : UInt8) : decide ((c.toNat : Int) ≠ 45) = decide (c ≠ 45) := kind_ne c 45
theorem kn43 (c : UInt8) : decide ((c.toNat : Int) ≠ 43) = decide (c ≠ 43) := kind_ne c 43
theorem notB (b : Bool) : (!b) = decide (b = false) := by cases b <;> rfl
theorem someCh_succ (ls : List PatchLine) (n : Nat) (h : n < ls.length) : someCh (ls.take (n + 1)) = (if someCh (ls.take n) = true then true else decide (ls[n].Kind ≠ 32)) := by
  unfold someCh
  rw [List.take_succ_eq_append_getElem h, List.any_append]
  cases (ls.take n).any _ <;> simp
end Go.Proofs.YtjjidificdmnmaaDoor
namespace Go.Proofs.YtjjidificdmnmaaDoor
open Go Go.AL
set_option maxRecDepth 100000
end Go.Proofs.YtjjidificdmnmaaDoor
namespace Go.Proofs.YtjjidificdmnmaaDoor
open Go Go.AL
set_option maxRecDepth 100000
end Go.Proofs.YtjjidificdmnmaaDoor
namespace Go.Proofs.YtjjidificdmnmaaDoor
open Go Go.AL
set_option maxRecDepth 100000
set_option maxHeartbeats 1000000
end Go.Proofs.YtjjidificdmnmaaDoor
namespace Go.Proofs.YtjjidificdmnmaaDoor
open Go Go.AL
set_option maxRecDepth 100000
end Go.Proofs.YtjjidificdmnmaaDoor
namespace Go.Proofs.YtjjidificdmnmaaDoor
open Go Go.AL
set_option maxRecDepth 100000
end Go.Proofs.YtjjidificdmnmaaDoor
namespace Go.Proofs.YtjjidificdmnmaaDoor
open Go Go.AL
set_option maxRecDepth 100000
theorem unamed_ok (s : Str) : FnOk Tryd.prog 19 [pStr s] (fun rs => rs = [pBool (nameOk s)]) := by
  refine FnOk.intro Tryd.func19 (by decide) rfl rfl rfl rfl ?_
  refine k2 ?_
  refine c_region ?_; refine l_neu (n_assign rfl rfl) rfl ?_; refine l_nil ?_
  refine k1 ?_; refine k2 ?_
  refine c_region ?_; refine l_neu (n_move rfl rfl) rfl ?_; refine l_neu (n_len_s rfl) rfl ?_; refine l_neu (n_geq rfl rfl) rfl ?_; refine l_neu (n_move rfl rfl) rfl ?_; refine l_guard rfl rfl rfl rfl (fun hg => by rw [hg]; exact n_move rfl rfl) ?_; refine l_guard rfl rfl rfl rfl (fun hg => by rw [hg]; exact n_len_s rfl) ?_; refine l_guard rfl rfl rfl rfl (fun hg => by rw [hg]; exact n_leq rfl rfl) ?_; refine l_neu (n_pick_bool rfl (fun h => by first | rfl | (rw [h]; rfl)) (fun h => by first | rfl | (rw [h]; rfl))) rfl ?_; refine l_neu (n_assign rfl rfl) rfl ?_; refine l_nil ?_
  refine k1 ?_; refine k10 ?_
  refine ret_ret (ret1 rfl rfl rfl) ?_
  simp only [and_pick]
  congr 4
  unfold nameOk
  congr 1
  apply propext
  omega
theorem usingle_ok (s : Str) (hs : s.length ≤ 1099511627776) : FnOk Tryd.prog 98 [pStr s] (fun rs => rs = [pBool (lineOk s)]) := by
  refine FnOk.intro Tryd.func98 (by decide) rfl rfl rfl rfl ?_
  refine k2 ?_
  refine c_region ?_; refine l_neu (n_assign rfl rfl) rfl ?_; refine l_nil ?_
  refine k1 ?_; refine k2 ?_
  refine c_region ?_; refine l_neu (n_move rfl rfl) rfl ?_; refine l_neu (n_neq_s rfl rfl) rfl ?_; refine l_neu (n_move rfl rfl) rfl ?_; refine l_guard rfl rfl rfl rfl (fun hg => by rw [hg]; exact n_move rfl rfl) ?_; refine l_guard rfl rfl rfl rfl (fun hg => by have hq := hg; (try simp at hq); rw [hg]; exact n_call1 (tbare_ok s hs) rfl rfl) ?_; refine l_guard rfl rfl rfl rfl (fun hg => by have hq := hg; (try simp at hq); rw [hg]; exact n_call1 (contains1_ok (bareOf s) 10) rfl rfl) ?_; refine l_guard rfl rfl rfl rfl (fun hg => by rw [hg]; exact n_not rfl) ?_; refine l_neu (n_pick_bool rfl (fun h => by first | rfl | (rw [h]; rfl)) (fun h => by first | rfl | (rw [h]; rfl))) rfl ?_; refine l_neu (n_assign rfl rfl) rfl ?_; refine l_nil ?_
  refine k1 ?_; refine k10 ?_
  exact ret_ret (ret1 rfl rfl rfl) (by rw [single_eq])
theorem usizes_ok (h : PatchHunk) (hl : h.Lines.length ≤ 268435456) : FnOk Tryd.prog 70 [pPhunk h] (fun rs => rs = [pInt (oldN h), pInt (newN h)]) := by
  refine FnOk.intro Tryd.func70 (by decide) rfl rfl rfl rfl ?_
  refine k2 ?_
  refine c_region ?_; refine l_effv (f_box 1 rfl rfl rfl) rfl ?_; refine l_neu (n_assign rfl rfl) rfl ?_; refine l_neu (n_assign rfl rfl) rfl ?_; refine l_nil ?_
  refine k1 ?_; refine k2 ?_
  refine c_region ?_; refine l_neu (n_assign rfl rfl) rfl ?_; refine l_neu (n_assign rfl rfl) rfl ?_; refine l_nil ?_
  refine k1 ?_; refine k2 ?_; refine k2 ?_
  refine c_region ?_; refine l_neu (n_field_ref rfl) rfl ?_; refine l_neu (n_load_ref rfl rfl rfl) rfl ?_; refine l_neu (n_len rfl (.pure _ _ _ _)) rfl ?_; refine l_neu (n_move rfl rfl) rfl ?_; refine l_nil ?_
  refine k1 ?_; refine k3 ?_
  refine c_while (X := Nat) (fun i => ([(4, sInt (linesNot (h.Lines.take i) 43).length), (5, sInt (linesNot (h.Lines.take i) 45).length), (9, sList PatchLine 2 plineC h.Lines), (10, sInt h.Lines.length), (11, sInt i)], [])) (fun i => i ≤ h.Lines.length) (fun i => h.Lines.length - i) 0 (Nat.zero_le _) (Sees.of ⟨le1 rfl, le1 rfl, le1 rfl, le1 rfl, le1 rfl, trivial⟩ trivial) ?_
  intro i hi
  dsimp only at hi ⊢
  have h1 := linesNot_len (h.Lines.take i) 43
  have h2 := linesNot_len (h.Lines.take i) 45
  rw [List.length_take] at h1 h2
  refine k2 ?_
  refine c_region ?_; refine l_neu (n_lss rfl rfl) rfl ?_; refine l_nil ?_
  refine k1 ?_; refine k2 ?_
  refine c_cond rfl (fun ht => ?_) (fun ht => ?_)
  · have hlt : i < h.Lines.length := by have := of_decide_eq_true ht; omega
    have hv : h.Lines[i]? = some h.Lines[i] := by simp [hlt]
    have s1 := linesNot_succ h.Lines 43 i hlt
    have s2 := linesNot_succ h.Lines 45 i hlt
    obtain ⟨x, hx⟩ : ∃ x, x = h.Lines[i] := ⟨_, rfl⟩
    rw [← hx] at hv s1 s2
    refine k5 ?_; refine k1 ?_; refine k2 ?_; refine k3 ?_; refine k2 ?_
    refine c_region ?_; refine l_neu (n_indexAddr rfl (.pure _ _ _ _) rfl (by omega) hv) rfl ?_; refine l_neu (n_loads_eref rfl rfl) rfl ?_; refine l_effv (f_alloc 7 rfl) rfl ?_; refine l_eff (e_store_ref TySz.out rfl rfl rfl rfl rfl rfl) ?_; refine l_nil ?_
    refine then_normal ?_
    refine c_join [(4, sInt (linesNot (h.Lines.take (i + 1)) 43).length), (5, sInt (linesNot (h.Lines.take i) 45).length), (7, .s (.one (.ref 7 0))), (9, sList PatchLine 2 plineC h.Lines), (10, sInt h.Lines.length), (11, sInt i)] [(7, .box [.p (.v (.int .u8 x.Kind.toNat)), .p (.v (.string ⟨x.Text.toArray⟩))])] ?_ ?_
    · refine k2 ?_
      refine c_region ?_; refine l_neu (n_field_ref rfl) rfl ?_; refine l_neu (n_load_ref rfl rfl rfl) rfl ?_; refine l_neu (n_neq rfl rfl) rfl ?_; refine l_nil ?_
      refine k1 ?_
      refine c_cond rfl (fun ht => ?_) (fun ht => ?_)
      · rw [kn43] at ht
        have h3 : x.Kind ≠ 43 := of_decide_eq_true ht
        rw [if_pos h3] at s1
        skip
        refine c_region ?_; refine l_neu (n_move rfl rfl) rfl ?_; refine l_neu (n_add rfl rfl (by omega)) rfl ?_; refine l_neu (n_assign rfl rfl) rfl ?_; refine l_nil ?_
        refine k1 ?_
        rw [s1, List.length_append, Int.natCast_add]
        exact Sees.of ⟨le1 rfl, le1 rfl, le1 rfl, le1 rfl, le1 rfl, le1 rfl, trivial⟩ ⟨rfl, trivial⟩
      · rw [kn43] at ht
        have h3 : ¬ x.Kind ≠ 43 := of_decide_eq_false ht
        rw [if_neg h3] at s1
        refine k5 ?_; refine k1 ?_
        rw [s1]
        exact Sees.of ⟨le1 rfl, le1 rfl, le1 rfl, le1 rfl, le1 rfl, le1 rfl, trivial⟩ ⟨rfl, trivial⟩
    · refine k2 ?_
      refine c_region ?_; refine l_neu (n_field_ref rfl) rfl ?_; refine l_neu (n_load_ref rfl rfl rfl) rfl ?_; refine l_neu (n_neq rfl rfl) rfl ?_; refine l_nil ?_
      refine k1 ?_
      refine c_cond rfl (fun ht => ?_) (fun ht => ?_)
      · rw [kn45] at ht
        have h3 : x.Kind ≠ 45 := of_decide_eq_true ht
        rw [if_pos h3] at s2
        skip
        refine c_region ?_; refine l_neu (n_move rfl rfl) rfl ?_; refine l_neu (n_add rfl rfl (by omega)) rfl ?_; refine l_neu (n_assign rfl rfl) rfl ?_; refine l_nil ?_
        refine k4 ?_; refine k1 ?_
        refine c_region ?_; refine l_neu (n_add rfl rfl (by omega)) rfl ?_; refine l_neu (n_move rfl rfl) rfl ?_; refine l_nil ?_
        refine k1 ?_
        refine ⟨i + 1, by omega, by omega, ?_⟩
        rw [s2, List.length_append, Int.natCast_add]
        exact Sees.of ⟨le1 rfl, le1 rfl, le1 rfl, le1 rfl, le1 rfl, trivial⟩ trivial
      · rw [kn45] at ht
        have h3 : ¬ x.Kind ≠ 45 := of_decide_eq_false ht
        rw [if_neg h3] at s2
        refine k5 ?_; refine k4 ?_; refine k1 ?_
        refine c_region ?_; refine l_neu (n_add rfl rfl (by omega)) rfl ?_; refine l_neu (n_move rfl rfl) rfl ?_; refine l_nil ?_
        refine k1 ?_
        refine ⟨i + 1, by omega, by omega, ?_⟩
        rw [s2]
        exact Sees.of ⟨le1 rfl, le1 rfl, le1 rfl, le1 rfl, le1 rfl, trivial⟩ trivial
  · have hi' : i = h.Lines.length := by have := of_decide_eq_false ht; omega
    subst hi'
    rw [List.take_length]
    refine k6 ?_; refine k2 ?_
    refine c_region ?_; refine l_neu (n_move rfl rfl) rfl ?_; refine l_neu (n_move rfl rfl) rfl ?_; refine l_neu (n_assign rfl rfl) rfl ?_; refine l_neu (n_assign rfl rfl) rfl ?_; refine l_nil ?_
    refine k1 ?_; refine k10 ?_
    exact ret_ret (ret2 rfl rfl rfl rfl rfl) rfl
theorem uheader_ok (h : PatchHunk) (hl : h.Lines.length ≤ 268435456) (ho : -4611686018427387904 ≤ h.Old ∧ h.Old ≤ 4611686018427387904) (hn : -4611686018427387904 ≤ h.New ∧ h.New ≤ 4611686018427387904) : FnOk Tryd.prog 45 [pPhunk h] (fun rs => rs = [pStr (headW h)]) := by
  have h1 := linesNot_len h.Lines 43
  have h2 := linesNot_len h.Lines 45
  have h3 : 0 ≤ oldN h ∧ oldN h ≤ 268435456 := by unfold oldN; omega
  have h4 : 0 ≤ newN h ∧ newN h ≤ 268435456 := by unfold newN; omega
  have h5 := rangeOf_len h.Old (oldN h)
  have h6 := rangeOf_len h.New (newN h)
  refine FnOk.intro Tryd.func45 (by decide) rfl rfl rfl rfl ?_
  refine k2 ?_
  refine c_region ?_; refine l_effv (f_box 1 rfl rfl rfl) rfl ?_; refine l_neu (n_assign rfl rfl) rfl ?_; refine l_nil ?_
  refine k1 ?_; refine k2 ?_
  refine c_region ?_; refine l_neu (n_loads_ref rfl rfl rfl) rfl ?_; refine l_call (usizes_ok h hl) rfl rfl rfl ?_; rintro _ rfl; refine l_neu (n_move rfl rfl) rfl ?_; refine l_neu (n_extract rfl rfl) rfl ?_; refine l_neu (n_extract rfl rfl) rfl ?_; refine l_neu (n_assign rfl rfl) rfl ?_; refine l_neu (n_assign rfl rfl) rfl ?_; refine l_nil ?_
  refine k1 ?_; refine k2 ?_
  refine c_region_draw (by kernel_rfl) (by kernel_rfl) ?_; refine d_neu (n_field_ref rfl) rfl rfl ?_; refine d_neu (n_load_ref rfl rfl rfl) rfl rfl ?_; refine d_neu (n_move rfl rfl) rfl rfl ?_; refine d_neu (n_call1 (srange_ok h.Old (oldN h) ho (by omega)) rfl rfl) rfl rfl ?_; refine d_neu (n_add_s rfl rfl (by (simp only [List.length_cons, List.length_nil]; omega))) rfl rfl ?_; refine d_neu (n_add_s rfl rfl (by (simp only [List.length_append, List.length_cons, List.length_nil]; omega))) rfl rfl ?_; refine d_neu (n_field_ref rfl) rfl rfl ?_; refine d_neu (n_load_ref rfl rfl rfl) rfl rfl ?_; refine d_neu (n_move rfl rfl) rfl rfl ?_; refine d_neu (n_call1 (srange_ok h.New (newN h) hn (by omega)) rfl rfl) rfl rfl ?_; refine d_neu (n_add_s rfl rfl (by (simp only [List.length_append, List.length_cons, List.length_nil]; omega))) rfl rfl ?_; refine d_neu (n_add_s rfl rfl (by (simp only [List.length_append, List.length_cons, List.length_nil]; omega))) rfl rfl ?_; refine d_neu (n_assign rfl rfl) rfl rfl ?_; refine d_nil ?_
  refine k1 ?_; refine k10 ?_
  exact ret_ret (ret1 rfl rfl rfl) rfl
end Go.Proofs.YtjjidificdmnmaaDoor
namespace Go.Proofs.YtjjidificdmnmaaDoor
open Go Go.AL
set_option maxRecDepth 100000
theorem uproper_ok (h : PatchHunk) (hl : (h.Lines.map szL).sum ≤ 1099511627776) : FnOk Tryd.prog 81 [pPhunk h] (fun rs => rs = [pBool (h.Lines.all goodLn && someCh h.Lines)]) := by
  have h3 := szL_len h.Lines
  refine FnOk.intro Tryd.func81 (by decide) rfl rfl rfl rfl ?_
  refine k2 ?_
  refine c_region ?_; refine l_effv (f_box 1 rfl rfl rfl) rfl ?_; refine l_neu (n_assign rfl rfl) rfl ?_; refine l_nil ?_
  refine k1 ?_; refine k2 ?_
  refine c_region ?_; refine l_neu (n_assign rfl rfl) rfl ?_; refine l_nil ?_
  refine k1 ?_; refine k2 ?_; refine k2 ?_
  refine c_region ?_; refine l_neu (n_field_ref rfl) rfl ?_; refine l_neu (n_load_ref rfl rfl rfl) rfl ?_; refine l_neu (n_len rfl (.pure _ _ _ _)) rfl ?_; refine l_neu (n_move rfl rfl) rfl ?_; refine l_nil ?_
  refine k1 ?_; refine k3 ?_
  refine c_while (X := Nat) (fun n => ([(3, sVal (.bool (someCh (h.Lines.take n)))), (7, sList PatchLine 2 plineC h.Lines), (8, sInt h.Lines.length), (9, sInt n)], [])) (fun n => n ≤ h.Lines.length ∧ h.Lines.all goodLn = (h.Lines.drop n).all goodLn) (fun n => h.Lines.length - n) 0 ⟨Nat.zero_le _, rfl⟩ (Sees.of ⟨le1 rfl, le1 rfl, le1 rfl, le1 rfl, trivial⟩ trivial) ?_
  rintro n ⟨hn1, hn2⟩
  dsimp only at hn1 hn2 ⊢
  refine k2 ?_
  refine c_region ?_; refine l_neu (n_lss rfl rfl) rfl ?_; refine l_nil ?_
  refine k1 ?_; refine k2 ?_
  refine c_cond rfl (fun ht => ?_) (fun ht => ?_)
  · have hlt2 : n < h.Lines.length := by have := of_decide_eq_true ht; omega
    have hv2 : h.Lines[n]? = some h.Lines[n] := by simp [hlt2]
    have hmem2 := szL_mem (List.getElem_mem hlt2)
    have hsucc := someCh_succ h.Lines n hlt2
    rw [List.drop_eq_getElem_cons hlt2, List.all_cons] at hn2
    obtain ⟨x, hx2⟩ : ∃ x, x = h.Lines[n] := ⟨_, rfl⟩
    rw [← hx2] at hv2 hmem2 hsucc hn2
    refine k5 ?_; refine k1 ?_; refine k2 ?_; refine k3 ?_; refine k2 ?_
    refine c_region ?_; refine l_neu (n_indexAddr rfl (.pure _ _ _ _) rfl (by omega) hv2) rfl ?_; refine l_neu (n_loads_eref rfl rfl) rfl ?_; refine l_effv (f_alloc 5 rfl) rfl ?_; refine l_eff (e_store_ref TySz.out rfl rfl rfl rfl rfl rfl) ?_; refine l_nil ?_
    refine k1 ?_; refine k2 ?_; refine k2 ?_
    refine c_region ?_; refine l_neu (n_field_ref rfl) rfl ?_; refine l_neu (n_load_ref rfl rfl rfl) rfl ?_; refine l_neu (n_neq rfl rfl) rfl ?_; refine l_neu (n_move rfl rfl) rfl ?_; refine l_guard rfl rfl rfl rfl (fun hg => by rw [hg]; exact n_field_ref rfl) ?_; refine l_guard rfl rfl rfl rfl (fun hg => by rw [hg]; exact n_load_ref rfl rfl rfl) ?_; refine l_guard rfl rfl rfl rfl (fun hg => by rw [hg]; exact n_neq rfl rfl) ?_; refine l_neu (n_pick_bool rfl (fun h => by first | rfl | (rw [h]; rfl)) (fun h => by first | rfl | (rw [h]; rfl))) rfl ?_; refine l_neu (n_move rfl rfl) rfl ?_; refine l_guard rfl rfl rfl rfl (fun hg => by rw [hg]; exact n_field_ref rfl) ?_; refine l_guard rfl rfl rfl rfl (fun hg => by rw [hg]; exact n_load_ref rfl rfl rfl) ?_; refine l_guard rfl rfl rfl rfl (fun hg => by rw [hg]; exact n_neq rfl rfl) ?_; refine l_neu (n_pick_bool rfl (fun h => by first | rfl | (rw [h]; rfl)) (fun h => by first | rfl | (rw [h]; rfl))) rfl ?_; refine l_neu (n_move rfl rfl) rfl ?_; refine l_guard rfl rfl rfl rfl (fun hg => by rw [hg]; exact n_field_ref rfl) ?_; refine l_guard rfl rfl rfl rfl (fun hg => by rw [hg]; exact n_load_ref rfl rfl rfl) ?_; refine l_guard rfl rfl rfl rfl (fun hg => by have hq := hg; (try simp at hq); rw [hg]; exact n_call1 (usingle_ok x.Text (by omega)) rfl rfl) ?_; refine l_guard rfl rfl rfl rfl (fun hg => by rw [hg]; exact n_not rfl) ?_; refine l_neu (n_pick_bool rfl (fun h => by first | rfl | (rw [h]; rfl)) (fun h => by first | rfl | (rw [h]; rfl))) rfl ?_; refine l_nil ?_
    refine k1 ?_
    refine c_cond rfl (fun ht => ?_) (fun ht => ?_)
    · simp only [kn32, kn45, kn43, and_pick, notB, or_pick] at ht
      have hb : badLn x := of_decide_eq_true ht
      refine k2 ?_
      refine c_region ?_; refine l_neu (n_assign rfl rfl) rfl ?_; refine l_nil ?_
      refine k1 ?_; refine k10 ?_; refine k11 ?_; refine k12 ?_; refine k11 ?_; refine k11 ?_; refine k12 ?_; refine k11 ?_
      refine ret_ret (ret1 rfl rfl rfl) ?_
      have : goodLn x = false := decide_eq_false (fun hh => hh hb)
      rw [hn2, this]; rfl
    · simp only [kn32, kn45, kn43, and_pick, notB, or_pick] at ht
      have hb : ¬ badLn x := of_decide_eq_false ht
      have hgl : goodLn x = true := decide_eq_true hb
      rw [hgl, Bool.true_and] at hn2
      refine k5 ?_; refine k1 ?_
      refine c_region ?_; refine l_neu (n_move rfl rfl) rfl ?_; refine l_neu (n_move rfl rfl) rfl ?_; refine l_guard rfl rfl rfl rfl (fun hg => by rw [hg]; exact n_field_ref rfl) ?_; refine l_guard rfl rfl rfl rfl (fun hg => by rw [hg]; exact n_load_ref rfl rfl rfl) ?_; refine l_guard rfl rfl rfl rfl (fun hg => by rw [hg]; exact n_neq rfl rfl) ?_; refine l_neu (n_pick_bool rfl (fun h => by first | rfl | (rw [h]; rfl)) (fun h => by first | rfl | (rw [h]; rfl))) rfl ?_; refine l_neu (n_assign rfl rfl) rfl ?_; refine l_nil ?_
      refine k4 ?_; refine k1 ?_
      refine c_region ?_; refine l_neu (n_add rfl rfl (by omega)) rfl ?_; refine l_neu (n_move rfl rfl) rfl ?_; refine l_nil ?_
      refine k1 ?_
      refine ⟨n + 1, ⟨by omega, hn2⟩, by omega, ?_⟩
      rw [kn32, ← hsucc]
      exact Sees.of ⟨le1 rfl, le1 rfl, le1 rfl, le1 rfl, trivial⟩ trivial
  · have hn' : n = h.Lines.length := by have := of_decide_eq_false ht; omega
    subst hn'
    rw [List.take_length]
    rw [List.drop_eq_nil_of_le (Nat.le_refl _)] at hn2
    refine k6 ?_; refine k2 ?_
    refine c_region ?_; refine l_neu (n_move rfl rfl) rfl ?_; refine l_neu (n_assign rfl rfl) rfl ?_; refine l_nil ?_
    refine k1 ?_; refine k10 ?_
    exact ret_ret (ret1 rfl rfl rfl) (by rw [hn2]; rfl)
theorem uline_met {gf : Fr} {ob : Obs} {k : Nat} {e : Int} {o : Bool} {t : Str} (hk : getO ob k = some (.box [.p (.v (.int .i64 e)), .p (.v (.bool o))])) (hs : t.length ≤ 1099511627776) :
    AL.Met Tryd.prog 99 [.one (.ref k 0), .one (.p (.v (.string ⟨t.toArray⟩)))] gf ob [] (fun rs ob' => rs = [.one (.p (.v (.bool (!o))))] ∧ ob' = (k, .box [.p (.v (.int .i64 e)), .p (.v (.bool (!ended t)))]) :: ob) := by
  refine AL.Met.intro Tryd.func99 (by decide) rfl rfl rfl ?_
  refine k2 ?_
  refine c_region ?_; refine l_neu (n_assign rfl rfl) rfl ?_; refine l_nil ?_
  refine k1 ?_; refine k2 ?_
  refine c_region ?_; refine l_neu (n_move rfl rfl) rfl ?_; refine l_neu (n_nilCheck_ref rfl) rfl ?_; refine l_neu (n_field_ref rfl) rfl ?_; refine l_neu (n_load_ref rfl hk rfl) rfl ?_; refine l_neu (n_not rfl) rfl ?_; refine l_neu (n_assign rfl rfl) rfl ?_; refine l_nil ?_
  refine k1 ?_; refine k2 ?_
  refine c_region ?_; refine l_neu (n_move rfl rfl) rfl ?_; refine l_neu (n_move rfl rfl) rfl ?_; refine l_call (tended_ok t hs) rfl rfl rfl ?_; rintro _ rfl; refine l_neu (n_not rfl) rfl ?_; refine l_neu (n_nilCheck_ref rfl) rfl ?_; refine l_neu (n_field_ref rfl) rfl ?_; refine l_eff (e_store_ref TySz.out rfl hk rfl rfl rfl rfl) ?_; refine l_nil ?_
  refine k1 ?_; refine k2 ?_
  refine c_region ?_; refine l_neu (n_move rfl rfl) rfl ?_; refine l_neu (n_assign rfl rfl) rfl ?_; refine l_nil ?_
  refine k1 ?_; refine k10 ?_
  exact met_ret (rets1 rfl rfl) (by repeat (first | exact tail_refl | refine tail_cons rfl ?_ | refine tail_forget _ ?_)) (fun _ _ h => h) ⟨rfl, rfl⟩
end Go.Proofs.YtjjidificdmnmaaDoor
namespace Go.Proofs.YtjjidificdmnmaaDoor
open Go Go.AL
set_option maxRecDepth 100000
end Go.Proofs.YtjjidificdmnmaaDoor
namespace Go.Proofs.YtjjidificdmnmaaDoor
open Go Go.AL
set_option maxRecDepth 100000
def wTo (p : Patch) (k : Nat) : Str := (namePs p ++ ((p.Hunks.take k).map hunkPs).flatten).flatten
theorem wTo_succ (p : Patch) (k : Nat) (h : k < p.Hunks.length) : wTo p (k + 1) = wTo p k ++ (hunkPs p.Hunks[k]).flatten := by
  unfold wTo
  rw [hunkTo_succ _ _ h]; simp only [List.flatten_append, List.append_assoc]
def lTo (ls : List PatchLine) (n : Nat) : Str := ((ls.take n).map linePs).flatten.flatten
theorem lTo_succ (ls : List PatchLine) (n : Nat) (h : n < ls.length) : lTo ls (n + 1) = lTo ls n ++ (linePs ls[n]).flatten := by
  unfold lTo; rw [lineTo_succ _ _ h, List.flatten_append]
theorem uwritten_ok (p : Patch) (hp : PFit p) (hrange : ∀ h ∈ p.Hunks, (-4611686018427387904 ≤ h.Old ∧ h.Old ≤ 4611686018427387904) ∧ (-4611686018427387904 ≤ h.New ∧ h.New ≤ 4611686018427387904)) : FnOk Tryd.prog 32 [pPatch p] (fun rs => rs = [pStr (writeOf p)]) := by
  have hsl := szP_len p.Hunks
  have hpl := hp.hunks
  have hpo := hp.old
  have hpn := hp.new
  have hq1 := quoteOf_len p.OldName
  have hq2 := quoteOf_len p.NewName
  have hnf := namePs_flat p
  have hw0 : wTo p 0 = [45, 45, 45, 32] ++ quoteOf p.OldName ++ [10, 43, 43, 43, 32] ++ quoteOf p.NewName ++ [10] := by
    unfold wTo namePs; simp
  have hwl : ∀ k, (wTo p k).length ≤ 33554446 + szP p.Hunks := fun k => by
    have h1 := hunksPs_flat (p.Hunks.take k)
    have h2 := szP_take p.Hunks k
    unfold wTo; rw [List.flatten_append, List.length_append]; omega
  refine FnOk.intro Tryd.func32 (by decide) rfl rfl rfl rfl ?_
  refine k2 ?_
  refine c_region ?_; refine l_effv (f_box 1 rfl rfl rfl) rfl ?_; refine l_neu (n_assign rfl rfl) rfl ?_; refine l_nil ?_
  refine k1 ?_; refine k2 ?_
  refine c_region ?_; refine l_effv (f_allocT 700 rfl) rfl ?_; refine l_nil ?_
  refine k1 ?_; refine k2 ?_
  refine c_sees (Sees.adoptT 701 UInt8 1 u8C 5 (kb := 700) (o := 1) rfl rfl rfl) ?_
  have hwl0 := hwl 0
  rw [hw0] at hwl0
  refine c_region_turn 10 (by kernel_rfl) (by kernel_rfl) rfl ?_; refine d_neu (n_field_ref rfl) rfl rfl ?_; refine d_neu (n_load_ref rfl rfl rfl) rfl rfl ?_; refine d_neu (n_call1 (squote_ok p.OldName (by omega)) rfl rfl) rfl rfl ?_; refine d_neu (n_add_s rfl rfl (by (simp only [List.length_cons, List.length_nil]; omega))) rfl rfl ?_; refine d_neu (n_add_s rfl rfl (by (simp only [List.length_append, List.length_cons, List.length_nil]; omega))) rfl rfl ?_; refine d_neu (n_field_ref rfl) rfl rfl ?_; refine d_neu (n_load_ref rfl rfl rfl) rfl rfl ?_; refine d_neu (n_call1 (squote_ok p.NewName (by omega)) rfl rfl) rfl rfl ?_; refine d_neu (n_add_s rfl rfl (by (simp only [List.length_append, List.length_cons, List.length_nil]; omega))) rfl rfl ?_; refine d_neu (n_add_s rfl rfl (by (simp only [List.length_append, List.length_cons, List.length_nil]; omega))) rfl rfl ?_; refine d_nil ?_; refine met_step (writeString_met (xs := []) ⟨⟨_, .inl rfl, rfl⟩, rfl⟩ (by simp only [List.length_nil]; omega)) rfl rfl rfl ?_; rintro _ _ ⟨rfl, rfl⟩; refine ⟨_, rfl, ?_⟩; refine d_nil ?_
  rw [← hw0]
  refine k1 ?_; refine k2 ?_; refine k2 ?_
  refine c_region ?_; refine l_neu (n_field_ref rfl) rfl ?_; refine l_neu (n_load_ref rfl rfl rfl) rfl ?_; refine l_neu (n_len rfl (.pure _ _ _ _)) rfl ?_; refine l_neu (n_move rfl rfl) rfl ?_; refine l_nil ?_
  refine k1 ?_; refine k3 ?_
  refine c_while (X := Nat) (fun k => ([(3, .s (.one (.ref 700 0))), (20, sList PatchHunk 3 phunkC p.Hunks), (21, sInt p.Hunks.length), (22, sInt k)], [(700, .tbx 114 [.ref 700 0, .buf 701 UInt8 1 u8C (wTo p k)]), (701, .spare (wTo p k).length 1 5)])) (fun k => k ≤ p.Hunks.length) (fun k => p.Hunks.length - k) 0 (Nat.zero_le _) (Sees.of ⟨le1 rfl, le1 rfl, le1 rfl, le1 rfl, trivial⟩ ⟨rfl, rfl, trivial⟩) ?_
  intro k hk
  dsimp only at hk ⊢
  refine k2 ?_
  refine c_region ?_; refine l_neu (n_lss rfl rfl) rfl ?_; refine l_nil ?_
  refine k1 ?_; refine k2 ?_
  refine c_cond rfl (fun ht => ?_) (fun ht => ?_)
  · have hlt : k < p.Hunks.length := by have := of_decide_eq_true ht; omega
    have hv : p.Hunks[k]? = some p.Hunks[k] := by simp [hlt]
    have hmem : p.Hunks[k] ∈ p.Hunks := List.getElem_mem hlt
    have hsucc := wTo_succ p k hlt
    have hwk := hwl k
    obtain ⟨h, hx⟩ : ∃ x, x = p.Hunks[k] := ⟨_, rfl⟩
    rw [← hx] at hv hmem hsucc
    have h1 := szP_mem hmem
    have h3 := szL_len h.Lines
    have h4 := headW_len h
    have hr := hrange h hmem
    unfold szH at h1
    obtain ⟨base, hbase⟩ : ∃ base, base = wTo p k := ⟨_, rfl⟩
    rw [← hbase] at hsucc hwk ⊢
    refine k5 ?_; refine k1 ?_; refine k2 ?_; refine k3 ?_; refine k2 ?_
    refine c_region ?_; refine l_neu (n_indexAddr rfl (.pure _ _ _ _) rfl (by omega) hv) rfl ?_; refine l_neu (n_loads_eref rfl rfl) rfl ?_; refine l_effv (f_alloc 5 rfl) rfl ?_; refine l_eff (e_store_ref TySz.out rfl rfl rfl rfl rfl rfl) ?_; refine l_nil ?_
    refine k1 ?_; refine k2 ?_
    refine c_region ?_; refine l_neu (n_loads_ref rfl rfl rfl) rfl ?_; refine l_call (uheader_ok h (by omega) hr.1 hr.2) rfl rfl rfl ?_; rintro _ rfl; refine l_met (writeString_met (xs := base) (s := headW h) ⟨⟨_, .inr rfl, rfl⟩, rfl⟩ (by omega)) rfl rfl rfl ?_; rintro _ _ ⟨rfl, rfl⟩; refine l_nil ?_
    refine k1 ?_; refine k2 ?_
    refine c_region ?_; refine l_neu (n_field_ref rfl) rfl ?_; refine l_neu (n_load_ref rfl rfl rfl) rfl ?_; refine l_neu (n_len rfl (.pure _ _ _ _)) rfl ?_; refine l_neu (n_move rfl rfl) rfl ?_; refine l_nil ?_
    refine k1 ?_; refine k3 ?_
    refine c_while (X := Nat) (fun n => ([(3, .s (.one (.ref 700 0))), (20, sList PatchHunk 3 phunkC p.Hunks), (21, sInt p.Hunks.length), (22, sInt k), (30, sList PatchLine 2 plineC h.Lines), (31, sInt h.Lines.length), (32, sInt n)], [(700, .tbx 114 [.ref 700 0, .buf 701 UInt8 1 u8C (base ++ headW h ++ lTo h.Lines n)]), (701, .spare (base ++ headW h ++ lTo h.Lines n).length 1 5)])) (fun n => n ≤ h.Lines.length) (fun n => h.Lines.length - n) 0 (Nat.zero_le _) ?_ ?_
    · have e : base ++ headW h ++ lTo h.Lines 0 = base ++ headW h := by simp [lTo]
      rw [e]
      exact Sees.of ⟨le1 rfl, le1 rfl, le1 rfl, le1 rfl, le1 rfl, le1 rfl, le1 rfl, trivial⟩ ⟨rfl, rfl, trivial⟩
    intro n hn1
    dsimp only at hn1 ⊢
    have hll := linesPs_flat (h.Lines.take n)
    have hl2 := szL_take h.Lines n
    have hlt0 : (lTo h.Lines n).length ≤ (h.Lines.map szL).sum := by unfold lTo; omega
    refine k2 ?_
    refine c_region ?_; refine l_neu (n_lss rfl rfl) rfl ?_; refine l_nil ?_
    refine k1 ?_; refine k2 ?_
    refine c_cond rfl (fun ht => ?_) (fun ht => ?_)
    · have hlt2 : n < h.Lines.length := by have := of_decide_eq_true ht; omega
      have hv2 : h.Lines[n]? = some h.Lines[n] := by simp [hlt2]
      have hmem2 := szL_mem (List.getElem_mem hlt2)
      have hsucc2 := lTo_succ h.Lines n hlt2
      obtain ⟨x, hx2⟩ : ∃ x, x = h.Lines[n] := ⟨_, rfl⟩
      rw [← hx2] at hv2 hmem2 hsucc2
      obtain ⟨bs, hbs⟩ : ∃ bs, bs = base ++ headW h ++ lTo h.Lines n := ⟨_, rfl⟩
      have hbl : bs.length ≤ 33554446 + szP p.Hunks + 52 + szP p.Hunks := by rw [hbs, List.length_append, List.length_append]; omega
      rw [← hbs]
      have hm29 : markS.length = 29 := rfl
      refine k5 ?_; refine k1 ?_; refine k2 ?_; refine k3 ?_; refine k2 ?_
      refine c_region ?_; refine l_neu (n_indexAddr rfl (.pure _ _ _ _) rfl (by omega) hv2) rfl ?_; refine l_neu (n_loads_eref rfl rfl) rfl ?_; refine l_effv (f_alloc 7 rfl) rfl ?_; refine l_eff (e_store_ref TySz.out rfl rfl rfl rfl rfl rfl) ?_; refine l_nil ?_
      refine k1 ?_; refine k2 ?_
      refine c_region ?_; refine l_neu (n_field_ref rfl) rfl ?_; refine l_neu (n_load_ref rfl rfl rfl) rfl ?_; refine l_met (writeByte_met (xs := bs) (c := x.Kind) ⟨⟨_, .inr rfl, rfl⟩, rfl⟩ (by omega)) rfl rfl rfl ?_; rintro _ _ ⟨rfl, rfl⟩; refine l_nil ?_
      refine k1 ?_; refine k2 ?_
      refine c_region ?_; refine l_neu (n_field_ref rfl) rfl ?_; refine l_neu (n_load_ref rfl rfl rfl) rfl ?_; refine l_met (writeString_met (xs := bs ++ [x.Kind]) (s := x.Text) ⟨⟨_, .inr rfl, rfl⟩, rfl⟩ (by simp only [List.length_append, List.length_cons, List.length_nil]; omega)) rfl rfl rfl ?_; rintro _ _ ⟨rfl, rfl⟩; refine l_nil ?_
      refine k1 ?_; refine k2 ?_
      refine c_region ?_; refine l_neu (n_field_ref rfl) rfl ?_; refine l_neu (n_load_ref rfl rfl rfl) rfl ?_; refine l_call (tended_ok x.Text (by omega)) rfl rfl rfl ?_; rintro _ rfl; refine l_neu (n_not rfl) rfl ?_; refine l_nil ?_
      refine k1 ?_
      refine c_cond rfl (fun ht => ?_) (fun ht => ?_)
      · have h2 : ended x.Text = false := by simpa using ht
        have e : base ++ headW h ++ lTo h.Lines (n + 1) = bs ++ [x.Kind] ++ x.Text ++ markS := by
          rw [hsucc2, hbs, linePs, h2]; simp
        skip
        refine c_region ?_; refine l_met (writeString_met (xs := bs ++ [x.Kind] ++ x.Text) (s := markS) ⟨⟨_, .inr rfl, rfl⟩, rfl⟩ (by simp only [List.length_append, List.length_cons, List.length_nil]; omega)) rfl rfl rfl ?_; rintro _ _ ⟨rfl, rfl⟩; refine l_nil ?_
        refine k4 ?_; refine k1 ?_
        refine c_region ?_; refine l_neu (n_add rfl rfl (by omega)) rfl ?_; refine l_neu (n_move rfl rfl) rfl ?_; refine l_nil ?_
        refine k1 ?_
        refine ⟨n + 1, by omega, by omega, ?_⟩
        rw [e]
        exact Sees.of ⟨le1 rfl, le1 rfl, le1 rfl, le1 rfl, le1 rfl, le1 rfl, le1 rfl, trivial⟩ ⟨rfl, rfl, trivial⟩
      · have h2 : ended x.Text = true := by simpa using ht
        have e : base ++ headW h ++ lTo h.Lines (n + 1) = bs ++ [x.Kind] ++ x.Text := by
          rw [hsucc2, hbs, linePs, h2]; simp
        refine k5 ?_; refine k4 ?_; refine k1 ?_
        refine c_region ?_; refine l_neu (n_add rfl rfl (by omega)) rfl ?_; refine l_neu (n_move rfl rfl) rfl ?_; refine l_nil ?_
        refine k1 ?_
        refine ⟨n + 1, by omega, by omega, ?_⟩
        rw [e]
        exact Sees.of ⟨le1 rfl, le1 rfl, le1 rfl, le1 rfl, le1 rfl, le1 rfl, le1 rfl, trivial⟩ ⟨rfl, rfl, trivial⟩
    · have hn' : n = h.Lines.length := by have := of_decide_eq_false ht; omega
      subst hn'
      have e : wTo p (k + 1) = base ++ headW h ++ lTo h.Lines h.Lines.length := by
        rw [hsucc, hunkPs, lTo, List.take_length]; simp
      rw [← e]
      refine k6 ?_; refine k7 ?_; refine k7 ?_; refine k8 rfl ?_; refine k4 ?_; refine k1 ?_
      refine c_region ?_; refine l_neu (n_add rfl rfl (by omega)) rfl ?_; refine l_neu (n_move rfl rfl) rfl ?_; refine l_nil ?_
      refine k1 ?_
      exact ⟨k + 1, by omega, by omega, Sees.of ⟨le1 rfl, le1 rfl, le1 rfl, le1 rfl, trivial⟩ ⟨rfl, rfl, trivial⟩⟩
  · have hk' : k = p.Hunks.length := by have := of_decide_eq_false ht; omega
    subst hk'
    have e : wTo p p.Hunks.length = writeOf p := by unfold wTo writeOf writePs; rw [List.take_length]
    rw [e]
    refine k6 ?_; refine k2 ?_
    refine c_region ?_; refine l_bstring (k := 700) (k' := 701) ⟨_, rfl, rfl, rfl⟩ bstring_calls rfl rfl rfl rfl rfl (.inr rfl) rfl ?_; refine l_neu (n_assign rfl rfl) rfl ?_; refine l_nil ?_
    refine k1 ?_; refine k10 ?_
    exact ret_ret (ret1 rfl rfl rfl) rfl
end Go.Proofs.YtjjidificdmnmaaDoor
namespace Go.Proofs.YtjjidificdmnmaaDoor
open Go Go.AL
set_option maxRecDepth 100000
theorem usize_ok (p : Patch) (hp : PFit p) (hrange : ∀ h ∈ p.Hunks, (-4611686018427387904 ≤ h.Old ∧ h.Old ≤ 4611686018427387904) ∧ (-4611686018427387904 ≤ h.New ∧ h.New ≤ 4611686018427387904)) : FnOk Tryd.prog 26 [pPatch p] (fun rs => rs = [pInt (writeOf p).length]) := by
  have hsl := szP_len p.Hunks
  have hpl := hp.hunks
  have hpo := hp.old
  have hpn := hp.new
  have hnf := namePs_flat p
  have hw0 : (writeOf ⟨p.OldName, p.NewName, []⟩).length = (wTo p 0).length := by
    unfold writeOf wTo writePs namePs; simp
  have hwl : ∀ k, (wTo p k).length ≤ 33554446 + szP p.Hunks := fun k => by
    have h1 := hunksPs_flat (p.Hunks.take k)
    have h2 := szP_take p.Hunks k
    unfold wTo; rw [List.flatten_append, List.length_append]; omega
  refine FnOk.intro Tryd.func26 (by decide) rfl rfl rfl rfl ?_
  refine k2 ?_
  refine c_region ?_; refine l_effv (f_box 1 rfl rfl rfl) rfl ?_; refine l_neu (n_assign rfl rfl) rfl ?_; refine l_nil ?_
  refine k1 ?_; refine k2 ?_
  refine c_region ?_; refine l_neu (n_field_ref rfl) rfl ?_; refine l_neu (n_load_ref rfl rfl rfl) rfl ?_; refine l_neu (n_field_ref rfl) rfl ?_; refine l_neu (n_load_ref rfl rfl rfl) rfl ?_; refine l_neu (n_build rfl) rfl ?_; refine l_sees (Sees.aggNil PatchHunk 3 phunkC 12 2 rfl rfl) ?_; refine l_call (uwritten_ok ⟨p.OldName, p.NewName, []⟩ ⟨by dsimp only; omega, by dsimp only; omega, by simp [szP]⟩ (by simp)) rfl rfl rfl ?_; rintro _ rfl; refine l_neu (n_len_s rfl) rfl ?_; refine l_neu (n_assign rfl rfl) rfl ?_; refine l_nil ?_
  rw [hw0]
  refine k1 ?_; refine k2 ?_; refine k2 ?_
  refine c_region ?_; refine l_neu (n_field_ref rfl) rfl ?_; refine l_neu (n_load_ref rfl rfl rfl) rfl ?_; refine l_neu (n_len rfl (.pure _ _ _ _)) rfl ?_; refine l_neu (n_move rfl rfl) rfl ?_; refine l_nil ?_
  refine k1 ?_; refine k3 ?_
  refine c_while (X := Nat) (fun k => ([(3, sInt (wTo p k).length), (16, sList PatchHunk 3 phunkC p.Hunks), (17, sInt p.Hunks.length), (18, sInt k)], [])) (fun k => k ≤ p.Hunks.length) (fun k => p.Hunks.length - k) 0 (Nat.zero_le _) (Sees.of ⟨le1 rfl, le1 rfl, le1 rfl, le1 rfl, trivial⟩ trivial) ?_
  intro k hk
  dsimp only at hk ⊢
  have hwk := hwl k
  refine k2 ?_
  refine c_region ?_; refine l_neu (n_lss rfl rfl) rfl ?_; refine l_nil ?_
  refine k1 ?_; refine k2 ?_
  refine c_cond rfl (fun ht => ?_) (fun ht => ?_)
  · have hlt : k < p.Hunks.length := by have := of_decide_eq_true ht; omega
    have hv : p.Hunks[k]? = some p.Hunks[k] := by simp [hlt]
    have hmem : p.Hunks[k] ∈ p.Hunks := List.getElem_mem hlt
    have hsucc := wTo_succ p k hlt
    obtain ⟨h, hx⟩ : ∃ x, x = p.Hunks[k] := ⟨_, rfl⟩
    rw [← hx] at hv hmem hsucc
    have h1 := szP_mem hmem
    have h3 := szL_len h.Lines
    have h4 := headW_len h
    have hr := hrange h hmem
    unfold szH at h1
    obtain ⟨base, hbase⟩ : ∃ base, base = (wTo p k).length := ⟨_, rfl⟩
    rw [← hbase] at hwk ⊢
    have hsl2 : (wTo p (k + 1)).length = base + (headW h).length + (lTo h.Lines h.Lines.length).length := by
      rw [hsucc, hunkPs, lTo, List.take_length, hbase]; simp; omega
    refine k5 ?_; refine k1 ?_; refine k2 ?_; refine k3 ?_; refine k2 ?_
    refine c_region ?_; refine l_neu (n_indexAddr rfl (.pure _ _ _ _) rfl (by omega) hv) rfl ?_; refine l_neu (n_loads_eref rfl rfl) rfl ?_; refine l_effv (f_alloc 5 rfl) rfl ?_; refine l_eff (e_store_ref TySz.out rfl rfl rfl rfl rfl rfl) ?_; refine l_nil ?_
    refine k1 ?_; refine k2 ?_
    refine c_region ?_; refine l_neu (n_move rfl rfl) rfl ?_; refine l_neu (n_loads_ref rfl rfl rfl) rfl ?_; refine l_call (uheader_ok h (by omega) hr.1 hr.2) rfl rfl rfl ?_; rintro _ rfl; refine l_neu (n_len_s rfl) rfl ?_; refine l_neu (n_add rfl rfl (by omega)) rfl ?_; refine l_neu (n_assign rfl rfl) rfl ?_; refine l_nil ?_
    refine k1 ?_; refine k2 ?_
    refine c_region ?_; refine l_neu (n_field_ref rfl) rfl ?_; refine l_neu (n_load_ref rfl rfl rfl) rfl ?_; refine l_neu (n_len rfl (.pure _ _ _ _)) rfl ?_; refine l_neu (n_move rfl rfl) rfl ?_; refine l_nil ?_
    refine k1 ?_; refine k3 ?_
    refine c_while (X := Nat) (fun n => ([(3, sInt (base + (headW h).length + (lTo h.Lines n).length : Nat)), (16, sList PatchHunk 3 phunkC p.Hunks), (17, sInt p.Hunks.length), (18, sInt k), (28, sList PatchLine 2 plineC h.Lines), (29, sInt h.Lines.length), (30, sInt n)], [])) (fun n => n ≤ h.Lines.length) (fun n => h.Lines.length - n) 0 (Nat.zero_le _) ?_ ?_
    · have e : ((base + (headW h).length + (lTo h.Lines 0).length : Nat) : Int) = (base : Int) + ((headW h).length : Int) := by simp [lTo]
      rw [e]
      exact Sees.of ⟨le1 rfl, le1 rfl, le1 rfl, le1 rfl, le1 rfl, le1 rfl, le1 rfl, trivial⟩ trivial
    intro n hn1
    dsimp only at hn1 ⊢
    have hll := linesPs_flat (h.Lines.take n)
    have hl2 := szL_take h.Lines n
    have hlt0 : (lTo h.Lines n).length ≤ (h.Lines.map szL).sum := by unfold lTo; omega
    refine k2 ?_
    refine c_region ?_; refine l_neu (n_lss rfl rfl) rfl ?_; refine l_nil ?_
    refine k1 ?_; refine k2 ?_
    refine c_cond rfl (fun ht => ?_) (fun ht => ?_)
    · have hlt2 : n < h.Lines.length := by have := of_decide_eq_true ht; omega
      have hv2 : h.Lines[n]? = some h.Lines[n] := by simp [hlt2]
      have hmem2 := szL_mem (List.getElem_mem hlt2)
      have hsucc2 := lTo_succ h.Lines n hlt2
      obtain ⟨x, hx2⟩ : ∃ x, x = h.Lines[n] := ⟨_, rfl⟩
      rw [← hx2] at hv2 hmem2 hsucc2
      have hm29 : markS.length = 29 := rfl
      refine k5 ?_; refine k1 ?_; refine k2 ?_; refine k3 ?_; refine k2 ?_
      refine c_region ?_; refine l_neu (n_indexAddr rfl (.pure _ _ _ _) rfl (by omega) hv2) rfl ?_; refine l_neu (n_loads_eref rfl rfl) rfl ?_; refine l_effv (f_alloc 7 rfl) rfl ?_; refine l_eff (e_store_ref TySz.out rfl rfl rfl rfl rfl rfl) ?_; refine l_nil ?_
      refine k1 ?_; refine k2 ?_
      refine c_region ?_; refine l_neu (n_move rfl rfl) rfl ?_; refine l_neu (n_field_ref rfl) rfl ?_; refine l_neu (n_load_ref rfl rfl rfl) rfl ?_; refine l_neu (n_len_s rfl) rfl ?_; refine l_neu (n_add rfl rfl (by omega)) rfl ?_; refine l_neu (n_add rfl rfl (by omega)) rfl ?_; refine l_neu (n_assign rfl rfl) rfl ?_; refine l_nil ?_
      refine k1 ?_; refine k2 ?_
      refine c_region ?_; refine l_neu (n_field_ref rfl) rfl ?_; refine l_neu (n_load_ref rfl rfl rfl) rfl ?_; refine l_call (tended_ok x.Text (by omega)) rfl rfl rfl ?_; rintro _ rfl; refine l_neu (n_not rfl) rfl ?_; refine l_nil ?_
      refine k1 ?_
      refine c_cond rfl (fun ht => ?_) (fun ht => ?_)
      · have h2 : ended x.Text = false := by simpa using ht
        have e : ((base + (headW h).length + (lTo h.Lines (n + 1)).length : Nat) : Int) = ((base + (headW h).length + (lTo h.Lines n).length : Nat) : Int) + (1 + (x.Text.length : Int)) + 29 := by
          rw [hsucc2, linePs, h2]; simp [hm29]; omega
        skip
        refine c_region ?_; refine l_neu (n_move rfl rfl) rfl ?_; refine l_neu (n_add rfl rfl (by omega)) rfl ?_; refine l_neu (n_assign rfl rfl) rfl ?_; refine l_nil ?_
        refine k4 ?_; refine k1 ?_
        refine c_region ?_; refine l_neu (n_add rfl rfl (by omega)) rfl ?_; refine l_neu (n_move rfl rfl) rfl ?_; refine l_nil ?_
        refine k1 ?_
        refine ⟨n + 1, by omega, by omega, ?_⟩
        rw [e]
        exact Sees.of ⟨le1 rfl, le1 rfl, le1 rfl, le1 rfl, le1 rfl, le1 rfl, le1 rfl, trivial⟩ trivial
      · have h2 : ended x.Text = true := by simpa using ht
        have e : ((base + (headW h).length + (lTo h.Lines (n + 1)).length : Nat) : Int) = ((base + (headW h).length + (lTo h.Lines n).length : Nat) : Int) + (1 + (x.Text.length : Int)) := by
          rw [hsucc2, linePs, h2]; simp; omega
        refine k5 ?_; refine k4 ?_; refine k1 ?_
        refine c_region ?_; refine l_neu (n_add rfl rfl (by omega)) rfl ?_; refine l_neu (n_move rfl rfl) rfl ?_; refine l_nil ?_
        refine k1 ?_
        refine ⟨n + 1, by omega, by omega, ?_⟩
        rw [e]
        exact Sees.of ⟨le1 rfl, le1 rfl, le1 rfl, le1 rfl, le1 rfl, le1 rfl, le1 rfl, trivial⟩ trivial
    · have hn' : n = h.Lines.length := by have := of_decide_eq_false ht; omega
      subst hn'
      rw [← hsl2]
      refine k6 ?_; refine k7 ?_; refine k7 ?_; refine k8 rfl ?_; refine k4 ?_; refine k1 ?_
      refine c_region ?_; refine l_neu (n_add rfl rfl (by omega)) rfl ?_; refine l_neu (n_move rfl rfl) rfl ?_; refine l_nil ?_
      refine k1 ?_
      exact ⟨k + 1, by omega, by omega, Sees.of ⟨le1 rfl, le1 rfl, le1 rfl, le1 rfl, trivial⟩ trivial⟩
  · have hk' : k = p.Hunks.length := by have := of_decide_eq_false ht; omega
    subst hk'
    have e : wTo p p.Hunks.length = writeOf p := by unfold wTo writeOf writePs; rw [List.take_length]
    rw [e]
    refine k6 ?_; refine k2 ?_
    refine c_region ?_; refine l_neu (n_move rfl rfl) rfl ?_; refine l_neu (n_assign rfl rfl) rfl ?_; refine l_nil ?_
    refine k1 ?_; refine k10 ?_
    exact ret_ret (ret1 rfl rfl rfl) rfl
end Go.Proofs.YtjjidificdmnmaaDoor
namespace Go.Proofs.YtjjidificdmnmaaDoor
open Go Go.AL
set_option maxRecDepth 100000
abbrev sideBox (e : Int) (o : Bool) : Ob := .box [.p (.v (.int .i64 e)), .p (.v (.bool o))]
theorem uplaced_met {gf : Fr} (h h' : PatchHunk) (i j : Int) (o n : Bool) (hl : (h.Lines.map szL).sum ≤ 268435456) (hi : 0 ≤ i ∧ i ≤ 8192) (hj : 0 ≤ j ∧ j ≤ 8192) (hf3 : frFree 3 gf = true) (hf8 : frFree 8 gf = true) :
    AL.Met Tryd.prog 82 [(pPhunk h).s1, .one (.ref 710 0), .one (.ref 711 0)] gf [(6, .box (pPhunk h').s1.cells), (710, sideBox i o), (711, sideBox j n)] []
      (fun rs ob' => ∃ b, rs = [.one (.p (.v (.bool b)))] ∧ b = (decide (¬ badPlace i j h) && match openGo o n h.Lines with
        | none => false
        | some _ => decide (h.Old + oldN h ≤ 4096 ∧ h.New + newN h ≤ 4096)) ∧
        (b = true → ∃ o' n', openGo o n h.Lines = some (o', n') ∧ ob' = [(6, .box (pPhunk h').s1.cells), (710, sideBox (h.Old + oldN h) o'), (711, sideBox (h.New + newN h) n')])) := by
  refine AL.Met.introH Tryd.func82 (by decide) rfl rfl rfl (fun hH => ?_)
  refine k2 ?_
  refine c_region ?_; refine l_effv (f_box 3 rfl rfl (show ((frFree 3 gf && true) && true) = true by rw [hf3]; rfl)) rfl ?_; refine l_neu (n_assign rfl rfl) rfl ?_; refine l_nil ?_
  refine k1 ?_; refine k2 ?_; refine k2 ?_
  refine c_region_draw (by kernel_rfl) (by kernel_rfl) ?_; refine d_neu (n_field_ref rfl) rfl rfl ?_; refine d_neu (n_load_ref rfl rfl rfl) rfl rfl ?_; refine d_neu (n_lss rfl rfl) rfl rfl ?_; refine d_neu (n_move rfl rfl) rfl rfl ?_; refine d_guard rfl rfl (fun hg => by rw [hg]; exact n_field_ref rfl) rfl rfl ?_; refine d_guard rfl rfl (fun hg => by rw [hg]; exact n_load_ref rfl rfl rfl) rfl rfl ?_; refine d_guard rfl rfl (fun hg => by rw [hg]; exact n_lss rfl rfl) rfl rfl ?_; refine d_neu (n_pick_bool rfl (fun h => by first | rfl | (rw [h]; rfl)) (fun h => by first | rfl | (rw [h]; rfl))) rfl rfl ?_; refine d_neu (n_move rfl rfl) rfl rfl ?_; refine d_guard rfl rfl (fun hg => by rw [hg]; exact n_field_ref rfl) rfl rfl ?_; refine d_guard rfl rfl (fun hg => by rw [hg]; exact n_load_ref rfl rfl rfl) rfl rfl ?_; refine d_guard rfl rfl (fun hg => by rw [hg]; exact n_gtr rfl rfl) rfl rfl ?_; refine d_neu (n_pick_bool rfl (fun h => by first | rfl | (rw [h]; rfl)) (fun h => by first | rfl | (rw [h]; rfl))) rfl rfl ?_; refine d_neu (n_move rfl rfl) rfl rfl ?_; refine d_guard rfl rfl (fun hg => by rw [hg]; exact n_field_ref rfl) rfl rfl ?_; refine d_guard rfl rfl (fun hg => by rw [hg]; exact n_load_ref rfl rfl rfl) rfl rfl ?_; refine d_guard rfl rfl (fun hg => by rw [hg]; exact n_gtr rfl rfl) rfl rfl ?_; refine d_neu (n_pick_bool rfl (fun h => by first | rfl | (rw [h]; rfl)) (fun h => by first | rfl | (rw [h]; rfl))) rfl rfl ?_; refine d_neu (n_move rfl rfl) rfl rfl ?_; refine d_guard rfl rfl (fun hg => by rw [hg]; exact n_field_ref rfl) rfl rfl ?_; refine d_guard rfl rfl (fun hg => by rw [hg]; exact n_load_ref rfl rfl rfl) rfl rfl ?_; refine d_guard rfl rfl (fun hg => by rw [hg]; exact n_move rfl rfl) rfl rfl ?_; refine d_guard rfl rfl (fun hg => by rw [hg]; exact n_nilCheck_ref rfl) rfl rfl ?_; refine d_guard rfl rfl (fun hg => by rw [hg]; exact n_field_ref rfl) rfl rfl ?_; refine d_guard rfl rfl (fun hg => by rw [hg]; exact n_load_ref rfl rfl rfl) rfl rfl ?_; refine d_guard rfl rfl (fun hg => by rw [hg]; exact n_lss rfl rfl) rfl rfl ?_; refine d_neu (n_pick_bool rfl (fun h => by first | rfl | (rw [h]; rfl)) (fun h => by first | rfl | (rw [h]; rfl))) rfl rfl ?_; refine d_neu (n_move rfl rfl) rfl rfl ?_; refine d_guard rfl rfl (fun hg => by rw [hg]; exact n_field_ref rfl) rfl rfl ?_; refine d_guard rfl rfl (fun hg => by rw [hg]; exact n_load_ref rfl rfl rfl) rfl rfl ?_; refine d_guard rfl rfl (fun hg => by rw [hg]; exact n_move rfl rfl) rfl rfl ?_; refine d_guard rfl rfl (fun hg => by rw [hg]; exact n_nilCheck_ref rfl) rfl rfl ?_; refine d_guard rfl rfl (fun hg => by rw [hg]; exact n_field_ref rfl) rfl rfl ?_; refine d_guard rfl rfl (fun hg => by rw [hg]; exact n_load_ref rfl rfl rfl) rfl rfl ?_; refine d_guard rfl rfl (fun hg => by have hq := hg; (try simp at hq); rw [hg]; exact n_sub rfl rfl (by omega)) rfl rfl ?_; refine d_guard rfl rfl (fun hg => by rw [hg]; exact n_field_ref rfl) rfl rfl ?_; refine d_guard rfl rfl (fun hg => by rw [hg]; exact n_load_ref rfl rfl rfl) rfl rfl ?_
  refine d_guard rfl rfl (fun hg => by rw [hg]; exact n_move rfl rfl) rfl rfl ?_; refine d_guard rfl rfl (fun hg => by rw [hg]; exact n_nilCheck_ref rfl) rfl rfl ?_; refine d_guard rfl rfl (fun hg => by rw [hg]; exact n_field_ref rfl) rfl rfl ?_; refine d_guard rfl rfl (fun hg => by rw [hg]; exact n_load_ref rfl rfl rfl) rfl rfl ?_; refine d_guard rfl rfl (fun hg => by have hq := hg; (try simp at hq); rw [hg]; exact n_sub rfl rfl (by omega)) rfl rfl ?_; refine d_guard rfl rfl (fun hg => by rw [hg]; exact n_neq rfl rfl) rfl rfl ?_; refine d_neu (n_pick_bool rfl (fun h => by first | rfl | (rw [h]; rfl)) (fun h => by first | rfl | (rw [h]; rfl))) rfl rfl ?_; refine d_nil ?_
  refine k1 ?_
  refine c_cond rfl (fun ht => ?_) (fun ht => ?_)
  · simp only [or_pick] at ht
    have hb : badPlace i j h := of_decide_eq_true ht
    refine k2 ?_
    refine c_region ?_; refine l_neu (n_assign rfl rfl) rfl ?_; refine l_nil ?_
    refine k1 ?_; refine k10 ?_; refine k11 ?_
    refine met_ret (rets1 rfl rfl) (by repeat (first | exact tail_refl | refine tail_cons rfl ?_ | refine tail_forget _ ?_)) (fun _ _ h => h) ⟨false, rfl, by rw [decide_eq_false (fun hh => hh hb)]; rfl, fun hh => by cases hh⟩
  · simp only [or_pick] at ht
    have hb : ¬ badPlace i j h := of_decide_eq_false ht
    have hln := szL_len h.Lines
    refine k5 ?_; refine k1 ?_; refine k2 ?_; refine k2 ?_
    refine c_region ?_; refine l_neu (n_field_ref rfl) rfl ?_; refine l_neu (n_load_ref rfl rfl rfl) rfl ?_; refine l_neu (n_len rfl (.pure _ _ _ _)) rfl ?_; refine l_neu (n_move rfl rfl) rfl ?_; refine l_nil ?_
    refine k1 ?_; refine k3 ?_
    refine c_while (X := Nat × Bool × Bool) (fun z => ([(1, .s (.one (.ref 710 0))), (2, .s (.one (.ref 711 0))), (3, .s (.one (.ref 3 0))), (56, sList PatchLine 2 plineC h.Lines), (57, sInt h.Lines.length), (58, sInt z.1)] ++ gf, [(3, .box (pPhunk h).s1.cells), (6, .box (pPhunk h').s1.cells), (710, sideBox i z.2.1), (711, sideBox j z.2.2)])) (fun z => z.1 ≤ h.Lines.length ∧ openGo o n h.Lines = openGo z.2.1 z.2.2 (h.Lines.drop z.1)) (fun z => h.Lines.length - z.1) (0, o, n) ⟨Nat.zero_le _, rfl⟩ ?_ ?_
    · exact Sees.tailed ⟨le1 rfl, le1 rfl, le1 rfl, le1 rfl, le1 rfl, le1 rfl, trivial⟩ hH (by repeat (first | exact tail_refl | refine tail_cons rfl ?_)) (fun _ _ hh => hh)
    rintro ⟨k, ok, nk⟩ ⟨hk, hp⟩
    dsimp only at hk hp ⊢
    refine k2 ?_
    refine c_region ?_; refine l_neu (n_lss rfl rfl) rfl ?_; refine l_nil ?_
    refine k1 ?_; refine k2 ?_
    refine c_cond rfl (fun ht => ?_) (fun ht => ?_)
    · have hlt : k < h.Lines.length := by have := of_decide_eq_true ht; omega
      have hv : h.Lines[k]? = some h.Lines[k] := by simp [hlt]
      have hmem2 := szL_mem (List.getElem_mem hlt)
      rw [List.drop_eq_getElem_cons hlt, openGo] at hp
      obtain ⟨x, hx⟩ : ∃ x, x = h.Lines[k] := ⟨_, rfl⟩
      rw [← hx] at hv hmem2 hp
      refine k5 ?_; refine k1 ?_; refine k2 ?_; refine k3 ?_; refine k2 ?_
      refine c_region ?_; refine l_neu (n_indexAddr rfl (.pure _ _ _ _) rfl (by omega) hv) rfl ?_; refine l_neu (n_loads_eref rfl rfl) rfl ?_; refine l_effv (f_alloc 8 (show ((frFree 8 gf && true) = true) by rw [hf8]; rfl)) rfl ?_; refine l_eff (e_store_ref TySz.out rfl rfl rfl rfl rfl rfl) ?_; refine l_nil ?_
      refine k1 ?_; refine k2 ?_
      refine c_cut ([(1, .s (.one (.ref 710 0))), (2, .s (.one (.ref 711 0))), (3, .s (.one (.ref 3 0))), (8, .s (.one (.ref 8 0))), (56, sList PatchLine 2 plineC h.Lines), (57, sInt h.Lines.length), (58, sInt k)] ++ gf) [(8, .box [.p (.v (.int .u8 x.Kind.toNat)), .p (.v (.string ⟨x.Text.toArray⟩))]), (3, .box (pPhunk h).s1.cells), (6, .box (pPhunk h').s1.cells), (710, sideBox i ok), (711, sideBox j nk)] (Sees.tailed ⟨le1 rfl, le1 rfl, le1 rfl, le1 rfl, le1 rfl, le1 rfl, le1 rfl, trivial⟩ hH (by repeat (first | exact tail_refl | refine tail_cons rfl ?_ | refine tail_forget' _ ?_)) (ObIn.spec ⟨rfl, rfl, rfl, rfl, rfl, trivial⟩)) ?_
      have hneg : ∀ {b : Bool}, b = (decide (¬ badPlace i j h) && match openGo o n h.Lines with
        | none => false
        | some _ => decide (h.Old + oldN h ≤ 4096 ∧ h.New + newN h ≤ 4096)) → openGo o n h.Lines = none → b = false := fun h1 h2 => by rw [h1, h2]; simp
      by_cases c1 : x.Kind ≠ 43
      · have c1n : (x.Kind.toNat : Int) ≠ 43 := (decide_eq_decide.1 (kind_ne x.Kind 43)).2 c1
        cases ok with
        | true =>
          rw [if_pos ⟨c1, rfl⟩] at hp
          refine c_region ?_; refine l_neu (n_field_ref rfl) rfl ?_; refine l_neu (n_load_ref rfl rfl rfl) rfl ?_; refine l_neu (n_neq rfl rfl) rfl ?_; refine l_neu (n_move rfl rfl) rfl ?_; refine l_run rfl rfl rfl (by simp [c1n]) ?_; refine l_neu (n_move rfl rfl) rfl ?_; refine l_run rfl rfl rfl (by simp [c1n]) ?_; refine l_neu (n_field_ref rfl) rfl ?_; refine l_run rfl rfl rfl (by simp [c1n]) ?_; refine l_neu (n_load_ref rfl rfl rfl) rfl ?_; refine l_run rfl rfl rfl (by simp [c1n]) ?_; refine l_met (uline_met (k := 710) (e := i) (o := true) rfl (by omega)) rfl rfl rfl ?_; rintro _ _ ⟨rfl, rfl⟩; refine l_run rfl rfl rfl (by simp [c1n]) ?_; refine l_neu (n_not rfl) rfl ?_; refine l_neu (n_pick_bool rfl (fun h => by first | rfl | (rw [h]; rfl)) (fun h => by first | rfl | (rw [h]; rfl))) rfl ?_; refine l_neu (n_move rfl rfl) rfl ?_; refine l_skip rfl rfl rfl (by simp [c1n]) rfl ?_; refine l_skip rfl rfl rfl (by simp [c1n]) rfl ?_; refine l_skip rfl rfl rfl (by simp [c1n]) rfl ?_; refine l_skip rfl rfl rfl (by simp [c1n]) rfl ?_; refine l_guardW (s := .any) rfl rfl rfl .un rfl (fun h => absurd h (by decide)) ?_; refine l_guardW (s := .any) rfl rfl rfl .un rfl (fun h => absurd h (by decide)) ?_; refine l_guardW (s := .any) rfl rfl rfl .un rfl (fun h => absurd h (by decide)) ?_; refine l_guardW (s := .any) rfl rfl rfl .un rfl (fun h => absurd h (by decide)) ?_; refine l_guardW (s := .any) rfl rfl rfl .un rfl (fun h => absurd h (by decide)) ?_; refine l_skip rfl rfl rfl (by simp [c1n]) rfl ?_; refine l_neu (n_pick_t rfl ((by simp [c1n])) rfl) rfl ?_; refine l_nil ?_
          refine k1 ?_
          refine c_cond rfl (fun ht => ?_) (fun ht => ?_)
          · refine k2 ?_
            refine c_region ?_; refine l_neu (n_assign rfl rfl) rfl ?_; refine l_nil ?_
            refine k1 ?_; refine k10 ?_; refine k12 ?_; refine k11 ?_; refine k11 ?_; refine k12 ?_; refine k11 ?_
            refine met_ret (rets1 rfl rfl) (by repeat (first | exact tail_refl | refine tail_cons rfl ?_ | refine tail_forget _ ?_)) (fun _ _ h => h) ⟨false, rfl, by rw [hp]; simp, fun hh => by cases hh⟩
          · cases ht
        | false =>
          rw [if_neg (by simp)] at hp
          by_cases c2 : x.Kind ≠ 45
          · have c2n : (x.Kind.toNat : Int) ≠ 45 := (decide_eq_decide.1 (kind_ne x.Kind 45)).2 c2
            refine c_region ?_; refine l_neu (n_field_ref rfl) rfl ?_; refine l_neu (n_load_ref rfl rfl rfl) rfl ?_; refine l_neu (n_neq rfl rfl) rfl ?_; refine l_neu (n_move rfl rfl) rfl ?_; refine l_run rfl rfl rfl (by simp [c1n]) ?_; refine l_neu (n_move rfl rfl) rfl ?_; refine l_run rfl rfl rfl (by simp [c1n]) ?_; refine l_neu (n_field_ref rfl) rfl ?_; refine l_run rfl rfl rfl (by simp [c1n]) ?_; refine l_neu (n_load_ref rfl rfl rfl) rfl ?_; refine l_run rfl rfl rfl (by simp [c1n]) ?_; refine l_met (uline_met (k := 710) (e := i) (o := false) rfl (by omega)) rfl rfl rfl ?_; rintro _ _ ⟨rfl, rfl⟩; refine l_run rfl rfl rfl (by simp [c1n]) ?_; refine l_neu (n_not rfl) rfl ?_; refine l_neu (n_pick_bool rfl (fun h => by first | rfl | (rw [h]; rfl)) (fun h => by first | rfl | (rw [h]; rfl))) rfl ?_; refine l_neu (n_move rfl rfl) rfl ?_; refine l_run rfl rfl rfl (by simp [c1n]) ?_; refine l_neu (n_field_ref rfl) rfl ?_; refine l_run rfl rfl rfl (by simp [c1n]) ?_; refine l_neu (n_load_ref rfl rfl rfl) rfl ?_; refine l_run rfl rfl rfl (by simp [c1n]) ?_; refine l_neu (n_neq rfl rfl) rfl ?_; refine l_run rfl rfl rfl (by simp [c1n]) ?_; refine l_neu (n_move rfl rfl) rfl ?_; refine l_run rfl rfl rfl (by simp [c1n, c2n]) ?_; refine l_neu (n_move rfl rfl) rfl ?_; refine l_run rfl rfl rfl (by simp [c1n, c2n]) ?_; refine l_neu (n_field_ref rfl) rfl ?_; refine l_run rfl rfl rfl (by simp [c1n, c2n]) ?_; refine l_neu (n_load_ref rfl rfl rfl) rfl ?_; refine l_run rfl rfl rfl (by simp [c1n, c2n]) ?_; refine l_met (uline_met (k := 711) (e := j) (o := nk) rfl (by omega)) rfl rfl rfl ?_; rintro _ _ ⟨rfl, rfl⟩; refine l_run rfl rfl rfl (by simp [c1n, c2n]) ?_; refine l_neu (n_not rfl) rfl ?_; refine l_run rfl rfl rfl (by simp [c1n]) ?_; refine l_neu (n_pick_bool rfl (fun h => by first | rfl | (rw [h]; rfl)) (fun h => by first | rfl | (rw [h]; rfl))) rfl ?_; refine l_neu (n_pick_bool rfl (fun h => by first | rfl | (rw [h]; rfl)) (fun h => by first | rfl | (rw [h]; rfl))) rfl ?_; refine l_nil ?_
            refine k1 ?_
            refine c_cond rfl (fun ht => ?_) (fun ht => ?_)
            · have hnk : nk = true := by revert ht; simp [c1n, c2n]
              rw [if_pos ⟨c2, hnk⟩] at hp
              refine k2 ?_
              refine c_region ?_; refine l_neu (n_assign rfl rfl) rfl ?_; refine l_nil ?_
              refine k1 ?_; refine k10 ?_; refine k12 ?_; refine k11 ?_; refine k11 ?_; refine k12 ?_; refine k11 ?_
              refine met_ret (rets1 rfl rfl) (by repeat (first | exact tail_refl | refine tail_cons rfl ?_ | refine tail_forget _ ?_)) (fun _ _ h => h) ⟨false, rfl, by rw [hp]; simp, fun hh => by cases hh⟩
            · have hnk : nk = false := by revert ht; simp [c1n, c2n]
              rw [if_neg (by simp [hnk]), if_pos c1, if_pos c2] at hp
              refine k5 ?_; refine k4 ?_; refine k1 ?_
              refine c_region ?_; refine l_neu (n_add rfl rfl (by omega)) rfl ?_; refine l_neu (n_move rfl rfl) rfl ?_; refine l_nil ?_
              refine k1 ?_
              exact ⟨(k + 1, !ended x.Text, !ended x.Text), ⟨by dsimp only; omega, hp⟩, by dsimp only; omega, Sees.tailed ⟨le1 rfl, le1 rfl, le1 rfl, le1 rfl, le1 rfl, le1 rfl, trivial⟩ hH (by repeat (first | exact tail_refl | refine tail_cons rfl ?_ | refine tail_forget' _ ?_)) (ObIn.spec ⟨rfl, rfl, rfl, rfl, trivial⟩)⟩
          · have c2n : (x.Kind.toNat : Int) = 45 := Decidable.not_not.1 (fun hh => c2 ((decide_eq_decide.1 (kind_ne x.Kind 45)).1 hh))
            refine c_region ?_; refine l_neu (n_field_ref rfl) rfl ?_; refine l_neu (n_load_ref rfl rfl rfl) rfl ?_; refine l_neu (n_neq rfl rfl) rfl ?_; refine l_neu (n_move rfl rfl) rfl ?_; refine l_run rfl rfl rfl (by simp [c1n]) ?_; refine l_neu (n_move rfl rfl) rfl ?_; refine l_run rfl rfl rfl (by simp [c1n]) ?_; refine l_neu (n_field_ref rfl) rfl ?_; refine l_run rfl rfl rfl (by simp [c1n]) ?_; refine l_neu (n_load_ref rfl rfl rfl) rfl ?_; refine l_run rfl rfl rfl (by simp [c1n]) ?_; refine l_met (uline_met (k := 710) (e := i) (o := false) rfl (by omega)) rfl rfl rfl ?_; rintro _ _ ⟨rfl, rfl⟩; refine l_run rfl rfl rfl (by simp [c1n]) ?_; refine l_neu (n_not rfl) rfl ?_; refine l_neu (n_pick_bool rfl (fun h => by first | rfl | (rw [h]; rfl)) (fun h => by first | rfl | (rw [h]; rfl))) rfl ?_; refine l_neu (n_move rfl rfl) rfl ?_; refine l_run rfl rfl rfl (by simp [c1n]) ?_; refine l_neu (n_field_ref rfl) rfl ?_; refine l_run rfl rfl rfl (by simp [c1n]) ?_; refine l_neu (n_load_ref rfl rfl rfl) rfl ?_; refine l_run rfl rfl rfl (by simp [c1n]) ?_; refine l_neu (n_neq rfl rfl) rfl ?_; refine l_run rfl rfl rfl (by simp [c1n]) ?_; refine l_neu (n_move rfl rfl) rfl ?_; refine l_skip rfl rfl rfl (by simp [c1n, c2n]) rfl ?_; refine l_skip rfl rfl rfl (by simp [c1n, c2n]) rfl ?_; refine l_skip rfl rfl rfl (by simp [c1n, c2n]) rfl ?_; refine l_skip rfl rfl rfl (by simp [c1n, c2n]) rfl ?_; refine l_skip rfl rfl rfl (by simp [c1n, c2n]) rfl ?_; refine l_run rfl rfl rfl (by simp [c1n]) ?_; refine l_neu (n_pick_f rfl ((by simp [c1n, c2n])) rfl) rfl ?_; refine l_neu (n_pick_bool rfl (fun h => by first | rfl | (rw [h]; rfl)) (fun h => by first | rfl | (rw [h]; rfl))) rfl ?_; refine l_nil ?_
            refine k1 ?_
            refine c_cond rfl (fun ht => ?_) (fun ht => ?_)
            · exfalso; revert ht; simp [c1n, c2n]
            · rw [if_neg (by simp [c2]), if_pos c1, if_neg c2] at hp
              refine k5 ?_; refine k4 ?_; refine k1 ?_
              refine c_region ?_; refine l_neu (n_add rfl rfl (by omega)) rfl ?_; refine l_neu (n_move rfl rfl) rfl ?_; refine l_nil ?_
              refine k1 ?_
              exact ⟨(k + 1, !ended x.Text, nk), ⟨by dsimp only; omega, hp⟩, by dsimp only; omega, Sees.tailed ⟨le1 rfl, le1 rfl, le1 rfl, le1 rfl, le1 rfl, le1 rfl, trivial⟩ hH (by repeat (first | exact tail_refl | refine tail_cons rfl ?_ | refine tail_forget' _ ?_)) (ObIn.spec ⟨rfl, rfl, rfl, rfl, trivial⟩)⟩
      · have c2 : x.Kind ≠ 45 := by rw [Decidable.not_not.1 c1]; decide
        have c1n : (x.Kind.toNat : Int) = 43 := Decidable.not_not.1 (fun hh => c1 ((decide_eq_decide.1 (kind_ne x.Kind 43)).1 hh))
        have c2n : (x.Kind.toNat : Int) ≠ 45 := (decide_eq_decide.1 (kind_ne x.Kind 45)).2 c2
        rw [if_neg (by simp [c1])] at hp
        refine c_region ?_; refine l_neu (n_field_ref rfl) rfl ?_; refine l_neu (n_load_ref rfl rfl rfl) rfl ?_; refine l_neu (n_neq rfl rfl) rfl ?_; refine l_neu (n_move rfl rfl) rfl ?_; refine l_skip rfl rfl rfl (by simp [c1n]) rfl ?_; refine l_skip rfl rfl rfl (by simp [c1n]) rfl ?_; refine l_skip rfl rfl rfl (by simp [c1n]) rfl ?_; refine l_skip rfl rfl rfl (by simp [c1n]) rfl ?_; refine l_skip rfl rfl rfl (by simp [c1n]) rfl ?_; refine l_neu (n_pick_f rfl ((by simp [c1n])) rfl) rfl ?_; refine l_neu (n_move rfl rfl) rfl ?_; refine l_run rfl rfl rfl (by simp [c1n]) ?_; refine l_neu (n_field_ref rfl) rfl ?_; refine l_run rfl rfl rfl (by simp [c1n]) ?_; refine l_neu (n_load_ref rfl rfl rfl) rfl ?_; refine l_run rfl rfl rfl (by simp [c1n]) ?_; refine l_neu (n_neq rfl rfl) rfl ?_; refine l_run rfl rfl rfl (by simp [c1n]) ?_; refine l_neu (n_move rfl rfl) rfl ?_; refine l_run rfl rfl rfl (by simp [c1n, c2n]) ?_; refine l_neu (n_move rfl rfl) rfl ?_; refine l_run rfl rfl rfl (by simp [c1n, c2n]) ?_; refine l_neu (n_field_ref rfl) rfl ?_; refine l_run rfl rfl rfl (by simp [c1n, c2n]) ?_; refine l_neu (n_load_ref rfl rfl rfl) rfl ?_; refine l_run rfl rfl rfl (by simp [c1n, c2n]) ?_; refine l_met (uline_met (k := 711) (e := j) (o := nk) rfl (by omega)) rfl rfl rfl ?_; rintro _ _ ⟨rfl, rfl⟩; refine l_run rfl rfl rfl (by simp [c1n, c2n]) ?_; refine l_neu (n_not rfl) rfl ?_; refine l_run rfl rfl rfl (by simp [c1n]) ?_; refine l_neu (n_pick_bool rfl (fun h => by first | rfl | (rw [h]; rfl)) (fun h => by first | rfl | (rw [h]; rfl))) rfl ?_; refine l_neu (n_pick_bool rfl (fun h => by first | rfl | (rw [h]; rfl)) (fun h => by first | rfl | (rw [h]; rfl))) rfl ?_; refine l_nil ?_
        refine k1 ?_
        refine c_cond rfl (fun ht => ?_) (fun ht => ?_)
        · have hnk : nk = true := by revert ht; simp [c1n, c2n]
          rw [if_pos ⟨c2, hnk⟩] at hp
          refine k2 ?_
          refine c_region ?_; refine l_neu (n_assign rfl rfl) rfl ?_; refine l_nil ?_
          refine k1 ?_; refine k10 ?_; refine k12 ?_; refine k11 ?_; refine k11 ?_; refine k12 ?_; refine k11 ?_
          refine met_ret (rets1 rfl rfl) (by repeat (first | exact tail_refl | refine tail_cons rfl ?_ | refine tail_forget _ ?_)) (fun _ _ h => h) ⟨false, rfl, by rw [hp]; simp, fun hh => by cases hh⟩
        · have hnk : nk = false := by revert ht; simp [c1n, c2n]
          rw [if_neg (by simp [hnk]), if_neg c1, if_pos c2] at hp
          refine k5 ?_; refine k4 ?_; refine k1 ?_
          refine c_region ?_; refine l_neu (n_add rfl rfl (by omega)) rfl ?_; refine l_neu (n_move rfl rfl) rfl ?_; refine l_nil ?_
          refine k1 ?_
          exact ⟨(k + 1, ok, !ended x.Text), ⟨by dsimp only; omega, hp⟩, by dsimp only; omega, Sees.tailed ⟨le1 rfl, le1 rfl, le1 rfl, le1 rfl, le1 rfl, le1 rfl, trivial⟩ hH (by repeat (first | exact tail_refl | refine tail_cons rfl ?_ | refine tail_forget' _ ?_)) (ObIn.spec ⟨rfl, rfl, rfl, rfl, trivial⟩)⟩
    · have hk' : k = h.Lines.length := by have := of_decide_eq_false ht; omega
      subst hk'
      rw [List.drop_eq_nil_of_le (Nat.le_refl _), openGo] at hp
      have hbb : (0 ≤ h.Old ∧ h.Old ≤ 4096) ∧ (0 ≤ h.New ∧ h.New ≤ 4096) := by unfold badPlace at hb; simp only [not_or] at hb; omega
      have hon := linesNot_len h.Lines 43
      have hnn := linesNot_len h.Lines 45
      have hon2 : oldN h ≤ h.Lines.length ∧ 0 ≤ oldN h := by unfold oldN; omega
      have hnn2 : newN h ≤ h.Lines.length ∧ 0 ≤ newN h := by unfold newN; omega
      refine k6 ?_; refine k2 ?_
      refine c_region ?_; refine l_neu (n_loads_ref rfl rfl rfl) rfl ?_; refine l_call (usizes_ok h (by omega)) rfl rfl rfl ?_; rintro _ rfl; refine l_neu (n_move rfl rfl) rfl ?_; refine l_neu (n_extract rfl rfl) rfl ?_; refine l_neu (n_extract rfl rfl) rfl ?_; refine l_neu (n_assign rfl rfl) rfl ?_; refine l_neu (n_assign rfl rfl) rfl ?_; refine l_nil ?_
      refine k1 ?_; refine k2 ?_
      have hbx : decide (¬ badPlace i j h) = true := decide_eq_true hb
      refine c_region_store 12 [(101, .s (.one (.ref 710 0))), (95, sInt (h.Old + oldN h))] (by kernel_rfl) (by kernel_rfl) rfl (u_store_ref TySz.out rfl rfl rfl rfl rfl rfl) rfl rfl ?_; refine s_neu (n_move rfl rfl) rfl (n_move rfl rfl) ?_; refine s_neu (n_move rfl rfl) rfl (n_move rfl rfl) ?_; refine s_neu (n_field_ref rfl) rfl (n_field_ref rfl) ?_; refine s_neu (n_load_ref rfl rfl rfl) rfl (n_load_ref rfl rfl rfl) ?_; refine s_neu (n_move rfl rfl) rfl (n_move rfl rfl) ?_; refine s_neu (n_add rfl rfl (by omega)) rfl (n_add rfl rfl (by omega)) ?_; refine s_neu (n_field_ref rfl) rfl (n_field_ref rfl) ?_; refine s_neu (n_load_ref rfl rfl rfl) rfl (n_load_ref rfl rfl rfl) ?_; refine s_neu (n_move rfl rfl) rfl (n_move rfl rfl) ?_; refine s_neu (n_add rfl rfl (by omega)) rfl (n_add rfl rfl (by omega)) ?_; refine s_neu (n_nilCheck_ref rfl) rfl (n_nilCheck_ref rfl) ?_; refine s_neu (n_field_ref rfl) rfl (n_field_ref rfl) ?_; refine s_nil ⟨rfl, rfl, trivial⟩ ?_; refine d_neu (n_nilCheck_ref rfl) rfl rfl ?_; refine d_neu (n_field_ref rfl) rfl rfl ?_; refine d_eff (e_store_ref TySz.out rfl rfl rfl rfl rfl rfl) rfl ?_; refine d_nil ?_
      refine k1 ?_; refine k2 ?_
      refine c_region ?_; refine l_neu (n_move rfl rfl) rfl ?_; refine l_neu (n_nilCheck_ref rfl) rfl ?_; refine l_neu (n_field_ref rfl) rfl ?_; refine l_neu (n_load_ref rfl rfl rfl) rfl ?_; refine l_neu (n_leq rfl rfl) rfl ?_; refine l_neu (n_move rfl rfl) rfl ?_; refine l_guard rfl rfl rfl rfl (fun hg => by rw [hg]; exact n_move rfl rfl) ?_; refine l_guard rfl rfl rfl rfl (fun hg => by rw [hg]; exact n_nilCheck_ref rfl) ?_; refine l_guard rfl rfl rfl rfl (fun hg => by rw [hg]; exact n_field_ref rfl) ?_; refine l_guard rfl rfl rfl rfl (fun hg => by rw [hg]; exact n_load_ref rfl rfl rfl) ?_; refine l_guard rfl rfl rfl rfl (fun hg => by rw [hg]; exact n_leq rfl rfl) ?_; refine l_neu (n_pick_bool rfl (fun h => by first | rfl | (rw [h]; rfl)) (fun h => by first | rfl | (rw [h]; rfl))) rfl ?_; refine l_neu (n_assign rfl rfl) rfl ?_; refine l_nil ?_
      refine k1 ?_; refine k10 ?_
      refine met_ret (ob' := [(6, .box (pPhunk h').s1.cells), (710, sideBox (h.Old + oldN h) ok), (711, sideBox (h.New + newN h) nk)]) (rets1 rfl rfl) (by repeat (first | exact tail_refl | refine tail_cons rfl ?_ | refine tail_forget _ ?_)) (ObIn.spec ⟨rfl, rfl, rfl, trivial⟩) ⟨_, rfl, ?_, fun hh => ⟨ok, nk, hp, rfl⟩⟩
      rw [hp, hbx]
      simp only [and_pick, Bool.true_and]
end Go.Proofs.YtjjidificdmnmaaDoor
namespace Go.Proofs.YtjjidificdmnmaaDoor
open Go Go.AL
set_option maxRecDepth 100000
theorem uwell_ok (hs : List PatchHunk) (hsz : szP hs ≤ 268435456) : FnOk Tryd.prog 54 [pPhunks hs] (fun rs => rs = [pBool (goodOf hs)]) := by
  have hsl := szP_len hs
  rw [← well_good]
  refine FnOk.intro Tryd.func54 (by decide) rfl rfl rfl rfl ?_
  refine k2 ?_
  refine c_region ?_; refine l_neu (n_assign rfl rfl) rfl ?_; refine l_nil ?_
  refine k1 ?_; refine k2 ?_
  refine c_region ?_; refine l_effv (f_alloc 710 rfl) rfl ?_; refine l_effv (f_alloc 711 rfl) rfl ?_; refine l_nil ?_
  refine k1 ?_; refine k2 ?_; refine k2 ?_
  refine c_region ?_; refine l_neu (n_move rfl rfl) rfl ?_; refine l_neu (n_len rfl (.pure _ _ _ _)) rfl ?_; refine l_neu (n_move rfl rfl) rfl ?_; refine l_nil ?_
  refine k1 ?_; refine k3 ?_
  refine c_while (X := Nat × (Int × Int) × Bool × Bool) (fun z => ([(3, .s (.one (.ref 710 0))), (4, .s (.one (.ref 711 0))), (7, sList PatchHunk 3 phunkC hs), (8, sInt hs.length), (9, sInt z.1)], [(710, sideBox z.2.1.1 z.2.2.1), (711, sideBox z.2.1.2 z.2.2.2)])) (fun z => z.1 ≤ hs.length ∧ ((0 ≤ z.2.1.1 ∧ z.2.1.1 ≤ 8192) ∧ (0 ≤ z.2.1.2 ∧ z.2.1.2 ≤ 8192)) ∧ wellGo 0 0 false false hs = wellGo z.2.1.1 z.2.1.2 z.2.2.1 z.2.2.2 (hs.drop z.1)) (fun z => hs.length - z.1) (0, (0, 0), false, false) ⟨Nat.zero_le _, by decide, rfl⟩ (Sees.of ⟨le1 rfl, le1 rfl, le1 rfl, le1 rfl, le1 rfl, trivial⟩ ⟨rfl, rfl, trivial⟩) ?_
  rintro ⟨k, ⟨i, j⟩, o, n⟩ ⟨hk, ⟨hi, hj⟩, hp⟩
  dsimp only at hk hi hj hp ⊢
  refine k2 ?_
  refine c_region ?_; refine l_neu (n_lss rfl rfl) rfl ?_; refine l_nil ?_
  refine k1 ?_; refine k2 ?_
  refine c_cond rfl (fun ht => ?_) (fun ht => ?_)
  · have hlt : k < hs.length := by have := of_decide_eq_true ht; omega
    have hv : hs[k]? = some hs[k] := by simp [hlt]
    have hmem : hs[k] ∈ hs := List.getElem_mem hlt
    rw [List.drop_eq_getElem_cons hlt, wellGo] at hp
    obtain ⟨h, hx⟩ : ∃ x, x = hs[k] := ⟨_, rfl⟩
    rw [← hx] at hv hmem hp
    have h1 := szP_mem hmem
    have h3 := szL_len h.Lines
    unfold szH at h1
    refine k5 ?_; refine k1 ?_; refine k2 ?_; refine k3 ?_; refine k2 ?_
    refine c_region ?_; refine l_neu (n_indexAddr rfl (.pure _ _ _ _) rfl (by omega) hv) rfl ?_; refine l_neu (n_loads_eref rfl rfl) rfl ?_; refine l_effv (f_alloc 6 rfl) rfl ?_; refine l_eff (e_store_ref TySz.out rfl rfl rfl rfl rfl rfl) ?_; refine l_nil ?_
    refine k1 ?_; refine k2 ?_
    refine c_cut [(3, .s (.one (.ref 710 0))), (4, .s (.one (.ref 711 0))), (6, .s (.one (.ref 6 0))), (7, sList PatchHunk 3 phunkC hs), (8, sInt hs.length), (9, sInt k)] [(6, .box (pPhunk h).s1.cells), (710, sideBox i o), (711, sideBox j n)] (Sees.of ⟨le1 rfl, le1 rfl, le1 rfl, le1 rfl, le1 rfl, le1 rfl, trivial⟩ ⟨rfl, rfl, rfl, trivial⟩) ?_
    cases hpr : (h.Lines.all goodLn && someCh h.Lines) with
    | false =>
      rw [hpr] at hp
      refine c_region ?_; refine l_neu (n_loads_ref rfl rfl rfl) rfl ?_; refine l_call (uproper_ok h (by omega)) rfl rfl rfl ?_; rintro _ rfl; refine l_neu (n_not rfl) rfl ?_; refine l_neu (n_move rfl rfl) rfl ?_; refine l_skip rfl rfl rfl (by rw [hpr]; decide) rfl ?_; refine l_skip rfl rfl rfl (by rw [hpr]; decide) rfl ?_; refine l_skip rfl rfl rfl (by rw [hpr]; decide) rfl ?_; refine l_neu (n_pick_t rfl ((by rw [hpr]; rfl)) rfl) rfl ?_; refine l_nil ?_
      refine k1 ?_
      refine c_cond rfl (fun ht => ?_) (fun ht => ?_)
      · refine k2 ?_
        refine c_region ?_; refine l_neu (n_assign rfl rfl) rfl ?_; refine l_nil ?_
        refine k1 ?_; refine k10 ?_; refine k12 ?_; refine k11 ?_; refine k11 ?_; refine k12 ?_; refine k11 ?_
        exact ret_ret (ret1 rfl rfl rfl) (by rw [hp]; rfl)
      · cases ht
    | true =>
      rw [hpr] at hp
      refine c_region ?_; refine l_neu (n_loads_ref rfl rfl rfl) rfl ?_; refine l_call (uproper_ok h (by omega)) rfl rfl rfl ?_; rintro _ rfl; refine l_neu (n_not rfl) rfl ?_; refine l_neu (n_move rfl rfl) rfl ?_; refine l_run rfl rfl rfl (by rw [hpr]; rfl) ?_; refine l_neu (n_loads_ref rfl rfl rfl) rfl ?_; refine l_run rfl rfl rfl (by rw [hpr]; rfl) ?_; refine l_met (uplaced_met h h i j o n (by omega) hi hj rfl rfl) rfl rfl rfl ?_; rintro _ _ ⟨b, rfl, hb, hpost⟩; refine l_run rfl rfl rfl (by rw [hpr]; rfl) ?_; refine l_neu (n_not rfl) rfl ?_; refine l_neu (n_pick_f rfl ((by rw [hpr]; rfl)) rfl) rfl ?_; refine l_nil ?_
      refine k1 ?_
      refine c_cond rfl (fun ht => ?_) (fun ht => ?_)
      · have hbf : b = false := by simpa using ht
        refine k2 ?_
        refine c_region ?_; refine l_neu (n_assign rfl rfl) rfl ?_; refine l_nil ?_
        refine k1 ?_; refine k10 ?_; refine k12 ?_; refine k11 ?_; refine k11 ?_; refine k12 ?_; refine k11 ?_
        refine ret_ret (ret1 rfl rfl rfl) ?_
        subst hbf
        rw [hp]
        cases hbp : decide (¬ badPlace i j h) with
        | false => rfl
        | true =>
          rw [hbp] at hb
          cases hop : openGo o n h.Lines with
          | none => rfl
          | some q =>
            rw [hop] at hb
            obtain ⟨q1, q2⟩ := q
            have hb2 : decide (h.Old + oldN h ≤ 4096 ∧ h.New + newN h ≤ 4096) = false := hb.symm
            show [pBool false] = [pBool (decide (h.Old + oldN h ≤ 4096 ∧ h.New + newN h ≤ 4096) && wellGo (h.Old + oldN h) (h.New + newN h) q1 q2 (List.drop (k + 1) hs))]
            rw [hb2]; rfl
      · have hbt : b = true := by simpa using ht
        obtain ⟨o', n', e1, rfl⟩ := hpost hbt
        rw [hbt, e1] at hb
        have hb2 := (Bool.and_eq_true _ _ ▸ hb.symm : _ ∧ _)
        have hb1 := of_decide_eq_true hb2.1
        have hb3 := of_decide_eq_true hb2.2
        rw [e1, hb2.1] at hp
        simp only [Bool.true_and] at hp
        rw [decide_eq_true hb3, Bool.true_and] at hp
        have hbb : (0 ≤ h.Old ∧ h.Old ≤ 4096) ∧ (0 ≤ h.New ∧ h.New ≤ 4096) := by unfold badPlace at hb1; simp only [not_or] at hb1; omega
        have hon2 : 0 ≤ oldN h := by unfold oldN; omega
        have hnn2 : 0 ≤ newN h := by unfold newN; omega
        refine k5 ?_; refine k4 ?_; refine k1 ?_
        refine c_region ?_; refine l_neu (n_add rfl rfl (by omega)) rfl ?_; refine l_neu (n_move rfl rfl) rfl ?_; refine l_nil ?_
        refine k1 ?_
        exact ⟨(k + 1, (h.Old + oldN h, h.New + newN h), o', n'), ⟨by dsimp only; omega, by dsimp only; omega, hp⟩, by dsimp only; omega, Sees.of ⟨le1 rfl, le1 rfl, le1 rfl, le1 rfl, le1 rfl, trivial⟩ ⟨rfl, rfl, trivial⟩⟩
  · have hk' : k = hs.length := by have := of_decide_eq_false ht; omega
    subst hk'
    rw [List.drop_eq_nil_of_le (Nat.le_refl _), wellGo] at hp
    refine k6 ?_; refine k2 ?_
    refine c_region ?_; refine l_neu (n_assign rfl rfl) rfl ?_; refine l_nil ?_
    refine k1 ?_; refine k10 ?_
    exact ret_ret (ret1 rfl rfl rfl) (by rw [hp])
end Go.Proofs.YtjjidificdmnmaaDoor
namespace Go.Proofs.YtjjidificdmnmaaDoor
open Go Go.AL
set_option maxRecDepth 100000
theorem ucheck_ok (p : Patch) (hp : szP p.Hunks ≤ 268435456) : FnOk Tryd.prog 31 [pPatch p] (fun rs => rs = [pInt (check12 p)]) := by
  refine FnOk.intro Tryd.func31 (by decide) rfl rfl rfl rfl ?_
  refine k2 ?_
  refine c_region ?_; refine l_effv (f_box 1 rfl rfl rfl) rfl ?_; refine l_neu (n_assign rfl rfl) rfl ?_; refine l_nil ?_
  refine k1 ?_; refine k2 ?_; refine k3 ?_; refine k2 ?_
  refine c_region ?_; refine l_neu (n_field_ref rfl) rfl ?_; refine l_neu (n_load_ref rfl rfl rfl) rfl ?_; refine l_call (unamed_ok p.OldName) rfl rfl rfl ?_; rintro _ rfl; refine l_neu (n_not rfl) rfl ?_; refine l_neu (n_move rfl rfl) rfl ?_; refine l_guard rfl rfl rfl rfl (fun hg => by rw [hg]; exact n_field_ref rfl) ?_; refine l_guard rfl rfl rfl rfl (fun hg => by rw [hg]; exact n_load_ref rfl rfl rfl) ?_; refine l_guard rfl rfl rfl rfl (fun hg => by have hq := hg; (try simp at hq); rw [hg]; exact n_call1 (unamed_ok p.NewName) rfl rfl) ?_; refine l_guard rfl rfl rfl rfl (fun hg => by rw [hg]; exact n_not rfl) ?_; refine l_neu (n_pick_bool rfl (fun h => by first | rfl | (rw [h]; rfl)) (fun h => by first | rfl | (rw [h]; rfl))) rfl ?_; refine l_neu (n_assign rfl rfl) rfl ?_; refine l_nil ?_
  refine k1 ?_
  refine c_cond rfl (fun ht => ?_) (fun ht => ?_)
  · simp only [notB, or_pick] at ht
    have h := of_decide_eq_true ht
    refine k2 ?_
    refine c_region ?_; refine l_neu (n_assign rfl rfl) rfl ?_; refine l_nil ?_
    refine k1 ?_; refine k10 ?_; refine k12 ?_; refine k11 ?_
    exact ret_ret (ret1 rfl rfl rfl) (by rw [check12, if_pos h])
  · simp only [notB, or_pick] at ht
    have h := of_decide_eq_false ht
    refine k2 ?_
    refine c_region ?_; refine l_neu (n_field_ref rfl) rfl ?_; refine l_neu (n_load_ref rfl rfl rfl) rfl ?_; refine l_call (uwell_ok p.Hunks hp) rfl rfl rfl ?_; rintro _ rfl; refine l_neu (n_not rfl) rfl ?_; refine l_neu (n_assign rfl rfl) rfl ?_; refine l_nil ?_
    refine k1 ?_
    refine c_cond rfl (fun ht => ?_) (fun ht => ?_)
    · have h2 : goodOf p.Hunks = false := by simpa using ht
      refine k2 ?_
      refine c_region ?_; refine l_neu (n_assign rfl rfl) rfl ?_; refine l_nil ?_
      refine k1 ?_; refine k10 ?_; refine k12 ?_; refine k11 ?_
      exact ret_ret (ret1 rfl rfl rfl) (by rw [check12, if_neg h, if_pos h2])
    · have h2 : goodOf p.Hunks = true := by simpa using ht
      have hr := goodOf_range h2
      have hn1 : nameOk p.OldName = true := by by_cases hh : nameOk p.OldName = true; exact hh; exact absurd (.inl (by simpa using hh)) h
      have hn2 : nameOk p.NewName = true := by by_cases hh : nameOk p.NewName = true; exact hh; exact absurd (.inr (by simpa using hh)) h
      have hn3 := of_decide_eq_true hn1
      have hn4 := of_decide_eq_true hn2
      have hpf : PFit p := ⟨by omega, by omega, hp⟩
      refine k2 ?_
      refine c_region ?_; refine l_neu (n_loads_ref rfl rfl rfl) rfl ?_; refine l_call (usize_ok p hpf (fun x hx => by have := hr x hx; omega)) rfl rfl rfl ?_; rintro _ rfl; refine l_neu (n_gtr rfl rfl) rfl ?_; refine l_neu (n_assign rfl rfl) rfl ?_; refine l_nil ?_
      refine k1 ?_
      refine c_cond rfl (fun ht => ?_) (fun ht => ?_)
      · have h3 := of_decide_eq_true ht
        refine k2 ?_
        refine c_region ?_; refine l_neu (n_assign rfl rfl) rfl ?_; refine l_nil ?_
        refine k1 ?_; refine k10 ?_; refine k12 ?_; refine k11 ?_
        exact ret_ret (ret1 rfl rfl rfl) (by rw [check12, if_neg h, if_neg (by rw [h2]; decide), if_pos (by omega)])
      · have h3 := of_decide_eq_false ht
        refine k5 ?_; refine k2 ?_
        refine c_region ?_; refine l_neu (n_assign rfl rfl) rfl ?_; refine l_nil ?_
        refine k1 ?_; refine k10 ?_
        exact ret_ret (ret1 rfl rfl rfl) (by rw [check12, if_neg h, if_neg (by rw [h2]; decide), if_neg (by omega)])
theorem check12_good {p : Patch} (h1 : ¬ check12 p ≠ 0) : goodOf p.Hunks = true := by
  by_cases hg : goodOf p.Hunks = true
  · exact hg
  · exfalso; apply h1; unfold check12; split
    · decide
    · rw [if_pos (by simpa using hg)]; decide
end Go.Proofs.YtjjidificdmnmaaDoor
namespace Go.Proofs.YtjjidificdmnmaaDoor
open Go Go.AL
set_option maxRecDepth 100000
end Go.Proofs.YtjjidificdmnmaaDoor
namespace Go.Proofs.YtjjidificdmnmaaDoor
open Go Go.AL
set_option maxRecDepth 100000
end Go.Proofs.YtjjidificdmnmaaDoor
namespace Go.Proofs.YtjjidificdmnmaaDoor
open Go Go.AL
set_option maxRecDepth 100000
end Go.Proofs.YtjjidificdmnmaaDoor
namespace Go.Proofs.YtjjidificdmnmaaDoor
open Go Go.AL
set_option maxRecDepth 100000
theorem near_len (b : Str) (raw : List Int) (f : Int) : (nearOf b raw f).length ≤ 5 * b.length := by
  unfold nearOf
  have h1 := nearGo_len raw f (linesOf b) 0 []
  have h2 := linesOf_length b
  rw [linesOf_flatten] at h1
  simp at h1; omega
end Go.Proofs.YtjjidificdmnmaaDoor
namespace Go.Proofs.YtjjidificdmnmaaDoor
open Go Go.AL
set_option maxRecDepth 100000
end Go.Proofs.YtjjidificdmnmaaDoor
namespace Go.Proofs.YtjjidificdmnmaaDoor
open Go Go.AL
set_option maxRecDepth 100000
end Go.Proofs.YtjjidificdmnmaaDoor
namespace Go.Proofs.YtjjidificdmnmaaDoor
open Go Go.AL
set_option maxRecDepth 100000
end Go.Proofs.YtjjidificdmnmaaDoor
namespace Go.Proofs.YtjjidificdmnmaaDoor
open Go Go.AL
set_option maxRecDepth 100000
end Go.Proofs.YtjjidificdmnmaaDoor
namespace Go.Proofs.YtjjidificdmnmaaDoor
open Go Go.AL
set_option maxRecDepth 100000
theorem slength_ok (n : Int) : FnOk Tryd.prog 61 [pInt n] (fun rs => rs = [pBool (decide (in81 n))]) := by
  refine FnOk.intro Tryd.func61 (by decide) rfl rfl rfl rfl ?_
  refine k2 ?_
  refine c_region ?_; refine l_neu (n_assign rfl rfl) rfl ?_; refine l_nil ?_
  refine k1 ?_; refine k2 ?_
  refine c_region ?_; refine l_neu (n_move rfl rfl) rfl ?_; refine l_neu (n_geq rfl rfl) rfl ?_; refine l_neu (n_move rfl rfl) rfl ?_; refine l_guard rfl rfl rfl rfl (fun hg => by rw [hg]; exact n_move rfl rfl) ?_; refine l_guard rfl rfl rfl rfl (fun hg => by rw [hg]; exact n_leq rfl rfl) ?_; refine l_neu (n_pick_bool rfl (fun h => by first | rfl | (rw [h]; rfl)) (fun h => by first | rfl | (rw [h]; rfl))) rfl ?_; refine l_neu (n_assign rfl rfl) rfl ?_; refine l_nil ?_
  refine k1 ?_; refine k10 ?_
  refine ret_ret (ret1 rfl rfl rfl) ?_
  simp only [and_pick]
  rfl
theorem scheck_ok (l : List Change) (m n : Int) (hl : l.length ≤ 1073741824) : FnOk Tryd.prog 42 [pChanges l, pInt m, pInt n] (fun rs => rs = [pInt (check8 l m n)]) := by
  refine FnOk.intro Tryd.func42 (by decide) rfl rfl rfl rfl ?_
  refine k2 ?_
  refine c_region ?_; refine l_neu (n_assign rfl rfl) rfl ?_; refine l_nil ?_
  refine k1 ?_; refine k2 ?_; refine k2 ?_
  refine c_region ?_; refine l_neu (n_move rfl rfl) rfl ?_; refine l_call (slength_ok m) rfl rfl rfl ?_; rintro _ rfl; refine l_neu (n_not rfl) rfl ?_; refine l_neu (n_move rfl rfl) rfl ?_; refine l_guard rfl rfl rfl rfl (fun hg => by rw [hg]; exact n_move rfl rfl) ?_; refine l_guard rfl rfl rfl rfl (fun hg => by have hq := hg; (try simp at hq); rw [hg]; exact n_call1 (slength_ok n) rfl rfl) ?_; refine l_guard rfl rfl rfl rfl (fun hg => by rw [hg]; exact n_not rfl) ?_; refine l_neu (n_pick_bool rfl (fun h => by first | rfl | (rw [h]; rfl)) (fun h => by first | rfl | (rw [h]; rfl))) rfl ?_; refine l_nil ?_
  refine k1 ?_
  refine c_cond rfl (fun ht => ?_) (fun ht => ?_)
  · simp only [← decide_not, or_pick] at ht
    have h : ¬ in81 m ∨ ¬ in81 n := of_decide_eq_true ht
    refine k2 ?_
    refine c_region ?_; refine l_neu (n_assign rfl rfl) rfl ?_; refine l_nil ?_
    refine k1 ?_; refine k10 ?_; refine k11 ?_
    exact ret_ret (ret1 rfl rfl rfl) (by rw [check8, if_pos h])
  simp only [← decide_not, or_pick] at ht
  have h : ¬ (¬ in81 m ∨ ¬ in81 n) := of_decide_eq_false ht
  have hm : 0 ≤ m ∧ m ≤ 4096 := by by_cases hm : in81 m; exact hm; exact absurd (.inl hm) h
  have hn : 0 ≤ n ∧ n ≤ 4096 := by by_cases hn : in81 n; exact hn; exact absurd (.inr hn) h
  refine k5 ?_; refine k1 ?_; refine k2 ?_
  refine c_region ?_; refine l_neu (n_assign rfl rfl) rfl ?_; refine l_neu (n_assign rfl rfl) rfl ?_; refine l_nil ?_
  refine k1 ?_; refine k2 ?_; refine k2 ?_
  refine c_region ?_; refine l_neu (n_move rfl rfl) rfl ?_; refine l_neu (n_len rfl (.pure _ _ _ _)) rfl ?_; refine l_neu (n_move rfl rfl) rfl ?_; refine l_nil ?_
  refine k1 ?_; refine k3 ?_
  refine c_while (X := Nat × Int × Int) (fun x => ([(1, sInt m), (2, sInt n), (7, sInt x.2.1), (8, sInt x.2.2), (20, sList Change 4 changeC l), (21, sInt l.length), (22, sInt x.1)], [])) (fun x => x.1 ≤ l.length ∧ scriptGo 0 0 0 l m n = scriptGo x.1 x.2.1 x.2.2 (l.drop x.1) m n ∧ 0 ≤ x.2.1 ∧ x.2.1 ≤ 8192 ∧ 0 ≤ x.2.2 ∧ x.2.2 ≤ 8192) (fun x => l.length - x.1) (0, 0, 0) ⟨Nat.zero_le _, rfl, by decide, by decide, by decide, by decide⟩ (Sees.of ⟨le1 rfl, le1 rfl, le1 rfl, le1 rfl, le1 rfl, le1 rfl, le1 rfl, trivial⟩ trivial) ?_
  rintro ⟨k, i, j⟩ ⟨hk, hp, hi, hi2, hj, hj2⟩
  dsimp only at hk hp hi hi2 hj hj2 ⊢
  refine k2 ?_
  refine c_region ?_; refine l_neu (n_lss rfl rfl) rfl ?_; refine l_nil ?_
  refine k1 ?_; refine k2 ?_
  refine c_cond rfl (fun ht => ?_) (fun ht => ?_)
  · have hlt : k < l.length := by have := of_decide_eq_true ht; omega
    have hv : l[k]? = some l[k] := by simp [hlt]
    obtain ⟨c, hc⟩ : ∃ c, c = l[k] := ⟨_, rfl⟩
    rw [List.drop_eq_getElem_cons hlt, scriptGo] at hp
    rw [← hc] at hv hp
    refine k5 ?_; refine k1 ?_; refine k2 ?_; refine k3 ?_; refine k2 ?_
    refine c_region ?_; refine l_neu (n_move rfl rfl) rfl ?_; refine l_neu (n_indexAddr rfl (.pure _ _ _ _) rfl (by omega) hv) rfl ?_; refine l_neu (n_loads_eref rfl rfl) rfl ?_; refine l_effv (f_alloc 10 rfl) rfl ?_; refine l_neu (n_assign rfl rfl) rfl ?_; refine l_eff (e_store_ref TySz.out rfl rfl rfl rfl rfl rfl) ?_; refine l_nil ?_
    refine k1 ?_; refine k2 ?_; refine k2 ?_
    refine c_region ?_; refine l_neu (n_field_ref rfl) rfl ?_; refine l_neu (n_load_ref rfl rfl rfl) rfl ?_; refine l_call (slength_ok c.Old) rfl rfl rfl ?_; rintro _ rfl; refine l_neu (n_not rfl) rfl ?_; refine l_neu (n_move rfl rfl) rfl ?_; refine l_guard rfl rfl rfl rfl (fun hg => by rw [hg]; exact n_field_ref rfl) ?_; refine l_guard rfl rfl rfl rfl (fun hg => by rw [hg]; exact n_load_ref rfl rfl rfl) ?_; refine l_guard rfl rfl rfl rfl (fun hg => by have hq := hg; (try simp at hq); rw [hg]; exact n_call1 (slength_ok c.OldLen) rfl rfl) ?_; refine l_guard rfl rfl rfl rfl (fun hg => by rw [hg]; exact n_not rfl) ?_; refine l_neu (n_pick_bool rfl (fun h => by first | rfl | (rw [h]; rfl)) (fun h => by first | rfl | (rw [h]; rfl))) rfl ?_; refine l_neu (n_move rfl rfl) rfl ?_; refine l_guard rfl rfl rfl rfl (fun hg => by rw [hg]; exact n_field_ref rfl) ?_; refine l_guard rfl rfl rfl rfl (fun hg => by rw [hg]; exact n_load_ref rfl rfl rfl) ?_; refine l_guard rfl rfl rfl rfl (fun hg => by have hq := hg; (try simp at hq); rw [hg]; exact n_call1 (slength_ok c.New) rfl rfl) ?_; refine l_guard rfl rfl rfl rfl (fun hg => by rw [hg]; exact n_not rfl) ?_; refine l_neu (n_pick_bool rfl (fun h => by first | rfl | (rw [h]; rfl)) (fun h => by first | rfl | (rw [h]; rfl))) rfl ?_; refine l_neu (n_move rfl rfl) rfl ?_; refine l_guard rfl rfl rfl rfl (fun hg => by rw [hg]; exact n_field_ref rfl) ?_; refine l_guard rfl rfl rfl rfl (fun hg => by rw [hg]; exact n_load_ref rfl rfl rfl) ?_; refine l_guard rfl rfl rfl rfl (fun hg => by have hq := hg; (try simp at hq); rw [hg]; exact n_call1 (slength_ok c.NewLen) rfl rfl) ?_; refine l_guard rfl rfl rfl rfl (fun hg => by rw [hg]; exact n_not rfl) ?_; refine l_neu (n_pick_bool rfl (fun h => by first | rfl | (rw [h]; rfl)) (fun h => by first | rfl | (rw [h]; rfl))) rfl ?_; refine l_neu (n_move rfl rfl) rfl ?_; refine l_guard rfl rfl rfl rfl (fun hg => by rw [hg]; exact n_field_ref rfl) ?_; refine l_guard rfl rfl rfl rfl (fun hg => by rw [hg]; exact n_load_ref rfl rfl rfl) ?_; refine l_guard rfl rfl rfl rfl (fun hg => by rw [hg]; exact n_field_ref rfl) ?_; refine l_guard rfl rfl rfl rfl (fun hg => by rw [hg]; exact n_load_ref rfl rfl rfl) ?_; refine l_guard rfl rfl rfl rfl (fun hg => by have hq := hg; (try simp at hq); simp [in81] at hq; rw [hg]; exact n_add rfl rfl (by omega)) ?_; refine l_guard rfl rfl rfl rfl (fun hg => by rw [hg]; exact n_eql rfl rfl) ?_; refine l_neu (n_pick_bool rfl (fun h => by first | rfl | (rw [h]; rfl)) (fun h => by first | rfl | (rw [h]; rfl))) rfl ?_; refine l_nil ?_
    refine k1 ?_
    refine c_cond rfl (fun ht => ?_) (fun ht => ?_)
    · simp only [← decide_not, or_pick, and_pick] at ht
      have h0 := of_decide_eq_true ht
      have hb : badC k i j c := .inl (.inl (.inl h0))
      refine k2 ?_
      refine c_region ?_; refine l_neu (n_assign rfl rfl) rfl ?_; refine l_nil ?_
      refine k1 ?_; refine k10 ?_; refine k11 ?_; refine k12 ?_; refine k11 ?_; refine k11 ?_; refine k12 ?_; refine k11 ?_
      exact ret_ret (ret1 rfl rfl rfl) (by rw [check8, if_neg ‹¬ (¬ in81 m ∨ ¬ in81 n)›, hp, decide_eq_false (fun hh => hh hb)]; rfl)
    simp only [← decide_not, or_pick, and_pick] at ht
    have h0 := of_decide_eq_false ht
    have hr : (0 ≤ c.Old ∧ c.Old ≤ 4096) ∧ (0 ≤ c.OldLen ∧ c.OldLen ≤ 4096) ∧ (0 ≤ c.New ∧ c.New ≤ 4096) ∧ (0 ≤ c.NewLen ∧ c.NewLen ≤ 4096) ∧ c.OldLen + c.NewLen ≠ 0 := by
      by_cases a1 : in81 c.Old <;> by_cases a2 : in81 c.OldLen <;> by_cases a3 : in81 c.New <;> by_cases a4 : in81 c.NewLen <;> simp [a1, a2, a3, a4] at h0
      exact ⟨a1, a2, a3, a4, h0⟩
    refine k5 ?_; refine k1 ?_; refine k2 ?_
    refine c_region ?_; refine l_neu (n_field_ref rfl) rfl ?_; refine l_neu (n_load_ref rfl rfl rfl) rfl ?_; refine l_neu (n_move rfl rfl) rfl ?_; refine l_neu (n_sub rfl rfl (by omega)) rfl ?_; refine l_neu (n_assign rfl rfl) rfl ?_; refine l_nil ?_
    refine k1 ?_; refine k2 ?_; refine k2 ?_
    refine c_region ?_; refine l_neu (n_move rfl rfl) rfl ?_; refine l_neu (n_field_ref rfl) rfl ?_; refine l_neu (n_load_ref rfl rfl rfl) rfl ?_; refine l_neu (n_move rfl rfl) rfl ?_; refine l_neu (n_sub rfl rfl (by omega)) rfl ?_; refine l_neu (n_neq rfl rfl) rfl ?_; refine l_neu (n_move rfl rfl) rfl ?_; refine l_guard rfl rfl rfl rfl (fun hg => by rw [hg]; exact n_move rfl rfl) ?_; refine l_guard rfl rfl rfl rfl (fun hg => by rw [hg]; exact n_move rfl rfl) ?_; refine l_guard rfl rfl rfl rfl (fun hg => by rw [hg]; exact n_min rfl rfl) ?_; refine l_guard rfl rfl rfl rfl (fun hg => by rw [hg]; exact n_lss rfl rfl) ?_; refine l_neu (n_pick_bool rfl (fun h => by first | rfl | (rw [h]; rfl)) (fun h => by first | rfl | (rw [h]; rfl))) rfl ?_; refine l_nil ?_
    refine k1 ?_
    have hmin : ∀ b : Int, (c.Old - i < if (1 : Int) < (k : Int) then 1 else (k : Int)) ↔ (c.Old < i ∨ (0 < (k : Int) ∧ c.Old = i)) := by intro _; split <;> omega
    refine c_cond rfl (fun ht => ?_) (fun ht => ?_)
    · simp only [or_pick] at ht
      have h1 := of_decide_eq_true ht
      have hb : badC k i j c := by
        rcases h1 with h1 | h1
        · exact .inl (.inl (.inr h1))
        · rcases (hmin 0).1 h1 with h2 | h2
          · exact .inl (.inr h2)
          · exact .inr h2
      refine k2 ?_
      refine c_region ?_; refine l_neu (n_assign rfl rfl) rfl ?_; refine l_nil ?_
      refine k1 ?_; refine k10 ?_; refine k11 ?_; refine k12 ?_; refine k11 ?_; refine k11 ?_; refine k12 ?_; refine k11 ?_
      exact ret_ret (ret1 rfl rfl rfl) (by rw [check8, if_neg ‹¬ (¬ in81 m ∨ ¬ in81 n)›, hp, decide_eq_false (fun hh => hh hb)]; rfl)
    · simp only [or_pick] at ht
      have h1 := of_decide_eq_false ht
      have hb : ¬ badC k i j c := by
        rintro (((q | q) | q) | q)
        · exact h0 q
        · exact h1 (.inl q)
        · exact h1 (.inr ((hmin 0).2 (.inl q)))
        · exact h1 (.inr ((hmin 0).2 (.inr q)))
      rw [decide_eq_true hb, Bool.true_and] at hp
      refine k5 ?_; refine k1 ?_
      refine c_region_draw (by kernel_rfl) (by kernel_rfl) ?_; refine d_neu (n_field_ref rfl) rfl rfl ?_; refine d_neu (n_load_ref rfl rfl rfl) rfl rfl ?_; refine d_neu (n_field_ref rfl) rfl rfl ?_; refine d_neu (n_load_ref rfl rfl rfl) rfl rfl ?_; refine d_neu (n_add rfl rfl (by omega)) rfl rfl ?_; refine d_neu (n_field_ref rfl) rfl rfl ?_; refine d_neu (n_load_ref rfl rfl rfl) rfl rfl ?_; refine d_neu (n_field_ref rfl) rfl rfl ?_; refine d_neu (n_load_ref rfl rfl rfl) rfl rfl ?_; refine d_neu (n_add rfl rfl (by omega)) rfl rfl ?_; refine d_neu (n_assign rfl rfl) rfl rfl ?_; refine d_neu (n_assign rfl rfl) rfl rfl ?_; refine d_nil ?_
      refine k4 ?_; refine k1 ?_
      refine c_region ?_; refine l_neu (n_add rfl rfl (by omega)) rfl ?_; refine l_neu (n_move rfl rfl) rfl ?_; refine l_nil ?_
      refine k1 ?_
      exact ⟨(k + 1, c.Old + c.OldLen, c.New + c.NewLen), ⟨by dsimp only; omega, hp, by dsimp only; omega, by dsimp only; omega, by dsimp only; omega, by dsimp only; omega⟩, by dsimp only; omega, Sees.of ⟨le1 rfl, le1 rfl, le1 rfl, le1 rfl, le1 rfl, le1 rfl, le1 rfl, trivial⟩ trivial⟩
  · have hk' : k = l.length := by have := of_decide_eq_false ht; omega
    rw [hk', List.drop_eq_nil_of_le (Nat.le_refl _), scriptGo] at hp
    refine k6 ?_; refine k2 ?_; refine k2 ?_
    refine c_region ?_; refine l_neu (n_move rfl rfl) rfl ?_; refine l_neu (n_move rfl rfl) rfl ?_; refine l_neu (n_sub rfl rfl (by omega)) rfl ?_; refine l_neu (n_move rfl rfl) rfl ?_; refine l_neu (n_move rfl rfl) rfl ?_; refine l_neu (n_sub rfl rfl (by omega)) rfl ?_; refine l_neu (n_neq rfl rfl) rfl ?_; refine l_neu (n_move rfl rfl) rfl ?_; refine l_guard rfl rfl rfl rfl (fun hg => by rw [hg]; exact n_move rfl rfl) ?_; refine l_guard rfl rfl rfl rfl (fun hg => by rw [hg]; exact n_move rfl rfl) ?_; refine l_guard rfl rfl rfl rfl (fun hg => by rw [hg]; exact n_lss rfl rfl) ?_; refine l_neu (n_pick_bool rfl (fun h => by first | rfl | (rw [h]; rfl)) (fun h => by first | rfl | (rw [h]; rfl))) rfl ?_; refine l_nil ?_
    refine k1 ?_
    refine c_cond rfl (fun ht => ?_) (fun ht => ?_)
    · have h2 := of_decide_eq_true (or_pick.symm.trans ht)
      refine k2 ?_
      refine c_region ?_; refine l_neu (n_assign rfl rfl) rfl ?_; refine l_nil ?_
      refine k1 ?_; refine k10 ?_; refine k11 ?_
      exact ret_ret (ret1 rfl rfl rfl) (by rw [check8, if_neg h, hp, decide_eq_false (fun hh => hh h2)]; rfl)
    · have h2 := of_decide_eq_false (or_pick.symm.trans ht)
      refine k5 ?_; refine k1 ?_; refine k2 ?_
      refine c_region ?_; refine l_neu (n_assign rfl rfl) rfl ?_; refine l_nil ?_
      refine k1 ?_; refine k10 ?_
      exact ret_ret (ret1 rfl rfl rfl) (by rw [check8, if_neg h, hp, decide_eq_true h2]; rfl)
theorem clipS_met {gf : Fr} {ob : Obs} (p : List Span) : AL.Met Tryd.prog 88 [.one (.p (.list Span 2 spanC p))] gf ob [] (fun rs ob' => rs = [.one (.full Span 2 spanC p)] ∧ ob' = ob) := by
  refine AL.Met.intro Tryd.func88 (by decide) rfl rfl rfl ?_
  refine k2 ?_
  refine c_region ?_; refine l_neu (n_assign rfl rfl) rfl ?_; refine l_nil ?_
  refine k1 ?_; refine k2 ?_
  refine c_region ?_; refine l_neu (n_move rfl rfl) rfl ?_; refine l_neu (n_move rfl rfl) rfl ?_; refine l_neu (n_len rfl (.pure _ _ _ _)) rfl ?_; refine l_neu (n_move rfl rfl) rfl ?_; refine l_neu (n_len rfl (.pure _ _ _ _)) rfl ?_; refine l_neu (n_slice_hm rfl (.pure _ _ _ _) rfl rfl (by omega) (by omega) (by first | rfl | omega)) rfl ?_; refine l_neu (n_assign rfl rfl) rfl ?_; refine l_nil ?_
  rw [show p.take (p.length : Int).toNat = p by simp]
  refine k1 ?_; refine k10 ?_
  exact met_ret (rets1 rfl rfl) (by repeat (first | exact tail_refl | refine tail_cons rfl ?_ | refine tail_forget _ ?_)) (fun _ _ h => h) ⟨rfl, rfl⟩
def runMade (i j : Int) : List Span → List Change
  | [] => []
  | x :: r => (if x.From > i ∨ x.To > j then [⟨i, x.From - i, j, x.To - j⟩] else []) ++ runMade (x.From + 1) (x.To + 1) r
theorem runMade_end (m n : Int) : ∀ (p : List Span) (i j : Int), runMade i j (p ++ [⟨m, n⟩]) = madeGo i j p m n
  | [], i, j => by simp [runMade, madeGo]
  | x :: r, i, j => by
    rw [List.cons_append, runMade, madeGo, runMade_end m n r]
theorem sfromPairs_ok (p : List Span) (m n : Int) (hp : p.length ≤ 536870912) (hm : -1099511627776 ≤ m ∧ m ≤ 1099511627776) (hn : -1099511627776 ≤ n ∧ n ≤ 1099511627776) (hb : ∀ s ∈ p, -1099511627776 ≤ s.From ∧ s.From ≤ 1099511627776 ∧ -1099511627776 ≤ s.To ∧ s.To ≤ 1099511627776) :
    FnOk Tryd.prog 62 [pSpans p, pInt m, pInt n] (fun rs => rs = [pChanges (madeOf p m n)]) := by
  refine FnOk.intro Tryd.func62 (by decide) rfl rfl rfl rfl ?_
  refine k2 ?_
  refine c_region ?_; refine l_neu (n_assign rfl rfl) rfl ?_; refine l_nil ?_
  refine k1 ?_; refine k2 ?_
  refine c_region ?_; refine l_effv (f_adopt 7 _ changeC rfl) rfl ?_; refine l_nil ?_
  refine k1 ?_; refine k2 ?_
  refine c_region ?_; refine l_neu (n_assign rfl rfl) rfl ?_; refine l_neu (n_assign rfl rfl) rfl ?_; refine l_nil ?_
  refine k1 ?_; refine k2 ?_; refine k2 ?_
  refine c_region ?_; refine l_neu (n_move rfl rfl) rfl ?_; refine l_met (clipS_met p) rfl rfl rfl ?_; rintro _ _ ⟨rfl, rfl⟩; refine l_neu (n_move rfl rfl) rfl ?_; refine l_neu (n_move rfl rfl) rfl ?_; refine l_neu (n_build rfl) rfl ?_; refine l_neu (n_buildSlice (c := spanC) (ys := [⟨m, n⟩]) (asm_cons rfl rfl rfl rfl asm_nil) rfl rfl rfl) rfl ?_; refine l_effv (e_append_full 18 rfl rfl (.pure _ _ _ _) (by simp; omega) (by simp) rfl) rfl ?_; refine l_neu (n_len rfl (.buf _ _ _ _ _)) rfl ?_; refine l_neu (n_move rfl rfl) rfl ?_; refine l_nil ?_
  obtain ⟨q, hq⟩ : ∃ q, q = p ++ [(⟨m, n⟩ : Span)] := ⟨_, rfl⟩
  have hql : q.length = p.length + 1 := by rw [hq]; simp
  have hqb : ∀ s ∈ q, -1099511627776 ≤ s.From ∧ s.From ≤ 1099511627776 ∧ -1099511627776 ≤ s.To ∧ s.To ≤ 1099511627776 := by
    intro s hs
    rw [hq] at hs
    rcases List.mem_append.1 hs with h | h
    · exact hb s h
    · simp at h; subst h; exact ⟨hm.1, hm.2, hn.1, hn.2⟩
  have hres : madeOf p m n = runMade 0 0 q := by rw [hq, runMade_end]; rfl
  rw [← hq]
  refine k1 ?_; refine k3 ?_
  refine c_while (X := Nat × Int × Int × List Change) (fun x => ([(7, .s (.one (.buf 7 Change 4 changeC x.2.2.2))), (8, sInt x.2.1), (9, sInt x.2.2.1), (18, .s (.one (.buf 18 Span 2 spanC q))), (19, sInt q.length), (20, sInt x.1)], [(7, .spare x.2.2.2.length 4 100)])) (fun x => x.1 ≤ q.length ∧ x.2.2.2 ++ runMade x.2.1 x.2.2.1 (q.drop x.1) = madeOf p m n ∧ (-1099511627777 ≤ x.2.1 ∧ x.2.1 ≤ 1099511627777) ∧ (-1099511627777 ≤ x.2.2.1 ∧ x.2.2.1 ≤ 1099511627777) ∧ x.2.2.2.length ≤ x.1) (fun x => q.length - x.1) (0, 0, 0, []) ⟨Nat.zero_le _, hres.symm, by decide, by decide, Nat.le_refl _⟩ (Sees.of ⟨le1 rfl, le1 rfl, le1 rfl, le1 rfl, le1 rfl, le1 rfl, trivial⟩ ⟨rfl, trivial⟩) ?_
  rintro ⟨k, i, j, out⟩ ⟨hk, he, hi, hj, hol⟩
  dsimp only at hk he hi hj hol ⊢
  refine k2 ?_
  refine c_region ?_; refine l_neu (n_lss rfl rfl) rfl ?_; refine l_nil ?_
  refine k1 ?_; refine k2 ?_
  refine c_cond rfl (fun ht => ?_) (fun ht => ?_)
  · have hlt : k < q.length := by have := of_decide_eq_true ht; omega
    have hv : q[k]? = some q[k] := by simp [hlt]
    have hbk := hqb _ (List.getElem_mem hlt)
    obtain ⟨c, hc⟩ : ∃ c, c = q[k] := ⟨_, rfl⟩
    rw [List.drop_eq_getElem_cons hlt, runMade] at he
    rw [← hc] at hv he hbk
    refine k5 ?_; refine k1 ?_; refine k2 ?_; refine k3 ?_; refine k2 ?_
    refine c_region ?_; refine l_neu (n_indexAddr rfl (.buf _ _ _ _ _) rfl (by omega) hv) rfl ?_; refine l_neu (n_loads_eref rfl rfl) rfl ?_; refine l_effv (f_alloc 11 rfl) rfl ?_; refine l_eff (e_store_ref TySz.out rfl rfl rfl rfl rfl rfl) ?_; refine l_nil ?_
    refine then_normal ?_
    obtain ⟨out', hout'⟩ : ∃ out', out' = out ++ (if c.From > i ∨ c.To > j then [⟨i, c.From - i, j, c.To - j⟩] else []) := ⟨_, rfl⟩
    have hol' : out'.length ≤ k + 1 := by rw [hout', List.length_append]; split <;> simp <;> omega
    rw [← List.append_assoc, ← hout'] at he
    refine c_join [(7, .s (.one (.buf 7 Change 4 changeC out'))), (8, sInt i), (9, sInt j), (11, .s (.one (.ref 11 0))), (18, .s (.one (.buf 18 Span 2 spanC q))), (19, sInt q.length), (20, sInt k)] [(7, .spare out'.length 4 100), (11, .box [.p (.v (.int .i64 c.From)), .p (.v (.int .i64 c.To))])] ?_ ?_
    · refine k2 ?_
      refine c_region ?_; refine l_neu (n_field_ref rfl) rfl ?_; refine l_neu (n_load_ref rfl rfl rfl) rfl ?_; refine l_neu (n_move rfl rfl) rfl ?_; refine l_neu (n_gtr rfl rfl) rfl ?_; refine l_neu (n_move rfl rfl) rfl ?_; refine l_guard rfl rfl rfl rfl (fun hg => by rw [hg]; exact n_field_ref rfl) ?_; refine l_guard rfl rfl rfl rfl (fun hg => by rw [hg]; exact n_load_ref rfl rfl rfl) ?_; refine l_guard rfl rfl rfl rfl (fun hg => by rw [hg]; exact n_move rfl rfl) ?_; refine l_guard rfl rfl rfl rfl (fun hg => by rw [hg]; exact n_gtr rfl rfl) ?_; refine l_neu (n_pick_bool rfl (fun h => by first | rfl | (rw [h]; rfl)) (fun h => by first | rfl | (rw [h]; rfl))) rfl ?_; refine l_nil ?_
      refine k1 ?_
      refine c_cond rfl (fun ht => ?_) (fun ht => ?_)
      · simp only [or_pick] at ht
        have h1 := of_decide_eq_true ht
        rw [if_pos h1] at hout'
        skip
        refine c_region ?_; refine l_neu (n_move rfl rfl) rfl ?_; refine l_neu (n_move rfl rfl) rfl ?_; refine l_neu (n_field_ref rfl) rfl ?_; refine l_neu (n_load_ref rfl rfl rfl) rfl ?_; refine l_neu (n_move rfl rfl) rfl ?_; refine l_neu (n_sub rfl rfl (by omega)) rfl ?_; refine l_neu (n_move rfl rfl) rfl ?_; refine l_neu (n_field_ref rfl) rfl ?_; refine l_neu (n_load_ref rfl rfl rfl) rfl ?_; refine l_neu (n_move rfl rfl) rfl ?_; refine l_neu (n_sub rfl rfl (by omega)) rfl ?_; refine l_neu (n_build rfl) rfl ?_; refine l_neu (n_buildSlice (c := changeC) (ys := [⟨i, c.From - i, j, c.To - j⟩]) (asm_cons rfl rfl rfl rfl asm_nil) rfl rfl rfl) rfl ?_; refine l_effv (e_append rfl rfl rfl (.pure _ _ _ _) (by (simp only [List.length_cons, List.length_nil]; omega)) rfl) rfl ?_; refine l_neu (n_assign rfl rfl) rfl ?_; refine l_nil ?_
        refine k1 ?_
        rw [hout']
        exact Sees.of ⟨le1 rfl, le1 rfl, le1 rfl, le1 rfl, le1 rfl, le1 rfl, le1 rfl, trivial⟩ ⟨rfl, rfl, trivial⟩
      · simp only [or_pick] at ht
        have h1 := of_decide_eq_false ht
        rw [if_neg h1, List.append_nil] at hout'
        refine k5 ?_; refine k1 ?_
        rw [hout']
        exact Sees.of ⟨le1 rfl, le1 rfl, le1 rfl, le1 rfl, le1 rfl, le1 rfl, le1 rfl, trivial⟩ ⟨rfl, rfl, trivial⟩
    · skip
      refine c_region_draw (by kernel_rfl) (by kernel_rfl) ?_; refine d_neu (n_field_ref rfl) rfl rfl ?_; refine d_neu (n_load_ref rfl rfl rfl) rfl rfl ?_; refine d_neu (n_add rfl rfl (by omega)) rfl rfl ?_; refine d_neu (n_field_ref rfl) rfl rfl ?_; refine d_neu (n_load_ref rfl rfl rfl) rfl rfl ?_; refine d_neu (n_add rfl rfl (by omega)) rfl rfl ?_; refine d_neu (n_assign rfl rfl) rfl rfl ?_; refine d_neu (n_assign rfl rfl) rfl rfl ?_; refine d_nil ?_
      refine k4 ?_; refine k1 ?_
      refine c_region ?_; refine l_neu (n_add rfl rfl (by omega)) rfl ?_; refine l_neu (n_move rfl rfl) rfl ?_; refine l_nil ?_
      refine k1 ?_
      exact ⟨(k + 1, c.From + 1, c.To + 1, out'), ⟨by dsimp only; omega, he, ⟨by dsimp only; omega, by dsimp only; omega⟩, ⟨by dsimp only; omega, by dsimp only; omega⟩, by dsimp only; omega⟩, by dsimp only; omega, Sees.of ⟨le1 rfl, le1 rfl, le1 rfl, le1 rfl, le1 rfl, le1 rfl, trivial⟩ ⟨rfl, trivial⟩⟩
  · have hk' : k = q.length := by have := of_decide_eq_false ht; omega
    rw [hk', List.drop_eq_nil_of_le (Nat.le_refl _), runMade, List.append_nil] at he
    refine k6 ?_; refine k2 ?_
    refine c_region ?_; refine l_neu (n_move rfl rfl) rfl ?_; refine l_neu (n_assign rfl rfl) rfl ?_; refine l_nil ?_
    refine k1 ?_; refine k10 ?_
    exact ret_ret (ret1 rfl rfl rfl) (by rw [← he])
theorem asc_step {m n : Int} : ∀ {p : List Span} {i j : Int}, Asc m n i j p → ∀ k (h : k < p.length), (k = 0 → i ≤ p[k].From ∧ j ≤ p[k].To) ∧ (∀ h0 : 0 < k, p[k - 1].From < p[k].From ∧ p[k - 1].To < p[k].To) ∧ p[k].From < m ∧ p[k].To < n
  | [], _, _, _, k, h => by simp at h
  | x :: r, i, j, ha, k, h => by
    obtain ⟨h1, h2, h3⟩ := ha
    cases k with
    | zero => have := h3.le; exact ⟨fun _ => ⟨h1, h2⟩, fun h0 => absurd h0 (by omega), by show x.From < m; omega, by show x.To < n; omega⟩
    | succ k =>
      obtain ⟨g1, g2, g3, g4⟩ := asc_step h3 k (by simpa using h)
      refine ⟨fun h0 => absurd h0 (by omega), fun _ => ?_, by simpa using g3, by simpa using g4⟩
      cases k with
      | zero =>
        obtain ⟨q1, q2⟩ := g1 rfl
        have hr : 0 < r.length := by simpa using h
        show x.From < r[0].From ∧ x.To < r[0].To
        omega
      | succ k => simpa using g2 (by omega)
theorem sFromPairs_ok (p : List Span) (m n : Int) (hm : in81 m) (hn : in81 n) (ha : Asc m n 0 0 p) (hp : p.length ≤ 536870912) :
    FnOk Tryd.prog 37 [pSpans p, pInt m, pInt n] (fun rs => rs = [pChanges (madeOf p m n), pInt 0]) := by
  obtain ⟨hm1, hm2⟩ := hm
  obtain ⟨hn1, hn2⟩ := hn
  have hst := asc_step ha
  have hb : ∀ s ∈ p, 0 ≤ s.From ∧ s.From ≤ 4096 ∧ 0 ≤ s.To ∧ s.To ≤ 4096 := by
    have key : ∀ (p : List Span) (i j : Int), Asc m n i j p → 0 ≤ i → 0 ≤ j → ∀ s ∈ p, 0 ≤ s.From ∧ s.From ≤ 4096 ∧ 0 ≤ s.To ∧ s.To ≤ 4096 := by
      intro p
      induction p with
      | nil => intro _ _ _ _ _ s hs; simp at hs
      | cons x r ih =>
        rintro i j ⟨h1, h2, h3⟩ h4 h5 s hs
        have := h3.le
        rcases List.mem_cons.1 hs with rfl | hs
        · omega
        · exact ih _ _ h3 (by omega) (by omega) s hs
    exact key p 0 0 ha (by omega) (by omega)
  refine FnOk.intro Tryd.func37 (by decide) rfl rfl rfl rfl ?_
  refine k2 ?_
  refine c_region ?_; refine l_neu (n_assign rfl rfl) rfl ?_; refine l_neu (n_assign rfl rfl) rfl ?_; refine l_nil ?_
  refine k1 ?_; refine k2 ?_; refine k2 ?_
  refine c_region ?_; refine l_neu (n_move rfl rfl) rfl ?_; refine l_call (slength_ok m) rfl rfl rfl ?_; rintro _ rfl; refine l_neu (n_not rfl) rfl ?_; refine l_neu (n_move rfl rfl) rfl ?_; refine l_guard rfl rfl rfl rfl (fun hg => by rw [hg]; exact n_move rfl rfl) ?_; refine l_guard rfl rfl rfl rfl (fun hg => by have hq := hg; (try simp at hq); rw [hg]; exact n_call1 (slength_ok n) rfl rfl) ?_; refine l_guard rfl rfl rfl rfl (fun hg => by rw [hg]; exact n_not rfl) ?_; refine l_neu (n_pick_bool rfl (fun h => by first | rfl | (rw [h]; rfl)) (fun h => by first | rfl | (rw [h]; rfl))) rfl ?_; refine l_nil ?_
  refine k1 ?_
  refine c_cond rfl (fun ht => ?_) (fun ht => ?_)
  · exfalso
    simp only [← decide_not, or_pick] at ht
    have h : ¬ in81 m ∨ ¬ in81 n := of_decide_eq_true ht
    rcases h with h | h
    · exact h ⟨hm1, hm2⟩
    · exact h ⟨hn1, hn2⟩
  refine c_cut [(0, sList Span 2 spanC p), (1, sInt m), (2, sInt n)] [] (Sees.of ⟨le1 rfl, le1 rfl, le1 rfl, trivial⟩ trivial) ?_
  refine k5 ?_; refine k1 ?_; refine k2 ?_
  refine c_region ?_; refine l_neu (n_build rfl) rfl ?_; refine l_effv (f_alloc 8 rfl) rfl ?_; refine l_eff (e_store_ref TySz.out rfl rfl rfl rfl rfl rfl) ?_; refine l_nil ?_
  refine k1 ?_; refine k2 ?_; refine k2 ?_
  refine c_region ?_; refine l_neu (n_move rfl rfl) rfl ?_; refine l_neu (n_len rfl (.pure _ _ _ _)) rfl ?_; refine l_neu (n_move rfl rfl) rfl ?_; refine l_nil ?_
  refine k1 ?_; refine k3 ?_
  obtain ⟨lastOf, hlast⟩ : ∃ lastOf : Nat → Span, lastOf = fun k => if k = 0 then ⟨-1, -1⟩ else p.getD (k - 1) ⟨0, 0⟩ := ⟨_, rfl⟩
  refine c_while (X := Nat) (fun k => ([(0, sList Span 2 spanC p), (1, sInt m), (2, sInt n), (8, .s (.one (.ref 8 0))), (20, sList Span 2 spanC p), (21, sInt p.length), (22, sInt k)], [(8, .box [.p (.v (.int .i64 (lastOf k).From)), .p (.v (.int .i64 (lastOf k).To))])])) (fun k => k ≤ p.length) (fun k => p.length - k) 0 (Nat.zero_le _) ?_ ?_
  · rw [show lastOf 0 = ⟨-1, -1⟩ by rw [hlast]; rfl]
    exact Sees.of ⟨le1 rfl, le1 rfl, le1 rfl, le1 rfl, le1 rfl, le1 rfl, le1 rfl, trivial⟩ ⟨rfl, trivial⟩
  intro k hk
  dsimp only at hk ⊢
  refine k2 ?_
  refine c_region ?_; refine l_neu (n_lss rfl rfl) rfl ?_; refine l_nil ?_
  refine k1 ?_; refine k2 ?_
  refine c_cond rfl (fun ht => ?_) (fun ht => ?_)
  · have hlt : k < p.length := by have := of_decide_eq_true ht; omega
    have hv : p[k]? = some p[k] := by simp [hlt]
    obtain ⟨g1, g2, g3, g4⟩ := hst k hlt
    have hnext : lastOf (k + 1) = p[k] := by rw [hlast]; simp [hlt]
    have hless : (lastOf k).From < p[k].From ∧ (lastOf k).To < p[k].To := by
      rw [hlast]
      by_cases h0 : k = 0
      · have := g1 h0
        simp only [h0, if_true] at this ⊢
        omega
      · have := g2 (by omega)
        simp only [h0, if_false]
        have e : p.getD (k - 1) ⟨0, 0⟩ = p[k - 1] := by simp [show k - 1 < p.length by omega]
        rw [e]; exact this
    obtain ⟨c, hc⟩ : ∃ c, c = p[k] := ⟨_, rfl⟩
    rw [← hc] at hv g3 g4 hnext hless
    obtain ⟨la, hla⟩ : ∃ la, la = lastOf k := ⟨_, rfl⟩
    rw [← hla] at hless ⊢
    refine k5 ?_; refine k1 ?_; refine k2 ?_; refine k3 ?_; refine k2 ?_
    refine c_region ?_; refine l_neu (n_indexAddr rfl (.pure _ _ _ _) rfl (by omega) hv) rfl ?_; refine l_neu (n_loads_eref rfl rfl) rfl ?_; refine l_effv (f_alloc 10 rfl) rfl ?_; refine l_eff (e_store_ref TySz.out rfl rfl rfl rfl rfl rfl) ?_; refine l_nil ?_
    refine k1 ?_; refine k2 ?_; refine k2 ?_
    refine c_region ?_; refine l_neu (n_field_ref rfl) rfl ?_; refine l_neu (n_load_ref rfl rfl rfl) rfl ?_; refine l_neu (n_field_ref rfl) rfl ?_; refine l_neu (n_load_ref rfl rfl rfl) rfl ?_; refine l_neu (n_leq rfl rfl) rfl ?_; refine l_neu (n_move rfl rfl) rfl ?_; refine l_guard rfl rfl rfl rfl (fun hg => by rw [hg]; exact n_field_ref rfl) ?_; refine l_guard rfl rfl rfl rfl (fun hg => by rw [hg]; exact n_load_ref rfl rfl rfl) ?_; refine l_guard rfl rfl rfl rfl (fun hg => by rw [hg]; exact n_move rfl rfl) ?_; refine l_guard rfl rfl rfl rfl (fun hg => by rw [hg]; exact n_geq rfl rfl) ?_; refine l_neu (n_pick_bool rfl (fun h => by first | rfl | (rw [h]; rfl)) (fun h => by first | rfl | (rw [h]; rfl))) rfl ?_; refine l_neu (n_move rfl rfl) rfl ?_; refine l_guard rfl rfl rfl rfl (fun hg => by rw [hg]; exact n_field_ref rfl) ?_; refine l_guard rfl rfl rfl rfl (fun hg => by rw [hg]; exact n_load_ref rfl rfl rfl) ?_; refine l_guard rfl rfl rfl rfl (fun hg => by rw [hg]; exact n_field_ref rfl) ?_; refine l_guard rfl rfl rfl rfl (fun hg => by rw [hg]; exact n_load_ref rfl rfl rfl) ?_; refine l_guard rfl rfl rfl rfl (fun hg => by rw [hg]; exact n_leq rfl rfl) ?_; refine l_neu (n_pick_bool rfl (fun h => by first | rfl | (rw [h]; rfl)) (fun h => by first | rfl | (rw [h]; rfl))) rfl ?_; refine l_neu (n_move rfl rfl) rfl ?_; refine l_guard rfl rfl rfl rfl (fun hg => by rw [hg]; exact n_field_ref rfl) ?_; refine l_guard rfl rfl rfl rfl (fun hg => by rw [hg]; exact n_load_ref rfl rfl rfl) ?_; refine l_guard rfl rfl rfl rfl (fun hg => by rw [hg]; exact n_move rfl rfl) ?_; refine l_guard rfl rfl rfl rfl (fun hg => by rw [hg]; exact n_geq rfl rfl) ?_; refine l_neu (n_pick_bool rfl (fun h => by first | rfl | (rw [h]; rfl)) (fun h => by first | rfl | (rw [h]; rfl))) rfl ?_; refine l_nil ?_
    refine k1 ?_
    refine c_cond rfl (fun ht => ?_) (fun ht => ?_)
    · exfalso
      simp only [or_pick] at ht
      have := of_decide_eq_true ht
      omega
    · refine k5 ?_; refine k1 ?_
      refine c_region ?_; refine l_neu (n_loads_ref rfl rfl rfl) rfl ?_; refine l_eff (e_store_ref TySz.out rfl rfl rfl rfl rfl rfl) ?_; refine l_nil ?_
      refine k4 ?_; refine k1 ?_
      refine c_region ?_; refine l_neu (n_add rfl rfl (by omega)) rfl ?_; refine l_neu (n_move rfl rfl) rfl ?_; refine l_nil ?_
      refine k1 ?_
      refine ⟨k + 1, by omega, by omega, ?_⟩
      rw [hnext]
      exact Sees.of ⟨le1 rfl, le1 rfl, le1 rfl, le1 rfl, le1 rfl, le1 rfl, le1 rfl, trivial⟩ ⟨rfl, trivial⟩
  · refine k6 ?_; refine k2 ?_
    refine c_region ?_; refine l_neu (n_move rfl rfl) rfl ?_; refine l_neu (n_move rfl rfl) rfl ?_; refine l_neu (n_move rfl rfl) rfl ?_; refine l_call (sfromPairs_ok p m n hp (by omega) (by omega) (fun s hs => by have := hb s hs; omega)) rfl rfl rfl ?_; rintro _ rfl; refine l_neu (n_assign rfl rfl) rfl ?_; refine l_neu (n_assign rfl rfl) rfl ?_; refine l_nil ?_
    refine k1 ?_; refine k10 ?_
    exact ret_ret (ret2 rfl rfl rfl rfl rfl) rfl
end Go.Proofs.YtjjidificdmnmaaDoor
namespace Go.Proofs.YtjjidificdmnmaaDoor
open Go Go.AL
set_option maxRecDepth 100000
theorem getD_get {l : List Int} {i : Nat} (h : i < l.length) : l[i]? = some (l.getD i 0) := by simp [h]
theorem slimited_ok (a b : List Int) : FnOk Tryd.prog 36 [pInts a, pInts b] (fun rs => rs = [pBool (decide ((a.length : Int) ≤ 4096 ∧ (b.length : Int) ≤ 4096))]) := by
  refine FnOk.intro Tryd.func36 (by decide) rfl rfl rfl rfl ?_
  refine k2 ?_
  refine c_region ?_; refine l_neu (n_assign rfl rfl) rfl ?_; refine l_nil ?_
  refine k1 ?_; refine k2 ?_
  refine c_region ?_; refine l_neu (n_move rfl rfl) rfl ?_; refine l_neu (n_len rfl (.pure _ _ _ _)) rfl ?_; refine l_neu (n_leq rfl rfl) rfl ?_; refine l_neu (n_move rfl rfl) rfl ?_; refine l_guard rfl rfl rfl rfl (fun hg => by rw [hg]; exact n_move rfl rfl) ?_; refine l_guard rfl rfl rfl rfl (fun hg => by rw [hg]; exact n_len rfl (.pure _ _ _ _)) ?_; refine l_guard rfl rfl rfl rfl (fun hg => by rw [hg]; exact n_leq rfl rfl) ?_; refine l_neu (n_pick_bool rfl (fun h => by first | rfl | (rw [h]; rfl)) (fun h => by first | rfl | (rw [h]; rfl))) rfl ?_; refine l_neu (n_assign rfl rfl) rfl ?_; refine l_nil ?_
  refine k1 ?_; refine k10 ?_
  exact ret_ret (ret1 rfl rfl rfl) (by simp only [and_pick])
theorem sbeginning_ok (a b : List Int) (ha : a.length ≤ 1073741824) : FnOk Tryd.prog 63 [pInts a, pInts b] (fun rs => rs = [pInt (begOf a b)]) := by
  refine FnOk.intro Tryd.func63 (by decide) rfl rfl rfl rfl ?_
  refine k2 ?_
  refine c_region ?_; refine l_neu (n_assign rfl rfl) rfl ?_; refine l_nil ?_
  refine k1 ?_; refine k2 ?_
  refine c_region ?_; refine l_neu (n_assign rfl rfl) rfl ?_; refine l_nil ?_
  refine k1 ?_; refine k2 ?_; refine k3 ?_
  refine c_while (X := Nat) (fun k => ([(0, sList Int 1 intC a), (1, sList Int 1 intC b), (5, sInt k)], [])) (fun k => k ≤ a.length ∧ k ≤ b.length ∧ begOf a b = k + begOf (a.drop k) (b.drop k)) (fun k => a.length - k) 0 ⟨Nat.zero_le _, Nat.zero_le _, by simp⟩ (Sees.of ⟨le1 rfl, le1 rfl, le1 rfl, trivial⟩ trivial) ?_
  rintro k ⟨hk, hk2, he⟩
  dsimp only at hk hk2 he ⊢
  refine k2 ?_; refine k2 ?_
  refine c_region_draw (by kernel_rfl) (by kernel_rfl) ?_; refine d_neu (n_move rfl rfl) rfl rfl ?_; refine d_neu (n_move rfl rfl) rfl rfl ?_; refine d_neu (n_len rfl (.pure _ _ _ _)) rfl rfl ?_; refine d_neu (n_lss rfl rfl) rfl rfl ?_; refine d_neu (n_move rfl rfl) rfl rfl ?_; refine d_guard rfl rfl (fun hg => by rw [hg]; exact n_move rfl rfl) rfl rfl ?_; refine d_guard rfl rfl (fun hg => by rw [hg]; exact n_move rfl rfl) rfl rfl ?_; refine d_guard rfl rfl (fun hg => by rw [hg]; exact n_len rfl (.pure _ _ _ _)) rfl rfl ?_; refine d_guard rfl rfl (fun hg => by rw [hg]; exact n_lss rfl rfl) rfl rfl ?_; refine d_neu (n_pick_bool rfl (fun h => by first | rfl | (rw [h]; rfl)) (fun h => by first | rfl | (rw [h]; rfl))) rfl rfl ?_; refine d_neu (n_move rfl rfl) rfl rfl ?_; refine d_guard rfl rfl (fun hg => by rw [hg]; exact n_move rfl rfl) rfl rfl ?_; refine d_guard rfl rfl (fun hg => by rw [hg]; exact n_move rfl rfl) rfl rfl ?_; refine d_guard rfl rfl (fun hg => by have hq := hg; (try simp at hq); rw [hg]; exact n_indexAddr rfl (.pure _ _ _ _) rfl (by omega) (getD_get (by omega))) rfl rfl ?_; refine d_guard rfl rfl (fun hg => by rw [hg]; exact n_load_eref rfl rfl) rfl rfl ?_; refine d_guard rfl rfl (fun hg => by rw [hg]; exact n_move rfl rfl) rfl rfl ?_; refine d_guard rfl rfl (fun hg => by rw [hg]; exact n_move rfl rfl) rfl rfl ?_; refine d_guard rfl rfl (fun hg => by have hq := hg; (try simp at hq); rw [hg]; exact n_indexAddr rfl (.pure _ _ _ _) rfl (by omega) (getD_get (by omega))) rfl rfl ?_; refine d_guard rfl rfl (fun hg => by rw [hg]; exact n_load_eref rfl rfl) rfl rfl ?_; refine d_guard rfl rfl (fun hg => by rw [hg]; exact n_eql rfl rfl) rfl rfl ?_; refine d_neu (n_pick_bool rfl (fun h => by first | rfl | (rw [h]; rfl)) (fun h => by first | rfl | (rw [h]; rfl))) rfl rfl ?_; refine d_nil ?_
  refine k1 ?_
  refine c_cond rfl (fun ht => ?_) (fun ht => ?_)
  · simp only [and_pick] at ht
    obtain ⟨⟨h1, h2⟩, h3⟩ := of_decide_eq_true ht
    have h1 : k < a.length := by omega
    have h2 : k < b.length := by omega
    rw [begOf_drop a b k h1 h2, if_pos (by simpa [h1, h2] using h3)] at he
    refine k5 ?_; refine k1 ?_; refine k3 ?_
    refine c_region ?_; refine l_neu (n_move rfl rfl) rfl ?_; refine l_neu (n_add rfl rfl (by omega)) rfl ?_; refine l_neu (n_assign rfl rfl) rfl ?_; refine l_nil ?_
    refine k4 ?_; refine k1 ?_
    exact ⟨k + 1, ⟨by omega, by omega, by omega⟩, by omega, Sees.of ⟨le1 rfl, le1 rfl, le1 rfl, trivial⟩ trivial⟩
  · simp only [and_pick] at ht
    have h := of_decide_eq_false ht
    have h0 : begOf (a.drop k) (b.drop k) = 0 := by
      by_cases hc : k < a.length ∧ k < b.length
      · obtain ⟨h1, h2⟩ := hc
        rw [begOf_drop a b k h1 h2, if_neg]
        intro h3
        exact h ⟨⟨by omega, by omega⟩, by simpa [h1, h2] using h3⟩
      · exact begOf_end a b k hc
    rw [h0] at he
    refine k6 ?_; refine k2 ?_
    refine c_region ?_; refine l_neu (n_move rfl rfl) rfl ?_; refine l_neu (n_assign rfl rfl) rfl ?_; refine l_nil ?_
    refine k1 ?_; refine k10 ?_
    exact ret_ret (ret1 rfl rfl rfl) (by rw [he]; rfl)
theorem sdistances_ok (a b : List Int) (ha : a.length ≤ 4096) (hb : b.length ≤ 4096) : FnOk Tryd.prog 64 [pInts a, pInts b] (fun rs => rs = [pU16s (flat a b (fun _ _ => true))]) := by
  obtain ⟨W, hW⟩ : ∃ W, W = b.length + 1 := ⟨_, rfl⟩
  have hmul : ∀ i : Nat, i ≤ a.length + 1 → 0 ≤ (i : Int) * (W : Int) ∧ (i : Int) * (W : Int) ≤ 16789506 := by
    intro i hi
    have h1 : i * W ≤ 4098 * 4097 := Nat.mul_le_mul (by omega) (by omega)
    have h2 : ((i * W : Nat) : Int) = (i : Int) * W := by push_cast; rfl
    omega
  have hcast : ∀ i : Nat, (i : Int) * (W : Int) = ((i * W : Nat) : Int) := fun i => by push_cast; rfl
  have hlen : ∀ done, (flat a b done).length = (a.length + 1) * W := fun done => by rw [flat_length, hW]
  have hdl : ∀ i j, dist (a.drop i) (b.drop j) ≤ 8192 := fun i j => by
    have := dist_le (a.drop i) (b.drop j)
    simp only [List.length_drop] at this
    omega
  have hin : ∀ i j : Nat, i ≤ a.length → j ≤ b.length → i * W + j < (a.length + 1) * W := fun i j hi hj => by rw [hW]; exact (flat_at hi hj).1
  refine FnOk.intro Tryd.func64 (by decide) rfl rfl rfl rfl ?_
  refine k2 ?_
  refine c_region ?_; refine l_neu (n_assign rfl rfl) rfl ?_; refine l_nil ?_
  refine k1 ?_; refine k2 ?_
  refine c_region ?_; refine l_neu (n_move rfl rfl) rfl ?_; refine l_neu (n_len rfl (.pure _ _ _ _)) rfl ?_; refine l_neu (n_add rfl rfl (by omega)) rfl ?_; refine l_neu (n_assign rfl rfl) rfl ?_; refine l_nil ?_
  refine then_normal ?_
  refine c_cut [(0, sList Int 1 intC a), (1, sList Int 1 intC b), (5, sInt W)] [] (Sees.of ⟨⟨_, rfl, .same _⟩, ⟨_, rfl, .same _⟩, ⟨_, rfl, .eq (by rw [hW]; simp)⟩, trivial⟩ trivial) ?_
  have hm1 := hmul (a.length + 1) (Nat.le_refl _)
  have e1 : ((a.length : Int) + 1) = ((a.length + 1 : Nat) : Int) := by omega
  refine k2 ?_
  refine c_region ?_; refine l_neu (n_move rfl rfl) rfl ?_; refine l_neu (n_len rfl (.pure _ _ _ _)) rfl ?_; refine l_neu (n_add rfl rfl (by omega)) rfl ?_; refine l_neu (n_move rfl rfl) rfl ?_; refine l_neu (n_mul rfl rfl (by (rw [e1]; omega))) rfl ?_; refine l_effv (f_makeZ 20 Int u16C 0 rfl rfl (by (rw [e1]; omega)) (by (rw [e1]; omega)) (fun _ => by first | exact ⟨⟨rfl, rfl⟩, trivial⟩ | exact ⟨rep_nil _ _ _, trivial⟩) rfl) rfl ?_; refine l_neu (n_assign rfl rfl) rfl ?_; refine l_nil ?_
  refine then_normal ?_
  refine c_cut [(0, sList Int 1 intC a), (1, sList Int 1 intC b), (5, sInt W), (6, .s (.one (.mut 20)))] [(20, .arr Int 1 u16C (flat a b (fun _ _ => false)))] ?_ ?_
  · refine Sees.of ⟨⟨_, rfl, .same _⟩, ⟨_, rfl, .same _⟩, ⟨_, rfl, .same _⟩, ⟨_, rfl, .same _⟩, trivial⟩ ⟨?_, trivial⟩
    rw [← flat_zero, e1, hcast, Int.toNat_natCast, hW]; rfl
  refine k2 ?_; refine k2 ?_
  refine c_region ?_; refine l_neu (n_move rfl rfl) rfl ?_; refine l_neu (n_len rfl (.pure _ _ _ _)) rfl ?_; refine l_neu (n_move rfl rfl) rfl ?_; refine l_nil ?_
  refine k1 ?_; refine k3 ?_
  refine c_while (X := Nat) (fun j => ([(0, sList Int 1 intC a), (1, sList Int 1 intC b), (5, sInt W), (6, .s (.one (.mut 20))), (22, sInt b.length), (23, sInt j)], [(20, .arr Int 1 u16C (flat a b (fun r q => decide (r = a.length ∧ q < j))))])) (fun j => j ≤ b.length) (fun j => b.length - j) 0 (Nat.zero_le _) ?_ ?_
  · rw [show flat a b (fun r q => decide (r = a.length ∧ q < 0)) = flat a b (fun _ _ => false) from flat_congr fun r q _ _ => .inl (by simp)]
    exact Sees.of ⟨le1 rfl, le1 rfl, le1 rfl, le1 rfl, le1 rfl, le1 rfl, trivial⟩ ⟨rfl, trivial⟩
  intro j hj
  dsimp only at hj ⊢
  refine k2 ?_
  refine c_region ?_; refine l_neu (n_lss rfl rfl) rfl ?_; refine l_nil ?_
  refine k1 ?_; refine k2 ?_
  refine c_cond rfl (fun ht => ?_) (fun ht => ?_)
  · have hlt : j < b.length := by have := of_decide_eq_true ht; omega
    have hmm := hmul a.length (by omega)
    have hix := hin a.length j (Nat.le_refl _) (by omega)
    have hc1 := hcast a.length
    have hL := hlen (fun r q => decide (r = a.length ∧ q < j))
    have hst : (flat a b (fun r q => decide (r = a.length ∧ q < j))).set (((a.length : Int) * (W : Int) + (j : Int)).toNat) (IntKind.u16.wrap ((b.length : Int) - j)) = flat a b (fun r q => decide (r = a.length ∧ q < j + 1)) := by
      rw [show ((a.length : Int) * (W : Int) + (j : Int)).toNat = a.length * (b.length + 1) + j by rw [hc1, hW]; omega, u16_in _ (by omega)]
      refine flat_set (Nat.le_refl _) (by omega) ?_ (by simp) (fun r q hr hq hne => ?_)
      · rw [List.drop_eq_nil_of_le (Nat.le_refl a.length), dist, List.length_drop]; omega
      · rw [decide_eq_decide]; omega
    refine k5 ?_; refine k1 ?_; refine k2 ?_; refine k3 ?_; refine k2 ?_
    refine c_region ?_; refine l_neu (n_move rfl rfl) rfl ?_; refine l_neu (n_assign rfl rfl) rfl ?_; refine l_nil ?_
    refine k1 ?_
    refine c_region ?_; refine l_neu (n_move rfl rfl) rfl ?_; refine l_neu (n_move rfl rfl) rfl ?_; refine l_neu (n_len rfl (.pure _ _ _ _)) rfl ?_; refine l_neu (n_move rfl rfl) rfl ?_; refine l_neu (n_mul rfl rfl (by omega)) rfl ?_; refine l_neu (n_move rfl rfl) rfl ?_; refine l_neu (n_add rfl rfl (by omega)) rfl ?_; refine l_neu (n_move rfl rfl) rfl ?_; refine l_neu (n_len rfl (.pure _ _ _ _)) rfl ?_; refine l_neu (n_move rfl rfl) rfl ?_; refine l_neu (n_sub rfl rfl (by omega)) rfl ?_; refine l_neu (n_convert rfl) rfl ?_; refine l_neu (n_indexAddr_mut rfl rfl rfl (by omega) (by (rw [hL]; omega))) rfl ?_; refine l_eff (e_store_mref1 TySz.out rfl rfl (by (rw [hL]; omega)) rfl rfl) ?_; refine l_nil ?_
    refine k4 ?_; refine k1 ?_
    refine c_region ?_; refine l_neu (n_add rfl rfl (by omega)) rfl ?_; refine l_neu (n_move rfl rfl) rfl ?_; refine l_nil ?_
    refine k1 ?_
    refine ⟨j + 1, by omega, by omega, ?_⟩
    rw [← hst]
    exact Sees.of ⟨le1 rfl, le1 rfl, le1 rfl, le1 rfl, le1 rfl, le1 rfl, trivial⟩ ⟨rfl, trivial⟩
  · have hj' : j = b.length := by have := of_decide_eq_false ht; omega
    subst hj'
    rw [show flat a b (fun r q => decide (r = a.length ∧ q < b.length)) = flat a b (fun r _ => decide (a.length ≤ r)) from flat_congr fun r q hr hq => by
      by_cases h : r = a.length ∧ q = b.length
      · right; rw [h.1, h.2, List.drop_eq_nil_of_le (Nat.le_refl _), List.drop_eq_nil_of_le (Nat.le_refl _)]; exact dist_nil []
      · left; rw [decide_eq_decide]; omega]
    refine k6 ?_; refine k2 ?_; refine k2 ?_
    refine c_region ?_; refine l_neu (n_move rfl rfl) rfl ?_; refine l_neu (n_len rfl (.pure _ _ _ _)) rfl ?_; refine l_neu (n_sub rfl rfl (by omega)) rfl ?_; refine l_neu (n_assign rfl rfl) rfl ?_; refine l_nil ?_
    refine k1 ?_; refine k3 ?_
    refine c_while (X := Nat) (fun i => ([(0, sList Int 1 intC a), (1, sList Int 1 intC b), (5, sInt W), (6, .s (.one (.mut 20))), (8, sInt ((i : Int) - 1))], [(20, .arr Int 1 u16C (flat a b (fun r _ => decide (i ≤ r))))])) (fun i => i ≤ a.length) (fun i => i) a.length (Nat.le_refl _) (Sees.of ⟨le1 rfl, le1 rfl, le1 rfl, le1 rfl, le1 rfl, trivial⟩ ⟨rfl, trivial⟩) ?_
    intro i hi
    dsimp only at hi ⊢
    refine k2 ?_; refine k2 ?_
    refine c_region ?_; refine l_neu (n_move rfl rfl) rfl ?_; refine l_neu (n_geq rfl rfl) rfl ?_; refine l_nil ?_
    refine k1 ?_
    refine c_cond rfl (fun ht => ?_) (fun ht => ?_)
    · obtain ⟨i, rfl⟩ : ∃ r, i = r + 1 := ⟨i - 1, by have := of_decide_eq_true ht; omega⟩
      refine c_cut [(0, sList Int 1 intC a), (1, sList Int 1 intC b), (5, sInt W), (6, .s (.one (.mut 20))), (8, sInt i)] [(20, .arr Int 1 u16C (flat a b (fun r _ => decide (i + 1 ≤ r))))] (Sees.of ⟨le1 rfl, le1 rfl, le1 rfl, le1 rfl, leE rfl (by first | (simp; done) | (simp; omega)), trivial⟩ ⟨rfl, trivial⟩) ?_
      obtain ⟨P, hP⟩ : ∃ P, P = i * W := ⟨_, rfl⟩
      obtain ⟨N, hN⟩ : ∃ N, N = (a.length + 1) * W := ⟨_, rfl⟩
      have c0 : (i : Int) * (W : Int) = (P : Int) := by rw [hP]; exact hcast i
      have c1 : ((i : Int) + 1) * (W : Int) = (P : Int) + W := by rw [Int.add_mul, Int.one_mul, c0]
      have c2 : ((i : Int) + 2) * (W : Int) = (P : Int) + W + W := by rw [Int.add_mul, c0]; omega
      have hPN : P + W + W ≤ N := by
        have h1 : (i + 2) * W ≤ (a.length + 1) * W := Nat.mul_le_mul_right _ (by omega)
        have h2 : (i + 2) * W = i * W + W + W := by rw [Nat.add_mul]; omega
        omega
      have hN2 : N ≤ 16789506 := by have := hmul (a.length + 1) (Nat.le_refl _); have := hcast (a.length + 1); omega
      have hL : ∀ done, (flat a b done).length = N := fun done => by rw [hlen, hN]
      refine k5 ?_; refine k1 ?_; refine k2 ?_; refine k3 ?_; refine k2 ?_
      refine c_region_draw (by kernel_rfl) (by kernel_rfl) ?_; refine d_neu (n_move rfl rfl) rfl rfl ?_; refine d_neu (n_move rfl rfl) rfl rfl ?_; refine d_neu (n_move rfl rfl) rfl rfl ?_; refine d_neu (n_mul rfl rfl (by (rw [c0]; omega))) rfl rfl ?_; refine d_neu (n_move rfl rfl) rfl rfl ?_; refine d_neu (n_add rfl rfl (by omega)) rfl rfl ?_; refine d_neu (n_move rfl rfl) rfl rfl ?_; refine d_neu (n_mul rfl rfl (by (rw [c1]; omega))) rfl rfl ?_; refine d_neu (n_slice_mut_lh rfl rfl rfl rfl (by (first | (rw [c0]; omega) | (rw [c0, c1]; omega) | (rw [c1, hL]; omega))) (by (first | (rw [c0]; omega) | (rw [c0, c1]; omega) | (rw [c1, hL]; omega))) (by (first | (rw [c0]; omega) | (rw [c0, c1]; omega) | (rw [c1, hL]; omega)))) rfl rfl ?_; refine d_neu (n_move rfl rfl) rfl rfl ?_; refine d_neu (n_move rfl rfl) rfl rfl ?_; refine d_neu (n_add rfl rfl (by omega)) rfl rfl ?_; refine d_neu (n_move rfl rfl) rfl rfl ?_; refine d_neu (n_mul rfl rfl (by (rw [c1]; omega))) rfl rfl ?_; refine d_neu (n_move rfl rfl) rfl rfl ?_; refine d_neu (n_add rfl rfl (by omega)) rfl rfl ?_; refine d_neu (n_move rfl rfl) rfl rfl ?_; refine d_neu (n_mul rfl rfl (by (rw [c2]; omega))) rfl rfl ?_; refine d_neu (n_slice_mut_lh rfl rfl rfl rfl (by (first | (rw [c1]; omega) | (rw [c1, c2]; omega) | (rw [c2, hL]; omega))) (by (first | (rw [c1]; omega) | (rw [c1, c2]; omega) | (rw [c2, hL]; omega))) (by (first | (rw [c1]; omega) | (rw [c1, c2]; omega) | (rw [c2, hL]; omega)))) rfl rfl ?_; refine d_neu (n_assign rfl rfl) rfl rfl ?_; refine d_neu (n_assign rfl rfl) rfl rfl ?_; refine d_nil ?_
      refine then_normal ?_
      have hdone : ∀ j, j ≤ b.length → (flat a b (fun r q => decide (i + 1 ≤ r ∨ (r = i ∧ j ≤ q))))[P + j]? = some (dist (a.drop i) (b.drop j) : Int) := fun j hj => by
        rw [hP, hW, flat_get (by omega) hj, if_pos (by simp)]
      have hbelow : ∀ j j', j ≤ b.length → (flat a b (fun r q => decide (i + 1 ≤ r ∨ (r = i ∧ j' ≤ q))))[P + W + j]? = some (dist (a.drop (i + 1)) (b.drop j) : Int) := fun j j' hj => by
        rw [show P + W + j = (i + 1) * (b.length + 1) + j by rw [hP, hW, Nat.add_mul]; omega, flat_get (by omega) hj, if_pos (by simp)]
      refine c_cut [(0, sList Int 1 intC a), (1, sList Int 1 intC b), (5, sInt W), (6, .s (.one (.mut 20))), (8, sInt i), (9, .s (.one (.msl 20 1 P W))), (10, .s (.one (.msl 20 1 (P + W) W)))] [(20, .arr Int 1 u16C (flat a b (fun r _ => decide (i + 1 ≤ r))))] ?_ ?_
      · refine Sees.of ⟨⟨_, rfl, .same _⟩, ⟨_, rfl, .same _⟩, ⟨_, rfl, .same _⟩, ⟨_, rfl, .same _⟩, ⟨_, rfl, .same _⟩, ⟨_, rfl, .eq ?_⟩, ⟨_, rfl, .eq ?_⟩, trivial⟩ ⟨rfl, trivial⟩
        · rw [c0, c1]; congr 3 <;> omega
        · rw [c1, c2]; congr 3 <;> omega
      have hset : ∀ (done done' : Nat → Nat → Bool) (j : Nat) (v : Int), j ≤ b.length → v = (dist (a.drop i) (b.drop j) : Int) → done' i j = true → (∀ r q, r ≤ a.length → q ≤ b.length → ¬ (r = i ∧ q = j) → done' r q = done r q) → (flat a b done).set (P + j) v = flat a b done' := by
        intro done done' j v hj hv h1 h2
        rw [hP, hW]; exact flat_set (by omega) hj hv h1 h2
      have hs0 : (flat a b (fun r _ => decide (i + 1 ≤ r))).set (P + ((b.length : Nat) : Int).toNat) (IntKind.u16.wrap ((a.length : Int) - i)) = flat a b (fun r q => decide (i + 1 ≤ r ∨ (r = i ∧ b.length ≤ q))) := by
        rw [Int.toNat_natCast, u16_in _ (by omega)]
        refine hset _ _ _ _ (Nat.le_refl _) ?_ (by simp) (fun r q hr hq hne => ?_)
        · rw [List.drop_eq_nil_of_le (Nat.le_refl b.length), dist_nil, List.length_drop]; omega
        · rw [decide_eq_decide]; omega
      refine k2 ?_
      refine c_region ?_; refine l_neu (n_move rfl rfl) rfl ?_; refine l_neu (n_move rfl rfl) rfl ?_; refine l_neu (n_len rfl (.pure _ _ _ _)) rfl ?_; refine l_neu (n_move rfl rfl) rfl ?_; refine l_neu (n_len rfl (.pure _ _ _ _)) rfl ?_; refine l_neu (n_move rfl rfl) rfl ?_; refine l_neu (n_sub rfl rfl (by omega)) rfl ?_; refine l_neu (n_convert rfl) rfl ?_; refine l_neu (n_indexAddr_msl rfl rfl (by omega) (by omega)) rfl ?_; refine l_eff (e_store_mref1 TySz.out rfl rfl (by (rw [hL]; omega)) rfl rfl) ?_; refine l_nil ?_
      rw [hs0]
      refine k1 ?_; refine k2 ?_
      refine c_region ?_; refine l_neu (n_move rfl rfl) rfl ?_; refine l_neu (n_len rfl (.pure _ _ _ _)) rfl ?_; refine l_neu (n_sub rfl rfl (by omega)) rfl ?_; refine l_neu (n_assign rfl rfl) rfl ?_; refine l_nil ?_
      refine k1 ?_; refine k3 ?_
      refine c_while (X := Nat) (fun j => ([(0, sList Int 1 intC a), (1, sList Int 1 intC b), (5, sInt W), (6, .s (.one (.mut 20))), (8, sInt i), (9, .s (.one (.msl 20 1 P W))), (10, .s (.one (.msl 20 1 (P + W) W))), (11, sInt ((j : Int) - 1))], [(20, .arr Int 1 u16C (flat a b (fun r q => decide (i + 1 ≤ r ∨ (r = i ∧ j ≤ q)))))])) (fun j => j ≤ b.length) (fun j => j) b.length (Nat.le_refl _) (Sees.of ⟨le1 rfl, le1 rfl, le1 rfl, le1 rfl, le1 rfl, le1 rfl, le1 rfl, le1 rfl, trivial⟩ ⟨rfl, trivial⟩) ?_
      intro j hj
      dsimp only at hj ⊢
      refine k2 ?_; refine k2 ?_
      refine c_region ?_; refine l_neu (n_move rfl rfl) rfl ?_; refine l_neu (n_geq rfl rfl) rfl ?_; refine l_nil ?_
      refine k1 ?_
      refine c_cond rfl (fun ht => ?_) (fun ht => ?_)
      · obtain ⟨j, rfl⟩ : ∃ r, j = r + 1 := ⟨j - 1, by have := of_decide_eq_true ht; omega⟩
        have hva : a[i]? = some a[i] := by simp [show i < a.length by omega]
        have hvb : b[j]? = some b[j] := by simp [show j < b.length by omega]
        have hdd := dist_drop a b i j (by omega) (by omega)
        have hd1 := hdl i j
        have hd2 := hdl (i + 1) j
        have hd3 := hdl i (j + 1)
        have hd4 := hdl (i + 1) (j + 1)
        obtain ⟨u, hu⟩ : ∃ u, u = a[i] := ⟨_, rfl⟩
        obtain ⟨v, hv⟩ : ∃ v, v = b[j] := ⟨_, rfl⟩
        rw [← hu] at hva hdd
        rw [← hv] at hvb hdd
        have hst : (flat a b (fun r q => decide (i + 1 ≤ r ∨ (r = i ∧ j + 1 ≤ q)))).set (P + j) (dist (a.drop i) (b.drop j) : Int) = flat a b (fun r q => decide (i + 1 ≤ r ∨ (r = i ∧ j ≤ q))) := hset _ _ _ _ (by omega) rfl (by simp) (fun r q hr hq hne => by rw [decide_eq_decide]; omega)
        refine c_cut [(0, sList Int 1 intC a), (1, sList Int 1 intC b), (5, sInt W), (6, .s (.one (.mut 20))), (8, sInt i), (9, .s (.one (.msl 20 1 P W))), (10, .s (.one (.msl 20 1 (P + W) W))), (11, sInt j)] [(20, .arr Int 1 u16C (flat a b (fun r q => decide (i + 1 ≤ r ∨ (r = i ∧ j + 1 ≤ q)))))] (Sees.of ⟨le1 rfl, le1 rfl, le1 rfl, le1 rfl, le1 rfl, le1 rfl, le1 rfl, leE rfl (by first | (simp; done) | (simp; omega)), trivial⟩ ⟨rfl, trivial⟩) ?_
        refine c_skip ?_
        refine then_normal ?_
        refine c_join [(0, sList Int 1 intC a), (1, sList Int 1 intC b), (5, sInt W), (6, .s (.one (.mut 20))), (8, sInt i), (9, .s (.one (.msl 20 1 P W))), (10, .s (.one (.msl 20 1 (P + W) W))), (11, sInt j)] [(20, .arr Int 1 u16C (flat a b (fun r q => decide (i + 1 ≤ r ∨ (r = i ∧ j ≤ q)))))] ?_ ?_
        · refine k3 ?_; refine k2 ?_
          refine c_region_draw (by kernel_rfl) (by kernel_rfl) ?_; refine d_neu (n_move rfl rfl) rfl rfl ?_; refine d_neu (n_move rfl rfl) rfl rfl ?_; refine d_neu (n_indexAddr rfl (.pure _ _ _ _) rfl (by omega) hva) rfl rfl ?_; refine d_neu (n_load_eref rfl rfl) rfl rfl ?_; refine d_neu (n_move rfl rfl) rfl rfl ?_; refine d_neu (n_move rfl rfl) rfl rfl ?_; refine d_neu (n_indexAddr rfl (.pure _ _ _ _) rfl (by omega) hvb) rfl rfl ?_; refine d_neu (n_load_eref rfl rfl) rfl rfl ?_; refine d_neu (n_eql rfl rfl) rfl rfl ?_; refine d_nil ?_
          refine k1 ?_
          refine c_cond rfl (fun ht => ?_) (fun ht => ?_)
          · rw [if_pos (of_decide_eq_true ht)] at hdd
            rw [hdd] at hst
            have hg := hbelow (j + 1) (j + 1) (by omega)
            have hgi : (flat a b (fun r q => decide (i + 1 ≤ r ∨ (r = i ∧ j + 1 ≤ q))))[P + W + ((j : Int) + 1).toNat]? = some (dist (a.drop (i + 1)) (b.drop (j + 1)) : Int) := by rw [show ((j : Int) + 1).toNat = j + 1 by omega]; exact hg
            skip
            refine c_region ?_; refine l_neu (n_move rfl rfl) rfl ?_; refine l_neu (n_move rfl rfl) rfl ?_; refine l_neu (n_move rfl rfl) rfl ?_; refine l_neu (n_move rfl rfl) rfl ?_; refine l_neu (n_add rfl rfl (by omega)) rfl ?_; refine l_neu (n_indexAddr_msl rfl rfl (by omega) (by omega)) rfl ?_; refine l_neu (n_load_mref rfl rfl hgi rfl) rfl ?_; refine l_neu (n_indexAddr_msl rfl rfl (by omega) (by omega)) rfl ?_; refine l_eff (e_store_mref1 TySz.out rfl rfl (by (rw [hL]; omega)) rfl rfl) ?_; refine l_nil ?_
            refine k4 ?_; refine k1 ?_
            rw [show P + ((j : Nat) : Int).toNat = P + j by omega, hst]
            exact Sees.of ⟨le1 rfl, le1 rfl, le1 rfl, le1 rfl, le1 rfl, le1 rfl, le1 rfl, le1 rfl, trivial⟩ ⟨rfl, trivial⟩
          · rw [if_neg (of_decide_eq_false ht)] at hdd
            have hg1 := hbelow j (j + 1) (by omega)
            have hg2 := hdone (j + 1) (by omega)
            have hgi1 : (flat a b (fun r q => decide (i + 1 ≤ r ∨ (r = i ∧ j + 1 ≤ q))))[P + W + ((j : Nat) : Int).toNat]? = some (dist (a.drop (i + 1)) (b.drop j) : Int) := by rw [Int.toNat_natCast]; exact hg1
            have hgi2 : (flat a b (fun r q => decide (i + 1 ≤ r ∨ (r = i ∧ j + 1 ≤ q))))[P + ((j : Int) + 1).toNat]? = some (dist (a.drop i) (b.drop (j + 1)) : Int) := by rw [show ((j : Int) + 1).toNat = j + 1 by omega]; exact hg2
            have hval : IntKind.u16.wrap ((if (dist (a.drop i) (b.drop (j + 1)) : Int) < (dist (a.drop (i + 1)) (b.drop j) : Int) then (dist (a.drop i) (b.drop (j + 1)) : Int) else (dist (a.drop (i + 1)) (b.drop j) : Int)) + 1) = (dist (a.drop i) (b.drop j) : Int) := by
              rw [u16_in _ (by split <;> omega), hdd]; split <;> omega
            skip
            refine c_region_draw (by kernel_rfl) (by kernel_rfl) ?_; refine d_neu (n_move rfl rfl) rfl rfl ?_; refine d_neu (n_move rfl rfl) rfl rfl ?_; refine d_neu (n_move rfl rfl) rfl rfl ?_; refine d_neu (n_move rfl rfl) rfl rfl ?_; refine d_neu (n_indexAddr_msl rfl rfl (by omega) (by omega)) rfl rfl ?_; refine d_neu (n_load_mref rfl rfl hgi1 rfl) rfl rfl ?_; refine d_neu (n_move rfl rfl) rfl rfl ?_; refine d_neu (n_move rfl rfl) rfl rfl ?_; refine d_neu (n_add rfl rfl (by omega)) rfl rfl ?_; refine d_neu (n_indexAddr_msl rfl rfl (by omega) (by omega)) rfl rfl ?_; refine d_neu (n_load_mref rfl rfl hgi2 rfl) rfl rfl ?_; refine d_neu (n_min rfl rfl) rfl rfl ?_; refine d_neu (n_add_w rfl rfl) rfl rfl ?_; refine d_neu (n_indexAddr_msl rfl rfl (by omega) (by omega)) rfl rfl ?_; refine d_eff (e_store_mref1 TySz.out rfl rfl (by (rw [hL]; omega)) rfl rfl) rfl ?_; refine d_nil ?_
            refine k4 ?_; refine k1 ?_
            rw [hval, show P + ((j : Nat) : Int).toNat = P + j by omega, hst]
            exact Sees.of ⟨le1 rfl, le1 rfl, le1 rfl, le1 rfl, le1 rfl, le1 rfl, le1 rfl, le1 rfl, trivial⟩ ⟨rfl, trivial⟩
        · skip
          refine c_region ?_; refine l_neu (n_move rfl rfl) rfl ?_; refine l_neu (n_sub rfl rfl (by omega)) rfl ?_; refine l_neu (n_assign rfl rfl) rfl ?_; refine l_nil ?_
          refine k1 ?_
          exact ⟨j, by omega, by omega, Sees.of ⟨le1 rfl, le1 rfl, le1 rfl, le1 rfl, le1 rfl, le1 rfl, le1 rfl, le1 rfl, trivial⟩ ⟨rfl, trivial⟩⟩
      · obtain rfl : j = 0 := by have := of_decide_eq_false ht; omega
        rw [show flat a b (fun r q => decide (i + 1 ≤ r ∨ (r = i ∧ 0 ≤ q))) = flat a b (fun r _ => decide (i ≤ r)) from flat_congr fun r q _ _ => .inl (by rw [decide_eq_decide]; omega)]
        refine k6 ?_; refine k7 ?_; refine k7 ?_; refine k8 rfl ?_; refine k4 ?_; refine k1 ?_
        refine c_region ?_; refine l_neu (n_move rfl rfl) rfl ?_; refine l_neu (n_sub rfl rfl (by omega)) rfl ?_; refine l_neu (n_assign rfl rfl) rfl ?_; refine l_nil ?_
        refine k1 ?_
        exact ⟨i, by omega, by omega, Sees.of ⟨le1 rfl, le1 rfl, le1 rfl, le1 rfl, le1 rfl, trivial⟩ ⟨rfl, trivial⟩⟩
    · obtain rfl : i = 0 := by have := of_decide_eq_false ht; omega
      rw [show flat a b (fun r _ => decide (0 ≤ r)) = flat a b (fun _ _ => true) from flat_congr fun r q _ _ => .inl (by simp)]
      refine c_sees (Sees.freeze (k := 20) rfl) ?_
      refine k6 ?_; refine k2 ?_
      refine c_region ?_; refine l_neu (n_move rfl rfl) rfl ?_; refine l_neu (n_assign rfl rfl) rfl ?_; refine l_nil ?_
      refine k1 ?_; refine k10 ?_
      exact ret_ret (ret1 rfl rfl rfl) rfl
end Go.Proofs.YtjjidificdmnmaaDoor
