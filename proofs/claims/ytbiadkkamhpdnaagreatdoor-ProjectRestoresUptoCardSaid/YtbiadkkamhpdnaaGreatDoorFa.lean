/- Walks of the program's functions. -/
import Derived.Test.YtbiadkkamhpdnaaGreatDoorTy
import Derived.Test.YtbiadkkamhpdnaaGreatDoorFs
import Derived.Test.YtbiadkkamhpdnaaGreatDoorSh
set_option linter.unusedSimpArgs false
namespace Go.Proofs.YtbiadkkamhpdnaaGreatDoor
open Go Go.AL
set_option maxRecDepth 100000
theorem u64_nonneg (p : Int) : 0 ≤ IntKind.u64.wrap p := by simp [IntKind.wrap, IntKind.signed, IntKind.bits]; omega
theorem lines_ok (b : Str) (hb : b.length ≤ 536870912) : FnOk Tryz.prog 70 [pStr b] (fun rs => rs = [pStrs (linesOf b)]) := by
  refine FnOk.intro Tryz.func70 (by decide) rfl rfl rfl rfl ?_
  refine k2 ?_
  refine c_region ?_; refine l_neu (n_assign rfl rfl) rfl ?_; refine l_nil ?_
  refine k1 ?_; refine k2 ?_
  refine c_region ?_; refine l_effv (f_adopt 3 _ strC rfl) rfl ?_; refine l_nil ?_
  refine k1 ?_; refine k2 ?_
  refine c_region ?_; refine l_neu (n_assign rfl rfl) rfl ?_; refine l_nil ?_
  refine k1 ?_; refine k2 ?_; refine k2 ?_
  refine c_region ?_; refine l_neu (n_assign rfl rfl) rfl ?_; refine l_nil ?_
  refine k1 ?_; refine k3 ?_
  refine c_while (X := Nat × Nat × List Str) (fun x => ([(0, sStr b), (3, .s (.one (.buf 3 Str 1 strC x.2.2))), (4, sInt x.2.1), (5, sInt x.1)], [(3, .spare x.2.2.length 1 9)]))
    (fun x => x.1 ≤ b.length ∧ x.2.1 ≤ x.1 ∧ x.2.2.length ≤ x.1 ∧ (x.1 = b.length → x.2.1 = x.1) ∧ x.2.2 ++ linesAux ((b.drop x.2.1).take (x.1 - x.2.1)) (b.drop x.1) = linesOf b) (fun x => b.length - x.1) (0, 0, []) (by simp [linesOf]) ?_ ?_
  · exact Sees.of ⟨⟨_, rfl, .same _⟩, ⟨_, rfl, .same _⟩, ⟨_, rfl, .same _⟩, ⟨_, rfl, .same _⟩, trivial⟩ ⟨rfl, trivial⟩
  · rintro ⟨i, from', out⟩ ⟨hi, hf, ho, he, hp⟩
    dsimp only at hi hf ho he hp ⊢
    refine k2 ?_; refine k2 ?_
    refine c_region ?_; refine l_neu (n_move rfl rfl) rfl ?_; refine l_neu (n_move rfl rfl) rfl ?_; refine l_neu (n_len_s rfl) rfl ?_; refine l_neu (n_lss rfl rfl) rfl ?_; refine l_nil ?_
    refine k1 ?_
    refine c_cond rfl (fun ht => ?_) (fun ht => ?_)
    · have hlt : i < b.length := by simpa using ht
      have hv : b[i]? = some b[i] := by simp [hlt]
      refine k5 ?_; refine k1 ?_; refine k2 ?_; refine k3 ?_; refine k2 ?_
      refine c_region ?_; refine l_neu (n_move rfl rfl) rfl ?_; refine l_neu (n_move rfl rfl) rfl ?_; refine l_neu (n_index_s rfl rfl (by omega) hv) rfl ?_; refine l_neu (n_eql rfl rfl) rfl ?_; refine l_neu (n_move rfl rfl) rfl ?_; refine l_guard rfl rfl rfl rfl (fun hg => by rw [hg]; exact n_move rfl rfl) ?_; refine l_guard rfl rfl rfl rfl (fun hg => by have hq := hg; (try simp at hq); rw [hg]; exact n_add rfl rfl (by omega)) ?_; refine l_guard rfl rfl rfl rfl (fun hg => by rw [hg]; exact n_move rfl rfl) ?_; refine l_guard rfl rfl rfl rfl (fun hg => by rw [hg]; exact n_len_s rfl) ?_; refine l_guard rfl rfl rfl rfl (fun hg => by rw [hg]; exact n_eql rfl rfl) ?_; refine l_neu (n_pick_bool rfl (fun h => by first | rfl | (rw [h]; rfl)) (fun h => by first | rfl | (rw [h]; rfl))) rfl ?_; refine l_nil ?_
      refine k1 ?_
      refine c_cond rfl (fun ht2 => ?_) (fun ht2 => ?_)
      · refine k2 ?_
        refine c_region ?_; refine l_neu (n_move rfl rfl) rfl ?_; refine l_neu (n_move rfl rfl) rfl ?_; refine l_neu (n_move rfl rfl) rfl ?_; refine l_neu (n_move rfl rfl) rfl ?_; refine l_neu (n_add rfl rfl (by omega)) rfl ?_; refine l_neu (n_sub_lh rfl rfl rfl (by omega) (by omega) (by omega)) rfl ?_; refine l_neu (n_buildSlice (c := strC) (ys := [_]) (asm_cons rfl rfl rfl rfl asm_nil) rfl rfl rfl) rfl ?_; refine l_effv (e_append rfl rfl rfl (.pure _ _ _ _) (by simp; omega) rfl) rfl ?_; refine l_neu (n_assign rfl rfl) rfl ?_; refine l_nil ?_
        refine k1 ?_
        refine c_region ?_; refine l_neu (n_move rfl rfl) rfl ?_; refine l_neu (n_add rfl rfl (by omega)) rfl ?_; refine l_neu (n_assign rfl rfl) rfl ?_; refine l_nil ?_
        refine k4 ?_; refine k1 ?_
        refine c_region ?_; refine l_neu (n_move rfl rfl) rfl ?_; refine l_neu (n_add rfl rfl (by omega)) rfl ?_; refine l_neu (n_assign rfl rfl) rfl ?_; refine l_nil ?_
        refine k1 ?_
        refine ⟨(i + 1, i + 1, _), ⟨?_, ?_, ?_, ?_, ?_⟩, ?_, Sees.of ⟨⟨_, rfl, .same _⟩, ⟨_, rfl, .same _⟩, ⟨_, rfl, .same _⟩, ⟨_, rfl, .same _⟩, trivial⟩ ⟨rfl, trivial⟩⟩
        all_goals dsimp only
        · omega
        · omega
        · simp; omega
        · omega
        · have hc : b[i] = 10 ∨ i + 1 = b.length := by
            simp only [u8_lf] at ht2
            by_cases h : b[i] = 10
            · exact .inl h
            · simp [h] at ht2; exact .inr (by omega)
          rw [toNat_succ, Int.toNat_natCast, Nat.sub_self, List.take_zero, ← part_snoc b from' i hf hlt, List.append_assoc, ← hp, List.drop_eq_getElem_cons hlt, linesAux_step]
          rcases hc with h | h
          · rw [if_pos h]; rfl
          · have hd : b.drop (i + 1) = [] := List.drop_eq_nil_of_le (by omega)
            rw [hd]
            split
            · rfl
            · rw [show linesAux ([] : Str) [] = [] from rfl, linesAux_end _ (by simp)]; simp
        · omega
      · refine k5 ?_; refine k4 ?_; refine k1 ?_
        refine c_region ?_; refine l_neu (n_move rfl rfl) rfl ?_; refine l_neu (n_add rfl rfl (by omega)) rfl ?_; refine l_neu (n_assign rfl rfl) rfl ?_; refine l_nil ?_
        refine k1 ?_
        refine ⟨(i + 1, from', out), ⟨?_, ?_, ?_, ?_, ?_⟩, ?_, Sees.of ⟨⟨_, rfl, .same _⟩, ⟨_, rfl, .same _⟩, ⟨_, rfl, .same _⟩, ⟨_, rfl, .same _⟩, trivial⟩ ⟨rfl, trivial⟩⟩
        all_goals dsimp only
        · omega
        · omega
        · omega
        · intro h
          simp [show (i : Int) + 1 = (b.length : Int) by omega] at ht2
        · have hc : b[i] ≠ 10 := fun h => by simp [h] at ht2
          rw [← part_snoc b from' i hf hlt, ← hp, List.drop_eq_getElem_cons hlt, linesAux_step, if_neg hc]
        · omega
    · refine k6 ?_; refine k2 ?_
      refine c_region ?_; refine l_neu (n_move rfl rfl) rfl ?_; refine l_neu (n_assign rfl rfl) rfl ?_; refine l_nil ?_
      refine k1 ?_; refine k10 ?_
      refine ret_ret (ret1 rfl rfl rfl) ?_
      have hi' : i = b.length := by simp at ht; omega
      subst hi'
      have := he rfl
      subst this
      rw [Nat.sub_self, List.take_zero, List.drop_eq_nil_of_le (Nat.le_refl _)] at hp
      rw [← hp]; simp [linesAux]
end Go.Proofs.YtbiadkkamhpdnaaGreatDoor
namespace Go.Proofs.YtbiadkkamhpdnaaGreatDoor
open Go Go.AL
set_option maxRecDepth 100000
end Go.Proofs.YtbiadkkamhpdnaaGreatDoor
namespace Go.Proofs.YtbiadkkamhpdnaaGreatDoor
open Go Go.AL
set_option maxRecDepth 100000
end Go.Proofs.YtbiadkkamhpdnaaGreatDoor
namespace Go.Proofs.YtbiadkkamhpdnaaGreatDoor
open Go Go.AL
set_option maxRecDepth 100000
theorem u64_in {n : Int} (h : 0 ≤ n ∧ n < 18446744073709551616) : IntKind.u64.wrap n = n := by simp [IntKind.wrap, IntKind.signed, IntKind.bits]; omega
def modOf (a n : Int) : Int := IntKind.u64.wrap a % n
theorem modOf_in (a : Int) {n : Int} (h : 1 ≤ n) : 0 ≤ modOf a n ∧ modOf a n < n := ⟨Int.emod_nonneg _ (by omega), Int.emod_lt_of_pos _ (by omega)⟩
theorem mod_ok (a n : Int) (hn : 1 ≤ n) (hn' : n ≤ 9223372036854775807) : FnOk Tryz.prog 18 [pInt a, pInt n] (fun rs => rs = [pInt (modOf a n)]) := by
  refine FnOk.intro Tryz.func18 (by decide) rfl rfl rfl rfl ?_
  refine k2 ?_
  refine c_region ?_; refine l_neu (n_assign rfl rfl) rfl ?_; refine l_nil ?_
  refine k1 ?_; refine k2 ?_
  have h1 : IntKind.u64.wrap n = n := u64_in (by omega)
  refine c_region ?_; refine l_neu (n_move rfl rfl) rfl ?_; refine l_neu (n_convert rfl) rfl ?_; refine l_neu (n_move rfl rfl) rfl ?_; refine l_neu (n_convert rfl) rfl ?_; refine l_neu (n_rem rfl rfl (by (rw [h1]; omega))) rfl ?_; refine l_neu (n_convert rfl) rfl ?_; refine l_neu (n_assign rfl rfl) rfl ?_; refine l_nil ?_
  refine k1 ?_; refine k10 ?_
  refine ret_ret (ret1 rfl rfl rfl) ?_
  have h2 := u64_nonneg a
  have h3 : (IntKind.u64.wrap a).tmod n = IntKind.u64.wrap a % n := Int.tmod_eq_emod_of_nonneg h2
  have h4 := modOf_in a hn
  unfold modOf at *
  rw [h1, h3, i64_wrap_in ⟨by omega, by omega⟩]
def xor64 (a b : Int) : Int := IntKind.u64.wrap ((BitVec.ofInt IntKind.u64.bits a ^^^ BitVec.ofInt IntKind.u64.bits b).toNat : Int)
def shr64 (a n : Int) : Int := a.fdiv (2 ^ (min n.toNat IntKind.u64.bits))
def at0 (k : Int) : Int := IntKind.u64.wrap (IntKind.u64.wrap (k + 1) * 11400714819323198485)
def at1 (raw : List Int) (k : Int) : Int := if 0 < raw.length then xor64 (at0 k) (IntKind.u64.wrap (raw.getD (k.tmod raw.length).toNat 0)) else at0 k
def at2 (x : Int) : Int := IntKind.u64.wrap (xor64 x (shr64 x 31) * 13787848793156543929)
def atOf (raw : List Int) (k : Int) : Int := IntKind.i64.wrap (shr64 (xor64 (at2 (at1 raw k)) (shr64 (at2 (at1 raw k)) 29)) 1)
theorem at_ok (raw : List Int) (k : Int) (h0 : 0 ≤ k) (h1 : k ≤ 1099511627776) : FnOk Tryz.prog 25 [pInts raw, pInt k] (fun rs => rs = [pInt (atOf raw k)]) := by
  refine FnOk.intro Tryz.func25 (by decide) rfl rfl rfl rfl ?_
  refine c_bound (t := 0) rfl (.pure _ _ _ _) fun hlen => ?_
  refine k2 ?_
  refine c_region ?_; refine l_neu (n_assign rfl rfl) rfl ?_; refine l_nil ?_
  refine k1 ?_; refine k2 ?_
  refine c_region ?_; refine l_neu (n_move rfl rfl) rfl ?_; refine l_neu (n_add rfl rfl (by omega)) rfl ?_; refine l_neu (n_convert rfl) rfl ?_; refine l_neu (n_mul_w rfl rfl) rfl ?_; refine l_neu (n_assign rfl rfl) rfl ?_; refine l_nil ?_
  refine then_normal ?_
  refine c_join [(0, sList Int 1 intC raw), (1, sInt k), (5, sVal (.int .u64 (at1 raw k)))] [] ?_ ?_
  · refine k2 ?_
    refine c_region ?_; refine l_neu (n_move rfl rfl) rfl ?_; refine l_neu (n_len rfl (.pure _ _ _ _)) rfl ?_; refine l_neu (n_gtr rfl rfl) rfl ?_; refine l_nil ?_
    refine k1 ?_
    refine c_cond rfl (fun ht => ?_) (fun ht => ?_)
    · have hpos : 0 < raw.length := by have := of_decide_eq_true ht; omega
      have hm0 : 0 ≤ k.tmod raw.length := Int.tmod_nonneg _ h0
      have hm1 : k.tmod raw.length < raw.length := Int.tmod_lt_of_pos _ (by omega)
      have hv : raw[(k.tmod raw.length).toNat]? = some (raw.getD (k.tmod raw.length).toNat 0) := by
        rw [List.getD_eq_getElem?_getD, List.getElem?_eq_getElem (by omega)]; rfl
      skip
      refine c_region ?_; refine l_neu (n_move rfl rfl) rfl ?_; refine l_neu (n_move rfl rfl) rfl ?_; refine l_neu (n_move rfl rfl) rfl ?_; refine l_neu (n_move rfl rfl) rfl ?_; refine l_neu (n_len rfl (.pure _ _ _ _)) rfl ?_; refine l_neu (n_rem rfl rfl (by omega)) rfl ?_; refine l_neu (n_indexAddr rfl (.pure _ _ _ _) rfl (by omega) hv) rfl ?_; refine l_neu (n_load_eref rfl rfl) rfl ?_; refine l_neu (n_convert rfl) rfl ?_; refine l_neu (n_bits rfl rfl rfl (fun _ => rfl)) rfl ?_; refine l_neu (n_assign rfl rfl) rfl ?_; refine l_nil ?_
      refine k1 ?_
      rw [at1, if_pos hpos]
      exact Sees.of ⟨le1 rfl, le1 rfl, le1 rfl, trivial⟩ trivial
    · have hpos : ¬ 0 < raw.length := by have := of_decide_eq_false ht; omega
      refine k5 ?_; refine k1 ?_
      rw [at1, if_neg hpos]
      exact Sees.of ⟨le1 rfl, le1 rfl, le1 rfl, trivial⟩ trivial
  · refine k2 ?_
    refine c_region ?_; refine l_neu (n_move rfl rfl) rfl ?_; refine l_neu (n_move rfl rfl) rfl ?_; refine l_neu (n_shr rfl rfl (by omega)) rfl ?_; refine l_neu (n_bits rfl rfl rfl (fun _ => rfl)) rfl ?_; refine l_neu (n_mul_w rfl rfl) rfl ?_; refine l_neu (n_assign rfl rfl) rfl ?_; refine l_nil ?_
    refine k1 ?_; refine k2 ?_
    refine c_region ?_; refine l_neu (n_move rfl rfl) rfl ?_; refine l_neu (n_move rfl rfl) rfl ?_; refine l_neu (n_shr rfl rfl (by omega)) rfl ?_; refine l_neu (n_bits rfl rfl rfl (fun _ => rfl)) rfl ?_; refine l_neu (n_shr rfl rfl (by omega)) rfl ?_; refine l_neu (n_convert rfl) rfl ?_; refine l_neu (n_assign rfl rfl) rfl ?_; refine l_nil ?_
    refine k1 ?_; refine k10 ?_
    exact ret_ret (ret1 rfl rfl rfl) rfl
def lineTab : List Str := [[97], [98], [99], [97, 98], [98, 97], [], [97, 97], [98, 32, 97], [120, 43, 121], [92]]
def lineOf (k : Int) : Str := lineTab.getD (modOf k 10).toNat []
theorem lineTab_len : ∀ s ∈ lineTab, s.length ≤ 3 := by decide
theorem lineOf_len (k : Int) : (lineOf k).length ≤ 3 := by
  unfold lineOf
  rw [List.getD_eq_getElem?_getD]
  cases h : lineTab[(modOf k 10).toNat]? with
  | none => simp
  | some s => exact lineTab_len s (List.mem_of_getElem? h)
theorem gline_ok (k : Int) : FnOk Tryz.prog 24 [pInt k] (fun rs => rs = [pStr (lineOf k)]) := by
  refine FnOk.intro Tryz.func24 (by decide) rfl rfl rfl rfl ?_
  refine k2 ?_
  refine c_region ?_; refine l_neu (n_assign rfl rfl) rfl ?_; refine l_nil ?_
  refine k1 ?_; refine k2 ?_
  have hm := modOf_in k (n := 10) (by decide)
  have hv : lineTab[(modOf k 10).toNat]? = some (lineOf k) := by
    unfold lineOf
    rw [List.getD_eq_getElem?_getD, List.getElem?_eq_getElem (show (modOf k 10).toNat < lineTab.length by simp [lineTab]; omega)]; rfl
  refine c_region ?_; refine l_neu (n_buildSlice (c := strC) (ys := lineTab) (asm_cons rfl rfl rfl rfl (asm_cons rfl rfl rfl rfl (asm_cons rfl rfl rfl rfl (asm_cons rfl rfl rfl rfl (asm_cons rfl rfl rfl rfl (asm_cons rfl rfl rfl rfl (asm_cons rfl rfl rfl rfl (asm_cons rfl rfl rfl rfl (asm_cons rfl rfl rfl rfl (asm_cons rfl rfl rfl rfl asm_nil)))))))))) rfl rfl rfl) rfl ?_; refine l_neu (n_move rfl rfl) rfl ?_; refine l_call (mod_ok k 10 (by decide) (by decide)) rfl rfl rfl ?_; rintro _ rfl; refine l_neu (n_indexAddr rfl (.pure _ _ _ _) rfl (by omega) hv) rfl ?_; refine l_neu (n_load_eref rfl rfl) rfl ?_; refine l_neu (n_assign rfl rfl) rfl ?_; refine l_nil ?_
  refine k1 ?_; refine k10 ?_
  exact ret_ret (ret1 rfl rfl rfl) rfl
def blobLines (raw : List Int) (from' : Int) (kinds : Int) (m : Nat) : Str := ((List.range m).map fun (i : Nat) => lineOf (modOf (atOf raw (from' + 1 + (i : Int))) kinds) ++ [10]).flatten
def blobOf (raw : List Int) (from' n kinds : Int) : Str :=
  let s := blobLines raw from' kinds (modOf (atOf raw from') (n + 1)).toNat
  if ((atOf raw (from' + 90)).tmod 4 = 0 ∧ (1 : Int) < s.length) ∧ ((s.getD (s.length - 2) 0).toNat : Int) ≠ 10 then s.take (s.length - 1) else s
theorem blobLines_succ (raw : List Int) (from' kinds : Int) (m : Nat) : blobLines raw from' kinds (m + 1) = blobLines raw from' kinds m ++ lineOf (modOf (atOf raw (from' + 1 + (m : Int))) kinds) ++ [10] := by
  unfold blobLines; rw [List.range_succ, List.map_append, List.flatten_append]; simp
theorem blobLines_len (raw : List Int) (from' kinds : Int) (m : Nat) : (blobLines raw from' kinds m).length ≤ 4 * m := by
  induction m with
  | zero => simp [blobLines]
  | succ m ih => have := lineOf_len (modOf (atOf raw (from' + 1 + (m : Int))) kinds); rw [blobLines_succ]; simp only [List.length_append, List.length_cons, List.length_nil]; omega
theorem blob_ok (raw : List Int) (from' n kinds : Int) (h0 : 0 ≤ from' ∧ from' ≤ 1073741824) (h1 : 0 ≤ n ∧ n ≤ 1048576) (h2 : 1 ≤ kinds ∧ kinds ≤ 1048576) :
    FnOk Tryz.prog 64 [pInts raw, pInt from', pInt n, pInt kinds] (fun rs => rs = [pStr (blobOf raw from' n kinds)]) := by
  obtain ⟨m, hm⟩ : ∃ m : Nat, modOf (atOf raw from') (n + 1) = m := ⟨(modOf (atOf raw from') (n + 1)).toNat, by have := modOf_in (atOf raw from') (n := n + 1) (by omega); omega⟩
  have hmi := modOf_in (atOf raw from') (n := n + 1) (by omega)
  have hml : m ≤ 1048576 := by omega
  refine FnOk.intro Tryz.func64 (by decide) rfl rfl rfl rfl ?_
  refine k2 ?_
  refine c_region ?_; refine l_neu (n_assign rfl rfl) rfl ?_; refine l_nil ?_
  refine k1 ?_; refine k2 ?_
  refine c_region ?_; refine l_neu (n_move rfl rfl) rfl ?_; refine l_neu (n_move rfl rfl) rfl ?_; refine l_call (at_ok raw from' (by omega) (by omega)) rfl rfl rfl ?_; rintro _ rfl; refine l_neu (n_move rfl rfl) rfl ?_; refine l_neu (n_add rfl rfl (by omega)) rfl ?_; refine l_call (mod_ok _ (n + 1) (by omega) (by omega)) rfl rfl rfl ?_; rintro _ rfl; refine l_neu (n_assign rfl rfl) rfl ?_; refine l_nil ?_
  refine k1 ?_; refine k2 ?_
  rw [hm]
  refine c_region ?_; refine l_neu (n_assign rfl rfl) rfl ?_; refine l_nil ?_
  refine k1 ?_; refine k2 ?_; refine k2 ?_
  refine c_region ?_; refine l_neu (n_assign rfl rfl) rfl ?_; refine l_nil ?_
  refine k1 ?_; refine k3 ?_
  refine c_while (X := Nat) (fun i => ([(0, sList Int 1 intC raw), (1, sInt from'), (2, sInt m), (3, sInt kinds), (9, sStr (blobLines raw from' kinds i)), (10, sInt i)], [])) (fun i => i ≤ m) (fun i => m - i) 0 (Nat.zero_le _) (Sees.of ⟨le1 rfl, le1 rfl, le1 rfl, le1 rfl, le1 rfl, le1 rfl, trivial⟩ trivial) ?_
  intro i hi
  dsimp only at hi ⊢
  have hbl := blobLines_len raw from' kinds i
  refine k2 ?_; refine k2 ?_
  refine c_region ?_; refine l_neu (n_move rfl rfl) rfl ?_; refine l_neu (n_move rfl rfl) rfl ?_; refine l_neu (n_lss rfl rfl) rfl ?_; refine l_nil ?_
  refine k1 ?_
  refine c_cond rfl (fun ht => ?_) (fun ht => ?_)
  · have hlt : i < m := by have := of_decide_eq_true ht; omega
    have hll := lineOf_len (modOf (atOf raw (from' + 1 + (i : Int))) kinds)
    refine k5 ?_; refine k1 ?_; refine k2 ?_; refine k3 ?_
    refine c_region ?_; refine l_neu (n_move rfl rfl) rfl ?_; refine l_neu (n_move rfl rfl) rfl ?_; refine l_neu (n_move rfl rfl) rfl ?_; refine l_neu (n_add rfl rfl (by omega)) rfl ?_; refine l_neu (n_move rfl rfl) rfl ?_; refine l_neu (n_add rfl rfl (by omega)) rfl ?_; refine l_call (at_ok raw _ (by omega) (by omega)) rfl rfl rfl ?_; rintro _ rfl; refine l_neu (n_move rfl rfl) rfl ?_; refine l_call (mod_ok _ kinds (by omega) (by omega)) rfl rfl rfl ?_; rintro _ rfl; refine l_call (gline_ok _) rfl rfl rfl ?_; rintro _ rfl; refine l_neu (n_add_s rfl rfl (by omega)) rfl ?_; refine l_neu (n_add_s rfl rfl (by (simp only [List.length_append, List.length_cons, List.length_nil]; omega))) rfl ?_; refine l_neu (n_assign rfl rfl) rfl ?_; refine l_nil ?_
    refine k4 ?_; refine k1 ?_
    refine c_region ?_; refine l_neu (n_move rfl rfl) rfl ?_; refine l_neu (n_add rfl rfl (by omega)) rfl ?_; refine l_neu (n_assign rfl rfl) rfl ?_; refine l_nil ?_
    refine k1 ?_
    refine ⟨i + 1, by omega, by omega, ?_⟩
    rw [blobLines_succ]
    exact Sees.of ⟨le1 rfl, le1 rfl, le1 rfl, le1 rfl, le1 rfl, le1 rfl, trivial⟩ trivial
  · have hi' : i = m := by have := of_decide_eq_false ht; omega
    subst hi'
    obtain ⟨s, hs⟩ : ∃ s, s = blobLines raw from' kinds i := ⟨_, rfl⟩
    have hv : (1 : Int) < s.length → s[((s.length : Int) - 2).toNat]? = some (s.getD (s.length - 2) 0) := fun h => by
      rw [show ((s.length : Int) - 2).toNat = s.length - 2 by omega, List.getD_eq_getElem?_getD, List.getElem?_eq_getElem (by omega)]; rfl
    have hbo : blobOf raw from' n kinds = if ((atOf raw (from' + 90)).tmod 4 = 0 ∧ (1 : Int) < s.length) ∧ ((s.getD (s.length - 2) 0).toNat : Int) ≠ 10 then s.take (s.length - 1) else s := by
      simp only [blobOf, hm, Int.toNat_natCast, ← hs]
    rw [← hs] at hbl
    refine k6 ?_; refine k2 ?_; refine k2 ?_
    rw [← hs]
    refine c_region ?_; refine l_neu (n_move rfl rfl) rfl ?_; refine l_neu (n_move rfl rfl) rfl ?_; refine l_neu (n_add rfl rfl (by omega)) rfl ?_; refine l_call (at_ok raw _ (by omega) (by omega)) rfl rfl rfl ?_; rintro _ rfl; refine l_neu (n_rem rfl rfl (by omega)) rfl ?_; refine l_neu (n_eql rfl rfl) rfl ?_; refine l_neu (n_move rfl rfl) rfl ?_; refine l_guard rfl rfl rfl rfl (fun hg => by rw [hg]; exact n_move rfl rfl) ?_; refine l_guard rfl rfl rfl rfl (fun hg => by rw [hg]; exact n_len_s rfl) ?_; refine l_guard rfl rfl rfl rfl (fun hg => by rw [hg]; exact n_gtr rfl rfl) ?_; refine l_neu (n_pick_bool rfl (fun h => by first | rfl | (rw [h]; rfl)) (fun h => by first | rfl | (rw [h]; rfl))) rfl ?_; refine l_neu (n_move rfl rfl) rfl ?_; refine l_guard rfl rfl rfl rfl (fun hg => by rw [hg]; exact n_move rfl rfl) ?_; refine l_guard rfl rfl rfl rfl (fun hg => by rw [hg]; exact n_move rfl rfl) ?_; refine l_guard rfl rfl rfl rfl (fun hg => by rw [hg]; exact n_len_s rfl) ?_; refine l_guard rfl rfl rfl rfl (fun hg => by have hq := hg; (try simp at hq); rw [hg]; exact n_sub rfl rfl (by omega)) ?_; refine l_guard rfl rfl rfl rfl (fun hg => by have hq := hg; (try simp at hq); rw [hg]; exact n_index_s rfl rfl (by omega) (hv (by omega))) ?_; refine l_guard rfl rfl rfl rfl (fun hg => by rw [hg]; exact n_neq rfl rfl) ?_; refine l_neu (n_pick_bool rfl (fun h => by first | rfl | (rw [h]; rfl)) (fun h => by first | rfl | (rw [h]; rfl))) rfl ?_; refine l_nil ?_
    refine k1 ?_
    refine c_cond rfl (fun ht => ?_) (fun ht => ?_)
    · simp only [and_pick] at ht
      have h := of_decide_eq_true ht
      skip
      refine c_region ?_; refine l_neu (n_move rfl rfl) rfl ?_; refine l_neu (n_move rfl rfl) rfl ?_; refine l_neu (n_len_s rfl) rfl ?_; refine l_neu (n_sub rfl rfl (by omega)) rfl ?_; refine l_neu (n_sub_h rfl rfl (by omega) (by omega)) rfl ?_; refine l_neu (n_assign rfl rfl) rfl ?_; refine l_nil ?_
      refine k1 ?_; refine k2 ?_
      refine c_region ?_; refine l_neu (n_move rfl rfl) rfl ?_; refine l_neu (n_assign rfl rfl) rfl ?_; refine l_nil ?_
      refine k1 ?_; refine k10 ?_
      exact ret_ret (ret1 rfl rfl rfl) (by rw [hbo, if_pos h, show ((s.length : Int) - 1).toNat = s.length - 1 by omega])
    · simp only [and_pick] at ht
      have h := of_decide_eq_false ht
      refine k5 ?_; refine k1 ?_; refine k2 ?_
      refine c_region ?_; refine l_neu (n_move rfl rfl) rfl ?_; refine l_neu (n_assign rfl rfl) rfl ?_; refine l_nil ?_
      refine k1 ?_; refine k10 ?_
      exact ret_ret (ret1 rfl rfl rfl) (by rw [hbo, if_neg h])
theorem blobOf_len (raw : List Int) (from' n kinds : Int) (h1 : 0 ≤ n) : ((blobOf raw from' n kinds).length : Int) ≤ 4 * n := by
  have h := modOf_in (atOf raw from') (n := n + 1) (by omega)
  have h2 := blobLines_len raw from' kinds (modOf (atOf raw from') (n + 1)).toNat
  unfold blobOf
  simp only
  split
  · simp only [List.length_take]; omega
  · omega
def nearGo (raw : List Int) (from' : Int) (i : Nat) (s : Str) : List Str → Str
  | [] => s
  | x :: r => if (atOf raw (from' + (i : Int))).tmod 6 = 0 then nearGo raw from' (i + 1) s r
    else if (atOf raw (from' + (i : Int))).tmod 6 = 1 then nearGo raw from' (i + 1) (s ++ lineOf (atOf raw (from' + 40 + (i : Int))) ++ [10] ++ x) r
    else nearGo raw from' (i + 1) (s ++ x) r
def nearOf (blob : Str) (raw : List Int) (from' : Int) : Str := nearGo raw from' 0 [] (linesOf blob)
theorem nearGo_len (raw : List Int) (from' : Int) : ∀ (l : List Str) (i : Nat) (s : Str), (nearGo raw from' i s l).length ≤ s.length + l.flatten.length + 4 * l.length
  | [], i, s => by simp [nearGo]
  | x :: r, i, s => by
    have h1 := nearGo_len raw from' r (i + 1) s
    have h2 := nearGo_len raw from' r (i + 1) (s ++ lineOf (atOf raw (from' + 40 + (i : Int))) ++ [10] ++ x)
    have h3 := nearGo_len raw from' r (i + 1) (s ++ x)
    have h4 := lineOf_len (atOf raw (from' + 40 + (i : Int)))
    simp only [List.length_append, List.length_cons, List.length_nil, List.flatten_cons] at *
    unfold nearGo
    split
    · omega
    · split <;> omega
theorem linesAux_flatten (s cur : Str) : (linesAux cur s).flatten = cur ++ s := by
  induction s generalizing cur with
  | nil => unfold linesAux; split <;> simp [*]
  | cons c r ih => unfold linesAux; split <;> simp [ih]
theorem linesOf_flatten (s : Str) : (linesOf s).flatten = s := linesAux_flatten s []
theorem near_ok (blob : Str) (raw : List Int) (from' : Int) (hb : blob.length ≤ 16777216) (h0 : 0 ≤ from' ∧ from' ≤ 1073741824) :
    FnOk Tryz.prog 26 [pStr blob, pInts raw, pInt from'] (fun rs => rs = [pStr (nearOf blob raw from')]) := by
  have hll := linesOf_length blob
  have hlf := linesOf_flatten blob
  have hlf' : (linesOf blob).flatten.length = blob.length := by rw [hlf]
  refine FnOk.intro Tryz.func26 (by decide) rfl rfl rfl rfl ?_
  refine k2 ?_
  refine c_region ?_; refine l_neu (n_assign rfl rfl) rfl ?_; refine l_nil ?_
  refine k1 ?_; refine k2 ?_
  refine c_region ?_; refine l_neu (n_move rfl rfl) rfl ?_; refine l_call (lines_ok blob (by omega)) rfl rfl rfl ?_; rintro _ rfl; refine l_neu (n_assign rfl rfl) rfl ?_; refine l_nil ?_
  refine k1 ?_; refine k2 ?_
  obtain ⟨l, hl⟩ : ∃ l, l = linesOf blob := ⟨_, rfl⟩
  have hno : nearOf blob raw from' = nearGo raw from' 0 [] l := by rw [nearOf, hl]
  rw [← hl] at hll hlf' ⊢
  refine c_region ?_; refine l_neu (n_assign rfl rfl) rfl ?_; refine l_nil ?_
  refine k1 ?_; refine k2 ?_; refine k2 ?_
  refine c_region ?_; refine l_neu (n_assign rfl rfl) rfl ?_; refine l_nil ?_
  refine k1 ?_; refine k3 ?_
  refine c_while (X := Nat × Str) (fun x => ([(1, sList Int 1 intC raw), (2, sInt from'), (7, sList Str 1 strC l), (8, sStr x.2), (9, sInt x.1)], [])) (fun x => x.1 ≤ l.length ∧ x.2.length ≤ (l.take x.1).flatten.length + 4 * x.1 ∧ nearGo raw from' x.1 x.2 (l.drop x.1) = nearGo raw from' 0 [] l) (fun x => l.length - x.1) (0, []) (by simp) (Sees.of ⟨le1 rfl, le1 rfl, le1 rfl, le1 rfl, le1 rfl, trivial⟩ trivial) ?_
  rintro ⟨i, s⟩ ⟨hi, hs, hp⟩
  dsimp only at hi hs hp ⊢
  have hle := flatten_take_le l i
  refine k2 ?_; refine k2 ?_
  refine c_region ?_; refine l_neu (n_move rfl rfl) rfl ?_; refine l_neu (n_move rfl rfl) rfl ?_; refine l_neu (n_len rfl (.pure _ _ _ _)) rfl ?_; refine l_neu (n_lss rfl rfl) rfl ?_; refine l_nil ?_
  refine k1 ?_
  refine c_cond rfl (fun ht => ?_) (fun ht => ?_)
  · have hlt : i < l.length := by have := of_decide_eq_true ht; omega
    have hv : l[i]? = some l[i] := by simp [hlt]
    have hle2 := flatten_take_le l (i + 1)
    have hst := flatten_take_succ l i hlt
    rw [hst, List.length_append] at hle2
    rw [List.drop_eq_getElem_cons hlt, nearGo] at hp
    refine k5 ?_; refine k1 ?_; refine k2 ?_; refine k3 ?_; refine k2 ?_; refine k2 ?_
    refine c_region ?_; refine l_neu (n_move rfl rfl) rfl ?_; refine l_neu (n_move rfl rfl) rfl ?_; refine l_neu (n_move rfl rfl) rfl ?_; refine l_neu (n_add rfl rfl (by omega)) rfl ?_; refine l_call (at_ok raw _ (by omega) (by omega)) rfl rfl rfl ?_; rintro _ rfl; refine l_neu (n_rem rfl rfl (by omega)) rfl ?_; refine l_nil ?_
    refine k1 ?_; refine k3 ?_; refine k2 ?_
    refine c_region ?_; refine l_neu (n_eql rfl rfl) rfl ?_; refine l_neu (n_assign rfl rfl) rfl ?_; refine l_nil ?_
    refine k1 ?_
    refine c_cond rfl (fun ht => ?_) (fun ht => ?_)
    · rw [if_pos (of_decide_eq_true ht)] at hp
      refine k6 ?_; refine k9 rfl ?_; refine k7 ?_; refine k8 rfl ?_; refine k1 ?_
      refine c_region ?_; refine l_neu (n_move rfl rfl) rfl ?_; refine l_neu (n_add rfl rfl (by omega)) rfl ?_; refine l_neu (n_assign rfl rfl) rfl ?_; refine l_nil ?_
      refine k1 ?_
      exact ⟨(i + 1, s), ⟨by dsimp only; omega, by dsimp only; rw [hst, List.length_append]; omega, hp⟩, by dsimp only; omega, Sees.of ⟨le1 rfl, le1 rfl, le1 rfl, le1 rfl, le1 rfl, trivial⟩ trivial⟩
    · rw [if_neg (of_decide_eq_false ht)] at hp
      refine k2 ?_
      refine c_region ?_; refine l_neu (n_eql rfl rfl) rfl ?_; refine l_neu (n_assign rfl rfl) rfl ?_; refine l_nil ?_
      refine k1 ?_
      refine c_cond rfl (fun ht => ?_) (fun ht => ?_)
      · rw [if_pos (of_decide_eq_true ht)] at hp
        have h4 := lineOf_len (atOf raw (from' + 40 + (i : Int)))
        skip
        refine c_region ?_; refine l_neu (n_move rfl rfl) rfl ?_; refine l_neu (n_move rfl rfl) rfl ?_; refine l_neu (n_move rfl rfl) rfl ?_; refine l_neu (n_add rfl rfl (by omega)) rfl ?_; refine l_neu (n_move rfl rfl) rfl ?_; refine l_neu (n_add rfl rfl (by omega)) rfl ?_; refine l_call (at_ok raw _ (by omega) (by omega)) rfl rfl rfl ?_; rintro _ rfl; refine l_call (gline_ok _) rfl rfl rfl ?_; rintro _ rfl; refine l_neu (n_add_s rfl rfl (by omega)) rfl ?_; refine l_neu (n_add_s rfl rfl (by (simp only [List.length_append, List.length_cons, List.length_nil]; omega))) rfl ?_; refine l_neu (n_assign rfl rfl) rfl ?_; refine l_nil ?_
        refine k4 ?_; refine k1 ?_
        refine c_region ?_; refine l_neu (n_move rfl rfl) rfl ?_; refine l_neu (n_move rfl rfl) rfl ?_; refine l_neu (n_move rfl rfl) rfl ?_; refine l_neu (n_indexAddr rfl (.pure _ _ _ _) rfl (by omega) hv) rfl ?_; refine l_neu (n_load_eref rfl rfl) rfl ?_; refine l_neu (n_add_s rfl rfl (by (simp only [List.length_append, List.length_cons, List.length_nil]; omega))) rfl ?_; refine l_neu (n_assign rfl rfl) rfl ?_; refine l_nil ?_
        refine k4 ?_; refine k1 ?_
        refine c_region ?_; refine l_neu (n_move rfl rfl) rfl ?_; refine l_neu (n_add rfl rfl (by omega)) rfl ?_; refine l_neu (n_assign rfl rfl) rfl ?_; refine l_nil ?_
        refine k1 ?_
        exact ⟨(i + 1, s ++ lineOf (atOf raw (from' + 40 + (i : Int))) ++ [10] ++ l[i]), ⟨by dsimp only; omega, by dsimp only; rw [hst]; simp only [List.length_append, List.length_cons, List.length_nil]; omega, hp⟩, by dsimp only; omega, Sees.of ⟨le1 rfl, le1 rfl, le1 rfl, le1 rfl, le1 rfl, trivial⟩ trivial⟩
      · rw [if_neg (of_decide_eq_false ht)] at hp
        refine k5 ?_; refine k4 ?_; refine k1 ?_
        refine c_region ?_; refine l_neu (n_move rfl rfl) rfl ?_; refine l_neu (n_move rfl rfl) rfl ?_; refine l_neu (n_move rfl rfl) rfl ?_; refine l_neu (n_indexAddr rfl (.pure _ _ _ _) rfl (by omega) hv) rfl ?_; refine l_neu (n_load_eref rfl rfl) rfl ?_; refine l_neu (n_add_s rfl rfl (by omega)) rfl ?_; refine l_neu (n_assign rfl rfl) rfl ?_; refine l_nil ?_
        refine k4 ?_; refine k1 ?_
        refine c_region ?_; refine l_neu (n_move rfl rfl) rfl ?_; refine l_neu (n_add rfl rfl (by omega)) rfl ?_; refine l_neu (n_assign rfl rfl) rfl ?_; refine l_nil ?_
        refine k1 ?_
        exact ⟨(i + 1, s ++ l[i]), ⟨by dsimp only; omega, by dsimp only; rw [hst, List.length_append, List.length_append]; omega, hp⟩, by dsimp only; omega, Sees.of ⟨le1 rfl, le1 rfl, le1 rfl, le1 rfl, le1 rfl, trivial⟩ trivial⟩
  · have hi' : i = l.length := by have := of_decide_eq_false ht; omega
    rw [hi', List.drop_eq_nil_of_le (Nat.le_refl _)] at hp
    refine k6 ?_; refine k2 ?_
    refine c_region ?_; refine l_neu (n_move rfl rfl) rfl ?_; refine l_neu (n_assign rfl rfl) rfl ?_; refine l_nil ?_
    refine k1 ?_; refine k10 ?_
    exact ret_ret (ret1 rfl rfl rfl) (by rw [hno, ← hp]; rfl)
def blobAt (raw : List Int) (lines : Int) (p : Nat) : Str :=
  if (atOf raw (500 + (p : Int))).tmod 5 = 0 then blobOf raw (600 + 50 * (p : Int)) lines 4 else if (atOf raw (500 + (p : Int))).tmod 5 = 1 then blobOf raw 0 lines 5 else nearOf (blobOf raw 0 lines 5) raw (600 + 50 * (p : Int))
def blobsOf (raw : List Int) (n : Nat) (lines : Int) : List Str := (List.range n).map (blobAt raw lines)
theorem blobAt_len (raw : List Int) (lines : Int) (p : Nat) (h : 0 ≤ lines) : ((blobAt raw lines p).length : Int) ≤ 20 * lines := by
  have h1 := blobOf_len raw (600 + 50 * (p : Int)) lines 4 h
  have h2 := blobOf_len raw 0 lines 5 h
  have h3 := nearGo_len raw (600 + 50 * (p : Int)) (linesOf (blobOf raw 0 lines 5)) 0 []
  have h4 := linesOf_length (blobOf raw 0 lines 5)
  rw [linesOf_flatten] at h3
  simp only [List.length_nil] at h3
  unfold blobAt nearOf
  split
  · omega
  · split <;> omega
theorem blobs_ok (raw : List Int) (n : Nat) (lines : Int) (h1 : n ≤ 1024) (h2 : 0 ≤ lines ∧ lines ≤ 524288) : FnOk Tryz.prog 61 [pInts raw, pInt n, pInt lines] (fun rs => rs = [pStrs (blobsOf raw n lines)]) := by
  have hfl := blobOf_len raw 0 lines 5 h2.1
  refine FnOk.intro Tryz.func61 (by decide) rfl rfl rfl rfl ?_
  refine k2 ?_
  refine c_region ?_; refine l_neu (n_assign rfl rfl) rfl ?_; refine l_nil ?_
  refine k1 ?_; refine k2 ?_
  refine c_region ?_; refine l_neu (n_move rfl rfl) rfl ?_; refine l_neu (n_move rfl rfl) rfl ?_; refine l_call (blob_ok raw 0 lines 5 (by omega) (by omega) (by omega)) rfl rfl rfl ?_; rintro _ rfl; refine l_neu (n_assign rfl rfl) rfl ?_; refine l_nil ?_
  refine k1 ?_; refine k2 ?_
  refine c_region ?_; refine l_effv (f_buildBuf 13 (c := strC) (ys := []) asm_nil rfl rfl rfl (by first | rfl | (simp [frFree, obFree, Ob.free, SV.free, S1.free, TC.free] <;> rfl))) rfl ?_; refine l_neu (n_assign rfl rfl) rfl ?_; refine l_nil ?_
  refine k1 ?_; refine k2 ?_; refine k2 ?_
  refine c_region ?_; refine l_neu (n_assign rfl rfl) rfl ?_; refine l_nil ?_
  refine k1 ?_; refine k3 ?_
  refine c_while (X := Nat) (fun p => ([(0, sList Int 1 intC raw), (1, sInt n), (2, sInt lines), (7, sStr (blobOf raw 0 lines 5)), (8, .s (.one (.buf 13 Str 1 strC (blobsOf raw p lines)))), (9, sInt p)], [(13, .spare (blobsOf raw p lines).length 1 9)])) (fun p => p ≤ n) (fun p => n - p) 0 (Nat.zero_le _) (Sees.of ⟨le1 rfl, le1 rfl, le1 rfl, le1 rfl, le1 rfl, le1 rfl, trivial⟩ ⟨rfl, trivial⟩) ?_
  intro p hp
  dsimp only at hp ⊢
  have hst : blobsOf raw (p + 1) lines = blobsOf raw p lines ++ [blobAt raw lines p] := by unfold blobsOf; rw [List.range_succ, List.map_append]; rfl
  have hbl : (blobsOf raw p lines).length = p := by simp [blobsOf]
  refine k2 ?_; refine k2 ?_
  refine c_region ?_; refine l_neu (n_move rfl rfl) rfl ?_; refine l_neu (n_move rfl rfl) rfl ?_; refine l_neu (n_lss rfl rfl) rfl ?_; refine l_nil ?_
  refine k1 ?_
  refine c_cond rfl (fun ht => ?_) (fun ht => ?_)
  · have hlt : p < n := by have := of_decide_eq_true ht; omega
    refine k5 ?_; refine k1 ?_; refine k2 ?_; refine k3 ?_; refine k2 ?_
    refine c_region ?_; refine l_neu (n_move rfl rfl) rfl ?_; refine l_neu (n_move rfl rfl) rfl ?_; refine l_neu (n_add rfl rfl (by omega)) rfl ?_; refine l_call (at_ok raw _ (by omega) (by omega)) rfl rfl rfl ?_; rintro _ rfl; refine l_neu (n_rem rfl rfl (by omega)) rfl ?_; refine l_nil ?_
    refine k1 ?_; refine k3 ?_; refine k2 ?_
    refine c_region ?_; refine l_neu (n_eql rfl rfl) rfl ?_; refine l_neu (n_assign rfl rfl) rfl ?_; refine l_nil ?_
    refine k1 ?_
    refine c_cond rfl (fun ht => ?_) (fun ht => ?_)
    · have hb : blobAt raw lines p = blobOf raw (600 + 50 * (p : Int)) lines 4 := by rw [blobAt, if_pos (of_decide_eq_true ht)]
      skip
      refine c_region ?_; refine l_neu (n_move rfl rfl) rfl ?_; refine l_neu (n_move rfl rfl) rfl ?_; refine l_neu (n_move rfl rfl) rfl ?_; refine l_neu (n_mul rfl rfl (by omega)) rfl ?_; refine l_neu (n_add rfl rfl (by omega)) rfl ?_; refine l_neu (n_move rfl rfl) rfl ?_; refine l_call (blob_ok raw _ lines 4 (by omega) (by omega) (by omega)) rfl rfl rfl ?_; rintro _ rfl; refine l_neu (n_buildSlice (c := strC) (ys := [_]) (asm_cons rfl rfl rfl rfl asm_nil) rfl rfl rfl) rfl ?_; refine l_effv (e_append rfl rfl rfl (.pure _ _ _ _) (by (simp only [List.length_cons, List.length_nil]; omega)) rfl) rfl ?_; refine l_neu (n_assign rfl rfl) rfl ?_; refine l_nil ?_
      refine k4 ?_; refine k4 ?_; refine k1 ?_
      refine c_region ?_; refine l_neu (n_move rfl rfl) rfl ?_; refine l_neu (n_add rfl rfl (by omega)) rfl ?_; refine l_neu (n_assign rfl rfl) rfl ?_; refine l_nil ?_
      refine k1 ?_
      refine ⟨p + 1, by omega, by omega, ?_⟩
      rw [hst, hb]
      exact Sees.of ⟨le1 rfl, le1 rfl, le1 rfl, le1 rfl, le1 rfl, le1 rfl, trivial⟩ ⟨rfl, trivial⟩
    · have h5 := of_decide_eq_false ht
      refine k2 ?_
      refine c_region ?_; refine l_neu (n_eql rfl rfl) rfl ?_; refine l_neu (n_assign rfl rfl) rfl ?_; refine l_nil ?_
      refine k1 ?_
      refine c_cond rfl (fun ht => ?_) (fun ht => ?_)
      · have hb : blobAt raw lines p = blobOf raw 0 lines 5 := by rw [blobAt, if_neg h5, if_pos (of_decide_eq_true ht)]
        skip
        refine c_region ?_; refine l_neu (n_move rfl rfl) rfl ?_; refine l_neu (n_move rfl rfl) rfl ?_; refine l_neu (n_buildSlice (c := strC) (ys := [_]) (asm_cons rfl rfl rfl rfl asm_nil) rfl rfl rfl) rfl ?_; refine l_effv (e_append rfl rfl rfl (.pure _ _ _ _) (by (simp only [List.length_cons, List.length_nil]; omega)) rfl) rfl ?_; refine l_neu (n_assign rfl rfl) rfl ?_; refine l_nil ?_
        refine k4 ?_; refine k4 ?_; refine k1 ?_
        refine c_region ?_; refine l_neu (n_move rfl rfl) rfl ?_; refine l_neu (n_add rfl rfl (by omega)) rfl ?_; refine l_neu (n_assign rfl rfl) rfl ?_; refine l_nil ?_
        refine k1 ?_
        refine ⟨p + 1, by omega, by omega, ?_⟩
        rw [hst, hb]
        exact Sees.of ⟨le1 rfl, le1 rfl, le1 rfl, le1 rfl, le1 rfl, le1 rfl, trivial⟩ ⟨rfl, trivial⟩
      · have hb : blobAt raw lines p = nearOf (blobOf raw 0 lines 5) raw (600 + 50 * (p : Int)) := by rw [blobAt, if_neg h5, if_neg (of_decide_eq_false ht)]
        skip
        refine c_region ?_; refine l_neu (n_move rfl rfl) rfl ?_; refine l_neu (n_move rfl rfl) rfl ?_; refine l_neu (n_move rfl rfl) rfl ?_; refine l_neu (n_move rfl rfl) rfl ?_; refine l_neu (n_mul rfl rfl (by omega)) rfl ?_; refine l_neu (n_add rfl rfl (by omega)) rfl ?_; refine l_call (near_ok _ raw _ (by omega) (by omega)) rfl rfl rfl ?_; rintro _ rfl; refine l_neu (n_buildSlice (c := strC) (ys := [_]) (asm_cons rfl rfl rfl rfl asm_nil) rfl rfl rfl) rfl ?_; refine l_effv (e_append rfl rfl rfl (.pure _ _ _ _) (by (simp only [List.length_cons, List.length_nil]; omega)) rfl) rfl ?_; refine l_neu (n_assign rfl rfl) rfl ?_; refine l_nil ?_
        refine k4 ?_; refine k4 ?_; refine k1 ?_
        refine c_region ?_; refine l_neu (n_move rfl rfl) rfl ?_; refine l_neu (n_add rfl rfl (by omega)) rfl ?_; refine l_neu (n_assign rfl rfl) rfl ?_; refine l_nil ?_
        refine k1 ?_
        refine ⟨p + 1, by omega, by omega, ?_⟩
        rw [hst, hb]
        exact Sees.of ⟨le1 rfl, le1 rfl, le1 rfl, le1 rfl, le1 rfl, le1 rfl, trivial⟩ ⟨rfl, trivial⟩
  · have hp' : p = n := by have := of_decide_eq_false ht; omega
    refine k6 ?_; refine k2 ?_
    refine c_region ?_; refine l_neu (n_move rfl rfl) rfl ?_; refine l_neu (n_assign rfl rfl) rfl ?_; refine l_nil ?_
    refine k1 ?_; refine k10 ?_
    exact ret_ret (ret1 rfl rfl rfl) (by rw [hp'])
end Go.Proofs.YtbiadkkamhpdnaaGreatDoor
namespace Go.Proofs.YtbiadkkamhpdnaaGreatDoor
open Go Go.AL
set_option maxRecDepth 100000
end Go.Proofs.YtbiadkkamhpdnaaGreatDoor
namespace Go.Proofs.YtbiadkkamhpdnaaGreatDoor
open Go Go.AL
set_option maxRecDepth 100000
theorem str_size' (s : Str) : (ByteArray.mk s.toArray).size = s.length := by simp [ByteArray.size]
theorem hasSuffix_ok (s p : Str) (hs : s.length ≤ 1099511627776) : FnOk Tryz.prog 200 [pStr s, pStr p] (fun rs => rs = [pBool (Lib.hasSuffix s p)]) :=
  FnOk.ofPlain (xs := [.string ⟨s.toArray⟩, .string ⟨p.toArray⟩]) ⟨_, rfl, rfl, rfl⟩ rfl fun w => by simpa using Tryz.strings_HasSuffix ⟨s.toArray⟩ ⟨p.toArray⟩ w (by rw [str_size']; omega)
theorem trimSuffix_ok (s p : Str) (hs : s.length ≤ 1099511627776) : FnOk Tryz.prog 225 [pStr s, pStr p] (fun rs => rs = [pStr (Lib.trimSuffix s p)]) :=
  FnOk.ofPlain (xs := [.string ⟨s.toArray⟩, .string ⟨p.toArray⟩]) ⟨_, rfl, rfl, rfl⟩ rfl fun w => by simpa using Tryz.strings_TrimSuffix ⟨s.toArray⟩ ⟨p.toArray⟩ w (by rw [str_size']; omega)
theorem indexByte_ok (s : Str) (c : UInt8) : FnOk Tryz.prog 125 [pStr s, .one (.v (.int .u8 c.toNat))] (fun rs => rs = [pInt (Lib.indexByte s c)]) :=
  FnOk.ofPlain (xs := [.string ⟨s.toArray⟩, .int .u8 c.toNat]) ⟨_, rfl, rfl, rfl⟩ rfl fun w => by simpa using Tryz.strings_IndexByte ⟨s.toArray⟩ c.toNat w
theorem contains1_ok (s : Str) (c : UInt8) : FnOk Tryz.prog 209 [pStr s, pStr [c]] (fun rs => rs = [pBool (decide (0 ≤ Lib.indexByte s c))]) :=
  FnOk.ofPlain (xs := [.string ⟨s.toArray⟩, .string ⟨#[c]⟩]) ⟨_, rfl, rfl, rfl⟩ rfl fun w => by simpa using Tryz.strings_Contains_one ⟨s.toArray⟩ c w
theorem sjoin_ok (l : List Str) (hl : l.length ≤ 536870912) (hf : l.flatten.length ≤ 536870912) : FnOk Tryz.prog 126 [pStrs l, pStr []] (fun rs => rs = [pStr l.flatten]) := by
  have hmap : (l.map fun s => (⟨s.toArray⟩ : ByteArray)).map (·.data.toList) = l := by rw [List.map_map]; simp [Function.comp_def]
  refine FnOk.ofJoin ⟨_, rfl, rfl, rfl⟩ (fun h a c w => ?_) (fun b o c w hne hc hb hcap => ?_)
  · subst h; exact Tryz.strings_Join_none a c _ w
  · have := Tryz.strings_Join b o c (l.map fun s => (⟨s.toArray⟩ : ByteArray)) ⟨#[]⟩ w hc hb (by rw [List.length_map]; omega) (by rw [List.length_map]; exact hcap) (by rw [hmap]; show (Lib.join l []).length ≤ _; rw [join_nil]; omega)
    rw [List.length_map, hmap] at this
    have e : Lib.join l (⟨#[]⟩ : ByteArray).data.toList = l.flatten := join_nil l
    rw [e] at this
    exact this
theorem tended_ok (s : Str) (hs : s.length ≤ 1099511627776) : FnOk Tryz.prog 137 [pStr s] (fun rs => rs = [pBool (ended s)]) := by
  refine FnOk.intro Tryz.func137 (by decide) rfl rfl rfl rfl ?_
  refine k2 ?_
  refine c_region ?_; refine l_neu (n_assign rfl rfl) rfl ?_; refine l_nil ?_
  refine k1 ?_; refine k2 ?_
  refine c_region ?_; refine l_neu (n_move rfl rfl) rfl ?_; refine l_call (hasSuffix_ok s [10] hs) rfl rfl rfl ?_; rintro _ rfl; refine l_neu (n_assign rfl rfl) rfl ?_; refine l_nil ?_
  rw [hasSuffix_lf]
  refine k1 ?_; refine k10 ?_
  exact ret_ret (ret1 rfl rfl rfl) rfl
theorem tbare_ok (s : Str) (hs : s.length ≤ 1099511627776) : FnOk Tryz.prog 210 [pStr s] (fun rs => rs = [pStr (bareOf s)]) := by
  refine FnOk.intro Tryz.func210 (by decide) rfl rfl rfl rfl ?_
  refine k2 ?_
  refine c_region ?_; refine l_neu (n_assign rfl rfl) rfl ?_; refine l_nil ?_
  refine k1 ?_; refine k2 ?_
  refine c_region ?_; refine l_neu (n_move rfl rfl) rfl ?_; refine l_call (trimSuffix_ok s [10] hs) rfl rfl rfl ?_; rintro _ rfl; refine l_neu (n_assign rfl rfl) rfl ?_; refine l_nil ?_
  rw [trimSuffix_lf]
  refine k1 ?_; refine k10 ?_
  exact ret_ret (ret1 rfl rfl rfl) rfl
theorem wvisible_ok (r : Row) (c : Int) (hr : 0 ≤ r.Marks ∧ r.Marks < 4294967296) : FnOk Tryz.prog 177 [pRow r, pInt c] (fun rs => rs = [pBool (visB r c)]) := by
  refine FnOk.intro Tryz.func177 (by decide) rfl rfl rfl rfl ?_
  refine k2 ?_
  refine c_region ?_; refine l_effv (f_box 2 rfl rfl rfl) rfl ?_; refine l_neu (n_assign rfl rfl) rfl ?_; refine l_nil ?_
  refine k1 ?_; refine k2 ?_; refine k2 ?_
  refine c_region ?_; refine l_neu (n_move rfl rfl) rfl ?_; refine l_neu (n_lss rfl rfl) rfl ?_; refine l_neu (n_move rfl rfl) rfl ?_; refine l_guard rfl rfl rfl rfl (fun hg => by rw [hg]; exact n_move rfl rfl) ?_; refine l_guard rfl rfl rfl rfl (fun hg => by rw [hg]; exact n_geq rfl rfl) ?_; refine l_neu (n_pick_bool rfl (fun h => by first | rfl | (rw [h]; rfl)) (fun h => by first | rfl | (rw [h]; rfl))) rfl ?_; refine l_nil ?_
  refine k1 ?_
  refine c_cond rfl (fun ht => ?_) (fun ht => ?_)
  · have h := of_decide_eq_true (or_pick.symm.trans ht)
    refine k2 ?_
    refine c_region ?_; refine l_neu (n_assign rfl rfl) rfl ?_; refine l_nil ?_
    refine k1 ?_; refine k10 ?_; refine k11 ?_
    exact ret_ret (ret1 rfl rfl rfl) (by rw [visB, if_neg (by omega), if_pos (by omega)])
  · have h := of_decide_eq_false (or_pick.symm.trans ht)
    refine k5 ?_; refine k1 ?_; refine k2 ?_; refine k2 ?_
    refine c_region ?_; refine l_neu (n_move rfl rfl) rfl ?_; refine l_neu (n_lss rfl rfl) rfl ?_; refine l_nil ?_
    refine k1 ?_
    refine c_cond rfl (fun ht => ?_) (fun ht => ?_)
    · have h2 := of_decide_eq_true ht
      refine k2 ?_
      refine c_region ?_; refine l_neu (n_field_ref rfl) rfl ?_; refine l_neu (n_load_ref rfl rfl rfl) rfl ?_; refine l_neu (n_not rfl) rfl ?_; refine l_neu (n_assign rfl rfl) rfl ?_; refine l_nil ?_
      refine k1 ?_; refine k10 ?_; refine k11 ?_
      exact ret_ret (ret1 rfl rfl rfl) (by rw [visB, if_pos (by omega)])
    · have h2 := of_decide_eq_false ht
      refine k5 ?_; refine k1 ?_; refine k2 ?_
      refine c_region_draw (by kernel_rfl) (by kernel_rfl) ?_; refine d_neu (n_field_ref rfl) rfl rfl ?_; refine d_neu (n_load_ref rfl rfl rfl) rfl rfl ?_; refine d_neu (n_field_ref rfl) rfl rfl ?_; refine d_neu (n_load_ref rfl rfl rfl) rfl rfl ?_; refine d_neu (n_move rfl rfl) rfl rfl ?_; refine d_neu (n_shr rfl rfl (by omega)) rfl rfl ?_; refine d_neu (n_bits rfl rfl rfl (fun _ => rfl)) rfl rfl ?_; refine d_neu (n_eql rfl rfl) rfl rfl ?_; refine d_neu (n_eql_b rfl rfl TyBool.out) rfl rfl ?_; refine d_neu (n_assign rfl rfl) rfl rfl ?_; refine d_nil ?_
      refine k1 ?_; refine k10 ?_
      refine ret_ret (ret1 rfl rfl rfl) ?_
      have h3 : 0 ≤ r.Marks / 2 ^ c.toNat := Int.ediv_nonneg hr.1 (Int.pow_nonneg (by decide))
      have h4 : r.Marks / 2 ^ c.toNat ≤ r.Marks := Int.ediv_le_self _ hr.1
      rw [visB, if_neg (by omega), if_neg (by omega), shr32 r.Marks c (by omega), and1_u32 _ (by omega), Bool.beq_comm]
      rfl
theorem wmarked_ok (r : Row) (n : Int) (hn : 1 ≤ n ∧ n ≤ 32) (hr : 0 ≤ r.Marks ∧ r.Marks < 4294967296) : FnOk Tryz.prog 155 [pRow r, pInt n] (fun rs => rs = [pBool (markOk n.toNat r)]) := by
  refine FnOk.intro Tryz.func155 (by decide) rfl rfl rfl rfl ?_
  refine k2 ?_
  refine c_region ?_; refine l_effv (f_box 2 rfl rfl rfl) rfl ?_; refine l_neu (n_assign rfl rfl) rfl ?_; refine l_nil ?_
  refine k1 ?_; refine k2 ?_
  refine c_region ?_; refine l_neu (n_field_ref rfl) rfl ?_; refine l_neu (n_load_ref rfl rfl rfl) rfl ?_; refine l_neu (n_shr rfl rfl (by omega)) rfl ?_; refine l_neu (n_move rfl rfl) rfl ?_; refine l_neu (n_sub rfl rfl (by omega)) rfl ?_; refine l_neu (n_shr rfl rfl (by omega)) rfl ?_; refine l_neu (n_eql rfl rfl) rfl ?_; refine l_neu (n_move rfl rfl) rfl ?_; refine l_guard rfl rfl rfl rfl (fun hg => by rw [hg]; exact n_field_ref rfl) ?_; refine l_guard rfl rfl rfl rfl (fun hg => by rw [hg]; exact n_load_ref rfl rfl rfl) ?_; refine l_guard rfl rfl rfl rfl (fun hg => by rw [hg]; exact n_not rfl) ?_; refine l_guard rfl rfl rfl rfl (fun hg => by rw [hg]; exact n_move rfl rfl) ?_; refine l_guardW rfl rfl rfl (.gd (.val _)) rfl (fun hg => by obtain ⟨hg1, hg2⟩ := gd_and hg; (try rw [hg1]); (try rw [hg2]); exact n_field_ref rfl) ?_; refine l_guardW rfl rfl rfl (.gd (.val _)) rfl (fun hg => by obtain ⟨hg1, hg2⟩ := gd_and hg; (try rw [hg1]); (try rw [hg2]); exact n_load_ref rfl rfl rfl) ?_; refine l_guardW rfl rfl rfl (.gd (.val _)) rfl (fun hg => by obtain ⟨hg1, hg2⟩ := gd_and hg; (try rw [hg1]); (try rw [hg2]); exact n_neq rfl rfl) ?_; refine l_guard rfl rfl rfl rfl (fun hg => by rw [hg]; exact n_pick_bool rfl (fun h => by first | rfl | (rw [h]; rfl)) (fun h => by first | rfl | (rw [h]; rfl))) ?_; refine l_neu (n_pick_bool rfl (fun h => by first | rfl | (rw [h]; rfl)) (fun h => by first | rfl | (rw [h]; rfl))) rfl ?_; refine l_neu (n_assign rfl rfl) rfl ?_; refine l_nil ?_
  refine k1 ?_; refine k10 ?_
  refine ret_ret (ret1 rfl rfl rfl) ?_
  have h0 : 0 ≤ r.Marks / 2 ^ n.toNat := Int.ediv_nonneg hr.1 (Int.pow_nonneg (by decide))
  have e1 : r.Marks.fdiv (2 ^ (min (1 : Int).toNat IntKind.u32.bits)) = r.Marks / 2 := by
    rw [shr32 r.Marks 1 (by omega)]; rfl
  have e2 : (r.Marks / 2).fdiv (2 ^ (min (n - 1).toNat IntKind.u32.bits)) = r.Marks / 2 ^ n.toNat := by
    rw [shr32 (r.Marks / 2) (n - 1) (by omega), Int.ediv_ediv_of_nonneg (by decide)]
    have : n.toNat = (n - 1).toNat + 1 := by omega
    rw [this, Int.pow_succ, Int.mul_comm]
  have e3 : (if decide ((r.Marks.fdiv (2 ^ (min (1 : Int).toNat IntKind.u32.bits))).fdiv (2 ^ (min (n - 1).toNat IntKind.u32.bits)) = 0) = true then (if (!r.Lost) = true then true else decide (r.Marks ≠ 0)) else false) = markOk n.toNat r := by
    rw [e1, e2, markOk]
    cases r.Lost <;> by_cases hz : r.Marks / 2 ^ n.toNat = 0 <;> by_cases hy : r.Marks = 0 <;> simp [hz, hy]
  rw [← e3]
theorem wsingle_ok (r : Row) (hs : r.Text.length ≤ 1099511627776) : FnOk Tryz.prog 157 [pRow r] (fun rs => rs = [pBool (lineOk r.Text)]) := by
  refine FnOk.intro Tryz.func157 (by decide) rfl rfl rfl rfl ?_
  refine k2 ?_
  refine c_region ?_; refine l_effv (f_box 1 rfl rfl rfl) rfl ?_; refine l_neu (n_assign rfl rfl) rfl ?_; refine l_nil ?_
  refine k1 ?_; refine k2 ?_
  refine c_region ?_; refine l_neu (n_field_ref rfl) rfl ?_; refine l_neu (n_load_ref rfl rfl rfl) rfl ?_; refine l_neu (n_neq_s rfl rfl) rfl ?_; refine l_neu (n_move rfl rfl) rfl ?_; refine l_guard rfl rfl rfl rfl (fun hg => by rw [hg]; exact n_field_ref rfl) ?_; refine l_guard rfl rfl rfl rfl (fun hg => by rw [hg]; exact n_load_ref rfl rfl rfl) ?_; refine l_guard rfl rfl rfl rfl (fun hg => by have hq := hg; (try simp at hq); rw [hg]; exact n_call1 (tbare_ok r.Text hs) rfl rfl) ?_; refine l_guard rfl rfl rfl rfl (fun hg => by have hq := hg; (try simp at hq); rw [hg]; exact n_call1 (contains1_ok (bareOf r.Text) 10) rfl rfl) ?_; refine l_guard rfl rfl rfl rfl (fun hg => by rw [hg]; exact n_not rfl) ?_; refine l_neu (n_pick_bool rfl (fun h => by first | rfl | (rw [h]; rfl)) (fun h => by first | rfl | (rw [h]; rfl))) rfl ?_; refine l_neu (n_assign rfl rfl) rfl ?_; refine l_nil ?_
  refine k1 ?_; refine k10 ?_
  refine ret_ret (ret1 rfl rfl rfl) ?_
  rw [← single_eq]
theorem tjoin_ok (l : List Str) (hf : l.flatten.length ≤ 536870911) (hll : l.length ≤ 536870911) : FnOk Tryz.prog 68 [pStrs l] (fun rs => rs = [pStr (joinOf l).1, pInt (joinOf l).2]) := by
  refine FnOk.intro Tryz.func68 (by decide) rfl rfl rfl rfl ?_
  refine k2 ?_
  refine c_region ?_; refine l_neu (n_assign rfl rfl) rfl ?_; refine l_neu (n_assign rfl rfl) rfl ?_; refine l_nil ?_
  refine k1 ?_; refine k2 ?_
  refine c_region ?_; refine l_neu (n_assign rfl rfl) rfl ?_; refine l_nil ?_
  refine k1 ?_; refine k2 ?_; refine k2 ?_
  refine c_region ?_; refine l_neu (n_move rfl rfl) rfl ?_; refine l_neu (n_len rfl (.pure _ _ _ _)) rfl ?_; refine l_neu (n_move rfl rfl) rfl ?_; refine l_nil ?_
  refine k1 ?_; refine k3 ?_
  refine c_while (X := Nat) (fun i => ([(0, sList Str 1 strC l), (4, sInt (l.take i).flatten.length), (8, sList Str 1 strC l), (9, sInt l.length), (10, sInt i)], [])) (fun i => i ≤ l.length ∧ listOk l = listOk (l.drop i)) (fun i => l.length - i) 0 ⟨Nat.zero_le _, by simp⟩ (Sees.of ⟨le1 rfl, le1 rfl, le1 rfl, le1 rfl, le1 rfl, trivial⟩ trivial) ?_
  rintro i ⟨hi, hp⟩
  dsimp only at hi hp ⊢
  have hfl := flatten_take_le l i
  refine k2 ?_
  refine c_region ?_; refine l_neu (n_lss rfl rfl) rfl ?_; refine l_nil ?_
  refine k1 ?_; refine k2 ?_
  refine c_cond rfl (fun ht => ?_) (fun ht => ?_)
  · have hlt : i < l.length := by have := of_decide_eq_true ht; omega
    have hv : l[i]? = some l[i] := by simp [hlt]
    have hfl2 := flatten_take_le l (i + 1)
    have hst : (l.take (i + 1)).flatten.length = (l.take i).flatten.length + l[i].length := by rw [flatten_take_succ l i hlt, List.length_append]
    have hbad := badLine_iff l[i] (l.drop (i + 1))
    rw [List.drop_eq_getElem_cons hlt, listOk_cons] at hp
    have hemp : (l.drop (i + 1)).isEmpty = decide (l.length ≤ i + 1) := by rw [Bool.eq_iff_iff]; simp
    rw [hemp] at hbad
    unfold badLine at hbad
    refine k5 ?_; refine k1 ?_; refine k2 ?_; refine k3 ?_; refine k2 ?_
    refine c_region ?_; refine l_neu (n_move rfl rfl) rfl ?_; refine l_neu (n_indexAddr rfl (.pure _ _ _ _) rfl (by omega) hv) rfl ?_; refine l_neu (n_load_eref rfl rfl) rfl ?_; refine l_neu (n_assign rfl rfl) rfl ?_; refine l_neu (n_assign rfl rfl) rfl ?_; refine l_nil ?_
    refine k1 ?_; refine k2 ?_
    refine c_region ?_; refine l_neu (n_move rfl rfl) rfl ?_; refine l_call (indexByte_ok l[i] 10) rfl rfl rfl ?_; rintro _ rfl; refine l_neu (n_assign rfl rfl) rfl ?_; refine l_nil ?_
    refine k1 ?_; refine k2 ?_; refine k2 ?_
    refine c_region ?_; refine l_neu (n_move rfl rfl) rfl ?_; refine l_neu (n_eql_s rfl rfl) rfl ?_; refine l_neu (n_move rfl rfl) rfl ?_; refine l_guard rfl rfl rfl rfl (fun hg => by rw [hg]; exact n_move rfl rfl) ?_; refine l_guard rfl rfl rfl rfl (fun hg => by rw [hg]; exact n_geq rfl rfl) ?_; refine l_guard rfl rfl rfl rfl (fun hg => by rw [hg]; exact n_move rfl rfl) ?_; refine l_guardW rfl rfl rfl (.gd (.val _)) rfl (fun hg => by obtain ⟨hg1, hg2⟩ := gd_and hg; (try rw [hg1]); (try rw [hg2]); exact n_move rfl rfl) ?_; refine l_guardW rfl rfl rfl (.gd (.val _)) rfl (fun hg => by obtain ⟨hg1, hg2⟩ := gd_and hg; (try rw [hg1]); (try rw [hg2]); exact n_move rfl rfl) ?_; refine l_guardW rfl rfl rfl (.gd (.val _)) rfl (fun hg => by obtain ⟨hg1, hg2⟩ := gd_and hg; (try rw [hg1]); (try rw [hg2]); exact n_len_s rfl) ?_; refine l_guardW rfl rfl rfl (.gd (.val _)) rfl (fun hg => by have hq := hg; (try simp at hq); obtain ⟨hg1, hg2⟩ := gd_and hg; (try rw [hg1]); (try rw [hg2]); exact n_sub rfl rfl (by omega)) ?_; refine l_guardW rfl rfl rfl (.gd (.val _)) rfl (fun hg => by obtain ⟨hg1, hg2⟩ := gd_and hg; (try rw [hg1]); (try rw [hg2]); exact n_lss rfl rfl) ?_; refine l_guard rfl rfl rfl rfl (fun hg => by rw [hg]; exact n_pick_bool rfl (fun h => by first | rfl | (rw [h]; rfl)) (fun h => by first | rfl | (rw [h]; rfl))) ?_; refine l_neu (n_pick_bool rfl (fun h => by first | rfl | (rw [h]; rfl)) (fun h => by first | rfl | (rw [h]; rfl))) rfl ?_; refine l_neu (n_move rfl rfl) rfl ?_; refine l_guard rfl rfl rfl rfl (fun hg => by rw [hg]; exact n_move rfl rfl) ?_; refine l_guard rfl rfl rfl rfl (fun hg => by rw [hg]; exact n_lss rfl rfl) ?_; refine l_guard rfl rfl rfl rfl (fun hg => by rw [hg]; exact n_move rfl rfl) ?_; refine l_guardW rfl rfl rfl (.gd (.val _)) rfl (fun hg => by obtain ⟨hg1, hg2⟩ := gd_and hg; (try rw [hg1]); (try rw [hg2]); exact n_move rfl rfl) ?_; refine l_guardW rfl rfl rfl (.gd (.val _)) rfl (fun hg => by obtain ⟨hg1, hg2⟩ := gd_and hg; (try rw [hg1]); (try rw [hg2]); exact n_move rfl rfl) ?_; refine l_guardW rfl rfl rfl (.gd (.val _)) rfl (fun hg => by obtain ⟨hg1, hg2⟩ := gd_and hg; (try rw [hg1]); (try rw [hg2]); exact n_len rfl (.pure _ _ _ _)) ?_; refine l_guardW rfl rfl rfl (.gd (.val _)) rfl (fun hg => by have hq := hg; (try simp at hq); obtain ⟨hg1, hg2⟩ := gd_and hg; (try rw [hg1]); (try rw [hg2]); exact n_sub rfl rfl (by omega)) ?_; refine l_guardW rfl rfl rfl (.gd (.val _)) rfl (fun hg => by obtain ⟨hg1, hg2⟩ := gd_and hg; (try rw [hg1]); (try rw [hg2]); exact n_lss rfl rfl) ?_; refine l_guard rfl rfl rfl rfl (fun hg => by rw [hg]; exact n_pick_bool rfl (fun h => by first | rfl | (rw [h]; rfl)) (fun h => by first | rfl | (rw [h]; rfl))) ?_; refine l_neu (n_pick_bool rfl (fun h => by first | rfl | (rw [h]; rfl)) (fun h => by first | rfl | (rw [h]; rfl))) rfl ?_; refine l_nil ?_
    refine k1 ?_
    refine c_cond rfl (fun ht => ?_) (fun ht => ?_)
    · simp only [and_pick, or_pick] at ht
      have h1 := of_decide_eq_true ht
      have h2 := hbad.1 (by
        rcases h1 with (h | h) | h
        · exact .inl h
        · exact .inr (.inl h)
        · exact .inr (.inr ⟨h.1, by simp only [decide_eq_false_iff_not]; omega⟩))
      rw [hemp, h2, Bool.false_and] at hp
      refine k2 ?_
      refine c_region ?_; refine l_neu (n_assign rfl rfl) rfl ?_; refine l_neu (n_assign rfl rfl) rfl ?_; refine l_nil ?_
      refine k1 ?_; refine k10 ?_; refine k11 ?_; refine k12 ?_; refine k11 ?_; refine k11 ?_; refine k12 ?_; refine k11 ?_
      exact ret_ret (ret2 rfl rfl rfl rfl rfl) (by rw [joinOf, if_pos hp])
    · simp only [and_pick, or_pick] at ht
      have h1 := of_decide_eq_false ht
      have h2 : (lineOk l[i] && (decide (l.length ≤ i + 1) || ended l[i])) = true := by
        cases h3 : (lineOk l[i] && (decide (l.length ≤ i + 1) || ended l[i]))
        · have h4 := hbad.2 h3
          simp only [decide_eq_false_iff_not] at h4
          refine absurd ?_ h1
          rcases h4 with h | h | h
          · exact .inl (.inl h)
          · exact .inl (.inr h)
          · exact .inr ⟨h.1, by omega⟩
        · rfl
      rw [hemp, h2, Bool.true_and] at hp
      refine k5 ?_; refine k1 ?_
      refine c_region ?_; refine l_neu (n_move rfl rfl) rfl ?_; refine l_neu (n_move rfl rfl) rfl ?_; refine l_neu (n_len_s rfl) rfl ?_; refine l_neu (n_add rfl rfl (by omega)) rfl ?_; refine l_neu (n_assign rfl rfl) rfl ?_; refine l_nil ?_
      refine k4 ?_; refine k1 ?_
      refine c_region ?_; refine l_neu (n_add rfl rfl (by omega)) rfl ?_; refine l_neu (n_move rfl rfl) rfl ?_; refine l_nil ?_
      refine k1 ?_
      refine ⟨i + 1, ⟨by omega, hp⟩, by omega, ?_⟩
      rw [hst]
      exact Sees.of ⟨le1 rfl, le1 rfl, le1 rfl, le1 rfl, le1 rfl, trivial⟩ trivial
  · have hil : i = l.length := by have := of_decide_eq_false ht; omega
    rw [hil, List.take_length] at hfl ⊢
    rw [hil, List.drop_eq_nil_of_le (Nat.le_refl _)] at hp
    refine k6 ?_; refine k2 ?_; refine k2 ?_
    refine c_region ?_; refine l_neu (n_move rfl rfl) rfl ?_; refine l_neu (n_gtr rfl rfl) rfl ?_; refine l_neu (n_move rfl rfl) rfl ?_; refine l_guard rfl rfl rfl rfl (fun hg => by rw [hg]; exact n_move rfl rfl) ?_; refine l_guard rfl rfl rfl rfl (fun hg => by rw [hg]; exact n_len rfl (.pure _ _ _ _)) ?_; refine l_guard rfl rfl rfl rfl (fun hg => by rw [hg]; exact n_gtr rfl rfl) ?_; refine l_neu (n_pick_bool rfl (fun h => by first | rfl | (rw [h]; rfl)) (fun h => by first | rfl | (rw [h]; rfl))) rfl ?_; refine l_nil ?_
    refine k1 ?_
    refine c_cond rfl (fun ht => ?_) (fun ht => ?_)
    · have h1 := of_decide_eq_true (or_pick.symm.trans ht)
      refine k2 ?_
      refine c_region ?_; refine l_neu (n_assign rfl rfl) rfl ?_; refine l_neu (n_assign rfl rfl) rfl ?_; refine l_nil ?_
      refine k1 ?_; refine k10 ?_; refine k11 ?_
      exact ret_ret (ret2 rfl rfl rfl rfl rfl) (by rw [joinOf, if_neg (by rw [hp]; simp [listOk]), if_pos (by omega)])
    · have h1 := of_decide_eq_false (or_pick.symm.trans ht)
      refine k5 ?_; refine k1 ?_; refine k2 ?_
      refine c_region ?_; refine l_neu (n_move rfl rfl) rfl ?_; refine l_call (sjoin_ok l (by omega) (by omega)) rfl rfl rfl ?_; rintro _ rfl; refine l_neu (n_assign rfl rfl) rfl ?_; refine l_neu (n_assign rfl rfl) rfl ?_; refine l_nil ?_
      refine k1 ?_; refine k10 ?_
      exact ret_ret (ret2 rfl rfl rfl rfl rfl) (by rw [joinOf, if_neg (by rw [hp]; simp [listOk]), if_neg (by omega)])
theorem wadd_ok (r : Row) (res : Bool) (par : Int) (hs : r.Text.length ≤ 1099511627776) :
    FnIo Tryz.prog 158 [pRow r] [.v (.bool res), .v (.int .u32 par)] (fun rs cs => rs = [pBool (addOk res par r)] ∧ cs = [.v (.bool (addRes res r)), .v (.int .u32 (addPar par r))]) := by
  refine FnIo.intro Tryz.func158 (by decide) rfl rfl rfl rfl ?_
  refine k2 ?_
  refine c_region ?_; refine l_effv (f_box 3 rfl rfl rfl) rfl ?_; refine l_neu (n_assign rfl rfl) rfl ?_; refine l_nil ?_
  refine k1 ?_; refine k2 ?_
  refine c_region ?_; refine l_neu (n_field_ref rfl) rfl ?_; refine l_neu (n_load_ref rfl rfl rfl) rfl ?_; refine l_neu (n_assign rfl rfl) rfl ?_; refine l_nil ?_
  refine then_normal ?_
  refine c_join [(3, .s (.one (.ref 3 0))), (0, .s (.one (.ref self 0))), (5, sVal (.int .u32 (inOf r)))] [(3, .box (pRow r).s1.cells), (self, .box [.p (.v (.bool res)), .p (.v (.int .u32 par))])] ?_ ?_
  · refine k2 ?_
    refine c_region ?_; refine l_neu (n_field_ref rfl) rfl ?_; refine l_neu (n_load_ref rfl rfl rfl) rfl ?_; refine l_neu (n_not rfl) rfl ?_; refine l_nil ?_
    refine k1 ?_
    refine c_cond rfl (fun ht => ?_) (fun ht => ?_)
    · have h : r.Lost = false := by simpa using ht
      skip
      refine c_region ?_; refine l_neu (n_move rfl rfl) rfl ?_; refine l_neu (n_compl rfl rfl (fun _ => rfl)) rfl ?_; refine l_neu (n_assign rfl rfl) rfl ?_; refine l_nil ?_
      refine k1 ?_
      rw [inOf, if_neg (by rw [h]; simp)]
      exact Sees.of ⟨le1 rfl, le1 rfl, le1 rfl, trivial⟩ ⟨rfl, rfl, trivial⟩
    · have h : r.Lost = true := by simpa using ht
      refine k5 ?_; refine k1 ?_
      rw [inOf, if_pos h]
      exact Sees.of ⟨le1 rfl, le1 rfl, le1 rfl, trivial⟩ ⟨rfl, rfl, trivial⟩
  refine k2 ?_
  refine c_region ?_; refine l_neu (n_move rfl rfl) rfl ?_; refine l_neu (n_nilCheck_ref rfl) rfl ?_; refine l_neu (n_field_ref rfl) rfl ?_; refine l_neu (n_load_ref rfl rfl rfl) rfl ?_; refine l_neu (n_move rfl rfl) rfl ?_; refine l_neu (n_bits rfl rfl rfl (fun _ => rfl)) rfl ?_; refine l_neu (n_eql rfl rfl) rfl ?_; refine l_neu (n_move rfl rfl) rfl ?_; refine l_guard rfl rfl rfl rfl (fun hg => by rw [hg]; exact n_field_ref rfl) ?_; refine l_guard rfl rfl rfl rfl (fun hg => by rw [hg]; exact n_load_ref rfl rfl rfl) ?_; refine l_guard rfl rfl rfl rfl (fun hg => by rw [hg]; exact n_move rfl rfl) ?_; refine l_guardW rfl rfl rfl (.gd (.val _)) rfl (fun hg => by obtain ⟨hg1, hg2⟩ := gd_and hg; (try rw [hg1]); (try rw [hg2]); exact n_move rfl rfl) ?_; refine l_guardW rfl rfl rfl (.gd (.val _)) rfl (fun hg => by obtain ⟨hg1, hg2⟩ := gd_and hg; (try rw [hg1]); (try rw [hg2]); exact n_nilCheck_ref rfl) ?_; refine l_guardW rfl rfl rfl (.gd (.val _)) rfl (fun hg => by obtain ⟨hg1, hg2⟩ := gd_and hg; (try rw [hg1]); (try rw [hg2]); exact n_field_ref rfl) ?_; refine l_guardW rfl rfl rfl (.gd (.val _)) rfl (fun hg => by obtain ⟨hg1, hg2⟩ := gd_and hg; (try rw [hg1]); (try rw [hg2]); exact n_load_ref rfl rfl rfl) ?_; refine l_guardW rfl rfl rfl (.gd (.val _)) rfl (fun hg => by obtain ⟨hg1, hg2⟩ := gd_and hg; (try rw [hg1]); (try rw [hg2]); exact n_not rfl) ?_; refine l_guard rfl rfl rfl rfl (fun hg => by rw [hg]; exact n_pick_bool rfl (fun h => by first | rfl | (rw [h]; rfl)) (fun h => by first | rfl | (rw [h]; rfl))) ?_; refine l_neu (n_pick_bool rfl (fun h => by first | rfl | (rw [h]; rfl)) (fun h => by first | rfl | (rw [h]; rfl))) rfl ?_; refine l_neu (n_assign rfl rfl) rfl ?_; refine l_nil ?_
  refine k1 ?_; refine k2 ?_; refine k2 ?_
  refine c_region ?_; refine l_neu (n_field_ref rfl) rfl ?_; refine l_neu (n_load_ref rfl rfl rfl) rfl ?_; refine l_call (tended_ok r.Text hs) rfl rfl rfl ?_; rintro _ rfl; refine l_neu (n_not rfl) rfl ?_; refine l_nil ?_
  have hok : (if decide (and32 par (inOf r) = 0) = true then (if r.Lost = true then true else !res) else false) = addOk res par r := by
    rw [addOk]
    cases r.Lost <;> cases res <;> by_cases h : and32 par (inOf r) = 0 <;> simp [h]
  refine k1 ?_
  refine c_cond rfl (fun ht => ?_) (fun ht => ?_)
  · have h : ended r.Text = false := by simpa using ht
    refine k2 ?_
    refine c_region ?_; refine l_neu (n_move rfl rfl) rfl ?_; refine l_neu (n_nilCheck_ref rfl) rfl ?_; refine l_neu (n_field_ref rfl) rfl ?_; refine l_neu (n_load_ref rfl rfl rfl) rfl ?_; refine l_neu (n_move rfl rfl) rfl ?_; refine l_neu (n_bits rfl rfl rfl (fun _ => rfl)) rfl ?_; refine l_neu (n_nilCheck_ref rfl) rfl ?_; refine l_neu (n_field_ref rfl) rfl ?_; refine l_eff (e_store_ref TySz.out rfl rfl rfl rfl rfl rfl) ?_; refine l_nil ?_
    refine k1 ?_
    refine c_region ?_; refine l_neu (n_move rfl rfl) rfl ?_; refine l_neu (n_move rfl rfl) rfl ?_; refine l_neu (n_nilCheck_ref rfl) rfl ?_; refine l_neu (n_field_ref rfl) rfl ?_; refine l_neu (n_load_ref rfl rfl rfl) rfl ?_; refine l_neu (n_move rfl rfl) rfl ?_; refine l_guard rfl rfl rfl rfl (fun hg => by rw [hg]; exact n_field_ref rfl) ?_; refine l_guard rfl rfl rfl rfl (fun hg => by rw [hg]; exact n_load_ref rfl rfl rfl) ?_; refine l_guard rfl rfl rfl rfl (fun hg => by rw [hg]; exact n_not rfl) ?_; refine l_neu (n_pick_bool rfl (fun h => by first | rfl | (rw [h]; rfl)) (fun h => by first | rfl | (rw [h]; rfl))) rfl ?_; refine l_neu (n_nilCheck_ref rfl) rfl ?_; refine l_neu (n_field_ref rfl) rfl ?_; refine l_eff (e_store_ref TySz.out rfl rfl rfl rfl rfl rfl) ?_; refine l_nil ?_
    refine k1 ?_; refine k2 ?_
    refine c_region ?_; refine l_neu (n_move rfl rfl) rfl ?_; refine l_neu (n_assign rfl rfl) rfl ?_; refine l_nil ?_
    refine k1 ?_; refine k10 ?_
    refine io_ret (ret1 rfl rfl rfl) rfl rfl ⟨by rw [← hok]; rfl, ?_⟩
    have ea : addRes res r = (res || !r.Lost) := by rw [addRes, h]; rfl
    have ep : addPar par r = orBit par (inOf r) := by rw [addPar, h]; rfl
    rw [ea, ep]
    cases res <;> rfl
  · have h : ended r.Text = true := by simpa using ht
    refine k5 ?_; refine k1 ?_; refine k2 ?_
    refine c_region ?_; refine l_neu (n_move rfl rfl) rfl ?_; refine l_neu (n_assign rfl rfl) rfl ?_; refine l_nil ?_
    refine k1 ?_; refine k10 ?_
    exact io_ret (ret1 rfl rfl rfl) rfl rfl ⟨by rw [← hok]; rfl, by rw [addRes, addPar, if_pos h, if_pos h]⟩
theorem wcheck_ok (t : Table) (hr : rowsIn t.Rows) (hl : t.Rows.length ≤ 536870911) (hx : textsLen t.Rows ≤ 536870912) : FnOk Tryz.prog 116 [pTable t] (fun rs => rs = [pInt (check16 t)]) := by
  refine FnOk.intro Tryz.func116 (by decide) rfl rfl rfl rfl ?_
  refine k2 ?_
  refine c_region ?_; refine l_effv (f_box 1 rfl rfl rfl) rfl ?_; refine l_neu (n_assign rfl rfl) rfl ?_; refine l_nil ?_
  refine k1 ?_; refine k2 ?_; refine k2 ?_
  refine c_region ?_; refine l_neu (n_field_ref rfl) rfl ?_; refine l_neu (n_load_ref rfl rfl rfl) rfl ?_; refine l_neu (n_lss rfl rfl) rfl ?_; refine l_neu (n_move rfl rfl) rfl ?_; refine l_guard rfl rfl rfl rfl (fun hg => by rw [hg]; exact n_field_ref rfl) ?_; refine l_guard rfl rfl rfl rfl (fun hg => by rw [hg]; exact n_load_ref rfl rfl rfl) ?_; refine l_guard rfl rfl rfl rfl (fun hg => by rw [hg]; exact n_gtr rfl rfl) ?_; refine l_neu (n_pick_bool rfl (fun h => by first | rfl | (rw [h]; rfl)) (fun h => by first | rfl | (rw [h]; rfl))) rfl ?_; refine l_nil ?_
  refine k1 ?_
  refine c_cond rfl (fun ht => ?_) (fun ht => ?_)
  · have h := of_decide_eq_true (or_pick.symm.trans ht)
    refine k2 ?_
    refine c_region ?_; refine l_neu (n_assign rfl rfl) rfl ?_; refine l_nil ?_
    refine k1 ?_; refine k10 ?_; refine k11 ?_
    exact ret_ret (ret1 rfl rfl rfl) (by rw [check16, if_pos h])
  · have h := of_decide_eq_false (or_pick.symm.trans ht)
    refine c_cut [(1, .s (.one (.ref 1 0)))] [(1, .box [.p (.v (.int .i64 t.Parents)), .p (.list Row 3 rowC t.Rows)])] (Sees.of ⟨le1 rfl, trivial⟩ ⟨rfl, trivial⟩) ?_
    refine k5 ?_; refine k1 ?_; refine k2 ?_; refine k2 ?_
    refine c_region ?_; refine l_neu (n_field_ref rfl) rfl ?_; refine l_neu (n_load_ref rfl rfl rfl) rfl ?_; refine l_neu (n_len rfl (.pure _ _ _ _)) rfl ?_; refine l_neu (n_move rfl rfl) rfl ?_; refine l_nil ?_
    refine k1 ?_; refine k3 ?_
    refine c_while (X := Nat) (fun i => ([(1, .s (.one (.ref 1 0))), (17, sList Row 3 rowC t.Rows), (18, sInt t.Rows.length), (19, sInt i)], [(1, .box [.p (.v (.int .i64 t.Parents)), .p (.list Row 3 rowC t.Rows)])])) (fun i => i ≤ t.Rows.length ∧ marksOk t.Rows t.Parents.toNat = marksOk (t.Rows.drop i) t.Parents.toNat) (fun i => t.Rows.length - i) 0 ⟨Nat.zero_le _, rfl⟩ (Sees.of ⟨le1 rfl, le1 rfl, le1 rfl, le1 rfl, trivial⟩ ⟨rfl, trivial⟩) ?_
    rintro i ⟨hi, hp⟩
    dsimp only at hi hp ⊢
    refine k2 ?_
    refine c_region ?_; refine l_neu (n_lss rfl rfl) rfl ?_; refine l_nil ?_
    refine k1 ?_; refine k2 ?_
    refine c_cond rfl (fun ht => ?_) (fun ht => ?_)
    · have hlt : i < t.Rows.length := by have := of_decide_eq_true ht; omega
      have hv : t.Rows[i]? = some t.Rows[i] := by simp [hlt]
      rw [List.drop_eq_getElem_cons hlt, marksOk_cons] at hp
      refine k5 ?_; refine k1 ?_; refine k2 ?_; refine k3 ?_; refine k2 ?_
      refine c_region ?_; refine l_neu (n_indexAddr rfl (.pure _ _ _ _) rfl (by omega) hv) rfl ?_; refine l_neu (n_loads_eref rfl rfl) rfl ?_; refine l_effv (f_alloc 4 rfl) rfl ?_; refine l_eff (e_store_ref TySz.out rfl rfl rfl rfl rfl rfl) ?_; refine l_nil ?_
      refine k1 ?_; refine k2 ?_
      refine c_region ?_; refine l_neu (n_loads_ref rfl rfl rfl) rfl ?_; refine l_neu (n_field_ref rfl) rfl ?_; refine l_neu (n_load_ref rfl rfl rfl) rfl ?_; refine l_call (wmarked_ok t.Rows[i] t.Parents (by omega) (hr _ (List.getElem_mem hlt))) rfl rfl rfl ?_; rintro _ rfl; refine l_neu (n_not rfl) rfl ?_; refine l_nil ?_
      refine k1 ?_
      refine c_cond rfl (fun ht => ?_) (fun ht => ?_)
      · have h2 : markOk t.Parents.toNat t.Rows[i] = false := by simpa using ht
        rw [h2, Bool.false_and] at hp
        refine k2 ?_
        refine c_region ?_; refine l_neu (n_assign rfl rfl) rfl ?_; refine l_nil ?_
        refine k1 ?_; refine k10 ?_; refine k12 ?_; refine k11 ?_; refine k11 ?_; refine k12 ?_; refine k11 ?_
        exact ret_ret (ret1 rfl rfl rfl) (by rw [check16, if_neg h, if_pos hp])
      · have h2 : markOk t.Parents.toNat t.Rows[i] = true := by simpa using ht
        rw [h2, Bool.true_and] at hp
        refine k5 ?_; refine k4 ?_; refine k1 ?_
        refine c_region ?_; refine l_neu (n_add rfl rfl (by omega)) rfl ?_; refine l_neu (n_move rfl rfl) rfl ?_; refine l_nil ?_
        refine k1 ?_
        exact ⟨i + 1, ⟨by omega, hp⟩, by omega, Sees.of ⟨le1 rfl, le1 rfl, le1 rfl, le1 rfl, trivial⟩ ⟨rfl, trivial⟩⟩
    · have hil : i = t.Rows.length := by have := of_decide_eq_false ht; omega
      rw [hil, List.drop_eq_nil_of_le (Nat.le_refl _)] at hp
      have hm : marksOk t.Rows t.Parents.toNat = true := hp
      refine c_cut [(1, .s (.one (.ref 1 0)))] [(1, .box [.p (.v (.int .i64 t.Parents)), .p (.list Row 3 rowC t.Rows)])] (Sees.of ⟨le1 rfl, trivial⟩ ⟨rfl, trivial⟩) ?_
      clear hil ht hp hi
      have hat := adds_texts t.Rows t.Parents.toNat (by omega) hm hr
      refine k6 ?_; refine k2 ?_
      refine c_region ?_; refine l_effv (f_alloc 5 rfl) rfl ?_; refine l_nil ?_
      refine k1 ?_; refine k2 ?_; refine k2 ?_
      refine c_region ?_; refine l_neu (n_field_ref rfl) rfl ?_; refine l_neu (n_load_ref rfl rfl rfl) rfl ?_; refine l_neu (n_len rfl (.pure _ _ _ _)) rfl ?_; refine l_neu (n_move rfl rfl) rfl ?_; refine l_nil ?_
      refine k1 ?_; refine k3 ?_
      refine c_while (X := Nat × Bool × Int) (fun x => ([(1, .s (.one (.ref 1 0))), (5, .s (.one (.ref 5 0))), (30, sList Row 3 rowC t.Rows), (31, sInt t.Rows.length), (32, sInt x.1)], [(1, .box [.p (.v (.int .i64 t.Parents)), .p (.list Row 3 rowC t.Rows)]), (5, .box [.p (.v (.bool x.2.1)), .p (.v (.int .u32 x.2.2))])])) (fun x => x.1 ≤ t.Rows.length ∧ addsOk false 0 t.Rows = addsOk x.2.1 x.2.2 (t.Rows.drop x.1)) (fun x => t.Rows.length - x.1) (0, false, 0) ⟨Nat.zero_le _, rfl⟩ (Sees.of ⟨le1 rfl, le1 rfl, le1 rfl, le1 rfl, le1 rfl, trivial⟩ ⟨rfl, rfl, trivial⟩) ?_
      rintro ⟨i, res, par⟩ ⟨hi, hp⟩
      dsimp only at hi hp ⊢
      refine k2 ?_
      refine c_region ?_; refine l_neu (n_lss rfl rfl) rfl ?_; refine l_nil ?_
      refine k1 ?_; refine k2 ?_
      refine c_cond rfl (fun ht => ?_) (fun ht => ?_)
      · have hlt : i < t.Rows.length := by have := of_decide_eq_true ht; omega
        have hv : t.Rows[i]? = some t.Rows[i] := by simp [hlt]
        have htl := text_len t.Rows _ (List.getElem_mem hlt)
        rw [List.drop_eq_getElem_cons hlt, addsOk] at hp
        refine k5 ?_; refine k1 ?_; refine k2 ?_; refine k3 ?_; refine k2 ?_
        refine c_region ?_; refine l_neu (n_indexAddr rfl (.pure _ _ _ _) rfl (by omega) hv) rfl ?_; refine l_neu (n_loads_eref rfl rfl) rfl ?_; refine l_effv (f_alloc 7 rfl) rfl ?_; refine l_eff (e_store_ref TySz.out rfl rfl rfl rfl rfl rfl) ?_; refine l_nil ?_
        refine k1 ?_; refine k2 ?_
        by_cases hs : lineOk t.Rows[i].Text = true
        · refine c_region ?_; refine l_neu (n_loads_ref rfl rfl rfl) rfl ?_; refine l_call (wsingle_ok t.Rows[i] (by omega)) rfl rfl rfl ?_; rintro _ rfl; refine l_neu (n_not rfl) rfl ?_; refine l_neu (n_move rfl rfl) rfl ?_; refine l_run rfl rfl rfl (by rw [hs]; rfl) ?_; refine l_neu (n_loads_ref rfl rfl rfl) rfl ?_; refine l_run rfl rfl rfl (by rw [hs]; rfl) ?_; refine l_callio (wadd_ok t.Rows[i] res par (by omega)) rfl rfl rfl rfl rfl rfl ?_; rintro _ _ ⟨rfl, rfl⟩; refine l_guard rfl rfl rfl rfl (fun hg => by rw [hg]; exact n_not rfl) ?_; refine l_neu (n_pick_bool rfl (fun h => by first | rfl | (rw [h]; rfl)) (fun h => by first | rfl | (rw [h]; rfl))) rfl ?_; refine l_nil ?_
          refine k1 ?_
          refine c_cond rfl (fun ht => ?_) (fun ht => ?_)
          · have h2 : addOk res par t.Rows[i] = false := by rw [hs] at ht; simpa using ht
            rw [hs, h2, Bool.true_and, Bool.false_and] at hp
            refine k2 ?_
            refine c_region ?_; refine l_neu (n_assign rfl rfl) rfl ?_; refine l_nil ?_
            refine k1 ?_; refine k10 ?_; refine k12 ?_; refine k11 ?_; refine k11 ?_; refine k12 ?_; refine k11 ?_
            exact ret_ret (ret1 rfl rfl rfl) (by rw [check16, if_neg h, if_neg (by simp [hm]), if_pos (by rw [← hat]; exact hp)])
          · have h2 : addOk res par t.Rows[i] = true := by rw [hs] at ht; simpa using ht
            rw [hs, h2, Bool.true_and, Bool.true_and] at hp
            refine k5 ?_; refine k4 ?_; refine k1 ?_
            refine c_region ?_; refine l_neu (n_add rfl rfl (by omega)) rfl ?_; refine l_neu (n_move rfl rfl) rfl ?_; refine l_nil ?_
            refine k1 ?_
            exact ⟨(i + 1, _, _), ⟨by dsimp only; omega, hp⟩, by dsimp only; omega, Sees.of ⟨le1 rfl, le1 rfl, le1 rfl, le1 rfl, le1 rfl, trivial⟩ ⟨rfl, rfl, trivial⟩⟩
        · have hs' : lineOk t.Rows[i].Text = false := by simpa using hs
          refine c_region ?_; refine l_neu (n_loads_ref rfl rfl rfl) rfl ?_; refine l_call (wsingle_ok t.Rows[i] (by omega)) rfl rfl rfl ?_; rintro _ rfl; refine l_neu (n_not rfl) rfl ?_; refine l_neu (n_move rfl rfl) rfl ?_; refine l_guard rfl rfl rfl rfl (fun hg => by rw [hg]; exact n_loads_ref rfl rfl rfl) ?_; refine l_skip rfl rfl rfl (by rw [hs']; decide) rfl ?_; refine l_skip rfl rfl rfl (by rw [hs']; decide) rfl ?_; refine l_neu (n_pick_bool (q := true) rfl (fun h => rfl) (fun h => by rw [hs'] at h; cases h)) rfl ?_; refine l_nil ?_
          rw [hs', Bool.false_and, Bool.false_and] at hp
          refine k1 ?_
          refine c_cond rfl (fun ht => ?_) (fun ht => ?_)
          · refine k2 ?_
            refine c_region ?_; refine l_neu (n_assign rfl rfl) rfl ?_; refine l_nil ?_
            refine k1 ?_; refine k10 ?_; refine k12 ?_; refine k11 ?_; refine k11 ?_; refine k12 ?_; refine k11 ?_
            exact ret_ret (ret1 rfl rfl rfl) (by rw [check16, if_neg h, if_neg (by simp [hm]), if_pos (by rw [← hat]; exact hp)])
          · rw [hs'] at ht; cases ht
      · have hil : i = t.Rows.length := by have := of_decide_eq_false ht; omega
        rw [hil, List.drop_eq_nil_of_le (Nat.le_refl _)] at hp
        have hp' : addsOk false 0 t.Rows = true := hp
        refine k6 ?_; refine k2 ?_
        refine c_region ?_; refine l_neu (n_assign rfl rfl) rfl ?_; refine l_nil ?_
        refine k1 ?_; refine k10 ?_
        exact ret_ret (ret1 rfl rfl rfl) (by rw [check16, if_neg h, if_neg (by simp [hm]), if_neg (by rw [← hat, hp']; simp)])
theorem pcolumn_ok (t : Table) (c : Int) (hr : rowsIn t.Rows) (hl : t.Rows.length ≤ 536870911) (hx : textsLen t.Rows ≤ 536870911) : FnOk Tryz.prog 114 [pTable t, pInt c] (fun rs => rs = [pStr (joinOf (colOf t.Rows c)).1, pInt (joinOf (colOf t.Rows c)).2]) := by
  refine FnOk.intro Tryz.func114 (by decide) rfl rfl rfl rfl ?_
  refine k2 ?_
  refine c_region ?_; refine l_effv (f_box 2 rfl rfl rfl) rfl ?_; refine l_neu (n_assign rfl rfl) rfl ?_; refine l_neu (n_assign rfl rfl) rfl ?_; refine l_nil ?_
  refine k1 ?_; refine k2 ?_
  refine c_region ?_; refine l_effv (f_adopt 6 _ strC rfl) rfl ?_; refine l_nil ?_
  refine k1 ?_; refine k2 ?_; refine k2 ?_
  refine c_region ?_; refine l_neu (n_field_ref rfl) rfl ?_; refine l_neu (n_load_ref rfl rfl rfl) rfl ?_; refine l_neu (n_len rfl (.pure _ _ _ _)) rfl ?_; refine l_neu (n_move rfl rfl) rfl ?_; refine l_nil ?_
  refine k1 ?_; refine k3 ?_
  refine c_while (X := Nat) (fun i => ([(1, sInt c), (2, .s (.one (.ref 2 0))), (6, .s (.one (.buf 6 Str 1 strC (colOf (t.Rows.take i) c)))), (10, sList Row 3 rowC t.Rows), (11, sInt t.Rows.length), (12, sInt i)], [(6, .spare (colOf (t.Rows.take i) c).length 1 9)])) (fun i => i ≤ t.Rows.length) (fun i => t.Rows.length - i) 0 (Nat.zero_le _) (Sees.of ⟨le1 rfl, le1 rfl, le1 rfl, le1 rfl, le1 rfl, le1 rfl, trivial⟩ ⟨rfl, trivial⟩) ?_
  intro i hi
  dsimp only at hi ⊢
  have hcl := colOf_len (t.Rows.take i) c
  rw [List.length_take] at hcl
  refine k2 ?_
  refine c_region ?_; refine l_neu (n_lss rfl rfl) rfl ?_; refine l_nil ?_
  refine k1 ?_; refine k2 ?_
  refine c_cond rfl (fun ht => ?_) (fun ht => ?_)
  · have hlt : i < t.Rows.length := by have := of_decide_eq_true ht; omega
    have hv : t.Rows[i]? = some t.Rows[i] := by simp [hlt]
    have hst : colOf (t.Rows.take (i + 1)) c = colOf (t.Rows.take i) c ++ (if visB t.Rows[i] c then [t.Rows[i].Text] else []) := by
      unfold colOf
      rw [List.take_succ_eq_append_getElem hlt, List.filter_append, List.map_append]
      cases hv : visB t.Rows[i] c <;> simp [hv]
    refine k5 ?_; refine k1 ?_; refine k2 ?_; refine k3 ?_; refine k2 ?_
    refine c_region ?_; refine l_neu (n_indexAddr rfl (.pure _ _ _ _) rfl (by omega) hv) rfl ?_; refine l_neu (n_loads_eref rfl rfl) rfl ?_; refine l_effv (f_alloc 8 rfl) rfl ?_; refine l_eff (e_store_ref TySz.out rfl rfl rfl rfl rfl rfl) ?_; refine l_nil ?_
    refine k1 ?_; refine k2 ?_
    refine c_region ?_; refine l_neu (n_loads_ref rfl rfl rfl) rfl ?_; refine l_neu (n_move rfl rfl) rfl ?_; refine l_call (wvisible_ok t.Rows[i] c (hr _ (List.getElem_mem hlt))) rfl rfl rfl ?_; rintro _ rfl; refine l_nil ?_
    refine k1 ?_
    refine c_cond rfl (fun ht => ?_) (fun ht => ?_)
    · rw [ht, if_pos rfl] at hst
      skip
      refine c_region ?_; refine l_neu (n_move rfl rfl) rfl ?_; refine l_neu (n_field_ref rfl) rfl ?_; refine l_neu (n_load_ref rfl rfl rfl) rfl ?_; refine l_neu (n_buildSlice (c := strC) (ys := [_]) (asm_cons rfl rfl rfl rfl asm_nil) rfl rfl rfl) rfl ?_; refine l_effv (e_append rfl rfl rfl (.pure _ _ _ _) (by (simp only [List.length_cons, List.length_nil]; omega)) rfl) rfl ?_; refine l_neu (n_assign rfl rfl) rfl ?_; refine l_nil ?_
      refine k4 ?_; refine k1 ?_
      refine c_region ?_; refine l_neu (n_add rfl rfl (by omega)) rfl ?_; refine l_neu (n_move rfl rfl) rfl ?_; refine l_nil ?_
      refine k1 ?_
      refine ⟨i + 1, by omega, by omega, ?_⟩
      rw [hst]
      exact Sees.of ⟨le1 rfl, le1 rfl, le1 rfl, le1 rfl, le1 rfl, le1 rfl, trivial⟩ ⟨rfl, trivial⟩
    · rw [ht, if_neg (by simp), List.append_nil] at hst
      refine k5 ?_; refine k4 ?_; refine k1 ?_
      refine c_region ?_; refine l_neu (n_add rfl rfl (by omega)) rfl ?_; refine l_neu (n_move rfl rfl) rfl ?_; refine l_nil ?_
      refine k1 ?_
      refine ⟨i + 1, by omega, by omega, ?_⟩
      rw [hst]
      exact Sees.of ⟨le1 rfl, le1 rfl, le1 rfl, le1 rfl, le1 rfl, le1 rfl, trivial⟩ ⟨rfl, trivial⟩
  · have hil : i = t.Rows.length := by have := of_decide_eq_false ht; omega
    rw [hil, List.take_length] at hcl ⊢
    have hfl := colOf_flat t.Rows c
    refine k6 ?_; refine k2 ?_
    refine c_region ?_; refine l_neu (n_move rfl rfl) rfl ?_; refine l_call (tjoin_ok (colOf t.Rows c) (by omega) (by omega)) rfl rfl rfl ?_; rintro _ rfl; refine l_neu (n_extract rfl rfl) rfl ?_; refine l_neu (n_extract rfl rfl) rfl ?_; refine l_neu (n_assign rfl rfl) rfl ?_; refine l_neu (n_assign rfl rfl) rfl ?_; refine l_nil ?_
    refine k1 ?_; refine k10 ?_
    exact ret_ret (ret2 rfl rfl rfl rfl rfl) rfl
theorem pColumn_ok (t : Table) (c : Int) (hr : rowsIn t.Rows) (hl : t.Rows.length ≤ 536870911) (hx : textsLen t.Rows ≤ 536870911) : FnOk Tryz.prog 60 [pTable t, pInt c] (fun rs => rs = [pStr (column20 t c).1, pInt (column20 t c).2]) := by
  refine FnOk.intro Tryz.func60 (by decide) rfl rfl rfl rfl ?_
  refine k2 ?_
  refine c_region ?_; refine l_effv (f_box 2 rfl rfl rfl) rfl ?_; refine l_neu (n_assign rfl rfl) rfl ?_; refine l_neu (n_assign rfl rfl) rfl ?_; refine l_nil ?_
  refine k1 ?_; refine k2 ?_; refine k2 ?_
  refine c_region ?_; refine l_neu (n_loads_ref rfl rfl rfl) rfl ?_; refine l_call (wcheck_ok t hr hl (by omega)) rfl rfl rfl ?_; rintro _ rfl; refine l_neu (n_assign rfl rfl) rfl ?_; refine l_nil ?_
  refine k1 ?_; refine k2 ?_
  refine c_region ?_; refine l_neu (n_move rfl rfl) rfl ?_; refine l_neu (n_neq rfl rfl) rfl ?_; refine l_nil ?_
  refine k1 ?_
  refine c_cond rfl (fun ht => ?_) (fun ht => ?_)
  · have h := of_decide_eq_true ht
    refine k2 ?_
    refine c_region ?_; refine l_neu (n_move rfl rfl) rfl ?_; refine l_neu (n_assign rfl rfl) rfl ?_; refine l_neu (n_assign rfl rfl) rfl ?_; refine l_nil ?_
    refine k1 ?_; refine k10 ?_; refine k11 ?_
    exact ret_ret (ret2 rfl rfl rfl rfl rfl) (by rw [column20, if_pos h])
  · have h := of_decide_eq_false ht
    refine k5 ?_; refine k1 ?_; refine k2 ?_; refine k2 ?_
    refine c_region ?_; refine l_neu (n_move rfl rfl) rfl ?_; refine l_neu (n_lss rfl rfl) rfl ?_; refine l_neu (n_move rfl rfl) rfl ?_; refine l_guard rfl rfl rfl rfl (fun hg => by rw [hg]; exact n_move rfl rfl) ?_; refine l_guard rfl rfl rfl rfl (fun hg => by rw [hg]; exact n_field_ref rfl) ?_; refine l_guard rfl rfl rfl rfl (fun hg => by rw [hg]; exact n_load_ref rfl rfl rfl) ?_; refine l_guard rfl rfl rfl rfl (fun hg => by rw [hg]; exact n_geq rfl rfl) ?_; refine l_neu (n_pick_bool rfl (fun h => by first | rfl | (rw [h]; rfl)) (fun h => by first | rfl | (rw [h]; rfl))) rfl ?_; refine l_nil ?_
    refine k1 ?_
    refine c_cond rfl (fun ht => ?_) (fun ht => ?_)
    · have h2 := of_decide_eq_true (or_pick.symm.trans ht)
      refine k2 ?_
      refine c_region ?_; refine l_neu (n_assign rfl rfl) rfl ?_; refine l_neu (n_assign rfl rfl) rfl ?_; refine l_nil ?_
      refine k1 ?_; refine k10 ?_; refine k11 ?_
      exact ret_ret (ret2 rfl rfl rfl rfl rfl) (by rw [column20, if_neg h, if_pos h2])
    · have h2 := of_decide_eq_false (or_pick.symm.trans ht)
      refine k5 ?_; refine k1 ?_; refine k2 ?_
      refine c_region ?_; refine l_neu (n_loads_ref rfl rfl rfl) rfl ?_; refine l_neu (n_move rfl rfl) rfl ?_; refine l_call (pcolumn_ok t c hr hl hx) rfl rfl rfl ?_; rintro _ rfl; refine l_neu (n_extract rfl rfl) rfl ?_; refine l_neu (n_extract rfl rfl) rfl ?_; refine l_neu (n_assign rfl rfl) rfl ?_; refine l_neu (n_assign rfl rfl) rfl ?_; refine l_nil ?_
      refine k1 ?_; refine k10 ?_
      exact ret_ret (ret2 rfl rfl rfl rfl rfl) (by rw [column20, if_neg h, if_neg h2])
end Go.Proofs.YtbiadkkamhpdnaaGreatDoor
namespace Go.Proofs.YtbiadkkamhpdnaaGreatDoor
open Go Go.AL
set_option maxRecDepth 100000
def isBld (ob : Obs) (xs : Str) : Prop := (∃ a, (a = .p (.v (.pointer none)) ∨ a = .ref 700 0) ∧ getO ob 700 = some (.tbx 124 [a, .buf 701 UInt8 1 u8C xs])) ∧ getO ob 701 = some (.spare xs.length 1 5)
abbrev bldObs (ob : Obs) (ys xs : Str) : Obs := (700, .tbx 124 [.ref 700 0, .buf 701 UInt8 1 u8C xs]) :: (701, .spare xs.length 1 5) :: Obs.forget 701 ((700, .tbx 124 [.ref 700 0, .buf 701 UInt8 1 u8C ys]) :: ob)
def ccRen : Go.Shelf.Ren := ⟨fun | 240 => 147 | 276 => 204 | n => n, fun | 72 => 124 | 70 => 122 | 164 => 240 | 37 => 115 | n => n, fun n => n⟩
theorem ccLays : Go.Proofs.Lays.n240 Tryz.prog ccRen := {
  mixed := by kernel_rfl
  f240 := Tryz.func147.trans (congrArg some (by kernel_rfl))
  f276 := Tryz.func204.trans (congrArg some (by kernel_rfl))
  t0 := Tryz.underlying0
  a0 := Tryz.isAgg0
  z0 := Tryz.sizeOf0
  v0 := Tryz.zeroValue0
  t4 := Tryz.underlying4
  a4 := Tryz.isAgg4
  z4 := Tryz.sizeOf4
  v4 := Tryz.zeroValue4
  t9 := Tryz.underlying9
  a9 := Tryz.isAgg9
  z9 := Tryz.sizeOf9
  v9 := Tryz.zeroValue9
  t20 := Tryz.underlying20
  a20 := Tryz.isAgg20
  z20 := Tryz.sizeOf20
  v20 := Tryz.zeroValue20
  t70 := Tryz.underlying122
  a70 := Tryz.isAgg122
  z70 := Tryz.sizeOf122
  v70 := Tryz.zeroValue122
  t72 := Tryz.underlying124
  a72 := Tryz.isAgg124
  z72 := Tryz.sizeOf124
  v72 := Tryz.zeroValue124
  t164 := Tryz.underlying240
  a164 := Tryz.isAgg240
  z164 := Tryz.sizeOf240
  v164 := Tryz.zeroValue240 }
theorem ccX : Builder.X72 Tryz.prog ccRen := {
  sizeBuilder := by kernel_rfl
  liesBuilder := by kernel_rfl }
theorem copyCheck_met {gf : Fr} {ob : Obs} {a t : TC} (hk : getO ob 700 = some (.tbx 124 [a, t])) (ha : a = .p (.v (.pointer none)) ∨ a = .ref 700 0) :
    AL.Met Tryz.prog 147 [.one (.ref 700 0)] gf ob [] (fun rs ob' => rs = [] ∧ ob' = (700, .tbx 124 [.ref 700 0, t]) :: ob) :=
  AL.Met.copyCheck ⟨_, rfl, rfl, rfl⟩ (fun b w h1 h2 h3 => Any.Builder_copyCheck_fresh (ρ := ccRen) ccLays ccX b w h1 h2 h3) (fun b w h => Any.Builder_copyCheck_used (ρ := ccRen) ccLays ccX b w h) hk ha
theorem writeString_met {gf : Fr} {ob : Obs} {xs s : Str} (hb : isBld ob xs) (hlen : xs.length + s.length ≤ 1073741824) :
    AL.Met Tryz.prog 85 [.one (.ref 700 0), .one (.p (.v (.string ⟨s.toArray⟩)))] gf ob [701] (fun rs ob' => rs = [.one (.p (.v (.int .i64 s.length))), .one (.p (.v .nilIface))] ∧ ob' = bldObs ob xs (xs ++ s)) := by
  obtain ⟨⟨a, ha, hk⟩, hk1⟩ := hb
  refine AL.Met.intro Tryz.func85 (by decide) rfl rfl rfl ?_
  refine k2 ?_
  refine c_region ?_; refine l_neu (n_assign rfl rfl) rfl ?_; refine l_neu (n_assign rfl rfl) rfl ?_; refine l_nil ?_
  refine k1 ?_; refine k2 ?_
  refine c_region ?_; refine l_neu (n_move rfl rfl) rfl ?_; refine l_met (copyCheck_met hk ha) rfl rfl rfl ?_; rintro _ _ ⟨rfl, rfl⟩; refine l_nil ?_
  refine k1 ?_; refine k2 ?_
  refine c_region ?_; refine l_neu (n_move rfl rfl) rfl ?_; refine l_neu (n_move rfl rfl) rfl ?_; refine l_neu (n_nilCheck_ref rfl) rfl ?_; refine l_neu (n_field_ref rfl) rfl ?_; refine l_neu (n_load_tref rfl rfl rfl) rfl ?_; refine l_neu (n_move rfl rfl) rfl ?_; refine l_effv (e_append_s TyStr.out rfl hk1 rfl (by first | omega | (simp; omega)) rfl) rfl ?_; refine l_neu (n_nilCheck_ref rfl) rfl ?_; refine l_neu (n_field_ref rfl) rfl ?_; refine l_eff (e_store_tref TySz.out rfl rfl rfl rfl rfl rfl) ?_; refine l_nil ?_
  refine k1 ?_; refine k2 ?_
  refine c_region ?_; refine l_neu (n_move rfl rfl) rfl ?_; refine l_neu (n_len_s rfl) rfl ?_; refine l_neu (n_assign rfl rfl) rfl ?_; refine l_neu (n_assign rfl rfl) rfl ?_; refine l_nil ?_
  refine k1 ?_; refine k10 ?_
  exact met_ret (rets2 rfl rfl rfl) (by repeat (first | exact tail_refl | refine tail_cons rfl ?_ | refine tail_forget _ ?_)) (fun _ _ h => h) ⟨rfl, rfl⟩
theorem writeByte_met {gf : Fr} {ob : Obs} {xs : Str} {c : UInt8} (hb : isBld ob xs) (hlen : xs.length + 1 ≤ 1073741824) :
    AL.Met Tryz.prog 136 [.one (.ref 700 0), .one (.p (.v (.int .u8 c.toNat)))] gf ob [701] (fun rs ob' => rs = [.one (.p (.v .nilIface))] ∧ ob' = bldObs ob xs (xs ++ [c])) := by
  obtain ⟨⟨a, ha, hk⟩, hk1⟩ := hb
  refine AL.Met.intro Tryz.func136 (by decide) rfl rfl rfl ?_
  refine k2 ?_
  refine c_region ?_; refine l_neu (n_assign rfl rfl) rfl ?_; refine l_nil ?_
  refine k1 ?_; refine k2 ?_
  refine c_region ?_; refine l_neu (n_move rfl rfl) rfl ?_; refine l_met (copyCheck_met hk ha) rfl rfl rfl ?_; rintro _ _ ⟨rfl, rfl⟩; refine l_nil ?_
  refine k1 ?_; refine k2 ?_
  refine c_region ?_; refine l_neu (n_move rfl rfl) rfl ?_; refine l_neu (n_move rfl rfl) rfl ?_; refine l_neu (n_nilCheck_ref rfl) rfl ?_; refine l_neu (n_field_ref rfl) rfl ?_; refine l_neu (n_load_tref rfl rfl rfl) rfl ?_; refine l_neu (n_move rfl rfl) rfl ?_; refine l_neu (n_buildSlice (c := u8C) (ys := [c]) (asm_cons rfl rfl rfl rfl asm_nil) rfl rfl rfl) rfl ?_; refine l_effv (e_append rfl hk1 rfl (.pure _ _ _ _) (by (simp; omega)) rfl) rfl ?_; refine l_neu (n_nilCheck_ref rfl) rfl ?_; refine l_neu (n_field_ref rfl) rfl ?_; refine l_eff (e_store_tref TySz.out rfl rfl rfl rfl rfl rfl) ?_; refine l_nil ?_
  refine k1 ?_; refine k2 ?_
  refine c_region ?_; refine l_neu (n_assign rfl rfl) rfl ?_; refine l_nil ?_
  refine k1 ?_; refine k10 ?_
  exact met_ret (rets1 rfl rfl) (by repeat (first | exact tail_refl | refine tail_cons rfl ?_ | refine tail_forget _ ?_)) (fun _ _ h => h) ⟨rfl, rfl⟩
end Go.Proofs.YtbiadkkamhpdnaaGreatDoor
