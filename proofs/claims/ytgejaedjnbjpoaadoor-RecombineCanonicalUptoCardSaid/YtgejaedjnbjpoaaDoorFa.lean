/- Walks of the program's functions. -/
import Derived.Test.YtgejaedjnbjpoaaDoorTy
import Derived.Test.YtgejaedjnbjpoaaDoorFs
import Derived.Test.YtgejaedjnbjpoaaDoorSh
import Derived.Lib.AppendIntMem
import Derived.Test.YtgejaedjnbjpoaaDoorAn
namespace Go.Proofs.YtgejaedjnbjpoaaDoor
open Go Go.AL
set_option maxRecDepth 100000
theorem u64_nonneg (p : Int) : 0 ≤ IntKind.u64.wrap p := by simp [IntKind.wrap, IntKind.signed, IntKind.bits]; omega
end Go.Proofs.YtgejaedjnbjpoaaDoor
namespace Go.Proofs.YtgejaedjnbjpoaaDoor
open Go Go.AL
set_option maxRecDepth 100000
end Go.Proofs.YtgejaedjnbjpoaaDoor
namespace Go.Proofs.YtgejaedjnbjpoaaDoor
open Go Go.AL
set_option maxRecDepth 100000
end Go.Proofs.YtgejaedjnbjpoaaDoor
namespace Go.Proofs.YtgejaedjnbjpoaaDoor
open Go Go.AL
set_option maxRecDepth 100000
theorem u64_in {n : Int} (h : 0 ≤ n ∧ n < 18446744073709551616) : IntKind.u64.wrap n = n := by simp [IntKind.wrap, IntKind.signed, IntKind.bits]; omega
def modOf (a n : Int) : Int := IntKind.u64.wrap a % n
theorem modOf_in (a : Int) {n : Int} (h : 1 ≤ n) : 0 ≤ modOf a n ∧ modOf a n < n := ⟨Int.emod_nonneg _ (by omega), Int.emod_lt_of_pos _ (by omega)⟩
theorem mod_ok (a n : Int) (hn : 1 ≤ n) (hn' : n ≤ 9223372036854775807) : FnOk Tryd.prog 6 [pInt a, pInt n] (fun rs => rs = [pInt (modOf a n)]) := by
  refine FnOk.intro Tryd.func6 (by decide) rfl rfl rfl rfl ?_
  refine k2 ?_
  refine c_region ?_; refine l_neu (n_assign rfl rfl) rfl ?_; refine l_nil ?_
  refine k1 ?_; refine k2 ?_
  have h1 : IntKind.u64.wrap n = n := u64_in (by omega)
  refine c_region ?_; refine l_neu (n_move rfl rfl) rfl ?_; refine l_neu (n_convert rfl) rfl ?_; refine l_neu (n_move rfl rfl) rfl ?_; refine l_neu (n_convert rfl) rfl ?_; refine l_neu (n_rem rfl rfl (by (rw [h1]; omega))) rfl ?_; refine l_neu (n_convert rfl) rfl ?_; refine l_neu (n_assign rfl rfl) rfl ?_; refine l_nil ?_
  refine k1 ?_; refine k10 ?_
  refine ret_ret (ret1 rfl rfl rfl) ?_
  have h2 := u64_nonneg a
  have h3 : (IntKind.u64.wrap a).tmod n = IntKind.u64.wrap a % n := Int.tmod_eq_emod_of_nonneg h2
  have h4 := modOf_in a hn
  unfold modOf at *
  rw [h1, h3, i64_wrap_in ⟨by omega, by omega⟩]
def xor64 (a b : Int) : Int := IntKind.u64.wrap ((BitVec.ofInt IntKind.u64.bits a ^^^ BitVec.ofInt IntKind.u64.bits b).toNat : Int)
def shr64 (a n : Int) : Int := a.fdiv (2 ^ (min n.toNat IntKind.u64.bits))
def at0 (k : Int) : Int := IntKind.u64.wrap (IntKind.u64.wrap (k + 1) * 11400714819323198485)
def at1 (raw : List Int) (k : Int) : Int := if 0 < raw.length then xor64 (at0 k) (IntKind.u64.wrap (raw.getD (k.tmod raw.length).toNat 0)) else at0 k
def at2 (x : Int) : Int := IntKind.u64.wrap (xor64 x (shr64 x 31) * 13787848793156543929)
def atOf (raw : List Int) (k : Int) : Int := IntKind.i64.wrap (shr64 (xor64 (at2 (at1 raw k)) (shr64 (at2 (at1 raw k)) 29)) 1)
theorem at_ok (raw : List Int) (k : Int) (h0 : 0 ≤ k) (h1 : k ≤ 1099511627776) : FnOk Tryd.prog 10 [pInts raw, pInt k] (fun rs => rs = [pInt (atOf raw k)]) := by
  refine FnOk.intro Tryd.func10 (by decide) rfl rfl rfl rfl ?_
  refine c_bound (t := 0) rfl (.pure _ _ _ _) fun hlen => ?_
  refine k2 ?_
  refine c_region ?_; refine l_neu (n_assign rfl rfl) rfl ?_; refine l_nil ?_
  refine k1 ?_; refine k2 ?_
  refine c_region ?_; refine l_neu (n_move rfl rfl) rfl ?_; refine l_neu (n_add rfl rfl (by omega)) rfl ?_; refine l_neu (n_convert rfl) rfl ?_; refine l_neu (n_mul_w rfl rfl) rfl ?_; refine l_neu (n_assign rfl rfl) rfl ?_; refine l_nil ?_
  refine then_normal ?_
  refine c_join [(0, sList Int 1 intC raw), (1, sInt k), (5, sVal (.int .u64 (at1 raw k)))] [] ?_ ?_
  · refine k2 ?_
    refine c_region ?_; refine l_neu (n_move rfl rfl) rfl ?_; refine l_neu (n_len rfl (.pure _ _ _ _)) rfl ?_; refine l_neu (n_gtr rfl rfl) rfl ?_; refine l_nil ?_
    refine k1 ?_
    refine c_cond rfl (fun ht => ?_) (fun ht => ?_)
    · have hpos : 0 < raw.length := by have := of_decide_eq_true ht; omega
      have hm0 : 0 ≤ k.tmod raw.length := Int.tmod_nonneg _ h0
      have hm1 : k.tmod raw.length < raw.length := Int.tmod_lt_of_pos _ (by omega)
      have hv : raw[(k.tmod raw.length).toNat]? = some (raw.getD (k.tmod raw.length).toNat 0) := by
        rw [List.getD_eq_getElem?_getD, List.getElem?_eq_getElem (by omega)]; rfl
      skip
      refine c_region ?_; refine l_neu (n_move rfl rfl) rfl ?_; refine l_neu (n_move rfl rfl) rfl ?_; refine l_neu (n_move rfl rfl) rfl ?_; refine l_neu (n_move rfl rfl) rfl ?_; refine l_neu (n_len rfl (.pure _ _ _ _)) rfl ?_; refine l_neu (n_rem rfl rfl (by omega)) rfl ?_; refine l_neu (n_indexAddr rfl (.pure _ _ _ _) rfl (by omega) hv) rfl ?_; refine l_neu (n_load_eref rfl rfl) rfl ?_; refine l_neu (n_convert rfl) rfl ?_; refine l_neu (n_bits rfl rfl rfl (fun _ => rfl)) rfl ?_; refine l_neu (n_assign rfl rfl) rfl ?_; refine l_nil ?_
      refine k1 ?_
      rw [at1, if_pos hpos]
      exact Sees.of ⟨le1 rfl, le1 rfl, le1 rfl, trivial⟩ trivial
    · have hpos : ¬ 0 < raw.length := by have := of_decide_eq_false ht; omega
      refine k5 ?_; refine k1 ?_
      rw [at1, if_neg hpos]
      exact Sees.of ⟨le1 rfl, le1 rfl, le1 rfl, trivial⟩ trivial
  · refine k2 ?_
    refine c_region ?_; refine l_neu (n_move rfl rfl) rfl ?_; refine l_neu (n_move rfl rfl) rfl ?_; refine l_neu (n_shr rfl rfl (by omega)) rfl ?_; refine l_neu (n_bits rfl rfl rfl (fun _ => rfl)) rfl ?_; refine l_neu (n_mul_w rfl rfl) rfl ?_; refine l_neu (n_assign rfl rfl) rfl ?_; refine l_nil ?_
    refine k1 ?_; refine k2 ?_
    refine c_region ?_; refine l_neu (n_move rfl rfl) rfl ?_; refine l_neu (n_move rfl rfl) rfl ?_; refine l_neu (n_shr rfl rfl (by omega)) rfl ?_; refine l_neu (n_bits rfl rfl rfl (fun _ => rfl)) rfl ?_; refine l_neu (n_shr rfl rfl (by omega)) rfl ?_; refine l_neu (n_convert rfl) rfl ?_; refine l_neu (n_assign rfl rfl) rfl ?_; refine l_nil ?_
    refine k1 ?_; refine k10 ?_
    exact ret_ret (ret1 rfl rfl rfl) rfl
def lineTab : List Str := [[97], [98], [99], [97, 98], [98, 97], [], [97, 97], [98, 32, 97], [120, 43, 121], [92]]
def lineOf (k : Int) : Str := lineTab.getD (modOf k 10).toNat []
theorem lineTab_len : ∀ s ∈ lineTab, s.length ≤ 3 := by decide
theorem lineOf_len (k : Int) : (lineOf k).length ≤ 3 := by
  unfold lineOf
  rw [List.getD_eq_getElem?_getD]
  cases h : lineTab[(modOf k 10).toNat]? with
  | none => simp
  | some s => exact lineTab_len s (List.mem_of_getElem? h)
theorem gline_ok (k : Int) : FnOk Tryd.prog 9 [pInt k] (fun rs => rs = [pStr (lineOf k)]) := by
  refine FnOk.intro Tryd.func9 (by decide) rfl rfl rfl rfl ?_
  refine k2 ?_
  refine c_region ?_; refine l_neu (n_assign rfl rfl) rfl ?_; refine l_nil ?_
  refine k1 ?_; refine k2 ?_
  have hm := modOf_in k (n := 10) (by decide)
  have hv : lineTab[(modOf k 10).toNat]? = some (lineOf k) := by
    unfold lineOf
    rw [List.getD_eq_getElem?_getD, List.getElem?_eq_getElem (show (modOf k 10).toNat < lineTab.length by simp [lineTab]; omega)]; rfl
  refine c_region ?_; refine l_neu (n_buildSlice (c := strC) (ys := lineTab) (asm_cons rfl rfl rfl rfl (asm_cons rfl rfl rfl rfl (asm_cons rfl rfl rfl rfl (asm_cons rfl rfl rfl rfl (asm_cons rfl rfl rfl rfl (asm_cons rfl rfl rfl rfl (asm_cons rfl rfl rfl rfl (asm_cons rfl rfl rfl rfl (asm_cons rfl rfl rfl rfl (asm_cons rfl rfl rfl rfl asm_nil)))))))))) rfl rfl rfl) rfl ?_; refine l_neu (n_move rfl rfl) rfl ?_; refine l_call (mod_ok k 10 (by decide) (by decide)) rfl rfl rfl ?_; rintro _ rfl; refine l_neu (n_indexAddr rfl (.pure _ _ _ _) rfl (by omega) hv) rfl ?_; refine l_neu (n_load_eref rfl rfl) rfl ?_; refine l_neu (n_assign rfl rfl) rfl ?_; refine l_nil ?_
  refine k1 ?_; refine k10 ?_
  exact ret_ret (ret1 rfl rfl rfl) rfl
end Go.Proofs.YtgejaedjnbjpoaaDoor
namespace Go.Proofs.YtgejaedjnbjpoaaDoor
open Go Go.AL
set_option maxRecDepth 100000
end Go.Proofs.YtgejaedjnbjpoaaDoor
namespace Go.Proofs.YtgejaedjnbjpoaaDoor
open Go Go.AL
set_option maxRecDepth 100000
theorem str_size' (s : Str) : (ByteArray.mk s.toArray).size = s.length := by simp [ByteArray.size]
theorem hasSuffix_ok (s p : Str) (hs : s.length ≤ 1099511627776) : FnOk Tryd.prog 68 [pStr s, pStr p] (fun rs => rs = [pBool (Lib.hasSuffix s p)]) :=
  FnOk.ofPlain (xs := [.string ⟨s.toArray⟩, .string ⟨p.toArray⟩]) ⟨_, rfl, rfl, rfl⟩ rfl fun w => by simpa using Tryd.strings_HasSuffix ⟨s.toArray⟩ ⟨p.toArray⟩ w (by rw [str_size']; omega)
theorem trimSuffix_ok (s p : Str) (hs : s.length ≤ 1099511627776) : FnOk Tryd.prog 32 [pStr s, pStr p] (fun rs => rs = [pStr (Lib.trimSuffix s p)]) :=
  FnOk.ofPlain (xs := [.string ⟨s.toArray⟩, .string ⟨p.toArray⟩]) ⟨_, rfl, rfl, rfl⟩ rfl fun w => by simpa using Tryd.strings_TrimSuffix ⟨s.toArray⟩ ⟨p.toArray⟩ w (by rw [str_size']; omega)
theorem contains1_ok (s : Str) (c : UInt8) : FnOk Tryd.prog 74 [pStr s, pStr [c]] (fun rs => rs = [pBool (decide (0 ≤ Lib.indexByte s c))]) :=
  FnOk.ofPlain (xs := [.string ⟨s.toArray⟩, .string ⟨#[c]⟩]) ⟨_, rfl, rfl, rfl⟩ rfl fun w => by simpa using Tryd.strings_Contains_one ⟨s.toArray⟩ c w
theorem tended_ok (s : Str) (hs : s.length ≤ 1099511627776) : FnOk Tryd.prog 43 [pStr s] (fun rs => rs = [pBool (ended s)]) := by
  refine FnOk.intro Tryd.func43 (by decide) rfl rfl rfl rfl ?_
  refine k2 ?_
  refine c_region ?_; refine l_neu (n_assign rfl rfl) rfl ?_; refine l_nil ?_
  refine k1 ?_; refine k2 ?_
  refine c_region ?_; refine l_neu (n_move rfl rfl) rfl ?_; refine l_call (hasSuffix_ok s [10] hs) rfl rfl rfl ?_; rintro _ rfl; refine l_neu (n_assign rfl rfl) rfl ?_; refine l_nil ?_
  rw [hasSuffix_lf]
  refine k1 ?_; refine k10 ?_
  exact ret_ret (ret1 rfl rfl rfl) rfl
theorem tbare_ok (s : Str) (hs : s.length ≤ 1099511627776) : FnOk Tryd.prog 75 [pStr s] (fun rs => rs = [pStr (bareOf s)]) := by
  refine FnOk.intro Tryd.func75 (by decide) rfl rfl rfl rfl ?_
  refine k2 ?_
  refine c_region ?_; refine l_neu (n_assign rfl rfl) rfl ?_; refine l_nil ?_
  refine k1 ?_; refine k2 ?_
  refine c_region ?_; refine l_neu (n_move rfl rfl) rfl ?_; refine l_call (trimSuffix_ok s [10] hs) rfl rfl rfl ?_; rintro _ rfl; refine l_neu (n_assign rfl rfl) rfl ?_; refine l_nil ?_
  rw [trimSuffix_lf]
  refine k1 ?_; refine k10 ?_
  exact ret_ret (ret1 rfl rfl rfl) rfl
theorem wvisible_ok (r : Row) (c : Int) (hr : 0 ≤ r.Marks ∧ r.Marks < 4294967296) : FnOk Tryd.prog 64 [pRow r, pInt c] (fun rs => rs = [pBool (visB r c)]) := by
  refine FnOk.intro Tryd.func64 (by decide) rfl rfl rfl rfl ?_
  refine k2 ?_
  refine c_region ?_; refine l_effv (f_box 2 rfl rfl rfl) rfl ?_; refine l_neu (n_assign rfl rfl) rfl ?_; refine l_nil ?_
  refine k1 ?_; refine k2 ?_; refine k2 ?_
  refine c_region ?_; refine l_neu (n_move rfl rfl) rfl ?_; refine l_neu (n_lss rfl rfl) rfl ?_; refine l_neu (n_move rfl rfl) rfl ?_; refine l_guard rfl rfl rfl rfl (fun hg => by rw [hg]; exact n_move rfl rfl) ?_; refine l_guard rfl rfl rfl rfl (fun hg => by rw [hg]; exact n_geq rfl rfl) ?_; refine l_neu (n_pick_bool rfl (fun h => by first | rfl | (rw [h]; rfl)) (fun h => by first | rfl | (rw [h]; rfl))) rfl ?_; refine l_nil ?_
  refine k1 ?_
  refine c_cond rfl (fun ht => ?_) (fun ht => ?_)
  · have h := of_decide_eq_true (or_pick.symm.trans ht)
    refine k2 ?_
    refine c_region ?_; refine l_neu (n_assign rfl rfl) rfl ?_; refine l_nil ?_
    refine k1 ?_; refine k10 ?_; refine k11 ?_
    exact ret_ret (ret1 rfl rfl rfl) (by rw [visB, if_neg (by omega), if_pos (by omega)])
  · have h := of_decide_eq_false (or_pick.symm.trans ht)
    refine k5 ?_; refine k1 ?_; refine k2 ?_; refine k2 ?_
    refine c_region ?_; refine l_neu (n_move rfl rfl) rfl ?_; refine l_neu (n_lss rfl rfl) rfl ?_; refine l_nil ?_
    refine k1 ?_
    refine c_cond rfl (fun ht => ?_) (fun ht => ?_)
    · have h2 := of_decide_eq_true ht
      refine k2 ?_
      refine c_region ?_; refine l_neu (n_field_ref rfl) rfl ?_; refine l_neu (n_load_ref rfl rfl rfl) rfl ?_; refine l_neu (n_not rfl) rfl ?_; refine l_neu (n_assign rfl rfl) rfl ?_; refine l_nil ?_
      refine k1 ?_; refine k10 ?_; refine k11 ?_
      exact ret_ret (ret1 rfl rfl rfl) (by rw [visB, if_pos (by omega)])
    · have h2 := of_decide_eq_false ht
      refine k5 ?_; refine k1 ?_; refine k2 ?_
      refine c_region_draw (by kernel_rfl) (by kernel_rfl) ?_; refine d_neu (n_field_ref rfl) rfl rfl ?_; refine d_neu (n_load_ref rfl rfl rfl) rfl rfl ?_; refine d_neu (n_field_ref rfl) rfl rfl ?_; refine d_neu (n_load_ref rfl rfl rfl) rfl rfl ?_; refine d_neu (n_move rfl rfl) rfl rfl ?_; refine d_neu (n_shr rfl rfl (by omega)) rfl rfl ?_; refine d_neu (n_bits rfl rfl rfl (fun _ => rfl)) rfl rfl ?_; refine d_neu (n_eql rfl rfl) rfl rfl ?_; refine d_neu (n_eql_b rfl rfl TyBool.out) rfl rfl ?_; refine d_neu (n_assign rfl rfl) rfl rfl ?_; refine d_nil ?_
      refine k1 ?_; refine k10 ?_
      refine ret_ret (ret1 rfl rfl rfl) ?_
      have h3 : 0 ≤ r.Marks / 2 ^ c.toNat := Int.ediv_nonneg hr.1 (Int.pow_nonneg (by decide))
      have h4 : r.Marks / 2 ^ c.toNat ≤ r.Marks := Int.ediv_le_self _ hr.1
      rw [visB, if_neg (by omega), if_neg (by omega), shr32 r.Marks c (by omega), and1_u32 _ (by omega), Bool.beq_comm]
      rfl
theorem wmarked_ok (r : Row) (n : Int) (hn : 1 ≤ n ∧ n ≤ 32) (hr : 0 ≤ r.Marks ∧ r.Marks < 4294967296) : FnOk Tryd.prog 54 [pRow r, pInt n] (fun rs => rs = [pBool (markOk n.toNat r)]) := by
  refine FnOk.intro Tryd.func54 (by decide) rfl rfl rfl rfl ?_
  refine k2 ?_
  refine c_region ?_; refine l_effv (f_box 2 rfl rfl rfl) rfl ?_; refine l_neu (n_assign rfl rfl) rfl ?_; refine l_nil ?_
  refine k1 ?_; refine k2 ?_
  refine c_region ?_; refine l_neu (n_field_ref rfl) rfl ?_; refine l_neu (n_load_ref rfl rfl rfl) rfl ?_; refine l_neu (n_shr rfl rfl (by omega)) rfl ?_; refine l_neu (n_move rfl rfl) rfl ?_; refine l_neu (n_sub rfl rfl (by omega)) rfl ?_; refine l_neu (n_shr rfl rfl (by omega)) rfl ?_; refine l_neu (n_eql rfl rfl) rfl ?_; refine l_neu (n_move rfl rfl) rfl ?_; refine l_guard rfl rfl rfl rfl (fun hg => by rw [hg]; exact n_field_ref rfl) ?_; refine l_guard rfl rfl rfl rfl (fun hg => by rw [hg]; exact n_load_ref rfl rfl rfl) ?_; refine l_guard rfl rfl rfl rfl (fun hg => by rw [hg]; exact n_not rfl) ?_; refine l_guard rfl rfl rfl rfl (fun hg => by rw [hg]; exact n_move rfl rfl) ?_; refine l_guardW rfl rfl rfl (.gd (.val _)) rfl (fun hg => by obtain ⟨hg1, hg2⟩ := gd_and hg; (try rw [hg1]); (try rw [hg2]); exact n_field_ref rfl) ?_; refine l_guardW rfl rfl rfl (.gd (.val _)) rfl (fun hg => by obtain ⟨hg1, hg2⟩ := gd_and hg; (try rw [hg1]); (try rw [hg2]); exact n_load_ref rfl rfl rfl) ?_; refine l_guardW rfl rfl rfl (.gd (.val _)) rfl (fun hg => by obtain ⟨hg1, hg2⟩ := gd_and hg; (try rw [hg1]); (try rw [hg2]); exact n_neq rfl rfl) ?_; refine l_guard rfl rfl rfl rfl (fun hg => by rw [hg]; exact n_pick_bool rfl (fun h => by first | rfl | (rw [h]; rfl)) (fun h => by first | rfl | (rw [h]; rfl))) ?_; refine l_neu (n_pick_bool rfl (fun h => by first | rfl | (rw [h]; rfl)) (fun h => by first | rfl | (rw [h]; rfl))) rfl ?_; refine l_neu (n_assign rfl rfl) rfl ?_; refine l_nil ?_
  refine k1 ?_; refine k10 ?_
  refine ret_ret (ret1 rfl rfl rfl) ?_
  have h0 : 0 ≤ r.Marks / 2 ^ n.toNat := Int.ediv_nonneg hr.1 (Int.pow_nonneg (by decide))
  have e1 : r.Marks.fdiv (2 ^ (min (1 : Int).toNat IntKind.u32.bits)) = r.Marks / 2 := by
    rw [shr32 r.Marks 1 (by omega)]; rfl
  have e2 : (r.Marks / 2).fdiv (2 ^ (min (n - 1).toNat IntKind.u32.bits)) = r.Marks / 2 ^ n.toNat := by
    rw [shr32 (r.Marks / 2) (n - 1) (by omega), Int.ediv_ediv_of_nonneg (by decide)]
    have : n.toNat = (n - 1).toNat + 1 := by omega
    rw [this, Int.pow_succ, Int.mul_comm]
  have e3 : (if decide ((r.Marks.fdiv (2 ^ (min (1 : Int).toNat IntKind.u32.bits))).fdiv (2 ^ (min (n - 1).toNat IntKind.u32.bits)) = 0) = true then (if (!r.Lost) = true then true else decide (r.Marks ≠ 0)) else false) = markOk n.toNat r := by
    rw [e1, e2, markOk]
    cases r.Lost <;> by_cases hz : r.Marks / 2 ^ n.toNat = 0 <;> by_cases hy : r.Marks = 0 <;> simp [hz, hy]
  rw [← e3]
theorem wsingle_ok (r : Row) (hs : r.Text.length ≤ 1099511627776) : FnOk Tryd.prog 56 [pRow r] (fun rs => rs = [pBool (lineOk r.Text)]) := by
  refine FnOk.intro Tryd.func56 (by decide) rfl rfl rfl rfl ?_
  refine k2 ?_
  refine c_region ?_; refine l_effv (f_box 1 rfl rfl rfl) rfl ?_; refine l_neu (n_assign rfl rfl) rfl ?_; refine l_nil ?_
  refine k1 ?_; refine k2 ?_
  refine c_region ?_; refine l_neu (n_field_ref rfl) rfl ?_; refine l_neu (n_load_ref rfl rfl rfl) rfl ?_; refine l_neu (n_neq_s rfl rfl) rfl ?_; refine l_neu (n_move rfl rfl) rfl ?_; refine l_guard rfl rfl rfl rfl (fun hg => by rw [hg]; exact n_field_ref rfl) ?_; refine l_guard rfl rfl rfl rfl (fun hg => by rw [hg]; exact n_load_ref rfl rfl rfl) ?_; refine l_guard rfl rfl rfl rfl (fun hg => by have hq := hg; (try simp at hq); rw [hg]; exact n_call1 (tbare_ok r.Text hs) rfl rfl) ?_; refine l_guard rfl rfl rfl rfl (fun hg => by have hq := hg; (try simp at hq); rw [hg]; exact n_call1 (contains1_ok (bareOf r.Text) 10) rfl rfl) ?_; refine l_guard rfl rfl rfl rfl (fun hg => by rw [hg]; exact n_not rfl) ?_; refine l_neu (n_pick_bool rfl (fun h => by first | rfl | (rw [h]; rfl)) (fun h => by first | rfl | (rw [h]; rfl))) rfl ?_; refine l_neu (n_assign rfl rfl) rfl ?_; refine l_nil ?_
  refine k1 ?_; refine k10 ?_
  refine ret_ret (ret1 rfl rfl rfl) ?_
  rw [← single_eq]
theorem wadd_ok (r : Row) (res : Bool) (par : Int) (hs : r.Text.length ≤ 1099511627776) :
    FnIo Tryd.prog 57 [pRow r] [.v (.bool res), .v (.int .u32 par)] (fun rs cs => rs = [pBool (addOk res par r)] ∧ cs = [.v (.bool (addRes res r)), .v (.int .u32 (addPar par r))]) := by
  refine FnIo.intro Tryd.func57 (by decide) rfl rfl rfl rfl ?_
  refine k2 ?_
  refine c_region ?_; refine l_effv (f_box 3 rfl rfl rfl) rfl ?_; refine l_neu (n_assign rfl rfl) rfl ?_; refine l_nil ?_
  refine k1 ?_; refine k2 ?_
  refine c_region ?_; refine l_neu (n_field_ref rfl) rfl ?_; refine l_neu (n_load_ref rfl rfl rfl) rfl ?_; refine l_neu (n_assign rfl rfl) rfl ?_; refine l_nil ?_
  refine then_normal ?_
  refine c_join [(3, .s (.one (.ref 3 0))), (0, .s (.one (.ref self 0))), (5, sVal (.int .u32 (inOf r)))] [(3, .box (pRow r).s1.cells), (self, .box [.p (.v (.bool res)), .p (.v (.int .u32 par))])] ?_ ?_
  · refine k2 ?_
    refine c_region ?_; refine l_neu (n_field_ref rfl) rfl ?_; refine l_neu (n_load_ref rfl rfl rfl) rfl ?_; refine l_neu (n_not rfl) rfl ?_; refine l_nil ?_
    refine k1 ?_
    refine c_cond rfl (fun ht => ?_) (fun ht => ?_)
    · have h : r.Lost = false := by simpa using ht
      skip
      refine c_region ?_; refine l_neu (n_move rfl rfl) rfl ?_; refine l_neu (n_compl rfl rfl (fun _ => rfl)) rfl ?_; refine l_neu (n_assign rfl rfl) rfl ?_; refine l_nil ?_
      refine k1 ?_
      rw [inOf, if_neg (by rw [h]; simp)]
      exact Sees.of ⟨le1 rfl, le1 rfl, le1 rfl, trivial⟩ ⟨rfl, rfl, trivial⟩
    · have h : r.Lost = true := by simpa using ht
      refine k5 ?_; refine k1 ?_
      rw [inOf, if_pos h]
      exact Sees.of ⟨le1 rfl, le1 rfl, le1 rfl, trivial⟩ ⟨rfl, rfl, trivial⟩
  refine k2 ?_
  refine c_region ?_; refine l_neu (n_move rfl rfl) rfl ?_; refine l_neu (n_nilCheck_ref rfl) rfl ?_; refine l_neu (n_field_ref rfl) rfl ?_; refine l_neu (n_load_ref rfl rfl rfl) rfl ?_; refine l_neu (n_move rfl rfl) rfl ?_; refine l_neu (n_bits rfl rfl rfl (fun _ => rfl)) rfl ?_; refine l_neu (n_eql rfl rfl) rfl ?_; refine l_neu (n_move rfl rfl) rfl ?_; refine l_guard rfl rfl rfl rfl (fun hg => by rw [hg]; exact n_field_ref rfl) ?_; refine l_guard rfl rfl rfl rfl (fun hg => by rw [hg]; exact n_load_ref rfl rfl rfl) ?_; refine l_guard rfl rfl rfl rfl (fun hg => by rw [hg]; exact n_move rfl rfl) ?_; refine l_guardW rfl rfl rfl (.gd (.val _)) rfl (fun hg => by obtain ⟨hg1, hg2⟩ := gd_and hg; (try rw [hg1]); (try rw [hg2]); exact n_move rfl rfl) ?_; refine l_guardW rfl rfl rfl (.gd (.val _)) rfl (fun hg => by obtain ⟨hg1, hg2⟩ := gd_and hg; (try rw [hg1]); (try rw [hg2]); exact n_nilCheck_ref rfl) ?_; refine l_guardW rfl rfl rfl (.gd (.val _)) rfl (fun hg => by obtain ⟨hg1, hg2⟩ := gd_and hg; (try rw [hg1]); (try rw [hg2]); exact n_field_ref rfl) ?_; refine l_guardW rfl rfl rfl (.gd (.val _)) rfl (fun hg => by obtain ⟨hg1, hg2⟩ := gd_and hg; (try rw [hg1]); (try rw [hg2]); exact n_load_ref rfl rfl rfl) ?_; refine l_guardW rfl rfl rfl (.gd (.val _)) rfl (fun hg => by obtain ⟨hg1, hg2⟩ := gd_and hg; (try rw [hg1]); (try rw [hg2]); exact n_not rfl) ?_; refine l_guard rfl rfl rfl rfl (fun hg => by rw [hg]; exact n_pick_bool rfl (fun h => by first | rfl | (rw [h]; rfl)) (fun h => by first | rfl | (rw [h]; rfl))) ?_; refine l_neu (n_pick_bool rfl (fun h => by first | rfl | (rw [h]; rfl)) (fun h => by first | rfl | (rw [h]; rfl))) rfl ?_; refine l_neu (n_assign rfl rfl) rfl ?_; refine l_nil ?_
  refine k1 ?_; refine k2 ?_; refine k2 ?_
  refine c_region ?_; refine l_neu (n_field_ref rfl) rfl ?_; refine l_neu (n_load_ref rfl rfl rfl) rfl ?_; refine l_call (tended_ok r.Text hs) rfl rfl rfl ?_; rintro _ rfl; refine l_neu (n_not rfl) rfl ?_; refine l_nil ?_
  have hok : (if decide (and32 par (inOf r) = 0) = true then (if r.Lost = true then true else !res) else false) = addOk res par r := by
    rw [addOk]
    cases r.Lost <;> cases res <;> by_cases h : and32 par (inOf r) = 0 <;> simp [h]
  refine k1 ?_
  refine c_cond rfl (fun ht => ?_) (fun ht => ?_)
  · have h : ended r.Text = false := by simpa using ht
    refine k2 ?_
    refine c_region ?_; refine l_neu (n_move rfl rfl) rfl ?_; refine l_neu (n_nilCheck_ref rfl) rfl ?_; refine l_neu (n_field_ref rfl) rfl ?_; refine l_neu (n_load_ref rfl rfl rfl) rfl ?_; refine l_neu (n_move rfl rfl) rfl ?_; refine l_neu (n_bits rfl rfl rfl (fun _ => rfl)) rfl ?_; refine l_neu (n_nilCheck_ref rfl) rfl ?_; refine l_neu (n_field_ref rfl) rfl ?_; refine l_eff (e_store_ref TySz.out rfl rfl rfl rfl rfl rfl) ?_; refine l_nil ?_
    refine k1 ?_
    refine c_region ?_; refine l_neu (n_move rfl rfl) rfl ?_; refine l_neu (n_move rfl rfl) rfl ?_; refine l_neu (n_nilCheck_ref rfl) rfl ?_; refine l_neu (n_field_ref rfl) rfl ?_; refine l_neu (n_load_ref rfl rfl rfl) rfl ?_; refine l_neu (n_move rfl rfl) rfl ?_; refine l_guard rfl rfl rfl rfl (fun hg => by rw [hg]; exact n_field_ref rfl) ?_; refine l_guard rfl rfl rfl rfl (fun hg => by rw [hg]; exact n_load_ref rfl rfl rfl) ?_; refine l_guard rfl rfl rfl rfl (fun hg => by rw [hg]; exact n_not rfl) ?_; refine l_neu (n_pick_bool rfl (fun h => by first | rfl | (rw [h]; rfl)) (fun h => by first | rfl | (rw [h]; rfl))) rfl ?_; refine l_neu (n_nilCheck_ref rfl) rfl ?_; refine l_neu (n_field_ref rfl) rfl ?_; refine l_eff (e_store_ref TySz.out rfl rfl rfl rfl rfl rfl) ?_; refine l_nil ?_
    refine k1 ?_; refine k2 ?_
    refine c_region ?_; refine l_neu (n_move rfl rfl) rfl ?_; refine l_neu (n_assign rfl rfl) rfl ?_; refine l_nil ?_
    refine k1 ?_; refine k10 ?_
    refine io_ret (ret1 rfl rfl rfl) rfl rfl ⟨by rw [← hok]; rfl, ?_⟩
    have ea : addRes res r = (res || !r.Lost) := by rw [addRes, h]; rfl
    have ep : addPar par r = orBit par (inOf r) := by rw [addPar, h]; rfl
    rw [ea, ep]
    cases res <;> rfl
  · have h : ended r.Text = true := by simpa using ht
    refine k5 ?_; refine k1 ?_; refine k2 ?_
    refine c_region ?_; refine l_neu (n_move rfl rfl) rfl ?_; refine l_neu (n_assign rfl rfl) rfl ?_; refine l_nil ?_
    refine k1 ?_; refine k10 ?_
    exact io_ret (ret1 rfl rfl rfl) rfl rfl ⟨by rw [← hok]; rfl, by rw [addRes, addPar, if_pos h, if_pos h]⟩
end Go.Proofs.YtgejaedjnbjpoaaDoor
namespace Go.Proofs.YtgejaedjnbjpoaaDoor
open Go Go.AL
set_option maxRecDepth 100000
def isBld (ob : Obs) (xs : Str) : Prop := (∃ a, (a = .p (.v (.pointer none)) ∨ a = .ref 700 0) ∧ getO ob 700 = some (.tbx 62 [a, .buf 701 UInt8 1 u8C xs])) ∧ getO ob 701 = some (.spare xs.length 1 5)
abbrev bldObs (ob : Obs) (ys xs : Str) : Obs := (700, .tbx 62 [.ref 700 0, .buf 701 UInt8 1 u8C xs]) :: (701, .spare xs.length 1 5) :: Obs.forget 701 ((700, .tbx 62 [.ref 700 0, .buf 701 UInt8 1 u8C ys]) :: ob)
def ccRen : Go.Shelf.Ren := ⟨fun | 240 => 37 | 276 => 59 | n => n, fun | 72 => 62 | 70 => 60 | 164 => 104 | 37 => 44 | n => n, fun n => n⟩
theorem ccLays : Go.Proofs.Lays.n240 Tryd.prog ccRen := {
  mixed := by kernel_rfl
  f240 := Tryd.func37.trans (congrArg some (by kernel_rfl))
  f276 := Tryd.func59.trans (congrArg some (by kernel_rfl))
  t0 := Tryd.underlying0
  a0 := Tryd.isAgg0
  z0 := Tryd.sizeOf0
  v0 := Tryd.zeroValue0
  t4 := Tryd.underlying4
  a4 := Tryd.isAgg4
  z4 := Tryd.sizeOf4
  v4 := Tryd.zeroValue4
  t9 := Tryd.underlying9
  a9 := Tryd.isAgg9
  z9 := Tryd.sizeOf9
  v9 := Tryd.zeroValue9
  t20 := Tryd.underlying20
  a20 := Tryd.isAgg20
  z20 := Tryd.sizeOf20
  v20 := Tryd.zeroValue20
  t70 := Tryd.underlying60
  a70 := Tryd.isAgg60
  z70 := Tryd.sizeOf60
  v70 := Tryd.zeroValue60
  t72 := Tryd.underlying62
  a72 := Tryd.isAgg62
  z72 := Tryd.sizeOf62
  v72 := Tryd.zeroValue62
  t164 := Tryd.underlying104
  a164 := Tryd.isAgg104
  z164 := Tryd.sizeOf104
  v164 := Tryd.zeroValue104 }
theorem ccX : Builder.X72 Tryd.prog ccRen := {
  sizeBuilder := by kernel_rfl
  liesBuilder := by kernel_rfl }
theorem copyCheck_met {gf : Fr} {ob : Obs} {a t : TC} (hk : getO ob 700 = some (.tbx 62 [a, t])) (ha : a = .p (.v (.pointer none)) ∨ a = .ref 700 0) :
    AL.Met Tryd.prog 37 [.one (.ref 700 0)] gf ob [] (fun rs ob' => rs = [] ∧ ob' = (700, .tbx 62 [.ref 700 0, t]) :: ob) :=
  AL.Met.copyCheck ⟨_, rfl, rfl, rfl⟩ (fun b w h1 h2 h3 => Any.Builder_copyCheck_fresh (ρ := ccRen) ccLays ccX b w h1 h2 h3) (fun b w h => Any.Builder_copyCheck_used (ρ := ccRen) ccLays ccX b w h) hk ha
theorem writeString_met {gf : Fr} {ob : Obs} {xs s : Str} (hb : isBld ob xs) (hlen : xs.length + s.length ≤ 1073741824) :
    AL.Met Tryd.prog 20 [.one (.ref 700 0), .one (.p (.v (.string ⟨s.toArray⟩)))] gf ob [701] (fun rs ob' => rs = [.one (.p (.v (.int .i64 s.length))), .one (.p (.v .nilIface))] ∧ ob' = bldObs ob xs (xs ++ s)) := by
  obtain ⟨⟨a, ha, hk⟩, hk1⟩ := hb
  refine AL.Met.intro Tryd.func20 (by decide) rfl rfl rfl ?_
  refine k2 ?_
  refine c_region ?_; refine l_neu (n_assign rfl rfl) rfl ?_; refine l_neu (n_assign rfl rfl) rfl ?_; refine l_nil ?_
  refine k1 ?_; refine k2 ?_
  refine c_region ?_; refine l_neu (n_move rfl rfl) rfl ?_; refine l_met (copyCheck_met hk ha) rfl rfl rfl ?_; rintro _ _ ⟨rfl, rfl⟩; refine l_nil ?_
  refine k1 ?_; refine k2 ?_
  refine c_region ?_; refine l_neu (n_move rfl rfl) rfl ?_; refine l_neu (n_move rfl rfl) rfl ?_; refine l_neu (n_nilCheck_ref rfl) rfl ?_; refine l_neu (n_field_ref rfl) rfl ?_; refine l_neu (n_load_tref rfl rfl rfl) rfl ?_; refine l_neu (n_move rfl rfl) rfl ?_; refine l_effv (e_append_s TyStr.out rfl hk1 rfl (by first | omega | (simp; omega)) rfl) rfl ?_; refine l_neu (n_nilCheck_ref rfl) rfl ?_; refine l_neu (n_field_ref rfl) rfl ?_; refine l_eff (e_store_tref TySz.out rfl rfl rfl rfl rfl rfl) ?_; refine l_nil ?_
  refine k1 ?_; refine k2 ?_
  refine c_region ?_; refine l_neu (n_move rfl rfl) rfl ?_; refine l_neu (n_len_s rfl) rfl ?_; refine l_neu (n_assign rfl rfl) rfl ?_; refine l_neu (n_assign rfl rfl) rfl ?_; refine l_nil ?_
  refine k1 ?_; refine k10 ?_
  exact met_ret (rets2 rfl rfl rfl) (by repeat (first | exact tail_refl | refine tail_cons rfl ?_ | refine tail_forget _ ?_)) (fun _ _ h => h) ⟨rfl, rfl⟩
theorem writeByte_met {gf : Fr} {ob : Obs} {xs : Str} {c : UInt8} (hb : isBld ob xs) (hlen : xs.length + 1 ≤ 1073741824) :
    AL.Met Tryd.prog 61 [.one (.ref 700 0), .one (.p (.v (.int .u8 c.toNat)))] gf ob [701] (fun rs ob' => rs = [.one (.p (.v .nilIface))] ∧ ob' = bldObs ob xs (xs ++ [c])) := by
  obtain ⟨⟨a, ha, hk⟩, hk1⟩ := hb
  refine AL.Met.intro Tryd.func61 (by decide) rfl rfl rfl ?_
  refine k2 ?_
  refine c_region ?_; refine l_neu (n_assign rfl rfl) rfl ?_; refine l_nil ?_
  refine k1 ?_; refine k2 ?_
  refine c_region ?_; refine l_neu (n_move rfl rfl) rfl ?_; refine l_met (copyCheck_met hk ha) rfl rfl rfl ?_; rintro _ _ ⟨rfl, rfl⟩; refine l_nil ?_
  refine k1 ?_; refine k2 ?_
  refine c_region ?_; refine l_neu (n_move rfl rfl) rfl ?_; refine l_neu (n_move rfl rfl) rfl ?_; refine l_neu (n_nilCheck_ref rfl) rfl ?_; refine l_neu (n_field_ref rfl) rfl ?_; refine l_neu (n_load_tref rfl rfl rfl) rfl ?_; refine l_neu (n_move rfl rfl) rfl ?_; refine l_neu (n_buildSlice (c := u8C) (ys := [c]) (asm_cons rfl rfl rfl rfl asm_nil) rfl rfl rfl) rfl ?_; refine l_effv (e_append rfl hk1 rfl (.pure _ _ _ _) (by (simp; omega)) rfl) rfl ?_; refine l_neu (n_nilCheck_ref rfl) rfl ?_; refine l_neu (n_field_ref rfl) rfl ?_; refine l_eff (e_store_tref TySz.out rfl rfl rfl rfl rfl rfl) ?_; refine l_nil ?_
  refine k1 ?_; refine k2 ?_
  refine c_region ?_; refine l_neu (n_assign rfl rfl) rfl ?_; refine l_nil ?_
  refine k1 ?_; refine k10 ?_
  exact met_ret (rets1 rfl rfl) (by repeat (first | exact tail_refl | refine tail_cons rfl ?_ | refine tail_forget _ ?_)) (fun _ _ h => h) ⟨rfl, rfl⟩
end Go.Proofs.YtgejaedjnbjpoaaDoor
namespace Go.Proofs.YtgejaedjnbjpoaaDoor
open Go Go.AL
set_option maxRecDepth 100000
theorem splain_ok (c : UInt8) : FnOk Tryd.prog 60 [pByte c] (fun rs => rs = [pBool (plainB c)]) := by
  refine FnOk.intro Tryd.func60 (by decide) rfl rfl rfl rfl ?_
  refine k2 ?_
  refine c_region ?_; refine l_neu (n_assign rfl rfl) rfl ?_; refine l_nil ?_
  refine k1 ?_; refine k2 ?_
  refine c_region ?_; refine l_neu (n_move rfl rfl) rfl ?_; refine l_neu (n_geq rfl rfl) rfl ?_; refine l_neu (n_move rfl rfl) rfl ?_; refine l_guard rfl rfl rfl rfl (fun hg => by rw [hg]; exact n_move rfl rfl) ?_; refine l_guard rfl rfl rfl rfl (fun hg => by rw [hg]; exact n_leq rfl rfl) ?_; refine l_neu (n_pick_bool rfl (fun h => by first | rfl | (rw [h]; rfl)) (fun h => by first | rfl | (rw [h]; rfl))) rfl ?_; refine l_neu (n_move rfl rfl) rfl ?_; refine l_guard rfl rfl rfl rfl (fun hg => by rw [hg]; exact n_move rfl rfl) ?_; refine l_guard rfl rfl rfl rfl (fun hg => by rw [hg]; exact n_neq rfl rfl) ?_; refine l_neu (n_pick_bool rfl (fun h => by first | rfl | (rw [h]; rfl)) (fun h => by first | rfl | (rw [h]; rfl))) rfl ?_; refine l_neu (n_move rfl rfl) rfl ?_; refine l_guard rfl rfl rfl rfl (fun hg => by rw [hg]; exact n_move rfl rfl) ?_; refine l_guard rfl rfl rfl rfl (fun hg => by rw [hg]; exact n_neq rfl rfl) ?_; refine l_neu (n_pick_bool rfl (fun h => by first | rfl | (rw [h]; rfl)) (fun h => by first | rfl | (rw [h]; rfl))) rfl ?_; refine l_neu (n_assign rfl rfl) rfl ?_; refine l_nil ?_
  refine k1 ?_; refine k10 ?_
  refine ret_ret (ret1 rfl rfl rfl) ?_
  simp only [and_pick]
  congr 4
  unfold plainB
  congr 1
  simp; omega
end Go.Proofs.YtgejaedjnbjpoaaDoor
namespace Go.Proofs.YtgejaedjnbjpoaaDoor
open Go Go.AL Go.RowKit
set_option maxRecDepth 100000
theorem u8dig (q : Nat) (h : q < 8) : IntKind.u8.wrap (48 + (q : Int)) = ((UInt8.ofNat (48 + q)).toNat : Int) := by
  rw [IntWalk.u8_in _ (by omega)]
  have : (UInt8.ofNat (48 + q)).toNat = 48 + q := by rw [UInt8.toNat_ofNat']; omega
  rw [this]; simp
theorem and7_u8 (x : Nat) (h : x < 256) : IntKind.u8.wrap ((BitVec.ofInt IntKind.u8.bits (x : Int) &&& BitVec.ofInt IntKind.u8.bits 7).toNat : Int) = ((x % 8 : Nat) : Int) := by
  have h1 : (BitVec.ofInt IntKind.u8.bits (x : Int) &&& BitVec.ofInt IntKind.u8.bits 7).toNat = x % 8 := by
    rw [BitVec.toNat_and, BitVec.toNat_ofInt, BitVec.toNat_ofInt]
    have e1 : ((x : Int) % ((2 ^ IntKind.u8.bits : Nat) : Int)).toNat = x := by
      rw [show ((2 ^ IntKind.u8.bits : Nat) : Int) = 256 by rfl]; omega
    have e2 : ((7 : Int) % ((2 ^ IntKind.u8.bits : Nat) : Int)).toNat = 2 ^ 3 - 1 := by rfl
    rw [e1, e2, Nat.and_two_pow_sub_one_eq_mod]
  rw [h1, IntWalk.u8_in _ (by omega)]
theorem shr_u8 (x : Nat) (c : Nat) (h : c ≤ 8) : (x : Int).fdiv (2 ^ min (Int.toNat (c : Int)) IntKind.u8.bits) = ((x / 2 ^ c : Nat) : Int) := by
  rw [shr_eq _ _ IntKind.u8.bits ⟨by omega, by show (c : Int) ≤ 8; omega⟩]
  simp
theorem escaped_ok (c : UInt8) : FnOk Tryd.prog 62 [pByte c] (fun rs => rs = [pStr (escOf c)]) := by
  have hc := c.toNat_lt
  refine FnOk.intro Tryd.func62 (by decide) rfl rfl rfl rfl ?_
  refine k2 ?_
  refine c_region ?_; refine l_neu (n_assign rfl rfl) rfl ?_; refine l_nil ?_
  refine k1 ?_; refine k2 ?_; refine k3 ?_; refine k2 ?_
  refine c_region ?_; refine l_neu (n_move rfl rfl) rfl ?_; refine l_neu (n_eql rfl rfl) rfl ?_; refine l_neu (n_move rfl rfl) rfl ?_; refine l_guard rfl rfl rfl rfl (fun hg => by rw [hg]; exact n_move rfl rfl) ?_; refine l_guard rfl rfl rfl rfl (fun hg => by rw [hg]; exact n_eql rfl rfl) ?_; refine l_neu (n_pick_bool rfl (fun h => by first | rfl | (rw [h]; rfl)) (fun h => by first | rfl | (rw [h]; rfl))) rfl ?_; refine l_neu (n_assign rfl rfl) rfl ?_; refine l_nil ?_
  refine k1 ?_
  refine c_cond rfl (fun ht => ?_) (fun ht => ?_)
  · have h := of_decide_eq_true (or_pick.symm.trans ht)
    refine k2 ?_
    refine c_region ?_; refine l_neu (n_move rfl rfl) rfl ?_; refine l_neu (n_byte_string rfl (by omega)) rfl ?_; refine l_neu (n_add_s rfl rfl (by simp)) rfl ?_; refine l_neu (n_assign rfl rfl) rfl ?_; refine l_nil ?_
    refine k1 ?_; refine k10 ?_; refine k12 ?_; refine k11 ?_
    exact ret_ret (ret1 rfl rfl rfl) (by rw [escOf, if_pos (by omega)]; rfl)
  · have h := of_decide_eq_false (or_pick.symm.trans ht)
    refine k2 ?_
    refine c_region ?_; refine l_neu (n_move rfl rfl) rfl ?_; refine l_neu (n_eql rfl rfl) rfl ?_; refine l_neu (n_assign rfl rfl) rfl ?_; refine l_nil ?_
    refine k1 ?_
    refine c_cond rfl (fun ht => ?_) (fun ht => ?_)
    · have h1 := of_decide_eq_true ht
      refine k2 ?_
      refine c_region ?_; refine l_neu (n_assign rfl rfl) rfl ?_; refine l_nil ?_
      refine k1 ?_; refine k10 ?_; refine k12 ?_; refine k11 ?_
      exact ret_ret (ret1 rfl rfl rfl) (by rw [escOf, if_neg (by omega), if_pos (by omega)])
    · have h1 := of_decide_eq_false ht
      refine k2 ?_
      refine c_region ?_; refine l_neu (n_move rfl rfl) rfl ?_; refine l_neu (n_eql rfl rfl) rfl ?_; refine l_neu (n_assign rfl rfl) rfl ?_; refine l_nil ?_
      refine k1 ?_
      refine c_cond rfl (fun ht => ?_) (fun ht => ?_)
      · have h2 := of_decide_eq_true ht
        refine k2 ?_
        refine c_region ?_; refine l_neu (n_assign rfl rfl) rfl ?_; refine l_nil ?_
        refine k1 ?_; refine k10 ?_; refine k12 ?_; refine k11 ?_
        exact ret_ret (ret1 rfl rfl rfl) (by rw [escOf, if_neg (by omega), if_neg (by omega), if_pos (by omega)])
      · have h2 := of_decide_eq_false ht
        refine k2 ?_
        refine c_region ?_; refine l_neu (n_move rfl rfl) rfl ?_; refine l_neu (n_lss rfl rfl) rfl ?_; refine l_neu (n_move rfl rfl) rfl ?_; refine l_guard rfl rfl rfl rfl (fun hg => by rw [hg]; exact n_move rfl rfl) ?_; refine l_guard rfl rfl rfl rfl (fun hg => by rw [hg]; exact n_gtr rfl rfl) ?_; refine l_neu (n_pick_bool rfl (fun h => by first | rfl | (rw [h]; rfl)) (fun h => by first | rfl | (rw [h]; rfl))) rfl ?_; refine l_neu (n_assign rfl rfl) rfl ?_; refine l_nil ?_
        refine k1 ?_
        refine c_cond rfl (fun ht => ?_) (fun ht => ?_)
        · have h3 := of_decide_eq_true (or_pick.symm.trans ht)
          refine k2 ?_
          have f6 : (c.toNat : Int).fdiv (2 ^ min (Int.toNat 6) IntKind.u8.bits) = ((c.toNat / 64 : Nat) : Int) := shr_u8 c.toNat 6 (by omega)
          have f3 : (c.toNat : Int).fdiv (2 ^ min (Int.toNat 3) IntKind.u8.bits) = ((c.toNat / 8 : Nat) : Int) := shr_u8 c.toNat 3 (by omega)
          have e1 := u8dig (c.toNat / 64) (by omega)
          have e2 := u8dig (c.toNat / 8 % 8) (by omega)
          have e3 := u8dig (c.toNat % 8) (by omega)
          have hol := octOf_bytes c
          refine c_region ?_; refine l_neu (n_move rfl rfl) rfl ?_; refine l_neu (n_shr rfl rfl (by omega)) rfl ?_; refine l_neu (n_add_w rfl rfl) rfl ?_; refine l_neu (n_move rfl rfl) rfl ?_; refine l_neu (n_shr rfl rfl (by omega)) rfl ?_; refine l_neu (n_bits rfl rfl rfl (fun _ => rfl)) rfl ?_; refine l_neu (n_add_w rfl rfl) rfl ?_; refine l_neu (n_move rfl rfl) rfl ?_; refine l_neu (n_bits rfl rfl rfl (fun _ => rfl)) rfl ?_; refine l_neu (n_add_w rfl rfl) rfl ?_; rw [f6, f3, and7_u8 (c.toNat / 8) (by omega), and7_u8 c.toNat (by omega), e1, e2, e3]; refine l_neu (n_buildSlice (c := u8C) (ys := [UInt8.ofNat (48 + c.toNat / 64), UInt8.ofNat (48 + c.toNat / 8 % 8), UInt8.ofNat (48 + c.toNat % 8)]) (asm_cons rfl rfl rfl rfl (asm_cons rfl rfl rfl rfl (asm_cons rfl rfl rfl rfl asm_nil))) rfl rfl rfl) rfl ?_; refine l_neu (n_bytes_string TyStr.out rfl (.pure _ _ _ _)) rfl ?_; refine l_neu (n_add_s rfl rfl (by simp)) rfl ?_; refine l_neu (n_assign rfl rfl) rfl ?_; refine l_nil ?_
          refine k1 ?_; refine k10 ?_; refine k12 ?_; refine k11 ?_
          exact ret_ret (ret1 rfl rfl rfl) (by rw [escOf, if_neg (by omega), if_neg (by omega), if_neg (by omega), if_pos (by omega), hol]; rfl)
        · have h3 := of_decide_eq_false (or_pick.symm.trans ht)
          refine k5 ?_; refine k2 ?_
          refine c_region ?_; refine l_neu (n_move rfl rfl) rfl ?_; refine l_neu (n_byte_string rfl (by omega)) rfl ?_; refine l_neu (n_assign rfl rfl) rfl ?_; refine l_nil ?_
          refine k1 ?_; refine k10 ?_
          exact ret_ret (ret1 rfl rfl rfl) (by rw [escOf, if_neg (by omega), if_neg (by omega), if_neg (by omega), if_neg (by omega)])
theorem itoa_ok (n : Int) (h : 0 ≤ n ∧ n ≤ 2147483647) : FnOk Tryd.prog 63 [pInt n] (fun rs => rs = [pStr (Lib.itoa n)]) :=
  FnOk.ofPlainG (xs := [.int .i64 n]) (r := .string ⟨(Lib.itoa n).toArray⟩) ⟨_, rfl, rfl, rfl⟩ rfl fun w hw =>
    (Tryd.strconv_Itoa n (by omega) (by omega) w (hw.pow10 rfl)).mono fun e w' ⟨he, k, os, hw'⟩ => ⟨he, by subst hw'; exact Lib.below_grow _ _ (Nat.le_refl _) _ _⟩
theorem sformat_ok (n : Int) : FnOk Tryd.prog 39 [pInt n] (fun rs => rs = [pStr (fmtOf n)]) := by
  refine FnOk.intro Tryd.func39 (by decide) rfl rfl rfl rfl ?_
  refine k2 ?_
  refine c_region ?_; refine l_neu (n_assign rfl rfl) rfl ?_; refine l_nil ?_
  refine k1 ?_; refine k2 ?_; refine k2 ?_
  refine c_region ?_; refine l_neu (n_move rfl rfl) rfl ?_; refine l_neu (n_lss rfl rfl) rfl ?_; refine l_neu (n_move rfl rfl) rfl ?_; refine l_guard rfl rfl rfl rfl (fun hg => by rw [hg]; exact n_move rfl rfl) ?_; refine l_guard rfl rfl rfl rfl (fun hg => by rw [hg]; exact n_gtr rfl rfl) ?_; refine l_neu (n_pick_bool rfl (fun h => by first | rfl | (rw [h]; rfl)) (fun h => by first | rfl | (rw [h]; rfl))) rfl ?_; refine l_nil ?_
  refine k1 ?_
  refine c_cond rfl (fun ht => ?_) (fun ht => ?_)
  · have h := of_decide_eq_true (or_pick.symm.trans ht)
    refine k2 ?_
    refine c_region ?_; refine l_neu (n_assign rfl rfl) rfl ?_; refine l_nil ?_
    refine k1 ?_; refine k10 ?_; refine k11 ?_
    exact ret_ret (ret1 rfl rfl rfl) (by rw [fmtOf, if_pos (by omega)])
  · have h := of_decide_eq_false (or_pick.symm.trans ht)
    refine k5 ?_; refine k1 ?_; refine k2 ?_
    refine c_region ?_; refine l_neu (n_move rfl rfl) rfl ?_; refine l_call (itoa_ok n (by omega)) rfl rfl rfl ?_; rintro _ rfl; refine l_neu (n_assign rfl rfl) rfl ?_; refine l_nil ?_
    refine k1 ?_; refine k10 ?_
    exact ret_ret (ret1 rfl rfl rfl) (by rw [fmtOf, if_neg (by omega)])
theorem srange_ok (a n : Int) (ha : -4611686018427387904 ≤ a ∧ a ≤ 4611686018427387904) (hn : -4611686018427387904 ≤ n ∧ n ≤ 4611686018427387904) : FnOk Tryd.prog 42 [pInt a, pInt n] (fun rs => rs = [pStr (rangeOf a n)]) := by
  refine FnOk.intro Tryd.func42 (by decide) rfl rfl rfl rfl ?_
  refine k2 ?_
  refine c_region ?_; refine l_neu (n_assign rfl rfl) rfl ?_; refine l_nil ?_
  refine k1 ?_; refine k2 ?_; refine k2 ?_
  refine c_region ?_; refine l_neu (n_move rfl rfl) rfl ?_; refine l_neu (n_lss rfl rfl) rfl ?_; refine l_neu (n_move rfl rfl) rfl ?_; refine l_guard rfl rfl rfl rfl (fun hg => by rw [hg]; exact n_move rfl rfl) ?_; refine l_guard rfl rfl rfl rfl (fun hg => by rw [hg]; exact n_lss rfl rfl) ?_; refine l_neu (n_pick_bool rfl (fun h => by first | rfl | (rw [h]; rfl)) (fun h => by first | rfl | (rw [h]; rfl))) rfl ?_; refine l_neu (n_move rfl rfl) rfl ?_; refine l_guard rfl rfl rfl rfl (fun hg => by rw [hg]; exact n_move rfl rfl) ?_; refine l_guard rfl rfl rfl rfl (fun hg => by rw [hg]; exact n_gtr rfl rfl) ?_; refine l_neu (n_pick_bool rfl (fun h => by first | rfl | (rw [h]; rfl)) (fun h => by first | rfl | (rw [h]; rfl))) rfl ?_; refine l_neu (n_move rfl rfl) rfl ?_; refine l_guard rfl rfl rfl rfl (fun hg => by rw [hg]; exact n_move rfl rfl) ?_; refine l_guard rfl rfl rfl rfl (fun hg => by rw [hg]; exact n_move rfl rfl) ?_; refine l_guard rfl rfl rfl rfl (fun hg => by rw [hg]; exact n_sub rfl rfl (by (first | omega | (simp at hq; omega)))) ?_; refine l_guard rfl rfl rfl rfl (fun hg => by rw [hg]; exact n_gtr rfl rfl) ?_; refine l_neu (n_pick_bool rfl (fun h => by first | rfl | (rw [h]; rfl)) (fun h => by first | rfl | (rw [h]; rfl))) rfl ?_; refine l_nil ?_
  refine k1 ?_
  have l1 := fmtOf_len a
  have l2 := fmtOf_len (a + 1)
  have l3 := fmtOf_len n
  refine c_cond rfl (fun ht => ?_) (fun ht => ?_)
  · have h := of_decide_eq_true ((by simp only [or_pick] at ht; exact ht) : decide _ = true)
    refine k2 ?_
    refine c_region ?_; refine l_neu (n_assign rfl rfl) rfl ?_; refine l_nil ?_
    refine k1 ?_; refine k10 ?_; refine k11 ?_
    exact ret_ret (ret1 rfl rfl rfl) (by rw [rangeOf, if_pos (by omega)])
  · have h := of_decide_eq_false ((by simp only [or_pick] at ht; exact ht) : decide _ = false)
    refine k5 ?_; refine k1 ?_; refine k2 ?_; refine k2 ?_
    refine c_region ?_; refine l_neu (n_move rfl rfl) rfl ?_; refine l_nil ?_
    refine k1 ?_; refine k3 ?_; refine k2 ?_
    refine c_region ?_; refine l_neu (n_eql rfl rfl) rfl ?_; refine l_neu (n_assign rfl rfl) rfl ?_; refine l_nil ?_
    refine k1 ?_
    refine c_cond rfl (fun ht => ?_) (fun ht => ?_)
    · have h0 := of_decide_eq_true ht
      refine k2 ?_
      refine c_region ?_; refine l_neu (n_move rfl rfl) rfl ?_; refine l_call (sformat_ok a) rfl rfl rfl ?_; rintro _ rfl; refine l_neu (n_add_s rfl rfl (by simp; omega)) rfl ?_; refine l_neu (n_assign rfl rfl) rfl ?_; refine l_nil ?_
      refine k1 ?_; refine k10 ?_; refine k12 ?_; refine k11 ?_
      exact ret_ret (ret1 rfl rfl rfl) (by rw [rangeOf, if_neg (by omega), if_pos h0])
    · have h0 := of_decide_eq_false ht
      refine k2 ?_
      refine c_region ?_; refine l_neu (n_eql rfl rfl) rfl ?_; refine l_neu (n_assign rfl rfl) rfl ?_; refine l_nil ?_
      refine k1 ?_
      refine c_cond rfl (fun ht => ?_) (fun ht => ?_)
      · have h1 := of_decide_eq_true ht
        refine k2 ?_
        refine c_region ?_; refine l_neu (n_move rfl rfl) rfl ?_; refine l_neu (n_add rfl rfl (by omega)) rfl ?_; refine l_call (sformat_ok (a + 1)) rfl rfl rfl ?_; rintro _ rfl; refine l_neu (n_assign rfl rfl) rfl ?_; refine l_nil ?_
        refine k1 ?_; refine k10 ?_; refine k12 ?_; refine k11 ?_
        exact ret_ret (ret1 rfl rfl rfl) (by rw [rangeOf, if_neg (by omega), if_neg h0, if_pos h1])
      · have h1 := of_decide_eq_false ht
        refine k5 ?_; refine k2 ?_
        refine c_region ?_; refine l_neu (n_move rfl rfl) rfl ?_; refine l_neu (n_add rfl rfl (by omega)) rfl ?_; refine l_call (sformat_ok (a + 1)) rfl rfl rfl ?_; rintro _ rfl; refine l_neu (n_add_s rfl rfl (by simp; omega)) rfl ?_; refine l_neu (n_move rfl rfl) rfl ?_; refine l_call (sformat_ok n) rfl rfl rfl ?_; rintro _ rfl; refine l_neu (n_add_s rfl rfl (by simp; omega)) rfl ?_; refine l_neu (n_assign rfl rfl) rfl ?_; refine l_nil ?_
        refine k1 ?_; refine k10 ?_
        exact ret_ret (ret1 rfl rfl rfl) (by rw [rangeOf, if_neg (by omega), if_neg h0, if_neg h1])
theorem bstring_calls (B b : Nat) (l : List UInt8) (w : World) (h : Lib.IsBuilder 62 5 B b (Lib.byteCells l) w) (hBw : B ≤ w.heap.size) :
    Calls Tryd.prog 24 #[.pointer (some ⟨b, 0, none⟩)] w fun e w' => e = .returned (.string ⟨l.toArray⟩) ∧ Below B w w' := Tryd.Builder_String_any B b l w h hBw
theorem squote_ok (s : Str) (hs : s.length ≤ 16777216) : FnOk Tryd.prog 38 [pStr s] (fun rs => rs = [pStr (quoteOf s)]) := by
  refine FnOk.intro Tryd.func38 (by decide) rfl rfl rfl rfl ?_
  refine k2 ?_
  refine c_region ?_; refine l_neu (n_assign rfl rfl) rfl ?_; refine l_nil ?_
  refine k1 ?_; refine k2 ?_
  refine c_region ?_; refine l_neu (n_move rfl rfl) rfl ?_; refine l_neu (n_neq_s rfl rfl) rfl ?_; refine l_neu (n_assign rfl rfl) rfl ?_; refine l_nil ?_
  refine k1 ?_; refine k2 ?_; refine k2 ?_
  refine c_region ?_; refine l_neu (n_move rfl rfl) rfl ?_; refine l_neu (n_len_s rfl) rfl ?_; refine l_neu (n_move rfl rfl) rfl ?_; refine l_nil ?_
  refine k1 ?_; refine k3 ?_
  refine c_while (X := Nat) (fun i => ([(0, sStr s), (3, sVal (.bool (plains s i))), (10, sInt s.length), (11, sInt i)], [])) (fun i => i ≤ s.length) (fun i => s.length - i) 0 (Nat.zero_le _) ?_ ?_
  · rw [plains_zero]
    exact Sees.of ⟨le1 rfl, le1 rfl, le1 rfl, le1 rfl, trivial⟩ trivial
  intro i hi
  dsimp only at hi ⊢
  refine k2 ?_
  refine c_region ?_; refine l_neu (n_lss rfl rfl) rfl ?_; refine l_nil ?_
  refine k1 ?_; refine k2 ?_
  refine c_cond rfl (fun ht => ?_) (fun ht => ?_)
  · have hlt : i < s.length := by have := of_decide_eq_true ht; omega
    have hv : s[i]? = some s[i] := by simp [hlt]
    obtain ⟨c, hc⟩ : ∃ c, c = s[i] := ⟨_, rfl⟩
    have h2 := plains_succ s i hlt
    rw [← hc] at hv h2
    refine k5 ?_; refine k1 ?_; refine k2 ?_; refine k3 ?_; refine k2 ?_
    refine c_region ?_; refine l_neu (n_move rfl rfl) rfl ?_; refine l_neu (n_assign rfl rfl) rfl ?_; refine l_nil ?_
    refine k1 ?_
    refine c_region ?_; refine l_neu (n_move rfl rfl) rfl ?_; refine l_neu (n_move rfl rfl) rfl ?_; refine l_guard rfl rfl rfl rfl (fun hg => by rw [hg]; exact n_move rfl rfl) ?_; refine l_guard rfl rfl rfl rfl (fun hg => by rw [hg]; exact n_move rfl rfl) ?_; refine l_guard rfl rfl rfl rfl (fun hg => by have hq := hg; (try simp at hq); rw [hg]; exact n_index_s rfl rfl (by omega) hv) ?_; refine l_guard rfl rfl rfl rfl (fun hg => by have hq := hg; (try simp at hq); rw [hg]; exact n_call1 (splain_ok c) rfl rfl) ?_; refine l_neu (n_pick_bool rfl (fun h => by first | rfl | (rw [h]; rfl)) (fun h => by first | rfl | (rw [h]; rfl))) rfl ?_; refine l_neu (n_assign rfl rfl) rfl ?_; refine l_nil ?_
    refine k4 ?_; refine k1 ?_
    refine c_region ?_; refine l_neu (n_add rfl rfl (by omega)) rfl ?_; refine l_neu (n_move rfl rfl) rfl ?_; refine l_nil ?_
    refine k1 ?_
    refine ⟨i + 1, hlt, by omega, ?_⟩
    rw [show (if plains s i = true then plainB c else false) = plains s (i + 1) from by rw [h2]; cases plains s i <;> rfl]
    exact Sees.of ⟨le1 rfl, le1 rfl, le1 rfl, le1 rfl, trivial⟩ trivial
  have hi' : i = s.length := by have := of_decide_eq_false ht; omega
  subst hi'
  refine k6 ?_; refine k2 ?_; refine k2 ?_
  refine c_region ?_; refine l_neu (n_move rfl rfl) rfl ?_; refine l_nil ?_
  refine k1 ?_
  refine c_cond rfl (fun ht => ?_) (fun ht => ?_)
  · have h : plains s s.length = true := ht
    refine k2 ?_
    refine c_region ?_; refine l_neu (n_move rfl rfl) rfl ?_; refine l_neu (n_assign rfl rfl) rfl ?_; refine l_nil ?_
    refine k1 ?_; refine k10 ?_; refine k11 ?_
    exact ret_ret (ret1 rfl rfl rfl) (by rw [quoteOf_eq, if_pos h])
  have h : plains s s.length = false := ht
  have hq : quoteOf s = (34 :: escs s s.length) ++ [34] := by rw [quoteOf_eq, h]; rfl
  refine k5 ?_; refine k1 ?_; refine k2 ?_
  refine c_region ?_; refine l_effv (f_allocT 700 rfl) rfl ?_; refine l_nil ?_
  refine k1 ?_; refine k2 ?_
  refine c_sees (Sees.adoptT 701 UInt8 1 u8C 5 (kb := 700) (o := 1) rfl rfl rfl) ?_
  refine c_region ?_; refine l_met (writeByte_met (xs := []) (c := 34) ⟨⟨_, .inl rfl, rfl⟩, rfl⟩ (by simp)) rfl rfl rfl ?_; rintro _ _ ⟨rfl, rfl⟩; refine l_nil ?_
  refine k1 ?_; refine k2 ?_; refine k2 ?_
  refine c_region ?_; refine l_neu (n_move rfl rfl) rfl ?_; refine l_neu (n_len_s rfl) rfl ?_; refine l_neu (n_move rfl rfl) rfl ?_; refine l_nil ?_
  refine k1 ?_; refine k3 ?_
  refine c_while (X := Nat) (fun i => ([(0, sStr s), (5, .s (.one (.ref 700 0))), (26, sInt s.length), (27, sInt i)], [(700, .tbx 62 [.ref 700 0, .buf 701 UInt8 1 u8C (34 :: escs s i)]), (701, .spare (34 :: escs s i).length 1 5)])) (fun i => i ≤ s.length) (fun i => s.length - i) 0 (Nat.zero_le _) (Sees.of ⟨le1 rfl, le1 rfl, le1 rfl, le1 rfl, trivial⟩ ⟨rfl, rfl, trivial⟩) ?_
  intro i hi
  dsimp only at hi ⊢
  have hel := escs_len s i hi
  refine k2 ?_
  refine c_region ?_; refine l_neu (n_lss rfl rfl) rfl ?_; refine l_nil ?_
  refine k1 ?_; refine k2 ?_
  refine c_cond rfl (fun ht => ?_) (fun ht => ?_)
  · have hlt : i < s.length := by have := of_decide_eq_true ht; omega
    have hv : s[i]? = some s[i] := by simp [hlt]
    obtain ⟨c, hc⟩ : ∃ c, c = s[i] := ⟨_, rfl⟩
    have h1 := escs_succ s i hlt
    have h2 := escOf_len c
    rw [← hc] at hv h1
    refine k5 ?_; refine k1 ?_; refine k2 ?_; refine k3 ?_; refine k2 ?_
    refine c_region ?_; refine l_neu (n_move rfl rfl) rfl ?_; refine l_neu (n_assign rfl rfl) rfl ?_; refine l_nil ?_
    refine k1 ?_
    refine c_region ?_; refine l_neu (n_move rfl rfl) rfl ?_; refine l_neu (n_move rfl rfl) rfl ?_; refine l_neu (n_index_s rfl rfl (by omega) hv) rfl ?_; refine l_call (escaped_ok c) rfl rfl rfl ?_; rintro _ rfl; refine l_met (writeString_met (xs := 34 :: escs s i) (s := escOf c) ⟨⟨_, .inr rfl, rfl⟩, rfl⟩ (by simp only [List.length_cons]; omega)) rfl rfl rfl ?_; rintro _ _ ⟨rfl, rfl⟩; refine l_nil ?_
    refine k4 ?_; refine k1 ?_
    refine c_region ?_; refine l_neu (n_add rfl rfl (by omega)) rfl ?_; refine l_neu (n_move rfl rfl) rfl ?_; refine l_nil ?_
    refine k1 ?_
    refine ⟨i + 1, hlt, by omega, ?_⟩
    rw [h1]
    exact Sees.of ⟨le1 rfl, le1 rfl, le1 rfl, le1 rfl, trivial⟩ ⟨rfl, rfl, trivial⟩
  have hi' : i = s.length := by have := of_decide_eq_false ht; omega
  subst hi'
  refine k6 ?_; refine k2 ?_
  refine c_region ?_; refine l_met (writeByte_met (xs := 34 :: escs s s.length) (c := 34) ⟨⟨_, .inr rfl, rfl⟩, rfl⟩ (by simp only [List.length_cons]; omega)) rfl rfl rfl ?_; rintro _ _ ⟨rfl, rfl⟩; refine l_nil ?_
  refine k1 ?_; refine k2 ?_
  refine c_region ?_; refine l_bstring (k := 700) (k' := 701) ⟨_, rfl, rfl, rfl⟩ bstring_calls rfl rfl rfl rfl rfl (.inr rfl) rfl ?_; refine l_neu (n_assign rfl rfl) rfl ?_; refine l_nil ?_
  refine k1 ?_; refine k10 ?_
  exact ret_ret (ret1 rfl rfl rfl) (by rw [hq])
end Go.Proofs.YtgejaedjnbjpoaaDoor
namespace Go.Proofs.YtgejaedjnbjpoaaDoor
open Go Go.AL
set_option maxRecDepth 100000
theorem gD {s : Str} {i : Nat} (h : i < s.length) : s[i]? = some (s.getD i 0) := by simp [h]
def digitAt (s : Str) (i : Nat) : Bool := decide ((i < s.length ∧ 48 ≤ (s.getD i 0).toNat) ∧ (s.getD i 0).toNat ≤ 57)
theorem digitAt_eq (s : Str) (i : Nat) : digitAt s i = match s[i]? with | some c => digitB c | none => false := by
  unfold digitAt digitB
  by_cases h : i < s.length
  · rw [gD h]; simp [h]
  · rw [List.getElem?_eq_none (by omega)]; simp [h]
theorem digs_le (s : Str) (i : Nat) : (digsAt (s.drop i)).length ≤ s.length - i := by
  unfold digsAt
  have := (List.takeWhile_sublist digitB (l := s.drop i)).length_le
  rw [List.length_drop] at this; exact this
theorem takeWhile_at {p : UInt8 → Bool} : ∀ (s : Str) (k : Nat), k ≤ (s.takeWhile p).length → (match s[k]? with | some c => p c | none => false) = decide (k < (s.takeWhile p).length)
  | [], k, h => by simp at h ⊢
  | c :: r, 0, h => by by_cases hc : p c = true <;> simp [List.takeWhile_cons, hc]
  | c :: r, k + 1, h => by
    by_cases hc : p c = true
    · rw [List.takeWhile_cons, if_pos hc, List.length_cons] at h ⊢
      have := takeWhile_at (p := p) r k (by omega)
      rw [List.getElem?_cons_succ, this]; simp
    · rw [List.takeWhile_cons, if_neg hc] at h; simp at h
theorem takeWhile_pre {p : UInt8 → Bool} : ∀ (s : Str) (k : Nat), k < (s.takeWhile p).length → s[k]? = (s.takeWhile p)[k]?
  | [], k, h => by simp at h
  | c :: r, k, h => by
    by_cases hc : p c = true
    · rw [List.takeWhile_cons, if_pos hc] at h ⊢
      cases k with
      | zero => rfl
      | succ k => rw [List.getElem?_cons_succ, List.getElem?_cons_succ]; exact takeWhile_pre (p := p) r k (by simpa using h)
    · rw [List.takeWhile_cons, if_neg hc] at h; simp at h
theorem digit_run (s : Str) (i k : Nat) (h : k ≤ (digsAt (s.drop i)).length) : digitAt s (i + k) = decide (k < (digsAt (s.drop i)).length) := by
  rw [digitAt_eq, ← List.getElem?_drop]
  exact takeWhile_at (s.drop i) k h
theorem digit_get {s : Str} {i k : Nat} (h : k < (digsAt (s.drop i)).length) : s[i + k]? = some ((digsAt (s.drop i)).getD k 0) ∧ 48 ≤ ((digsAt (s.drop i)).getD k 0).toNat ∧ ((digsAt (s.drop i)).getD k 0).toNat ≤ 57 ∧
    decV ((digsAt (s.drop i)).take (k + 1)) = 10 * decV ((digsAt (s.drop i)).take k) + (((digsAt (s.drop i)).getD k 0).toNat - 48) := by
  have h1 : s[i + k]? = (digsAt (s.drop i))[k]? := by rw [← List.getElem?_drop]; exact takeWhile_pre _ _ h
  have h2 := gD h
  have h3 : digitB ((digsAt (s.drop i)).getD k 0) = true := by
    have hm : (digsAt (s.drop i)).getD k 0 ∈ (s.drop i).takeWhile digitB := List.mem_of_getElem? h2
    exact List.all_eq_true.1 List.all_takeWhile _ hm
  unfold digitB at h3
  have h3 := of_decide_eq_true h3
  refine ⟨by rw [h1, h2], h3.1, h3.2, ?_⟩
  obtain ⟨hl, he⟩ := List.getElem?_eq_some_iff.1 h2
  rw [List.take_succ_eq_append_getElem hl, decV_snoc, he]
theorem i64sub48 (n : Nat) (h : 48 ≤ n) (h2 : n ≤ 57) : IntKind.i64.wrap (IntKind.u8.wrap ((n : Int) - 48)) = ((n - 48 : Nat) : Int) := by
  have : ∀ k : Fin 10, IntKind.i64.wrap (IntKind.u8.wrap (((k.1 + 48 : Nat) : Int) - 48)) = ((k.1 : Nat) : Int) := by decide
  have h3 := this ⟨n - 48, by omega⟩
  dsimp only at h3
  rw [show n - 48 + 48 = n by omega] at h3
  exact h3
def numR (s : Str) (i : Nat) : List PV := match numAt (s.drop i) with
  | none => [pInt 0, pInt 0, pBool false]
  | some (n, k) => [pInt n, pInt ((i + k : Nat) : Int), pBool true]
theorem num_facts {s : Str} {n k : Nat} (h : numAt s = some (n, k)) : k = (digsAt s).length ∧ n = decV (digsAt s) ∧ 0 < k ∧ k ≤ s.length ∧ n ≤ 2147483647 := by
  unfold numAt at h
  split at h
  · cases h
  · rename_i h1
    cases h
    have h2 : digsAt s ≠ [] := fun e => h1 (.inl e)
    have h3 := List.length_pos_iff.2 h2
    have h4 : (digsAt s).length ≤ s.length := by unfold digsAt; exact (List.takeWhile_sublist digitB).length_le
    refine ⟨rfl, rfl, h3, h4, ?_⟩
    by_cases hv : decV (digsAt s) ≤ 2147483647
    · exact hv
    · exact absurd (.inr (.inr (by omega))) h1
theorem sdigit_ok (s : Str) (i : Nat) : FnOk Tryd.prog 50 [pStr s, pInt i] (fun rs => rs = [pBool (digitAt s i)]) := by
  refine FnOk.intro Tryd.func50 (by decide) rfl rfl rfl rfl ?_
  refine k2 ?_
  refine c_region ?_; refine l_neu (n_assign rfl rfl) rfl ?_; refine l_nil ?_
  refine k1 ?_; refine k2 ?_
  refine c_region ?_; refine l_neu (n_move rfl rfl) rfl ?_; refine l_neu (n_move rfl rfl) rfl ?_; refine l_neu (n_len_s rfl) rfl ?_; refine l_neu (n_lss rfl rfl) rfl ?_; refine l_neu (n_move rfl rfl) rfl ?_; refine l_guard rfl rfl rfl rfl (fun hg => by rw [hg]; exact n_move rfl rfl) ?_; refine l_guard rfl rfl rfl rfl (fun hg => by rw [hg]; exact n_move rfl rfl) ?_; refine l_guard rfl rfl rfl rfl (fun hg => by have hq := hg; (try simp at hq); rw [hg]; exact n_index_s rfl rfl (by omega) (gD (by omega))) ?_; refine l_guard rfl rfl rfl rfl (fun hg => by rw [hg]; exact n_geq rfl rfl) ?_; refine l_neu (n_pick_bool rfl (fun h => by first | rfl | (rw [h]; rfl)) (fun h => by first | rfl | (rw [h]; rfl))) rfl ?_; refine l_neu (n_move rfl rfl) rfl ?_; refine l_guard rfl rfl rfl rfl (fun hg => by rw [hg]; exact n_move rfl rfl) ?_; refine l_guard rfl rfl rfl rfl (fun hg => by rw [hg]; exact n_move rfl rfl) ?_; refine l_guard rfl rfl rfl rfl (fun hg => by have hq := hg; (try simp at hq); rw [hg]; exact n_index_s rfl rfl (by omega) (gD (by omega))) ?_; refine l_guard rfl rfl rfl rfl (fun hg => by rw [hg]; exact n_leq rfl rfl) ?_; refine l_neu (n_pick_bool rfl (fun h => by first | rfl | (rw [h]; rfl)) (fun h => by first | rfl | (rw [h]; rfl))) rfl ?_; refine l_neu (n_assign rfl rfl) rfl ?_; refine l_nil ?_
  refine k1 ?_; refine k10 ?_
  refine ret_ret (ret1 rfl rfl rfl) ?_
  simp only [and_pick]
  unfold digitAt
  congr 4
  congr 1
  simp; omega
theorem sNumber_ok (s : Str) (i : Nat) (hi : i ≤ s.length) (hs : s.length ≤ 1073741824) : FnOk Tryd.prog 29 [pStr s, pInt i] (fun rs => rs = numR s i) := by
  obtain ⟨ds, hds⟩ : ∃ ds, ds = digsAt (s.drop i) := ⟨_, rfl⟩
  have hle := digs_le s i
  have h0 := digit_run s i 0 (Nat.zero_le _)
  rw [Nat.add_zero] at h0
  rw [← hds] at hle h0
  refine FnOk.intro Tryd.func29 (by decide) rfl rfl rfl rfl ?_
  refine k2 ?_
  refine c_region ?_; refine l_neu (n_assign rfl rfl) rfl ?_; refine l_neu (n_assign rfl rfl) rfl ?_; refine l_neu (n_assign rfl rfl) rfl ?_; refine l_nil ?_
  refine k1 ?_; refine k2 ?_; refine k2 ?_
  refine c_region ?_; refine l_neu (n_move rfl rfl) rfl ?_; refine l_neu (n_lss rfl rfl) rfl ?_; refine l_neu (n_move rfl rfl) rfl ?_; refine l_guard rfl rfl rfl rfl (fun hg => by rw [hg]; exact n_move rfl rfl) ?_; refine l_guard rfl rfl rfl rfl (fun hg => by rw [hg]; exact n_move rfl rfl) ?_; refine l_guard rfl rfl rfl rfl (fun hg => by have hq := hg; (try simp at hq); rw [hg]; exact n_call1 (sdigit_ok s i) rfl rfl) ?_; refine l_guard rfl rfl rfl rfl (fun hg => by rw [hg]; exact n_not rfl) ?_; refine l_neu (n_pick_bool rfl (fun h => by first | rfl | (rw [h]; rfl)) (fun h => by first | rfl | (rw [h]; rfl))) rfl ?_; refine l_nil ?_
  rw [h0]
  refine k1 ?_
  by_cases hz : ds.length = 0
  · refine c_cond rfl (fun ht => ?_) (fun ht => ?_)
    rotate_left
    · exfalso; revert ht; simp [hz]
    refine k2 ?_
    refine c_region ?_; refine l_neu (n_assign rfl rfl) rfl ?_; refine l_neu (n_assign rfl rfl) rfl ?_; refine l_neu (n_assign rfl rfl) rfl ?_; refine l_nil ?_
    refine k1 ?_; refine k10 ?_; refine k11 ?_
    refine ret_ret (rs := [pInt 0, pInt 0, pBool false]) (ret3 rfl rfl rfl rfl rfl rfl rfl) ?_
    unfold numR numAt
    rw [← hds, if_pos (.inl (List.length_eq_zero_iff.1 hz))]
  refine c_cond rfl (fun ht => ?_) (fun ht => ?_)
  · exfalso; revert ht; simp [show 0 < ds.length by omega]
  refine k5 ?_; refine k1 ?_; refine k2 ?_
  refine c_region ?_; refine l_neu (n_move rfl rfl) rfl ?_; refine l_neu (n_assign rfl rfl) rfl ?_; refine l_neu (n_assign rfl rfl) rfl ?_; refine l_nil ?_
  refine k1 ?_; refine k2 ?_; refine k3 ?_
  refine c_while (X := Nat) (fun k => ([(0, sStr s), (1, sInt i), (7, sInt ((min (decV (ds.take k)) 2147483648 : Nat) : Int)), (8, sInt ((i + k : Nat) : Int))], [])) (fun k => k ≤ ds.length) (fun k => ds.length - k) 0 (Nat.zero_le _) (Sees.of ⟨le1 rfl, le1 rfl, le1 rfl, le1 rfl, trivial⟩ trivial) ?_
  intro k hk
  dsimp only at hk ⊢
  have hrun := digit_run s i k (by rw [← hds]; exact hk)
  rw [← hds] at hrun
  refine k2 ?_; refine k2 ?_
  refine c_region ?_; refine l_neu (n_move rfl rfl) rfl ?_; refine l_neu (n_move rfl rfl) rfl ?_; refine l_call (sdigit_ok s (i + k)) rfl rfl rfl ?_; rintro _ rfl; refine l_nil ?_
  rw [hrun]
  refine k1 ?_
  refine c_cond rfl (fun ht => ?_) (fun ht => ?_)
  · have hlt : k < ds.length := of_decide_eq_true ht
    obtain ⟨g1, g2, g3, g4⟩ := digit_get (s := s) (i := i) (k := k) (by rw [← hds]; exact hlt)
    rw [← hds] at g1 g2 g3 g4
    obtain ⟨c, hc⟩ : ∃ c, c = ds.getD k 0 := ⟨_, rfl⟩
    rw [← hc] at g1 g2 g3 g4
    obtain ⟨v, hv⟩ : ∃ v, v = min (decV (ds.take k)) 2147483648 := ⟨_, rfl⟩
    have hvb : v ≤ 2147483648 := by omega
    have hnew : min (decV (ds.take (k + 1))) 2147483648 = min (10 * v + (c.toNat - 48)) 2147483648 := by rw [g4]; omega
    rw [← hv]
    have hsub := i64sub48 c.toNat g2 g3
    refine k5 ?_; refine k1 ?_; refine k2 ?_; refine k3 ?_
    refine c_region ?_; refine l_neu (n_move rfl rfl) rfl ?_; refine l_neu (n_mul rfl rfl (by omega)) rfl ?_; refine l_neu (n_move rfl rfl) rfl ?_; refine l_neu (n_move rfl rfl) rfl ?_; refine l_neu (n_index_s rfl rfl (by omega) g1) rfl ?_; refine l_neu (n_sub_w rfl rfl) rfl ?_; refine l_neu (n_convert rfl) rfl ?_; refine l_neu (n_add rfl rfl (by (rw [hsub]; omega))) rfl ?_; refine l_neu (n_min rfl rfl) rfl ?_; refine l_neu (n_assign rfl rfl) rfl ?_; refine l_nil ?_
    refine k4 ?_; refine k1 ?_
    refine c_region ?_; refine l_neu (n_move rfl rfl) rfl ?_; refine l_neu (n_add rfl rfl (by omega)) rfl ?_; refine l_neu (n_assign rfl rfl) rfl ?_; refine l_nil ?_
    refine k1 ?_
    refine ⟨k + 1, hlt, by omega, ?_⟩
    rw [hnew]
    refine Sees.of ⟨⟨_, rfl, .same _⟩, ⟨_, rfl, .same _⟩, ⟨_, rfl, .eq ?_⟩, ⟨_, rfl, .eq ?_⟩, trivial⟩ trivial
    · rw [hsub]
      congr 6
      split <;> omega
    · congr 6
  · have hk' : k = ds.length := by have : ¬ k < ds.length := of_decide_eq_false ht; omega
    subst hk'
    rw [List.take_length]
    have hv0 : i < s.length := by omega
    refine k6 ?_; refine k2 ?_; refine k2 ?_
    refine c_region ?_; refine l_neu (n_move rfl rfl) rfl ?_; refine l_neu (n_gtr rfl rfl) rfl ?_; refine l_neu (n_move rfl rfl) rfl ?_; refine l_guard rfl rfl rfl rfl (fun hg => by rw [hg]; exact n_move rfl rfl) ?_; refine l_guard rfl rfl rfl rfl (fun hg => by rw [hg]; exact n_move rfl rfl) ?_; refine l_guard rfl rfl rfl rfl (fun hg => by have hq := hg; (try simp at hq); rw [hg]; exact n_index_s rfl rfl (by omega) (gD hv0)) ?_; refine l_guard rfl rfl rfl rfl (fun hg => by rw [hg]; exact n_eql rfl rfl) ?_; refine l_guard rfl rfl rfl rfl (fun hg => by rw [hg]; exact n_move rfl rfl) ?_; refine l_guardW rfl rfl rfl (.gd (.val _)) rfl (fun hg => by obtain ⟨hg1, hg2⟩ := gd_and hg; (try rw [hg1]); (try rw [hg2]); exact n_move rfl rfl) ?_; refine l_guardW rfl rfl rfl (.gd (.val _)) rfl (fun hg => by obtain ⟨hg1, hg2⟩ := gd_and hg; (try rw [hg1]); (try rw [hg2]); exact n_move rfl rfl) ?_; refine l_guardW rfl rfl rfl (.gd (.val _)) rfl (fun hg => by have hq := hg; (try simp at hq); obtain ⟨hg1, hg2⟩ := gd_and hg; (try rw [hg1]); (try rw [hg2]); exact n_add rfl rfl (by omega)) ?_; refine l_guardW rfl rfl rfl (.gd (.val _)) rfl (fun hg => by obtain ⟨hg1, hg2⟩ := gd_and hg; (try rw [hg1]); (try rw [hg2]); exact n_gtr rfl rfl) ?_; refine l_guard rfl rfl rfl rfl (fun hg => by rw [hg]; exact n_pick_bool rfl (fun h => by first | rfl | (rw [h]; rfl)) (fun h => by first | rfl | (rw [h]; rfl))) ?_; refine l_neu (n_pick_bool rfl (fun h => by first | rfl | (rw [h]; rfl)) (fun h => by first | rfl | (rw [h]; rfl))) rfl ?_; refine l_nil ?_
    refine k1 ?_
    have hd0 : (s.drop i).head? = some (s.getD i 0) := by rw [List.head?_drop, gD hv0]
    simp only [and_pick, or_pick]
    have hbad : (digsAt (s.drop i) = [] ∨ ((s.drop i).head? = some 48 ∧ 1 < (digsAt (s.drop i)).length) ∨ 2147483647 < decV (digsAt (s.drop i))) ↔ (2147483647 < ((min (decV ds) 2147483648 : Nat) : Int) ∨ (((s.getD i 0).toNat : Int) = 48 ∧ (i : Int) + 1 < ((i + ds.length : Nat) : Int))) := by
      rw [← hds, hd0]
      have e1 : ds ≠ [] := fun e => hz (by rw [e]; rfl)
      have e2 : (some (s.getD i 0) = some 48) ↔ ((s.getD i 0).toNat : Int) = 48 := by
        rw [Option.some.injEq, ← UInt8.toNat_inj]
        have : (48 : UInt8).toNat = 48 := rfl
        omega
      simp only [e1, false_or, e2]
      omega
    refine c_cond rfl (fun ht => ?_) (fun ht => ?_)
    · have h1 := of_decide_eq_true ht
      refine k2 ?_
      refine c_region ?_; refine l_neu (n_assign rfl rfl) rfl ?_; refine l_neu (n_assign rfl rfl) rfl ?_; refine l_neu (n_assign rfl rfl) rfl ?_; refine l_nil ?_
      refine k1 ?_; refine k10 ?_; refine k11 ?_
      refine ret_ret (rs := [pInt 0, pInt 0, pBool false]) (ret3 rfl rfl rfl rfl rfl rfl rfl) ?_
      unfold numR numAt
      rw [if_pos (hbad.2 (by first | exact h1 | simpa using h1))]
    · have h1 := of_decide_eq_false ht
      have h2 : ¬ (digsAt (s.drop i) = [] ∨ ((s.drop i).head? = some 48 ∧ 1 < (digsAt (s.drop i)).length) ∨ 2147483647 < decV (digsAt (s.drop i))) := fun hh => h1 (by first | exact hbad.1 hh | simpa using hbad.1 hh)
      refine k5 ?_; refine k1 ?_; refine k2 ?_
      refine c_region ?_; refine l_neu (n_move rfl rfl) rfl ?_; refine l_neu (n_move rfl rfl) rfl ?_; refine l_neu (n_assign rfl rfl) rfl ?_; refine l_neu (n_assign rfl rfl) rfl ?_; refine l_neu (n_assign rfl rfl) rfl ?_; refine l_nil ?_
      refine k1 ?_; refine k10 ?_
      refine ret_ret (rs := [pInt ((min (decV ds) 2147483648 : Nat) : Int), pInt ((i + ds.length : Nat) : Int), pBool true]) (ret3 rfl rfl rfl rfl rfl rfl rfl) ?_
      unfold numR numAt
      rw [if_neg h2, ← hds]
      have h3 : decV ds ≤ 2147483647 := by
        rw [← hds] at h2
        by_cases hv : decV ds ≤ 2147483647
        · exact hv
        · exact absurd (.inr (.inr (by omega))) h2
      rw [show min (decV ds) 2147483648 = decV ds by omega]
def rngR (s : Str) (i : Nat) : List PV := match rngAt (s.drop i) with
  | none => [pInt 0, pInt 0, pInt 0, pBool false]
  | some (a, n, k) => [pInt a, pInt n, pInt ((i + k : Nat) : Int), pBool true]
theorem numR_some {s : Str} {i n k : Nat} (h : numAt (s.drop i) = some (n, k)) : numR s i = [pInt n, pInt ((i + k : Nat) : Int), pBool true] := by unfold numR; rw [h]
theorem numR_none {s : Str} {i : Nat} (h : numAt (s.drop i) = none) : numR s i = [pInt 0, pInt 0, pBool false] := by unfold numR; rw [h]
theorem sRange_ok (s : Str) (i : Nat) (hi : i ≤ s.length) (hs : s.length ≤ 1073741824) : FnOk Tryd.prog 52 [pStr s, pInt i] (fun rs => rs = rngR s i) := by
  have hc := sNumber_ok s i hi hs
  cases h1 : numAt (s.drop i) with
  | none =>
    rw [numR_none h1] at hc
    refine FnOk.intro Tryd.func52 (by decide) rfl rfl rfl rfl ?_
    refine k2 ?_
    refine c_region ?_; refine l_neu (n_assign rfl rfl) rfl ?_; refine l_neu (n_assign rfl rfl) rfl ?_; refine l_neu (n_assign rfl rfl) rfl ?_; refine l_neu (n_assign rfl rfl) rfl ?_; refine l_nil ?_
    refine k1 ?_; refine k2 ?_
    refine c_region ?_; refine l_neu (n_move rfl rfl) rfl ?_; refine l_neu (n_move rfl rfl) rfl ?_; refine l_call (hc) rfl rfl rfl ?_; rintro _ rfl; refine l_neu (n_move rfl rfl) rfl ?_; refine l_neu (n_extract rfl rfl) rfl ?_; refine l_neu (n_extract rfl rfl) rfl ?_; refine l_neu (n_extract rfl rfl) rfl ?_; refine l_neu (n_assign rfl rfl) rfl ?_; refine l_neu (n_assign rfl rfl) rfl ?_; refine l_neu (n_assign rfl rfl) rfl ?_; refine l_nil ?_
    refine k1 ?_; refine k2 ?_; refine k2 ?_
    refine c_region ?_; refine l_neu (n_move rfl rfl) rfl ?_; refine l_neu (n_not rfl) rfl ?_; refine l_nil ?_
    refine k1 ?_
    refine c_cond rfl (fun ht => ?_) (fun ht => ?_)
    · refine k2 ?_
      refine c_region ?_; refine l_neu (n_assign rfl rfl) rfl ?_; refine l_neu (n_assign rfl rfl) rfl ?_; refine l_neu (n_assign rfl rfl) rfl ?_; refine l_neu (n_assign rfl rfl) rfl ?_; refine l_nil ?_
      refine k1 ?_; refine k10 ?_; refine k11 ?_
      exact ret_ret (ret4 rfl rfl rfl rfl rfl rfl rfl rfl rfl) (by unfold rngR rngAt; rw [h1])
    · cases ht
  | some p =>
    obtain ⟨a, k⟩ := p
    rw [numR_some h1] at hc
    obtain ⟨_, _, hk0, hk1, ha⟩ := num_facts h1
    rw [List.length_drop] at hk1
    have hget : (s.drop i)[k]? = s[i + k]? := by rw [List.getElem?_drop]
    have hdd : (s.drop i).drop (k + 1) = s.drop (i + k + 1) := by rw [List.drop_drop]; rfl
    have hcm2 : decide (((i + k : Nat) : Int) < (s.length : Int) ∧ ((s.getD (i + k) 0).toNat : Int) = 44) = decide (s[i + k]? = some 44) := by
      have : (44 : UInt8).toNat = 44 := rfl
      congr 1
      by_cases hlt : i + k < s.length
      · rw [gD hlt, Option.some.injEq, ← UInt8.toNat_inj]
        apply propext; constructor <;> intro h <;> omega
      · rw [List.getElem?_eq_none (by omega)]
        apply propext; constructor <;> intro h
        · omega
        · cases h
    have hcase : (s[i + k]? = some 44 ∧ numAt (s.drop (i + k + 1)) = none) ∨ (∃ c e, ((∃ kb, s[i + k]? = some 44 ∧ numAt (s.drop (i + k + 1)) = some (c, kb) ∧ e = k + 1 + kb) ∨ (s[i + k]? ≠ some 44 ∧ c = 1 ∧ e = k)) ∧ i + e ≤ s.length ∧ c ≤ 2147483647 ∧ rngAt (s.drop i) = rngFin (s.drop i) a c e) := by
      by_cases hcm : s[i + k]? = some 44
      · have hlt := (List.getElem?_eq_some_iff.1 hcm).1
        cases h2 : numAt (s.drop (i + k + 1)) with
        | none => exact .inl ⟨hcm, rfl⟩
        | some q =>
          obtain ⟨c, kb⟩ := q
          obtain ⟨_, _, hk2, hk3, hc2⟩ := num_facts h2
          rw [List.length_drop] at hk3
          refine .inr ⟨c, k + 1 + kb, .inl ⟨kb, hcm, rfl, rfl⟩, by omega, hc2, ?_⟩
          unfold rngAt
          rw [h1]; dsimp only
          rw [hget, if_pos hcm, hdd, h2]
      · refine .inr ⟨1, k, .inr ⟨hcm, rfl, rfl⟩, by omega, by omega, ?_⟩
        unfold rngAt
        rw [h1]; dsimp only
        rw [hget, if_neg hcm]
    rcases hcase with ⟨hcm, h2⟩ | ⟨c, e, hce, hel, hcb, hfin⟩
    · have hlt := (List.getElem?_eq_some_iff.1 hcm).1
      have hc2 := sNumber_ok s (i + k + 1) (by omega) hs
      rw [numR_none h2, show ((i + k + 1 : Nat) : Int) = ((i + k : Nat) : Int) + 1 by omega] at hc2
      refine FnOk.intro Tryd.func52 (by decide) rfl rfl rfl rfl ?_
      refine k2 ?_
      refine c_region ?_; refine l_neu (n_assign rfl rfl) rfl ?_; refine l_neu (n_assign rfl rfl) rfl ?_; refine l_neu (n_assign rfl rfl) rfl ?_; refine l_neu (n_assign rfl rfl) rfl ?_; refine l_nil ?_
      refine k1 ?_; refine k2 ?_
      refine c_region ?_; refine l_neu (n_move rfl rfl) rfl ?_; refine l_neu (n_move rfl rfl) rfl ?_; refine l_call (hc) rfl rfl rfl ?_; rintro _ rfl; refine l_neu (n_move rfl rfl) rfl ?_; refine l_neu (n_extract rfl rfl) rfl ?_; refine l_neu (n_extract rfl rfl) rfl ?_; refine l_neu (n_extract rfl rfl) rfl ?_; refine l_neu (n_assign rfl rfl) rfl ?_; refine l_neu (n_assign rfl rfl) rfl ?_; refine l_neu (n_assign rfl rfl) rfl ?_; refine l_nil ?_
      refine k1 ?_; refine k2 ?_; refine k2 ?_
      refine c_region ?_; refine l_neu (n_move rfl rfl) rfl ?_; refine l_neu (n_not rfl) rfl ?_; refine l_nil ?_
      refine k1 ?_
      refine c_cond rfl (fun ht => ?_) (fun ht => ?_)
      · cases ht
      refine k5 ?_; refine k1 ?_; refine k2 ?_
      refine c_region ?_; refine l_neu (n_assign rfl rfl) rfl ?_; refine l_nil ?_
      refine k1 ?_; refine k2 ?_; refine k2 ?_
      refine c_region ?_; refine l_neu (n_move rfl rfl) rfl ?_; refine l_neu (n_move rfl rfl) rfl ?_; refine l_neu (n_len_s rfl) rfl ?_; refine l_neu (n_lss rfl rfl) rfl ?_; refine l_neu (n_move rfl rfl) rfl ?_; refine l_guard rfl rfl rfl rfl (fun hg => by rw [hg]; exact n_move rfl rfl) ?_; refine l_guard rfl rfl rfl rfl (fun hg => by rw [hg]; exact n_move rfl rfl) ?_; refine l_guard rfl rfl rfl rfl (fun hg => by have hq := hg; (try simp at hq); rw [hg]; exact n_index_s rfl rfl (by omega) (gD (by omega))) ?_; refine l_guard rfl rfl rfl rfl (fun hg => by rw [hg]; exact n_eql rfl rfl) ?_; refine l_neu (n_pick_bool rfl (fun h => by first | rfl | (rw [h]; rfl)) (fun h => by first | rfl | (rw [h]; rfl))) rfl ?_; refine l_nil ?_
      simp only [and_pick, Int.toNat_natCast]
      rw [hcm2]
      refine k1 ?_
      refine c_cond rfl (fun ht => ?_) (fun ht => ?_)
      · refine k2 ?_
        refine c_region ?_; refine l_neu (n_move rfl rfl) rfl ?_; refine l_neu (n_move rfl rfl) rfl ?_; refine l_neu (n_add rfl rfl (by omega)) rfl ?_; refine l_call (hc2) rfl rfl rfl ?_; rintro _ rfl; refine l_neu (n_move rfl rfl) rfl ?_; refine l_neu (n_extract rfl rfl) rfl ?_; refine l_neu (n_extract rfl rfl) rfl ?_; refine l_neu (n_extract rfl rfl) rfl ?_; refine l_neu (n_assign rfl rfl) rfl ?_; refine l_neu (n_assign rfl rfl) rfl ?_; refine l_neu (n_assign rfl rfl) rfl ?_; refine l_nil ?_
        refine k1 ?_; refine k2 ?_
        refine c_region ?_; refine l_neu (n_move rfl rfl) rfl ?_; refine l_neu (n_not rfl) rfl ?_; refine l_nil ?_
        refine k1 ?_
        refine c_cond rfl (fun ht => ?_) (fun ht => ?_)
        · refine k2 ?_
          refine c_region ?_; refine l_neu (n_assign rfl rfl) rfl ?_; refine l_neu (n_assign rfl rfl) rfl ?_; refine l_neu (n_assign rfl rfl) rfl ?_; refine l_neu (n_assign rfl rfl) rfl ?_; refine l_nil ?_
          refine k1 ?_; refine k10 ?_; refine k11 ?_
          refine ret_ret (rs := [pInt 0, pInt 0, pInt 0, pBool false]) (ret4 rfl rfl rfl rfl rfl rfl rfl rfl rfl) ?_
          unfold rngR rngAt
          rw [h1]; dsimp only
          rw [hget, if_pos hcm, hdd, h2]
        · cases ht
      · exact absurd hcm (of_decide_eq_false ht)
    · obtain ⟨st, hst⟩ : ∃ st : Int, st = if 0 < c then (a : Int) - 1 else a := ⟨_, rfl⟩
      have hstb : -1 ≤ st ∧ st ≤ 2147483647 := by rw [hst]; split <;> omega
      have hrc := srange_ok st c (by omega) (by omega)
      refine FnOk.intro Tryd.func52 (by decide) rfl rfl rfl rfl ?_
      refine k2 ?_
      refine c_region ?_; refine l_neu (n_assign rfl rfl) rfl ?_; refine l_neu (n_assign rfl rfl) rfl ?_; refine l_neu (n_assign rfl rfl) rfl ?_; refine l_neu (n_assign rfl rfl) rfl ?_; refine l_nil ?_
      refine k1 ?_; refine k2 ?_
      refine c_region ?_; refine l_neu (n_move rfl rfl) rfl ?_; refine l_neu (n_move rfl rfl) rfl ?_; refine l_call (hc) rfl rfl rfl ?_; rintro _ rfl; refine l_neu (n_move rfl rfl) rfl ?_; refine l_neu (n_extract rfl rfl) rfl ?_; refine l_neu (n_extract rfl rfl) rfl ?_; refine l_neu (n_extract rfl rfl) rfl ?_; refine l_neu (n_assign rfl rfl) rfl ?_; refine l_neu (n_assign rfl rfl) rfl ?_; refine l_neu (n_assign rfl rfl) rfl ?_; refine l_nil ?_
      refine k1 ?_; refine k2 ?_; refine k2 ?_
      refine c_region ?_; refine l_neu (n_move rfl rfl) rfl ?_; refine l_neu (n_not rfl) rfl ?_; refine l_nil ?_
      refine k1 ?_
      refine c_cond rfl (fun ht => ?_) (fun ht => ?_)
      · cases ht
      refine k5 ?_; refine k1 ?_; refine k2 ?_
      refine c_region ?_; refine l_neu (n_assign rfl rfl) rfl ?_; refine l_nil ?_
      refine then_normal ?_
      refine c_join [(0, sStr s), (1, sInt i), (8, sInt a), (9, sInt ((i + e : Nat) : Int)), (11, sInt c)] [] ?_ ?_
      · refine k2 ?_
        refine c_region ?_; refine l_neu (n_move rfl rfl) rfl ?_; refine l_neu (n_move rfl rfl) rfl ?_; refine l_neu (n_len_s rfl) rfl ?_; refine l_neu (n_lss rfl rfl) rfl ?_; refine l_neu (n_move rfl rfl) rfl ?_; refine l_guard rfl rfl rfl rfl (fun hg => by rw [hg]; exact n_move rfl rfl) ?_; refine l_guard rfl rfl rfl rfl (fun hg => by rw [hg]; exact n_move rfl rfl) ?_; refine l_guard rfl rfl rfl rfl (fun hg => by have hq := hg; (try simp at hq); rw [hg]; exact n_index_s rfl rfl (by omega) (gD (by omega))) ?_; refine l_guard rfl rfl rfl rfl (fun hg => by rw [hg]; exact n_eql rfl rfl) ?_; refine l_neu (n_pick_bool rfl (fun h => by first | rfl | (rw [h]; rfl)) (fun h => by first | rfl | (rw [h]; rfl))) rfl ?_; refine l_nil ?_
        simp only [and_pick, Int.toNat_natCast]
        rw [hcm2]
        refine k1 ?_
        refine c_cond rfl (fun ht => ?_) (fun ht => ?_)
        · have hcm := of_decide_eq_true ht
          have hlt := (List.getElem?_eq_some_iff.1 hcm).1
          rcases hce with ⟨kb, _, h2, he⟩ | ⟨hn, _⟩
          · have hc2 := sNumber_ok s (i + k + 1) (by omega) hs
            rw [numR_some h2, show ((i + k + 1 : Nat) : Int) = ((i + k : Nat) : Int) + 1 by omega, show i + k + 1 + kb = i + e by omega] at hc2
            refine k2 ?_
            refine c_region ?_; refine l_neu (n_move rfl rfl) rfl ?_; refine l_neu (n_move rfl rfl) rfl ?_; refine l_neu (n_add rfl rfl (by omega)) rfl ?_; refine l_call (hc2) rfl rfl rfl ?_; rintro _ rfl; refine l_neu (n_move rfl rfl) rfl ?_; refine l_neu (n_extract rfl rfl) rfl ?_; refine l_neu (n_extract rfl rfl) rfl ?_; refine l_neu (n_extract rfl rfl) rfl ?_; refine l_neu (n_assign rfl rfl) rfl ?_; refine l_neu (n_assign rfl rfl) rfl ?_; refine l_neu (n_assign rfl rfl) rfl ?_; refine l_nil ?_
            refine k1 ?_; refine k2 ?_
            refine c_region ?_; refine l_neu (n_move rfl rfl) rfl ?_; refine l_neu (n_not rfl) rfl ?_; refine l_nil ?_
            refine k1 ?_
            refine c_cond rfl (fun ht => ?_) (fun ht => ?_)
            · cases ht
            refine k5 ?_; refine k1 ?_
            exact Sees.of ⟨le1 rfl, le1 rfl, le1 rfl, le1 rfl, le1 rfl, trivial⟩ trivial
          · exact absurd hcm hn
        · have hcm := of_decide_eq_false ht
          rcases hce with ⟨kb, h3, _⟩ | ⟨_, h2, h3⟩
          · exact absurd h3 hcm
          · subst h2; subst h3
            refine k5 ?_; refine k1 ?_
            exact Sees.of ⟨le1 rfl, le1 rfl, le1 rfl, le1 rfl, le1 rfl, trivial⟩ trivial
      refine c_join [(0, sStr s), (1, sInt i), (8, sInt st), (9, sInt ((i + e : Nat) : Int)), (11, sInt c)] [] ?_ ?_
      · refine k2 ?_
        refine c_region ?_; refine l_neu (n_move rfl rfl) rfl ?_; refine l_neu (n_gtr rfl rfl) rfl ?_; refine l_nil ?_
        refine k1 ?_
        refine c_cond rfl (fun ht => ?_) (fun ht => ?_)
        · have h3 : (0 : Int) < (c : Int) := of_decide_eq_true ht
          rw [if_pos (by omega)] at hst
          skip
          refine c_region ?_; refine l_neu (n_move rfl rfl) rfl ?_; refine l_neu (n_sub rfl rfl (by omega)) rfl ?_; refine l_neu (n_assign rfl rfl) rfl ?_; refine l_nil ?_
          rw [← hst]
          refine k1 ?_
          exact Sees.of ⟨le1 rfl, le1 rfl, le1 rfl, le1 rfl, le1 rfl, trivial⟩ trivial
        · have h3 : ¬ (0 : Int) < (c : Int) := of_decide_eq_false ht
          rw [if_neg (by omega)] at hst
          rw [hst]
          refine k5 ?_; refine k1 ?_
          exact Sees.of ⟨le1 rfl, le1 rfl, le1 rfl, le1 rfl, le1 rfl, trivial⟩ trivial
      unfold rngFin at hfin
      rw [← hst] at hfin
      refine k2 ?_; refine k2 ?_
      refine c_region_draw (by kernel_rfl) (by kernel_rfl) ?_; refine d_neu (n_move rfl rfl) rfl rfl ?_; refine d_neu (n_move rfl rfl) rfl rfl ?_; refine d_neu (n_call1 (hrc) rfl rfl) rfl rfl ?_; refine d_neu (n_move rfl rfl) rfl rfl ?_; refine d_neu (n_move rfl rfl) rfl rfl ?_; refine d_neu (n_move rfl rfl) rfl rfl ?_; refine d_neu (n_sub_lh rfl rfl rfl (by omega) (by omega) (by omega)) rfl rfl ?_; refine d_neu (n_neq_s rfl rfl) rfl rfl ?_; refine d_nil ?_
      rw [show ((i : Int)).toNat = i by omega, show (((i + e : Nat) : Int)).toNat - i = e by omega]
      refine k1 ?_
      refine c_cond rfl (fun ht => ?_) (fun ht => ?_)
      · have h3 : ¬ rangeOf st c = (s.drop i).take e := of_decide_eq_true ht
        refine k2 ?_
        refine c_region ?_; refine l_neu (n_assign rfl rfl) rfl ?_; refine l_neu (n_assign rfl rfl) rfl ?_; refine l_neu (n_assign rfl rfl) rfl ?_; refine l_neu (n_assign rfl rfl) rfl ?_; refine l_nil ?_
        refine k1 ?_; refine k10 ?_; refine k11 ?_
        refine ret_ret (rs := [pInt 0, pInt 0, pInt 0, pBool false]) (ret4 rfl rfl rfl rfl rfl rfl rfl rfl rfl) ?_
        rw [if_neg h3] at hfin
        unfold rngR; rw [hfin]
      · have h3 : rangeOf st c = (s.drop i).take e := Decidable.not_not.1 (of_decide_eq_false ht)
        refine k5 ?_; refine k1 ?_; refine k2 ?_
        refine c_region ?_; refine l_neu (n_move rfl rfl) rfl ?_; refine l_neu (n_move rfl rfl) rfl ?_; refine l_neu (n_move rfl rfl) rfl ?_; refine l_neu (n_assign rfl rfl) rfl ?_; refine l_neu (n_assign rfl rfl) rfl ?_; refine l_neu (n_assign rfl rfl) rfl ?_; refine l_neu (n_assign rfl rfl) rfl ?_; refine l_nil ?_
        refine k1 ?_; refine k10 ?_
        refine ret_ret (rs := [pInt st, pInt c, pInt ((i + e : Nat) : Int), pBool true]) (ret4 rfl rfl rfl rfl rfl rfl rfl rfl rfl) ?_
        rw [if_pos h3] at hfin
        unfold rngR; rw [hfin]
end Go.Proofs.YtgejaedjnbjpoaaDoor
namespace Go.Proofs.YtgejaedjnbjpoaaDoor
open Go Go.AL
set_option maxRecDepth 100000
abbrev rdBox (s : Str) (i : Nat) : Ob := .box [.p (.v (.string ⟨s.toArray⟩)), .p (.v (.int .i64 (i : Int)))]
abbrev t8 (x : Int) : S1 := .one (.p (.v (.int .u8 x)))
abbrev tBo (b : Bool) : S1 := .one (.p (.v (.bool b)))
def octOk (c : UInt8) : Prop := 48 ≤ c.toNat ∧ c.toNat ≤ 55
def octN (s : Str) (i : Nat) : Nat → Nat
  | 0 => 0
  | q + 1 => 8 * octN s i q + ((s.getD (i + q) 0).toNat - 48)
def octSound (s : Str) (i q : Nat) : Prop := i + q < s.length ∧ octOk (s.getD (i + q) 0)
instance (s : Str) (i q : Nat) : Decidable (octSound s i q) := by unfold octSound octOk; exact inferInstance
def octI (s : Str) (i : Nat) : Option UInt8 := if (octSound s i 0 ∧ octSound s i 1 ∧ octSound s i 2) ∧ octN s i 3 < 256 then some (UInt8.ofNat (octN s i 3)) else none
theorem octI_none {s : Str} {i q : Nat} (hq : q < 3) (h : ¬ octSound s i q) : octI s i = none := by
  unfold octI
  rw [if_neg]
  rintro ⟨⟨h0, h1, h2⟩, _⟩
  rcases (show q = 0 ∨ q = 1 ∨ q = 2 by omega) with rfl | rfl | rfl <;> exact h ‹_›
theorem octN_le {s : Str} {i : Nat} : ∀ q, q ≤ 3 → (∀ p, p < q → octSound s i p) → octN s i q ≤ 8 ^ q - 1
  | 0, _, _ => by simp [octN]
  | q + 1, hq, h => by
    have ih := octN_le q (by omega) (fun p hp => h p (by omega))
    have h1 := (h q (by omega)).2
    unfold octOk at h1
    simp only [octN]
    rcases (show q = 0 ∨ q = 1 ∨ q = 2 by omega) with rfl | rfl | rfl <;> omega
theorem octI_all {s : Str} {i : Nat} (h : ∀ p, p < 3 → octSound s i p) : octI s i = if octN s i 3 < 256 then some (UInt8.ofNat (octN s i 3)) else none := by
  unfold octI
  by_cases hv : octN s i 3 < 256
  · rw [if_pos ⟨⟨h 0 (by omega), h 1 (by omega), h 2 (by omega)⟩, hv⟩, if_pos hv]
  · rw [if_neg (fun hh => hv hh.2), if_neg hv]
theorem ob_front {k0 : Nat} {x : Ob} {ob : Obs} (h : getO ob k0 = some x) : ∀ k o, getO ((k0, x) :: ob) k = some o → getO ob k = some o := by
  intro k o hk
  by_cases he : k0 = k
  · subst he; rw [getO_cons_same] at hk; cases hk; exact h
  · rw [getO_cons_other he] at hk; exact hk
theorem ob_dup {k0 : Nat} {x y : Ob} {ob : Obs} : ∀ k o, getO ((k0, x) :: ob) k = some o → getO ((k0, x) :: (k0, y) :: ob) k = some o := by
  intro k o hk
  by_cases he : k0 = k
  · subst he; rw [getO_cons_same] at hk ⊢; exact hk
  · rw [getO_cons_other he] at hk ⊢; rw [getO_cons_other he]; exact hk
theorem octal_met {gf : Fr} {ob : Obs} (s : Str) (i : Nat) (hi : i ≤ s.length) (hs : s.length ≤ 1073741824) (h5 : getO ob 705 = some (rdBox s i)) :
    AL.Met Tryd.prog 90 [.one (.ref 705 0)] gf ob []
      (fun rs ob' => ∃ (x : Int) (b : Bool) (j : Nat), rs = [t8 x, tBo b] ∧ ob' = (705, rdBox s j) :: ob ∧ j ≤ s.length ∧ match octI s i with
        | some c => b = true ∧ x = c.toNat ∧ j = i + 3
        | none => b = false) := by
  refine AL.Met.introH Tryd.func90 (by decide) rfl rfl rfl (fun hH => ?_)
  refine k2 ?_
  refine c_region ?_; refine l_neu (n_assign rfl rfl) rfl ?_; refine l_neu (n_assign rfl rfl) rfl ?_; refine l_nil ?_
  refine k1 ?_; refine k2 ?_
  refine c_region ?_; refine l_neu (n_assign rfl rfl) rfl ?_; refine l_nil ?_
  refine k1 ?_; refine k2 ?_; refine k2 ?_
  refine c_region ?_; refine l_neu (n_move rfl rfl) rfl ?_; refine l_nil ?_
  refine k1 ?_; refine k3 ?_
  refine c_while (X := Nat) (fun q => ([(0, .s (.one (.ref 705 0))), (4, sInt (octN s i q : Int)), (5, sInt q)] ++ gf, (705, rdBox s (i + q)) :: ob)) (fun q => q ≤ 3 ∧ ∀ p, p < q → octSound s i p) (fun q => 3 - q) 0 ⟨by omega, by omega⟩ ?_ ?_
  · exact Sees.tailed ⟨le1 rfl, le1 rfl, le1 rfl, trivial⟩ hH (by repeat (first | exact tail_refl | refine tail_cons rfl ?_)) (ob_front h5)
  rintro q ⟨hq, hok⟩
  dsimp only at hq hok ⊢
  have hle := octN_le q hq hok
  have hlen : q = 0 ∨ i + q ≤ s.length := by
    rcases Nat.eq_zero_or_pos q with h | h
    · exact .inl h
    · have := (hok (q - 1) (by omega)).1; exact .inr (by omega)
  have hiq : i + q ≤ s.length := by rcases hlen with rfl | h <;> omega
  have h8 : octN s i q ≤ 512 := by rcases (show q = 0 ∨ q = 1 ∨ q = 2 ∨ q = 3 by omega) with rfl | rfl | rfl | rfl <;> omega
  refine k2 ?_
  refine c_region ?_; refine l_neu (n_lss rfl rfl) rfl ?_; refine l_nil ?_
  refine k1 ?_; refine k2 ?_
  refine c_cond rfl (fun ht => ?_) (fun ht => ?_)
  · have hlt : q < 3 := by have := of_decide_eq_true ht; omega
    refine k5 ?_; refine k1 ?_; refine k2 ?_; refine k3 ?_; refine k2 ?_; refine k2 ?_
    refine c_region_draw (by kernel_rfl) (by kernel_rfl) ?_; refine d_neu (n_move rfl rfl) rfl rfl ?_; refine d_neu (n_nilCheck_ref rfl) rfl rfl ?_; refine d_neu (n_field_ref rfl) rfl rfl ?_; refine d_neu (n_load_ref rfl rfl rfl) rfl rfl ?_; refine d_neu (n_move rfl rfl) rfl rfl ?_; refine d_neu (n_nilCheck_ref rfl) rfl rfl ?_; refine d_neu (n_field_ref rfl) rfl rfl ?_; refine d_neu (n_load_ref rfl rfl rfl) rfl rfl ?_; refine d_neu (n_len_s rfl) rfl rfl ?_; refine d_neu (n_geq rfl rfl) rfl rfl ?_; refine d_neu (n_move rfl rfl) rfl rfl ?_; refine d_guard rfl rfl (fun hg => by rw [hg]; exact n_move rfl rfl) rfl rfl ?_; refine d_guard rfl rfl (fun hg => by rw [hg]; exact n_nilCheck_ref rfl) rfl rfl ?_; refine d_guard rfl rfl (fun hg => by rw [hg]; exact n_field_ref rfl) rfl rfl ?_; refine d_guard rfl rfl (fun hg => by rw [hg]; exact n_load_ref rfl rfl rfl) rfl rfl ?_; refine d_guard rfl rfl (fun hg => by rw [hg]; exact n_move rfl rfl) rfl rfl ?_; refine d_guard rfl rfl (fun hg => by rw [hg]; exact n_nilCheck_ref rfl) rfl rfl ?_; refine d_guard rfl rfl (fun hg => by rw [hg]; exact n_field_ref rfl) rfl rfl ?_; refine d_guard rfl rfl (fun hg => by rw [hg]; exact n_load_ref rfl rfl rfl) rfl rfl ?_; refine d_guard rfl rfl (fun hg => by have hq := hg; (try simp at hq); rw [hg]; exact n_index_s rfl rfl (by omega) (gD (by omega))) rfl rfl ?_; refine d_guard rfl rfl (fun hg => by rw [hg]; exact n_lss rfl rfl) rfl rfl ?_; refine d_neu (n_pick_bool rfl (fun h => by first | rfl | (rw [h]; rfl)) (fun h => by first | rfl | (rw [h]; rfl))) rfl rfl ?_; refine d_neu (n_move rfl rfl) rfl rfl ?_; refine d_guard rfl rfl (fun hg => by rw [hg]; exact n_move rfl rfl) rfl rfl ?_; refine d_guard rfl rfl (fun hg => by rw [hg]; exact n_nilCheck_ref rfl) rfl rfl ?_; refine d_guard rfl rfl (fun hg => by rw [hg]; exact n_field_ref rfl) rfl rfl ?_; refine d_guard rfl rfl (fun hg => by rw [hg]; exact n_load_ref rfl rfl rfl) rfl rfl ?_; refine d_guard rfl rfl (fun hg => by rw [hg]; exact n_move rfl rfl) rfl rfl ?_; refine d_guard rfl rfl (fun hg => by rw [hg]; exact n_nilCheck_ref rfl) rfl rfl ?_; refine d_guard rfl rfl (fun hg => by rw [hg]; exact n_field_ref rfl) rfl rfl ?_; refine d_guard rfl rfl (fun hg => by rw [hg]; exact n_load_ref rfl rfl rfl) rfl rfl ?_; refine d_guard rfl rfl (fun hg => by have hq := hg; (try simp at hq); rw [hg]; exact n_index_s rfl rfl (by omega) (gD (by omega))) rfl rfl ?_; refine d_guard rfl rfl (fun hg => by rw [hg]; exact n_gtr rfl rfl) rfl rfl ?_; refine d_neu (n_pick_bool rfl (fun h => by first | rfl | (rw [h]; rfl)) (fun h => by first | rfl | (rw [h]; rfl))) rfl rfl ?_; refine d_nil ?_
    refine k1 ?_
    simp only [or_pick, Int.toNat_natCast]
    have hsnd : decide ((((s.length : Int) ≤ ((i + q : Nat) : Int)) ∨ ((s.getD (i + q) 0).toNat : Int) < 48) ∨ (55 : Int) < ((s.getD (i + q) 0).toNat : Int)) = decide (¬ octSound s i q) := by
      congr 1
      unfold octSound octOk
      apply propext; constructor
      · intro h1 h2; omega
      · intro h1
        by_cases h3 : i + q < s.length
        · by_cases h4 : 48 ≤ (s.getD (i + q) 0).toNat
          · by_cases h5 : (s.getD (i + q) 0).toNat ≤ 55
            · exact absurd ⟨h3, h4, h5⟩ h1
            · exact .inr (by omega)
          · exact .inl (.inr (by omega))
        · exact .inl (.inl (by omega))
    rw [hsnd]
    refine c_cond rfl (fun ht => ?_) (fun ht => ?_)
    · have hbad : ¬ octSound s i q := of_decide_eq_true ht
      refine k2 ?_
      refine c_region ?_; refine l_neu (n_assign rfl rfl) rfl ?_; refine l_neu (n_assign rfl rfl) rfl ?_; refine l_nil ?_
      refine k1 ?_; refine k10 ?_; refine k11 ?_; refine k12 ?_; refine k11 ?_; refine k11 ?_; refine k12 ?_; refine k11 ?_
      refine met_ret (rets2 rfl rfl rfl) (by repeat (first | exact tail_refl | refine tail_cons rfl ?_ | refine tail_forget _ ?_)) (fun _ _ h => h) ⟨0, false, i + q, rfl, rfl, hiq, ?_⟩
      rw [octI_none hlt hbad]
    · have hgood : octSound s i q := Decidable.not_not.1 (of_decide_eq_false ht)
      obtain ⟨g1, g2, g3⟩ := hgood
      have hgood : octSound s i q := ⟨g1, g2, g3⟩
      have hsub := i64sub48 (s.getD (i + q) 0).toNat g2 (by omega)
      refine k5 ?_; refine k1 ?_; refine k2 ?_
      have hv : s[i + q]? = some (s.getD (i + q) 0) := gD g1
      refine c_region_draw (by kernel_rfl) (by kernel_rfl) ?_; refine d_neu (n_move rfl rfl) rfl rfl ?_; refine d_neu (n_mul rfl rfl (by omega)) rfl rfl ?_; refine d_neu (n_move rfl rfl) rfl rfl ?_; refine d_neu (n_nilCheck_ref rfl) rfl rfl ?_; refine d_neu (n_field_ref rfl) rfl rfl ?_; refine d_neu (n_load_ref rfl rfl rfl) rfl rfl ?_; refine d_neu (n_move rfl rfl) rfl rfl ?_; refine d_neu (n_nilCheck_ref rfl) rfl rfl ?_; refine d_neu (n_field_ref rfl) rfl rfl ?_; refine d_neu (n_load_ref rfl rfl rfl) rfl rfl ?_; refine d_neu (n_index_s rfl rfl (by omega) hv) rfl rfl ?_; refine d_neu (n_sub_w rfl rfl) rfl rfl ?_; refine d_neu (n_convert rfl) rfl rfl ?_; refine d_neu (n_add rfl rfl (by (rw [hsub]; omega))) rfl rfl ?_; refine d_neu (n_assign rfl rfl) rfl rfl ?_; refine d_nil ?_
      rw [hsub]
      refine k1 ?_
      refine c_region ?_; refine l_neu (n_move rfl rfl) rfl ?_; refine l_neu (n_nilCheck_ref rfl) rfl ?_; refine l_neu (n_field_ref rfl) rfl ?_; refine l_neu (n_load_ref rfl rfl rfl) rfl ?_; refine l_neu (n_add rfl rfl (by omega)) rfl ?_; refine l_neu (n_nilCheck_ref rfl) rfl ?_; refine l_neu (n_field_ref rfl) rfl ?_; refine l_eff (e_store_ref TySz.out rfl rfl rfl rfl rfl rfl) ?_; refine l_nil ?_
      refine k4 ?_; refine k1 ?_
      refine c_region ?_; refine l_neu (n_add rfl rfl (by omega)) rfl ?_; refine l_neu (n_move rfl rfl) rfl ?_; refine l_nil ?_
      refine k1 ?_
      refine ⟨q + 1, ⟨by omega, fun p hp => ?_⟩, by omega, ?_⟩
      · by_cases hpq : p = q
        · rw [hpq]; exact hgood
        · exact hok p (by omega)
      rw [show ((octN s i (q + 1) : Nat) : Int) = 8 * ((octN s i q : Nat) : Int) + (((s.getD (i + q) 0).toNat - 48 : Nat) : Int) by simp only [octN]; omega, show rdBox s (i + (q + 1)) = .box [.p (.v (.string ⟨s.toArray⟩)), .p (.v (.int .i64 (((i + q : Nat) : Int) + 1)))] by unfold rdBox; congr 6]
      exact Sees.tailed ⟨le1 rfl, le1 rfl, le1 rfl, trivial⟩ hH (by repeat (first | exact tail_refl | refine tail_cons rfl ?_)) ob_dup
  · have hq3 : q = 3 := by have := of_decide_eq_false ht; omega
    subst hq3
    refine k6 ?_; refine k2 ?_
    refine c_region ?_; refine l_neu (n_move rfl rfl) rfl ?_; refine l_neu (n_convert rfl) rfl ?_; refine l_neu (n_move rfl rfl) rfl ?_; refine l_neu (n_lss rfl rfl) rfl ?_; refine l_neu (n_assign rfl rfl) rfl ?_; refine l_neu (n_assign rfl rfl) rfl ?_; refine l_nil ?_
    refine k1 ?_; refine k10 ?_
    refine met_ret (rets2 rfl rfl rfl) (by repeat (first | exact tail_refl | refine tail_cons rfl ?_ | refine tail_forget _ ?_)) (fun _ _ h => h) ⟨_, _, i + 3, rfl, rfl, hiq, ?_⟩
    rw [octI_all hok]
    by_cases hv : octN s i 3 < 256
    · rw [if_pos hv]
      refine ⟨decide_eq_true (by omega), ?_, rfl⟩
      rw [UInt8.toNat_ofNat']
      have : ∀ n : Fin 256, IntKind.u8.wrap ((n.1 : Nat) : Int) = ((n.1 % 2 ^ 8 : Nat) : Int) := by decide
      exact this ⟨_, hv⟩
    · rw [if_neg hv]
      exact decide_eq_false (by omega)
def escI (s : Str) (i : Nat) : Option (UInt8 × Nat) := if i < s.length then
    (if (s.getD i 0).toNat = 34 ∨ (s.getD i 0).toNat = 92 then some (s.getD i 0, i + 1) else if (s.getD i 0).toNat = 110 then some (10, i + 1) else if (s.getD i 0).toNat = 116 then some (9, i + 1) else (octI s i).map fun x => (x, i + 3))
  else none
theorem escI_eq (s : Str) (i : Nat) : escI s i = (escAt (s.drop i)).map fun p => (p.1, i + p.2) := by
  unfold escI
  by_cases hi : i < s.length
  · rw [if_pos hi]
    have h0 : (s.drop i)[0]? = some (s.getD i 0) := by rw [List.getElem?_drop]; exact gD hi
    have hg : ∀ q, (s.drop i)[q]? = s[i + q]? := fun q => List.getElem?_drop
    obtain ⟨d, r, hdr⟩ : ∃ d r, s.drop i = d :: r := by
      cases h : s.drop i with
      | nil => rw [h] at h0; cases h0
      | cons d r => exact ⟨d, r, rfl⟩
    rw [hdr] at h0 hg ⊢
    have hd : s.getD i 0 = d := by simpa using h0.symm
    rw [hd]
    simp only [escAt]
    by_cases c1 : d.toNat = 34 ∨ d.toNat = 92
    · rw [if_pos c1, if_pos c1]; rfl
    · rw [if_neg c1, if_neg c1]
      by_cases c2 : d.toNat = 110
      · rw [if_pos c2, if_pos c2]; rfl
      · rw [if_neg c2, if_neg c2]
        by_cases c3 : d.toNat = 116
        · rw [if_pos c3, if_pos c3]; rfl
        · rw [if_neg c3, if_neg c3]
          cases r with
          | nil =>
            have : ¬ octSound s i 1 := fun h => by have := h.1; have h2 := hg 1; rw [List.getElem?_eq_getElem this] at h2; simp at h2
            rw [octI_none (q := 1) (by omega) this]; rfl
          | cons e r2 =>
            cases r2 with
            | nil =>
              have : ¬ octSound s i 2 := fun h => by have := h.1; have h2 := hg 2; rw [List.getElem?_eq_getElem this] at h2; simp at h2
              rw [octI_none (q := 2) (by omega) this]; rfl
            | cons f r3 =>
              have h1 := hg 1
              have h2 := hg 2
              simp only [List.getElem?_cons_succ, List.getElem?_cons_zero] at h1 h2
              have l1 := (List.getElem?_eq_some_iff.1 h1.symm).1
              have l2 := (List.getElem?_eq_some_iff.1 h2.symm).1
              have e1 : s.getD (i + 1) 0 = e := by have := gD l1; rw [← h1] at this; exact (Option.some.inj this).symm
              have e2 : s.getD (i + 2) 0 = f := by have := gD l2; rw [← h2] at this; exact (Option.some.inj this).symm
              have hV : octI s i = octV d e f := by
                unfold octI octV octSound octOk
                simp only [octN, Nat.add_zero, hd, e1, e2]
                by_cases hc : (((((d.toNat < 48 ∨ 55 < d.toNat) ∨ e.toNat < 48) ∨ 55 < e.toNat) ∨ f.toNat < 48) ∨ 55 < f.toNat) ∨ 256 ≤ 64 * (d.toNat - 48) + 8 * (e.toNat - 48) + (f.toNat - 48)
                · rw [if_pos hc, if_neg (by omega)]
                · rw [if_neg hc, if_pos (by omega)]
                  congr 2; omega
              rw [hV]
              show (octV d e f).map _ = ((octV d e f).map _).map _
              rw [Option.map_map]; rfl
  · rw [if_neg hi, List.drop_eq_nil_of_le (by omega)]; rfl
theorem escI_le {s : Str} {i j : Nat} {x : UInt8} (h : escI s i = some (x, j)) : i < j ∧ j ≤ s.length := by
  rw [escI_eq] at h
  cases he : escAt (s.drop i) with
  | none => rw [he] at h; cases h
  | some p =>
    obtain ⟨y, k⟩ := p
    rw [he] at h
    simp at h
    have := escAt_pos he
    rw [List.length_drop] at this
    omega
theorem escape_met {gf : Fr} {ob : Obs} (s : Str) (i : Nat) (hi : i ≤ s.length) (hs : s.length ≤ 1073741824) (h5 : getO ob 705 = some (rdBox s i)) :
    AL.Met Tryd.prog 85 [.one (.ref 705 0)] gf ob []
      (fun rs ob' => ∃ (x : Int) (b : Bool) (j : Nat), rs = [t8 x, tBo b] ∧ ob' = (705, rdBox s j) :: ob ∧ j ≤ s.length ∧ match escI s i with
        | some (c, j') => b = true ∧ x = c.toNat ∧ j = j'
        | none => b = false) := by
  refine AL.Met.introH Tryd.func85 (by decide) rfl rfl rfl (fun hH => ?_)
  refine c_sees (fr' := [(0, .s (.one (.ref 705 0)))] ++ gf) (ob' := (705, rdBox s i) :: ob) (Sees.tailed ⟨le1 rfl, trivial⟩ hH (by repeat (first | exact tail_refl | refine tail_cons rfl ?_)) (ob_front h5)) ?_
  refine k2 ?_
  refine c_region ?_; refine l_neu (n_assign rfl rfl) rfl ?_; refine l_neu (n_assign rfl rfl) rfl ?_; refine l_nil ?_
  refine k1 ?_; refine k2 ?_; refine k2 ?_
  refine c_region_draw (by kernel_rfl) (by kernel_rfl) ?_; refine d_neu (n_move rfl rfl) rfl rfl ?_; refine d_neu (n_nilCheck_ref rfl) rfl rfl ?_; refine d_neu (n_field_ref rfl) rfl rfl ?_; refine d_neu (n_load_ref rfl rfl rfl) rfl rfl ?_; refine d_neu (n_move rfl rfl) rfl rfl ?_; refine d_neu (n_nilCheck_ref rfl) rfl rfl ?_; refine d_neu (n_field_ref rfl) rfl rfl ?_; refine d_neu (n_load_ref rfl rfl rfl) rfl rfl ?_; refine d_neu (n_len_s rfl) rfl rfl ?_; refine d_neu (n_geq rfl rfl) rfl rfl ?_; refine d_nil ?_
  refine k1 ?_
  refine c_cond rfl (fun ht => ?_) (fun ht => ?_)
  · have h1 : ¬ i < s.length := by have := of_decide_eq_true ht; omega
    refine k2 ?_
    refine c_region ?_; refine l_neu (n_assign rfl rfl) rfl ?_; refine l_neu (n_assign rfl rfl) rfl ?_; refine l_nil ?_
    refine k1 ?_; refine k10 ?_; refine k11 ?_
    refine met_ret (rets2 rfl rfl rfl) (by repeat (first | exact tail_refl | refine tail_cons rfl ?_ | refine tail_forget _ ?_)) (fun _ _ h => h) ⟨0, false, i, rfl, rfl, hi, ?_⟩
    unfold escI; rw [if_neg h1]
  have hlt : i < s.length := by have := of_decide_eq_false ht; omega
  obtain ⟨c, hc⟩ : ∃ c, c = s.getD i 0 := ⟨_, rfl⟩
  have hv : s[i]? = some c := by rw [hc]; exact gD hlt
  have hE : escI s i = (if c.toNat = 34 ∨ c.toNat = 92 then some (c, i + 1) else if c.toNat = 110 then some (10, i + 1) else if c.toNat = 116 then some (9, i + 1) else (octI s i).map fun x => (x, i + 3)) := by unfold escI; rw [if_pos hlt, ← hc]
  refine k5 ?_; refine k1 ?_; refine k2 ?_; refine k2 ?_
  refine c_region_draw (by kernel_rfl) (by kernel_rfl) ?_; refine d_neu (n_move rfl rfl) rfl rfl ?_; refine d_neu (n_nilCheck_ref rfl) rfl rfl ?_; refine d_neu (n_field_ref rfl) rfl rfl ?_; refine d_neu (n_load_ref rfl rfl rfl) rfl rfl ?_; refine d_neu (n_move rfl rfl) rfl rfl ?_; refine d_neu (n_nilCheck_ref rfl) rfl rfl ?_; refine d_neu (n_field_ref rfl) rfl rfl ?_; refine d_neu (n_load_ref rfl rfl rfl) rfl rfl ?_; refine d_neu (n_index_s rfl rfl (by omega) hv) rfl rfl ?_; refine d_neu (n_assign rfl rfl) rfl rfl ?_; refine d_nil ?_
  refine k1 ?_; refine k2 ?_
  refine c_region ?_; refine l_neu (n_move rfl rfl) rfl ?_; refine l_nil ?_
  refine then_normal ?_
  refine c_block ?_
  refine c_join ([(0, .s (.one (.ref 705 0))), (4, .s (t8 c.toNat)), (24, .s (t8 c.toNat)), (25, sVal (.bool (decide (c.toNat = 34 ∨ c.toNat = 92))))] ++ gf) ((705, rdBox s i) :: ob) ?_ ?_
  · refine k2 ?_
    refine c_region ?_; refine l_neu (n_eql rfl rfl) rfl ?_; refine l_neu (n_assign rfl rfl) rfl ?_; refine l_nil ?_
    refine k1 ?_
    refine c_cond rfl (fun ht => ?_) (fun ht => ?_)
    · have h1 : (c.toNat : Int) = 34 := of_decide_eq_true ht
      refine k5 ?_; refine k1 ?_
      exact Sees.tailed ⟨le1 rfl, le1 rfl, le1 rfl, ⟨_, rfl, .eq (by congr 4; apply propext; constructor <;> intro _ <;> omega)⟩, trivial⟩ hH (by repeat (first | exact tail_refl | refine tail_cons rfl ?_)) (fun _ _ h => h)
    · have h1 : ¬ (c.toNat : Int) = 34 := of_decide_eq_false ht
      skip
      refine c_region ?_; refine l_neu (n_eql rfl rfl) rfl ?_; refine l_neu (n_assign rfl rfl) rfl ?_; refine l_nil ?_
      refine k1 ?_
      exact Sees.tailed ⟨le1 rfl, le1 rfl, le1 rfl, ⟨_, rfl, .eq (by congr 4; apply propext; constructor <;> intro _ <;> omega)⟩, trivial⟩ hH (by repeat (first | exact tail_refl | refine tail_cons rfl ?_)) (fun _ _ h => h)
  skip
  refine c_cond rfl (fun ht => ?_) (fun ht => ?_)
  · have h1 := of_decide_eq_true ht
    rw [if_pos h1] at hE
    refine k2 ?_
    refine c_region ?_; refine l_neu (n_move rfl rfl) rfl ?_; refine l_neu (n_nilCheck_ref rfl) rfl ?_; refine l_neu (n_field_ref rfl) rfl ?_; refine l_neu (n_load_ref rfl rfl rfl) rfl ?_; refine l_neu (n_add rfl rfl (by omega)) rfl ?_; refine l_neu (n_nilCheck_ref rfl) rfl ?_; refine l_neu (n_field_ref rfl) rfl ?_; refine l_eff (e_store_ref TySz.out rfl rfl rfl rfl rfl rfl) ?_; refine l_nil ?_
    refine k1 ?_; refine k2 ?_
    refine c_region ?_; refine l_neu (n_move rfl rfl) rfl ?_; refine l_neu (n_assign rfl rfl) rfl ?_; refine l_neu (n_assign rfl rfl) rfl ?_; refine l_nil ?_
    refine k1 ?_; refine k10 ?_; refine k12 ?_; refine k11 ?_
    refine met_ret (rets2 rfl rfl rfl) (by repeat (first | exact tail_refl | refine tail_cons rfl ?_ | refine tail_forget _ ?_)) ob_dup ⟨c.toNat, true, i + 1, rfl, rfl, hlt, ?_⟩
    rw [hE]; exact ⟨rfl, rfl, rfl⟩
  have h1 := of_decide_eq_false ht
  rw [if_neg h1] at hE
  refine k2 ?_
  refine c_region ?_; refine l_neu (n_eql rfl rfl) rfl ?_; refine l_neu (n_assign rfl rfl) rfl ?_; refine l_nil ?_
  refine k1 ?_
  refine c_cond rfl (fun ht => ?_) (fun ht => ?_)
  · have h2 : (c.toNat : Int) = 110 := of_decide_eq_true ht
    rw [if_pos (by omega)] at hE
    refine k2 ?_
    refine c_region ?_; refine l_neu (n_move rfl rfl) rfl ?_; refine l_neu (n_nilCheck_ref rfl) rfl ?_; refine l_neu (n_field_ref rfl) rfl ?_; refine l_neu (n_load_ref rfl rfl rfl) rfl ?_; refine l_neu (n_add rfl rfl (by omega)) rfl ?_; refine l_neu (n_nilCheck_ref rfl) rfl ?_; refine l_neu (n_field_ref rfl) rfl ?_; refine l_eff (e_store_ref TySz.out rfl rfl rfl rfl rfl rfl) ?_; refine l_nil ?_
    refine k1 ?_; refine k2 ?_
    refine c_region ?_; refine l_neu (n_assign rfl rfl) rfl ?_; refine l_neu (n_assign rfl rfl) rfl ?_; refine l_nil ?_
    refine k1 ?_; refine k10 ?_; refine k12 ?_; refine k11 ?_
    refine met_ret (rets2 rfl rfl rfl) (by repeat (first | exact tail_refl | refine tail_cons rfl ?_ | refine tail_forget _ ?_)) ob_dup ⟨10, true, i + 1, rfl, rfl, hlt, ?_⟩
    rw [hE]; exact ⟨rfl, rfl, rfl⟩
  have h2 : ¬ (c.toNat : Int) = 110 := of_decide_eq_false ht
  rw [if_neg (by omega)] at hE
  refine k2 ?_
  refine c_region ?_; refine l_neu (n_eql rfl rfl) rfl ?_; refine l_neu (n_assign rfl rfl) rfl ?_; refine l_nil ?_
  refine k1 ?_
  refine c_cond rfl (fun ht => ?_) (fun ht => ?_)
  · have h3 : (c.toNat : Int) = 116 := of_decide_eq_true ht
    rw [if_pos (by omega)] at hE
    refine k2 ?_
    refine c_region ?_; refine l_neu (n_move rfl rfl) rfl ?_; refine l_neu (n_nilCheck_ref rfl) rfl ?_; refine l_neu (n_field_ref rfl) rfl ?_; refine l_neu (n_load_ref rfl rfl rfl) rfl ?_; refine l_neu (n_add rfl rfl (by omega)) rfl ?_; refine l_neu (n_nilCheck_ref rfl) rfl ?_; refine l_neu (n_field_ref rfl) rfl ?_; refine l_eff (e_store_ref TySz.out rfl rfl rfl rfl rfl rfl) ?_; refine l_nil ?_
    refine k1 ?_; refine k2 ?_
    refine c_region ?_; refine l_neu (n_assign rfl rfl) rfl ?_; refine l_neu (n_assign rfl rfl) rfl ?_; refine l_nil ?_
    refine k1 ?_; refine k10 ?_; refine k12 ?_; refine k11 ?_
    refine met_ret (rets2 rfl rfl rfl) (by repeat (first | exact tail_refl | refine tail_cons rfl ?_ | refine tail_forget _ ?_)) ob_dup ⟨9, true, i + 1, rfl, rfl, hlt, ?_⟩
    rw [hE]; exact ⟨rfl, rfl, rfl⟩
  have h3 : ¬ (c.toNat : Int) = 116 := of_decide_eq_false ht
  rw [if_neg (by omega)] at hE
  refine k5 ?_; refine k2 ?_
  refine c_region ?_; refine l_neu (n_move rfl rfl) rfl ?_; refine l_met (octal_met s i hi hs rfl) rfl rfl rfl ?_; rintro _ _ ⟨x, b, j, rfl, rfl, hj, ho⟩; refine l_neu (n_extract rfl rfl) rfl ?_; refine l_neu (n_extract rfl rfl) rfl ?_; refine l_neu (n_assign rfl rfl) rfl ?_; refine l_neu (n_assign rfl rfl) rfl ?_; refine l_nil ?_
  refine k1 ?_; refine k10 ?_
  refine met_ret (rets2 rfl rfl rfl) (by repeat (first | exact tail_refl | refine tail_cons rfl ?_ | refine tail_forget _ ?_)) ob_dup ⟨x, b, j, rfl, rfl, hj, ?_⟩
  rw [hE]
  cases hoc : octI s i with
  | none => rw [hoc] at ho; exact ho
  | some y => rw [hoc] at ho; exact ho
def goOn (s acc : Str) : Option (UInt8 × Nat) → Option (Str × Nat)
  | none => none
  | some (x, j) => wordGo s j (acc ++ [x])
theorem wordGo_step {s : Str} {i : Nat} {acc : Str} (h : i < s.length) : wordGo s i acc = if (s.getD i 0).toNat = 34 then some (acc, i + 1) else if (s.getD i 0).toNat = 92 then goOn s acc (escI s (i + 1)) else wordGo s (i + 1) (acc ++ [s.getD i 0]) := by
  have hg : s[i] = s.getD i 0 := by have := gD h; rw [List.getElem?_eq_getElem h] at this; exact Option.some.inj this
  rw [wordGo, dif_pos h, hg, escI_eq]
  by_cases c1 : (s.getD i 0).toNat = 34
  · rw [if_pos c1, if_pos c1]
  · rw [if_neg c1, if_neg c1]
    by_cases c2 : (s.getD i 0).toNat = 92
    · rw [if_pos c2, if_pos c2]
      split
      · rename_i he; rw [he]; rfl
      · rename_i x k he; rw [he]; rfl
    · rw [if_neg c2, if_neg c2]
theorem wordGo_end {s : Str} {i : Nat} {acc : Str} (h : s.length ≤ i) : wordGo s i acc = none := by rw [wordGo, dif_neg (by omega)]
theorem quoted_met {gf : Fr} (s : Str) (i : Nat) (hi : i ≤ s.length) (hs : s.length ≤ 1073741824) :
    AL.Met Tryd.prog 73 [.one (.ref 705 0)] gf [(705, rdBox s i)] [706]
      (fun rs ob' => ∃ (w : Str) (b : Bool) (j : Nat), rs = [.one (.p (.v (.string ⟨w.toArray⟩))), tBo b] ∧ ob' = [(705, rdBox s j)] ∧ j ≤ s.length ∧ match wordGo s i [] with
        | some (w', j') => b = true ∧ w = w' ∧ j = j'
        | none => b = false) := by
  refine AL.Met.introH Tryd.func73 (by decide) rfl rfl rfl (fun hH => ?_)
  refine k2 ?_
  refine c_region ?_; refine l_neu (n_assign rfl rfl) rfl ?_; refine l_neu (n_assign rfl rfl) rfl ?_; refine l_nil ?_
  refine k1 ?_; refine k2 ?_
  refine c_region ?_; refine l_effv (e_adoptG 706 _ u8C rfl rfl) rfl ?_; refine l_nil ?_
  refine k1 ?_; refine k2 ?_; refine k3 ?_
  refine c_while (X := Nat × Str) (fun z => ([(0, .s (.one (.ref 705 0))), (4, .s (.one (.mut 706)))] ++ Fr.forget 706 gf, [(706, .grow 5 UInt8 1 u8C z.2), (705, rdBox s z.1)])) (fun z => z.1 ≤ s.length ∧ z.2.length ≤ z.1 ∧ wordGo s z.1 z.2 = wordGo s i []) (fun z => s.length - z.1) (i, []) ⟨hi, Nat.zero_le _, rfl⟩ ?_ ?_
  · exact Sees.tailed ⟨le1 rfl, le1 rfl, trivial⟩ (high_forget hH) (by repeat (first | exact tail_refl | refine tail_cons rfl ?_ | refine tail_forget' _ ?_ | refine tail_forget _ ?_)) (ObIn.spec (ob' := [(706, _), (705, _)]) ⟨rfl, rfl, trivial⟩)
  rintro ⟨p, acc⟩ ⟨hp, hal, hgo⟩
  dsimp only at hp hal hgo ⊢
  refine k2 ?_; refine k2 ?_
  refine c_region_draw (by kernel_rfl) (by kernel_rfl) ?_; refine d_neu (n_move rfl rfl) rfl rfl ?_; refine d_neu (n_nilCheck_ref rfl) rfl rfl ?_; refine d_neu (n_field_ref rfl) rfl rfl ?_; refine d_neu (n_load_ref rfl rfl rfl) rfl rfl ?_; refine d_neu (n_move rfl rfl) rfl rfl ?_; refine d_neu (n_nilCheck_ref rfl) rfl rfl ?_; refine d_neu (n_field_ref rfl) rfl rfl ?_; refine d_neu (n_load_ref rfl rfl rfl) rfl rfl ?_; refine d_neu (n_len_s rfl) rfl rfl ?_; refine d_neu (n_lss rfl rfl) rfl rfl ?_; refine d_nil ?_
  refine k1 ?_
  refine c_cond rfl (fun ht => ?_) (fun ht => ?_)
  · have hlt : p < s.length := by have := of_decide_eq_true ht; omega
    obtain ⟨c, hc⟩ : ∃ c, c = s.getD p 0 := ⟨_, rfl⟩
    have hv : s[p]? = some c := by rw [hc]; exact gD hlt
    rw [wordGo_step hlt, ← hc] at hgo
    refine k5 ?_; refine k1 ?_; refine k3 ?_; refine k2 ?_
    refine c_region_draw (by kernel_rfl) (by kernel_rfl) ?_; refine d_neu (n_move rfl rfl) rfl rfl ?_; refine d_neu (n_nilCheck_ref rfl) rfl rfl ?_; refine d_neu (n_field_ref rfl) rfl rfl ?_; refine d_neu (n_load_ref rfl rfl rfl) rfl rfl ?_; refine d_neu (n_move rfl rfl) rfl rfl ?_; refine d_neu (n_nilCheck_ref rfl) rfl rfl ?_; refine d_neu (n_field_ref rfl) rfl rfl ?_; refine d_neu (n_load_ref rfl rfl rfl) rfl rfl ?_; refine d_neu (n_index_s rfl rfl (by omega) hv) rfl rfl ?_; refine d_neu (n_assign rfl rfl) rfl rfl ?_; refine d_nil ?_
    refine k1 ?_; refine k2 ?_
    refine c_region ?_; refine l_neu (n_move rfl rfl) rfl ?_; refine l_neu (n_nilCheck_ref rfl) rfl ?_; refine l_neu (n_field_ref rfl) rfl ?_; refine l_neu (n_load_ref rfl rfl rfl) rfl ?_; refine l_neu (n_add rfl rfl (by omega)) rfl ?_; refine l_neu (n_nilCheck_ref rfl) rfl ?_; refine l_neu (n_field_ref rfl) rfl ?_; refine l_eff (e_store_ref TySz.out rfl rfl rfl rfl rfl rfl) ?_; refine l_nil ?_
    refine k1 ?_; refine k2 ?_; refine k2 ?_
    refine c_region ?_; refine l_neu (n_move rfl rfl) rfl ?_; refine l_neu (n_eql rfl rfl) rfl ?_; refine l_nil ?_
    refine k1 ?_
    refine c_cond rfl (fun ht => ?_) (fun ht => ?_)
    · have h1 : (c.toNat : Int) = 34 := of_decide_eq_true ht
      rw [if_pos (by omega)] at hgo
      refine k2 ?_
      refine c_sees (Sees.growBuf (t := 4) rfl rfl rfl) ?_
      refine c_region ?_; refine l_neu (n_move rfl rfl) rfl ?_; refine l_neu (n_bytes_string TyStr.out rfl (.buf _ _ _ _ _)) rfl ?_; refine l_neu (n_assign rfl rfl) rfl ?_; refine l_neu (n_assign rfl rfl) rfl ?_; refine l_nil ?_
      refine k1 ?_; refine k10 ?_; refine k11 ?_; refine k12 ?_; refine k11 ?_; refine k12 ?_; refine k11 ?_
      refine met_ret (rets2 rfl rfl rfl) (by repeat (first | exact tail_refl | refine tail_cons rfl ?_ | refine tail_forget _ ?_)) (ObIn.spec (ob' := [(705, rdBox s (p + 1))]) ⟨rfl, trivial⟩) ⟨acc, true, p + 1, rfl, rfl, hlt, ?_⟩
      rw [← hgo]; exact ⟨rfl, rfl, rfl⟩
    have h1 : ¬ (c.toNat : Int) = 34 := of_decide_eq_false ht
    rw [if_neg (by omega)] at hgo
    obtain ⟨nx, hnx⟩ : ∃ nx : Option (UInt8 × Nat), nx = if c.toNat = 92 then escI s (p + 1) else some (c, p + 1) := ⟨_, rfl⟩
    have hgo2 : goOn s acc nx = wordGo s i [] := by
      rw [← hgo, hnx]
      by_cases h2 : c.toNat = 92
      · rw [if_pos h2, if_pos h2]
      · rw [if_neg h2, if_neg h2]; rfl
    have hnb : ∀ x j, nx = some (x, j) → p < j ∧ j ≤ s.length := by
      intro x j hj
      rw [hnx] at hj
      by_cases h2 : c.toNat = 92
      · rw [if_pos h2] at hj; have := escI_le hj; omega
      · rw [if_neg h2] at hj; cases hj; omega
    cases hq : nx with
    | none =>
      refine k5 ?_; refine k1 ?_; refine k2 ?_; refine k2 ?_
      refine c_region ?_; refine l_neu (n_move rfl rfl) rfl ?_; refine l_neu (n_eql rfl rfl) rfl ?_; refine l_nil ?_
      refine k1 ?_
      rw [hq] at hgo2
      have h2 : c.toNat = 92 := by
        by_cases h2 : c.toNat = 92
        · exact h2
        · rw [if_neg h2, hq] at hnx; cases hnx
      rw [if_pos h2, hq] at hnx
      refine c_cond rfl (fun ht => ?_) (fun ht => ?_)
      rotate_left
      · exact absurd (show (c.toNat : Int) = 92 by omega) (of_decide_eq_false ht)
      refine k2 ?_
      refine c_region ?_; refine l_neu (n_assign rfl rfl) rfl ?_; refine l_nil ?_
      refine k1 ?_; refine k2 ?_
      refine c_region ?_; refine l_neu (n_move rfl rfl) rfl ?_; refine l_met (escape_met s (p + 1) hlt hs rfl) rfl rfl rfl ?_; rintro _ _ ⟨x, b, j, rfl, rfl, hj, ho⟩; refine l_neu (n_move rfl rfl) rfl ?_; refine l_neu (n_extract rfl rfl) rfl ?_; refine l_neu (n_extract rfl rfl) rfl ?_; refine l_neu (n_assign rfl rfl) rfl ?_; refine l_neu (n_assign rfl rfl) rfl ?_; refine l_nil ?_
      rw [← hnx] at ho
      have ho : b = false := ho
      subst ho
      refine k1 ?_; refine k2 ?_
      refine c_region ?_; refine l_neu (n_move rfl rfl) rfl ?_; refine l_neu (n_not rfl) rfl ?_; refine l_nil ?_
      refine k1 ?_
      refine c_cond rfl (fun ht => ?_) (fun ht => ?_)
      · refine k2 ?_
        refine c_region ?_; refine l_neu (n_assign rfl rfl) rfl ?_; refine l_neu (n_assign rfl rfl) rfl ?_; refine l_nil ?_
        refine k1 ?_; refine k10 ?_; refine k11 ?_; refine k12 ?_; refine k11 ?_; refine k12 ?_; refine k11 ?_
        refine met_ret (rets2 rfl rfl rfl) (by repeat (first | exact tail_refl | refine tail_cons rfl ?_ | refine tail_forget _ ?_)) (ObIn.spec (ob' := [(705, rdBox s j)]) ⟨rfl, trivial⟩) ⟨[], false, j, rfl, rfl, hj, ?_⟩
        rw [← hgo2]; exact (rfl : false = false)
      · cases ht
    | some q =>
      obtain ⟨y, j⟩ := q
      obtain ⟨hj1, hj2⟩ := hnb y j hq
      rw [hq] at hgo2
      refine c_skip ?_
      refine then_normal ?_
      refine c_join ([(0, .s (.one (.ref 705 0))), (4, .s (.one (.mut 706))), (5, .s (t8 y.toNat))] ++ Fr.forget 706 gf) [(706, .grow 5 UInt8 1 u8C acc), (705, rdBox s j)] ?_ ?_
      · refine k2 ?_
        refine c_region ?_; refine l_neu (n_move rfl rfl) rfl ?_; refine l_neu (n_eql rfl rfl) rfl ?_; refine l_nil ?_
        refine k1 ?_
        refine c_cond rfl (fun ht => ?_) (fun ht => ?_)
        · have h2 : c.toNat = 92 := by have : (c.toNat : Int) = 92 := of_decide_eq_true ht; omega
          rw [if_pos h2, hq] at hnx
          refine k2 ?_
          refine c_region ?_; refine l_neu (n_assign rfl rfl) rfl ?_; refine l_nil ?_
          refine k1 ?_; refine k2 ?_
          refine c_region ?_; refine l_neu (n_move rfl rfl) rfl ?_; refine l_met (escape_met s (p + 1) hlt hs rfl) rfl rfl rfl ?_; rintro _ _ ⟨x, b, j', rfl, rfl, hj, ho⟩; refine l_neu (n_move rfl rfl) rfl ?_; refine l_neu (n_extract rfl rfl) rfl ?_; refine l_neu (n_extract rfl rfl) rfl ?_; refine l_neu (n_assign rfl rfl) rfl ?_; refine l_neu (n_assign rfl rfl) rfl ?_; refine l_nil ?_
          rw [← hnx] at ho
          obtain ⟨rfl, rfl, rfl⟩ := ho
          refine k1 ?_; refine k2 ?_
          refine c_region ?_; refine l_neu (n_move rfl rfl) rfl ?_; refine l_neu (n_not rfl) rfl ?_; refine l_nil ?_
          refine k1 ?_
          refine c_cond rfl (fun ht => ?_) (fun ht => ?_)
          · cases ht
          refine k5 ?_; refine k1 ?_
          exact Sees.tailed ⟨le1 rfl, le1 rfl, le1 rfl, trivial⟩ (high_forget hH) (by repeat (first | exact tail_refl | refine tail_cons rfl ?_)) (ObIn.spec (ob' := [(706, _), (705, _)]) ⟨rfl, rfl, trivial⟩)
        · have h2 : ¬ c.toNat = 92 := by have : ¬ (c.toNat : Int) = 92 := of_decide_eq_false ht; omega
          rw [if_neg h2, hq] at hnx
          obtain ⟨rfl, rfl⟩ : y = c ∧ j = p + 1 := by simpa using hnx
          refine k5 ?_; refine k1 ?_
          exact Sees.tailed ⟨le1 rfl, le1 rfl, le1 rfl, trivial⟩ (high_forget hH) (by repeat (first | exact tail_refl | refine tail_cons rfl ?_)) (ObIn.spec (ob' := [(706, _), (705, _)]) ⟨rfl, rfl, trivial⟩)
      skip
      refine c_region ?_; refine l_neu (n_move rfl rfl) rfl ?_; refine l_neu (n_move rfl rfl) rfl ?_; refine l_neu (n_buildSlice (c := u8C) (ys := [y]) (asm_cons rfl rfl rfl rfl asm_nil) rfl rfl rfl) rfl ?_; refine l_effv (e_append_g rfl rfl rfl (.pure _ _ _ _) (by (simp; omega)) rfl) rfl ?_; refine l_neu (n_assign rfl rfl) rfl ?_; refine l_nil ?_
      refine k4 ?_; refine k1 ?_
      refine ⟨(j, acc ++ [y]), ⟨hj2, by simp; omega, hgo2⟩, by dsimp only; omega, ?_⟩
      exact Sees.tailed ⟨le1 rfl, le1 rfl, trivial⟩ (high_forget hH) (by repeat (first | exact tail_refl | refine tail_cons rfl ?_ | refine tail_forget' _ ?_)) (ObIn.spec (ob' := [(706, _), (705, _)]) ⟨rfl, rfl, trivial⟩)
  · have hend : s.length ≤ p := by have := of_decide_eq_false ht; omega
    rw [wordGo_end hend] at hgo
    refine k6 ?_; refine k2 ?_
    refine c_region ?_; refine l_neu (n_assign rfl rfl) rfl ?_; refine l_neu (n_assign rfl rfl) rfl ?_; refine l_nil ?_
    refine k1 ?_; refine k10 ?_
    refine met_ret (rets2 rfl rfl rfl) (by repeat (first | exact tail_refl | refine tail_cons rfl ?_ | refine tail_forget _ ?_)) (ObIn.spec (ob' := [(705, rdBox s p)]) ⟨rfl, trivial⟩) ⟨[], false, p, rfl, rfl, hp, ?_⟩
    rw [← hgo]
theorem getD_drop {s : Str} {i k : Nat} (h : i + k < s.length) : (s.drop i).getD k 0 = s.getD (i + k) 0 := by
  have h1 := gD (s := s.drop i) (i := k) (by rw [List.length_drop]; omega)
  rw [List.getElem?_drop, gD h] at h1
  exact (Option.some.inj h1).symm
theorem wordGo_drop (s : Str) (i : Nat) (n : Nat) : ∀ (k : Nat) (acc : Str), s.length - (i + k) ≤ n → wordGo (s.drop i) k acc = (wordGo s (i + k) acc).map fun p => (p.1, p.2 - i) := by
  induction n with
  | zero =>
    intro k acc h
    rw [wordGo_end (by rw [List.length_drop]; omega), wordGo_end (by omega)]; rfl
  | succ n ih =>
    intro k acc h
    by_cases hlt : i + k < s.length
    · rw [wordGo_step (by rw [List.length_drop]; omega), wordGo_step hlt, getD_drop hlt]
      by_cases c1 : (s.getD (i + k) 0).toNat = 34
      · rw [if_pos c1, if_pos c1]; simp; omega
      · rw [if_neg c1, if_neg c1]
        by_cases c2 : (s.getD (i + k) 0).toNat = 92
        · rw [if_pos c2, if_pos c2, escI_eq, escI_eq, List.drop_drop, show i + (k + 1) = i + k + 1 by omega]
          cases he : escAt (s.drop (i + k + 1)) with
          | none => rfl
          | some q =>
            obtain ⟨x, e⟩ := q
            simp only [Option.map_some]
            show wordGo (s.drop i) (k + 1 + e) (acc ++ [x]) = Option.map _ (wordGo s (i + k + 1 + e) (acc ++ [x]))
            rw [ih (k + 1 + e) _ (by omega), show i + (k + 1 + e) = i + k + 1 + e by omega]
        · rw [if_neg c2, if_neg c2, ih (k + 1) _ (by omega), show i + (k + 1) = i + k + 1 by omega]
    · rw [wordGo_end (by rw [List.length_drop]; omega), wordGo_end (by omega)]; rfl
theorem head_drop {s : Str} {i : Nat} : (s.drop i).head? = some 34 ↔ (i < s.length ∧ (s.getD i 0).toNat = 34) := by
  rw [List.head?_drop]
  by_cases h : i < s.length
  · rw [gD h, Option.some.injEq, ← UInt8.toNat_inj]
    have : (34 : UInt8).toNat = 34 := rfl
    constructor
    · intro h1; exact ⟨h, by omega⟩
    · intro h1; omega
  · rw [List.getElem?_eq_none (by omega)]
    constructor
    · intro h1; cases h1
    · intro h1; exact absurd h1.1 h
theorem takeWhile_le {p : UInt8 → Bool} (s : Str) (i : Nat) : ((s.drop i).takeWhile p).length ≤ s.length - i := by
  have := (List.takeWhile_sublist p (l := s.drop i)).length_le
  rw [List.length_drop] at this; exact this
theorem takeWhile_take {p : UInt8 → Bool} : ∀ (s : Str), s.take (s.takeWhile p).length = s.takeWhile p
  | [] => rfl
  | c :: r => by
    by_cases hc : p c = true
    · rw [List.takeWhile_cons, if_pos hc, List.length_cons, List.take_succ_cons, takeWhile_take r]
    · rw [List.takeWhile_cons, if_neg hc]; rfl
theorem wordGo_len {s : Str} {i j : Nat} {w : Str} (h : wordGo s i [] = some (w, j)) : i < j ∧ j ≤ s.length ∧ w.length + i ≤ j := by
  have := wordGo_pos (s := s) (s.length - i) (Nat.le_refl _) h
  simpa using this
set_option maxHeartbeats 1000000
theorem word_met {gf : Fr} (s : Str) (i : Nat) (hi : i ≤ s.length) (hs : s.length ≤ 16777216) :
    AL.Met Tryd.prog 49 [.one (.ref 705 0)] gf [(705, rdBox s i)] [706]
      (fun rs ob' => ∃ (w : Str) (b : Bool) (j : Nat), rs = [.one (.p (.v (.string ⟨w.toArray⟩))), tBo b] ∧ ob' = [(705, rdBox s j)] ∧ j ≤ s.length ∧ match wordAt (s.drop i) with
        | some (w', k) => b = true ∧ w = w' ∧ j = i + k
        | none => b = false) := by
  have hcase : (i < s.length ∧ (s.getD i 0).toNat = 34 ∧ wordGo s (i + 1) [] = none) ∨
      ∃ w j, ((i < s.length ∧ (s.getD i 0).toNat = 34 ∧ wordGo s (i + 1) [] = some (w, j)) ∨ (¬ (i < s.length ∧ (s.getD i 0).toNat = 34) ∧ w = (s.drop i).takeWhile plainB ∧ j = i + w.length)) ∧
        i ≤ j ∧ j ≤ s.length ∧ w.length ≤ s.length ∧ wordAt (s.drop i) = if quoteOf w = (s.drop i).take (j - i) then some (w, j - i) else none := by
    by_cases hq : i < s.length ∧ (s.getD i 0).toNat = 34
    · cases hg : wordGo s (i + 1) [] with
      | none => exact .inl ⟨hq.1, hq.2, rfl⟩
      | some p =>
        obtain ⟨w, j⟩ := p
        have h1 := wordGo_len hg
        refine .inr ⟨w, j, .inl ⟨hq.1, hq.2, rfl⟩, by omega, by omega, by omega, ?_⟩
        unfold wordAt
        rw [if_pos (head_drop.2 hq), wordGo_drop s i s.length 1 [] (by omega), hg]
        rfl
    · have hl := takeWhile_le (p := plainB) s i
      refine .inr ⟨(s.drop i).takeWhile plainB, _, .inr ⟨hq, rfl, rfl⟩, by omega, by omega, by omega, ?_⟩
      unfold wordAt
      rw [if_neg (fun h => hq (head_drop.1 h)), show i + ((s.drop i).takeWhile plainB).length - i = ((s.drop i).takeWhile plainB).length by omega, takeWhile_take]
      by_cases hn : (s.drop i).takeWhile plainB = []
      · rw [if_pos hn, hn]; rfl
      · rw [if_neg hn]
        have : quoteOf ((s.drop i).takeWhile plainB) = (s.drop i).takeWhile plainB := by unfold quoteOf; rw [if_pos ⟨hn, List.all_takeWhile⟩]
        rw [this, if_pos rfl]
  have htest : decide ((i : Int) < (s.length : Int) ∧ ((s.getD i 0).toNat : Int) = 34) = decide (i < s.length ∧ (s.getD i 0).toNat = 34) := by congr 1; apply propext; constructor <;> intro h <;> omega
  refine AL.Met.introH Tryd.func49 (by decide) rfl rfl rfl (fun hH => ?_)
  refine k2 ?_
  refine c_region ?_; refine l_neu (n_assign rfl rfl) rfl ?_; refine l_neu (n_assign rfl rfl) rfl ?_; refine l_nil ?_
  refine k1 ?_; refine k2 ?_
  refine c_region ?_; refine l_neu (n_move rfl rfl) rfl ?_; refine l_neu (n_nilCheck_ref rfl) rfl ?_; refine l_neu (n_field_ref rfl) rfl ?_; refine l_neu (n_load_ref rfl rfl rfl) rfl ?_; refine l_neu (n_assign rfl rfl) rfl ?_; refine l_nil ?_
  refine k1 ?_; refine k2 ?_
  refine c_region ?_; refine l_neu (n_assign rfl rfl) rfl ?_; refine l_nil ?_
  rcases hcase with ⟨hlt, h34, hg⟩ | ⟨w, j, hwj, hij, hjl, hwl, hW⟩
  · refine k1 ?_; refine k2 ?_; refine k2 ?_
    refine c_region ?_; refine l_neu (n_move rfl rfl) rfl ?_; refine l_neu (n_move rfl rfl) rfl ?_; refine l_neu (n_nilCheck_ref rfl) rfl ?_; refine l_neu (n_field_ref rfl) rfl ?_; refine l_neu (n_load_ref rfl rfl rfl) rfl ?_; refine l_neu (n_len_s rfl) rfl ?_; refine l_neu (n_lss rfl rfl) rfl ?_; refine l_neu (n_move rfl rfl) rfl ?_; refine l_guard rfl rfl rfl rfl (fun hg => by rw [hg]; exact n_move rfl rfl) ?_; refine l_guard rfl rfl rfl rfl (fun hg => by rw [hg]; exact n_nilCheck_ref rfl) ?_; refine l_guard rfl rfl rfl rfl (fun hg => by rw [hg]; exact n_field_ref rfl) ?_; refine l_guard rfl rfl rfl rfl (fun hg => by rw [hg]; exact n_load_ref rfl rfl rfl) ?_; refine l_guard rfl rfl rfl rfl (fun hg => by rw [hg]; exact n_move rfl rfl) ?_; refine l_guard rfl rfl rfl rfl (fun hg => by have hq := hg; (try simp at hq); rw [hg]; exact n_index_s rfl rfl (by omega) (gD (by omega))) ?_; refine l_guard rfl rfl rfl rfl (fun hg => by rw [hg]; exact n_eql rfl rfl) ?_; refine l_neu (n_pick_bool rfl (fun h => by first | rfl | (rw [h]; rfl)) (fun h => by first | rfl | (rw [h]; rfl))) rfl ?_; refine l_nil ?_
    simp only [and_pick, Int.toNat_natCast]
    rw [htest]
    refine k1 ?_
    refine c_cond rfl (fun ht => ?_) (fun ht => ?_)
    rotate_left
    · exact absurd ⟨hlt, h34⟩ (of_decide_eq_false ht)
    refine k2 ?_
    refine c_region ?_; refine l_neu (n_move rfl rfl) rfl ?_; refine l_neu (n_nilCheck_ref rfl) rfl ?_; refine l_neu (n_field_ref rfl) rfl ?_; refine l_neu (n_load_ref rfl rfl rfl) rfl ?_; refine l_neu (n_add rfl rfl (by omega)) rfl ?_; refine l_neu (n_nilCheck_ref rfl) rfl ?_; refine l_neu (n_field_ref rfl) rfl ?_; refine l_eff (e_store_ref TySz.out rfl rfl rfl rfl rfl rfl) ?_; refine l_nil ?_
    refine k1 ?_; refine k2 ?_
    refine c_sees (fr' := [(0, .s (.one (.ref 705 0))), (4, sInt i)] ++ gf) (ob' := [(705, rdBox s (i + 1))]) (Sees.tailed ⟨le1 rfl, le1 rfl, trivial⟩ hH (by repeat (first | exact tail_refl | refine tail_cons rfl ?_)) (ObIn.spec (ob' := [(705, _)]) ⟨rfl, trivial⟩)) ?_
    refine c_region ?_; refine l_neu (n_assign rfl rfl) rfl ?_; refine l_nil ?_
    refine k1 ?_; refine k2 ?_
    refine c_region ?_; refine l_neu (n_move rfl rfl) rfl ?_; refine l_met (quoted_met s (i + 1) hlt (by omega)) rfl rfl rfl ?_; rintro _ _ ⟨w, b, j, rfl, rfl, hj, ho⟩; refine l_neu (n_move rfl rfl) rfl ?_; refine l_neu (n_extract rfl rfl) rfl ?_; refine l_neu (n_extract rfl rfl) rfl ?_; refine l_neu (n_assign rfl rfl) rfl ?_; refine l_neu (n_assign rfl rfl) rfl ?_; refine l_nil ?_
    rw [hg] at ho
    have ho : b = false := ho
    subst ho
    refine k1 ?_; refine k2 ?_
    refine c_region ?_; refine l_neu (n_move rfl rfl) rfl ?_; refine l_neu (n_not rfl) rfl ?_; refine l_nil ?_
    refine k1 ?_
    refine c_cond rfl (fun ht => ?_) (fun ht => ?_)
    · refine k2 ?_
      refine c_region ?_; refine l_neu (n_assign rfl rfl) rfl ?_; refine l_neu (n_assign rfl rfl) rfl ?_; refine l_nil ?_
      refine k1 ?_; refine k10 ?_; refine k11 ?_
      refine met_ret (rets2 rfl rfl rfl) (by repeat (first | exact tail_refl | refine tail_cons rfl ?_ | refine tail_forget _ ?_)) (fun _ _ h => h) ⟨[], false, j, rfl, rfl, hj, ?_⟩
      have : wordAt (s.drop i) = none := by
        unfold wordAt
        rw [if_pos (head_drop.2 ⟨hlt, h34⟩), wordGo_drop s i s.length 1 [] (by omega), hg]; rfl
      rw [this]
    · cases ht
  · refine then_normal ?_
    refine c_join ([(0, .s (.one (.ref 705 0))), (4, sInt i), (5, sStr w)] ++ Fr.forget 706 gf) [(705, rdBox s j)] ?_ ?_
    · refine k2 ?_
      refine c_region ?_; refine l_neu (n_move rfl rfl) rfl ?_; refine l_neu (n_move rfl rfl) rfl ?_; refine l_neu (n_nilCheck_ref rfl) rfl ?_; refine l_neu (n_field_ref rfl) rfl ?_; refine l_neu (n_load_ref rfl rfl rfl) rfl ?_; refine l_neu (n_len_s rfl) rfl ?_; refine l_neu (n_lss rfl rfl) rfl ?_; refine l_neu (n_move rfl rfl) rfl ?_; refine l_guard rfl rfl rfl rfl (fun hg => by rw [hg]; exact n_move rfl rfl) ?_; refine l_guard rfl rfl rfl rfl (fun hg => by rw [hg]; exact n_nilCheck_ref rfl) ?_; refine l_guard rfl rfl rfl rfl (fun hg => by rw [hg]; exact n_field_ref rfl) ?_; refine l_guard rfl rfl rfl rfl (fun hg => by rw [hg]; exact n_load_ref rfl rfl rfl) ?_; refine l_guard rfl rfl rfl rfl (fun hg => by rw [hg]; exact n_move rfl rfl) ?_; refine l_guard rfl rfl rfl rfl (fun hg => by have hq := hg; (try simp at hq); rw [hg]; exact n_index_s rfl rfl (by omega) (gD (by omega))) ?_; refine l_guard rfl rfl rfl rfl (fun hg => by rw [hg]; exact n_eql rfl rfl) ?_; refine l_neu (n_pick_bool rfl (fun h => by first | rfl | (rw [h]; rfl)) (fun h => by first | rfl | (rw [h]; rfl))) rfl ?_; refine l_nil ?_
      simp only [and_pick, Int.toNat_natCast]
      rw [htest]
      refine k1 ?_
      refine c_cond rfl (fun ht => ?_) (fun ht => ?_)
      · have hq := of_decide_eq_true ht
        rcases hwj with ⟨_, _, hg⟩ | ⟨hn, _⟩
        · refine k2 ?_
          refine c_region ?_; refine l_neu (n_move rfl rfl) rfl ?_; refine l_neu (n_nilCheck_ref rfl) rfl ?_; refine l_neu (n_field_ref rfl) rfl ?_; refine l_neu (n_load_ref rfl rfl rfl) rfl ?_; refine l_neu (n_add rfl rfl (by omega)) rfl ?_; refine l_neu (n_nilCheck_ref rfl) rfl ?_; refine l_neu (n_field_ref rfl) rfl ?_; refine l_eff (e_store_ref TySz.out rfl rfl rfl rfl rfl rfl) ?_; refine l_nil ?_
          refine k1 ?_; refine k2 ?_
          refine c_sees (fr' := [(0, .s (.one (.ref 705 0))), (4, sInt i)] ++ gf) (ob' := [(705, rdBox s (i + 1))]) (Sees.tailed ⟨le1 rfl, le1 rfl, trivial⟩ hH (by repeat (first | exact tail_refl | refine tail_cons rfl ?_)) (ObIn.spec (ob' := [(705, _)]) ⟨rfl, trivial⟩)) ?_
          refine c_region ?_; refine l_neu (n_assign rfl rfl) rfl ?_; refine l_nil ?_
          refine k1 ?_; refine k2 ?_
          refine c_region ?_; refine l_neu (n_move rfl rfl) rfl ?_; refine l_met (quoted_met s (i + 1) hq.1 (by omega)) rfl rfl rfl ?_; rintro _ _ ⟨w', b, j', rfl, rfl, hj, ho⟩; refine l_neu (n_move rfl rfl) rfl ?_; refine l_neu (n_extract rfl rfl) rfl ?_; refine l_neu (n_extract rfl rfl) rfl ?_; refine l_neu (n_assign rfl rfl) rfl ?_; refine l_neu (n_assign rfl rfl) rfl ?_; refine l_nil ?_
          rw [hg] at ho
          obtain ⟨rfl, rfl, rfl⟩ := ho
          refine k1 ?_; refine k2 ?_
          refine c_region ?_; refine l_neu (n_move rfl rfl) rfl ?_; refine l_neu (n_not rfl) rfl ?_; refine l_nil ?_
          refine k1 ?_
          refine c_cond rfl (fun ht => ?_) (fun ht => ?_)
          · cases ht
          refine k5 ?_; refine k1 ?_
          exact Sees.tailed ⟨le1 rfl, le1 rfl, le1 rfl, trivial⟩ (high_forget hH) (by repeat (first | exact tail_refl | refine tail_cons rfl ?_ | refine tail_forget' _ ?_ | refine tail_forget _ ?_)) (ObIn.spec (ob' := [(705, _)]) ⟨rfl, trivial⟩)
        · exact absurd hq hn
      · have hq := of_decide_eq_false ht
        rcases hwj with ⟨h1, h2, _⟩ | ⟨_, hw, hj⟩
        · exact absurd ⟨h1, h2⟩ hq
        have hl := takeWhile_le (p := plainB) s i
        rw [← hw] at hl
        refine k2 ?_; refine k3 ?_
        refine c_while (X := Nat) (fun k => ([(0, .s (.one (.ref 705 0))), (4, sInt i)] ++ gf, [(705, rdBox s (i + k))])) (fun k => k ≤ w.length) (fun k => w.length - k) 0 (Nat.zero_le _) ?_ ?_
        · exact Sees.tailed ⟨le1 rfl, le1 rfl, trivial⟩ hH (by repeat (first | exact tail_refl | refine tail_cons rfl ?_)) (ObIn.spec (ob' := [(705, _)]) ⟨rfl, trivial⟩)
        intro k hk
        dsimp only at hk ⊢
        have hrun := takeWhile_at (p := plainB) (s.drop i) k (by rw [← hw]; exact hk)
        rw [← hw, List.getElem?_drop] at hrun
        obtain ⟨c, hc⟩ : ∃ c, c = s.getD (i + k) 0 := ⟨_, rfl⟩
        have hv : i + k < s.length → s[i + k]? = some c := fun h => by rw [hc]; exact gD h
        have hrun2 : (if decide (((i + k : Nat) : Int) < (s.length : Int)) = true then plainB c else false) = decide (k < w.length) := by
          rw [← hrun]
          by_cases hlt : i + k < s.length
          · rw [hv hlt, if_pos (decide_eq_true (by omega))]
          · rw [List.getElem?_eq_none (by omega), if_neg (by simp; omega)]
        refine k2 ?_; refine k2 ?_
        refine c_region_draw (by kernel_rfl) (by kernel_rfl) ?_; refine d_neu (n_move rfl rfl) rfl rfl ?_; refine d_neu (n_nilCheck_ref rfl) rfl rfl ?_; refine d_neu (n_field_ref rfl) rfl rfl ?_; refine d_neu (n_load_ref rfl rfl rfl) rfl rfl ?_; refine d_neu (n_move rfl rfl) rfl rfl ?_; refine d_neu (n_nilCheck_ref rfl) rfl rfl ?_; refine d_neu (n_field_ref rfl) rfl rfl ?_; refine d_neu (n_load_ref rfl rfl rfl) rfl rfl ?_; refine d_neu (n_len_s rfl) rfl rfl ?_; refine d_neu (n_lss rfl rfl) rfl rfl ?_; refine d_neu (n_move rfl rfl) rfl rfl ?_; refine d_guard rfl rfl (fun hg => by rw [hg]; exact n_move rfl rfl) rfl rfl ?_; refine d_guard rfl rfl (fun hg => by rw [hg]; exact n_nilCheck_ref rfl) rfl rfl ?_; refine d_guard rfl rfl (fun hg => by rw [hg]; exact n_field_ref rfl) rfl rfl ?_; refine d_guard rfl rfl (fun hg => by rw [hg]; exact n_load_ref rfl rfl rfl) rfl rfl ?_; refine d_guard rfl rfl (fun hg => by rw [hg]; exact n_move rfl rfl) rfl rfl ?_; refine d_guard rfl rfl (fun hg => by rw [hg]; exact n_nilCheck_ref rfl) rfl rfl ?_; refine d_guard rfl rfl (fun hg => by rw [hg]; exact n_field_ref rfl) rfl rfl ?_; refine d_guard rfl rfl (fun hg => by rw [hg]; exact n_load_ref rfl rfl rfl) rfl rfl ?_; refine d_guard rfl rfl (fun hg => by have hq := hg; (try simp at hq); rw [hg]; exact n_index_s rfl rfl (by omega) (hv (by omega))) rfl rfl ?_; refine d_guard rfl rfl (fun hg => by have hq := hg; (try simp at hq); rw [hg]; exact n_call1 (splain_ok c) rfl rfl) rfl rfl ?_; refine d_neu (n_pick_bool rfl (fun h => by first | rfl | (rw [h]; rfl)) (fun h => by first | rfl | (rw [h]; rfl))) rfl rfl ?_; refine d_nil ?_
        rw [hrun2]
        refine k1 ?_
        refine c_cond rfl (fun ht => ?_) (fun ht => ?_)
        · have hlt := of_decide_eq_true ht
          refine k5 ?_; refine k1 ?_; refine k3 ?_
          refine c_region ?_; refine l_neu (n_move rfl rfl) rfl ?_; refine l_neu (n_nilCheck_ref rfl) rfl ?_; refine l_neu (n_field_ref rfl) rfl ?_; refine l_neu (n_load_ref rfl rfl rfl) rfl ?_; refine l_neu (n_add rfl rfl (by omega)) rfl ?_; refine l_neu (n_nilCheck_ref rfl) rfl ?_; refine l_neu (n_field_ref rfl) rfl ?_; refine l_eff (e_store_ref TySz.out rfl rfl rfl rfl rfl rfl) ?_; refine l_nil ?_
          refine k4 ?_; refine k1 ?_
          exact ⟨k + 1, hlt, by omega, Sees.tailed ⟨le1 rfl, le1 rfl, trivial⟩ hH (by repeat (first | exact tail_refl | refine tail_cons rfl ?_)) (ObIn.spec (ob' := [(705, _)]) ⟨rfl, trivial⟩)⟩
        · have hk2 : k = w.length := by have := of_decide_eq_false ht; omega
          subst hk2
          refine k6 ?_; refine k7 ?_; refine k7 ?_; refine k8 rfl ?_; refine k1 ?_
          refine c_region_draw (by kernel_rfl) (by kernel_rfl) ?_; refine d_neu (n_move rfl rfl) rfl rfl ?_; refine d_neu (n_nilCheck_ref rfl) rfl rfl ?_; refine d_neu (n_field_ref rfl) rfl rfl ?_; refine d_neu (n_load_ref rfl rfl rfl) rfl rfl ?_; refine d_neu (n_move rfl rfl) rfl rfl ?_; refine d_neu (n_move rfl rfl) rfl rfl ?_; refine d_neu (n_nilCheck_ref rfl) rfl rfl ?_; refine d_neu (n_field_ref rfl) rfl rfl ?_; refine d_neu (n_load_ref rfl rfl rfl) rfl rfl ?_; refine d_neu (n_sub_lh rfl rfl rfl (by omega) (by omega) (by omega)) rfl rfl ?_; refine d_neu (n_assign rfl rfl) rfl rfl ?_; refine d_nil ?_
          have hww : (s.drop i).take (i + w.length - i) = w := by rw [Nat.add_sub_cancel_left, hw]; exact takeWhile_take _
          rw [Int.toNat_natCast, Int.toNat_natCast, hww]
          refine k1 ?_
          refine Sees.trans (Sees.forget 706) ?_
          subst hj
          exact Sees.tailed ⟨le1 rfl, le1 rfl, le1 rfl, trivial⟩ (high_forget hH) (by repeat (first | exact tail_refl | refine tail_cons rfl ?_ | refine tail_forget' _ ?_ | refine tail_forget _ ?_)) (ObIn.spec (ob' := [(705, _)]) ⟨rfl, trivial⟩)
    · refine k2 ?_
      refine c_region_draw (by kernel_rfl) (by kernel_rfl) ?_; refine d_neu (n_move rfl rfl) rfl rfl ?_; refine d_neu (n_move rfl rfl) rfl rfl ?_; refine d_neu (n_call1 (squote_ok w (by omega)) rfl rfl) rfl rfl ?_; refine d_neu (n_move rfl rfl) rfl rfl ?_; refine d_neu (n_nilCheck_ref rfl) rfl rfl ?_; refine d_neu (n_field_ref rfl) rfl rfl ?_; refine d_neu (n_load_ref rfl rfl rfl) rfl rfl ?_; refine d_neu (n_move rfl rfl) rfl rfl ?_; refine d_neu (n_move rfl rfl) rfl rfl ?_; refine d_neu (n_nilCheck_ref rfl) rfl rfl ?_; refine d_neu (n_field_ref rfl) rfl rfl ?_; refine d_neu (n_load_ref rfl rfl rfl) rfl rfl ?_; refine d_neu (n_sub_lh rfl rfl rfl (by omega) (by omega) (by omega)) rfl rfl ?_; refine d_neu (n_eql_s rfl rfl) rfl rfl ?_; refine d_neu (n_assign rfl rfl) rfl rfl ?_; refine d_neu (n_assign rfl rfl) rfl rfl ?_; refine d_nil ?_
      rw [Int.toNat_natCast, Int.toNat_natCast]
      refine k1 ?_; refine k10 ?_
      refine met_ret (rets2 rfl rfl rfl) (by repeat (first | exact tail_refl | refine tail_cons rfl ?_ | refine tail_forget _ ?_)) (fun _ _ h => h) ⟨w, _, j, rfl, rfl, hjl, ?_⟩
      rw [hW]
      by_cases hqw : quoteOf w = (s.drop i).take (j - i)
      · rw [if_pos hqw]; exact ⟨decide_eq_true hqw, rfl, by omega⟩
      · rw [if_neg hqw]; exact decide_eq_false hqw
def wordR (s : Str) (i : Nat) : List PV := match wordAt (s.drop i) with
  | none => [pStr [], pInt 0, pBool false]
  | some (w, k) => [pStr w, pInt ((i + k : Nat) : Int), pBool true]
theorem sUnquote_ok (s : Str) (i : Nat) (hi : i ≤ s.length) (hs : s.length ≤ 16777216) : FnOk Tryd.prog 28 [pStr s, pInt i] (fun rs => rs = wordR s i) := by
  refine FnOk.intro Tryd.func28 (by decide) rfl rfl rfl rfl ?_
  refine k2 ?_
  refine c_region ?_; refine l_neu (n_assign rfl rfl) rfl ?_; refine l_neu (n_assign rfl rfl) rfl ?_; refine l_neu (n_assign rfl rfl) rfl ?_; refine l_nil ?_
  refine k1 ?_; refine k2 ?_; refine k2 ?_
  refine c_region ?_; refine l_neu (n_move rfl rfl) rfl ?_; refine l_neu (n_lss rfl rfl) rfl ?_; refine l_neu (n_move rfl rfl) rfl ?_; refine l_guard rfl rfl rfl rfl (fun hg => by rw [hg]; exact n_move rfl rfl) ?_; refine l_guard rfl rfl rfl rfl (fun hg => by rw [hg]; exact n_move rfl rfl) ?_; refine l_guard rfl rfl rfl rfl (fun hg => by rw [hg]; exact n_len_s rfl) ?_; refine l_guard rfl rfl rfl rfl (fun hg => by rw [hg]; exact n_gtr rfl rfl) ?_; refine l_neu (n_pick_bool rfl (fun h => by first | rfl | (rw [h]; rfl)) (fun h => by first | rfl | (rw [h]; rfl))) rfl ?_; refine l_nil ?_
  refine k1 ?_
  refine c_cond rfl (fun ht => ?_) (fun ht => ?_)
  · exfalso; revert ht; simp only [or_pick]; simp; omega
  refine k5 ?_; refine k1 ?_; refine k2 ?_
  refine c_region ?_; refine l_neu (n_move rfl rfl) rfl ?_; refine l_neu (n_move rfl rfl) rfl ?_; refine l_neu (n_build rfl) rfl ?_; refine l_effv (f_box 705 rfl rfl rfl) rfl ?_; refine l_neu (n_assign rfl rfl) rfl ?_; refine l_nil ?_
  refine k1 ?_; refine k2 ?_
  refine c_region ?_; refine l_neu (n_move rfl rfl) rfl ?_; refine l_met (word_met s i hi hs) rfl rfl rfl ?_; rintro _ _ ⟨w, b, j, rfl, rfl, hj, ho⟩; refine l_neu (n_move rfl rfl) rfl ?_; refine l_neu (n_extract rfl rfl) rfl ?_; refine l_neu (n_extract rfl rfl) rfl ?_; refine l_neu (n_assign rfl rfl) rfl ?_; refine l_neu (n_assign rfl rfl) rfl ?_; refine l_nil ?_
  refine k1 ?_; refine k2 ?_; refine k2 ?_
  refine c_region ?_; refine l_neu (n_move rfl rfl) rfl ?_; refine l_neu (n_not rfl) rfl ?_; refine l_nil ?_
  refine k1 ?_
  cases hw : wordAt (s.drop i) with
  | none =>
    rw [hw] at ho
    have ho : b = false := ho
    subst ho
    refine c_cond rfl (fun ht => ?_) (fun ht => ?_)
    · refine k2 ?_
      refine c_region ?_; refine l_neu (n_assign rfl rfl) rfl ?_; refine l_neu (n_assign rfl rfl) rfl ?_; refine l_neu (n_assign rfl rfl) rfl ?_; refine l_nil ?_
      refine k1 ?_; refine k10 ?_; refine k11 ?_
      exact ret_ret (rs := [pStr [], pInt 0, pBool false]) (ret3 rfl rfl rfl rfl rfl rfl rfl) (by unfold wordR; rw [hw])
    · cases ht
  | some q =>
    obtain ⟨w', k⟩ := q
    rw [hw] at ho
    obtain ⟨rfl, rfl, rfl⟩ := ho
    refine c_cond rfl (fun ht => ?_) (fun ht => ?_)
    · cases ht
    refine k5 ?_; refine k1 ?_; refine k2 ?_
    refine c_region_draw (by kernel_rfl) (by kernel_rfl) ?_; refine d_neu (n_move rfl rfl) rfl rfl ?_; refine d_neu (n_move rfl rfl) rfl rfl ?_; refine d_neu (n_nilCheck_ref rfl) rfl rfl ?_; refine d_neu (n_field_ref rfl) rfl rfl ?_; refine d_neu (n_load_ref rfl rfl rfl) rfl rfl ?_; refine d_neu (n_assign rfl rfl) rfl rfl ?_; refine d_neu (n_assign rfl rfl) rfl rfl ?_; refine d_neu (n_assign rfl rfl) rfl rfl ?_; refine d_nil ?_
    refine k1 ?_; refine k10 ?_
    exact ret_ret (rs := [pStr w, pInt ((i + k : Nat) : Int), pBool true]) (ret3 rfl rfl rfl rfl rfl rfl rfl) (by unfold wordR; rw [hw])
end Go.Proofs.YtgejaedjnbjpoaaDoor
namespace Go.Proofs.YtgejaedjnbjpoaaDoor
open Go Go.AL
set_option maxRecDepth 100000
theorem wordR_none {s : Str} {i : Nat} (h : wordAt (s.drop i) = none) : wordR s i = [pStr [], pInt 0, pBool false] := by unfold wordR; rw [h]
theorem wordR_some {s : Str} {i k : Nat} {w : Str} (h : wordAt (s.drop i) = some (w, k)) : wordR s i = [pStr w, pInt ((i + k : Nat) : Int), pBool true] := by unfold wordR; rw [h]
set_option maxHeartbeats 1000000
end Go.Proofs.YtgejaedjnbjpoaaDoor
namespace Go.Proofs.YtgejaedjnbjpoaaDoor
open Go Go.AL
set_option maxRecDepth 100000
theorem count1_ok (s : Str) (c : UInt8) : FnOk Tryd.prog 46 [pStr s, pStr [c]] (fun rs => rs = [pInt (s.count c)]) :=
  FnOk.ofPlain (xs := [.string ⟨s.toArray⟩, .string ⟨#[c]⟩]) ⟨_, rfl, rfl, rfl⟩ rfl fun w => by simpa [Lib.countByte] using Tryd.strings_Count_one ⟨s.toArray⟩ c w
theorem index1_ok (s : Str) (c : UInt8) : FnOk Tryd.prog 47 [pStr s, pStr [c]] (fun rs => rs = [pInt (Lib.indexByte s c)]) :=
  FnOk.ofPlain (xs := [.string ⟨s.toArray⟩, .string ⟨#[c]⟩]) ⟨_, rfl, rfl, rfl⟩ rfl fun w => by simpa using Tryd.strings_Index_one ⟨s.toArray⟩ c w
end Go.Proofs.YtgejaedjnbjpoaaDoor
namespace Go.Proofs.YtgejaedjnbjpoaaDoor
open Go Go.AL
set_option maxRecDepth 100000
def cutsOf (r : Str) : List Str := (linesOf (r ++ [10])).map List.dropLast
theorem cuts_cut {a b : Str} (h : (10 : UInt8) ∉ a) : cutsOf (a ++ 10 :: b) = a :: cutsOf b := by
  unfold cutsOf linesOf
  rw [List.append_assoc, List.cons_append, linesAux_cut _ _ _ h]; simp
theorem cuts_last {r : Str} (h : (10 : UInt8) ∉ r) : cutsOf r = [r] := by
  unfold cutsOf linesOf
  rw [linesAux_cut _ _ _ h]; simp [linesAux]
theorem cuts_count (r : Str) : (cutsOf r).length = r.count 10 + 1 := by
  unfold cutsOf
  rw [List.length_map, linesOf_count, List.count_append, ended_app]; simp
theorem cuts_step {P : List Str} {i : Nat} {r a b : Str} (h : P.drop i = cutsOf r) (hr : r = a ++ 10 :: b) (ha : (10 : UInt8) ∉ a) : P[i]? = some a ∧ P.drop (i + 1) = cutsOf b := by
  have e : cutsOf r = a :: cutsOf b := by rw [hr, cuts_cut ha]
  rw [e] at h
  refine ⟨by rw [← List.head?_drop, h]; rfl, ?_⟩
  rw [← List.tail_drop, h]; rfl
theorem linesS_cuts {s : Str} (h : s ≠ []) : linesS s = if ended s = true then some (cutsOf s.dropLast) else none := by
  unfold linesS
  rw [if_neg h]
  by_cases he : ended s = true
  · rw [if_pos he, if_pos he]
    obtain ⟨a, rfl⟩ := ended_iff.1 he
    rw [List.dropLast_concat]; rfl
  · rw [if_neg he, if_neg he]
theorem genSplit0_ok (s : Str) (hs : s.length ≤ 536870912) : FnOk Tryd.prog 26 [pStr s, pStr [10], pInt 0, pInt (-1)] (fun rs => rs = [pStrs (cutsOf s)]) := by
  have hP := cuts_count s
  have hc : s.count 10 ≤ s.length := List.count_le_length
  have h10 : ([10] : Str).length = 1 := rfl
  obtain ⟨P, hPe⟩ : ∃ P, P = cutsOf s := ⟨_, rfl⟩
  have hPl : P.length = s.count 10 + 1 := by rw [hPe]; exact hP
  refine FnOk.intro Tryd.func26 (by decide) rfl rfl rfl rfl ?_
  refine k2 ?_
  refine c_region ?_; refine l_neu (n_assign rfl rfl) rfl ?_; refine l_nil ?_
  refine k1 ?_; refine k2 ?_; refine k2 ?_
  refine c_region ?_; refine l_neu (n_move rfl rfl) rfl ?_; refine l_neu (n_eql rfl rfl) rfl ?_; refine l_nil ?_
  refine k1 ?_
  refine c_cond rfl (fun ht => ?_) (fun ht => ?_)
  · exact absurd (of_decide_eq_true ht) (by omega)
  refine k5 ?_; refine k1 ?_; refine k2 ?_; refine k2 ?_
  refine c_region ?_; refine l_neu (n_move rfl rfl) rfl ?_; refine l_neu (n_eql_s rfl rfl) rfl ?_; refine l_nil ?_
  refine k1 ?_
  refine c_cond rfl (fun ht => ?_) (fun ht => ?_)
  · exact absurd (of_decide_eq_true ht) (by simp)
  refine k5 ?_; refine k1 ?_; refine k2 ?_; refine k2 ?_
  refine c_region ?_; refine l_neu (n_move rfl rfl) rfl ?_; refine l_neu (n_lss rfl rfl) rfl ?_; refine l_nil ?_
  refine k1 ?_
  refine c_cond rfl (fun ht => ?_) (fun ht => ?_)
  rotate_left
  · exact absurd (of_decide_eq_false ht) (by omega)
  skip
  refine c_region ?_; refine l_neu (n_move rfl rfl) rfl ?_; refine l_neu (n_move rfl rfl) rfl ?_; refine l_call (count1_ok s 10) rfl rfl rfl ?_; rintro _ rfl; refine l_neu (n_add rfl rfl (by omega)) rfl ?_; refine l_neu (n_assign rfl rfl) rfl ?_; refine l_nil ?_
  refine k1 ?_; refine k2 ?_
  refine c_region ?_; refine l_neu (n_move rfl rfl) rfl ?_; refine l_neu (n_move rfl rfl) rfl ?_; refine l_neu (n_len_s rfl) rfl ?_; refine l_neu (n_add rfl rfl (by omega)) rfl ?_; refine l_neu (n_min rfl rfl) rfl ?_; refine l_neu (n_assign rfl rfl) rfl ?_; refine l_nil ?_
  refine k1 ?_; refine k2 ?_
  rw [show (if (s.length : Int) + 1 < (s.count 10 : Int) + 1 then (s.length : Int) + 1 else (s.count 10 : Int) + 1) = (P.length : Int) from by split <;> omega]
  refine c_region ?_; refine l_neu (n_move rfl rfl) rfl ?_; refine l_effv (f_makeZ 9 Str strC [] rfl rfl (by omega) (by omega) (fun _ => by first | exact ⟨⟨rfl, rfl⟩, trivial⟩ | exact ⟨rep_nil _ _ _, trivial⟩) (by first | rfl | (simp [frFree, obFree, Ob.free, SV.free, S1.free, TC.free] <;> rfl))) rfl ?_; refine l_neu (n_assign rfl rfl) rfl ?_; refine l_nil ?_
  refine k1 ?_; refine k2 ?_
  refine c_region ?_; refine l_neu (n_move rfl rfl) rfl ?_; refine l_neu (n_sub rfl rfl (by omega)) rfl ?_; refine l_neu (n_assign rfl rfl) rfl ?_; refine l_nil ?_
  refine k1 ?_; refine k2 ?_
  refine c_region ?_; refine l_neu (n_assign rfl rfl) rfl ?_; refine l_nil ?_
  refine k1 ?_; refine k2 ?_; refine k3 ?_
  refine c_while (X := Nat × Str) (fun x => ([(0, sStr x.2), (1, sStr [10]), (2, sInt 0), (3, sInt ((P.length : Int) - 1)), (9, .s (.one (.mut 9))), (10, sInt x.1)], [(9, .arr Str 1 strC (P.take x.1 ++ List.replicate (P.length - x.1) []))])) (fun x => x.1 + 1 ≤ P.length ∧ P.drop x.1 = cutsOf x.2 ∧ x.2.length ≤ s.length) (fun x => P.length - x.1) (0, s) ⟨by dsimp only; omega, hPe, Nat.le_refl _⟩ (Sees.of ⟨le1 rfl, le1 rfl, le1 rfl, le1 rfl, le1 rfl, le1 rfl, trivial⟩ ⟨rfl, trivial⟩) ?_
  rintro ⟨i, r⟩ ⟨hi, hp, hr⟩
  dsimp only at hi hp hr ⊢
  refine k2 ?_; refine k2 ?_
  refine c_region ?_; refine l_neu (n_move rfl rfl) rfl ?_; refine l_neu (n_move rfl rfl) rfl ?_; refine l_neu (n_lss rfl rfl) rfl ?_; refine l_nil ?_
  refine k1 ?_
  refine c_cond rfl (fun ht => ?_) (fun ht => ?_)
  · have hlt : i + 1 < P.length := by have := of_decide_eq_true ht; omega
    have hin : (10 : UInt8) ∈ r := by
      have h1 := cuts_count r
      have h2 : (P.drop i).length = r.count 10 + 1 := by rw [hp]; exact h1
      rw [List.length_drop] at h2
      exact List.count_pos_iff.1 (by omega)
    rcases indexByte_first 10 r with ⟨h1, _⟩ | ⟨a, b, h1, h2, h3⟩
    · exact absurd hin h1
    obtain ⟨h4, h5⟩ := cuts_step hp h1 h2
    have hl : r.length = a.length + 1 + b.length := by rw [h1]; simp; omega
    refine k5 ?_; refine k1 ?_; refine k3 ?_; refine k2 ?_
    refine c_region ?_; refine l_neu (n_move rfl rfl) rfl ?_; refine l_neu (n_move rfl rfl) rfl ?_; refine l_call (index1_ok r 10) rfl rfl rfl ?_; rintro _ rfl; refine l_neu (n_assign rfl rfl) rfl ?_; refine l_nil ?_
    refine k1 ?_; refine k2 ?_; refine k2 ?_
    refine c_region ?_; refine l_neu (n_move rfl rfl) rfl ?_; refine l_neu (n_lss rfl rfl) rfl ?_; refine l_nil ?_
    refine k1 ?_
    rw [h3]
    refine c_cond rfl (fun ht => ?_) (fun ht => ?_)
    · exact absurd (of_decide_eq_true ht) (by omega)
    refine k5 ?_; refine k1 ?_; refine k2 ?_
    refine c_region ?_; refine l_neu (n_move rfl rfl) rfl ?_; refine l_neu (n_move rfl rfl) rfl ?_; refine l_neu (n_move rfl rfl) rfl ?_; refine l_neu (n_move rfl rfl) rfl ?_; refine l_neu (n_move rfl rfl) rfl ?_; refine l_neu (n_add rfl rfl (by omega)) rfl ?_; refine l_neu (n_sub_h rfl rfl (by omega) (by omega)) rfl ?_; refine l_neu (n_indexAddr_mut rfl rfl rfl (by omega) (by (simp; omega))) rfl ?_; refine l_eff (e_store_mref1 TySz.out rfl rfl (by simp; omega) rfl rfl) ?_; refine l_nil ?_
    refine k1 ?_; refine k2 ?_
    refine c_region ?_; refine l_neu (n_move rfl rfl) rfl ?_; refine l_neu (n_move rfl rfl) rfl ?_; refine l_neu (n_move rfl rfl) rfl ?_; refine l_neu (n_len_s rfl) rfl ?_; refine l_neu (n_add rfl rfl (by omega)) rfl ?_; refine l_neu (n_sub_l rfl rfl (by omega) (by omega)) rfl ?_; refine l_neu (n_assign rfl rfl) rfl ?_; refine l_nil ?_
    refine k1 ?_
    refine c_region ?_; refine l_neu (n_move rfl rfl) rfl ?_; refine l_neu (n_add rfl rfl (by omega)) rfl ?_; refine l_neu (n_assign rfl rfl) rfl ?_; refine l_nil ?_
    refine k4 ?_; refine k1 ?_
    have e1 : r.take (((a.length : Int) + 0).toNat) = a := by rw [h1, show ((a.length : Int) + 0).toNat = a.length by omega, List.take_left]
    have e2 : r.drop (((a.length : Int) + (([10] : Str).length : Int)).toNat) = b := by rw [h1, h10, show ((a.length : Int) + ((1 : Nat) : Int)).toNat = a.length + 1 by omega, show a ++ 10 :: b = (a ++ [10]) ++ b by simp, List.drop_left' (by simp)]
    refine ⟨(i + 1, b), ⟨by dsimp only; omega, h5, by dsimp only; omega⟩, by dsimp only; omega, ?_⟩
    rw [e1, e2]
    dsimp only
    rw [← fill_step P [] _ i h4]
    exact Sees.of ⟨le1 rfl, le1 rfl, le1 rfl, le1 rfl, le1 rfl, le1 rfl, trivial⟩ ⟨rfl, trivial⟩
  · have hge : i + 1 = P.length := by have := of_decide_eq_false ht; omega
    have h1 := cuts_count r
    have h2 : (P.drop i).length = r.count 10 + 1 := by rw [hp]; exact h1
    rw [List.length_drop] at h2
    have h3 : (10 : UInt8) ∉ r := List.count_eq_zero.1 (by omega)
    have h4 : P[i]? = some r := by rw [← List.head?_drop, hp, cuts_last h3]; rfl
    refine k6 ?_; refine k2 ?_
    refine c_region ?_; refine l_neu (n_move rfl rfl) rfl ?_; refine l_neu (n_move rfl rfl) rfl ?_; refine l_neu (n_move rfl rfl) rfl ?_; refine l_neu (n_indexAddr_mut rfl rfl rfl (by omega) (by (simp; omega))) rfl ?_; refine l_eff (e_store_mref1 TySz.out rfl rfl (by simp; omega) rfl rfl) ?_; refine l_nil ?_
    refine k1 ?_; refine k2 ?_
    have e : (P.take i ++ List.replicate (P.length - i) ([] : Str)).set (i : Int).toNat r = P := by rw [Int.toNat_natCast, fill_step P [] r i h4, hge]; simp
    rw [e]
    refine c_sees (Sees.freeze (k := 9) rfl) ?_
    refine c_region ?_; refine l_neu (n_move rfl rfl) rfl ?_; refine l_neu (n_move rfl rfl) rfl ?_; refine l_neu (n_add rfl rfl (by omega)) rfl ?_; refine l_neu (n_slice_h rfl (.pure _ _ _ _) rfl (by omega) (by omega)) rfl ?_; refine l_neu (n_assign rfl rfl) rfl ?_; refine l_nil ?_
    refine k1 ?_; refine k10 ?_
    exact ret_ret (ret1 rfl rfl rfl) (by rw [show ((i : Int) + 1).toNat = P.length by omega, List.take_length, hPe])
theorem split_ok (s : Str) (hs : s.length ≤ 536870912) : FnOk Tryd.prog 16 [pStr s, pStr [10]] (fun rs => rs = [pStrs (cutsOf s)]) := by
  refine FnOk.intro Tryd.func16 (by decide) rfl rfl rfl rfl ?_
  refine k2 ?_
  refine c_region ?_; refine l_neu (n_assign rfl rfl) rfl ?_; refine l_nil ?_
  refine k1 ?_; refine k2 ?_
  refine c_region ?_; refine l_neu (n_move rfl rfl) rfl ?_; refine l_neu (n_move rfl rfl) rfl ?_; refine l_call (genSplit0_ok s hs) rfl rfl rfl ?_; rintro _ rfl; refine l_neu (n_assign rfl rfl) rfl ?_; refine l_nil ?_
  refine k1 ?_; refine k10 ?_
  exact ret_ret (ret1 rfl rfl rfl) rfl
theorem lhasPrefix_ok (s p : Str) : FnOk Tryd.prog 51 [pStr s, pStr p] (fun rs => rs = [pBool (decide (s.take p.length = p))]) := by
  refine FnOk.intro Tryd.func51 (by decide) rfl rfl rfl rfl ?_
  refine k2 ?_
  refine c_region ?_; refine l_neu (n_assign rfl rfl) rfl ?_; refine l_nil ?_
  refine k1 ?_; refine k2 ?_
  refine c_region ?_; refine l_neu (n_move rfl rfl) rfl ?_; refine l_neu (n_len_s rfl) rfl ?_; refine l_neu (n_move rfl rfl) rfl ?_; refine l_neu (n_len_s rfl) rfl ?_; refine l_neu (n_geq rfl rfl) rfl ?_; refine l_neu (n_move rfl rfl) rfl ?_; refine l_guard rfl rfl rfl rfl (fun hg => by rw [hg]; exact n_move rfl rfl) ?_; refine l_guard rfl rfl rfl rfl (fun hg => by rw [hg]; exact n_move rfl rfl) ?_; refine l_guard rfl rfl rfl rfl (fun hg => by rw [hg]; exact n_len_s rfl) ?_; refine l_guard rfl rfl rfl rfl (fun hg => by have hq := hg; (try simp at hq); rw [hg]; exact n_sub_h rfl rfl (by omega) (by omega)) ?_; refine l_guard rfl rfl rfl rfl (fun hg => by rw [hg]; exact n_move rfl rfl) ?_; refine l_guard rfl rfl rfl rfl (fun hg => by rw [hg]; exact n_eql_s rfl rfl) ?_; refine l_neu (n_pick_bool rfl (fun h => by first | rfl | (rw [h]; rfl)) (fun h => by first | rfl | (rw [h]; rfl))) rfl ?_; refine l_neu (n_assign rfl rfl) rfl ?_; refine l_nil ?_
  simp only [and_pick, Int.toNat_natCast]
  refine k1 ?_; refine k10 ?_
  refine ret_ret (ret1 rfl rfl rfl) ?_
  congr 4
  congr 1
  apply propext; constructor
  · intro h; exact h.2
  · intro h
    refine ⟨?_, h⟩
    have := congrArg List.length h
    rw [List.length_take] at this; omega
theorem hasPrefix_ok (s p : Str) : FnOk Tryd.prog 30 [pStr s, pStr p] (fun rs => rs = [pBool (decide (s.take p.length = p))]) := by
  refine FnOk.intro Tryd.func30 (by decide) rfl rfl rfl rfl ?_
  refine k2 ?_
  refine c_region ?_; refine l_neu (n_assign rfl rfl) rfl ?_; refine l_nil ?_
  refine k1 ?_; refine k2 ?_
  refine c_region ?_; refine l_neu (n_move rfl rfl) rfl ?_; refine l_neu (n_move rfl rfl) rfl ?_; refine l_call (lhasPrefix_ok s p) rfl rfl rfl ?_; rintro _ rfl; refine l_neu (n_assign rfl rfl) rfl ?_; refine l_nil ?_
  refine k1 ?_; refine k10 ?_
  exact ret_ret (ret1 rfl rfl rfl) rfl
def cutP (s p : Str) : List PV := if s.take p.length = p then [pStr (s.drop p.length), pBool true] else [pStr s, pBool false]
theorem lcutPrefix_ok (s p : Str) : FnOk Tryd.prog 48 [pStr s, pStr p] (fun rs => rs = cutP s p) := by
  refine FnOk.intro Tryd.func48 (by decide) rfl rfl rfl rfl ?_
  refine k2 ?_
  refine c_region ?_; refine l_neu (n_assign rfl rfl) rfl ?_; refine l_neu (n_assign rfl rfl) rfl ?_; refine l_nil ?_
  refine k1 ?_; refine k2 ?_; refine k2 ?_
  refine c_region ?_; refine l_neu (n_move rfl rfl) rfl ?_; refine l_neu (n_move rfl rfl) rfl ?_; refine l_call (lhasPrefix_ok s p) rfl rfl rfl ?_; rintro _ rfl; refine l_neu (n_not rfl) rfl ?_; refine l_nil ?_
  refine k1 ?_
  refine c_cond rfl (fun ht => ?_) (fun ht => ?_)
  · have h : ¬ s.take p.length = p := by intro h; rw [decide_eq_true h] at ht; cases ht
    refine k2 ?_
    refine c_region ?_; refine l_neu (n_move rfl rfl) rfl ?_; refine l_neu (n_assign rfl rfl) rfl ?_; refine l_neu (n_assign rfl rfl) rfl ?_; refine l_nil ?_
    refine k1 ?_; refine k10 ?_; refine k11 ?_
    exact ret_ret (rs := [pStr s, pBool false]) (ret2 rfl rfl rfl rfl rfl) (by unfold cutP; rw [if_neg h])
  · have h : s.take p.length = p := by
      by_cases h : s.take p.length = p
      · exact h
      · rw [decide_eq_false h] at ht; cases ht
    have hl : p.length ≤ s.length := by
      have := congrArg List.length h
      rw [List.length_take] at this; omega
    refine k5 ?_; refine k1 ?_; refine k2 ?_
    refine c_region ?_; refine l_neu (n_move rfl rfl) rfl ?_; refine l_neu (n_move rfl rfl) rfl ?_; refine l_neu (n_len_s rfl) rfl ?_; refine l_neu (n_sub_l rfl rfl (by omega) (by omega)) rfl ?_; refine l_neu (n_assign rfl rfl) rfl ?_; refine l_neu (n_assign rfl rfl) rfl ?_; refine l_nil ?_
    refine k1 ?_; refine k10 ?_
    exact ret_ret (rs := [pStr (s.drop p.length), pBool true]) (ret2 rfl rfl rfl rfl rfl) (by unfold cutP; rw [if_pos h])
theorem cutPrefix_ok (s p : Str) : FnOk Tryd.prog 27 [pStr s, pStr p] (fun rs => rs = cutP s p) := by
  have hc := lcutPrefix_ok s p
  unfold cutP at hc ⊢
  by_cases h : s.take p.length = p
  · rw [if_pos h] at hc ⊢
    refine FnOk.intro Tryd.func27 (by decide) rfl rfl rfl rfl ?_
    refine k2 ?_
    refine c_region ?_; refine l_neu (n_assign rfl rfl) rfl ?_; refine l_neu (n_assign rfl rfl) rfl ?_; refine l_nil ?_
    refine k1 ?_; refine k2 ?_
    refine c_region ?_; refine l_neu (n_move rfl rfl) rfl ?_; refine l_neu (n_move rfl rfl) rfl ?_; refine l_call (hc) rfl rfl rfl ?_; rintro _ rfl; refine l_neu (n_extract rfl rfl) rfl ?_; refine l_neu (n_extract rfl rfl) rfl ?_; refine l_neu (n_assign rfl rfl) rfl ?_; refine l_neu (n_assign rfl rfl) rfl ?_; refine l_nil ?_
    refine k1 ?_; refine k10 ?_
    exact ret_ret (ret2 rfl rfl rfl rfl rfl) rfl
  · rw [if_neg h] at hc ⊢
    refine FnOk.intro Tryd.func27 (by decide) rfl rfl rfl rfl ?_
    refine k2 ?_
    refine c_region ?_; refine l_neu (n_assign rfl rfl) rfl ?_; refine l_neu (n_assign rfl rfl) rfl ?_; refine l_nil ?_
    refine k1 ?_; refine k2 ?_
    refine c_region ?_; refine l_neu (n_move rfl rfl) rfl ?_; refine l_neu (n_move rfl rfl) rfl ?_; refine l_call (hc) rfl rfl rfl ?_; rintro _ rfl; refine l_neu (n_extract rfl rfl) rfl ?_; refine l_neu (n_extract rfl rfl) rfl ?_; refine l_neu (n_assign rfl rfl) rfl ?_; refine l_neu (n_assign rfl rfl) rfl ?_; refine l_nil ?_
    refine k1 ?_; refine k10 ?_
    exact ret_ret (ret2 rfl rfl rfl rfl rfl) rfl
theorem ended_drop (s : Str) : ended s = decide (1 ≤ s.length ∧ s.drop (s.length - 1) = [10]) := by
  by_cases h : ended s = true
  · rw [h]
    obtain ⟨a, rfl⟩ := ended_iff.1 h
    symm; apply decide_eq_true; simp
  · have h2 : ended s = false := by simpa using h
    rw [h2]; symm; apply decide_eq_false
    rintro ⟨h3, h4⟩
    refine h (ended_iff.2 ⟨s.take (s.length - 1), ?_⟩)
    rw [← h4, List.take_append_drop]
theorem lhasSuffix_ok (s : Str) (hs : s.length ≤ 1073741824) : FnOk Tryd.prog 44 [pStr s, pStr [10]] (fun rs => rs = [pBool (ended s)]) := by
  have h10 : ([10] : Str).length = 1 := rfl
  refine FnOk.intro Tryd.func44 (by decide) rfl rfl rfl rfl ?_
  refine k2 ?_
  refine c_region ?_; refine l_neu (n_assign rfl rfl) rfl ?_; refine l_nil ?_
  refine k1 ?_; refine k2 ?_
  refine c_region ?_; refine l_neu (n_move rfl rfl) rfl ?_; refine l_neu (n_len_s rfl) rfl ?_; refine l_neu (n_move rfl rfl) rfl ?_; refine l_neu (n_len_s rfl) rfl ?_; refine l_neu (n_geq rfl rfl) rfl ?_; refine l_neu (n_move rfl rfl) rfl ?_; refine l_guard rfl rfl rfl rfl (fun hg => by rw [hg]; exact n_move rfl rfl) ?_; refine l_guard rfl rfl rfl rfl (fun hg => by rw [hg]; exact n_move rfl rfl) ?_; refine l_guard rfl rfl rfl rfl (fun hg => by rw [hg]; exact n_len_s rfl) ?_; refine l_guard rfl rfl rfl rfl (fun hg => by rw [hg]; exact n_move rfl rfl) ?_; refine l_guard rfl rfl rfl rfl (fun hg => by rw [hg]; exact n_len_s rfl) ?_; refine l_guard rfl rfl rfl rfl (fun hg => by have hq := hg; (try simp at hq); rw [hg]; exact n_sub rfl rfl (by omega)) ?_; refine l_guard rfl rfl rfl rfl (fun hg => by have hq := hg; (try simp at hq); rw [hg]; exact n_sub_l rfl rfl (by omega) (by omega)) ?_; refine l_guard rfl rfl rfl rfl (fun hg => by rw [hg]; exact n_move rfl rfl) ?_; refine l_guard rfl rfl rfl rfl (fun hg => by rw [hg]; exact n_eql_s rfl rfl) ?_; refine l_neu (n_pick_bool rfl (fun h => by first | rfl | (rw [h]; rfl)) (fun h => by first | rfl | (rw [h]; rfl))) rfl ?_; refine l_neu (n_assign rfl rfl) rfl ?_; refine l_nil ?_
  simp only [and_pick]
  refine k1 ?_; refine k10 ?_
  refine ret_ret (ret1 rfl rfl rfl) ?_
  rw [ended_drop, h10]
  congr 4
  congr 1
  rw [show ((s.length : Int) - ((1 : Nat) : Int)).toNat = s.length - 1 by omega]
  apply propext; constructor
  · intro h; exact ⟨by omega, h.2⟩
  · intro h; exact ⟨by omega, h.2⟩
def cutLf (s : Str) : List PV := if ended s = true then [pStr s.dropLast, pBool true] else [pStr s, pBool false]
theorem lcutSuffix_ok (s : Str) (hs : s.length ≤ 1073741824) : FnOk Tryd.prog 25 [pStr s, pStr [10]] (fun rs => rs = cutLf s) := by
  have h10 : ([10] : Str).length = 1 := rfl
  refine FnOk.intro Tryd.func25 (by decide) rfl rfl rfl rfl ?_
  refine k2 ?_
  refine c_region ?_; refine l_neu (n_assign rfl rfl) rfl ?_; refine l_neu (n_assign rfl rfl) rfl ?_; refine l_nil ?_
  refine k1 ?_; refine k2 ?_; refine k2 ?_
  refine c_region ?_; refine l_neu (n_move rfl rfl) rfl ?_; refine l_neu (n_move rfl rfl) rfl ?_; refine l_call (lhasSuffix_ok s hs) rfl rfl rfl ?_; rintro _ rfl; refine l_neu (n_not rfl) rfl ?_; refine l_nil ?_
  refine k1 ?_
  refine c_cond rfl (fun ht => ?_) (fun ht => ?_)
  · have h : ended s = false := by cases h : ended s <;> rw [h] at ht <;> simp at ht ⊢
    refine k2 ?_
    refine c_region ?_; refine l_neu (n_move rfl rfl) rfl ?_; refine l_neu (n_assign rfl rfl) rfl ?_; refine l_neu (n_assign rfl rfl) rfl ?_; refine l_nil ?_
    refine k1 ?_; refine k10 ?_; refine k11 ?_
    exact ret_ret (rs := [pStr s, pBool false]) (ret2 rfl rfl rfl rfl rfl) (by unfold cutLf; rw [h]; rfl)
  · have h : ended s = true := by cases h : ended s <;> rw [h] at ht <;> simp at ht ⊢
    have hl : 1 ≤ s.length := by obtain ⟨a, rfl⟩ := ended_iff.1 h; simp
    refine k5 ?_; refine k1 ?_; refine k2 ?_
    refine c_region ?_; refine l_neu (n_move rfl rfl) rfl ?_; refine l_neu (n_move rfl rfl) rfl ?_; refine l_neu (n_len_s rfl) rfl ?_; refine l_neu (n_move rfl rfl) rfl ?_; refine l_neu (n_len_s rfl) rfl ?_; refine l_neu (n_sub rfl rfl (by omega)) rfl ?_; refine l_neu (n_sub_h rfl rfl (by omega) (by omega)) rfl ?_; refine l_neu (n_assign rfl rfl) rfl ?_; refine l_neu (n_assign rfl rfl) rfl ?_; refine l_nil ?_
    refine k1 ?_; refine k10 ?_
    refine ret_ret (rs := [pStr s.dropLast, pBool true]) (ret2 rfl rfl (by rw [h10, show ((s.length : Int) - ((1 : Nat) : Int)).toNat = s.length - 1 by omega, ← List.dropLast_eq_take]; rfl) rfl rfl) (by unfold cutLf; rw [if_pos h])
theorem cutSuffix_ok (s : Str) (hs : s.length ≤ 1073741824) : FnOk Tryd.prog 15 [pStr s, pStr [10]] (fun rs => rs = cutLf s) := by
  have hc := lcutSuffix_ok s hs
  unfold cutLf at hc ⊢
  by_cases h : ended s = true
  · rw [if_pos h] at hc ⊢
    refine FnOk.intro Tryd.func15 (by decide) rfl rfl rfl rfl ?_
    refine k2 ?_
    refine c_region ?_; refine l_neu (n_assign rfl rfl) rfl ?_; refine l_neu (n_assign rfl rfl) rfl ?_; refine l_nil ?_
    refine k1 ?_; refine k2 ?_
    refine c_region ?_; refine l_neu (n_move rfl rfl) rfl ?_; refine l_neu (n_move rfl rfl) rfl ?_; refine l_call (hc) rfl rfl rfl ?_; rintro _ rfl; refine l_neu (n_extract rfl rfl) rfl ?_; refine l_neu (n_extract rfl rfl) rfl ?_; refine l_neu (n_assign rfl rfl) rfl ?_; refine l_neu (n_assign rfl rfl) rfl ?_; refine l_nil ?_
    refine k1 ?_; refine k10 ?_
    exact ret_ret (ret2 rfl rfl rfl rfl rfl) rfl
  · rw [if_neg h] at hc ⊢
    refine FnOk.intro Tryd.func15 (by decide) rfl rfl rfl rfl ?_
    refine k2 ?_
    refine c_region ?_; refine l_neu (n_assign rfl rfl) rfl ?_; refine l_neu (n_assign rfl rfl) rfl ?_; refine l_nil ?_
    refine k1 ?_; refine k2 ?_
    refine c_region ?_; refine l_neu (n_move rfl rfl) rfl ?_; refine l_neu (n_move rfl rfl) rfl ?_; refine l_call (hc) rfl rfl rfl ?_; rintro _ rfl; refine l_neu (n_extract rfl rfl) rfl ?_; refine l_neu (n_extract rfl rfl) rfl ?_; refine l_neu (n_assign rfl rfl) rfl ?_; refine l_neu (n_assign rfl rfl) rfl ?_; refine l_nil ?_
    refine k1 ?_; refine k10 ?_
    exact ret_ret (ret2 rfl rfl rfl rfl rfl) rfl
def linesR (s : Str) : List PV := match linesS s with
  | none => [pStrs [], pBool false]
  | some l => [pStrs l, pBool true]
theorem stLines_ok (s : Str) (hs : s.length ≤ 536870912) : FnOk Tryd.prog 12 [pStr s] (fun rs => rs = linesR s) := by
  refine FnOk.intro Tryd.func12 (by decide) rfl rfl rfl rfl ?_
  refine k2 ?_
  refine c_region ?_; refine l_neu (n_assign rfl rfl) rfl ?_; refine l_neu (n_assign rfl rfl) rfl ?_; refine l_nil ?_
  refine k1 ?_; refine k2 ?_; refine k2 ?_
  refine c_region ?_; refine l_neu (n_move rfl rfl) rfl ?_; refine l_neu (n_eql_s rfl rfl) rfl ?_; refine l_nil ?_
  refine k1 ?_
  refine c_cond rfl (fun ht => ?_) (fun ht => ?_)
  · have h : s = [] := of_decide_eq_true ht
    refine k2 ?_
    refine c_region ?_; refine l_neu (n_assign_nil _ 1 strC) rfl ?_; refine l_neu (n_assign rfl rfl) rfl ?_; refine l_nil ?_
    refine k1 ?_; refine k10 ?_; refine k11 ?_
    exact ret_ret (rs := [pStrs [], pBool true]) (ret2 rfl rfl rfl rfl rfl) (by unfold linesR linesS; rw [if_pos h])
  have h : s ≠ [] := of_decide_eq_false ht
  have hc := cutSuffix_ok s (by omega)
  unfold cutLf at hc
  by_cases he : ended s = true
  · rw [if_pos he] at hc
    have hl : s.dropLast.length ≤ s.length := by rw [List.length_dropLast]; omega
    refine k5 ?_; refine k1 ?_; refine k2 ?_
    refine c_region ?_; refine l_neu (n_move rfl rfl) rfl ?_; refine l_call (hc) rfl rfl rfl ?_; rintro _ rfl; refine l_neu (n_move rfl rfl) rfl ?_; refine l_neu (n_extract rfl rfl) rfl ?_; refine l_neu (n_extract rfl rfl) rfl ?_; refine l_neu (n_assign rfl rfl) rfl ?_; refine l_neu (n_assign rfl rfl) rfl ?_; refine l_nil ?_
    refine k1 ?_; refine k2 ?_; refine k2 ?_
    refine c_region ?_; refine l_neu (n_move rfl rfl) rfl ?_; refine l_neu (n_not rfl) rfl ?_; refine l_nil ?_
    refine k1 ?_
    refine c_cond rfl (fun ht => ?_) (fun ht => ?_)
    · cases ht
    refine k5 ?_; refine k1 ?_; refine k2 ?_
    refine c_region ?_; refine l_neu (n_move rfl rfl) rfl ?_; refine l_call (split_ok s.dropLast (by omega)) rfl rfl rfl ?_; rintro _ rfl; refine l_neu (n_assign rfl rfl) rfl ?_; refine l_neu (n_assign rfl rfl) rfl ?_; refine l_nil ?_
    refine k1 ?_; refine k10 ?_
    exact ret_ret (rs := [pStrs (cutsOf s.dropLast), pBool true]) (ret2 rfl rfl rfl rfl rfl) (by unfold linesR; rw [linesS_cuts h, if_pos he])
  · rw [if_neg he] at hc
    refine k5 ?_; refine k1 ?_; refine k2 ?_
    refine c_region ?_; refine l_neu (n_move rfl rfl) rfl ?_; refine l_call (hc) rfl rfl rfl ?_; rintro _ rfl; refine l_neu (n_move rfl rfl) rfl ?_; refine l_neu (n_extract rfl rfl) rfl ?_; refine l_neu (n_extract rfl rfl) rfl ?_; refine l_neu (n_assign rfl rfl) rfl ?_; refine l_neu (n_assign rfl rfl) rfl ?_; refine l_nil ?_
    refine k1 ?_; refine k2 ?_; refine k2 ?_
    refine c_region ?_; refine l_neu (n_move rfl rfl) rfl ?_; refine l_neu (n_not rfl) rfl ?_; refine l_nil ?_
    refine k1 ?_
    refine c_cond rfl (fun ht => ?_) (fun ht => ?_)
    · refine k2 ?_
      refine c_region ?_; refine l_neu (n_assign_nil _ 1 strC) rfl ?_; refine l_neu (n_assign rfl rfl) rfl ?_; refine l_nil ?_
      refine k1 ?_; refine k10 ?_; refine k11 ?_
      exact ret_ret (rs := [pStrs [], pBool false]) (ret2 rfl rfl rfl rfl rfl) (by unfold linesR; rw [linesS_cuts h, if_neg he])
    · cases ht
end Go.Proofs.YtgejaedjnbjpoaaDoor
namespace Go.Proofs.YtgejaedjnbjpoaaDoor
open Go Go.AL
set_option maxRecDepth 100000
end Go.Proofs.YtgejaedjnbjpoaaDoor
namespace Go.Proofs.YtgejaedjnbjpoaaDoor
open Go Go.AL
set_option maxRecDepth 100000
end Go.Proofs.YtgejaedjnbjpoaaDoor
namespace Go.Proofs.YtgejaedjnbjpoaaDoor
open Go Go.AL
set_option maxRecDepth 100000
end Go.Proofs.YtgejaedjnbjpoaaDoor
namespace Go.Proofs.YtgejaedjnbjpoaaDoor
open Go Go.AL
set_option maxRecDepth 100000
end Go.Proofs.YtgejaedjnbjpoaaDoor
namespace Go.Proofs.YtgejaedjnbjpoaaDoor
open Go Go.AL
set_option maxRecDepth 100000
end Go.Proofs.YtgejaedjnbjpoaaDoor
namespace Go.Proofs.YtgejaedjnbjpoaaDoor
open Go Go.AL
set_option maxRecDepth 100000
end Go.Proofs.YtgejaedjnbjpoaaDoor
namespace Go.Proofs.YtgejaedjnbjpoaaDoor
open Go Go.AL
set_option maxRecDepth 100000
set_option maxHeartbeats 1000000
end Go.Proofs.YtgejaedjnbjpoaaDoor
namespace Go.Proofs.YtgejaedjnbjpoaaDoor
open Go Go.AL
set_option maxRecDepth 100000
end Go.Proofs.YtgejaedjnbjpoaaDoor
namespace Go.Proofs.YtgejaedjnbjpoaaDoor
open Go Go.AL
set_option maxRecDepth 100000
end Go.Proofs.YtgejaedjnbjpoaaDoor
namespace Go.Proofs.YtgejaedjnbjpoaaDoor
open Go Go.AL
set_option maxRecDepth 100000
end Go.Proofs.YtgejaedjnbjpoaaDoor
namespace Go.Proofs.YtgejaedjnbjpoaaDoor
open Go Go.AL
set_option maxRecDepth 100000
end Go.Proofs.YtgejaedjnbjpoaaDoor
namespace Go.Proofs.YtgejaedjnbjpoaaDoor
open Go Go.AL
set_option maxRecDepth 100000
end Go.Proofs.YtgejaedjnbjpoaaDoor
namespace Go.Proofs.YtgejaedjnbjpoaaDoor
open Go Go.AL
set_option maxRecDepth 100000
end Go.Proofs.YtgejaedjnbjpoaaDoor
namespace Go.Proofs.YtgejaedjnbjpoaaDoor
open Go Go.AL
set_option maxRecDepth 100000
end Go.Proofs.YtgejaedjnbjpoaaDoor
namespace Go.Proofs.YtgejaedjnbjpoaaDoor
open Go Go.AL
set_option maxRecDepth 100000
end Go.Proofs.YtgejaedjnbjpoaaDoor
namespace Go.Proofs.YtgejaedjnbjpoaaDoor
open Go Go.AL
set_option maxRecDepth 100000
end Go.Proofs.YtgejaedjnbjpoaaDoor
namespace Go.Proofs.YtgejaedjnbjpoaaDoor
open Go Go.AL
set_option maxRecDepth 100000
theorem check12_good {p : Patch} (h1 : ¬ check12 p ≠ 0) : goodOf p.Hunks = true := by
  by_cases hg : goodOf p.Hunks = true
  · exact hg
  · exfalso; apply h1; unfold check12; split
    · decide
    · rw [if_pos (by simpa using hg)]; decide
end Go.Proofs.YtgejaedjnbjpoaaDoor
namespace Go.Proofs.YtgejaedjnbjpoaaDoor
open Go Go.AL
set_option maxRecDepth 100000
end Go.Proofs.YtgejaedjnbjpoaaDoor
namespace Go.Proofs.YtgejaedjnbjpoaaDoor
open Go Go.AL
set_option maxRecDepth 100000
end Go.Proofs.YtgejaedjnbjpoaaDoor
namespace Go.Proofs.YtgejaedjnbjpoaaDoor
open Go Go.AL
set_option maxRecDepth 100000
end Go.Proofs.YtgejaedjnbjpoaaDoor
namespace Go.Proofs.YtgejaedjnbjpoaaDoor
open Go Go.AL
set_option maxRecDepth 100000
end Go.Proofs.YtgejaedjnbjpoaaDoor
namespace Go.Proofs.YtgejaedjnbjpoaaDoor
open Go Go.AL
set_option maxRecDepth 100000
end Go.Proofs.YtgejaedjnbjpoaaDoor
namespace Go.Proofs.YtgejaedjnbjpoaaDoor
open Go Go.AL
set_option maxRecDepth 100000
theorem ke_of (c k : UInt8) : decide ((c.toNat : Int) = (k.toNat : Int)) = decide (c = k) := by
  rw [decide_eq_decide]
  constructor
  · intro h; exact UInt8.toNat_inj.1 (by omega)
  · rintro rfl; rfl
theorem ke45 (c : UInt8) : decide ((c.toNat : Int) = 45) = decide (c = 45) := ke_of c 45
theorem ke43 (c : UInt8) : decide ((c.toNat : Int) = 43) = decide (c = 43) := ke_of c 43
theorem ke32 (c : UInt8) : decide ((c.toNat : Int) = 32) = decide (c = 32) := ke_of c 32
end Go.Proofs.YtgejaedjnbjpoaaDoor
namespace Go.Proofs.YtgejaedjnbjpoaaDoor
open Go Go.AL
set_option maxRecDepth 100000
end Go.Proofs.YtgejaedjnbjpoaaDoor
namespace Go.Proofs.YtgejaedjnbjpoaaDoor
open Go Go.AL
set_option maxRecDepth 100000
end Go.Proofs.YtgejaedjnbjpoaaDoor
namespace Go.Proofs.YtgejaedjnbjpoaaDoor
open Go Go.AL
set_option maxRecDepth 100000
end Go.Proofs.YtgejaedjnbjpoaaDoor
namespace Go.Proofs.YtgejaedjnbjpoaaDoor
open Go Go.AL
set_option maxRecDepth 100000
end Go.Proofs.YtgejaedjnbjpoaaDoor
namespace Go.Proofs.YtgejaedjnbjpoaaDoor
open Go Go.AL
set_option maxRecDepth 100000
end Go.Proofs.YtgejaedjnbjpoaaDoor
namespace Go.Proofs.YtgejaedjnbjpoaaDoor
open Go Go.AL
set_option maxRecDepth 100000
end Go.Proofs.YtgejaedjnbjpoaaDoor
namespace Go.Proofs.YtgejaedjnbjpoaaDoor
open Go Go.AL
set_option maxRecDepth 100000
end Go.Proofs.YtgejaedjnbjpoaaDoor
namespace Go.Proofs.YtgejaedjnbjpoaaDoor
open Go Go.AL
set_option maxRecDepth 100000
set_option maxHeartbeats 1000000
end Go.Proofs.YtgejaedjnbjpoaaDoor
namespace Go.Proofs.YtgejaedjnbjpoaaDoor
open Go Go.AL
set_option maxRecDepth 100000
end Go.Proofs.YtgejaedjnbjpoaaDoor
namespace Go.Proofs.YtgejaedjnbjpoaaDoor
open Go Go.AL
set_option maxRecDepth 100000
end Go.Proofs.YtgejaedjnbjpoaaDoor
namespace Go.Proofs.YtgejaedjnbjpoaaDoor
open Go Go.AL
set_option maxRecDepth 100000
end Go.Proofs.YtgejaedjnbjpoaaDoor
namespace Go.Proofs.YtgejaedjnbjpoaaDoor
open Go Go.AL
set_option maxRecDepth 100000
set_option maxHeartbeats 1000000
end Go.Proofs.YtgejaedjnbjpoaaDoor
namespace Go.Proofs.YtgejaedjnbjpoaaDoor
open Go Go.AL
set_option maxRecDepth 100000
set_option maxHeartbeats 1000000
end Go.Proofs.YtgejaedjnbjpoaaDoor
namespace Go.Proofs.YtgejaedjnbjpoaaDoor
open Go Go.AL
set_option maxRecDepth 100000
end Go.Proofs.YtgejaedjnbjpoaaDoor
namespace Go.Proofs.YtgejaedjnbjpoaaDoor
open Go Go.AL
set_option maxRecDepth 100000
theorem last_split {α : Type} {l : List α} {x : α} (h : l.getLast? = some x) : l = l.dropLast ++ [x] := by
  obtain ⟨ys, hy⟩ := List.getLast?_eq_some_iff.1 h
  rw [hy, List.dropLast_concat]
section
variable {P : Program} {nt : Nat} {fr : Fr} {o n : Str} {hs : List PatchHunk}
end
end Go.Proofs.YtgejaedjnbjpoaaDoor
namespace Go.Proofs.YtgejaedjnbjpoaaDoor
open Go Go.AL
set_option maxRecDepth 100000
set_option maxHeartbeats 2000000
end Go.Proofs.YtgejaedjnbjpoaaDoor
namespace Go.Proofs.YtgejaedjnbjpoaaDoor
open Go Go.AL
set_option maxRecDepth 100000
theorem linesS_sz {s : Str} {l : List Str} (h : linesS s = some l) : (l.map fun t => t.length + 65).sum ≤ 66 * s.length ∧ ∀ t ∈ l, t.length ≤ s.length := by
  unfold linesS at h
  split at h
  · cases h; simp
  · split at h
    · have h : (linesOf s).map List.dropLast = l := Option.some.inj h
      obtain ⟨f1, f2⟩ := lines_flat s
      have hl := linesOf_length s
      have hsum : ∀ L : List Str, ((L.map List.dropLast).map fun t => t.length + 65).sum ≤ L.flatten.length + 65 * L.length := by
        intro L
        induction L with
        | nil => simp
        | cons x r ih =>
          simp only [List.map_cons, List.sum_cons, List.flatten_cons, List.length_append, List.length_cons, List.length_dropLast] at ih ⊢
          omega
      have hs := hsum (linesOf s)
      rw [h] at hs
      have hs2 : (l.map fun (t : Str) => t.length + 65).sum ≤ (linesOf s).flatten.length + 65 * (linesOf s).length := hs
      refine ⟨by omega, fun t ht => ?_⟩
      rw [← h] at ht
      obtain ⟨x, hx, rfl⟩ := List.mem_map.1 ht
      have := (List.sublist_flatten_of_mem hx).length_le
      rw [List.length_dropLast]; omega
    · cases h
end Go.Proofs.YtgejaedjnbjpoaaDoor
namespace Go.Proofs.YtgejaedjnbjpoaaDoor
open Go Go.AL
set_option maxRecDepth 100000
theorem cutsBy_step {c : UInt8} {P : List Str} {i : Nat} {r a b : Str} (h : P.drop i = cutsBy c r) (hr : r = a ++ c :: b) (ha : c ∉ a) : P[i]? = some a ∧ P.drop (i + 1) = cutsBy c b := by
  have e : cutsBy c r = a :: cutsBy c b := by rw [hr, cutsBy_cut b ha]
  rw [e] at h
  refine ⟨by rw [← List.head?_drop, h]; rfl, ?_⟩
  rw [← List.tail_drop, h]; rfl
theorem genSplitB_ok (s : Str) (c : UInt8) (hs : s.length ≤ 536870912) : FnOk Tryd.prog 26 [pStr s, pStr [c], pInt 0, pInt (-1)] (fun rs => rs = [pStrs (cutsBy c s)]) := by
  have hP := cutsBy_count c s
  have hcc : s.count c ≤ s.length := List.count_le_length
  have h10 : ([c] : Str).length = 1 := rfl
  obtain ⟨P, hPe⟩ : ∃ P, P = cutsBy c s := ⟨_, rfl⟩
  have hPl : P.length = s.count c + 1 := by rw [hPe]; exact hP
  refine FnOk.intro Tryd.func26 (by decide) rfl rfl rfl rfl ?_
  refine k2 ?_
  refine c_region ?_; refine l_neu (n_assign rfl rfl) rfl ?_; refine l_nil ?_
  refine k1 ?_; refine k2 ?_; refine k2 ?_
  refine c_region ?_; refine l_neu (n_move rfl rfl) rfl ?_; refine l_neu (n_eql rfl rfl) rfl ?_; refine l_nil ?_
  refine k1 ?_
  refine c_cond rfl (fun ht => ?_) (fun ht => ?_)
  · exact absurd (of_decide_eq_true ht) (by omega)
  refine k5 ?_; refine k1 ?_; refine k2 ?_; refine k2 ?_
  refine c_region ?_; refine l_neu (n_move rfl rfl) rfl ?_; refine l_neu (n_eql_s rfl rfl) rfl ?_; refine l_nil ?_
  refine k1 ?_
  refine c_cond rfl (fun ht => ?_) (fun ht => ?_)
  · exact absurd (of_decide_eq_true ht) (by simp)
  refine k5 ?_; refine k1 ?_; refine k2 ?_; refine k2 ?_
  refine c_region ?_; refine l_neu (n_move rfl rfl) rfl ?_; refine l_neu (n_lss rfl rfl) rfl ?_; refine l_nil ?_
  refine k1 ?_
  refine c_cond rfl (fun ht => ?_) (fun ht => ?_)
  rotate_left
  · exact absurd (of_decide_eq_false ht) (by omega)
  skip
  refine c_region ?_; refine l_neu (n_move rfl rfl) rfl ?_; refine l_neu (n_move rfl rfl) rfl ?_; refine l_call (count1_ok s c) rfl rfl rfl ?_; rintro _ rfl; refine l_neu (n_add rfl rfl (by omega)) rfl ?_; refine l_neu (n_assign rfl rfl) rfl ?_; refine l_nil ?_
  refine k1 ?_; refine k2 ?_
  refine c_region ?_; refine l_neu (n_move rfl rfl) rfl ?_; refine l_neu (n_move rfl rfl) rfl ?_; refine l_neu (n_len_s rfl) rfl ?_; refine l_neu (n_add rfl rfl (by omega)) rfl ?_; refine l_neu (n_min rfl rfl) rfl ?_; refine l_neu (n_assign rfl rfl) rfl ?_; refine l_nil ?_
  refine k1 ?_; refine k2 ?_
  rw [show (if (s.length : Int) + 1 < (s.count c : Int) + 1 then (s.length : Int) + 1 else (s.count c : Int) + 1) = (P.length : Int) from by split <;> omega]
  refine c_region ?_; refine l_neu (n_move rfl rfl) rfl ?_; refine l_effv (f_makeZ 9 Str strC [] rfl rfl (by omega) (by omega) (fun _ => by first | exact ⟨⟨rfl, rfl⟩, trivial⟩ | exact ⟨rep_nil _ _ _, trivial⟩) (by first | rfl | (simp [frFree, obFree, Ob.free, SV.free, S1.free, TC.free] <;> rfl))) rfl ?_; refine l_neu (n_assign rfl rfl) rfl ?_; refine l_nil ?_
  refine k1 ?_; refine k2 ?_
  refine c_region ?_; refine l_neu (n_move rfl rfl) rfl ?_; refine l_neu (n_sub rfl rfl (by omega)) rfl ?_; refine l_neu (n_assign rfl rfl) rfl ?_; refine l_nil ?_
  refine k1 ?_; refine k2 ?_
  refine c_region ?_; refine l_neu (n_assign rfl rfl) rfl ?_; refine l_nil ?_
  refine k1 ?_; refine k2 ?_; refine k3 ?_
  refine c_while (X := Nat × Str) (fun x => ([(0, sStr x.2), (1, sStr [c]), (2, sInt 0), (3, sInt ((P.length : Int) - 1)), (9, .s (.one (.mut 9))), (10, sInt x.1)], [(9, .arr Str 1 strC (P.take x.1 ++ List.replicate (P.length - x.1) []))])) (fun x => x.1 + 1 ≤ P.length ∧ P.drop x.1 = cutsBy c x.2 ∧ x.2.length ≤ s.length) (fun x => P.length - x.1) (0, s) ⟨by dsimp only; omega, hPe, Nat.le_refl _⟩ (Sees.of ⟨le1 rfl, le1 rfl, le1 rfl, le1 rfl, le1 rfl, le1 rfl, trivial⟩ ⟨rfl, trivial⟩) ?_
  rintro ⟨i, r⟩ ⟨hi, hp, hr⟩
  dsimp only at hi hp hr ⊢
  refine k2 ?_; refine k2 ?_
  refine c_region ?_; refine l_neu (n_move rfl rfl) rfl ?_; refine l_neu (n_move rfl rfl) rfl ?_; refine l_neu (n_lss rfl rfl) rfl ?_; refine l_nil ?_
  refine k1 ?_
  refine c_cond rfl (fun ht => ?_) (fun ht => ?_)
  · have hlt : i + 1 < P.length := by have := of_decide_eq_true ht; omega
    have hin : c ∈ r := by
      have h1 := cutsBy_count c r
      have h2 : (P.drop i).length = r.count c + 1 := by rw [hp]; exact h1
      rw [List.length_drop] at h2
      exact List.count_pos_iff.1 (by omega)
    rcases indexByte_first c r with ⟨h1, _⟩ | ⟨a, b, h1, h2, h3⟩
    · exact absurd hin h1
    obtain ⟨h4, h5⟩ := cutsBy_step hp h1 h2
    have hl : r.length = a.length + 1 + b.length := by rw [h1]; simp; omega
    refine k5 ?_; refine k1 ?_; refine k3 ?_; refine k2 ?_
    refine c_region ?_; refine l_neu (n_move rfl rfl) rfl ?_; refine l_neu (n_move rfl rfl) rfl ?_; refine l_call (index1_ok r c) rfl rfl rfl ?_; rintro _ rfl; refine l_neu (n_assign rfl rfl) rfl ?_; refine l_nil ?_
    refine k1 ?_; refine k2 ?_; refine k2 ?_
    refine c_region ?_; refine l_neu (n_move rfl rfl) rfl ?_; refine l_neu (n_lss rfl rfl) rfl ?_; refine l_nil ?_
    refine k1 ?_
    rw [h3]
    refine c_cond rfl (fun ht => ?_) (fun ht => ?_)
    · exact absurd (of_decide_eq_true ht) (by omega)
    refine k5 ?_; refine k1 ?_; refine k2 ?_
    refine c_region ?_; refine l_neu (n_move rfl rfl) rfl ?_; refine l_neu (n_move rfl rfl) rfl ?_; refine l_neu (n_move rfl rfl) rfl ?_; refine l_neu (n_move rfl rfl) rfl ?_; refine l_neu (n_move rfl rfl) rfl ?_; refine l_neu (n_add rfl rfl (by omega)) rfl ?_; refine l_neu (n_sub_h rfl rfl (by omega) (by omega)) rfl ?_; refine l_neu (n_indexAddr_mut rfl rfl rfl (by omega) (by (simp; omega))) rfl ?_; refine l_eff (e_store_mref1 TySz.out rfl rfl (by simp; omega) rfl rfl) ?_; refine l_nil ?_
    refine k1 ?_; refine k2 ?_
    refine c_region ?_; refine l_neu (n_move rfl rfl) rfl ?_; refine l_neu (n_move rfl rfl) rfl ?_; refine l_neu (n_move rfl rfl) rfl ?_; refine l_neu (n_len_s rfl) rfl ?_; refine l_neu (n_add rfl rfl (by omega)) rfl ?_; refine l_neu (n_sub_l rfl rfl (by omega) (by omega)) rfl ?_; refine l_neu (n_assign rfl rfl) rfl ?_; refine l_nil ?_
    refine k1 ?_
    refine c_region ?_; refine l_neu (n_move rfl rfl) rfl ?_; refine l_neu (n_add rfl rfl (by omega)) rfl ?_; refine l_neu (n_assign rfl rfl) rfl ?_; refine l_nil ?_
    refine k4 ?_; refine k1 ?_
    have e1 : r.take (((a.length : Int) + 0).toNat) = a := by rw [h1, show ((a.length : Int) + 0).toNat = a.length by omega, List.take_left]
    have e2 : r.drop (((a.length : Int) + (([c] : Str).length : Int)).toNat) = b := by rw [h1, h10, show ((a.length : Int) + ((1 : Nat) : Int)).toNat = a.length + 1 by omega, show a ++ c :: b = (a ++ [c]) ++ b by simp, List.drop_left' (by simp)]
    refine ⟨(i + 1, b), ⟨by dsimp only; omega, h5, by dsimp only; omega⟩, by dsimp only; omega, ?_⟩
    rw [e1, e2]
    dsimp only
    rw [← fill_step P [] _ i h4]
    exact Sees.of ⟨le1 rfl, le1 rfl, le1 rfl, le1 rfl, le1 rfl, le1 rfl, trivial⟩ ⟨rfl, trivial⟩
  · have hge : i + 1 = P.length := by have := of_decide_eq_false ht; omega
    have h1 := cutsBy_count c r
    have h2 : (P.drop i).length = r.count c + 1 := by rw [hp]; exact h1
    rw [List.length_drop] at h2
    have h3 : c ∉ r := List.count_eq_zero.1 (by omega)
    have h4 : P[i]? = some r := by rw [← List.head?_drop, hp, cutsBy_last h3]; rfl
    refine k6 ?_; refine k2 ?_
    refine c_region ?_; refine l_neu (n_move rfl rfl) rfl ?_; refine l_neu (n_move rfl rfl) rfl ?_; refine l_neu (n_move rfl rfl) rfl ?_; refine l_neu (n_indexAddr_mut rfl rfl rfl (by omega) (by (simp; omega))) rfl ?_; refine l_eff (e_store_mref1 TySz.out rfl rfl (by simp; omega) rfl rfl) ?_; refine l_nil ?_
    refine k1 ?_; refine k2 ?_
    have e : (P.take i ++ List.replicate (P.length - i) ([] : Str)).set (i : Int).toNat r = P := by rw [Int.toNat_natCast, fill_step P [] r i h4, hge]; simp
    rw [e]
    refine c_sees (Sees.freeze (k := 9) rfl) ?_
    refine c_region ?_; refine l_neu (n_move rfl rfl) rfl ?_; refine l_neu (n_move rfl rfl) rfl ?_; refine l_neu (n_add rfl rfl (by omega)) rfl ?_; refine l_neu (n_slice_h rfl (.pure _ _ _ _) rfl (by omega) (by omega)) rfl ?_; refine l_neu (n_assign rfl rfl) rfl ?_; refine l_nil ?_
    refine k1 ?_; refine k10 ?_
    exact ret_ret (ret1 rfl rfl rfl) (by rw [show ((i : Int) + 1).toNat = P.length by omega, List.take_length, hPe])
theorem splitB_ok (s : Str) (c : UInt8) (hs : s.length ≤ 536870912) : FnOk Tryd.prog 16 [pStr s, pStr [c]] (fun rs => rs = [pStrs (cutsBy c s)]) := by
  refine FnOk.intro Tryd.func16 (by decide) rfl rfl rfl rfl ?_
  refine k2 ?_
  refine c_region ?_; refine l_neu (n_assign rfl rfl) rfl ?_; refine l_nil ?_
  refine k1 ?_; refine k2 ?_
  refine c_region ?_; refine l_neu (n_move rfl rfl) rfl ?_; refine l_neu (n_move rfl rfl) rfl ?_; refine l_call (genSplitB_ok s c hs) rfl rfl rfl ?_; rintro _ rfl; refine l_neu (n_assign rfl rfl) rfl ?_; refine l_nil ?_
  refine k1 ?_; refine k10 ?_
  exact ret_ret (ret1 rfl rfl rfl) rfl
theorem lhasSuffixP_ok (s p : Str) (hs : s.length ≤ 1073741824) : FnOk Tryd.prog 44 [pStr s, pStr p] (fun rs => rs = [pBool (endsWith s p)]) := by
  refine FnOk.intro Tryd.func44 (by decide) rfl rfl rfl rfl ?_
  refine k2 ?_
  refine c_region ?_; refine l_neu (n_assign rfl rfl) rfl ?_; refine l_nil ?_
  refine k1 ?_; refine k2 ?_
  refine c_region ?_; refine l_neu (n_move rfl rfl) rfl ?_; refine l_neu (n_len_s rfl) rfl ?_; refine l_neu (n_move rfl rfl) rfl ?_; refine l_neu (n_len_s rfl) rfl ?_; refine l_neu (n_geq rfl rfl) rfl ?_; refine l_neu (n_move rfl rfl) rfl ?_; refine l_guard rfl rfl rfl rfl (fun hg => by rw [hg]; exact n_move rfl rfl) ?_; refine l_guard rfl rfl rfl rfl (fun hg => by rw [hg]; exact n_move rfl rfl) ?_; refine l_guard rfl rfl rfl rfl (fun hg => by rw [hg]; exact n_len_s rfl) ?_; refine l_guard rfl rfl rfl rfl (fun hg => by rw [hg]; exact n_move rfl rfl) ?_; refine l_guard rfl rfl rfl rfl (fun hg => by rw [hg]; exact n_len_s rfl) ?_; refine l_guard rfl rfl rfl rfl (fun hg => by have hq := hg; (try simp at hq); rw [hg]; exact n_sub rfl rfl (by omega)) ?_; refine l_guard rfl rfl rfl rfl (fun hg => by have hq := hg; (try simp at hq); rw [hg]; exact n_sub_l rfl rfl (by omega) (by omega)) ?_; refine l_guard rfl rfl rfl rfl (fun hg => by rw [hg]; exact n_move rfl rfl) ?_; refine l_guard rfl rfl rfl rfl (fun hg => by rw [hg]; exact n_eql_s rfl rfl) ?_; refine l_neu (n_pick_bool rfl (fun h => by first | rfl | (rw [h]; rfl)) (fun h => by first | rfl | (rw [h]; rfl))) rfl ?_; refine l_neu (n_assign rfl rfl) rfl ?_; refine l_nil ?_
  simp only [and_pick]
  refine k1 ?_; refine k10 ?_
  refine ret_ret (ret1 rfl rfl rfl) ?_
  unfold endsWith
  congr 4
  congr 1
  apply propext; constructor
  · intro h; have h1 : p.length ≤ s.length := by have := h.1; omega
    exact ⟨by omega, by have := h.2; rw [show s.length - p.length = ((s.length : Int) - (p.length : Int)).toNat by omega]; exact this⟩
  · intro h; exact ⟨by have := h.1; omega, by have := h.2; rw [show s.length - p.length = ((s.length : Int) - (p.length : Int)).toNat by have := h.1; omega] at this; exact this⟩
def cutSf (s p : Str) : List PV := if endsWith s p = true then [pStr (s.take (s.length - p.length)), pBool true] else [pStr s, pBool false]
theorem lcutSuffixP_ok (s p : Str) (hs : s.length ≤ 1073741824) : FnOk Tryd.prog 25 [pStr s, pStr p] (fun rs => rs = cutSf s p) := by
  refine FnOk.intro Tryd.func25 (by decide) rfl rfl rfl rfl ?_
  refine k2 ?_
  refine c_region ?_; refine l_neu (n_assign rfl rfl) rfl ?_; refine l_neu (n_assign rfl rfl) rfl ?_; refine l_nil ?_
  refine k1 ?_; refine k2 ?_; refine k2 ?_
  refine c_region ?_; refine l_neu (n_move rfl rfl) rfl ?_; refine l_neu (n_move rfl rfl) rfl ?_; refine l_call (lhasSuffixP_ok s p hs) rfl rfl rfl ?_; rintro _ rfl; refine l_neu (n_not rfl) rfl ?_; refine l_nil ?_
  refine k1 ?_
  refine c_cond rfl (fun ht => ?_) (fun ht => ?_)
  · have h : endsWith s p = false := by cases h : endsWith s p <;> rw [h] at ht <;> simp at ht ⊢
    refine k2 ?_
    refine c_region ?_; refine l_neu (n_move rfl rfl) rfl ?_; refine l_neu (n_assign rfl rfl) rfl ?_; refine l_neu (n_assign rfl rfl) rfl ?_; refine l_nil ?_
    refine k1 ?_; refine k10 ?_; refine k11 ?_
    exact ret_ret (rs := [pStr s, pBool false]) (ret2 rfl rfl rfl rfl rfl) (by unfold cutSf; rw [h]; rfl)
  · have h : endsWith s p = true := by cases h : endsWith s p <;> rw [h] at ht <;> simp at ht ⊢
    have hl : p.length ≤ s.length := by unfold endsWith at h; exact (of_decide_eq_true h).1
    refine k5 ?_; refine k1 ?_; refine k2 ?_
    refine c_region ?_; refine l_neu (n_move rfl rfl) rfl ?_; refine l_neu (n_move rfl rfl) rfl ?_; refine l_neu (n_len_s rfl) rfl ?_; refine l_neu (n_move rfl rfl) rfl ?_; refine l_neu (n_len_s rfl) rfl ?_; refine l_neu (n_sub rfl rfl (by omega)) rfl ?_; refine l_neu (n_sub_h rfl rfl (by omega) (by omega)) rfl ?_; refine l_neu (n_assign rfl rfl) rfl ?_; refine l_neu (n_assign rfl rfl) rfl ?_; refine l_nil ?_
    refine k1 ?_; refine k10 ?_
    refine ret_ret (rs := [pStr (s.take (s.length - p.length)), pBool true]) (ret2 rfl rfl (by rw [show ((s.length : Int) - (p.length : Int)).toNat = s.length - p.length by omega]; rfl) rfl rfl) (by unfold cutSf; rw [if_pos h])
theorem cutSuffixP_ok (s p : Str) (hs : s.length ≤ 1073741824) : FnOk Tryd.prog 15 [pStr s, pStr p] (fun rs => rs = cutSf s p) := by
  have hc := lcutSuffixP_ok s p hs
  unfold cutSf at hc ⊢
  by_cases h : endsWith s p = true
  · rw [if_pos h] at hc ⊢
    refine FnOk.intro Tryd.func15 (by decide) rfl rfl rfl rfl ?_
    refine k2 ?_
    refine c_region ?_; refine l_neu (n_assign rfl rfl) rfl ?_; refine l_neu (n_assign rfl rfl) rfl ?_; refine l_nil ?_
    refine k1 ?_; refine k2 ?_
    refine c_region ?_; refine l_neu (n_move rfl rfl) rfl ?_; refine l_neu (n_move rfl rfl) rfl ?_; refine l_call (hc) rfl rfl rfl ?_; rintro _ rfl; refine l_neu (n_extract rfl rfl) rfl ?_; refine l_neu (n_extract rfl rfl) rfl ?_; refine l_neu (n_assign rfl rfl) rfl ?_; refine l_neu (n_assign rfl rfl) rfl ?_; refine l_nil ?_
    refine k1 ?_; refine k10 ?_
    exact ret_ret (ret2 rfl rfl rfl rfl rfl) rfl
  · rw [if_neg h] at hc ⊢
    refine FnOk.intro Tryd.func15 (by decide) rfl rfl rfl rfl ?_
    refine k2 ?_
    refine c_region ?_; refine l_neu (n_assign rfl rfl) rfl ?_; refine l_neu (n_assign rfl rfl) rfl ?_; refine l_nil ?_
    refine k1 ?_; refine k2 ?_
    refine c_region ?_; refine l_neu (n_move rfl rfl) rfl ?_; refine l_neu (n_move rfl rfl) rfl ?_; refine l_call (hc) rfl rfl rfl ?_; rintro _ rfl; refine l_neu (n_extract rfl rfl) rfl ?_; refine l_neu (n_extract rfl rfl) rfl ?_; refine l_neu (n_assign rfl rfl) rfl ?_; refine l_neu (n_assign rfl rfl) rfl ?_; refine l_nil ?_
    refine k1 ?_; refine k10 ?_
    exact ret_ret (ret2 rfl rfl rfl rfl rfl) rfl
theorem repeatL_one (c : UInt8) : ∀ n : Nat, Lib.repeatL [c] n = List.replicate n c
  | 0 => rfl
  | n + 1 => by rw [Lib.repeatL, repeatL_one c n]; rfl
theorem repeat_ok (c : UInt8) (n : Nat) (hn : n ≤ 1048576) : FnOk Tryd.prog 41 [pStr [c], pInt n] (fun rs => rs = [pStr (List.replicate n c)]) :=
  FnOk.ofPlainG (xs := [.string ⟨#[c]⟩, .int .i64 n]) (r := .string ⟨(List.replicate n c).toArray⟩) ⟨_, rfl, rfl, rfl⟩ rfl fun w _ => by
    have := Tryd.strings_Repeat ⟨#[c]⟩ n w (by omega) (by show 1 * n ≤ _; omega)
    have e : Lib.repeatL (⟨#[c]⟩ : ByteArray).data.toList n = List.replicate n c := repeatL_one c n
    rw [e] at this
    exact this
end Go.Proofs.YtgejaedjnbjpoaaDoor
