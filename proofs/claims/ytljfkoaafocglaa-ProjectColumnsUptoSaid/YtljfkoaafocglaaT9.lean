/- The statement's own functions: the sanity check, the choice of inputs. -/
import Derived.Test.YtljfkoaafocglaaT7
import Derived.Test.YtljfkoaafocglaaT8
namespace Go.Proofs.Ytljfkoaafocglaa
open Go Go.AL
set_option maxRecDepth 100000

def awakeT : Table := ⟨2, [⟨false, 0, [97, 10]⟩, ⟨true, 1, [98, 10]⟩, ⟨false, 1, [99, 10]⟩]⟩
theorem awakeT_in : rowsIn awakeT.Rows := by intro r hr; simp [awakeT] at hr; rcases hr with rfl | rfl | rfl <;> decide

theorem awake_ok : FnOk Try.prog 4 [] (fun rs => rs = [pBool true]) := by
  have h1 : column20 awakeT (-1) = ([97, 10, 99, 10], 0) := by decide
  have h2 : column20 awakeT 0 = ([97, 10, 98, 10], 0) := by decide
  refine FnOk.intro Try.func4 (by decide) rfl rfl rfl ?_
  repeat (first | refine then_normal ?_ | refine c_seq ?_ | refine c_block ?_ | refine inB_normal ?_ | refine c_skip ?_ | refine c_exit ?_ | refine then_exit ?_ | refine inB_same rfl ?_ | refine inB_other rfl ?_ | refine c_ret ?_ | refine then_ret ?_ | refine inB_ret ?_)
  refine c_region ?_
  refine l_neu (n_assign rfl rfl) rfl ?_
  refine l_nil ?_
  repeat (first | refine then_normal ?_ | refine c_seq ?_ | refine c_block ?_ | refine inB_normal ?_ | refine c_skip ?_ | refine c_exit ?_ | refine then_exit ?_ | refine inB_same rfl ?_ | refine inB_other rfl ?_ | refine c_ret ?_ | refine then_ret ?_ | refine inB_ret ?_)
  refine c_region ?_
  refine l_neu (n_build rfl) rfl ?_
  refine l_neu (n_build rfl) rfl ?_
  refine l_neu (n_build rfl) rfl ?_
  refine l_neu (n_buildSlice (c := rowC) (ys := [⟨false, 0, [97, 10]⟩, ⟨true, 1, [98, 10]⟩, ⟨false, 1, [99, 10]⟩]) (asm_cons rfl rfl rfl rfl (asm_cons rfl rfl rfl rfl (asm_cons rfl rfl rfl rfl asm_nil))) rfl rfl rfl) rfl ?_
  refine l_neu (n_build rfl) rfl ?_
  refine l_effv (f_alloc 1 rfl) rfl ?_
  first | refine l_eff (e_store_ref TySz.out rfl rfl rfl rfl rfl rfl) ?_ | refine l_eff (e_store_mref1 TySz.out rfl rfl (by simp; omega) rfl rfl) ?_ | refine l_eff (e_store_mrefT1 TySz.out rfl rfl (by simp; omega) rfl rfl) ?_
  refine l_nil ?_
  repeat (first | refine then_normal ?_ | refine c_seq ?_ | refine c_block ?_ | refine inB_normal ?_ | refine c_skip ?_ | refine c_exit ?_ | refine then_exit ?_ | refine inB_same rfl ?_ | refine inB_other rfl ?_ | refine c_ret ?_ | refine then_ret ?_ | refine inB_ret ?_)
  refine c_region ?_
  first | refine l_neu (n_loads_ref rfl rfl rfl) rfl ?_ | refine l_neu (n_loads_eref rfl rfl) rfl ?_ | refine l_neu (n_loads_mref rfl rfl (List.getElem?_eq_getElem (by omega)) rfl) rfl ?_
  refine l_call (pColumn_ok awakeT (-1) awakeT_in (by decide) (by decide)) rfl rfl rfl ?_
  rintro _ rfl
  refine l_neu (n_move rfl rfl) rfl ?_
  refine l_neu (n_extract rfl rfl) rfl ?_
  refine l_neu (n_extract rfl rfl) rfl ?_
  refine l_neu (n_assign rfl rfl) rfl ?_
  refine l_neu (n_assign rfl rfl) rfl ?_
  refine l_nil ?_
  rw [h1]
  repeat (first | refine then_normal ?_ | refine c_seq ?_ | refine c_block ?_ | refine inB_normal ?_ | refine c_skip ?_ | refine c_exit ?_ | refine then_exit ?_ | refine inB_same rfl ?_ | refine inB_other rfl ?_ | refine c_ret ?_ | refine then_ret ?_ | refine inB_ret ?_)
  refine c_region ?_
  first | refine l_neu (n_loads_ref rfl rfl rfl) rfl ?_ | refine l_neu (n_loads_eref rfl rfl) rfl ?_ | refine l_neu (n_loads_mref rfl rfl (List.getElem?_eq_getElem (by omega)) rfl) rfl ?_
  refine l_call (pColumn_ok awakeT 0 awakeT_in (by decide) (by decide)) rfl rfl rfl ?_
  rintro _ rfl
  refine l_neu (n_move rfl rfl) rfl ?_
  refine l_neu (n_extract rfl rfl) rfl ?_
  refine l_neu (n_extract rfl rfl) rfl ?_
  refine l_neu (n_assign rfl rfl) rfl ?_
  refine l_neu (n_assign rfl rfl) rfl ?_
  refine l_nil ?_
  rw [h2]
  repeat (first | refine then_normal ?_ | refine c_seq ?_ | refine c_block ?_ | refine inB_normal ?_ | refine c_skip ?_ | refine c_exit ?_ | refine then_exit ?_ | refine inB_same rfl ?_ | refine inB_other rfl ?_ | refine c_ret ?_ | refine then_ret ?_ | refine inB_ret ?_)
  refine c_region ?_
  refine l_neu (n_move rfl rfl) rfl ?_
  refine l_neu (n_eql rfl rfl) rfl ?_
  refine l_neu (n_move rfl rfl) rfl ?_
  refine l_guard rfl rfl rfl rfl (fun hg => by rw [hg]; exact n_move rfl rfl) ?_
  refine l_guard rfl rfl rfl rfl (fun hg => by rw [hg]; exact n_eql rfl rfl) ?_
  refine l_neu (n_pick_bool rfl (fun h => by first | rfl | (rw [h]; rfl)) (fun h => by first | rfl | (rw [h]; rfl))) rfl ?_
  refine l_neu (n_move rfl rfl) rfl ?_
  refine l_guard rfl rfl rfl rfl (fun hg => by rw [hg]; exact n_move rfl rfl) ?_
  refine l_guard rfl rfl rfl rfl (fun hg => by rw [hg]; exact n_eql_s rfl rfl) ?_
  refine l_neu (n_pick_bool rfl (fun h => by first | rfl | (rw [h]; rfl)) (fun h => by first | rfl | (rw [h]; rfl))) rfl ?_
  refine l_neu (n_move rfl rfl) rfl ?_
  refine l_guard rfl rfl rfl rfl (fun hg => by rw [hg]; exact n_move rfl rfl) ?_
  refine l_guard rfl rfl rfl rfl (fun hg => by rw [hg]; exact n_eql_s rfl rfl) ?_
  refine l_neu (n_pick_bool rfl (fun h => by first | rfl | (rw [h]; rfl)) (fun h => by first | rfl | (rw [h]; rfl))) rfl ?_
  refine l_neu (n_assign rfl rfl) rfl ?_
  refine l_nil ?_
  repeat (first | refine then_normal ?_ | refine c_seq ?_ | refine c_block ?_ | refine inB_normal ?_ | refine c_skip ?_ | refine c_exit ?_ | refine then_exit ?_ | refine inB_same rfl ?_ | refine inB_other rfl ?_ | refine c_ret ?_ | refine then_ret ?_ | refine inB_ret ?_)
  exact ret_ret (ret1 rfl rfl rfl) rfl

def pickOf (raw : List Int) (n : Int) : List Str := blobsOf raw (2 + modOf n 4).toNat 7
theorem pickOf_cons (raw : List Int) (n : Int) : ∃ x r, pickOf raw n = x :: r ∧ x.length ≤ 140 ∧ ∀ b ∈ r, b.length ≤ 140 := by
  have hm := modOf_in n (n := 4) (by omega)
  have hl : (pickOf raw n).length = (2 + modOf n 4).toNat := by simp [pickOf, blobsOf]
  have hb : ∀ b ∈ pickOf raw n, b.length ≤ 140 := by
    intro b hb
    obtain ⟨p, _, rfl⟩ := List.mem_map.1 hb
    have := blobAt_len raw 7 p (by omega); omega
  cases h : pickOf raw n with
  | nil => rw [h] at hl; simp at hl; omega
  | cons x r => exact ⟨x, r, rfl, hb x (by rw [h]; simp), fun b hb' => hb b (by rw [h]; simp [hb'])⟩

theorem pick_ok (raw : List Int) (n : Int) (x : Str) (r : List Str) (h : pickOf raw n = x :: r) : FnOk Try.prog 5 [pInts raw, pInt n] (fun rs => rs = [pStr x, pStrs r]) := by
  have hm := modOf_in n (n := 4) (by omega)
  have hlen : (x :: r).length = (2 + modOf n 4).toNat := by rw [← h]; simp [pickOf, blobsOf]
  have hb := blobs_ok raw (2 + modOf n 4).toNat 7 (by omega) (by omega)
  have hcast : (((2 + modOf n 4).toNat : Nat) : Int) = 2 + modOf n 4 := by omega
  rw [hcast] at hb
  have hbr : blobsOf raw (2 + modOf n 4).toNat 7 = x :: r := h
  rw [hbr] at hb
  refine FnOk.intro Try.func5 (by decide) rfl rfl rfl ?_
  repeat (first | refine then_normal ?_ | refine c_seq ?_ | refine c_block ?_ | refine inB_normal ?_ | refine c_skip ?_ | refine c_exit ?_ | refine then_exit ?_ | refine inB_same rfl ?_ | refine inB_other rfl ?_ | refine c_ret ?_ | refine then_ret ?_ | refine inB_ret ?_)
  refine c_region ?_
  refine l_neu (n_assign rfl rfl) rfl ?_
  refine l_neu (n_assign rfl rfl) rfl ?_
  refine l_nil ?_
  repeat (first | refine then_normal ?_ | refine c_seq ?_ | refine c_block ?_ | refine inB_normal ?_ | refine c_skip ?_ | refine c_exit ?_ | refine then_exit ?_ | refine inB_same rfl ?_ | refine inB_other rfl ?_ | refine c_ret ?_ | refine then_ret ?_ | refine inB_ret ?_)
  refine c_region ?_
  refine l_neu (n_move rfl rfl) rfl ?_
  refine l_neu (n_move rfl rfl) rfl ?_
  refine l_call (mod_ok n 4 (by omega) (by omega)) rfl rfl rfl ?_
  rintro _ rfl
  refine l_neu (n_add rfl rfl (by omega)) rfl ?_
  refine l_call (hb) rfl rfl rfl ?_
  rintro _ rfl
  refine l_neu (n_assign rfl rfl) rfl ?_
  refine l_nil ?_
  repeat (first | refine then_normal ?_ | refine c_seq ?_ | refine c_block ?_ | refine inB_normal ?_ | refine c_skip ?_ | refine c_exit ?_ | refine then_exit ?_ | refine inB_same rfl ?_ | refine inB_other rfl ?_ | refine c_ret ?_ | refine then_ret ?_ | refine inB_ret ?_)
  refine c_region_draw (by kernel_rfl) (by kernel_rfl) ?_
  refine d_neu (n_move rfl rfl) rfl rfl ?_
  first | refine d_neu (n_indexAddr rfl (.pure _ _ _ _) rfl (by omega) (show (x :: r)[(0 : Int).toNat]? = some x from rfl)) rfl rfl ?_ | refine d_neu (n_indexAddr rfl (.buf _ _ _ _ _) rfl (by omega) (show (x :: r)[(0 : Int).toNat]? = some x from rfl)) rfl rfl ?_ | refine d_neu (n_indexAddr_mut rfl rfl rfl (by omega) (by omega)) rfl rfl ?_ | refine d_neu (n_indexAddr_mutT rfl rfl rfl (by omega) (by omega)) rfl rfl ?_
  first | refine d_neu (n_load_eref rfl rfl) rfl rfl ?_ | refine d_neu (n_load_ref rfl rfl rfl) rfl rfl ?_ | refine d_neu (n_load_mref rfl rfl (List.getElem?_eq_getElem (by omega)) rfl) rfl rfl ?_ | refine d_neu (n_load_mrefT1 rfl rfl rfl) rfl rfl ?_
  refine d_neu (n_move rfl rfl) rfl rfl ?_
  first | refine d_neu (n_slice_l rfl (.pure _ _ _ _) rfl (by (first | omega | (simp only [List.length_cons]; omega))) (by (first | omega | (simp only [List.length_cons]; omega)))) rfl rfl ?_ | refine d_neu (n_slice_l rfl (.buf _ _ _ _ _) rfl (by (first | omega | (simp only [List.length_cons]; omega))) (by (first | omega | (simp only [List.length_cons]; omega)))) rfl rfl ?_
  refine d_neu (n_assign rfl rfl) rfl rfl ?_
  refine d_neu (n_assign rfl rfl) rfl rfl ?_
  refine d_nil ?_
  repeat (first | refine then_normal ?_ | refine c_seq ?_ | refine c_block ?_ | refine inB_normal ?_ | refine c_skip ?_ | refine c_exit ?_ | refine then_exit ?_ | refine inB_same rfl ?_ | refine inB_other rfl ?_ | refine c_ret ?_ | refine then_ret ?_ | refine inB_ret ?_)
  refine ret_ret (ret2 rfl rfl rfl rfl rfl) ?_
  rfl
end Go.Proofs.Ytljfkoaafocglaa
