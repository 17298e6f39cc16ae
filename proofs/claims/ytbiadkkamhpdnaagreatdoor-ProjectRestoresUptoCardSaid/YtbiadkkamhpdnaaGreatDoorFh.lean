/- Walks of the program's functions. -/
import Derived.Test.YtbiadkkamhpdnaaGreatDoorFg
import Derived.Test.YtbiadkkamhpdnaaGreatDoorFe
import Derived.Test.YtbiadkkamhpdnaaGreatDoorFs
import Derived.Test.YtbiadkkamhpdnaaGreatDoorFc
import Derived.Test.YtbiadkkamhpdnaaGreatDoorFa
import Derived.Test.YtbiadkkamhpdnaaGreatDoorFf
set_option linter.unusedSimpArgs false
namespace Go.Proofs.YtbiadkkamhpdnaaGreatDoor
open Go Go.AL
set_option maxRecDepth 100000
end Go.Proofs.YtbiadkkamhpdnaaGreatDoor
namespace Go.Proofs.YtbiadkkamhpdnaaGreatDoor
open Go Go.AL
set_option maxRecDepth 100000
set_option maxHeartbeats 1000000
end Go.Proofs.YtbiadkkamhpdnaaGreatDoor
namespace Go.Proofs.YtbiadkkamhpdnaaGreatDoor
open Go Go.AL
set_option maxRecDepth 100000
end Go.Proofs.YtbiadkkamhpdnaaGreatDoor
namespace Go.Proofs.YtbiadkkamhpdnaaGreatDoor
open Go Go.AL
set_option maxRecDepth 100000
set_option maxHeartbeats 1000000
end Go.Proofs.YtbiadkkamhpdnaaGreatDoor
namespace Go.Proofs.YtbiadkkamhpdnaaGreatDoor
open Go Go.AL
set_option maxRecDepth 100000
set_option maxHeartbeats 2000000
end Go.Proofs.YtbiadkkamhpdnaaGreatDoor
namespace Go.Proofs.YtbiadkkamhpdnaaGreatDoor
open Go Go.AL
set_option maxRecDepth 100000
end Go.Proofs.YtbiadkkamhpdnaaGreatDoor
namespace Go.Proofs.YtbiadkkamhpdnaaGreatDoor
open Go Go.AL
set_option maxRecDepth 100000
set_option maxHeartbeats 1000000
end Go.Proofs.YtbiadkkamhpdnaaGreatDoor
namespace Go.Proofs.YtbiadkkamhpdnaaGreatDoor
open Go Go.AL
set_option maxRecDepth 100000
set_option maxHeartbeats 1000000
end Go.Proofs.YtbiadkkamhpdnaaGreatDoor
namespace Go.Proofs.YtbiadkkamhpdnaaGreatDoor
open Go Go.AL
set_option maxRecDepth 100000
set_option maxHeartbeats 1000000
end Go.Proofs.YtbiadkkamhpdnaaGreatDoor
namespace Go.Proofs.YtbiadkkamhpdnaaGreatDoor
open Go Go.AL
set_option maxRecDepth 100000
def awakeT : Table := ⟨2, [⟨false, 0, [97, 10]⟩, ⟨true, 1, [98, 10]⟩, ⟨false, 1, [99, 10]⟩]⟩
theorem awakeT_in : rowsIn awakeT.Rows := by intro r hr; simp [awakeT] at hr; rcases hr with rfl | rfl | rfl <;> decide
theorem awake_ok : FnOk Tryz.prog 56 [] (fun rs => rs = [pBool true]) := by
  have h1 : column20 awakeT (-1) = ([97, 10, 99, 10], 0) := by decide
  have h2 : column20 awakeT 0 = ([97, 10, 98, 10], 0) := by decide
  refine FnOk.intro Tryz.func56 (by decide) rfl rfl rfl rfl ?_
  refine k2 ?_
  refine c_region ?_; refine l_neu (n_assign rfl rfl) rfl ?_; refine l_nil ?_
  refine k1 ?_; refine k2 ?_
  refine c_region ?_; refine l_neu (n_build rfl) rfl ?_; refine l_neu (n_build rfl) rfl ?_; refine l_neu (n_build rfl) rfl ?_; refine l_neu (n_buildSlice (c := rowC) (ys := [⟨false, 0, [97, 10]⟩, ⟨true, 1, [98, 10]⟩, ⟨false, 1, [99, 10]⟩]) (asm_cons rfl rfl rfl rfl (asm_cons rfl rfl rfl rfl (asm_cons rfl rfl rfl rfl asm_nil))) rfl rfl rfl) rfl ?_; refine l_neu (n_build rfl) rfl ?_; refine l_effv (f_alloc 1 rfl) rfl ?_; refine l_eff (e_store_ref TySz.out rfl rfl rfl rfl rfl rfl) ?_; refine l_nil ?_
  refine k1 ?_; refine k2 ?_
  refine c_region ?_; refine l_neu (n_loads_ref rfl rfl rfl) rfl ?_; refine l_call (pColumn_ok awakeT (-1) awakeT_in (by decide) (by decide)) rfl rfl rfl ?_; rintro _ rfl; refine l_neu (n_move rfl rfl) rfl ?_; refine l_neu (n_extract rfl rfl) rfl ?_; refine l_neu (n_extract rfl rfl) rfl ?_; refine l_neu (n_assign rfl rfl) rfl ?_; refine l_neu (n_assign rfl rfl) rfl ?_; refine l_nil ?_
  rw [h1]
  refine k1 ?_; refine k2 ?_
  refine c_region ?_; refine l_neu (n_loads_ref rfl rfl rfl) rfl ?_; refine l_call (pColumn_ok awakeT 0 awakeT_in (by decide) (by decide)) rfl rfl rfl ?_; rintro _ rfl; refine l_neu (n_move rfl rfl) rfl ?_; refine l_neu (n_extract rfl rfl) rfl ?_; refine l_neu (n_extract rfl rfl) rfl ?_; refine l_neu (n_assign rfl rfl) rfl ?_; refine l_neu (n_assign rfl rfl) rfl ?_; refine l_nil ?_
  rw [h2]
  refine k1 ?_; refine k2 ?_
  refine c_region ?_; refine l_neu (n_move rfl rfl) rfl ?_; refine l_neu (n_eql rfl rfl) rfl ?_; refine l_neu (n_move rfl rfl) rfl ?_; refine l_guard rfl rfl rfl rfl (fun hg => by rw [hg]; exact n_move rfl rfl) ?_; refine l_guard rfl rfl rfl rfl (fun hg => by rw [hg]; exact n_eql rfl rfl) ?_; refine l_neu (n_pick_bool rfl (fun h => by first | rfl | (rw [h]; rfl)) (fun h => by first | rfl | (rw [h]; rfl))) rfl ?_; refine l_neu (n_move rfl rfl) rfl ?_; refine l_guard rfl rfl rfl rfl (fun hg => by rw [hg]; exact n_move rfl rfl) ?_; refine l_guard rfl rfl rfl rfl (fun hg => by rw [hg]; exact n_eql_s rfl rfl) ?_; refine l_neu (n_pick_bool rfl (fun h => by first | rfl | (rw [h]; rfl)) (fun h => by first | rfl | (rw [h]; rfl))) rfl ?_; refine l_neu (n_move rfl rfl) rfl ?_; refine l_guard rfl rfl rfl rfl (fun hg => by rw [hg]; exact n_move rfl rfl) ?_; refine l_guard rfl rfl rfl rfl (fun hg => by rw [hg]; exact n_eql_s rfl rfl) ?_; refine l_neu (n_pick_bool rfl (fun h => by first | rfl | (rw [h]; rfl)) (fun h => by first | rfl | (rw [h]; rfl))) rfl ?_; refine l_neu (n_assign rfl rfl) rfl ?_; refine l_nil ?_
  refine k1 ?_; refine k10 ?_
  exact ret_ret (ret1 rfl rfl rfl) rfl
def pickOf (raw : List Int) (n : Int) : List Str := blobsOf raw (2 + modOf n 4).toNat 7
theorem pickOf_cons (raw : List Int) (n : Int) : ∃ x r, pickOf raw n = x :: r ∧ x.length ≤ 140 ∧ ∀ b ∈ r, b.length ≤ 140 := by
  have hm := modOf_in n (n := 4) (by omega)
  have hl : (pickOf raw n).length = (2 + modOf n 4).toNat := by simp [pickOf, blobsOf]
  have hb : ∀ b ∈ pickOf raw n, b.length ≤ 140 := by
    intro b hb
    obtain ⟨p, _, rfl⟩ := List.mem_map.1 hb
    have := blobAt_len raw 7 p (by omega); omega
  cases h : pickOf raw n with
  | nil => rw [h] at hl; simp at hl; omega
  | cons x r => exact ⟨x, r, rfl, hb x (by rw [h]; simp), fun b hb' => hb b (by rw [h]; simp [hb'])⟩
theorem pick_ok (raw : List Int) (n : Int) (x : Str) (r : List Str) (h : pickOf raw n = x :: r) : FnOk Tryz.prog 52 [pInts raw, pInt n] (fun rs => rs = [pStr x, pStrs r]) := by
  have hm := modOf_in n (n := 4) (by omega)
  have hlen : (x :: r).length = (2 + modOf n 4).toNat := by rw [← h]; simp [pickOf, blobsOf]
  have hb := blobs_ok raw (2 + modOf n 4).toNat 7 (by omega) (by omega)
  have hcast : (((2 + modOf n 4).toNat : Nat) : Int) = 2 + modOf n 4 := by omega
  rw [hcast] at hb
  have hbr : blobsOf raw (2 + modOf n 4).toNat 7 = x :: r := h
  rw [hbr] at hb
  refine FnOk.intro Tryz.func52 (by decide) rfl rfl rfl rfl ?_
  refine k2 ?_
  refine c_region ?_; refine l_neu (n_assign rfl rfl) rfl ?_; refine l_neu (n_assign rfl rfl) rfl ?_; refine l_nil ?_
  refine k1 ?_; refine k2 ?_
  refine c_region ?_; refine l_neu (n_move rfl rfl) rfl ?_; refine l_neu (n_move rfl rfl) rfl ?_; refine l_call (mod_ok n 4 (by omega) (by omega)) rfl rfl rfl ?_; rintro _ rfl; refine l_neu (n_add rfl rfl (by omega)) rfl ?_; refine l_call (hb) rfl rfl rfl ?_; rintro _ rfl; refine l_neu (n_assign rfl rfl) rfl ?_; refine l_nil ?_
  refine k1 ?_; refine k2 ?_
  refine c_region_draw (by kernel_rfl) (by kernel_rfl) ?_; refine d_neu (n_move rfl rfl) rfl rfl ?_; refine d_neu (n_indexAddr rfl (.pure _ _ _ _) rfl (by omega) (show (x :: r)[(0 : Int).toNat]? = some x from rfl)) rfl rfl ?_; refine d_neu (n_load_eref rfl rfl) rfl rfl ?_; refine d_neu (n_move rfl rfl) rfl rfl ?_; refine d_neu (n_slice_l rfl (.pure _ _ _ _) rfl (by (first | omega | (simp only [List.length_cons]; omega))) (by (first | omega | (simp only [List.length_cons]; omega)))) rfl rfl ?_; refine d_neu (n_assign rfl rfl) rfl rfl ?_; refine d_neu (n_assign rfl rfl) rfl rfl ?_; refine d_nil ?_
  refine k1 ?_; refine k10 ?_
  refine ret_ret (ret2 rfl rfl rfl rfl rfl) ?_
  rfl
end Go.Proofs.YtbiadkkamhpdnaaGreatDoor
namespace Go.Proofs.YtbiadkkamhpdnaaGreatDoor
open Go Go.AL
set_option maxRecDepth 100000
theorem lineTab_cnt : ∀ s ∈ lineTab, s.count 10 = 0 := by decide
theorem lineOf_cnt (k : Int) : (lineOf k).count 10 = 0 := by
  unfold lineOf
  rw [List.getD_eq_getElem?_getD]
  cases h : lineTab[(modOf k 10).toNat]? with
  | none => rfl
  | some s => exact lineTab_cnt s (List.mem_of_getElem? h)
theorem blobLines_cnt (raw : List Int) (from' kinds : Int) (m : Nat) : (blobLines raw from' kinds m).count 10 = m := by
  induction m with
  | zero => simp [blobLines]
  | succ m ih => rw [blobLines_succ, List.count_append, List.count_append, ih, lineOf_cnt]; rfl
theorem blobOf_cnt (raw : List Int) (from' n kinds : Int) (h1 : 0 ≤ n) : ((blobOf raw from' n kinds).count 10 : Int) ≤ n := by
  have h := modOf_in (atOf raw from') (n := n + 1) (by omega)
  have h2 := blobLines_cnt raw from' kinds (modOf (atOf raw from') (n + 1)).toNat
  have h3 := (List.take_sublist ((blobLines raw from' kinds (modOf (atOf raw from') (n + 1)).toNat).length - 1) (blobLines raw from' kinds (modOf (atOf raw from') (n + 1)).toNat)).count_le (a := (10 : UInt8))
  unfold blobOf
  simp only
  split
  · omega
  · omega
theorem nearGo_cnt (raw : List Int) (from' : Int) : ∀ (l : List Str) (i : Nat) (s : Str), (nearGo raw from' i s l).count 10 ≤ s.count 10 + l.flatten.count 10 + l.length
  | [], i, s => by simp [nearGo]
  | x :: r, i, s => by
    have h1 := nearGo_cnt raw from' r (i + 1) s
    have h2 := nearGo_cnt raw from' r (i + 1) (s ++ lineOf (atOf raw (from' + 40 + (i : Int))) ++ [10] ++ x)
    have h3 := nearGo_cnt raw from' r (i + 1) (s ++ x)
    have h4 := lineOf_cnt (atOf raw (from' + 40 + (i : Int)))
    have h5 : List.count (10 : UInt8) [10] = 1 := rfl
    simp only [List.count_append, h4, h5] at h2 h3
    unfold nearGo
    simp only [List.flatten_cons, List.count_append, List.length_cons]
    split
    · omega
    · split <;> omega
theorem blobAt_cnt (raw : List Int) (p : Nat) : (blobAt raw 7 p).count 10 ≤ 15 := by
  have h1 := blobOf_cnt raw (600 + 50 * (p : Int)) 7 4 (by omega)
  have h2 := blobOf_cnt raw 0 7 5 (by omega)
  have h3 := nearGo_cnt raw (600 + 50 * (p : Int)) (linesOf (blobOf raw 0 7 5)) 0 []
  have h4 := linesOf_cnt (blobOf raw 0 7 5)
  rw [linesOf_flatten] at h3
  have h5 : List.count (10 : UInt8) ([] : Str) = 0 := rfl
  unfold blobAt
  split
  · omega
  · split
    · omega
    · unfold nearOf; omega
theorem pick_lines (raw : List Int) (n : Int) : ∀ b ∈ pickOf raw n, (linesOf b).length ≤ 16 ∧ b.length ≤ 140 := by
  intro b hb
  obtain ⟨p, _, rfl⟩ := List.mem_map.1 hb
  have h1 := blobAt_len raw 7 p (by omega)
  have h2 := blobAt_cnt raw p
  have h3 := linesOf_cnt (blobAt raw 7 p)
  omega
theorem pick_len (raw : List Int) (n : Int) {x : Str} {r : List Str} (h : pickOf raw n = x :: r) : 1 ≤ r.length ∧ r.length ≤ 4 := by
  have hm := modOf_in n (n := 4) (by omega)
  have hl : (pickOf raw n).length = (2 + modOf n 4).toNat := by simp [pickOf, blobsOf]
  rw [h, List.length_cons] at hl
  omega
structure Small16 (x : Str) (r : List Str) : Prop where
  n : r.length ≤ 32
  hx : x.length ≤ 140
  hr : ∀ b ∈ r, b.length ≤ 140
  rows : rowsIn (make16 x r).1.Rows
  len : (make16 x r).1.Rows.length ≤ 1105
  txt : ∀ q ∈ (make16 x r).1.Rows, q.Text.length ≤ 140
theorem pick_small {raw : List Int} {n : Int} {x : Str} {r : List Str} (h : pickOf raw n = x :: r) : Small16 x r := by
  have h1 := pick_len raw n h
  have h2 := pick_lines raw n
  rw [h] at h2
  have hx := h2 x (by simp)
  have hr : ∀ b ∈ r, (linesOf b).length ≤ 16 ∧ b.length ≤ 140 := fun b hb => h2 b (by simp [hb])
  obtain ⟨k1, k2, k3⟩ := make16_rows2 x r 16 140 hx hr
  have h4 : r.length * 16 + 1 ≤ 65 := by omega
  exact ⟨by omega, hx.2, fun b hb => (hr b hb).2, k1, by omega, k3⟩
theorem textsLen_le {rows : List Row} {B : Nat} (h : ∀ q ∈ rows, q.Text.length ≤ B) : textsLen rows ≤ rows.length * B ∧ (rows.map szRow).sum ≤ rows.length * (B + 96) ∧ ∀ n, (rows.map (wRow n)).sum ≤ rows.length * (B + n + 29) := by
  unfold textsLen
  induction rows with
  | nil => simp
  | cons x r ih =>
    obtain ⟨i1, i2, i3⟩ := ih fun q hq => h q (by simp [hq])
    have hx := h x (by simp)
    simp only [List.map_cons, List.flatten_cons, List.length_append, List.sum_cons, List.length_cons, Nat.add_mul, Nat.one_mul]
    simp only [Nat.mul_add] at i2 i3 ⊢
    refine ⟨by omega, by unfold szRow at i2 ⊢; omega, fun n => ?_⟩
    have := i3 n
    unfold wRow at this ⊢
    omega
theorem Small16.sums {x : Str} {r : List Str} (h : Small16 x r) : textsLen (make16 x r).1.Rows ≤ 154700 ∧ ((make16 x r).1.Rows.map szRow).sum ≤ 260780 ∧ ∀ n, n ≤ 32 → ((make16 x r).1.Rows.map (wRow n)).sum ≤ 1105 * 201 := by
  obtain ⟨h1, h2, h3⟩ := textsLen_le h.txt
  have h4 := h.len
  refine ⟨by omega, by omega, fun n hn => ?_⟩
  refine Nat.le_trans (h3 n) ?_
  exact Nat.mul_le_mul h4 (by omega)
set_option maxHeartbeats 1000000
end Go.Proofs.YtbiadkkamhpdnaaGreatDoor
namespace Go.Proofs.YtbiadkkamhpdnaaGreatDoor
open Go Go.AL
set_option maxRecDepth 100000
theorem cut_ord {n : Nat} {rows : List Row} : ∀ {sp : List Span} {e : Int} {hs : List CHunk}, ordB rows.length e sp = false → cutGo n rows e hs sp = none
  | [], e, hs, h => by cases h
  | s :: r, e, hs, h => by
    rw [ordB] at h
    rw [cutGo]
    by_cases hc : s.From < e ∨ s.To ≤ s.From ∨ (rows.length : Int) < s.To
    · rw [if_pos hc]
    · rw [if_neg hc] at h ⊢
      exact cut_ord h
abbrev z59 : Ob := .box [.p (.v (.string ⟨#[]⟩)), .p (.v (.bool false)), .p (.v (.int .i64 0)), .p (.v (.slice none 0 0))]
set_option maxHeartbeats 1000000
theorem pcut_ok (path : Str) (t : Table) (sp : List Span) (d : Bool) (hr : rowsIn t.Rows) (hW : (t.Rows.map szRow).sum ≤ 8388608) (hx : textsLen t.Rows ≤ 8388608) (hsp : sp.length ≤ 536870912) :
    FnOk Tryz.prog 98 [pStr path, pTable t, pSpans sp, pBool d] (fun rs => rs = [pComb (cut18 path t sp d).1, pInt (cut18 path t sp d).2]) := by
  have hl := szRow_len t.Rows
  have hll : t.Rows.length ≤ 8388608 := by omega
  refine FnOk.intro Tryz.func98 (by decide) rfl rfl rfl rfl ?_
  refine k2 ?_
  refine c_region ?_; refine l_effv (f_box 5 rfl rfl rfl) rfl ?_; refine l_effv (f_alloc 8 rfl) rfl ?_; refine l_neu (n_assign rfl rfl) rfl ?_; refine l_nil ?_
  refine k1 ?_; refine k2 ?_; refine k2 ?_
  refine c_region ?_; refine l_neu (n_move rfl rfl) rfl ?_; refine l_call (cnamed_ok path) rfl rfl rfl ?_; rintro _ rfl; refine l_neu (n_not rfl) rfl ?_; refine l_nil ?_
  refine k1 ?_
  refine c_cond rfl (fun ht => ?_) (fun ht => ?_)
  · have h : nameOk path = false := by simpa using ht
    refine k2 ?_
    refine c_region ?_; refine l_neu (n_build rfl) rfl ?_; refine l_eff (e_store_ref TySz.out rfl rfl rfl rfl rfl rfl) ?_; refine l_neu (n_assign rfl rfl) rfl ?_; refine l_nil ?_
    refine k1 ?_
    refine c_sees (Sees.listB CHunk 2 chunkC 8 3 rfl rfl) ?_
    refine k10 ?_; refine k11 ?_
    exact ret_ret (rs := [pComb comb0, pInt 120]) (retc2 rfl rfl rfl rfl rfl rfl rfl) (by unfold cut18; rw [if_pos h])
  have h : nameOk path = true := by simpa using ht
  refine k5 ?_; refine k1 ?_; refine k2 ?_; refine k2 ?_
  refine c_region ?_; refine l_neu (n_loads_ref rfl rfl rfl) rfl ?_; refine l_call (wcheck_ok t hr (by omega) (by omega)) rfl rfl rfl ?_; rintro _ rfl; refine l_neu (n_assign rfl rfl) rfl ?_; refine l_nil ?_
  refine k1 ?_; refine k2 ?_
  refine c_region ?_; refine l_neu (n_move rfl rfl) rfl ?_; refine l_neu (n_neq rfl rfl) rfl ?_; refine l_nil ?_
  refine k1 ?_
  refine c_cond rfl (fun ht => ?_) (fun ht => ?_)
  · have h1 := of_decide_eq_true ht
    refine k2 ?_
    refine c_region ?_; refine l_neu (n_build rfl) rfl ?_; refine l_neu (n_move rfl rfl) rfl ?_; refine l_eff (e_store_ref TySz.out rfl rfl rfl rfl rfl rfl) ?_; refine l_neu (n_assign rfl rfl) rfl ?_; refine l_nil ?_
    refine k1 ?_
    refine c_sees (Sees.listB CHunk 2 chunkC 8 3 rfl rfl) ?_
    refine k10 ?_; refine k11 ?_
    exact ret_ret (rs := [pComb comb0, pInt (check16 t)]) (retc2 rfl rfl rfl rfl rfl rfl rfl) (by unfold cut18; rw [if_neg (by rw [h]; decide), if_pos h1])
  have h1 := of_decide_eq_false ht
  have h10 : check16 t = 0 := by omega
  obtain ⟨hn1, hn2⟩ := check16_par h10
  obtain ⟨n, hn⟩ : ∃ n : Nat, t.Parents = n := ⟨t.Parents.toNat, by omega⟩
  obtain ⟨tp, rows⟩ := t
  have hn : tp = (n : Int) := hn
  subst hn
  dsimp only at hr hW hx hl hll hn1 hn2
  have hcut : cut18 path ⟨n, rows⟩ sp d = match cutGo n rows 0 [] sp with
    | none => (comb0, 3)
    | some hs => if check18 ⟨path, d, (n : Int), hs⟩ ≠ 0 then (comb0, check18 ⟨path, d, (n : Int), hs⟩) else (⟨path, d, (n : Int), hs⟩, 0) := by
    unfold cut18; rw [if_neg (by rw [h]; decide), if_neg (by omega)]; rfl
  rw [hcut]
  obtain ⟨W, hWd⟩ : ∃ W, W = cutGo n rows 0 [] sp := ⟨_, rfl⟩
  have hcs : ∀ hs, W = some hs → szC hs ≤ 268435456 ∧ ∀ x ∈ hs, rowsIn x.Rows := fun hs e => cut_szC (n := n) (by omega) hr hW (by rw [← hWd]; exact e)
  have hord0 := cut_ord (n := n) (rows := rows) (sp := sp) (e := 0) (hs := [])
  rw [← hWd] at hord0 ⊢
  refine k5 ?_; refine k1 ?_; refine k2 ?_; refine k2 ?_
  refine c_region ?_; refine l_neu (n_move rfl rfl) rfl ?_; refine l_neu (n_field_ref rfl) rfl ?_; refine l_neu (n_load_ref rfl rfl rfl) rfl ?_; refine l_neu (n_len rfl (.pure _ _ _ _)) rfl ?_; refine l_call (cordered_ok sp rows.length hsp) rfl rfl rfl ?_; rintro _ rfl; refine l_neu (n_not rfl) rfl ?_; refine l_nil ?_
  refine k1 ?_
  refine c_cond rfl (fun ht => ?_) (fun ht => ?_)
  · have hno : ordB rows.length 0 sp = false := by simpa using ht
    rw [hord0 hno]
    refine k2 ?_
    refine c_region ?_; refine l_neu (n_build rfl) rfl ?_; refine l_eff (e_store_ref TySz.out rfl rfl rfl rfl rfl rfl) ?_; refine l_neu (n_assign rfl rfl) rfl ?_; refine l_nil ?_
    refine k1 ?_
    refine c_sees (Sees.listB CHunk 2 chunkC 8 3 rfl rfl) ?_
    refine k10 ?_; refine k11 ?_
    exact ret_ret (rs := [pComb comb0, pInt 3]) (retc2 rfl rfl rfl rfl rfl rfl rfl) rfl
  have hord : ordB rows.length 0 sp = true := by simpa using ht
  refine k5 ?_; refine k1 ?_; refine k2 ?_
  refine c_region ?_; refine l_neu (n_move rfl rfl) rfl ?_; refine l_neu (n_move rfl rfl) rfl ?_; refine l_neu (n_field_ref rfl) rfl ?_; refine l_neu (n_load_ref rfl rfl rfl) rfl ?_; refine l_neu (n_build rfl) rfl ?_; refine l_effv (f_alloc 11 rfl) rfl ?_; refine l_eff (e_store_ref TySz.out rfl rfl rfl rfl rfl rfl) ?_; refine l_nil ?_
  refine c_sees (Sees.adoptB 754 CHunk 2 chunkC 59 (kb := 11) (o := 3) rfl rfl rfl) ?_
  refine k2 ?_
  have e0 : ((n : Int) + 1).toNat = n + 1 := by omega
  have hz : List.replicate (n + 1) (0 : Int) = countsC (rows.take 0) n := by
    refine List.ext_getElem (by simp [countsC]) fun q h1 h2 => ?_
    simp [countsC, cntC, colOf]
  refine c_region ?_; refine l_neu (n_field_ref rfl) rfl ?_; refine l_neu (n_load_ref rfl rfl rfl) rfl ?_; refine l_neu (n_add rfl rfl (by omega)) rfl ?_; refine l_effv (f_makeZ 720 Int intC 0 rfl rfl (by omega) (by omega) (fun _ => by first | exact ⟨⟨rfl, rfl⟩, trivial⟩ | exact ⟨rep_nil _ _ _, trivial⟩) (by first | rfl | (simp [frFree, obFree, Ob.free, SV.free, S1.free, TC.free] <;> rfl))) rfl ?_; refine l_effv (f_alloc 12 rfl) rfl ?_; refine l_eff (e_store_ref TySz.out rfl rfl rfl rfl rfl rfl) ?_; refine l_nil ?_
  rw [e0, hz]
  refine k1 ?_; refine k2 ?_
  refine c_region ?_; refine l_effv (f_alloc 13 rfl) rfl ?_; refine l_eff (e_store_ref TySz.out rfl rfl rfl rfl rfl rfl) ?_; refine l_nil ?_
  refine k1 ?_; refine k2 ?_
  refine c_region ?_; refine l_neu (n_makeFunc rfl rfl) rfl ?_; refine l_neu (n_assign rfl rfl) rfl ?_; refine l_nil ?_
  refine k1 ?_; refine k2 ?_; refine k2 ?_
  refine c_region ?_; refine l_neu (n_move rfl rfl) rfl ?_; refine l_neu (n_len rfl (.pure _ _ _ _)) rfl ?_; refine l_neu (n_move rfl rfl) rfl ?_; refine l_nil ?_
  refine k1 ?_; refine k3 ?_
  refine c_while (X := Nat × Nat × List CHunk) (fun x => ([(5, .s (.one (.ref 5 0))), (8, .s (.one (.ref 8 0))), (11, .s (.one (.ref 11 0))), (12, .s (.one (.ref 12 0))), (14, .s (.one (.clo 165 [] [(5, 0), (13, 0), (12, 0)]))), (45, sList Span 2 spanC sp), (46, sInt sp.length), (47, sInt x.1)], [(5, .box (pTable ⟨n, rows⟩).s1.cells), (8, z59), (11, .box [.p (.v (.string ⟨path.toArray⟩)), .p (.v (.bool d)), .p (.v (.int .i64 n)), .buf 754 CHunk 2 chunkC x.2.2]), (754, .spare x.2.2.length 2 59), (12, .box [.mut 720]), (13, intBox x.2.1), (720, .arr Int 1 intC (countsC (rows.take x.2.1) n))])) (fun x => x.1 ≤ sp.length ∧ x.2.1 ≤ rows.length ∧ x.2.2.length ≤ x.1 ∧ W = cutGo n rows x.2.1 x.2.2 (sp.drop x.1) ∧ ordB rows.length x.2.1 (sp.drop x.1) = true) (fun x => sp.length - x.1) (0, 0, []) ⟨Nat.zero_le _, Nat.zero_le _, Nat.le_refl _, hWd, hord⟩ (Sees.of ⟨le1 rfl, le1 rfl, le1 rfl, le1 rfl, le1 rfl, le1 rfl, le1 rfl, le1 rfl, trivial⟩ ⟨rfl, rfl, rfl, rfl, rfl, rfl, rfl, trivial⟩) ?_
  rintro ⟨k, e, hs⟩ ⟨hk, he, hsl, hp, ho⟩
  dsimp only at hk he hsl hp ho ⊢
  refine k2 ?_
  refine c_region ?_; refine l_neu (n_lss rfl rfl) rfl ?_; refine l_nil ?_
  refine k1 ?_; refine k2 ?_
  refine c_cond rfl (fun ht => ?_) (fun ht => ?_)
  rotate_left
  · have hkl : k = sp.length := by have := of_decide_eq_false ht; omega
    rw [hkl, List.drop_eq_nil_of_le (Nat.le_refl _)] at hp
    have hp : W = some hs := hp
    obtain ⟨z1, z2⟩ := hcs hs hp
    rw [hp]
    dsimp only
    refine k6 ?_; refine k2 ?_; refine k2 ?_
    refine c_region ?_; refine l_neu (n_loads_ref rfl rfl rfl) rfl ?_; refine l_call (ccheck_ok ⟨path, d, n, hs⟩ z1 z2) rfl rfl rfl ?_; rintro _ rfl; refine l_neu (n_assign rfl rfl) rfl ?_; refine l_nil ?_
    refine k1 ?_; refine k2 ?_
    refine c_region ?_; refine l_neu (n_move rfl rfl) rfl ?_; refine l_neu (n_neq rfl rfl) rfl ?_; refine l_nil ?_
    refine k1 ?_
    refine c_cond rfl (fun ht => ?_) (fun ht => ?_)
    · have h2 := of_decide_eq_true ht
      refine k2 ?_
      refine c_region ?_; refine l_neu (n_build rfl) rfl ?_; refine l_neu (n_move rfl rfl) rfl ?_; refine l_eff (e_store_ref TySz.out rfl rfl rfl rfl rfl rfl) ?_; refine l_neu (n_assign rfl rfl) rfl ?_; refine l_nil ?_
      refine k1 ?_
      refine c_sees (Sees.listB CHunk 2 chunkC 8 3 rfl rfl) ?_
      refine k10 ?_; refine k11 ?_
      exact ret_ret (rs := [pComb comb0, pInt (check18 ⟨path, d, n, hs⟩)]) (retc2 rfl rfl rfl rfl rfl rfl rfl) (by rw [if_pos h2])
    · have h2 := of_decide_eq_false ht
      refine k5 ?_; refine k1 ?_; refine k2 ?_
      refine c_region ?_; refine l_neu (n_loads_ref rfl rfl rfl) rfl ?_; refine l_eff (e_store_ref TySz.out rfl rfl rfl rfl rfl rfl) ?_; refine l_neu (n_assign rfl rfl) rfl ?_; refine l_nil ?_
      refine k1 ?_; refine k10 ?_
      exact ret_ret (rs := [pComb ⟨path, d, n, hs⟩, pInt 0]) (retc2 rfl rfl rfl rfl rfl rfl rfl) (by rw [if_neg h2])
  have hlt : k < sp.length := by have := of_decide_eq_true ht; omega
  have hv : sp[k]? = some sp[k] := by simp [hlt]
  rw [List.drop_eq_getElem_cons hlt, cutGo] at hp
  rw [List.drop_eq_getElem_cons hlt, ordB] at ho
  obtain ⟨s, hsd⟩ : ∃ s, s = sp[k] := ⟨_, rfl⟩
  rw [← hsd] at hp hv ho
  have hc : ¬ (s.From < (e : Int) ∨ s.To ≤ s.From ∨ (rows.length : Int) < s.To) := by
    intro hc
    rw [if_pos hc] at ho; cases ho
  rw [if_neg hc] at hp ho
  simp only [not_or, Int.not_lt, Int.not_le] at hc
  obtain ⟨c1, c2, c3⟩ := hc
  obtain ⟨F, hF⟩ : ∃ F : Nat, s.From = F := ⟨s.From.toNat, by omega⟩
  obtain ⟨T, hT⟩ : ∃ T : Nat, s.To = T := ⟨s.To.toNat, by omega⟩
  obtain ⟨sF, sT⟩ := s
  have hF : sF = (F : Int) := hF
  have hT : sT = (T : Int) := hT
  subst hF hT
  dsimp only at c1 c2 c3 hp ho
  rw [Int.toNat_natCast, Int.toNat_natCast] at hp
  have hsub : ((rows.drop F).take (T - F)).length = T - F := by rw [List.length_take, List.length_drop]; omega
  have hcl : (countsC (rows.take F) n).length = n + 1 := by simp [countsC]
  refine k5 ?_; refine k1 ?_; refine k2 ?_; refine k3 ?_; refine k2 ?_
  refine c_region ?_; refine l_neu (n_indexAddr rfl (.pure _ _ _ _) rfl (by omega) hv) rfl ?_; refine l_neu (n_loads_eref rfl rfl) rfl ?_; refine l_effv (f_alloc 16 rfl) rfl ?_; refine l_eff (e_store_ref TySz.out rfl rfl rfl rfl rfl rfl) ?_; refine l_nil ?_
  refine c_cut [(5, .s (.one (.ref 5 0))), (8, .s (.one (.ref 8 0))), (11, .s (.one (.ref 11 0))), (12, .s (.one (.ref 12 0))), (14, .s (.one (.clo 165 [] [(5, 0), (13, 0), (12, 0)]))), (16, .s (.one (.ref 16 0))), (45, sList Span 2 spanC sp), (46, sInt sp.length), (47, sInt k)] [(5, .box (pTable ⟨n, rows⟩).s1.cells), (8, z59), (11, .box [.p (.v (.string ⟨path.toArray⟩)), .p (.v (.bool d)), .p (.v (.int .i64 n)), .buf 754 CHunk 2 chunkC hs]), (754, .spare hs.length 2 59), (12, .box [.mut 720]), (13, intBox e), (720, .arr Int 1 intC (countsC (rows.take e) n)), (16, .box [.p (.v (.int .i64 F)), .p (.v (.int .i64 T))])] (Sees.of ⟨le1 rfl, le1 rfl, le1 rfl, le1 rfl, le1 rfl, le1 rfl, le1 rfl, le1 rfl, le1 rfl, trivial⟩ ⟨rfl, rfl, rfl, rfl, rfl, rfl, rfl, rfl, trivial⟩) ?_
  refine k2 ?_
  refine c_region ?_; refine l_neu (n_move rfl rfl) rfl ?_; refine l_neu (n_field_ref rfl) rfl ?_; refine l_neu (n_load_ref rfl rfl rfl) rfl ?_; refine l_metF (cutAdv_met ⟨n, rows⟩ n e F rfl (by omega) hr (by dsimp only; omega) (by omega) (by dsimp only; omega) rfl rfl rfl rfl) rfl rfl rfl rfl ?_; rintro _ _ ⟨rfl, rfl⟩; refine l_nil ?_
  refine c_cut [(5, .s (.one (.ref 5 0))), (8, .s (.one (.ref 8 0))), (11, .s (.one (.ref 11 0))), (12, .s (.one (.ref 12 0))), (14, .s (.one (.clo 165 [] [(5, 0), (13, 0), (12, 0)]))), (16, .s (.one (.ref 16 0))), (45, sList Span 2 spanC sp), (46, sInt sp.length), (47, sInt k)] [(5, .box (pTable ⟨n, rows⟩).s1.cells), (8, z59), (11, .box [.p (.v (.string ⟨path.toArray⟩)), .p (.v (.bool d)), .p (.v (.int .i64 n)), .buf 754 CHunk 2 chunkC hs]), (754, .spare hs.length 2 59), (12, .box [.mut 720]), (13, intBox F), (720, .arr Int 1 intC (countsC (rows.take F) n)), (16, .box [.p (.v (.int .i64 F)), .p (.v (.int .i64 T))])] (Sees.of ⟨le1 rfl, le1 rfl, le1 rfl, le1 rfl, le1 rfl, le1 rfl, le1 rfl, le1 rfl, le1 rfl, trivial⟩ ⟨rfl, rfl, rfl, rfl, rfl, rfl, rfl, rfl, trivial⟩) ?_
  refine k2 ?_
  have hCR := cloneR_ok ((rows.drop F).take (T - F)) (by omega)
  have hCI := fun gf ob h => cloneI_met (gf := gf) (ob := ob) (countsC (rows.take F) n) (by omega) h
  refine c_region_ord [16, 14, 3] [[], [3], [14, 3], [16, 14, 3]] [(3, ([], [])), (14, ([754], [56])), (16, ([], []))] [(0, []), (1, []), (2, []), (3, []), (4, []), (5, []), (6, []), (7, []), (8, []), (9, []), (10, []), (11, [3]), (12, [3]), (13, [3]), (14, [3]), (15, [14, 3]), (16, [14, 3])] [(0, [3]), (1, [3]), (4, [3]), (5, [3]), (6, [3]), (7, [3]), (8, [3]), (9, [3]), (10, [3])] (by kernel_rfl) (by kernel_rfl) ?_; refine w_neu rfl rfl (by kernel_rfl) rfl rfl (n_field_ref rfl) ?_; refine w_neu rfl rfl (by kernel_rfl) rfl rfl (n_load_ref rfl rfl rfl) ?_; refine w_neu rfl rfl (by kernel_rfl) rfl rfl (n_load_ref rfl rfl rfl) ?_; refine w_eff rfl rfl (by kernel_rfl) rfl rfl (r_met (fun gf => hCI gf _ rfl) rfl rfl) rfl ?_; refine w_neu rfl rfl (by kernel_rfl) rfl rfl (n_field_ref rfl) ?_; refine w_neu rfl rfl (by kernel_rfl) rfl rfl (n_load_ref rfl rfl rfl) ?_; refine w_neu rfl rfl (by kernel_rfl) rfl rfl (n_field_ref rfl) ?_; refine w_neu rfl rfl (by kernel_rfl) rfl rfl (n_load_ref rfl rfl rfl) ?_; refine w_neu rfl rfl (by kernel_rfl) rfl rfl (n_field_ref rfl) ?_; refine w_neu rfl rfl (by kernel_rfl) rfl rfl (n_load_ref rfl rfl rfl) ?_; refine w_neu rfl rfl (by kernel_rfl) rfl rfl (n_slice_lh rfl (.pure _ _ _ _) rfl rfl (by (first | omega | (dsimp only; omega))) (by (first | omega | (dsimp only; omega))) (by (first | omega | (dsimp only; omega)))) ?_; refine w_neu rfl rfl (by kernel_rfl) rfl rfl (n_call1 (hCR) rfl rfl) ?_; refine w_neu rfl rfl (by kernel_rfl) rfl rfl (n_build rfl) ?_; refine w_neu rfl rfl (by kernel_rfl) rfl rfl (n_buildSlice (c := chunkC) (ys := [⟨countsC (rows.take F) n, (rows.drop F).take (T - F)⟩]) (asm_cons rfl rfl rfl rfl asm_nil) rfl rfl rfl) ?_; refine w_eff rfl rfl (by kernel_rfl) rfl rfl (r_turn (fun frc hU => e_append (opvU hU rfl) rfl (opvU hU rfl) (.pure _ _ _ _) (by (simp only [List.length_cons, List.length_nil]; omega)) rfl)) rfl ?_; refine w_neu rfl rfl (by kernel_rfl) rfl rfl (n_field_ref rfl) ?_; refine w_eff rfl rfl (by kernel_rfl) rfl rfl (r_eff (fun frc hU => e_store_ref TySz.out (opvU hU rfl) rfl (opvU hU rfl) rfl rfl rfl)) rfl ?_; refine w_nil (by kernel_rfl) rfl ?_ ?_
  · refine x_neu rfl rfl (by kernel_rfl) rfl rfl (n_field_ref rfl) ?_; refine x_neu rfl rfl (by kernel_rfl) rfl rfl (n_load_ref rfl rfl rfl) ?_; refine x_neu rfl rfl (by kernel_rfl) rfl rfl (n_field_ref rfl) ?_; refine x_neu rfl rfl (by kernel_rfl) rfl rfl (n_load_ref rfl rfl rfl) ?_; refine x_neu rfl rfl (by kernel_rfl) rfl rfl (n_field_ref rfl) ?_; refine x_neu rfl rfl (by kernel_rfl) rfl rfl (n_load_ref rfl rfl rfl) ?_; refine x_neu rfl rfl (by kernel_rfl) rfl rfl (n_field_ref rfl) ?_; refine x_neu rfl rfl (by kernel_rfl) rfl rfl (n_load_ref rfl rfl rfl) ?_; refine x_neu rfl rfl (by kernel_rfl) rfl rfl (n_slice_lh rfl (.pure _ _ _ _) rfl rfl (by (first | omega | (dsimp only; omega))) (by (first | omega | (dsimp only; omega))) (by (first | omega | (dsimp only; omega)))) ?_; exact x_nil
  refine c_cut [(5, .s (.one (.ref 5 0))), (8, .s (.one (.ref 8 0))), (11, .s (.one (.ref 11 0))), (12, .s (.one (.ref 12 0))), (14, .s (.one (.clo 165 [] [(5, 0), (13, 0), (12, 0)]))), (16, .s (.one (.ref 16 0))), (45, sList Span 2 spanC sp), (46, sInt sp.length), (47, sInt k)] [(5, .box (pTable ⟨n, rows⟩).s1.cells), (8, z59), (11, .box [.p (.v (.string ⟨path.toArray⟩)), .p (.v (.bool d)), .p (.v (.int .i64 n)), .buf 754 CHunk 2 chunkC (hs ++ [⟨countsC (rows.take F) n, (rows.drop F).take (T - F)⟩])]), (754, .spare (hs ++ [(⟨countsC (rows.take F) n, (rows.drop F).take (T - F)⟩ : CHunk)]).length 2 59), (12, .box [.mut 720]), (13, intBox F), (720, .arr Int 1 intC (countsC (rows.take F) n)), (16, .box [.p (.v (.int .i64 F)), .p (.v (.int .i64 T))])] (Sees.of ⟨le1 rfl, le1 rfl, le1 rfl, le1 rfl, le1 rfl, le1 rfl, le1 rfl, le1 rfl, le1 rfl, trivial⟩ ⟨rfl, rfl, rfl, rfl, rfl, rfl, rfl, rfl, trivial⟩) ?_
  skip
  refine c_region ?_; refine l_neu (n_move rfl rfl) rfl ?_; refine l_neu (n_field_ref rfl) rfl ?_; refine l_neu (n_load_ref rfl rfl rfl) rfl ?_; refine l_metF (cutAdv_met ⟨n, rows⟩ n F T rfl (by omega) hr (by dsimp only; omega) (by omega) (by dsimp only; omega) rfl rfl rfl rfl) rfl rfl rfl rfl ?_; rintro _ _ ⟨rfl, rfl⟩; refine l_nil ?_
  refine k4 ?_; refine k1 ?_
  refine c_region ?_; refine l_neu (n_add rfl rfl (by omega)) rfl ?_; refine l_neu (n_move rfl rfl) rfl ?_; refine l_nil ?_
  refine k1 ?_
  exact ⟨(k + 1, T, hs ++ [⟨countsC (rows.take F) n, (rows.drop F).take (T - F)⟩]), ⟨by dsimp only; omega, by dsimp only; omega, by dsimp only; rw [List.length_append]; simp; omega, hp, ho⟩, by dsimp only; omega, Sees.of ⟨le1 rfl, le1 rfl, le1 rfl, le1 rfl, le1 rfl, le1 rfl, le1 rfl, le1 rfl, trivial⟩ ⟨rfl, rfl, rfl, rfl, rfl, rfl, rfl, trivial⟩⟩
end Go.Proofs.YtbiadkkamhpdnaaGreatDoor
namespace Go.Proofs.YtbiadkkamhpdnaaGreatDoor
open Go Go.AL
set_option maxRecDepth 100000
def allSp (t : Table) : List Span := if 0 < t.Rows.length then [⟨0, t.Rows.length⟩] else []
def full18 (path x : Str) (r : List Str) : Comb × Int :=
  if nameOk path = false then (comb0, 120) else if (make16 x r).2 ≠ 0 then (comb0, (make16 x r).2) else cut18 path (make16 x r).1 (allSp (make16 x r).1) false
set_option maxHeartbeats 1000000
theorem pfull_ok (path x : Str) (r : List Str) (h : Small16 x r) (hL : ∀ b ∈ x :: r, (linesOf b).length ≤ 16) : FnOk Tryz.prog 43 [pStr path, pStr x, pStrs r] (fun rs => rs = [pComb (full18 path x r).1, pInt (full18 path x r).2]) := by
  have hx := h.hx
  obtain ⟨s1, s2, s3⟩ := h.sums
  have hl := h.len
  have hrows := h.rows
  have hrn := h.n
  have hm := wMake_ok x r 16 (by omega) (by omega) ⟨hL x (by simp), by omega⟩ (fun b hb => ⟨hL b (by simp [hb]), by have := h.hr b hb; omega⟩)
  obtain ⟨t, e, hte⟩ : ∃ t e, make16 x r = (t, e) := ⟨_, _, rfl⟩
  rw [hte] at s1 s2 hl hrows hm
  dsimp only at s1 s2 hl hrows hm
  have hc := pcut_ok path t (allSp t) false hrows (by omega) (by omega) (by unfold allSp; split <;> simp)
  have hres : full18 path x r = if nameOk path = false then (comb0, 120) else if e ≠ 0 then (comb0, e) else cut18 path t (allSp t) false := by
    unfold full18; rw [hte]
  rw [hres]
  refine FnOk.intro Tryz.func43 (by decide) rfl rfl rfl rfl ?_
  refine k2 ?_
  refine c_region ?_; refine l_effv (f_alloc 6 rfl) rfl ?_; refine l_neu (n_assign rfl rfl) rfl ?_; refine l_nil ?_
  refine k1 ?_; refine k2 ?_; refine k2 ?_
  refine c_region ?_; refine l_neu (n_move rfl rfl) rfl ?_; refine l_call (cnamed_ok path) rfl rfl rfl ?_; rintro _ rfl; refine l_neu (n_not rfl) rfl ?_; refine l_nil ?_
  refine k1 ?_
  refine c_cond rfl (fun ht => ?_) (fun ht => ?_)
  · have h : nameOk path = false := by simpa using ht
    refine k2 ?_
    refine c_region ?_; refine l_neu (n_build rfl) rfl ?_; refine l_eff (e_store_ref TySz.out rfl rfl rfl rfl rfl rfl) ?_; refine l_neu (n_assign rfl rfl) rfl ?_; refine l_nil ?_
    refine k1 ?_
    refine c_sees (Sees.listB CHunk 2 chunkC 6 3 rfl rfl) ?_
    refine k10 ?_; refine k11 ?_
    exact ret_ret (rs := [pComb comb0, pInt 120]) (retc2 rfl rfl rfl rfl rfl rfl rfl) (by rw [if_pos h])
  have h1 : nameOk path = true := by simpa using ht
  rw [if_neg (by rw [h1]; decide)]
  refine k5 ?_; refine k1 ?_; refine k2 ?_
  refine c_region ?_; refine l_neu (n_move rfl rfl) rfl ?_; refine l_neu (n_move rfl rfl) rfl ?_; refine l_call (hm) rfl rfl rfl ?_; rintro _ rfl; refine l_neu (n_move rfl rfl) rfl ?_; refine l_neu (n_extract rfl rfl) rfl ?_; refine l_neu (n_extract rfl rfl) rfl ?_; refine l_effv (f_alloc 8 rfl) rfl ?_; refine l_eff (e_store_ref TySz.out rfl rfl rfl rfl rfl rfl) ?_; refine l_neu (n_assign rfl rfl) rfl ?_; refine l_nil ?_
  refine k1 ?_; refine k2 ?_; refine k2 ?_
  refine c_region ?_; refine l_neu (n_move rfl rfl) rfl ?_; refine l_neu (n_neq rfl rfl) rfl ?_; refine l_nil ?_
  refine k1 ?_
  refine c_cond rfl (fun ht => ?_) (fun ht => ?_)
  · have h2 := of_decide_eq_true ht
    refine k2 ?_
    refine c_region ?_; refine l_neu (n_build rfl) rfl ?_; refine l_neu (n_move rfl rfl) rfl ?_; refine l_eff (e_store_ref TySz.out rfl rfl rfl rfl rfl rfl) ?_; refine l_neu (n_assign rfl rfl) rfl ?_; refine l_nil ?_
    refine k1 ?_
    refine c_sees (Sees.listB CHunk 2 chunkC 6 3 rfl rfl) ?_
    refine k10 ?_; refine k11 ?_
    exact ret_ret (rs := [pComb comb0, pInt e]) (retc2 rfl rfl rfl rfl rfl rfl rfl) (by rw [if_pos h2])
  have h2 := of_decide_eq_false ht
  rw [if_neg h2]
  refine k5 ?_; refine k1 ?_; refine k2 ?_
  refine c_region ?_; refine l_neu (n_assign_nil _ 2 spanC) rfl ?_; refine l_nil ?_
  refine k1 ?_; refine k2 ?_; refine k2 ?_
  refine c_region ?_; refine l_neu (n_field_ref rfl) rfl ?_; refine l_neu (n_load_ref rfl rfl rfl) rfl ?_; refine l_neu (n_len rfl (.pure _ _ _ _)) rfl ?_; refine l_neu (n_gtr rfl rfl) rfl ?_; refine l_nil ?_
  refine k1 ?_
  refine c_cond rfl (fun ht => ?_) (fun ht => ?_)
  · have h3 := of_decide_eq_true ht
    have hsp : allSp t = [⟨0, t.Rows.length⟩] := by unfold allSp; rw [if_pos (by omega)]
    rw [hsp] at hc ⊢
    skip
    refine c_region ?_; refine l_neu (n_field_ref rfl) rfl ?_; refine l_neu (n_load_ref rfl rfl rfl) rfl ?_; refine l_neu (n_len rfl (.pure _ _ _ _)) rfl ?_; refine l_neu (n_build rfl) rfl ?_; refine l_neu (n_buildSlice (c := spanC) (ys := [⟨0, (t.Rows.length : Int)⟩]) (asm_cons rfl rfl rfl rfl asm_nil) rfl rfl rfl) rfl ?_; refine l_neu (n_assign rfl rfl) rfl ?_; refine l_nil ?_
    refine k1 ?_; refine k2 ?_
    refine c_region ?_; refine l_neu (n_move rfl rfl) rfl ?_; refine l_neu (n_loads_ref rfl rfl rfl) rfl ?_; refine l_neu (n_move rfl rfl) rfl ?_; refine l_call (hc) rfl rfl rfl ?_; rintro _ rfl; refine l_neu (n_extract rfl rfl) rfl ?_; refine l_neu (n_extract rfl rfl) rfl ?_; refine l_eff (e_store_ref TySz.out rfl rfl rfl rfl rfl rfl) ?_; refine l_neu (n_assign rfl rfl) rfl ?_; refine l_nil ?_
    refine k1 ?_; refine k10 ?_
    exact ret_ret (retc2 rfl rfl rfl rfl rfl rfl rfl) rfl
  · have h3 := of_decide_eq_false ht
    have hsp : allSp t = [] := by unfold allSp; rw [if_neg (by omega)]
    rw [hsp] at hc ⊢
    refine k5 ?_; refine k1 ?_; refine k2 ?_
    refine c_region ?_; refine l_neu (n_move rfl rfl) rfl ?_; refine l_neu (n_loads_ref rfl rfl rfl) rfl ?_; refine l_neu (n_move rfl rfl) rfl ?_; refine l_call (hc) rfl rfl rfl ?_; rintro _ rfl; refine l_neu (n_extract rfl rfl) rfl ?_; refine l_neu (n_extract rfl rfl) rfl ?_; refine l_eff (e_store_ref TySz.out rfl rfl rfl rfl rfl rfl) ?_; refine l_neu (n_assign rfl rfl) rfl ?_; refine l_nil ?_
    refine k1 ?_; refine k10 ?_
    exact ret_ret (retc2 rfl rfl rfl rfl rfl rfl rfl) rfl
end Go.Proofs.YtbiadkkamhpdnaaGreatDoor
namespace Go.Proofs.YtbiadkkamhpdnaaGreatDoor
open Go Go.AL
set_option maxRecDepth 100000
theorem pick_l16 {raw : List Int} {n : Int} {x : Str} {r : List Str} (h : pickOf raw n = x :: r) : ∀ b ∈ x :: r, (linesOf b).length ≤ 16 := by rw [← h]; exact fun b hb => (pick_lines raw n b hb).1
theorem small16_good {x : Str} {r : List Str} (h : Small16 x r) (h1 : 1 ≤ r.length) (hL : ∀ b ∈ x :: r, (linesOf b).length ≤ 16) : (make16 x r).2 = 0 ∧ check16 (make16 x r).1 = 0 ∧ (make16 x r).1.Parents = r.length ∧ Made16 x r (make16 x r).1.Rows := by
  have hn := h.n
  have hz : (make16 x r).2 = 0 := make16_zero (B := 16) ⟨h1, hn⟩ (hL x (by simp)) (fun b hb => hL b (by simp [hb])) (by omega)
  have hx1 := hL x (by simp)
  have h2 : ∀ b ∈ r, (linesOf b).length ≤ 4096 := fun b hb => by have := hL b (by simp [hb]); omega
  have h3 := make16_made (by omega) h2 hz
  exact ⟨hz, make16_check (by omega) h2 hz, h3.2⟩
theorem cut18_small {path : Str} {x : Str} {r : List Str} {sp : List Span} (d : Bool) (hp : nameOk path = true) (hpl : path.length ≤ 400) (h : Small16 x r) (h1 : 1 ≤ r.length) (hL : ∀ b ∈ x :: r, (linesOf b).length ≤ 16) (hsp : CutSp (make16 x r).1.Rows.length 0 sp) :
    cut18 path (make16 x r).1 sp d = (⟨path, d, r.length, cutHs r.length (make16 x r).1.Rows sp⟩, 0) ∧ check18 ⟨path, d, r.length, cutHs r.length (make16 x r).1.Rows sp⟩ = 0 := by
  obtain ⟨_, g2, g3, _⟩ := small16_good h h1 hL
  have hl := h.len
  have hs := h.sums.2.2 r.length (by have := h.n; omega)
  have hg := cut18_good (path := path) (sp := sp) (d := d) hp g2 (by omega) hsp (by rw [g3, Int.toNat_natCast]; omega)
  rw [g3, Int.toNat_natCast] at hg
  exact ⟨hg.1, hg.2.1⟩
end Go.Proofs.YtbiadkkamhpdnaaGreatDoor
namespace Go.Proofs.YtbiadkkamhpdnaaGreatDoor
open Go Go.AL
set_option maxRecDepth 100000
theorem full18_good {path x : Str} {r : List Str} (hp : nameOk path = true) (hpl : path.length ≤ 400) (h : Small16 x r) (h1 : 1 ≤ r.length) (hL : ∀ b ∈ x :: r, (linesOf b).length ≤ 16) :
    full18 path x r = (⟨path, false, r.length, cutHs r.length (make16 x r).1.Rows (allOf18 (make16 x r).1.Rows.length)⟩, 0) ∧ check18 ⟨path, false, r.length, cutHs r.length (make16 x r).1.Rows (allOf18 (make16 x r).1.Rows.length)⟩ = 0 ∧ full18 path x r = cut18 path (make16 x r).1 (allOf18 (make16 x r).1.Rows.length) false := by
  obtain ⟨g1, g2, _, _⟩ := small16_good h h1 hL
  obtain ⟨c1, c2⟩ := cut18_small (path := path) false hp hpl h h1 hL (allOf18_cut _)
  have e : full18 path x r = cut18 path (make16 x r).1 (allOf18 (make16 x r).1.Rows.length) false := by
    unfold full18
    rw [if_neg (by rw [hp]; decide), g1, if_neg (by decide)]
    rfl
  exact ⟨e.trans c1, c2, e⟩
theorem full18_sz {path x : Str} {r : List Str} (h : Small16 x r) : szC (full18 path x r).1.Hunks ≤ 268435456 ∧ ∀ y ∈ (full18 path x r).1.Hunks, rowsIn y.Rows := by
  unfold full18
  split
  · exact ⟨Nat.zero_le _, fun y hy => by cases hy⟩
  · split
    · exact ⟨Nat.zero_le _, fun y hy => by cases hy⟩
    · exact cut_szC0 h.rows (by have := h.sums.2.1; omega)
set_option maxHeartbeats 1000000
end Go.Proofs.YtbiadkkamhpdnaaGreatDoor
namespace Go.Proofs.YtbiadkkamhpdnaaGreatDoor
open Go Go.AL
set_option maxRecDepth 100000
theorem check18_parts {c : Comb} (h : check18 c = 0) : (1 ≤ c.Parents ∧ c.Parents ≤ 32) ∧ marksC c.Parents.toNat c.Hunks = true ∧ chunksGo c.Parents.toNat (List.replicate (c.Parents.toNat + 1) 0) c.Hunks = true ∧ textsOk (allRows c.Hunks) c.Parents.toNat = true := by
  unfold check18 at h
  split at h
  · cases h
  · split at h
    · cases h
    · rename_i h0
      split at h
      · cases h
      · rename_i h1
        split at h
        · cases h
        · rename_i h2
          have h2 : chunksOk c.Parents.toNat c.Hunks = true := by simpa using h2
          unfold chunksOk at h2
          rw [Bool.and_eq_true] at h2
          exact ⟨by omega, by simpa using h1, h2.1, h2.2⟩
theorem at_nn {n : Nat} {hs : List CHunk} (hg : chunksGo n (List.replicate (n + 1) 0) hs = true) {h : CHunk} (hm : h ∈ hs) : h.At.length = n + 1 ∧ h.Rows ≠ [] ∧ ∀ v ∈ h.At, 0 ≤ v := by
  obtain ⟨a1, a2, a3⟩ := chunks_go hs _ (fun k hk => by rw [List.getD_eq_getElem?_getD, List.getElem?_replicate_of_lt hk]; exact Int.le_refl _) hg h hm
  refine ⟨a1, a2, fun v hv => ?_⟩
  obtain ⟨k, hk, rfl⟩ := List.getElem_of_mem hv
  have := (a3 k (by omega)).1
  rw [List.getD_eq_getElem?_getD, List.getElem?_eq_getElem hk] at this
  exact this
theorem table20_err {c : Comb} (h : check18 c ≠ 0) : table20 c = (⟨0, []⟩, check18 c) := by unfold table20; rw [if_pos h]
theorem table20_nil {p : Str} {d : Bool} {n : Int} (h : check18 ⟨p, d, n, []⟩ = 0) : table20 ⟨p, d, n, []⟩ = (⟨n, []⟩, 0) := by unfold table20; rw [if_neg (fun q => q h)]
theorem table20_many {p : Str} {d : Bool} {n : Int} {x y : CHunk} {r : List CHunk} (h : check18 ⟨p, d, n, x :: y :: r⟩ = 0) : table20 ⟨p, d, n, x :: y :: r⟩ = (⟨0, []⟩, 121) := by
  unfold table20
  rw [if_neg (fun q => q h)]
  dsimp only
  rw [if_pos (.inl (by simp))]
theorem table20_bad {p : Str} {d : Bool} {n : Int} {x : CHunk} (h : check18 ⟨p, d, n, [x]⟩ = 0) {v : Int} (hv : v ∈ x.At) (h0 : v ≠ 0) : table20 ⟨p, d, n, [x]⟩ = (⟨0, []⟩, 121) := by
  unfold table20
  rw [if_neg (fun q => q h)]
  dsimp only
  rw [if_pos (.inr ⟨v, hv, h0⟩)]
theorem table20_one {p : Str} {d : Bool} {n : Int} {x : CHunk} (h : check18 ⟨p, d, n, [x]⟩ = 0) (hz : ∀ v ∈ x.At, v = 0) : table20 ⟨p, d, n, [x]⟩ = (⟨n, x.Rows⟩, 0) := by
  unfold table20
  rw [if_neg (fun q => q h)]
  dsimp only
  rw [if_neg]
  rintro (q | ⟨v, hv, q⟩)
  · exact q rfl
  · exact q (hz v hv)
set_option maxHeartbeats 1000000
theorem ptable_ok (c : Comb) (hz : szC c.Hunks ≤ 268435456) (hr : ∀ h ∈ c.Hunks, rowsIn h.Rows) : FnOk Tryz.prog 54 [pComb c] (fun rs => rs = [pTable (table20 c).1, pInt (table20 c).2]) := by
  have hC := ccheck_ok c hz hr
  obtain ⟨p, d, n, hs⟩ := c
  dsimp only at hz hr
  refine FnOk.intro Tryz.func54 (by decide) rfl rfl rfl rfl ?_
  refine k2 ?_
  refine c_region ?_; refine l_effv (f_box 1 rfl rfl rfl) rfl ?_; refine l_effv (f_alloc 2 rfl) rfl ?_; refine l_neu (n_assign rfl rfl) rfl ?_; refine l_nil ?_
  refine k1 ?_; refine k2 ?_; refine k2 ?_
  refine c_region ?_; refine l_neu (n_loads_ref rfl rfl rfl) rfl ?_; refine l_call (hC) rfl rfl rfl ?_; rintro _ rfl; refine l_neu (n_assign rfl rfl) rfl ?_; refine l_nil ?_
  refine k1 ?_; refine k2 ?_
  refine c_region ?_; refine l_neu (n_move rfl rfl) rfl ?_; refine l_neu (n_neq rfl rfl) rfl ?_; refine l_nil ?_
  refine k1 ?_
  refine c_cond rfl (fun ht => ?_) (fun ht => ?_)
  · have h := of_decide_eq_true ht
    refine k2 ?_
    refine c_region ?_; refine l_neu (n_build rfl) rfl ?_; refine l_neu (n_move rfl rfl) rfl ?_; refine l_eff (e_store_ref TySz.out rfl rfl rfl rfl rfl rfl) ?_; refine l_neu (n_assign rfl rfl) rfl ?_; refine l_nil ?_
    refine k1 ?_
    refine c_sees (Sees.listB Row 3 rowC 2 1 rfl rfl) ?_
    refine k10 ?_; refine k11 ?_
    exact ret_ret (rs := [pTable ⟨0, []⟩, pInt (check18 ⟨p, d, n, hs⟩)]) (retc2 rfl rfl rfl rfl rfl rfl rfl) (by rw [table20_err h])
  have h0 : check18 ⟨p, d, n, hs⟩ = 0 := by have := of_decide_eq_false ht; (try dsimp only at this); omega
  obtain ⟨p1, p2, p3, p4⟩ := check18_parts h0
  dsimp only at p1 p2 p3 p4
  refine k5 ?_; refine k1 ?_; refine k2 ?_
  refine c_region ?_; refine l_neu (n_field_ref rfl) rfl ?_; refine l_neu (n_load_ref rfl rfl rfl) rfl ?_; refine l_neu (n_build rfl) rfl ?_; refine l_effv (f_alloc 5 rfl) rfl ?_; refine l_eff (e_store_ref TySz.out rfl rfl rfl rfl rfl rfl) ?_; refine l_nil ?_
  refine k1 ?_; refine k2 ?_; refine k3 ?_; refine k2 ?_
  refine c_region ?_; refine l_neu (n_field_ref rfl) rfl ?_; refine l_neu (n_load_ref rfl rfl rfl) rfl ?_; refine l_neu (n_len rfl (.pure _ _ _ _)) rfl ?_; refine l_neu (n_eql rfl rfl) rfl ?_; refine l_neu (n_assign rfl rfl) rfl ?_; refine l_nil ?_
  refine k1 ?_
  refine c_cond rfl (fun ht => ?_) (fun ht => ?_)
  · have hh : hs = [] := List.eq_nil_of_length_eq_zero (by have := of_decide_eq_true ht; (try dsimp only at this); omega)
    subst hh
    refine k2 ?_
    refine c_region ?_; refine l_neu (n_loads_ref rfl rfl rfl) rfl ?_; refine l_eff (e_store_ref TySz.out rfl rfl rfl rfl rfl rfl) ?_; refine l_neu (n_assign rfl rfl) rfl ?_; refine l_nil ?_
    refine k1 ?_
    refine c_sees (Sees.listB Row 3 rowC 2 1 rfl rfl) ?_
    refine k10 ?_; refine k12 ?_; refine k11 ?_
    exact ret_ret (rs := [pTable ⟨n, []⟩, pInt 0]) (retc2 rfl rfl rfl rfl rfl rfl rfl) (by rw [table20_nil h0])
  have hne := of_decide_eq_false ht
  cases hs with
  | nil => exact absurd rfl hne
  | cons x r =>
    have hv : (x :: r)[(0 : Int).toNat]? = some x := rfl
    obtain ⟨a1, a2, a3⟩ := at_nn p3 (h := x) (by simp)
    have hxz : szCh x ≤ 268435456 := by unfold szC at hz; rw [List.map_cons, List.sum_cons] at hz; omega
    have hx1 := szRow_len x.Rows
    have hx2 : 0 < x.Rows.length := List.length_pos_iff.2 a2
    unfold szCh at hxz
    cases r with
    | cons y r =>
      have hd : decide ((((x :: y :: r).length : Nat) : Int) > 1) = true := decide_eq_true (by simp; omega)
      refine k2 ?_
      refine c_region ?_; refine l_neu (n_field_ref rfl) rfl ?_; refine l_neu (n_load_ref rfl rfl rfl) rfl ?_; refine l_neu (n_len rfl (.pure _ _ _ _)) rfl ?_; refine l_neu (n_gtr rfl rfl) rfl ?_; refine l_neu (n_move rfl rfl) rfl ?_; refine l_skip rfl rfl rfl (by rw [hd]; decide) rfl ?_; refine l_skip rfl rfl rfl (by rw [hd]; decide) rfl ?_; refine l_skip rfl rfl rfl (by rw [hd]; decide) rfl ?_; refine l_skip rfl rfl rfl (by rw [hd]; decide) rfl ?_; refine l_skip rfl rfl rfl (by rw [hd]; decide) rfl ?_; refine l_skip rfl rfl rfl (by rw [hd]; decide) rfl ?_; refine l_skip rfl rfl rfl (by rw [hd]; decide) rfl ?_; refine l_neu (n_pick_t rfl (hd) rfl) rfl ?_; refine l_neu (n_assign rfl rfl) rfl ?_; refine l_nil ?_
      refine k1 ?_
      refine c_cond rfl (fun ht => ?_) (fun ht => ?_)
      · refine k2 ?_
        refine c_region ?_; refine l_neu (n_build rfl) rfl ?_; refine l_eff (e_store_ref TySz.out rfl rfl rfl rfl rfl rfl) ?_; refine l_neu (n_assign rfl rfl) rfl ?_; refine l_nil ?_
        refine k1 ?_
        refine c_sees (Sees.listB Row 3 rowC 2 1 rfl rfl) ?_
        refine k10 ?_; refine k12 ?_; refine k11 ?_
        exact ret_ret (rs := [pTable ⟨0, []⟩, pInt 121]) (retc2 rfl rfl rfl rfl rfl rfl rfl) (by rw [table20_many h0])
      · cases ht
    | nil =>
      have hd : decide (((([x] : List CHunk).length : Nat) : Int) > 1) = false := decide_eq_false (by simp)
      refine k2 ?_
      refine c_region ?_; refine l_neu (n_field_ref rfl) rfl ?_; refine l_neu (n_load_ref rfl rfl rfl) rfl ?_; refine l_neu (n_len rfl (.pure _ _ _ _)) rfl ?_; refine l_neu (n_gtr rfl rfl) rfl ?_; refine l_neu (n_move rfl rfl) rfl ?_; refine l_run rfl rfl rfl hd ?_; refine l_neu (n_field_ref rfl) rfl ?_; refine l_run rfl rfl rfl hd ?_; refine l_neu (n_load_ref rfl rfl rfl) rfl ?_; refine l_run rfl rfl rfl hd ?_; refine l_neu (n_indexAddr rfl (.pure _ _ _ _) rfl (by omega) hv) rfl ?_; refine l_run rfl rfl rfl hd ?_; refine l_neu (n_field_eref rfl) rfl ?_; refine l_run rfl rfl rfl hd ?_; refine l_neu (n_load_eref rfl rfl) rfl ?_; refine l_run rfl rfl rfl hd ?_; refine l_call (smax_ok x.At (by omega)) rfl rfl rfl ?_; rintro _ ⟨m, rfl, hm⟩; refine l_run rfl rfl rfl hd ?_; refine l_neu (n_gtr rfl rfl) rfl ?_; refine l_neu (n_pick_f rfl (hd) rfl) rfl ?_; refine l_neu (n_assign rfl rfl) rfl ?_; refine l_nil ?_
      refine k1 ?_
      refine c_cond rfl (fun ht => ?_) (fun ht => ?_)
      · have hm0 : 0 < m := of_decide_eq_true ht
        have : ∃ v, v ∈ x.At ∧ v ≠ 0 := Classical.byContradiction fun q => by
          have : m ≤ 0 := (hm 0).2 fun e he => by
            have : e = 0 := Classical.byContradiction fun h2 => q ⟨e, he, h2⟩
            omega
          omega
        obtain ⟨v, hv1, hv2⟩ := this
        refine k2 ?_
        refine c_region ?_; refine l_neu (n_build rfl) rfl ?_; refine l_eff (e_store_ref TySz.out rfl rfl rfl rfl rfl rfl) ?_; refine l_neu (n_assign rfl rfl) rfl ?_; refine l_nil ?_
        refine k1 ?_
        refine c_sees (Sees.listB Row 3 rowC 2 1 rfl rfl) ?_
        refine k10 ?_; refine k12 ?_; refine k11 ?_
        exact ret_ret (rs := [pTable ⟨0, []⟩, pInt 121]) (retc2 rfl rfl rfl rfl rfl rfl rfl) (by rw [table20_bad h0 hv1 hv2])
      · have hm0 : m ≤ 0 := by have := of_decide_eq_false ht; (try dsimp only at this); omega
        have hall : ∀ v ∈ x.At, v = 0 := fun v h => by have h1 := a3 v h; have h2 := (hm 0).1 hm0 v h; omega
        refine k5 ?_; refine k2 ?_
        refine c_region ?_; refine l_neu (n_field_ref rfl) rfl ?_; refine l_neu (n_load_ref rfl rfl rfl) rfl ?_; refine l_neu (n_indexAddr rfl (.pure _ _ _ _) rfl (by omega) hv) rfl ?_; refine l_neu (n_field_eref rfl) rfl ?_; refine l_neu (n_load_eref rfl rfl) rfl ?_; refine l_call (cloneR_ok x.Rows (by omega)) rfl rfl rfl ?_; rintro _ rfl; refine l_neu (n_field_ref rfl) rfl ?_; refine l_eff (e_store_ref TySz.out rfl rfl rfl rfl rfl rfl) ?_; refine l_nil ?_
        refine k1 ?_; refine k2 ?_
        refine c_region ?_; refine l_neu (n_loads_ref rfl rfl rfl) rfl ?_; refine l_eff (e_store_ref TySz.out rfl rfl rfl rfl rfl rfl) ?_; refine l_neu (n_assign rfl rfl) rfl ?_; refine l_nil ?_
        refine k1 ?_; refine k10 ?_
        exact ret_ret (rs := [pTable ⟨n, x.Rows⟩, pInt 0]) (retc2 rfl rfl rfl rfl rfl rfl rfl) (by rw [table20_one h0 hall])
end Go.Proofs.YtbiadkkamhpdnaaGreatDoor
namespace Go.Proofs.YtbiadkkamhpdnaaGreatDoor
open Go Go.AL
set_option maxRecDepth 100000
theorem full20_is {x : Str} {r : List Str} (hsm : Small16 x r) (h1 : 1 ≤ r.length) (hL : ∀ b ∈ x :: r, (linesOf b).length ≤ 16) : ∃ (c : Comb) (rows : List Row), full18 [120] x r = (c, 0) ∧ (c.Path = [120] ∧ c.Parents = r.length) ∧ check18 c = 0 ∧ make16 x r = (⟨r.length, rows⟩, 0) ∧ table20 c = (⟨r.length, rows⟩, 0) ∧ check16 ⟨r.length, rows⟩ = 0 ∧
    (szC c.Hunks ≤ 268435456 ∧ ∀ y ∈ c.Hunks, rowsIn y.Rows) ∧ (rowsIn rows ∧ rows.length ≤ 1105 ∧ textsLen rows ≤ 154700) ∧ column20 ⟨r.length, rows⟩ (-1) = (x, 0) ∧ (∀ q : Nat, q < r.length → column20 ⟨r.length, rows⟩ q = (r.getD q [], 0)) ∧ c.Hunks = cutHs r.length rows (allOf18 rows.length) := by
  obtain ⟨g1, g2, g3, g4⟩ := small16_good hsm h1 hL
  obtain ⟨F1, F2, _⟩ := full18_good (path := [120]) (by decide) (by decide) hsm h1 hL
  have hz := full18_sz (path := [120]) hsm
  obtain ⟨s1, s2, _⟩ := hsm.sums
  have hl := hsm.len
  have hrw := hsm.rows
  obtain ⟨m1, m2⟩ := column_made g2 g3 g4 (by have := hsm.hx; omega) (fun b hb => by have := hsm.hr b hb; omega)
  have htf := table_full (path := [120]) (d := false) (t := (make16 x r).1) (by rw [g3, Int.toNat_natCast]; exact F2)
  rw [g3, Int.toNat_natCast] at htf
  rw [F1] at hz
  obtain ⟨t, e, hte⟩ : ∃ t e, make16 x r = (t, e) := ⟨_, _, rfl⟩
  rw [hte] at g1 g2 g3 F1 F2 hz s1 hl hrw m1 m2 htf
  obtain ⟨tp, rows⟩ := t
  dsimp only at g1 g2 g3 F1 F2 hz s1 hl hrw m1 m2 htf
  subst g1 g3
  exact ⟨_, rows, F1, ⟨rfl, rfl⟩, F2, hte, htf, g2, hz, ⟨hrw, hl, s1⟩, m1, m2, rfl⟩
set_option maxHeartbeats 1000000
theorem lawPRestores_ok (raw : List Int) (n : Int) : FnOk Tryz.prog 13 [pInts raw, pInt n] (fun rs => rs = [pBool true]) := by
  obtain ⟨x, r, hpk, hxl, _⟩ := pickOf_cons raw n
  have hsm := pick_small hpk
  have hL := pick_l16 hpk
  have h1 := (pick_len raw n hpk).1
  have h4 := (pick_len raw n hpk).2
  have hP := pick_ok raw n x r hpk
  have hF := pfull_ok [120] x r hsm hL
  obtain ⟨c, rows, e1, ⟨e2, e3⟩, e4, e5, e6, e7, ⟨z1, z2⟩, ⟨r1, r2, r3⟩, c1, c2, _⟩ := full20_is hsm h1 hL
  have hT := ptable_ok c z1 z2
  rw [e1] at hF
  rw [e6] at hT
  have hC := fun q => pColumn_ok ⟨r.length, rows⟩ q r1 (by dsimp only; omega) (by dsimp only; omega)
  have hC1 := hC (-1)
  rw [c1] at hC1
  refine FnOk.intro Tryz.func13 (by decide) rfl rfl rfl rfl ?_
  refine k2 ?_
  refine c_region ?_; refine l_neu (n_assign rfl rfl) rfl ?_; refine l_nil ?_
  refine k1 ?_; refine k2 ?_
  refine c_region ?_; refine l_neu (n_move rfl rfl) rfl ?_; refine l_neu (n_move rfl rfl) rfl ?_; refine l_call (hP) rfl rfl rfl ?_; rintro _ rfl; refine l_neu (n_move rfl rfl) rfl ?_; refine l_neu (n_extract rfl rfl) rfl ?_; refine l_neu (n_extract rfl rfl) rfl ?_; refine l_neu (n_assign rfl rfl) rfl ?_; refine l_neu (n_assign rfl rfl) rfl ?_; refine l_nil ?_
  refine k1 ?_; refine k2 ?_
  refine c_region ?_; refine l_neu (n_move rfl rfl) rfl ?_; refine l_neu (n_move rfl rfl) rfl ?_; refine l_call (hF) rfl rfl rfl ?_; rintro _ rfl; refine l_neu (n_move rfl rfl) rfl ?_; refine l_neu (n_extract rfl rfl) rfl ?_; refine l_neu (n_extract rfl rfl) rfl ?_; refine l_effv (f_alloc 7 rfl) rfl ?_; refine l_eff (e_store_ref TySz.out rfl rfl rfl rfl rfl rfl) ?_; refine l_neu (n_assign rfl rfl) rfl ?_; refine l_nil ?_
  refine k1 ?_; refine k2 ?_
  refine c_region ?_; refine l_neu (n_loads_ref rfl rfl rfl) rfl ?_; refine l_call (hT) rfl rfl rfl ?_; rintro _ rfl; refine l_neu (n_move rfl rfl) rfl ?_; refine l_neu (n_extract rfl rfl) rfl ?_; refine l_neu (n_extract rfl rfl) rfl ?_; refine l_effv (f_alloc 9 rfl) rfl ?_; refine l_eff (e_store_ref TySz.out rfl rfl rfl rfl rfl rfl) ?_; refine l_neu (n_assign rfl rfl) rfl ?_; refine l_nil ?_
  refine k1 ?_; refine k2 ?_
  refine c_region ?_; refine l_neu (n_loads_ref rfl rfl rfl) rfl ?_; refine l_call (hC1) rfl rfl rfl ?_; rintro _ rfl; refine l_neu (n_move rfl rfl) rfl ?_; refine l_neu (n_extract rfl rfl) rfl ?_; refine l_neu (n_extract rfl rfl) rfl ?_; refine l_neu (n_assign rfl rfl) rfl ?_; refine l_neu (n_assign rfl rfl) rfl ?_; refine l_nil ?_
  refine k1 ?_; refine k2 ?_; refine k2 ?_
  refine c_region ?_; refine l_neu (n_move rfl rfl) rfl ?_; refine l_neu (n_neq rfl rfl) rfl ?_; refine l_neu (n_move rfl rfl) rfl ?_; refine l_guard rfl rfl rfl rfl (fun hg => by rw [hg]; exact n_move rfl rfl) ?_; refine l_guard rfl rfl rfl rfl (fun hg => by rw [hg]; exact n_neq rfl rfl) ?_; refine l_neu (n_pick_bool rfl (fun h => by first | rfl | (rw [h]; rfl)) (fun h => by first | rfl | (rw [h]; rfl))) rfl ?_; refine l_neu (n_move rfl rfl) rfl ?_; refine l_guard rfl rfl rfl rfl (fun hg => by rw [hg]; exact n_move rfl rfl) ?_; refine l_guard rfl rfl rfl rfl (fun hg => by rw [hg]; exact n_neq rfl rfl) ?_; refine l_neu (n_pick_bool rfl (fun h => by first | rfl | (rw [h]; rfl)) (fun h => by first | rfl | (rw [h]; rfl))) rfl ?_; refine l_neu (n_move rfl rfl) rfl ?_; refine l_guard rfl rfl rfl rfl (fun hg => by rw [hg]; exact n_move rfl rfl) ?_; refine l_guard rfl rfl rfl rfl (fun hg => by rw [hg]; exact n_move rfl rfl) ?_; refine l_guard rfl rfl rfl rfl (fun hg => by rw [hg]; exact n_neq_s rfl rfl) ?_; refine l_neu (n_pick_bool rfl (fun h => by first | rfl | (rw [h]; rfl)) (fun h => by first | rfl | (rw [h]; rfl))) rfl ?_; refine l_nil ?_
  refine k1 ?_
  refine c_cond rfl (fun ht => ?_) (fun ht => ?_)
  · exfalso; simp at ht
  refine k5 ?_; refine k1 ?_; refine k2 ?_; refine k2 ?_
  refine c_region ?_; refine l_neu (n_assign rfl rfl) rfl ?_; refine l_nil ?_
  refine k1 ?_; refine k3 ?_
  refine c_while (X := Nat) (fun k => ([(6, sList Str 1 strC r), (9, .s (.one (.ref 9 0))), (13, sInt k)], [(9, .box (pTable ⟨r.length, rows⟩).s1.cells)])) (fun k => k ≤ r.length) (fun k => r.length - k) 0 (Nat.zero_le _) (Sees.of ⟨le1 rfl, le1 rfl, le1 rfl, trivial⟩ ⟨rfl, trivial⟩) ?_
  intro k hk
  dsimp only at hk ⊢
  refine k2 ?_; refine k2 ?_
  refine c_region ?_; refine l_neu (n_move rfl rfl) rfl ?_; refine l_neu (n_move rfl rfl) rfl ?_; refine l_neu (n_len rfl (.pure _ _ _ _)) rfl ?_; refine l_neu (n_lss rfl rfl) rfl ?_; refine l_nil ?_
  refine k1 ?_
  refine c_cond rfl (fun ht => ?_) (fun ht => ?_)
  · have hlt : k < r.length := by have := of_decide_eq_true ht; (try dsimp only at this); omega
    have hv : r[k]? = some (r.getD k []) := by rw [List.getD_eq_getElem?_getD, List.getElem?_eq_getElem hlt]; rfl
    have hCk := hC k
    rw [c2 k hlt] at hCk
    refine k5 ?_; refine k1 ?_; refine k2 ?_; refine k3 ?_; refine k2 ?_
    refine c_region ?_; refine l_neu (n_loads_ref rfl rfl rfl) rfl ?_; refine l_neu (n_move rfl rfl) rfl ?_; refine l_call (hCk) rfl rfl rfl ?_; rintro _ rfl; refine l_neu (n_move rfl rfl) rfl ?_; refine l_neu (n_extract rfl rfl) rfl ?_; refine l_neu (n_extract rfl rfl) rfl ?_; refine l_neu (n_assign rfl rfl) rfl ?_; refine l_neu (n_assign rfl rfl) rfl ?_; refine l_nil ?_
    refine k1 ?_; refine k2 ?_
    refine c_region ?_; refine l_neu (n_move rfl rfl) rfl ?_; refine l_neu (n_neq rfl rfl) rfl ?_; refine l_neu (n_move rfl rfl) rfl ?_; refine l_guard rfl rfl rfl rfl (fun hg => by rw [hg]; exact n_move rfl rfl) ?_; refine l_guard rfl rfl rfl rfl (fun hg => by rw [hg]; exact n_move rfl rfl) ?_; refine l_guard rfl rfl rfl rfl (fun hg => by rw [hg]; exact n_move rfl rfl) ?_; refine l_guard rfl rfl rfl rfl (fun hg => by have hq := hg; (try simp at hq); rw [hg]; exact n_indexAddr rfl (.pure _ _ _ _) rfl (by omega) hv) ?_; refine l_guard rfl rfl rfl rfl (fun hg => by rw [hg]; exact n_load_eref rfl rfl) ?_; refine l_guard rfl rfl rfl rfl (fun hg => by rw [hg]; exact n_neq_s rfl rfl) ?_; refine l_neu (n_pick_bool rfl (fun h => by first | rfl | (rw [h]; rfl)) (fun h => by first | rfl | (rw [h]; rfl))) rfl ?_; refine l_nil ?_
    refine k1 ?_
    refine c_cond rfl (fun ht => ?_) (fun ht => ?_)
    · exfalso; simp at ht
    refine k5 ?_; refine k4 ?_; refine k1 ?_
    refine c_region ?_; refine l_neu (n_move rfl rfl) rfl ?_; refine l_neu (n_add rfl rfl (by omega)) rfl ?_; refine l_neu (n_assign rfl rfl) rfl ?_; refine l_nil ?_
    refine k1 ?_
    exact ⟨k + 1, by omega, by omega, Sees.of ⟨le1 rfl, le1 rfl, le1 rfl, trivial⟩ ⟨rfl, trivial⟩⟩
  · skip
    refine k6 ?_; refine k2 ?_
    refine c_region ?_; refine l_call (awake_ok) rfl rfl rfl ?_; rintro _ rfl; refine l_neu (n_assign rfl rfl) rfl ?_; refine l_nil ?_
    refine k1 ?_; refine k10 ?_
    exact ret_ret (ret1 rfl rfl rfl) rfl
end Go.Proofs.YtbiadkkamhpdnaaGreatDoor
