/- Walks of the program's functions. -/
import Derived.Test.YtbiadkkamhpdnaaGreatDoorFa
import Derived.Test.YtbiadkkamhpdnaaGreatDoorFf
import Derived.Test.YtbiadkkamhpdnaaGreatDoorFe
import Derived.Test.YtbiadkkamhpdnaaGreatDoorFs
set_option linter.unusedSimpArgs false
namespace Go.Proofs.YtbiadkkamhpdnaaGreatDoor
open Go Go.AL
set_option maxRecDepth 100000
set_option maxHeartbeats 1000000
end Go.Proofs.YtbiadkkamhpdnaaGreatDoor
namespace Go.Proofs.YtbiadkkamhpdnaaGreatDoor
open Go Go.AL
set_option maxRecDepth 100000
theorem cut_szC {n : Nat} {rows : List Row} {sp : List Span} {hs : List CHunk} (hn : n ≤ 32) (hr : rowsIn rows) (hW : (rows.map szRow).sum ≤ 8388608) (h : cutGo n rows 0 [] sp = some hs) : szC hs ≤ 268435456 ∧ ∀ x ∈ hs, rowsIn x.Rows := by
  have h1 := cutGo_w szRow 2081 n rows sp 0 [] hs (Int.le_refl _) h (by simp) (by simp)
  have h2 := cutGo_rows hr sp 0 [] hs h (fun x hx => by cases hx)
  have hl := szRow_len rows
  refine ⟨?_, fun x hx => (h2 x hx).2⟩
  have h3 : szC hs = (hs.map fun h => (2048 + h.At.length) + (h.Rows.map szRow).sum).sum := rfl
  have h4 : szC hs ≤ (hs.map fun h => 2081 + (h.Rows.map szRow).sum).sum := by
    rw [h3]
    clear h h1 h3
    induction hs with
    | nil => simp
    | cons x r ih =>
      have h5 := (h2 x (by simp)).1
      have h6 := ih fun y hy => h2 y (by simp [hy])
      rw [List.map_cons, List.sum_cons, List.map_cons, List.sum_cons]
      omega
  have h5 := h1.2
  simp only [List.length_nil] at h5
  have h6 := h1.1
  omega
theorem cut_szC0 {path : Str} {t : Table} {sp : List Span} {d : Bool} (hr : rowsIn t.Rows) (hW : (t.Rows.map szRow).sum ≤ 8388608) : szC (cut18 path t sp d).1.Hunks ≤ 268435456 ∧ ∀ x ∈ (cut18 path t sp d).1.Hunks, rowsIn x.Rows := by
  have h0 : szC comb0.Hunks ≤ 268435456 ∧ ∀ x ∈ comb0.Hunks, rowsIn x.Rows := ⟨by decide, fun x hx => by cases hx⟩
  unfold cut18
  split
  · exact h0
  · split
    · exact h0
    · rename_i hc
      cases hg : cutGo t.Parents.toNat t.Rows 0 [] sp with
      | none => exact h0
      | some hs =>
        dsimp only
        split
        · exact h0
        · refine cut_szC ?_ hr hW hg
          unfold check16 at hc
          split at hc
          · exact absurd hc (by decide)
          · omega
theorem check16_par {t : Table} (h : check16 t = 0) : 1 ≤ t.Parents ∧ t.Parents ≤ 32 := by
  unfold check16 at h
  split at h
  · cases h
  · omega
set_option maxHeartbeats 1000000
end Go.Proofs.YtbiadkkamhpdnaaGreatDoor
namespace Go.Proofs.YtbiadkkamhpdnaaGreatDoor
open Go Go.AL
set_option maxRecDepth 100000
abbrev rowV (q : Row) : List Value := [.bool q.Lost, .int .u32 q.Marks, .string ⟨q.Text.toArray⟩]
theorem row_eq (q q' : Row) : eqVs (rowV q) (rowV q') = decide (q = q') := by
  rw [Bool.eq_iff_iff]
  simp only [eqVs, eqV, ByteArray.toList_mk, Bool.and_eq_true, beq_iff_eq, decide_eq_true_eq, Bool.and_true]
  constructor
  · rintro ⟨h1, h2, h3⟩
    obtain ⟨k, m, t⟩ := q
    obtain ⟨k', m', t'⟩ := q'
    obtain rfl : k = k' := h1
    obtain rfl : m = m' := h2
    obtain rfl : t = t' := h3
    rfl
  · rintro rfl; exact ⟨rfl, rfl, rfl⟩
theorem grows_ok (a : List Row) (ha : a.length ≤ 1099511627776) : FnOk Tryz.prog 47 [pRows a, pRows a] (fun rs => rs = [pBool true]) := by
  refine FnOk.intro Tryz.func47 (by decide) rfl rfl rfl rfl ?_
  refine k2 ?_
  refine c_region ?_; refine l_neu (n_assign rfl rfl) rfl ?_; refine l_nil ?_
  refine k1 ?_; refine k2 ?_; refine k2 ?_
  refine c_region ?_; refine l_neu (n_move rfl rfl) rfl ?_; refine l_neu (n_len rfl (.pure _ _ _ _)) rfl ?_; refine l_neu (n_move rfl rfl) rfl ?_; refine l_neu (n_len rfl (.pure _ _ _ _)) rfl ?_; refine l_neu (n_neq rfl rfl) rfl ?_; refine l_nil ?_
  refine k1 ?_
  refine c_cond rfl (fun ht => ?_) (fun ht => ?_)
  · exact absurd rfl (of_decide_eq_true ht)
  refine k5 ?_; refine k1 ?_; refine k2 ?_; refine k2 ?_
  refine c_region ?_; refine l_neu (n_assign rfl rfl) rfl ?_; refine l_nil ?_
  refine k1 ?_; refine k3 ?_
  refine c_while (X := Nat) (fun i => ([(0, sList Row 3 rowC a), (1, sList Row 3 rowC a), (5, sInt i)], [])) (fun i => i ≤ a.length) (fun i => a.length - i) 0 (Nat.zero_le _) (Sees.of ⟨le1 rfl, le1 rfl, le1 rfl, trivial⟩ trivial) ?_
  intro i hi
  dsimp only at hi ⊢
  refine k2 ?_; refine k2 ?_
  refine c_region ?_; refine l_neu (n_move rfl rfl) rfl ?_; refine l_neu (n_move rfl rfl) rfl ?_; refine l_neu (n_len rfl (.pure _ _ _ _)) rfl ?_; refine l_neu (n_lss rfl rfl) rfl ?_; refine l_nil ?_
  refine k1 ?_
  refine c_cond rfl (fun ht => ?_) (fun ht => ?_)
  · have hlt : i < a.length := by have := of_decide_eq_true ht; omega
    have hv : a[i]? = some a[i] := by simp [hlt]
    obtain ⟨r, hr⟩ : ∃ r, r = a[i] := ⟨_, rfl⟩
    rw [← hr] at hv
    refine k5 ?_; refine k1 ?_; refine k2 ?_; refine k3 ?_; refine k2 ?_
    refine c_region_draw (by kernel_rfl) (by kernel_rfl) ?_; refine d_neu (n_move rfl rfl) rfl rfl ?_; refine d_neu (n_move rfl rfl) rfl rfl ?_; refine d_neu (n_indexAddr rfl (.pure _ _ _ _) rfl (by omega) hv) rfl rfl ?_; refine d_neu (n_loads_eref rfl rfl) rfl rfl ?_; refine d_neu (n_move rfl rfl) rfl rfl ?_; refine d_neu (n_move rfl rfl) rfl rfl ?_; refine d_neu (n_indexAddr rfl (.pure _ _ _ _) rfl (by omega) hv) rfl rfl ?_; refine d_neu (n_loads_eref rfl rfl) rfl rfl ?_; refine d_neu (n_neq_st (rowV r) (rowV r) rfl rfl rfl rfl ((row_eq r r).trans (decide_eq_true rfl))) rfl rfl ?_; refine d_nil ?_
    refine k1 ?_
    refine c_cond rfl (fun ht => ?_) (fun ht => ?_)
    · cases ht
    refine k5 ?_; refine k4 ?_; refine k1 ?_
    refine c_region ?_; refine l_neu (n_move rfl rfl) rfl ?_; refine l_neu (n_add rfl rfl (by omega)) rfl ?_; refine l_neu (n_assign rfl rfl) rfl ?_; refine l_nil ?_
    refine k1 ?_
    exact ⟨i + 1, by omega, by omega, Sees.of ⟨le1 rfl, le1 rfl, le1 rfl, trivial⟩ trivial⟩
  · refine k6 ?_; refine k2 ?_
    refine c_region ?_; refine l_neu (n_assign rfl rfl) rfl ?_; refine l_nil ?_
    refine k1 ?_; refine k10 ?_
    exact ret_ret (rs := [pBool true]) (ret1 rfl rfl rfl) rfl
end Go.Proofs.YtbiadkkamhpdnaaGreatDoor
namespace Go.Proofs.YtbiadkkamhpdnaaGreatDoor
open Go Go.AL
set_option maxRecDepth 100000
end Go.Proofs.YtbiadkkamhpdnaaGreatDoor
namespace Go.Proofs.YtbiadkkamhpdnaaGreatDoor
open Go Go.AL
set_option maxRecDepth 100000
end Go.Proofs.YtbiadkkamhpdnaaGreatDoor
namespace Go.Proofs.YtbiadkkamhpdnaaGreatDoor
open Go Go.AL
end Go.Proofs.YtbiadkkamhpdnaaGreatDoor
namespace Go.Proofs.YtbiadkkamhpdnaaGreatDoor
open Go Go.AL
set_option maxRecDepth 100000
end Go.Proofs.YtbiadkkamhpdnaaGreatDoor
namespace Go.Proofs.YtbiadkkamhpdnaaGreatDoor
open Go Go.AL
set_option maxRecDepth 100000
set_option maxHeartbeats 4000000
end Go.Proofs.YtbiadkkamhpdnaaGreatDoor
namespace Go.Proofs.YtbiadkkamhpdnaaGreatDoor
open Go Go.AL
set_option maxRecDepth 100000
set_option maxHeartbeats 1000000
end Go.Proofs.YtbiadkkamhpdnaaGreatDoor
namespace Go.Proofs.YtbiadkkamhpdnaaGreatDoor
open Go Go.AL
set_option maxRecDepth 100000
set_option maxHeartbeats 4000000
end Go.Proofs.YtbiadkkamhpdnaaGreatDoor
namespace Go.Proofs.YtbiadkkamhpdnaaGreatDoor
open Go Go.AL
set_option maxRecDepth 100000
set_option maxHeartbeats 4000000
end Go.Proofs.YtbiadkkamhpdnaaGreatDoor
namespace Go.Proofs.YtbiadkkamhpdnaaGreatDoor
open Go Go.AL
set_option maxRecDepth 100000
section
variable {P : Program} {nt : Nat} {fr : Fr} {w : Str} {d : Bool} {n : Int} {hs : List CHunk}
end
set_option maxHeartbeats 4000000
end Go.Proofs.YtbiadkkamhpdnaaGreatDoor
namespace Go.Proofs.YtbiadkkamhpdnaaGreatDoor
open Go Go.AL
set_option maxRecDepth 100000
end Go.Proofs.YtbiadkkamhpdnaaGreatDoor
