/- Walks of the program's functions. -/
import Derived.Test.YtbiadkkamhpdnaaGreatDoorFb
import Derived.Test.YtbiadkkamhpdnaaGreatDoorFs
import Derived.Test.YtbiadkkamhpdnaaGreatDoorAn
set_option linter.unusedSimpArgs false
namespace Go.Proofs.YtbiadkkamhpdnaaGreatDoor
open Go Go.AL
set_option maxRecDepth 100000
end Go.Proofs.YtbiadkkamhpdnaaGreatDoor
namespace Go.Proofs.YtbiadkkamhpdnaaGreatDoor
open Go Go.AL
set_option maxRecDepth 100000
end Go.Proofs.YtbiadkkamhpdnaaGreatDoor
namespace Go.Proofs.YtbiadkkamhpdnaaGreatDoor
open Go Go.AL
set_option maxRecDepth 100000
end Go.Proofs.YtbiadkkamhpdnaaGreatDoor
namespace Go.Proofs.YtbiadkkamhpdnaaGreatDoor
open Go Go.AL
set_option maxRecDepth 100000
end Go.Proofs.YtbiadkkamhpdnaaGreatDoor
namespace Go.Proofs.YtbiadkkamhpdnaaGreatDoor
open Go Go.AL
set_option maxRecDepth 100000
theorem check12_good {p : Patch} (h1 : ¬ check12 p ≠ 0) : goodOf p.Hunks = true := by
  by_cases hg : goodOf p.Hunks = true
  · exact hg
  · exfalso; apply h1; unfold check12; split
    · decide
    · rw [if_pos (by simpa using hg)]; decide
end Go.Proofs.YtbiadkkamhpdnaaGreatDoor
namespace Go.Proofs.YtbiadkkamhpdnaaGreatDoor
open Go Go.AL
set_option maxRecDepth 100000
end Go.Proofs.YtbiadkkamhpdnaaGreatDoor
namespace Go.Proofs.YtbiadkkamhpdnaaGreatDoor
open Go Go.AL
set_option maxRecDepth 100000
end Go.Proofs.YtbiadkkamhpdnaaGreatDoor
namespace Go.Proofs.YtbiadkkamhpdnaaGreatDoor
open Go Go.AL
set_option maxRecDepth 100000
end Go.Proofs.YtbiadkkamhpdnaaGreatDoor
namespace Go.Proofs.YtbiadkkamhpdnaaGreatDoor
open Go Go.AL
set_option maxRecDepth 100000
end Go.Proofs.YtbiadkkamhpdnaaGreatDoor
namespace Go.Proofs.YtbiadkkamhpdnaaGreatDoor
open Go Go.AL
set_option maxRecDepth 100000
end Go.Proofs.YtbiadkkamhpdnaaGreatDoor
namespace Go.Proofs.YtbiadkkamhpdnaaGreatDoor
open Go Go.AL
set_option maxRecDepth 100000
end Go.Proofs.YtbiadkkamhpdnaaGreatDoor
namespace Go.Proofs.YtbiadkkamhpdnaaGreatDoor
open Go Go.AL
set_option maxRecDepth 100000
end Go.Proofs.YtbiadkkamhpdnaaGreatDoor
namespace Go.Proofs.YtbiadkkamhpdnaaGreatDoor
open Go Go.AL
set_option maxRecDepth 100000
end Go.Proofs.YtbiadkkamhpdnaaGreatDoor
namespace Go.Proofs.YtbiadkkamhpdnaaGreatDoor
open Go Go.AL
set_option maxRecDepth 100000
theorem slength_ok (n : Int) : FnOk Tryz.prog 232 [pInt n] (fun rs => rs = [pBool (decide (in81 n))]) := by
  refine FnOk.intro Tryz.func232 (by decide) rfl rfl rfl rfl ?_
  refine k2 ?_
  refine c_region ?_; refine l_neu (n_assign rfl rfl) rfl ?_; refine l_nil ?_
  refine k1 ?_; refine k2 ?_
  refine c_region ?_; refine l_neu (n_move rfl rfl) rfl ?_; refine l_neu (n_geq rfl rfl) rfl ?_; refine l_neu (n_move rfl rfl) rfl ?_; refine l_guard rfl rfl rfl rfl (fun hg => by rw [hg]; exact n_move rfl rfl) ?_; refine l_guard rfl rfl rfl rfl (fun hg => by rw [hg]; exact n_leq rfl rfl) ?_; refine l_neu (n_pick_bool rfl (fun h => by first | rfl | (rw [h]; rfl)) (fun h => by first | rfl | (rw [h]; rfl))) rfl ?_; refine l_neu (n_assign rfl rfl) rfl ?_; refine l_nil ?_
  refine k1 ?_; refine k10 ?_
  refine ret_ret (ret1 rfl rfl rfl) ?_
  simp only [and_pick]
  rfl
theorem clipS_met {gf : Fr} {ob : Obs} (p : List Span) : AL.Met Tryz.prog 261 [.one (.p (.list Span 2 spanC p))] gf ob [] (fun rs ob' => rs = [.one (.full Span 2 spanC p)] ∧ ob' = ob) := by
  refine AL.Met.intro Tryz.func261 (by decide) rfl rfl rfl ?_
  refine k2 ?_
  refine c_region ?_; refine l_neu (n_assign rfl rfl) rfl ?_; refine l_nil ?_
  refine k1 ?_; refine k2 ?_
  refine c_region ?_; refine l_neu (n_move rfl rfl) rfl ?_; refine l_neu (n_move rfl rfl) rfl ?_; refine l_neu (n_len rfl (.pure _ _ _ _)) rfl ?_; refine l_neu (n_move rfl rfl) rfl ?_; refine l_neu (n_len rfl (.pure _ _ _ _)) rfl ?_; refine l_neu (n_slice_hm rfl (.pure _ _ _ _) rfl rfl (by omega) (by omega) (by first | rfl | omega)) rfl ?_; refine l_neu (n_assign rfl rfl) rfl ?_; refine l_nil ?_
  rw [show p.take (p.length : Int).toNat = p by simp]
  refine k1 ?_; refine k10 ?_
  exact met_ret (rets1 rfl rfl) (by repeat (first | exact tail_refl | refine tail_cons rfl ?_ | refine tail_forget _ ?_)) (fun _ _ h => h) ⟨rfl, rfl⟩
def runMade (i j : Int) : List Span → List Change
  | [] => []
  | x :: r => (if x.From > i ∨ x.To > j then [⟨i, x.From - i, j, x.To - j⟩] else []) ++ runMade (x.From + 1) (x.To + 1) r
theorem runMade_end (m n : Int) : ∀ (p : List Span) (i j : Int), runMade i j (p ++ [⟨m, n⟩]) = madeGo i j p m n
  | [], i, j => by simp [runMade, madeGo]
  | x :: r, i, j => by
    rw [List.cons_append, runMade, madeGo, runMade_end m n r]
theorem sfromPairs_ok (p : List Span) (m n : Int) (hp : p.length ≤ 536870912) (hm : -1099511627776 ≤ m ∧ m ≤ 1099511627776) (hn : -1099511627776 ≤ n ∧ n ≤ 1099511627776) (hb : ∀ s ∈ p, -1099511627776 ≤ s.From ∧ s.From ≤ 1099511627776 ∧ -1099511627776 ≤ s.To ∧ s.To ≤ 1099511627776) :
    FnOk Tryz.prog 233 [pSpans p, pInt m, pInt n] (fun rs => rs = [pChanges (madeOf p m n)]) := by
  refine FnOk.intro Tryz.func233 (by decide) rfl rfl rfl rfl ?_
  refine k2 ?_
  refine c_region ?_; refine l_neu (n_assign rfl rfl) rfl ?_; refine l_nil ?_
  refine k1 ?_; refine k2 ?_
  refine c_region ?_; refine l_effv (f_adopt 7 _ changeC rfl) rfl ?_; refine l_nil ?_
  refine k1 ?_; refine k2 ?_
  refine c_region ?_; refine l_neu (n_assign rfl rfl) rfl ?_; refine l_neu (n_assign rfl rfl) rfl ?_; refine l_nil ?_
  refine k1 ?_; refine k2 ?_; refine k2 ?_
  refine c_region ?_; refine l_neu (n_move rfl rfl) rfl ?_; refine l_met (clipS_met p) rfl rfl rfl ?_; rintro _ _ ⟨rfl, rfl⟩; refine l_neu (n_move rfl rfl) rfl ?_; refine l_neu (n_move rfl rfl) rfl ?_; refine l_neu (n_build rfl) rfl ?_; refine l_neu (n_buildSlice (c := spanC) (ys := [⟨m, n⟩]) (asm_cons rfl rfl rfl rfl asm_nil) rfl rfl rfl) rfl ?_; refine l_effv (e_append_full 18 rfl rfl (.pure _ _ _ _) (by simp; omega) (by simp) rfl) rfl ?_; refine l_neu (n_len rfl (.buf _ _ _ _ _)) rfl ?_; refine l_neu (n_move rfl rfl) rfl ?_; refine l_nil ?_
  obtain ⟨q, hq⟩ : ∃ q, q = p ++ [(⟨m, n⟩ : Span)] := ⟨_, rfl⟩
  have hql : q.length = p.length + 1 := by rw [hq]; simp
  have hqb : ∀ s ∈ q, -1099511627776 ≤ s.From ∧ s.From ≤ 1099511627776 ∧ -1099511627776 ≤ s.To ∧ s.To ≤ 1099511627776 := by
    intro s hs
    rw [hq] at hs
    rcases List.mem_append.1 hs with h | h
    · exact hb s h
    · simp at h; subst h; exact ⟨hm.1, hm.2, hn.1, hn.2⟩
  have hres : madeOf p m n = runMade 0 0 q := by rw [hq, runMade_end]; rfl
  rw [← hq]
  refine k1 ?_; refine k3 ?_
  refine c_while (X := Nat × Int × Int × List Change) (fun x => ([(7, .s (.one (.buf 7 Change 4 changeC x.2.2.2))), (8, sInt x.2.1), (9, sInt x.2.2.1), (18, .s (.one (.buf 18 Span 2 spanC q))), (19, sInt q.length), (20, sInt x.1)], [(7, .spare x.2.2.2.length 4 146)])) (fun x => x.1 ≤ q.length ∧ x.2.2.2 ++ runMade x.2.1 x.2.2.1 (q.drop x.1) = madeOf p m n ∧ (-1099511627777 ≤ x.2.1 ∧ x.2.1 ≤ 1099511627777) ∧ (-1099511627777 ≤ x.2.2.1 ∧ x.2.2.1 ≤ 1099511627777) ∧ x.2.2.2.length ≤ x.1) (fun x => q.length - x.1) (0, 0, 0, []) ⟨Nat.zero_le _, hres.symm, by decide, by decide, Nat.le_refl _⟩ (Sees.of ⟨le1 rfl, le1 rfl, le1 rfl, le1 rfl, le1 rfl, le1 rfl, trivial⟩ ⟨rfl, trivial⟩) ?_
  rintro ⟨k, i, j, out⟩ ⟨hk, he, hi, hj, hol⟩
  dsimp only at hk he hi hj hol ⊢
  refine k2 ?_
  refine c_region ?_; refine l_neu (n_lss rfl rfl) rfl ?_; refine l_nil ?_
  refine k1 ?_; refine k2 ?_
  refine c_cond rfl (fun ht => ?_) (fun ht => ?_)
  · have hlt : k < q.length := by have := of_decide_eq_true ht; omega
    have hv : q[k]? = some q[k] := by simp [hlt]
    have hbk := hqb _ (List.getElem_mem hlt)
    obtain ⟨c, hc⟩ : ∃ c, c = q[k] := ⟨_, rfl⟩
    rw [List.drop_eq_getElem_cons hlt, runMade] at he
    rw [← hc] at hv he hbk
    refine k5 ?_; refine k1 ?_; refine k2 ?_; refine k3 ?_; refine k2 ?_
    refine c_region ?_; refine l_neu (n_indexAddr rfl (.buf _ _ _ _ _) rfl (by omega) hv) rfl ?_; refine l_neu (n_loads_eref rfl rfl) rfl ?_; refine l_effv (f_alloc 11 rfl) rfl ?_; refine l_eff (e_store_ref TySz.out rfl rfl rfl rfl rfl rfl) ?_; refine l_nil ?_
    refine then_normal ?_
    obtain ⟨out', hout'⟩ : ∃ out', out' = out ++ (if c.From > i ∨ c.To > j then [⟨i, c.From - i, j, c.To - j⟩] else []) := ⟨_, rfl⟩
    have hol' : out'.length ≤ k + 1 := by rw [hout', List.length_append]; split <;> simp <;> omega
    rw [← List.append_assoc, ← hout'] at he
    refine c_join [(7, .s (.one (.buf 7 Change 4 changeC out'))), (8, sInt i), (9, sInt j), (11, .s (.one (.ref 11 0))), (18, .s (.one (.buf 18 Span 2 spanC q))), (19, sInt q.length), (20, sInt k)] [(7, .spare out'.length 4 146), (11, .box [.p (.v (.int .i64 c.From)), .p (.v (.int .i64 c.To))])] ?_ ?_
    · refine k2 ?_
      refine c_region ?_; refine l_neu (n_field_ref rfl) rfl ?_; refine l_neu (n_load_ref rfl rfl rfl) rfl ?_; refine l_neu (n_move rfl rfl) rfl ?_; refine l_neu (n_gtr rfl rfl) rfl ?_; refine l_neu (n_move rfl rfl) rfl ?_; refine l_guard rfl rfl rfl rfl (fun hg => by rw [hg]; exact n_field_ref rfl) ?_; refine l_guard rfl rfl rfl rfl (fun hg => by rw [hg]; exact n_load_ref rfl rfl rfl) ?_; refine l_guard rfl rfl rfl rfl (fun hg => by rw [hg]; exact n_move rfl rfl) ?_; refine l_guard rfl rfl rfl rfl (fun hg => by rw [hg]; exact n_gtr rfl rfl) ?_; refine l_neu (n_pick_bool rfl (fun h => by first | rfl | (rw [h]; rfl)) (fun h => by first | rfl | (rw [h]; rfl))) rfl ?_; refine l_nil ?_
      refine k1 ?_
      refine c_cond rfl (fun ht => ?_) (fun ht => ?_)
      · simp only [or_pick] at ht
        have h1 := of_decide_eq_true ht
        rw [if_pos h1] at hout'
        skip
        refine c_region ?_; refine l_neu (n_move rfl rfl) rfl ?_; refine l_neu (n_move rfl rfl) rfl ?_; refine l_neu (n_field_ref rfl) rfl ?_; refine l_neu (n_load_ref rfl rfl rfl) rfl ?_; refine l_neu (n_move rfl rfl) rfl ?_; refine l_neu (n_sub rfl rfl (by omega)) rfl ?_; refine l_neu (n_move rfl rfl) rfl ?_; refine l_neu (n_field_ref rfl) rfl ?_; refine l_neu (n_load_ref rfl rfl rfl) rfl ?_; refine l_neu (n_move rfl rfl) rfl ?_; refine l_neu (n_sub rfl rfl (by omega)) rfl ?_; refine l_neu (n_build rfl) rfl ?_; refine l_neu (n_buildSlice (c := changeC) (ys := [⟨i, c.From - i, j, c.To - j⟩]) (asm_cons rfl rfl rfl rfl asm_nil) rfl rfl rfl) rfl ?_; refine l_effv (e_append rfl rfl rfl (.pure _ _ _ _) (by (simp only [List.length_cons, List.length_nil]; omega)) rfl) rfl ?_; refine l_neu (n_assign rfl rfl) rfl ?_; refine l_nil ?_
        refine k1 ?_
        rw [hout']
        exact Sees.of ⟨le1 rfl, le1 rfl, le1 rfl, le1 rfl, le1 rfl, le1 rfl, le1 rfl, trivial⟩ ⟨rfl, rfl, trivial⟩
      · simp only [or_pick] at ht
        have h1 := of_decide_eq_false ht
        rw [if_neg h1, List.append_nil] at hout'
        refine k5 ?_; refine k1 ?_
        rw [hout']
        exact Sees.of ⟨le1 rfl, le1 rfl, le1 rfl, le1 rfl, le1 rfl, le1 rfl, le1 rfl, trivial⟩ ⟨rfl, rfl, trivial⟩
    · skip
      refine c_region_draw (by kernel_rfl) (by kernel_rfl) ?_; refine d_neu (n_field_ref rfl) rfl rfl ?_; refine d_neu (n_load_ref rfl rfl rfl) rfl rfl ?_; refine d_neu (n_add rfl rfl (by omega)) rfl rfl ?_; refine d_neu (n_field_ref rfl) rfl rfl ?_; refine d_neu (n_load_ref rfl rfl rfl) rfl rfl ?_; refine d_neu (n_add rfl rfl (by omega)) rfl rfl ?_; refine d_neu (n_assign rfl rfl) rfl rfl ?_; refine d_neu (n_assign rfl rfl) rfl rfl ?_; refine d_nil ?_
      refine k4 ?_; refine k1 ?_
      refine c_region ?_; refine l_neu (n_add rfl rfl (by omega)) rfl ?_; refine l_neu (n_move rfl rfl) rfl ?_; refine l_nil ?_
      refine k1 ?_
      exact ⟨(k + 1, c.From + 1, c.To + 1, out'), ⟨by dsimp only; omega, he, ⟨by dsimp only; omega, by dsimp only; omega⟩, ⟨by dsimp only; omega, by dsimp only; omega⟩, by dsimp only; omega⟩, by dsimp only; omega, Sees.of ⟨le1 rfl, le1 rfl, le1 rfl, le1 rfl, le1 rfl, le1 rfl, trivial⟩ ⟨rfl, trivial⟩⟩
  · have hk' : k = q.length := by have := of_decide_eq_false ht; omega
    rw [hk', List.drop_eq_nil_of_le (Nat.le_refl _), runMade, List.append_nil] at he
    refine k6 ?_; refine k2 ?_
    refine c_region ?_; refine l_neu (n_move rfl rfl) rfl ?_; refine l_neu (n_assign rfl rfl) rfl ?_; refine l_nil ?_
    refine k1 ?_; refine k10 ?_
    exact ret_ret (ret1 rfl rfl rfl) (by rw [← he])
theorem asc_step {m n : Int} : ∀ {p : List Span} {i j : Int}, Asc m n i j p → ∀ k (h : k < p.length), (k = 0 → i ≤ p[k].From ∧ j ≤ p[k].To) ∧ (∀ h0 : 0 < k, p[k - 1].From < p[k].From ∧ p[k - 1].To < p[k].To) ∧ p[k].From < m ∧ p[k].To < n
  | [], _, _, _, k, h => by simp at h
  | x :: r, i, j, ha, k, h => by
    obtain ⟨h1, h2, h3⟩ := ha
    cases k with
    | zero => have := h3.le; exact ⟨fun _ => ⟨h1, h2⟩, fun h0 => absurd h0 (by omega), by show x.From < m; omega, by show x.To < n; omega⟩
    | succ k =>
      obtain ⟨g1, g2, g3, g4⟩ := asc_step h3 k (by simpa using h)
      refine ⟨fun h0 => absurd h0 (by omega), fun _ => ?_, by simpa using g3, by simpa using g4⟩
      cases k with
      | zero =>
        obtain ⟨q1, q2⟩ := g1 rfl
        have hr : 0 < r.length := by simpa using h
        show x.From < r[0].From ∧ x.To < r[0].To
        omega
      | succ k => simpa using g2 (by omega)
theorem sFromPairs_ok (p : List Span) (m n : Int) (hm : in81 m) (hn : in81 n) (ha : Asc m n 0 0 p) (hp : p.length ≤ 536870912) :
    FnOk Tryz.prog 189 [pSpans p, pInt m, pInt n] (fun rs => rs = [pChanges (madeOf p m n), pInt 0]) := by
  obtain ⟨hm1, hm2⟩ := hm
  obtain ⟨hn1, hn2⟩ := hn
  have hst := asc_step ha
  have hb : ∀ s ∈ p, 0 ≤ s.From ∧ s.From ≤ 4096 ∧ 0 ≤ s.To ∧ s.To ≤ 4096 := by
    have key : ∀ (p : List Span) (i j : Int), Asc m n i j p → 0 ≤ i → 0 ≤ j → ∀ s ∈ p, 0 ≤ s.From ∧ s.From ≤ 4096 ∧ 0 ≤ s.To ∧ s.To ≤ 4096 := by
      intro p
      induction p with
      | nil => intro _ _ _ _ _ s hs; simp at hs
      | cons x r ih =>
        rintro i j ⟨h1, h2, h3⟩ h4 h5 s hs
        have := h3.le
        rcases List.mem_cons.1 hs with rfl | hs
        · omega
        · exact ih _ _ h3 (by omega) (by omega) s hs
    exact key p 0 0 ha (by omega) (by omega)
  refine FnOk.intro Tryz.func189 (by decide) rfl rfl rfl rfl ?_
  refine k2 ?_
  refine c_region ?_; refine l_neu (n_assign rfl rfl) rfl ?_; refine l_neu (n_assign rfl rfl) rfl ?_; refine l_nil ?_
  refine k1 ?_; refine k2 ?_; refine k2 ?_
  refine c_region ?_; refine l_neu (n_move rfl rfl) rfl ?_; refine l_call (slength_ok m) rfl rfl rfl ?_; rintro _ rfl; refine l_neu (n_not rfl) rfl ?_; refine l_neu (n_move rfl rfl) rfl ?_; refine l_guard rfl rfl rfl rfl (fun hg => by rw [hg]; exact n_move rfl rfl) ?_; refine l_guard rfl rfl rfl rfl (fun hg => by have hq := hg; (try simp at hq); rw [hg]; exact n_call1 (slength_ok n) rfl rfl) ?_; refine l_guard rfl rfl rfl rfl (fun hg => by rw [hg]; exact n_not rfl) ?_; refine l_neu (n_pick_bool rfl (fun h => by first | rfl | (rw [h]; rfl)) (fun h => by first | rfl | (rw [h]; rfl))) rfl ?_; refine l_nil ?_
  refine k1 ?_
  refine c_cond rfl (fun ht => ?_) (fun ht => ?_)
  · exfalso
    simp only [← decide_not, or_pick] at ht
    have h : ¬ in81 m ∨ ¬ in81 n := of_decide_eq_true ht
    rcases h with h | h
    · exact h ⟨hm1, hm2⟩
    · exact h ⟨hn1, hn2⟩
  refine c_cut [(0, sList Span 2 spanC p), (1, sInt m), (2, sInt n)] [] (Sees.of ⟨le1 rfl, le1 rfl, le1 rfl, trivial⟩ trivial) ?_
  refine k5 ?_; refine k1 ?_; refine k2 ?_
  refine c_region ?_; refine l_neu (n_build rfl) rfl ?_; refine l_effv (f_alloc 8 rfl) rfl ?_; refine l_eff (e_store_ref TySz.out rfl rfl rfl rfl rfl rfl) ?_; refine l_nil ?_
  refine k1 ?_; refine k2 ?_; refine k2 ?_
  refine c_region ?_; refine l_neu (n_move rfl rfl) rfl ?_; refine l_neu (n_len rfl (.pure _ _ _ _)) rfl ?_; refine l_neu (n_move rfl rfl) rfl ?_; refine l_nil ?_
  refine k1 ?_; refine k3 ?_
  obtain ⟨lastOf, hlast⟩ : ∃ lastOf : Nat → Span, lastOf = fun k => if k = 0 then ⟨-1, -1⟩ else p.getD (k - 1) ⟨0, 0⟩ := ⟨_, rfl⟩
  refine c_while (X := Nat) (fun k => ([(0, sList Span 2 spanC p), (1, sInt m), (2, sInt n), (8, .s (.one (.ref 8 0))), (20, sList Span 2 spanC p), (21, sInt p.length), (22, sInt k)], [(8, .box [.p (.v (.int .i64 (lastOf k).From)), .p (.v (.int .i64 (lastOf k).To))])])) (fun k => k ≤ p.length) (fun k => p.length - k) 0 (Nat.zero_le _) ?_ ?_
  · rw [show lastOf 0 = ⟨-1, -1⟩ by rw [hlast]; rfl]
    exact Sees.of ⟨le1 rfl, le1 rfl, le1 rfl, le1 rfl, le1 rfl, le1 rfl, le1 rfl, trivial⟩ ⟨rfl, trivial⟩
  intro k hk
  dsimp only at hk ⊢
  refine k2 ?_
  refine c_region ?_; refine l_neu (n_lss rfl rfl) rfl ?_; refine l_nil ?_
  refine k1 ?_; refine k2 ?_
  refine c_cond rfl (fun ht => ?_) (fun ht => ?_)
  · have hlt : k < p.length := by have := of_decide_eq_true ht; omega
    have hv : p[k]? = some p[k] := by simp [hlt]
    obtain ⟨g1, g2, g3, g4⟩ := hst k hlt
    have hnext : lastOf (k + 1) = p[k] := by rw [hlast]; simp [hlt]
    have hless : (lastOf k).From < p[k].From ∧ (lastOf k).To < p[k].To := by
      rw [hlast]
      by_cases h0 : k = 0
      · have := g1 h0
        simp only [h0, if_true] at this ⊢
        omega
      · have := g2 (by omega)
        simp only [h0, if_false]
        have e : p.getD (k - 1) ⟨0, 0⟩ = p[k - 1] := by simp [show k - 1 < p.length by omega]
        rw [e]; exact this
    obtain ⟨c, hc⟩ : ∃ c, c = p[k] := ⟨_, rfl⟩
    rw [← hc] at hv g3 g4 hnext hless
    obtain ⟨la, hla⟩ : ∃ la, la = lastOf k := ⟨_, rfl⟩
    rw [← hla] at hless ⊢
    refine k5 ?_; refine k1 ?_; refine k2 ?_; refine k3 ?_; refine k2 ?_
    refine c_region ?_; refine l_neu (n_indexAddr rfl (.pure _ _ _ _) rfl (by omega) hv) rfl ?_; refine l_neu (n_loads_eref rfl rfl) rfl ?_; refine l_effv (f_alloc 10 rfl) rfl ?_; refine l_eff (e_store_ref TySz.out rfl rfl rfl rfl rfl rfl) ?_; refine l_nil ?_
    refine k1 ?_; refine k2 ?_; refine k2 ?_
    refine c_region ?_; refine l_neu (n_field_ref rfl) rfl ?_; refine l_neu (n_load_ref rfl rfl rfl) rfl ?_; refine l_neu (n_field_ref rfl) rfl ?_; refine l_neu (n_load_ref rfl rfl rfl) rfl ?_; refine l_neu (n_leq rfl rfl) rfl ?_; refine l_neu (n_move rfl rfl) rfl ?_; refine l_guard rfl rfl rfl rfl (fun hg => by rw [hg]; exact n_field_ref rfl) ?_; refine l_guard rfl rfl rfl rfl (fun hg => by rw [hg]; exact n_load_ref rfl rfl rfl) ?_; refine l_guard rfl rfl rfl rfl (fun hg => by rw [hg]; exact n_move rfl rfl) ?_; refine l_guard rfl rfl rfl rfl (fun hg => by rw [hg]; exact n_geq rfl rfl) ?_; refine l_neu (n_pick_bool rfl (fun h => by first | rfl | (rw [h]; rfl)) (fun h => by first | rfl | (rw [h]; rfl))) rfl ?_; refine l_neu (n_move rfl rfl) rfl ?_; refine l_guard rfl rfl rfl rfl (fun hg => by rw [hg]; exact n_field_ref rfl) ?_; refine l_guard rfl rfl rfl rfl (fun hg => by rw [hg]; exact n_load_ref rfl rfl rfl) ?_; refine l_guard rfl rfl rfl rfl (fun hg => by rw [hg]; exact n_field_ref rfl) ?_; refine l_guard rfl rfl rfl rfl (fun hg => by rw [hg]; exact n_load_ref rfl rfl rfl) ?_; refine l_guard rfl rfl rfl rfl (fun hg => by rw [hg]; exact n_leq rfl rfl) ?_; refine l_neu (n_pick_bool rfl (fun h => by first | rfl | (rw [h]; rfl)) (fun h => by first | rfl | (rw [h]; rfl))) rfl ?_; refine l_neu (n_move rfl rfl) rfl ?_; refine l_guard rfl rfl rfl rfl (fun hg => by rw [hg]; exact n_field_ref rfl) ?_; refine l_guard rfl rfl rfl rfl (fun hg => by rw [hg]; exact n_load_ref rfl rfl rfl) ?_; refine l_guard rfl rfl rfl rfl (fun hg => by rw [hg]; exact n_move rfl rfl) ?_; refine l_guard rfl rfl rfl rfl (fun hg => by rw [hg]; exact n_geq rfl rfl) ?_; refine l_neu (n_pick_bool rfl (fun h => by first | rfl | (rw [h]; rfl)) (fun h => by first | rfl | (rw [h]; rfl))) rfl ?_; refine l_nil ?_
    refine k1 ?_
    refine c_cond rfl (fun ht => ?_) (fun ht => ?_)
    · exfalso
      simp only [or_pick] at ht
      have := of_decide_eq_true ht
      omega
    · refine k5 ?_; refine k1 ?_
      refine c_region ?_; refine l_neu (n_loads_ref rfl rfl rfl) rfl ?_; refine l_eff (e_store_ref TySz.out rfl rfl rfl rfl rfl rfl) ?_; refine l_nil ?_
      refine k4 ?_; refine k1 ?_
      refine c_region ?_; refine l_neu (n_add rfl rfl (by omega)) rfl ?_; refine l_neu (n_move rfl rfl) rfl ?_; refine l_nil ?_
      refine k1 ?_
      refine ⟨k + 1, by omega, by omega, ?_⟩
      rw [hnext]
      exact Sees.of ⟨le1 rfl, le1 rfl, le1 rfl, le1 rfl, le1 rfl, le1 rfl, le1 rfl, trivial⟩ ⟨rfl, trivial⟩
  · refine k6 ?_; refine k2 ?_
    refine c_region ?_; refine l_neu (n_move rfl rfl) rfl ?_; refine l_neu (n_move rfl rfl) rfl ?_; refine l_neu (n_move rfl rfl) rfl ?_; refine l_call (sfromPairs_ok p m n hp (by omega) (by omega) (fun s hs => by have := hb s hs; omega)) rfl rfl rfl ?_; rintro _ rfl; refine l_neu (n_assign rfl rfl) rfl ?_; refine l_neu (n_assign rfl rfl) rfl ?_; refine l_nil ?_
    refine k1 ?_; refine k10 ?_
    exact ret_ret (ret2 rfl rfl rfl rfl rfl) rfl
end Go.Proofs.YtbiadkkamhpdnaaGreatDoor
namespace Go.Proofs.YtbiadkkamhpdnaaGreatDoor
open Go Go.AL
set_option maxRecDepth 100000
theorem getD_get {l : List Int} {i : Nat} (h : i < l.length) : l[i]? = some (l.getD i 0) := by simp [h]
theorem slimited_ok (a b : List Int) : FnOk Tryz.prog 188 [pInts a, pInts b] (fun rs => rs = [pBool (decide ((a.length : Int) ≤ 4096 ∧ (b.length : Int) ≤ 4096))]) := by
  refine FnOk.intro Tryz.func188 (by decide) rfl rfl rfl rfl ?_
  refine k2 ?_
  refine c_region ?_; refine l_neu (n_assign rfl rfl) rfl ?_; refine l_nil ?_
  refine k1 ?_; refine k2 ?_
  refine c_region ?_; refine l_neu (n_move rfl rfl) rfl ?_; refine l_neu (n_len rfl (.pure _ _ _ _)) rfl ?_; refine l_neu (n_leq rfl rfl) rfl ?_; refine l_neu (n_move rfl rfl) rfl ?_; refine l_guard rfl rfl rfl rfl (fun hg => by rw [hg]; exact n_move rfl rfl) ?_; refine l_guard rfl rfl rfl rfl (fun hg => by rw [hg]; exact n_len rfl (.pure _ _ _ _)) ?_; refine l_guard rfl rfl rfl rfl (fun hg => by rw [hg]; exact n_leq rfl rfl) ?_; refine l_neu (n_pick_bool rfl (fun h => by first | rfl | (rw [h]; rfl)) (fun h => by first | rfl | (rw [h]; rfl))) rfl ?_; refine l_neu (n_assign rfl rfl) rfl ?_; refine l_nil ?_
  refine k1 ?_; refine k10 ?_
  exact ret_ret (ret1 rfl rfl rfl) (by simp only [and_pick])
theorem sbeginning_ok (a b : List Int) (ha : a.length ≤ 1073741824) : FnOk Tryz.prog 234 [pInts a, pInts b] (fun rs => rs = [pInt (begOf a b)]) := by
  refine FnOk.intro Tryz.func234 (by decide) rfl rfl rfl rfl ?_
  refine k2 ?_
  refine c_region ?_; refine l_neu (n_assign rfl rfl) rfl ?_; refine l_nil ?_
  refine k1 ?_; refine k2 ?_
  refine c_region ?_; refine l_neu (n_assign rfl rfl) rfl ?_; refine l_nil ?_
  refine k1 ?_; refine k2 ?_; refine k3 ?_
  refine c_while (X := Nat) (fun k => ([(0, sList Int 1 intC a), (1, sList Int 1 intC b), (5, sInt k)], [])) (fun k => k ≤ a.length ∧ k ≤ b.length ∧ begOf a b = k + begOf (a.drop k) (b.drop k)) (fun k => a.length - k) 0 ⟨Nat.zero_le _, Nat.zero_le _, by simp⟩ (Sees.of ⟨le1 rfl, le1 rfl, le1 rfl, trivial⟩ trivial) ?_
  rintro k ⟨hk, hk2, he⟩
  dsimp only at hk hk2 he ⊢
  refine k2 ?_; refine k2 ?_
  refine c_region_draw (by kernel_rfl) (by kernel_rfl) ?_; refine d_neu (n_move rfl rfl) rfl rfl ?_; refine d_neu (n_move rfl rfl) rfl rfl ?_; refine d_neu (n_len rfl (.pure _ _ _ _)) rfl rfl ?_; refine d_neu (n_lss rfl rfl) rfl rfl ?_; refine d_neu (n_move rfl rfl) rfl rfl ?_; refine d_guard rfl rfl (fun hg => by rw [hg]; exact n_move rfl rfl) rfl rfl ?_; refine d_guard rfl rfl (fun hg => by rw [hg]; exact n_move rfl rfl) rfl rfl ?_; refine d_guard rfl rfl (fun hg => by rw [hg]; exact n_len rfl (.pure _ _ _ _)) rfl rfl ?_; refine d_guard rfl rfl (fun hg => by rw [hg]; exact n_lss rfl rfl) rfl rfl ?_; refine d_neu (n_pick_bool rfl (fun h => by first | rfl | (rw [h]; rfl)) (fun h => by first | rfl | (rw [h]; rfl))) rfl rfl ?_; refine d_neu (n_move rfl rfl) rfl rfl ?_; refine d_guard rfl rfl (fun hg => by rw [hg]; exact n_move rfl rfl) rfl rfl ?_; refine d_guard rfl rfl (fun hg => by rw [hg]; exact n_move rfl rfl) rfl rfl ?_; refine d_guard rfl rfl (fun hg => by have hq := hg; (try simp at hq); rw [hg]; exact n_indexAddr rfl (.pure _ _ _ _) rfl (by omega) (getD_get (by omega))) rfl rfl ?_; refine d_guard rfl rfl (fun hg => by rw [hg]; exact n_load_eref rfl rfl) rfl rfl ?_; refine d_guard rfl rfl (fun hg => by rw [hg]; exact n_move rfl rfl) rfl rfl ?_; refine d_guard rfl rfl (fun hg => by rw [hg]; exact n_move rfl rfl) rfl rfl ?_; refine d_guard rfl rfl (fun hg => by have hq := hg; (try simp at hq); rw [hg]; exact n_indexAddr rfl (.pure _ _ _ _) rfl (by omega) (getD_get (by omega))) rfl rfl ?_; refine d_guard rfl rfl (fun hg => by rw [hg]; exact n_load_eref rfl rfl) rfl rfl ?_; refine d_guard rfl rfl (fun hg => by rw [hg]; exact n_eql rfl rfl) rfl rfl ?_; refine d_neu (n_pick_bool rfl (fun h => by first | rfl | (rw [h]; rfl)) (fun h => by first | rfl | (rw [h]; rfl))) rfl rfl ?_; refine d_nil ?_
  refine k1 ?_
  refine c_cond rfl (fun ht => ?_) (fun ht => ?_)
  · simp only [and_pick] at ht
    obtain ⟨⟨h1, h2⟩, h3⟩ := of_decide_eq_true ht
    have h1 : k < a.length := by omega
    have h2 : k < b.length := by omega
    rw [begOf_drop a b k h1 h2, if_pos (by simpa [h1, h2] using h3)] at he
    refine k5 ?_; refine k1 ?_; refine k3 ?_
    refine c_region ?_; refine l_neu (n_move rfl rfl) rfl ?_; refine l_neu (n_add rfl rfl (by omega)) rfl ?_; refine l_neu (n_assign rfl rfl) rfl ?_; refine l_nil ?_
    refine k4 ?_; refine k1 ?_
    exact ⟨k + 1, ⟨by omega, by omega, by omega⟩, by omega, Sees.of ⟨le1 rfl, le1 rfl, le1 rfl, trivial⟩ trivial⟩
  · simp only [and_pick] at ht
    have h := of_decide_eq_false ht
    have h0 : begOf (a.drop k) (b.drop k) = 0 := by
      by_cases hc : k < a.length ∧ k < b.length
      · obtain ⟨h1, h2⟩ := hc
        rw [begOf_drop a b k h1 h2, if_neg]
        intro h3
        exact h ⟨⟨by omega, by omega⟩, by simpa [h1, h2] using h3⟩
      · exact begOf_end a b k hc
    rw [h0] at he
    refine k6 ?_; refine k2 ?_
    refine c_region ?_; refine l_neu (n_move rfl rfl) rfl ?_; refine l_neu (n_assign rfl rfl) rfl ?_; refine l_nil ?_
    refine k1 ?_; refine k10 ?_
    exact ret_ret (ret1 rfl rfl rfl) (by rw [he]; rfl)
theorem sdistances_ok (a b : List Int) (ha : a.length ≤ 4096) (hb : b.length ≤ 4096) : FnOk Tryz.prog 235 [pInts a, pInts b] (fun rs => rs = [pU16s (flat a b (fun _ _ => true))]) := by
  obtain ⟨W, hW⟩ : ∃ W, W = b.length + 1 := ⟨_, rfl⟩
  have hmul : ∀ i : Nat, i ≤ a.length + 1 → 0 ≤ (i : Int) * (W : Int) ∧ (i : Int) * (W : Int) ≤ 16789506 := by
    intro i hi
    have h1 : i * W ≤ 4098 * 4097 := Nat.mul_le_mul (by omega) (by omega)
    have h2 : ((i * W : Nat) : Int) = (i : Int) * W := by push_cast; rfl
    omega
  have hcast : ∀ i : Nat, (i : Int) * (W : Int) = ((i * W : Nat) : Int) := fun i => by push_cast; rfl
  have hlen : ∀ done, (flat a b done).length = (a.length + 1) * W := fun done => by rw [flat_length, hW]
  have hdl : ∀ i j, dist (a.drop i) (b.drop j) ≤ 8192 := fun i j => by
    have := dist_le (a.drop i) (b.drop j)
    simp only [List.length_drop] at this
    omega
  have hin : ∀ i j : Nat, i ≤ a.length → j ≤ b.length → i * W + j < (a.length + 1) * W := fun i j hi hj => by rw [hW]; exact (flat_at hi hj).1
  refine FnOk.intro Tryz.func235 (by decide) rfl rfl rfl rfl ?_
  refine k2 ?_
  refine c_region ?_; refine l_neu (n_assign rfl rfl) rfl ?_; refine l_nil ?_
  refine k1 ?_; refine k2 ?_
  refine c_region ?_; refine l_neu (n_move rfl rfl) rfl ?_; refine l_neu (n_len rfl (.pure _ _ _ _)) rfl ?_; refine l_neu (n_add rfl rfl (by omega)) rfl ?_; refine l_neu (n_assign rfl rfl) rfl ?_; refine l_nil ?_
  refine then_normal ?_
  refine c_cut [(0, sList Int 1 intC a), (1, sList Int 1 intC b), (5, sInt W)] [] (Sees.of ⟨⟨_, rfl, .same _⟩, ⟨_, rfl, .same _⟩, ⟨_, rfl, .eq (by rw [hW]; simp)⟩, trivial⟩ trivial) ?_
  have hm1 := hmul (a.length + 1) (Nat.le_refl _)
  have e1 : ((a.length : Int) + 1) = ((a.length + 1 : Nat) : Int) := by omega
  refine k2 ?_
  refine c_region ?_; refine l_neu (n_move rfl rfl) rfl ?_; refine l_neu (n_len rfl (.pure _ _ _ _)) rfl ?_; refine l_neu (n_add rfl rfl (by omega)) rfl ?_; refine l_neu (n_move rfl rfl) rfl ?_; refine l_neu (n_mul rfl rfl (by (rw [e1]; omega))) rfl ?_; refine l_effv (f_makeZ 20 Int u16C 0 rfl rfl (by (rw [e1]; omega)) (by (rw [e1]; omega)) (fun _ => by first | exact ⟨⟨rfl, rfl⟩, trivial⟩ | exact ⟨rep_nil _ _ _, trivial⟩) rfl) rfl ?_; refine l_neu (n_assign rfl rfl) rfl ?_; refine l_nil ?_
  refine then_normal ?_
  refine c_cut [(0, sList Int 1 intC a), (1, sList Int 1 intC b), (5, sInt W), (6, .s (.one (.mut 20)))] [(20, .arr Int 1 u16C (flat a b (fun _ _ => false)))] ?_ ?_
  · refine Sees.of ⟨⟨_, rfl, .same _⟩, ⟨_, rfl, .same _⟩, ⟨_, rfl, .same _⟩, ⟨_, rfl, .same _⟩, trivial⟩ ⟨?_, trivial⟩
    rw [← flat_zero, e1, hcast, Int.toNat_natCast, hW]; rfl
  refine k2 ?_; refine k2 ?_
  refine c_region ?_; refine l_neu (n_move rfl rfl) rfl ?_; refine l_neu (n_len rfl (.pure _ _ _ _)) rfl ?_; refine l_neu (n_move rfl rfl) rfl ?_; refine l_nil ?_
  refine k1 ?_; refine k3 ?_
  refine c_while (X := Nat) (fun j => ([(0, sList Int 1 intC a), (1, sList Int 1 intC b), (5, sInt W), (6, .s (.one (.mut 20))), (22, sInt b.length), (23, sInt j)], [(20, .arr Int 1 u16C (flat a b (fun r q => decide (r = a.length ∧ q < j))))])) (fun j => j ≤ b.length) (fun j => b.length - j) 0 (Nat.zero_le _) ?_ ?_
  · rw [show flat a b (fun r q => decide (r = a.length ∧ q < 0)) = flat a b (fun _ _ => false) from flat_congr fun r q _ _ => .inl (by simp)]
    exact Sees.of ⟨le1 rfl, le1 rfl, le1 rfl, le1 rfl, le1 rfl, le1 rfl, trivial⟩ ⟨rfl, trivial⟩
  intro j hj
  dsimp only at hj ⊢
  refine k2 ?_
  refine c_region ?_; refine l_neu (n_lss rfl rfl) rfl ?_; refine l_nil ?_
  refine k1 ?_; refine k2 ?_
  refine c_cond rfl (fun ht => ?_) (fun ht => ?_)
  · have hlt : j < b.length := by have := of_decide_eq_true ht; omega
    have hmm := hmul a.length (by omega)
    have hix := hin a.length j (Nat.le_refl _) (by omega)
    have hc1 := hcast a.length
    have hL := hlen (fun r q => decide (r = a.length ∧ q < j))
    have hst : (flat a b (fun r q => decide (r = a.length ∧ q < j))).set (((a.length : Int) * (W : Int) + (j : Int)).toNat) (IntKind.u16.wrap ((b.length : Int) - j)) = flat a b (fun r q => decide (r = a.length ∧ q < j + 1)) := by
      rw [show ((a.length : Int) * (W : Int) + (j : Int)).toNat = a.length * (b.length + 1) + j by rw [hc1, hW]; omega, u16_in _ (by omega)]
      refine flat_set (Nat.le_refl _) (by omega) ?_ (by simp) (fun r q hr hq hne => ?_)
      · rw [List.drop_eq_nil_of_le (Nat.le_refl a.length), dist, List.length_drop]; omega
      · rw [decide_eq_decide]; omega
    refine k5 ?_; refine k1 ?_; refine k2 ?_; refine k3 ?_; refine k2 ?_
    refine c_region ?_; refine l_neu (n_move rfl rfl) rfl ?_; refine l_neu (n_assign rfl rfl) rfl ?_; refine l_nil ?_
    refine k1 ?_
    refine c_region ?_; refine l_neu (n_move rfl rfl) rfl ?_; refine l_neu (n_move rfl rfl) rfl ?_; refine l_neu (n_len rfl (.pure _ _ _ _)) rfl ?_; refine l_neu (n_move rfl rfl) rfl ?_; refine l_neu (n_mul rfl rfl (by omega)) rfl ?_; refine l_neu (n_move rfl rfl) rfl ?_; refine l_neu (n_add rfl rfl (by omega)) rfl ?_; refine l_neu (n_move rfl rfl) rfl ?_; refine l_neu (n_len rfl (.pure _ _ _ _)) rfl ?_; refine l_neu (n_move rfl rfl) rfl ?_; refine l_neu (n_sub rfl rfl (by omega)) rfl ?_; refine l_neu (n_convert rfl) rfl ?_; refine l_neu (n_indexAddr_mut rfl rfl rfl (by omega) (by (rw [hL]; omega))) rfl ?_; refine l_eff (e_store_mref1 TySz.out rfl rfl (by (rw [hL]; omega)) rfl rfl) ?_; refine l_nil ?_
    refine k4 ?_; refine k1 ?_
    refine c_region ?_; refine l_neu (n_add rfl rfl (by omega)) rfl ?_; refine l_neu (n_move rfl rfl) rfl ?_; refine l_nil ?_
    refine k1 ?_
    refine ⟨j + 1, by omega, by omega, ?_⟩
    rw [← hst]
    exact Sees.of ⟨le1 rfl, le1 rfl, le1 rfl, le1 rfl, le1 rfl, le1 rfl, trivial⟩ ⟨rfl, trivial⟩
  · have hj' : j = b.length := by have := of_decide_eq_false ht; omega
    subst hj'
    rw [show flat a b (fun r q => decide (r = a.length ∧ q < b.length)) = flat a b (fun r _ => decide (a.length ≤ r)) from flat_congr fun r q hr hq => by
      by_cases h : r = a.length ∧ q = b.length
      · right; rw [h.1, h.2, List.drop_eq_nil_of_le (Nat.le_refl _), List.drop_eq_nil_of_le (Nat.le_refl _)]; exact dist_nil []
      · left; rw [decide_eq_decide]; omega]
    refine k6 ?_; refine k2 ?_; refine k2 ?_
    refine c_region ?_; refine l_neu (n_move rfl rfl) rfl ?_; refine l_neu (n_len rfl (.pure _ _ _ _)) rfl ?_; refine l_neu (n_sub rfl rfl (by omega)) rfl ?_; refine l_neu (n_assign rfl rfl) rfl ?_; refine l_nil ?_
    refine k1 ?_; refine k3 ?_
    refine c_while (X := Nat) (fun i => ([(0, sList Int 1 intC a), (1, sList Int 1 intC b), (5, sInt W), (6, .s (.one (.mut 20))), (8, sInt ((i : Int) - 1))], [(20, .arr Int 1 u16C (flat a b (fun r _ => decide (i ≤ r))))])) (fun i => i ≤ a.length) (fun i => i) a.length (Nat.le_refl _) (Sees.of ⟨le1 rfl, le1 rfl, le1 rfl, le1 rfl, le1 rfl, trivial⟩ ⟨rfl, trivial⟩) ?_
    intro i hi
    dsimp only at hi ⊢
    refine k2 ?_; refine k2 ?_
    refine c_region ?_; refine l_neu (n_move rfl rfl) rfl ?_; refine l_neu (n_geq rfl rfl) rfl ?_; refine l_nil ?_
    refine k1 ?_
    refine c_cond rfl (fun ht => ?_) (fun ht => ?_)
    · obtain ⟨i, rfl⟩ : ∃ r, i = r + 1 := ⟨i - 1, by have := of_decide_eq_true ht; omega⟩
      refine c_cut [(0, sList Int 1 intC a), (1, sList Int 1 intC b), (5, sInt W), (6, .s (.one (.mut 20))), (8, sInt i)] [(20, .arr Int 1 u16C (flat a b (fun r _ => decide (i + 1 ≤ r))))] (Sees.of ⟨le1 rfl, le1 rfl, le1 rfl, le1 rfl, leE rfl (by first | (simp; done) | (simp; omega)), trivial⟩ ⟨rfl, trivial⟩) ?_
      obtain ⟨P, hP⟩ : ∃ P, P = i * W := ⟨_, rfl⟩
      obtain ⟨N, hN⟩ : ∃ N, N = (a.length + 1) * W := ⟨_, rfl⟩
      have c0 : (i : Int) * (W : Int) = (P : Int) := by rw [hP]; exact hcast i
      have c1 : ((i : Int) + 1) * (W : Int) = (P : Int) + W := by rw [Int.add_mul, Int.one_mul, c0]
      have c2 : ((i : Int) + 2) * (W : Int) = (P : Int) + W + W := by rw [Int.add_mul, c0]; omega
      have hPN : P + W + W ≤ N := by
        have h1 : (i + 2) * W ≤ (a.length + 1) * W := Nat.mul_le_mul_right _ (by omega)
        have h2 : (i + 2) * W = i * W + W + W := by rw [Nat.add_mul]; omega
        omega
      have hN2 : N ≤ 16789506 := by have := hmul (a.length + 1) (Nat.le_refl _); have := hcast (a.length + 1); omega
      have hL : ∀ done, (flat a b done).length = N := fun done => by rw [hlen, hN]
      refine k5 ?_; refine k1 ?_; refine k2 ?_; refine k3 ?_; refine k2 ?_
      refine c_region_draw (by kernel_rfl) (by kernel_rfl) ?_; refine d_neu (n_move rfl rfl) rfl rfl ?_; refine d_neu (n_move rfl rfl) rfl rfl ?_; refine d_neu (n_move rfl rfl) rfl rfl ?_; refine d_neu (n_mul rfl rfl (by (rw [c0]; omega))) rfl rfl ?_; refine d_neu (n_move rfl rfl) rfl rfl ?_; refine d_neu (n_add rfl rfl (by omega)) rfl rfl ?_; refine d_neu (n_move rfl rfl) rfl rfl ?_; refine d_neu (n_mul rfl rfl (by (rw [c1]; omega))) rfl rfl ?_; refine d_neu (n_slice_mut_lh rfl rfl rfl rfl (by (first | (rw [c0]; omega) | (rw [c0, c1]; omega) | (rw [c1, hL]; omega))) (by (first | (rw [c0]; omega) | (rw [c0, c1]; omega) | (rw [c1, hL]; omega))) (by (first | (rw [c0]; omega) | (rw [c0, c1]; omega) | (rw [c1, hL]; omega)))) rfl rfl ?_; refine d_neu (n_move rfl rfl) rfl rfl ?_; refine d_neu (n_move rfl rfl) rfl rfl ?_; refine d_neu (n_add rfl rfl (by omega)) rfl rfl ?_; refine d_neu (n_move rfl rfl) rfl rfl ?_; refine d_neu (n_mul rfl rfl (by (rw [c1]; omega))) rfl rfl ?_; refine d_neu (n_move rfl rfl) rfl rfl ?_; refine d_neu (n_add rfl rfl (by omega)) rfl rfl ?_; refine d_neu (n_move rfl rfl) rfl rfl ?_; refine d_neu (n_mul rfl rfl (by (rw [c2]; omega))) rfl rfl ?_; refine d_neu (n_slice_mut_lh rfl rfl rfl rfl (by (first | (rw [c1]; omega) | (rw [c1, c2]; omega) | (rw [c2, hL]; omega))) (by (first | (rw [c1]; omega) | (rw [c1, c2]; omega) | (rw [c2, hL]; omega))) (by (first | (rw [c1]; omega) | (rw [c1, c2]; omega) | (rw [c2, hL]; omega)))) rfl rfl ?_; refine d_neu (n_assign rfl rfl) rfl rfl ?_; refine d_neu (n_assign rfl rfl) rfl rfl ?_; refine d_nil ?_
      refine then_normal ?_
      have hdone : ∀ j, j ≤ b.length → (flat a b (fun r q => decide (i + 1 ≤ r ∨ (r = i ∧ j ≤ q))))[P + j]? = some (dist (a.drop i) (b.drop j) : Int) := fun j hj => by
        rw [hP, hW, flat_get (by omega) hj, if_pos (by simp)]
      have hbelow : ∀ j j', j ≤ b.length → (flat a b (fun r q => decide (i + 1 ≤ r ∨ (r = i ∧ j' ≤ q))))[P + W + j]? = some (dist (a.drop (i + 1)) (b.drop j) : Int) := fun j j' hj => by
        rw [show P + W + j = (i + 1) * (b.length + 1) + j by rw [hP, hW, Nat.add_mul]; omega, flat_get (by omega) hj, if_pos (by simp)]
      refine c_cut [(0, sList Int 1 intC a), (1, sList Int 1 intC b), (5, sInt W), (6, .s (.one (.mut 20))), (8, sInt i), (9, .s (.one (.msl 20 1 P W))), (10, .s (.one (.msl 20 1 (P + W) W)))] [(20, .arr Int 1 u16C (flat a b (fun r _ => decide (i + 1 ≤ r))))] ?_ ?_
      · refine Sees.of ⟨⟨_, rfl, .same _⟩, ⟨_, rfl, .same _⟩, ⟨_, rfl, .same _⟩, ⟨_, rfl, .same _⟩, ⟨_, rfl, .same _⟩, ⟨_, rfl, .eq ?_⟩, ⟨_, rfl, .eq ?_⟩, trivial⟩ ⟨rfl, trivial⟩
        · rw [c0, c1]; congr 3 <;> omega
        · rw [c1, c2]; congr 3 <;> omega
      have hset : ∀ (done done' : Nat → Nat → Bool) (j : Nat) (v : Int), j ≤ b.length → v = (dist (a.drop i) (b.drop j) : Int) → done' i j = true → (∀ r q, r ≤ a.length → q ≤ b.length → ¬ (r = i ∧ q = j) → done' r q = done r q) → (flat a b done).set (P + j) v = flat a b done' := by
        intro done done' j v hj hv h1 h2
        rw [hP, hW]; exact flat_set (by omega) hj hv h1 h2
      have hs0 : (flat a b (fun r _ => decide (i + 1 ≤ r))).set (P + ((b.length : Nat) : Int).toNat) (IntKind.u16.wrap ((a.length : Int) - i)) = flat a b (fun r q => decide (i + 1 ≤ r ∨ (r = i ∧ b.length ≤ q))) := by
        rw [Int.toNat_natCast, u16_in _ (by omega)]
        refine hset _ _ _ _ (Nat.le_refl _) ?_ (by simp) (fun r q hr hq hne => ?_)
        · rw [List.drop_eq_nil_of_le (Nat.le_refl b.length), dist_nil, List.length_drop]; omega
        · rw [decide_eq_decide]; omega
      refine k2 ?_
      refine c_region ?_; refine l_neu (n_move rfl rfl) rfl ?_; refine l_neu (n_move rfl rfl) rfl ?_; refine l_neu (n_len rfl (.pure _ _ _ _)) rfl ?_; refine l_neu (n_move rfl rfl) rfl ?_; refine l_neu (n_len rfl (.pure _ _ _ _)) rfl ?_; refine l_neu (n_move rfl rfl) rfl ?_; refine l_neu (n_sub rfl rfl (by omega)) rfl ?_; refine l_neu (n_convert rfl) rfl ?_; refine l_neu (n_indexAddr_msl rfl rfl (by omega) (by omega)) rfl ?_; refine l_eff (e_store_mref1 TySz.out rfl rfl (by (rw [hL]; omega)) rfl rfl) ?_; refine l_nil ?_
      rw [hs0]
      refine k1 ?_; refine k2 ?_
      refine c_region ?_; refine l_neu (n_move rfl rfl) rfl ?_; refine l_neu (n_len rfl (.pure _ _ _ _)) rfl ?_; refine l_neu (n_sub rfl rfl (by omega)) rfl ?_; refine l_neu (n_assign rfl rfl) rfl ?_; refine l_nil ?_
      refine k1 ?_; refine k3 ?_
      refine c_while (X := Nat) (fun j => ([(0, sList Int 1 intC a), (1, sList Int 1 intC b), (5, sInt W), (6, .s (.one (.mut 20))), (8, sInt i), (9, .s (.one (.msl 20 1 P W))), (10, .s (.one (.msl 20 1 (P + W) W))), (11, sInt ((j : Int) - 1))], [(20, .arr Int 1 u16C (flat a b (fun r q => decide (i + 1 ≤ r ∨ (r = i ∧ j ≤ q)))))])) (fun j => j ≤ b.length) (fun j => j) b.length (Nat.le_refl _) (Sees.of ⟨le1 rfl, le1 rfl, le1 rfl, le1 rfl, le1 rfl, le1 rfl, le1 rfl, le1 rfl, trivial⟩ ⟨rfl, trivial⟩) ?_
      intro j hj
      dsimp only at hj ⊢
      refine k2 ?_; refine k2 ?_
      refine c_region ?_; refine l_neu (n_move rfl rfl) rfl ?_; refine l_neu (n_geq rfl rfl) rfl ?_; refine l_nil ?_
      refine k1 ?_
      refine c_cond rfl (fun ht => ?_) (fun ht => ?_)
      · obtain ⟨j, rfl⟩ : ∃ r, j = r + 1 := ⟨j - 1, by have := of_decide_eq_true ht; omega⟩
        have hva : a[i]? = some a[i] := by simp [show i < a.length by omega]
        have hvb : b[j]? = some b[j] := by simp [show j < b.length by omega]
        have hdd := dist_drop a b i j (by omega) (by omega)
        have hd1 := hdl i j
        have hd2 := hdl (i + 1) j
        have hd3 := hdl i (j + 1)
        have hd4 := hdl (i + 1) (j + 1)
        obtain ⟨u, hu⟩ : ∃ u, u = a[i] := ⟨_, rfl⟩
        obtain ⟨v, hv⟩ : ∃ v, v = b[j] := ⟨_, rfl⟩
        rw [← hu] at hva hdd
        rw [← hv] at hvb hdd
        have hst : (flat a b (fun r q => decide (i + 1 ≤ r ∨ (r = i ∧ j + 1 ≤ q)))).set (P + j) (dist (a.drop i) (b.drop j) : Int) = flat a b (fun r q => decide (i + 1 ≤ r ∨ (r = i ∧ j ≤ q))) := hset _ _ _ _ (by omega) rfl (by simp) (fun r q hr hq hne => by rw [decide_eq_decide]; omega)
        refine c_cut [(0, sList Int 1 intC a), (1, sList Int 1 intC b), (5, sInt W), (6, .s (.one (.mut 20))), (8, sInt i), (9, .s (.one (.msl 20 1 P W))), (10, .s (.one (.msl 20 1 (P + W) W))), (11, sInt j)] [(20, .arr Int 1 u16C (flat a b (fun r q => decide (i + 1 ≤ r ∨ (r = i ∧ j + 1 ≤ q)))))] (Sees.of ⟨le1 rfl, le1 rfl, le1 rfl, le1 rfl, le1 rfl, le1 rfl, le1 rfl, leE rfl (by first | (simp; done) | (simp; omega)), trivial⟩ ⟨rfl, trivial⟩) ?_
        refine c_skip ?_
        refine then_normal ?_
        refine c_join [(0, sList Int 1 intC a), (1, sList Int 1 intC b), (5, sInt W), (6, .s (.one (.mut 20))), (8, sInt i), (9, .s (.one (.msl 20 1 P W))), (10, .s (.one (.msl 20 1 (P + W) W))), (11, sInt j)] [(20, .arr Int 1 u16C (flat a b (fun r q => decide (i + 1 ≤ r ∨ (r = i ∧ j ≤ q)))))] ?_ ?_
        · refine k3 ?_; refine k2 ?_
          refine c_region_draw (by kernel_rfl) (by kernel_rfl) ?_; refine d_neu (n_move rfl rfl) rfl rfl ?_; refine d_neu (n_move rfl rfl) rfl rfl ?_; refine d_neu (n_indexAddr rfl (.pure _ _ _ _) rfl (by omega) hva) rfl rfl ?_; refine d_neu (n_load_eref rfl rfl) rfl rfl ?_; refine d_neu (n_move rfl rfl) rfl rfl ?_; refine d_neu (n_move rfl rfl) rfl rfl ?_; refine d_neu (n_indexAddr rfl (.pure _ _ _ _) rfl (by omega) hvb) rfl rfl ?_; refine d_neu (n_load_eref rfl rfl) rfl rfl ?_; refine d_neu (n_eql rfl rfl) rfl rfl ?_; refine d_nil ?_
          refine k1 ?_
          refine c_cond rfl (fun ht => ?_) (fun ht => ?_)
          · rw [if_pos (of_decide_eq_true ht)] at hdd
            rw [hdd] at hst
            have hg := hbelow (j + 1) (j + 1) (by omega)
            have hgi : (flat a b (fun r q => decide (i + 1 ≤ r ∨ (r = i ∧ j + 1 ≤ q))))[P + W + ((j : Int) + 1).toNat]? = some (dist (a.drop (i + 1)) (b.drop (j + 1)) : Int) := by rw [show ((j : Int) + 1).toNat = j + 1 by omega]; exact hg
            skip
            refine c_region ?_; refine l_neu (n_move rfl rfl) rfl ?_; refine l_neu (n_move rfl rfl) rfl ?_; refine l_neu (n_move rfl rfl) rfl ?_; refine l_neu (n_move rfl rfl) rfl ?_; refine l_neu (n_add rfl rfl (by omega)) rfl ?_; refine l_neu (n_indexAddr_msl rfl rfl (by omega) (by omega)) rfl ?_; refine l_neu (n_load_mref rfl rfl hgi rfl) rfl ?_; refine l_neu (n_indexAddr_msl rfl rfl (by omega) (by omega)) rfl ?_; refine l_eff (e_store_mref1 TySz.out rfl rfl (by (rw [hL]; omega)) rfl rfl) ?_; refine l_nil ?_
            refine k4 ?_; refine k1 ?_
            rw [show P + ((j : Nat) : Int).toNat = P + j by omega, hst]
            exact Sees.of ⟨le1 rfl, le1 rfl, le1 rfl, le1 rfl, le1 rfl, le1 rfl, le1 rfl, le1 rfl, trivial⟩ ⟨rfl, trivial⟩
          · rw [if_neg (of_decide_eq_false ht)] at hdd
            have hg1 := hbelow j (j + 1) (by omega)
            have hg2 := hdone (j + 1) (by omega)
            have hgi1 : (flat a b (fun r q => decide (i + 1 ≤ r ∨ (r = i ∧ j + 1 ≤ q))))[P + W + ((j : Nat) : Int).toNat]? = some (dist (a.drop (i + 1)) (b.drop j) : Int) := by rw [Int.toNat_natCast]; exact hg1
            have hgi2 : (flat a b (fun r q => decide (i + 1 ≤ r ∨ (r = i ∧ j + 1 ≤ q))))[P + ((j : Int) + 1).toNat]? = some (dist (a.drop i) (b.drop (j + 1)) : Int) := by rw [show ((j : Int) + 1).toNat = j + 1 by omega]; exact hg2
            have hval : IntKind.u16.wrap ((if (dist (a.drop i) (b.drop (j + 1)) : Int) < (dist (a.drop (i + 1)) (b.drop j) : Int) then (dist (a.drop i) (b.drop (j + 1)) : Int) else (dist (a.drop (i + 1)) (b.drop j) : Int)) + 1) = (dist (a.drop i) (b.drop j) : Int) := by
              rw [u16_in _ (by split <;> omega), hdd]; split <;> omega
            skip
            refine c_region_draw (by kernel_rfl) (by kernel_rfl) ?_; refine d_neu (n_move rfl rfl) rfl rfl ?_; refine d_neu (n_move rfl rfl) rfl rfl ?_; refine d_neu (n_move rfl rfl) rfl rfl ?_; refine d_neu (n_move rfl rfl) rfl rfl ?_; refine d_neu (n_indexAddr_msl rfl rfl (by omega) (by omega)) rfl rfl ?_; refine d_neu (n_load_mref rfl rfl hgi1 rfl) rfl rfl ?_; refine d_neu (n_move rfl rfl) rfl rfl ?_; refine d_neu (n_move rfl rfl) rfl rfl ?_; refine d_neu (n_add rfl rfl (by omega)) rfl rfl ?_; refine d_neu (n_indexAddr_msl rfl rfl (by omega) (by omega)) rfl rfl ?_; refine d_neu (n_load_mref rfl rfl hgi2 rfl) rfl rfl ?_; refine d_neu (n_min rfl rfl) rfl rfl ?_; refine d_neu (n_add_w rfl rfl) rfl rfl ?_; refine d_neu (n_indexAddr_msl rfl rfl (by omega) (by omega)) rfl rfl ?_; refine d_eff (e_store_mref1 TySz.out rfl rfl (by (rw [hL]; omega)) rfl rfl) rfl ?_; refine d_nil ?_
            refine k4 ?_; refine k1 ?_
            rw [hval, show P + ((j : Nat) : Int).toNat = P + j by omega, hst]
            exact Sees.of ⟨le1 rfl, le1 rfl, le1 rfl, le1 rfl, le1 rfl, le1 rfl, le1 rfl, le1 rfl, trivial⟩ ⟨rfl, trivial⟩
        · skip
          refine c_region ?_; refine l_neu (n_move rfl rfl) rfl ?_; refine l_neu (n_sub rfl rfl (by omega)) rfl ?_; refine l_neu (n_assign rfl rfl) rfl ?_; refine l_nil ?_
          refine k1 ?_
          exact ⟨j, by omega, by omega, Sees.of ⟨le1 rfl, le1 rfl, le1 rfl, le1 rfl, le1 rfl, le1 rfl, le1 rfl, le1 rfl, trivial⟩ ⟨rfl, trivial⟩⟩
      · obtain rfl : j = 0 := by have := of_decide_eq_false ht; omega
        rw [show flat a b (fun r q => decide (i + 1 ≤ r ∨ (r = i ∧ 0 ≤ q))) = flat a b (fun r _ => decide (i ≤ r)) from flat_congr fun r q _ _ => .inl (by rw [decide_eq_decide]; omega)]
        refine k6 ?_; refine k7 ?_; refine k7 ?_; refine k8 rfl ?_; refine k4 ?_; refine k1 ?_
        refine c_region ?_; refine l_neu (n_move rfl rfl) rfl ?_; refine l_neu (n_sub rfl rfl (by omega)) rfl ?_; refine l_neu (n_assign rfl rfl) rfl ?_; refine l_nil ?_
        refine k1 ?_
        exact ⟨i, by omega, by omega, Sees.of ⟨le1 rfl, le1 rfl, le1 rfl, le1 rfl, le1 rfl, trivial⟩ ⟨rfl, trivial⟩⟩
    · obtain rfl : i = 0 := by have := of_decide_eq_false ht; omega
      rw [show flat a b (fun r _ => decide (0 ≤ r)) = flat a b (fun _ _ => true) from flat_congr fun r q _ _ => .inl (by simp)]
      refine c_sees (Sees.freeze (k := 20) rfl) ?_
      refine k6 ?_; refine k2 ?_
      refine c_region ?_; refine l_neu (n_move rfl rfl) rfl ?_; refine l_neu (n_assign rfl rfl) rfl ?_; refine l_nil ?_
      refine k1 ?_; refine k10 ?_
      exact ret_ret (ret1 rfl rfl rfl) rfl
end Go.Proofs.YtbiadkkamhpdnaaGreatDoor
namespace Go.Proofs.YtbiadkkamhpdnaaGreatDoor
open Go Go.AL
set_option maxRecDepth 100000
theorem i64_id {n : Int} (h : -9223372036854775808 ≤ n ∧ n ≤ 9223372036854775807) : IntKind.i64.wrap n = n := IntWalk.i64_in _ h
theorem sat_met {gf : Fr} {ob : Obs} (a b : List Int) (i j : Nat) (ha : a.length ≤ 4096) (hb : b.length ≤ 4096) (hi : i ≤ a.length) (hj : j ≤ b.length) (h8 : getO ob 8 = some (.box [.p (.list Int 1 u16C (flat a b (fun _ _ => true)))])) (h3 : getO ob 3 = some (.box [.p (.list Int 1 intC b)])) :
    AL.Met Tryz.prog 236 [.one (.p (.v (.int .i64 i))), .one (.p (.v (.int .i64 j))), .one (.ref 8 0), .one (.ref 3 0)] gf ob [] (fun rs ob' => rs = [.one (.p (.v (.int .i64 (dist (a.drop i) (b.drop j) : Int))))] ∧ ob' = ob) := by
  have hg := flat_get (a := a) (b := b) (done := fun _ _ => true) hi hj
  rw [if_pos rfl] at hg
  have hin := (flat_at (a := a) (b := b) hi hj).1
  have hL := flat_length a b (fun _ _ => true)
  have e1 : (i : Int) * ((b.length : Int) + 1) = ((i * (b.length + 1) : Nat) : Int) := by push_cast; rfl
  have hbd : i * (b.length + 1) ≤ 4096 * 4097 := Nat.mul_le_mul (by omega) (by omega)
  have hbd2 : (a.length + 1) * (b.length + 1) ≤ 4097 * 4097 := Nat.mul_le_mul (by omega) (by omega)
  have hgi : (flat a b (fun _ _ => true))[((i : Int) * ((b.length : Int) + 1) + j).toNat]? = some (dist (a.drop i) (b.drop j) : Int) := by
    rw [e1, show (((i * (b.length + 1) : Nat) : Int) + j).toNat = i * (b.length + 1) + j by omega]; exact hg
  have hd := dist_le (a.drop i) (b.drop j)
  simp only [List.length_drop] at hd
  refine AL.Met.intro Tryz.func236 (by decide) rfl rfl rfl ?_
  refine k2 ?_
  refine c_region ?_; refine l_neu (n_assign rfl rfl) rfl ?_; refine l_nil ?_
  refine k1 ?_; refine k2 ?_
  refine c_region ?_; refine l_neu (n_load_ref rfl h8 rfl) rfl ?_; refine l_neu (n_move rfl rfl) rfl ?_; refine l_neu (n_load_ref rfl h3 rfl) rfl ?_; refine l_neu (n_len rfl (.pure _ _ _ _)) rfl ?_; refine l_neu (n_add rfl rfl (by omega)) rfl ?_; refine l_neu (n_mul rfl rfl (by (rw [e1]; omega))) rfl ?_; refine l_neu (n_move rfl rfl) rfl ?_; refine l_neu (n_add rfl rfl (by (rw [e1]; omega))) rfl ?_; refine l_neu (n_indexAddr rfl (.pure _ _ _ _) rfl (by omega) hgi) rfl ?_; refine l_neu (n_load_eref rfl rfl) rfl ?_; refine l_neu (n_convert rfl) rfl ?_; refine l_neu (n_assign rfl rfl) rfl ?_; refine l_nil ?_
  rw [i64_id (by omega)]
  refine k1 ?_; refine k10 ?_
  exact met_ret (rets1 rfl rfl) (by repeat (first | exact tail_refl | refine tail_cons rfl ?_ | refine tail_forget _ ?_)) (fun _ _ h => h) ⟨rfl, rfl⟩
theorem swalk_ok (a b : List Int) (ha : a.length ≤ 4096) (hb : b.length ≤ 4096) : FnOk Tryz.prog 190 [pInts a, pInts b] (fun rs => rs = [pSpans (walkGo 0 0 a b)]) := by
  obtain ⟨n, hn⟩ : ∃ n, n = begOf a b := ⟨_, rfl⟩
  have hnl := begOf_le a b
  rw [← hn] at hnl
  have hbeg := walkGo_beg a b 0 0
  rw [← hn] at hbeg
  refine FnOk.intro Tryz.func190 (by decide) rfl rfl rfl rfl ?_
  refine k2 ?_
  refine c_region ?_; refine l_effv (f_box 3 rfl rfl rfl) rfl ?_; refine l_neu (n_assign rfl rfl) rfl ?_; refine l_nil ?_
  refine k1 ?_; refine k2 ?_
  refine c_region ?_; refine l_effv (f_adopt 5 _ spanC rfl) rfl ?_; refine l_nil ?_
  refine k1 ?_; refine k2 ?_
  refine c_region ?_; refine l_neu (n_move rfl rfl) rfl ?_; refine l_neu (n_load_ref rfl rfl rfl) rfl ?_; refine l_call (sbeginning_ok a b (by omega)) rfl rfl rfl ?_; rintro _ rfl; refine l_neu (n_assign rfl rfl) rfl ?_; refine l_nil ?_
  rw [← hn]
  refine k1 ?_; refine k2 ?_; refine k2 ?_
  refine c_region ?_; refine l_neu (n_move rfl rfl) rfl ?_; refine l_neu (n_move rfl rfl) rfl ?_; refine l_nil ?_
  refine k1 ?_; refine k3 ?_
  refine c_while (X := Nat) (fun k => ([(0, sList Int 1 intC a), (3, .s (.one (.ref 3 0))), (5, .s (.one (.buf 5 Span 2 spanC (spanRun 0 0 k)))), (6, sInt n), (15, sInt n), (16, sInt k)], [(3, .box [.p (.list Int 1 intC b)]), (5, .spare (spanRun 0 0 k).length 2 88)])) (fun k => k ≤ n) (fun k => n - k) 0 (Nat.zero_le _) (Sees.of ⟨le1 rfl, le1 rfl, le1 rfl, le1 rfl, le1 rfl, le1 rfl, trivial⟩ ⟨rfl, rfl, trivial⟩) ?_
  intro k hk
  dsimp only at hk ⊢
  have hrl := spanRun_length 0 0 k
  refine k2 ?_
  refine c_region ?_; refine l_neu (n_lss rfl rfl) rfl ?_; refine l_nil ?_
  refine k1 ?_; refine k2 ?_
  refine c_cond rfl (fun ht => ?_) (fun ht => ?_)
  · have hlt : k < n := by have := of_decide_eq_true ht; omega
    have hsn := spanRun_snoc 0 0 k
    refine k5 ?_; refine k1 ?_; refine k2 ?_; refine k3 ?_; refine k2 ?_
    refine c_region ?_; refine l_neu (n_move rfl rfl) rfl ?_; refine l_neu (n_assign rfl rfl) rfl ?_; refine l_nil ?_
    refine k1 ?_
    refine c_region ?_; refine l_neu (n_move rfl rfl) rfl ?_; refine l_neu (n_move rfl rfl) rfl ?_; refine l_neu (n_move rfl rfl) rfl ?_; refine l_neu (n_build rfl) rfl ?_; refine l_neu (n_buildSlice (c := spanC) (ys := [⟨(k : Int), (k : Int)⟩]) (asm_cons rfl rfl rfl rfl asm_nil) rfl rfl rfl) rfl ?_; refine l_effv (e_append rfl rfl rfl (.pure _ _ _ _) (by (simp only [List.length_cons, List.length_nil]; omega)) rfl) rfl ?_; refine l_neu (n_assign rfl rfl) rfl ?_; refine l_nil ?_
    refine k4 ?_; refine k1 ?_
    refine c_region ?_; refine l_neu (n_add rfl rfl (by omega)) rfl ?_; refine l_neu (n_move rfl rfl) rfl ?_; refine l_nil ?_
    refine k1 ?_
    refine ⟨k + 1, by omega, by omega, ?_⟩
    rw [hsn, show (0 : Int) + (k : Int) = k by omega]
    exact Sees.of ⟨le1 rfl, le1 rfl, le1 rfl, le1 rfl, le1 rfl, le1 rfl, trivial⟩ ⟨rfl, rfl, trivial⟩
  have hk' : k = n := by have := of_decide_eq_false ht; omega
  subst hk'
  obtain ⟨a', ha'⟩ : ∃ a', a' = a.drop k := ⟨_, rfl⟩
  obtain ⟨b', hb'⟩ : ∃ b', b' = b.drop k := ⟨_, rfl⟩
  have hal : a'.length ≤ 4096 := by rw [ha', List.length_drop]; omega
  have hbl : b'.length ≤ 4096 := by rw [hb', List.length_drop]; omega
  rw [Int.zero_add, ← ha', ← hb'] at hbeg
  refine k6 ?_; refine k2 ?_
  refine c_region_draw (by kernel_rfl) (by kernel_rfl) ?_; refine d_neu (n_move rfl rfl) rfl rfl ?_; refine d_neu (n_move rfl rfl) rfl rfl ?_; refine d_neu (n_slice_l rfl (.pure _ _ _ _) rfl (by omega) (by omega)) rfl rfl ?_; refine d_neu (n_load_ref rfl rfl rfl) rfl rfl ?_; refine d_neu (n_move rfl rfl) rfl rfl ?_; refine d_neu (n_slice_l rfl (.pure _ _ _ _) rfl (by omega) (by omega)) rfl rfl ?_; refine d_neu (n_assign rfl rfl) rfl rfl ?_; refine d_eff (e_store_ref TySz.out rfl rfl rfl rfl rfl rfl) rfl ?_; refine d_nil ?_
  rw [Int.toNat_natCast, ← ha', ← hb']
  refine k1 ?_; refine k2 ?_
  refine c_region ?_; refine l_neu (n_move rfl rfl) rfl ?_; refine l_neu (n_load_ref rfl rfl rfl) rfl ?_; refine l_call (sdistances_ok a' b' hal hbl) rfl rfl rfl ?_; rintro _ rfl; refine l_effv (f_alloc 8 rfl) rfl ?_; refine l_eff (e_store_ref TySz.out rfl rfl rfl rfl rfl rfl) ?_; refine l_nil ?_
  refine k1 ?_; refine k2 ?_
  refine c_region ?_; refine l_neu (n_makeFunc rfl rfl) rfl ?_; refine l_neu (n_assign rfl rfl) rfl ?_; refine l_nil ?_
  refine k1 ?_; refine k2 ?_; refine k2 ?_
  refine c_region ?_; refine l_neu (n_assign rfl rfl) rfl ?_; refine l_neu (n_assign rfl rfl) rfl ?_; refine l_nil ?_
  refine k1 ?_; refine k3 ?_
  refine c_while (X := Nat × Nat × List Span) (fun x => ([(0, sList Int 1 intC a'), (3, .s (.one (.ref 3 0))), (5, .s (.one (.buf 5 Span 2 spanC x.2.2))), (6, sInt k), (8, .s (.one (.ref 8 0))), (9, .s (.one (.clo 236 [] [(8, 0), (3, 0)]))), (10, sInt x.1), (11, sInt x.2.1)], [(3, .box [.p (.list Int 1 intC b')]), (5, .spare x.2.2.length 2 88), (8, .box [.p (.list Int 1 u16C (flat a' b' (fun _ _ => true)))])])) (fun x => x.1 ≤ a'.length ∧ x.2.1 ≤ b'.length ∧ x.2.2.length ≤ k + x.1 ∧ walkGo 0 0 a b = x.2.2 ++ walkGo (k + x.1) (k + x.2.1) (a'.drop x.1) (b'.drop x.2.1)) (fun x => (a'.length - x.1) + (b'.length - x.2.1)) (0, 0, spanRun 0 0 k) ⟨Nat.zero_le _, Nat.zero_le _, by rw [hrl]; exact Nat.le_refl _, by simpa using hbeg⟩ (Sees.of ⟨le1 rfl, le1 rfl, le1 rfl, le1 rfl, le1 rfl, le1 rfl, le1 rfl, le1 rfl, trivial⟩ ⟨rfl, rfl, rfl, trivial⟩) ?_
  rintro ⟨i, j, out⟩ ⟨hi, hj, hol, he⟩
  dsimp only at hi hj hol he ⊢
  refine k2 ?_; refine k2 ?_
  refine c_region ?_; refine l_neu (n_move rfl rfl) rfl ?_; refine l_neu (n_move rfl rfl) rfl ?_; refine l_neu (n_len rfl (.pure _ _ _ _)) rfl ?_; refine l_neu (n_lss rfl rfl) rfl ?_; refine l_neu (n_move rfl rfl) rfl ?_; refine l_guard rfl rfl rfl rfl (fun hg => by rw [hg]; exact n_move rfl rfl) ?_; refine l_guard rfl rfl rfl rfl (fun hg => by rw [hg]; exact n_load_ref rfl rfl rfl) ?_; refine l_guard rfl rfl rfl rfl (fun hg => by rw [hg]; exact n_len rfl (.pure _ _ _ _)) ?_; refine l_guard rfl rfl rfl rfl (fun hg => by rw [hg]; exact n_lss rfl rfl) ?_; refine l_neu (n_pick_bool rfl (fun h => by first | rfl | (rw [h]; rfl)) (fun h => by first | rfl | (rw [h]; rfl))) rfl ?_; refine l_nil ?_
  refine k1 ?_
  refine c_cond rfl (fun ht => ?_) (fun ht => ?_)
  · simp only [or_pick] at ht
    have hcond := of_decide_eq_true ht
    refine c_cut [(0, sList Int 1 intC a'), (3, .s (.one (.ref 3 0))), (5, .s (.one (.buf 5 Span 2 spanC out))), (6, sInt k), (8, .s (.one (.ref 8 0))), (9, .s (.one (.clo 236 [] [(8, 0), (3, 0)]))), (10, sInt i), (11, sInt j)] [(3, .box [.p (.list Int 1 intC b')]), (5, .spare out.length 2 88), (8, .box [.p (.list Int 1 u16C (flat a' b' (fun _ _ => true)))])] (Sees.of ⟨le1 rfl, le1 rfl, le1 rfl, le1 rfl, le1 rfl, le1 rfl, le1 rfl, le1 rfl, trivial⟩ ⟨rfl, rfl, rfl, trivial⟩) ?_
    refine k5 ?_; refine k1 ?_; refine k3 ?_; refine k3 ?_; refine k2 ?_
    refine c_region_draw (by kernel_rfl) (by kernel_rfl) ?_; refine d_neu (n_move rfl rfl) rfl rfl ?_; refine d_neu (n_move rfl rfl) rfl rfl ?_; refine d_neu (n_len rfl (.pure _ _ _ _)) rfl rfl ?_; refine d_neu (n_lss rfl rfl) rfl rfl ?_; refine d_neu (n_move rfl rfl) rfl rfl ?_; refine d_guard rfl rfl (fun hg => by rw [hg]; exact n_move rfl rfl) rfl rfl ?_; refine d_guard rfl rfl (fun hg => by rw [hg]; exact n_load_ref rfl rfl rfl) rfl rfl ?_; refine d_guard rfl rfl (fun hg => by rw [hg]; exact n_len rfl (.pure _ _ _ _)) rfl rfl ?_; refine d_guard rfl rfl (fun hg => by rw [hg]; exact n_lss rfl rfl) rfl rfl ?_; refine d_neu (n_pick_bool rfl (fun h => by first | rfl | (rw [h]; rfl)) (fun h => by first | rfl | (rw [h]; rfl))) rfl rfl ?_; refine d_neu (n_move rfl rfl) rfl rfl ?_; refine d_guard rfl rfl (fun hg => by rw [hg]; exact n_move rfl rfl) rfl rfl ?_; refine d_guard rfl rfl (fun hg => by rw [hg]; exact n_move rfl rfl) rfl rfl ?_; refine d_guard rfl rfl (fun hg => by have hq := hg; (try simp at hq); rw [hg]; exact n_indexAddr rfl (.pure _ _ _ _) rfl (by omega) (getD_get (by omega))) rfl rfl ?_; refine d_guard rfl rfl (fun hg => by rw [hg]; exact n_load_eref rfl rfl) rfl rfl ?_; refine d_guard rfl rfl (fun hg => by rw [hg]; exact n_load_ref rfl rfl rfl) rfl rfl ?_; refine d_guard rfl rfl (fun hg => by rw [hg]; exact n_move rfl rfl) rfl rfl ?_; refine d_guard rfl rfl (fun hg => by have hq := hg; (try simp at hq); rw [hg]; exact n_indexAddr rfl (.pure _ _ _ _) rfl (by omega) (getD_get (by omega))) rfl rfl ?_; refine d_guard rfl rfl (fun hg => by rw [hg]; exact n_load_eref rfl rfl) rfl rfl ?_; refine d_guard rfl rfl (fun hg => by rw [hg]; exact n_eql rfl rfl) rfl rfl ?_; refine d_neu (n_pick_bool rfl (fun h => by first | rfl | (rw [h]; rfl)) (fun h => by first | rfl | (rw [h]; rfl))) rfl rfl ?_; refine d_neu (n_assign rfl rfl) rfl rfl ?_; refine d_nil ?_
    refine k1 ?_
    refine c_cond rfl (fun ht => ?_) (fun ht => ?_)
    · simp only [and_pick] at ht
      obtain ⟨⟨h1, h2⟩, h3⟩ := of_decide_eq_true ht
      have h1 : i < a'.length := by omega
      have h2 : j < b'.length := by omega
      rw [walkGo_drop a' b' i j h1 h2, if_pos (by simpa [h1, h2] using h3)] at he
      refine c_cut [(0, sList Int 1 intC a'), (3, .s (.one (.ref 3 0))), (5, .s (.one (.buf 5 Span 2 spanC out))), (6, sInt k), (8, .s (.one (.ref 8 0))), (9, .s (.one (.clo 236 [] [(8, 0), (3, 0)]))), (10, sInt i), (11, sInt j)] [(3, .box [.p (.list Int 1 intC b')]), (5, .spare out.length 2 88), (8, .box [.p (.list Int 1 u16C (flat a' b' (fun _ _ => true)))])] (Sees.of ⟨le1 rfl, le1 rfl, le1 rfl, le1 rfl, le1 rfl, le1 rfl, le1 rfl, le1 rfl, trivial⟩ ⟨rfl, rfl, rfl, trivial⟩) ?_
      refine k2 ?_
      refine c_region ?_; refine l_neu (n_move rfl rfl) rfl ?_; refine l_neu (n_move rfl rfl) rfl ?_; refine l_neu (n_move rfl rfl) rfl ?_; refine l_neu (n_add rfl rfl (by omega)) rfl ?_; refine l_neu (n_move rfl rfl) rfl ?_; refine l_neu (n_move rfl rfl) rfl ?_; refine l_neu (n_add rfl rfl (by omega)) rfl ?_; refine l_neu (n_build rfl) rfl ?_; refine l_neu (n_buildSlice (c := spanC) (ys := [⟨(k : Int) + i, (k : Int) + j⟩]) (asm_cons rfl rfl rfl rfl asm_nil) rfl rfl rfl) rfl ?_; refine l_effv (e_append rfl rfl rfl (.pure _ _ _ _) (by (simp only [List.length_cons, List.length_nil]; omega)) rfl) rfl ?_; refine l_neu (n_assign rfl rfl) rfl ?_; refine l_nil ?_
      refine k1 ?_
      refine c_region ?_; refine l_neu (n_move rfl rfl) rfl ?_; refine l_neu (n_add rfl rfl (by omega)) rfl ?_; refine l_neu (n_move rfl rfl) rfl ?_; refine l_neu (n_add rfl rfl (by omega)) rfl ?_; refine l_neu (n_assign rfl rfl) rfl ?_; refine l_neu (n_assign rfl rfl) rfl ?_; refine l_nil ?_
      refine k4 ?_; refine k4 ?_; refine k1 ?_
      refine ⟨(i + 1, j + 1, out ++ [⟨(k : Int) + i, (k : Int) + j⟩]), ⟨by dsimp only; omega, by dsimp only; omega, by simp; omega, ?_⟩, by dsimp only; omega, Sees.of ⟨le1 rfl, le1 rfl, le1 rfl, le1 rfl, le1 rfl, le1 rfl, le1 rfl, le1 rfl, trivial⟩ ⟨rfl, rfl, rfl, trivial⟩⟩
      dsimp only
      rw [he, List.append_assoc]
      congr 2
    · simp only [and_pick] at ht
      have hno := of_decide_eq_false ht
      refine c_cut [(0, sList Int 1 intC a'), (3, .s (.one (.ref 3 0))), (5, .s (.one (.buf 5 Span 2 spanC out))), (6, sInt k), (8, .s (.one (.ref 8 0))), (9, .s (.one (.clo 236 [] [(8, 0), (3, 0)]))), (10, sInt i), (11, sInt j)] [(3, .box [.p (.list Int 1 intC b')]), (5, .spare out.length 2 88), (8, .box [.p (.list Int 1 u16C (flat a' b' (fun _ _ => true)))])] (Sees.of ⟨le1 rfl, le1 rfl, le1 rfl, le1 rfl, le1 rfl, le1 rfl, le1 rfl, le1 rfl, trivial⟩ ⟨rfl, rfl, rfl, trivial⟩) ?_
      by_cases h1 : i < a'.length
      · have hr : decide ((i : Int) < (a'.length : Int)) = true := decide_eq_true (by omega)
        have hd1 := dist_le (a'.drop (i + 1)) (b'.drop j)
        simp only [List.length_drop] at hd1
        have hstep : ¬ j < b'.length → dist (a'.drop (i + 1)) (b'.drop j) + 1 = dist (a'.drop i) (b'.drop j) ∧ walkGo (k + i) (k + j) (a'.drop i) (b'.drop j) = walkGo (k + i + 1) (k + j) (a'.drop (i + 1)) (b'.drop j) := by
          intro hj2
          rw [show b'.drop j = [] from List.drop_eq_nil_of_le (by omega), dist_nil, dist_nil, List.length_drop, List.length_drop, walkGo_nil_right, walkGo_nil_right]
          exact ⟨by omega, rfl⟩
        have hgo : j < b'.length → walkGo (k + i) (k + j) (a'.drop i) (b'.drop j) = if dist (a'.drop (i + 1)) (b'.drop j) + 1 = dist (a'.drop i) (b'.drop j) then walkGo (k + i + 1) (k + j) (a'.drop (i + 1)) (b'.drop j) else walkGo (k + i) (k + j + 1) (a'.drop i) (b'.drop (j + 1)) := by
          intro h2
          rw [walkGo_drop a' b' i j h1 h2, if_neg]
          intro h3
          exact hno ⟨⟨by omega, by omega⟩, by simpa [h1, h2] using h3⟩
        refine k2 ?_
        refine c_region ?_; refine l_neu (n_move rfl rfl) rfl ?_; refine l_neu (n_move rfl rfl) rfl ?_; refine l_neu (n_len rfl (.pure _ _ _ _)) rfl ?_; refine l_neu (n_lss rfl rfl) rfl ?_; refine l_neu (n_move rfl rfl) rfl ?_; refine l_run rfl rfl rfl hr ?_; refine l_neu (n_move rfl rfl) rfl ?_; refine l_run rfl rfl rfl hr ?_; refine l_neu (n_move rfl rfl) rfl ?_; refine l_run rfl rfl rfl hr ?_; refine l_neu (n_add rfl rfl (by omega)) rfl ?_; refine l_run rfl rfl rfl hr ?_; refine l_neu (n_move rfl rfl) rfl ?_; refine l_run rfl rfl rfl hr ?_; refine l_metF (sat_met a' b' (i + 1) j hal hbl (by omega) hj rfl rfl) rfl rfl rfl rfl ?_; rintro _ _ ⟨rfl, rfl⟩; refine l_run rfl rfl rfl hr ?_; refine l_neu (n_add rfl rfl (by omega)) rfl ?_; refine l_run rfl rfl rfl hr ?_; refine l_neu (n_move rfl rfl) rfl ?_; refine l_run rfl rfl rfl hr ?_; refine l_neu (n_move rfl rfl) rfl ?_; refine l_run rfl rfl rfl hr ?_; refine l_neu (n_move rfl rfl) rfl ?_; refine l_run rfl rfl rfl hr ?_; refine l_metF (sat_met a' b' i j hal hbl hi hj rfl rfl) rfl rfl rfl rfl ?_; rintro _ _ ⟨rfl, rfl⟩; refine l_run rfl rfl rfl hr ?_; refine l_neu (n_eql rfl rfl) rfl ?_; refine l_neu (n_pick_bool rfl (fun h => by first | rfl | (rw [h]; rfl)) (fun h => by first | rfl | (rw [h]; rfl))) rfl ?_; refine l_neu (n_assign rfl rfl) rfl ?_; refine l_nil ?_
        refine k1 ?_
        refine c_cond rfl (fun ht => ?_) (fun ht => ?_)
        · simp only [and_pick] at ht
          obtain ⟨_, h3⟩ := of_decide_eq_true ht
          have h3 : dist (a'.drop (i + 1)) (b'.drop j) + 1 = dist (a'.drop i) (b'.drop j) := by omega
          have hnext : walkGo (k + i) (k + j) (a'.drop i) (b'.drop j) = walkGo (k + i + 1) (k + j) (a'.drop (i + 1)) (b'.drop j) := by
            by_cases h2 : j < b'.length
            · rw [hgo h2, if_pos h3]
            · exact (hstep h2).2
          rw [hnext] at he
          skip
          refine c_region ?_; refine l_neu (n_move rfl rfl) rfl ?_; refine l_neu (n_add rfl rfl (by omega)) rfl ?_; refine l_neu (n_assign rfl rfl) rfl ?_; refine l_nil ?_
          refine k4 ?_; refine k4 ?_; refine k1 ?_
          refine ⟨(i + 1, j, out), ⟨by dsimp only; omega, by dsimp only; omega, by dsimp only; omega, ?_⟩, by dsimp only; omega, Sees.of ⟨le1 rfl, le1 rfl, le1 rfl, le1 rfl, le1 rfl, le1 rfl, le1 rfl, le1 rfl, trivial⟩ ⟨rfl, rfl, rfl, trivial⟩⟩
          dsimp only
          rw [he, show (k : Int) + (i : Int) + 1 = (k : Int) + ((i + 1 : Nat) : Int) by omega]
        · simp only [and_pick] at ht
          have h3 := of_decide_eq_false ht
          have h3 : ¬ dist (a'.drop (i + 1)) (b'.drop j) + 1 = dist (a'.drop i) (b'.drop j) := fun q => h3 ⟨by omega, by omega⟩
          have h2 : j < b'.length := by
            by_cases h2 : j < b'.length
            · exact h2
            · exact absurd (hstep h2).1 h3
          rw [hgo h2, if_neg h3] at he
          skip
          refine c_region ?_; refine l_neu (n_move rfl rfl) rfl ?_; refine l_neu (n_add rfl rfl (by omega)) rfl ?_; refine l_neu (n_assign rfl rfl) rfl ?_; refine l_nil ?_
          refine k4 ?_; refine k4 ?_; refine k1 ?_
          refine ⟨(i, j + 1, out), ⟨by dsimp only; omega, by dsimp only; omega, by dsimp only; omega, ?_⟩, by dsimp only; omega, Sees.of ⟨le1 rfl, le1 rfl, le1 rfl, le1 rfl, le1 rfl, le1 rfl, le1 rfl, le1 rfl, trivial⟩ ⟨rfl, rfl, rfl, trivial⟩⟩
          dsimp only
          rw [he, show (k : Int) + (j : Int) + 1 = (k : Int) + ((j + 1 : Nat) : Int) by omega]
      · have hrf : decide ((i : Int) < (a'.length : Int)) = false := decide_eq_false (by omega)
        have h2 : j < b'.length := by omega
        refine k2 ?_
        refine c_region ?_; refine l_neu (n_move rfl rfl) rfl ?_; refine l_neu (n_move rfl rfl) rfl ?_; refine l_neu (n_len rfl (.pure _ _ _ _)) rfl ?_; refine l_neu (n_lss rfl rfl) rfl ?_; refine l_neu (n_move rfl rfl) rfl ?_; refine l_skip rfl rfl rfl (by rw [hrf]; decide) rfl ?_; refine l_skip rfl rfl rfl (by rw [hrf]; decide) rfl ?_; refine l_skip rfl rfl rfl (by rw [hrf]; decide) rfl ?_; refine l_skip rfl rfl rfl (by rw [hrf]; decide) rfl ?_; refine l_skip rfl rfl rfl (by rw [hrf]; decide) rfl ?_; refine l_skip rfl rfl rfl (by rw [hrf]; decide) rfl ?_; refine l_skip rfl rfl rfl (by rw [hrf]; decide) rfl ?_; refine l_skip rfl rfl rfl (by rw [hrf]; decide) rfl ?_; refine l_skip rfl rfl rfl (by rw [hrf]; decide) rfl ?_; refine l_skip rfl rfl rfl (by rw [hrf]; decide) rfl ?_; refine l_skip rfl rfl rfl (by rw [hrf]; decide) rfl ?_; refine l_neu (n_pick_f rfl (hrf) rfl) rfl ?_; refine l_neu (n_assign rfl rfl) rfl ?_; refine l_nil ?_
        refine k1 ?_
        refine c_cond rfl (fun ht => ?_) (fun ht => ?_)
        · cases ht
        · skip
          refine c_region ?_; refine l_neu (n_move rfl rfl) rfl ?_; refine l_neu (n_add rfl rfl (by omega)) rfl ?_; refine l_neu (n_assign rfl rfl) rfl ?_; refine l_nil ?_
          refine k4 ?_; refine k4 ?_; refine k1 ?_
          refine ⟨(i, j + 1, out), ⟨by dsimp only; omega, by dsimp only; omega, by dsimp only; omega, ?_⟩, by dsimp only; omega, Sees.of ⟨le1 rfl, le1 rfl, le1 rfl, le1 rfl, le1 rfl, le1 rfl, le1 rfl, le1 rfl, trivial⟩ ⟨rfl, rfl, rfl, trivial⟩⟩
          dsimp only
          rw [he, show a'.drop i = [] from List.drop_eq_nil_of_le (by omega), walkGo_nil_left, walkGo_nil_left]
  · simp only [or_pick] at ht
    have hcond := of_decide_eq_false ht
    rw [show a'.drop i = [] from List.drop_eq_nil_of_le (by omega), walkGo_nil_left, List.append_nil] at he
    refine k6 ?_; refine k2 ?_
    refine c_region ?_; refine l_neu (n_move rfl rfl) rfl ?_; refine l_neu (n_assign rfl rfl) rfl ?_; refine l_nil ?_
    refine k1 ?_; refine k10 ?_
    exact ret_ret (ret1 rfl rfl rfl) (by rw [he])
theorem sScript_ok (a b : List Int) (ha : a.length ≤ 4096) (hb : b.length ≤ 4096) : FnOk Tryz.prog 130 [pInts a, pInts b] (fun rs => rs = [pChanges (walkOf a b), pInt 0]) := by
  have hA := walkGo_asc a b 0 0
  rw [Int.zero_add, Int.zero_add] at hA
  have hl := walkGo_length 0 0 a b
  refine FnOk.intro Tryz.func130 (by decide) rfl rfl rfl rfl ?_
  refine k2 ?_
  refine c_region ?_; refine l_neu (n_assign rfl rfl) rfl ?_; refine l_neu (n_assign rfl rfl) rfl ?_; refine l_nil ?_
  refine k1 ?_; refine k2 ?_; refine k2 ?_
  refine c_region ?_; refine l_neu (n_move rfl rfl) rfl ?_; refine l_neu (n_move rfl rfl) rfl ?_; refine l_call (slimited_ok a b) rfl rfl rfl ?_; rintro _ rfl; refine l_neu (n_not rfl) rfl ?_; refine l_nil ?_
  refine k1 ?_
  refine c_cond rfl (fun ht => ?_) (fun ht => ?_)
  · exfalso
    have h : decide ((a.length : Int) ≤ 4096 ∧ (b.length : Int) ≤ 4096) = true := decide_eq_true ⟨by omega, by omega⟩
    rw [h] at ht; cases ht
  refine k5 ?_; refine k1 ?_; refine k2 ?_
  refine c_region ?_; refine l_neu (n_move rfl rfl) rfl ?_; refine l_neu (n_move rfl rfl) rfl ?_; refine l_call (swalk_ok a b ha hb) rfl rfl rfl ?_; rintro _ rfl; refine l_neu (n_move rfl rfl) rfl ?_; refine l_neu (n_len rfl (.pure _ _ _ _)) rfl ?_; refine l_neu (n_move rfl rfl) rfl ?_; refine l_neu (n_len rfl (.pure _ _ _ _)) rfl ?_; refine l_call (sFromPairs_ok (walkGo 0 0 a b) a.length b.length ⟨by omega, by omega⟩ ⟨by omega, by omega⟩ hA (by omega)) rfl rfl rfl ?_; rintro _ rfl; refine l_neu (n_extract rfl rfl) rfl ?_; refine l_neu (n_extract rfl rfl) rfl ?_; refine l_neu (n_assign rfl rfl) rfl ?_; refine l_neu (n_assign rfl rfl) rfl ?_; refine l_nil ?_
  refine k1 ?_; refine k10 ?_
  exact ret_ret (ret2 rfl rfl rfl rfl rfl) rfl
end Go.Proofs.YtbiadkkamhpdnaaGreatDoor
namespace Go.Proofs.YtbiadkkamhpdnaaGreatDoor
open Go Go.AL
set_option maxRecDepth 100000
theorem lnumbers_ok (l : List Merged) (hl : l.length ≤ 536870912) : FnOk Tryz.prog 253 [pMerged l] (fun rs => rs = [pInts (linesM l)]) := by
  refine FnOk.intro Tryz.func253 (by decide) rfl rfl rfl rfl ?_
  refine k2 ?_
  refine c_region ?_; refine l_neu (n_assign rfl rfl) rfl ?_; refine l_nil ?_
  refine k1 ?_; refine k2 ?_
  refine c_region ?_; refine l_effv (f_adopt 756 _ intC rfl) rfl ?_; refine l_nil ?_
  refine k1 ?_; refine k2 ?_; refine k2 ?_
  refine c_region ?_; refine l_neu (n_move rfl rfl) rfl ?_; refine l_neu (n_len rfl (.pure _ _ _ _)) rfl ?_; refine l_neu (n_move rfl rfl) rfl ?_; refine l_nil ?_
  refine k1 ?_; refine k3 ?_
  refine c_while (X := Nat) (fun i => ([(3, .s (.one (.buf 756 Int 1 intC (linesM (l.take i))))), (6, sList Merged 2 mergedC l), (7, sInt l.length), (8, sInt i)], [(756, .spare (linesM (l.take i)).length 1 3)])) (fun i => i ≤ l.length) (fun i => l.length - i) 0 (Nat.zero_le _) (Sees.of ⟨le1 rfl, le1 rfl, le1 rfl, le1 rfl, trivial⟩ ⟨rfl, trivial⟩) ?_
  intro i hi
  dsimp only at hi ⊢
  have hml : (linesM (l.take i)).length = i := by simp [linesM]; omega
  refine k2 ?_
  refine c_region ?_; refine l_neu (n_lss rfl rfl) rfl ?_; refine l_nil ?_
  refine k1 ?_; refine k2 ?_
  refine c_cond rfl (fun ht => ?_) (fun ht => ?_)
  · have hlt : i < l.length := by have := of_decide_eq_true ht; omega
    have hv : l[i]? = some l[i] := by simp [hlt]
    have hst : linesM (l.take (i + 1)) = linesM (l.take i) ++ [l[i].Line] := by unfold linesM; rw [List.take_succ_eq_append_getElem hlt]; simp only [List.map_append, List.map_cons, List.map_nil]
    obtain ⟨m, hm⟩ : ∃ m, m = l[i] := ⟨_, rfl⟩
    rw [← hm] at hv hst
    refine k5 ?_; refine k1 ?_; refine k2 ?_; refine k3 ?_; refine k2 ?_
    refine c_region ?_; refine l_neu (n_indexAddr rfl (.pure _ _ _ _) rfl (by omega) hv) rfl ?_; refine l_neu (n_loads_eref rfl rfl) rfl ?_; refine l_effv (f_alloc 757 rfl) rfl ?_; refine l_eff (e_store_ref TySz.out rfl rfl rfl rfl rfl rfl) ?_; refine l_nil ?_
    refine k1 ?_
    refine c_region ?_; refine l_neu (n_move rfl rfl) rfl ?_; refine l_neu (n_field_ref rfl) rfl ?_; refine l_neu (n_load_ref rfl rfl rfl) rfl ?_; refine l_neu (n_buildSlice (c := intC) (ys := [m.Line]) (asm_cons rfl rfl rfl rfl asm_nil) rfl rfl rfl) rfl ?_; refine l_effv (e_append rfl rfl rfl (.pure _ _ _ _) (by (rw [hml]; simp only [List.length_cons, List.length_nil]; omega)) rfl) rfl ?_; refine l_neu (n_assign rfl rfl) rfl ?_; refine l_nil ?_
    refine k4 ?_; refine k1 ?_
    refine c_region ?_; refine l_neu (n_add rfl rfl (by omega)) rfl ?_; refine l_neu (n_move rfl rfl) rfl ?_; refine l_nil ?_
    refine k1 ?_
    refine ⟨i + 1, by omega, by omega, ?_⟩
    rw [hst]
    exact Sees.of ⟨le1 rfl, le1 rfl, le1 rfl, le1 rfl, trivial⟩ ⟨rfl, trivial⟩
  · have hil : i = l.length := by have := of_decide_eq_false ht; omega
    rw [hil, List.take_length]
    refine k6 ?_; refine k2 ?_
    refine c_region ?_; refine l_neu (n_move rfl rfl) rfl ?_; refine l_neu (n_assign rfl rfl) rfl ?_; refine l_nil ?_
    refine k1 ?_; refine k10 ?_
    exact ret_ret (ret1 rfl rfl rfl) rfl
theorem partM_snoc (l : List Merged) (bit : Int) {a t : Nat} (h : a + t < l.length) : partM l bit a (a + (t + 1)) = partM l bit a (a + t) ++ [⟨l[a + t].Line, orBit l[a + t].Parents bit⟩] := by
  rw [partM_split l bit (show a ≤ a + t by omega) (show a + t ≤ a + (t + 1) by omega), show a + (t + 1) = a + t + 1 by omega, partM_one l bit h, List.getElem?_eq_getElem h]; rfl
theorem partM_length (l : List Merged) (bit : Int) (a b : Nat) : (partM l bit a b).length ≤ b - a := by unfold partM; rw [List.length_map, List.length_take]; omega
abbrev intBox (i : Int) : Ob := .box [.p (.v (.int .i64 i))]
abbrev u32Box (i : Int) : Ob := .box [.p (.v (.int .u32 i))]
abbrev lBox (l : List Merged) : Ob := .box [.p (.list Merged 2 mergedC l)]
theorem lmerge1_met {gf : Fr} {ob : Obs} (l out : List Merged) (bit : Int) (a e : Nat) (he : e ≤ l.length) (ha : a ≤ e) (hl : l.length ≤ 536870912) (ho : out.length ≤ 268435456) (hl2 : l.length ≤ 268435456)
    (h11 : getO ob 11 = some (intBox a)) (h10 : getO ob 10 = some (.box [.buf 20 Merged 2 mergedC out])) (h3 : getO ob 3 = some (lBox l)) (h5 : getO ob 5 = some (u32Box bit)) (h20 : getO ob 20 = some (.spare out.length 2 151)) :
    AL.Met Tryz.prog 254 [.one (.p (.v (.int .i64 e))), .one (.ref 11 0), .one (.ref 10 0), .one (.ref 3 0), .one (.ref 5 0)] gf ob [20]
      (fun rs ob' => rs = [] ∧ ob' = (10, .box [.buf 20 Merged 2 mergedC (out ++ partM l bit a e)]) :: (11, intBox e) :: (3, lBox l) :: (5, u32Box bit) :: (20, .spare (out ++ partM l bit a e).length 2 151) :: Obs.forget 20 ob) := by
  refine AL.Met.introH Tryz.func254 (by decide) rfl rfl rfl (fun hH => ?_)
  refine k3 ?_
  refine c_while (X := Nat) (fun t => ([(0, sInt e), (1, .s (.one (.ref 11 0))), (2, .s (.one (.ref 10 0))), (3, .s (.one (.ref 3 0))), (4, .s (.one (.ref 5 0)))] ++ Fr.forget 20 gf, (10, .box [.buf 20 Merged 2 mergedC (out ++ partM l bit a (a + t))]) :: (11, intBox ((a + t : Nat) : Int)) :: (3, lBox l) :: (5, u32Box bit) :: (20, .spare (out ++ partM l bit a (a + t)).length 2 151) :: Obs.forget 20 ob)) (fun t => a + t ≤ e) (fun t => e - (a + t)) 0 (by omega) ?_ ?_
  · rw [Nat.add_zero, partM_nil, List.append_nil]
    exact Sees.tailL 20 (l := [(0, sInt e), (1, .s (.one (.ref 11 0))), (2, .s (.one (.ref 10 0))), (3, .s (.one (.ref 3 0))), (4, .s (.one (.ref 5 0)))]) (L := [(10, _), (11, _), (3, _), (5, _), (20, _)]) ⟨le1 rfl, le1 rfl, le1 rfl, le1 rfl, le1 rfl, trivial⟩ hH (by repeat (first | exact tail_refl | refine tail_cons rfl ?_)) ⟨h10, h11, h3, h5, h20, trivial⟩
  intro t ht0
  dsimp only at ht0 ⊢
  have hpl := partM_length l bit a (a + t)
  refine k2 ?_; refine k2 ?_
  refine c_region ?_; refine l_neu (n_load_ref rfl rfl rfl) rfl ?_; refine l_neu (n_move rfl rfl) rfl ?_; refine l_neu (n_lss rfl rfl) rfl ?_; refine l_nil ?_
  refine k1 ?_
  refine c_cond rfl (fun ht => ?_) (fun ht => ?_)
  · have h1 : a + t < l.length := by have := of_decide_eq_true ht; omega
    have hv : l[a + t]? = some l[a + t] := by simp [h1]
    have hst := partM_snoc l bit h1
    obtain ⟨m, hm⟩ : ∃ m, m = l[a + t] := ⟨_, rfl⟩
    rw [← hm] at hv hst
    refine k5 ?_; refine k1 ?_; refine k2 ?_; refine k3 ?_
    refine c_region_draw (by kernel_rfl) (by kernel_rfl) ?_; refine d_neu (n_load_ref rfl rfl rfl) rfl rfl ?_; refine d_neu (n_load_ref rfl rfl rfl) rfl rfl ?_; refine d_neu (n_load_ref rfl rfl rfl) rfl rfl ?_; refine d_neu (n_indexAddr rfl (.pure _ _ _ _) rfl (by omega) hv) rfl rfl ?_; refine d_neu (n_field_eref rfl) rfl rfl ?_; refine d_neu (n_load_eref rfl rfl) rfl rfl ?_; refine d_neu (n_load_ref rfl rfl rfl) rfl rfl ?_; refine d_neu (n_load_ref rfl rfl rfl) rfl rfl ?_; refine d_neu (n_indexAddr rfl (.pure _ _ _ _) rfl (by omega) hv) rfl rfl ?_; refine d_neu (n_field_eref rfl) rfl rfl ?_; refine d_neu (n_load_eref rfl rfl) rfl rfl ?_; refine d_neu (n_load_ref rfl rfl rfl) rfl rfl ?_; refine d_neu (n_bits rfl rfl rfl (fun _ => rfl)) rfl rfl ?_; refine d_neu (n_build rfl) rfl rfl ?_; refine d_neu (n_buildSlice (c := mergedC) (ys := [⟨m.Line, orBit m.Parents bit⟩]) (asm_cons rfl rfl rfl rfl asm_nil) rfl rfl rfl) rfl rfl ?_; refine d_effv (e_append rfl rfl rfl (.pure _ _ _ _) (by (simp only [List.length_append, List.length_cons, List.length_nil]; omega)) rfl) rfl rfl ?_; refine d_eff (e_store_ref TySz.out rfl rfl rfl rfl rfl rfl) rfl ?_; refine d_nil ?_
    refine k4 ?_; refine k1 ?_
    refine c_region ?_; refine l_neu (n_load_ref rfl rfl rfl) rfl ?_; refine l_neu (n_add rfl rfl (by omega)) rfl ?_; refine l_eff (e_store_ref TySz.out rfl rfl rfl rfl rfl rfl) ?_; refine l_nil ?_
    refine k1 ?_
    refine ⟨t + 1, by have := of_decide_eq_true ht; omega, by have := of_decide_eq_true ht; omega, ?_⟩
    rw [hst, ← List.append_assoc, show ((a + (t + 1) : Nat) : Int) = ((a + t : Nat) : Int) + 1 by omega]
    exact Sees.tailed ⟨le1 rfl, le1 rfl, le1 rfl, le1 rfl, le1 rfl, trivial⟩ (high_forget hH) (by repeat (first | exact tail_refl | refine tail_drop rfl ?_ | refine tail_cons rfl ?_ | refine tail_forget' _ ?_)) (obs_put (L := [(10, _), (11, _), (3, _), (5, _), (20, _)]) ⟨rfl, rfl, rfl, rfl, rfl, trivial⟩ (by repeat (first | exact obs_refl | refine obs_skip rfl ?_ | refine obs_fgt _ ?_)))
  · have h2 : a + t = e := by have := of_decide_eq_false ht; omega
    rw [h2]
    refine k6 ?_; refine k7 ?_; refine k7 ?_; refine k8 rfl ?_
    exact met_normal (rets0 rfl) (by repeat (first | exact tail_refl | refine tail_cons rfl ?_ | refine tail_forget _ ?_)) (fun _ _ h => h) ⟨rfl, rfl⟩
def mergedRes (l : List Merged) (list : List Int) (bit : Int) : List Merged := joinGo l list bit 0 0 (walkGo 0 0 (linesM l) list)
theorem newM_snoc (list : List Int) (bit : Int) {a t : Nat} (h : a + t < list.length) : newM list bit a (t + 1) = newM list bit a t ++ [⟨list[a + t], bit⟩] := by
  unfold newM; rw [take_drop_snoc list a t h, List.map_append]; rfl
theorem newM_length (list : List Int) (bit : Int) (a n : Nat) : (newM list bit a n).length ≤ n := by unfold newM; rw [List.length_map, List.length_take]; omega
theorem walk_sc (l : List Merged) (list : List Int) (hl : l.length ≤ 4096) (hn : list.length ≤ 4096) : ScOk 0 0 (walkOf (linesM l) list) l.length list.length := by
  have hasc := walkGo_asc (linesM l) list 0 0
  rw [Int.zero_add, Int.zero_add] at hasc
  have h := madeGo_sc (m := (linesM l).length) (n := list.length) ⟨by omega, by simp [linesM]; omega⟩ ⟨by omega, by omega⟩ (walkGo 0 0 (linesM l) list) 0 0 0 0 0 hasc (by omega) (by omega) (by omega) (by omega) (by omega)
  have := scriptGo_ok _ _ _ _ _ _ h
  unfold walkOf madeOf
  rwa [show (linesM l).length = l.length by simp [linesM]] at this ⊢
set_option maxHeartbeats 1000000
theorem lmerge_ok (l : List Merged) (list : List Int) (bit : Int) (hl : l.length ≤ 4096) (hn : list.length ≤ 4096) :
    FnOk Tryz.prog 219 [pMerged l, pInts list, .one (.v (.int .u32 bit))] (fun rs => rs = [pMerged (mergedRes l list bit), pInt 0]) := by
  have hll : (linesM l).length = l.length := by simp [linesM]
  have hsc := walk_sc l list hl hn
  have hmi := merge_is l list bit
  obtain ⟨W, hW⟩ : ∃ W, W = mergedRes l list bit := ⟨_, rfl⟩
  obtain ⟨cs, hcs⟩ : ∃ cs, cs = walkOf (linesM l) list := ⟨_, rfl⟩
  have hS := sScript_ok (linesM l) list (by omega) hn
  have hmi : mergeGo l list bit 0 cs = W := by rw [hcs, hmi, hW]; rfl
  rw [← hcs] at hsc hS
  rw [← hW]
  refine FnOk.intro Tryz.func219 (by decide) rfl rfl rfl rfl ?_
  refine k2 ?_
  refine c_region ?_; refine l_effv (f_box 3 rfl rfl rfl) rfl ?_; refine l_effv (f_box 5 rfl rfl rfl) rfl ?_; refine l_neu (n_assign rfl rfl) rfl ?_; refine l_neu (n_assign rfl rfl) rfl ?_; refine l_nil ?_
  refine k1 ?_; refine k2 ?_
  refine c_region ?_; refine l_neu (n_load_ref rfl rfl rfl) rfl ?_; refine l_call (lnumbers_ok l (by omega)) rfl rfl rfl ?_; rintro _ rfl; refine l_neu (n_move rfl rfl) rfl ?_; refine l_call (hS) rfl rfl rfl ?_; rintro _ rfl; refine l_neu (n_move rfl rfl) rfl ?_; refine l_neu (n_extract rfl rfl) rfl ?_; refine l_neu (n_extract rfl rfl) rfl ?_; refine l_neu (n_assign rfl rfl) rfl ?_; refine l_neu (n_assign rfl rfl) rfl ?_; refine l_nil ?_
  refine k1 ?_; refine k2 ?_; refine k2 ?_
  refine c_region ?_; refine l_neu (n_move rfl rfl) rfl ?_; refine l_neu (n_neq rfl rfl) rfl ?_; refine l_nil ?_
  refine k1 ?_
  refine c_cond rfl (fun ht => ?_) (fun ht => ?_)
  · cases ht
  refine k5 ?_; refine k1 ?_; refine k2 ?_
  refine c_region ?_; refine l_effv (f_alloc 10 rfl) rfl ?_; refine l_nil ?_
  refine c_sees (Sees.adoptB 20 Merged 2 mergedC 151 (kb := 10) (o := 0) rfl rfl rfl) ?_
  refine k2 ?_
  refine c_region ?_; refine l_effv (f_alloc 11 rfl) rfl ?_; refine l_eff (e_store_ref TySz.out rfl rfl rfl rfl rfl rfl) ?_; refine l_nil ?_
  refine k1 ?_; refine k2 ?_
  refine c_region ?_; refine l_neu (n_makeFunc rfl rfl) rfl ?_; refine l_neu (n_assign rfl rfl) rfl ?_; refine l_nil ?_
  refine k1 ?_; refine k2 ?_; refine k2 ?_
  refine c_region ?_; refine l_neu (n_move rfl rfl) rfl ?_; refine l_neu (n_len rfl (.pure _ _ _ _)) rfl ?_; refine l_neu (n_move rfl rfl) rfl ?_; refine l_nil ?_
  refine k1 ?_; refine k3 ?_
  refine c_while (X := Nat × Nat × Nat × List Merged) (fun x => ([(1, sList Int 1 intC list), (3, .s (.one (.ref 3 0))), (5, .s (.one (.ref 5 0))), (10, .s (.one (.ref 10 0))), (11, .s (.one (.ref 11 0))), (12, .s (.one (.clo 254 [] [(11, 0), (10, 0), (3, 0), (5, 0)]))), (28, sList Change 4 changeC cs), (29, sInt cs.length), (30, sInt x.1)], [(3, lBox l), (5, u32Box bit), (10, .box [.buf 20 Merged 2 mergedC x.2.2.2]), (11, intBox x.2.1), (20, .spare x.2.2.2.length 2 151)]))
    (fun x => x.1 ≤ cs.length ∧ ScOk x.2.1 x.2.2.1 (cs.drop x.1) l.length list.length ∧ x.2.2.2.length ≤ x.2.1 + x.2.2.1 ∧ x.2.2.2 ++ mergeGo l list bit x.2.1 (cs.drop x.1) = W) (fun x => cs.length - x.1) (0, 0, 0, []) ⟨Nat.zero_le _, hsc, (by simp), hmi⟩ (Sees.of ⟨le1 rfl, le1 rfl, le1 rfl, le1 rfl, le1 rfl, le1 rfl, le1 rfl, le1 rfl, le1 rfl, trivial⟩ ⟨rfl, rfl, rfl, rfl, rfl, trivial⟩) ?_
  rintro ⟨i, k, j, out⟩ ⟨hi, hok, hol, hp⟩
  dsimp only at hi hok hol hp ⊢
  refine k2 ?_
  refine c_region ?_; refine l_neu (n_lss rfl rfl) rfl ?_; refine l_nil ?_
  refine k1 ?_; refine k2 ?_
  refine c_cond rfl (fun ht => ?_) (fun ht => ?_)
  rotate_left
  · have hil : i = cs.length := by have := of_decide_eq_false ht; omega
    rw [hil, List.drop_eq_nil_of_le (Nat.le_refl _)] at hp hok
    have hend : (k : Int) ≤ l.length ∧ (j : Int) ≤ list.length := hok
    have hp : out ++ partM l bit k l.length = W := hp
    refine k6 ?_; refine k2 ?_
    refine c_region ?_; refine l_neu (n_move rfl rfl) rfl ?_; refine l_neu (n_load_ref rfl rfl rfl) rfl ?_; refine l_neu (n_len rfl (.pure _ _ _ _)) rfl ?_; refine l_metF (lmerge1_met l out bit k l.length (by omega) (by omega) (by omega) (by omega) (by omega) rfl rfl rfl rfl rfl) rfl rfl rfl rfl ?_; rintro _ _ ⟨rfl, rfl⟩; refine l_nil ?_
    refine k1 ?_; refine k2 ?_
    rw [hp]
    refine c_sees (Sees.forget 20) ?_
    refine c_region ?_; refine l_neu (n_load_ref rfl rfl rfl) rfl ?_; refine l_neu (n_assign rfl rfl) rfl ?_; refine l_neu (n_assign rfl rfl) rfl ?_; refine l_nil ?_
    refine k1 ?_; refine k10 ?_
    exact ret_ret (ret2 rfl rfl rfl rfl rfl) rfl
  have hlt : i < cs.length := by have := of_decide_eq_true ht; omega
  have hv : cs[i]? = some cs[i] := by simp [hlt]
  rw [List.drop_eq_getElem_cons hlt] at hp hok
  obtain ⟨c, hc⟩ : ∃ c, c = cs[i] := ⟨_, rfl⟩
  rw [← hc] at hv hp hok
  obtain ⟨⟨o1, o2⟩, ⟨o3, o4⟩, ⟨o5, o6⟩, ⟨o7, o8⟩, o9, o10, hok⟩ := hok
  have hend := hok.end_le
  obtain ⟨co, col, cn, cnl⟩ := c
  dsimp only at o1 o2 o3 o4 o5 o6 o7 o8 o9 o10 hok hend
  obtain ⟨A, rfl⟩ : ∃ A : Nat, co = A := ⟨co.toNat, by omega⟩
  obtain ⟨B, rfl⟩ : ∃ B : Nat, col = B := ⟨col.toNat, by omega⟩
  obtain ⟨C, rfl⟩ : ∃ C : Nat, cn = C := ⟨cn.toNat, by omega⟩
  obtain ⟨D, rfl⟩ : ∃ D : Nat, cnl = D := ⟨cnl.toNat, by omega⟩
  rw [mergeGo] at hp
  dsimp only at hp
  simp only [Int.toNat_natCast] at hp
  have hpl := partM_length l bit k A
  have hsl : ((l.drop A).take B).length = B := by rw [List.length_take, List.length_drop]; omega
  refine k5 ?_; refine k1 ?_; refine k2 ?_; refine k3 ?_; refine k2 ?_
  refine c_region ?_; refine l_neu (n_indexAddr rfl (.pure _ _ _ _) rfl (by omega) hv) rfl ?_; refine l_neu (n_loads_eref rfl rfl) rfl ?_; refine l_effv (f_alloc 14 rfl) rfl ?_; refine l_eff (e_store_ref TySz.out rfl rfl rfl rfl rfl rfl) ?_; refine l_nil ?_
  refine c_cut [(1, sList Int 1 intC list), (3, .s (.one (.ref 3 0))), (5, .s (.one (.ref 5 0))), (10, .s (.one (.ref 10 0))), (11, .s (.one (.ref 11 0))), (12, .s (.one (.clo 254 [] [(11, 0), (10, 0), (3, 0), (5, 0)]))), (14, .s (.one (.ref 14 0))), (28, sList Change 4 changeC cs), (29, sInt cs.length), (30, sInt i)] [(3, lBox l), (5, u32Box bit), (10, .box [.buf 20 Merged 2 mergedC out]), (11, intBox k), (20, .spare out.length 2 151), (14, .box [.p (.v (.int .i64 A)), .p (.v (.int .i64 B)), .p (.v (.int .i64 C)), .p (.v (.int .i64 D))])] (Sees.of ⟨le1 rfl, le1 rfl, le1 rfl, le1 rfl, le1 rfl, le1 rfl, le1 rfl, le1 rfl, le1 rfl, le1 rfl, trivial⟩ ⟨rfl, rfl, rfl, rfl, rfl, rfl, trivial⟩) ?_
  refine k2 ?_
  refine c_region ?_; refine l_neu (n_move rfl rfl) rfl ?_; refine l_neu (n_field_ref rfl) rfl ?_; refine l_neu (n_load_ref rfl rfl rfl) rfl ?_; refine l_metF (lmerge1_met l out bit k A (by omega) (by omega) (by omega) (by omega) (by omega) rfl rfl rfl rfl rfl) rfl rfl rfl rfl ?_; rintro _ _ ⟨rfl, rfl⟩; refine l_nil ?_
  obtain ⟨o1', ho1⟩ : ∃ o', o' = out ++ partM l bit k A := ⟨_, rfl⟩
  have hp : o1' ++ ((l.drop A).take B ++ newM list bit C D ++ mergeGo l list bit (A + B) (cs.drop (i + 1))) = W := by rw [ho1, ← hp]; simp only [List.append_assoc]
  have hol' : o1'.length ≤ k + j + (A - k) := by rw [ho1, List.length_append]; omega
  rw [← ho1]
  refine c_cut [(1, sList Int 1 intC list), (3, .s (.one (.ref 3 0))), (5, .s (.one (.ref 5 0))), (10, .s (.one (.ref 10 0))), (11, .s (.one (.ref 11 0))), (12, .s (.one (.clo 254 [] [(11, 0), (10, 0), (3, 0), (5, 0)]))), (14, .s (.one (.ref 14 0))), (28, sList Change 4 changeC cs), (29, sInt cs.length), (30, sInt i)] [(3, lBox l), (5, u32Box bit), (10, .box [.buf 20 Merged 2 mergedC o1']), (11, intBox A), (20, .spare o1'.length 2 151), (14, .box [.p (.v (.int .i64 A)), .p (.v (.int .i64 B)), .p (.v (.int .i64 C)), .p (.v (.int .i64 D))])] (Sees.of ⟨le1 rfl, le1 rfl, le1 rfl, le1 rfl, le1 rfl, le1 rfl, le1 rfl, le1 rfl, le1 rfl, le1 rfl, trivial⟩ ⟨rfl, rfl, rfl, rfl, rfl, rfl, trivial⟩) ?_
  refine k2 ?_
  have eAB : ((A : Int) + B).toNat - (A : Int).toNat = B := by omega
  refine c_region_draw (by kernel_rfl) (by kernel_rfl) ?_; refine d_neu (n_load_ref rfl rfl rfl) rfl rfl ?_; refine d_neu (n_load_ref rfl rfl rfl) rfl rfl ?_; refine d_neu (n_load_ref rfl rfl rfl) rfl rfl ?_; refine d_neu (n_load_ref rfl rfl rfl) rfl rfl ?_; refine d_neu (n_field_ref rfl) rfl rfl ?_; refine d_neu (n_load_ref rfl rfl rfl) rfl rfl ?_; refine d_neu (n_add rfl rfl (by omega)) rfl rfl ?_; refine d_neu (n_slice_lh rfl (.pure _ _ _ _) rfl rfl (by omega) (by omega) (by omega)) rfl rfl ?_; refine d_effv (e_append rfl rfl rfl (.pure _ _ _ _) (by (rw [eAB, Int.toNat_natCast, hsl]; omega)) rfl) rfl rfl ?_; refine d_eff (e_store_ref TySz.out rfl rfl rfl rfl rfl rfl) rfl ?_; refine d_nil ?_
  rw [eAB, Int.toNat_natCast]
  refine k1 ?_; refine k2 ?_
  refine c_region ?_; refine l_neu (n_load_ref rfl rfl rfl) rfl ?_; refine l_neu (n_field_ref rfl) rfl ?_; refine l_neu (n_load_ref rfl rfl rfl) rfl ?_; refine l_neu (n_add rfl rfl (by omega)) rfl ?_; refine l_eff (e_store_ref TySz.out rfl rfl rfl rfl rfl rfl) ?_; refine l_nil ?_
  refine k1 ?_; refine k2 ?_
  have eCD : ((C : Int) + D).toNat - (C : Int).toNat = D := by omega
  have hLl : ((list.drop C).take D).length = D := by rw [List.length_take, List.length_drop]; omega
  refine c_region ?_; refine l_neu (n_move rfl rfl) rfl ?_; refine l_neu (n_field_ref rfl) rfl ?_; refine l_neu (n_load_ref rfl rfl rfl) rfl ?_; refine l_neu (n_field_ref rfl) rfl ?_; refine l_neu (n_load_ref rfl rfl rfl) rfl ?_; refine l_neu (n_field_ref rfl) rfl ?_; refine l_neu (n_load_ref rfl rfl rfl) rfl ?_; refine l_neu (n_add rfl rfl (by omega)) rfl ?_; refine l_neu (n_slice_lh rfl (.pure _ _ _ _) rfl rfl (by omega) (by omega) (by omega)) rfl ?_; refine l_neu (n_len rfl (.pure _ _ _ _)) rfl ?_; refine l_neu (n_move rfl rfl) rfl ?_; refine l_nil ?_
  rw [eCD, Int.toNat_natCast]
  refine k1 ?_; refine k3 ?_
  obtain ⟨o2', ho2⟩ : ∃ o', o' = o1' ++ (l.drop A).take B := ⟨_, rfl⟩
  have hp : o2' ++ (newM list bit C D ++ mergeGo l list bit (A + B) (cs.drop (i + 1))) = W := by rw [ho2, ← hp]; simp only [List.append_assoc]
  have hol2 : o2'.length ≤ k + j + (A - k) + B := by rw [ho2, List.length_append, hsl]; omega
  rw [← ho2]
  obtain ⟨NL, hNL⟩ : ∃ NL, NL = (list.drop C).take D := ⟨_, rfl⟩
  rw [← hNL] at hLl ⊢
  refine c_while (X := Nat) (fun t => ([(1, sList Int 1 intC list), (3, .s (.one (.ref 3 0))), (5, .s (.one (.ref 5 0))), (10, .s (.one (.ref 10 0))), (11, .s (.one (.ref 11 0))), (12, .s (.one (.clo 254 [] [(11, 0), (10, 0), (3, 0), (5, 0)]))), (28, sList Change 4 changeC cs), (29, sInt cs.length), (30, sInt i), (59, sList Int 1 intC NL), (60, sInt NL.length), (61, sInt t)], [(3, lBox l), (5, u32Box bit), (10, .box [.buf 20 Merged 2 mergedC (o2' ++ newM list bit C t)]), (11, intBox ((A : Int) + B)), (20, .spare (o2' ++ newM list bit C t).length 2 151)])) (fun t => t ≤ D) (fun t => D - t) 0 (Nat.zero_le _) (by rw [show newM list bit C 0 = [] by unfold newM; simp, List.append_nil]; exact Sees.of ⟨le1 rfl, le1 rfl, le1 rfl, le1 rfl, le1 rfl, le1 rfl, le1 rfl, le1 rfl, le1 rfl, le1 rfl, le1 rfl, le1 rfl, trivial⟩ ⟨rfl, rfl, rfl, rfl, rfl, trivial⟩) ?_
  intro t ht1
  dsimp only at ht1 ⊢
  have hnl := newM_length list bit C t
  refine k2 ?_
  refine c_region ?_; refine l_neu (n_lss rfl rfl) rfl ?_; refine l_nil ?_
  refine k1 ?_; refine k2 ?_
  refine c_cond rfl (fun ht => ?_) (fun ht => ?_)
  · have hltD : t < D := by have := of_decide_eq_true ht; omega
    have hltL : C + t < list.length := by omega
    have hv2 : NL[t]? = some list[C + t] := by rw [hNL, List.getElem?_take_of_lt hltD, List.getElem?_drop, List.getElem?_eq_getElem hltL]
    have hst := newM_snoc list bit hltL
    obtain ⟨v, hvv⟩ : ∃ v, v = list[C + t] := ⟨_, rfl⟩
    rw [← hvv] at hv2 hst
    refine k5 ?_; refine k1 ?_; refine k2 ?_; refine k3 ?_; refine k2 ?_
    refine c_region ?_; refine l_neu (n_indexAddr rfl (.pure _ _ _ _) rfl (by omega) hv2) rfl ?_; refine l_neu (n_load_eref rfl rfl) rfl ?_; refine l_neu (n_assign rfl rfl) rfl ?_; refine l_nil ?_
    refine k1 ?_
    refine c_region ?_; refine l_neu (n_load_ref rfl rfl rfl) rfl ?_; refine l_neu (n_move rfl rfl) rfl ?_; refine l_neu (n_load_ref rfl rfl rfl) rfl ?_; refine l_neu (n_build rfl) rfl ?_; refine l_neu (n_buildSlice (c := mergedC) (ys := [⟨v, bit⟩]) (asm_cons rfl rfl rfl rfl asm_nil) rfl rfl rfl) rfl ?_; refine l_effv (e_append rfl rfl rfl (.pure _ _ _ _) (by (simp only [List.length_append, List.length_cons, List.length_nil]; omega)) rfl) rfl ?_; refine l_eff (e_store_ref TySz.out rfl rfl rfl rfl rfl rfl) ?_; refine l_nil ?_
    refine k4 ?_; refine k1 ?_
    refine c_region ?_; refine l_neu (n_add rfl rfl (by omega)) rfl ?_; refine l_neu (n_move rfl rfl) rfl ?_; refine l_nil ?_
    refine k1 ?_
    refine ⟨t + 1, by omega, by omega, ?_⟩
    rw [hst, ← List.append_assoc]
    exact Sees.of ⟨le1 rfl, le1 rfl, le1 rfl, le1 rfl, le1 rfl, le1 rfl, le1 rfl, le1 rfl, le1 rfl, le1 rfl, le1 rfl, le1 rfl, trivial⟩ ⟨rfl, rfl, rfl, rfl, rfl, trivial⟩
  have htD : t = D := by have := of_decide_eq_false ht; omega
  have hcsl : cs.length ≤ 4097 := by rw [hcs]; have := madeGo_length (walkGo 0 0 (linesM l) list) 0 0 (linesM l).length list.length; have := walkGo_length 0 0 (linesM l) list; unfold walkOf madeOf; omega
  rw [htD]
  refine k6 ?_; refine k7 ?_; refine k7 ?_; refine k8 rfl ?_; refine k4 ?_; refine k1 ?_
  refine c_region ?_; refine l_neu (n_add rfl rfl (by omega)) rfl ?_; refine l_neu (n_move rfl rfl) rfl ?_; refine l_nil ?_
  refine k1 ?_
  have hnl2 := newM_length list bit C D
  exact ⟨(i + 1, A + B, C + D, o2' ++ newM list bit C D), ⟨by dsimp only; omega, by dsimp only; exact hok, by dsimp only; rw [List.length_append]; omega, by dsimp only; rw [List.append_assoc]; exact hp⟩, by dsimp only; omega, Sees.of ⟨le1 rfl, le1 rfl, le1 rfl, le1 rfl, le1 rfl, le1 rfl, le1 rfl, le1 rfl, le1 rfl, trivial⟩ ⟨rfl, rfl, rfl, rfl, rfl, trivial⟩⟩
end Go.Proofs.YtbiadkkamhpdnaaGreatDoor
namespace Go.Proofs.YtbiadkkamhpdnaaGreatDoor
open Go Go.AL
set_option maxRecDepth 100000
end Go.Proofs.YtbiadkkamhpdnaaGreatDoor
