/- Walks of the program's functions. -/
import Derived.Test.YtjjidificdmnmaaDoorFb
import Derived.Test.YtjjidificdmnmaaDoorFs
namespace Go.Proofs.YtjjidificdmnmaaDoor
open Go Go.AL
set_option maxRecDepth 100000
end Go.Proofs.YtjjidificdmnmaaDoor
namespace Go.Proofs.YtjjidificdmnmaaDoor
open Go Go.AL
set_option maxRecDepth 100000
end Go.Proofs.YtjjidificdmnmaaDoor
namespace Go.Proofs.YtjjidificdmnmaaDoor
open Go Go.AL
set_option maxRecDepth 100000
end Go.Proofs.YtjjidificdmnmaaDoor
namespace Go.Proofs.YtjjidificdmnmaaDoor
open Go Go.AL
set_option maxRecDepth 100000
end Go.Proofs.YtjjidificdmnmaaDoor
namespace Go.Proofs.YtjjidificdmnmaaDoor
open Go Go.AL
set_option maxRecDepth 100000
set_option maxHeartbeats 1000000
end Go.Proofs.YtjjidificdmnmaaDoor
namespace Go.Proofs.YtjjidificdmnmaaDoor
open Go Go.AL
set_option maxRecDepth 100000
set_option maxHeartbeats 1000000
end Go.Proofs.YtjjidificdmnmaaDoor
namespace Go.Proofs.YtjjidificdmnmaaDoor
open Go Go.AL
set_option maxRecDepth 100000
theorem check12_names {p : Patch} (h1 : check12 p = 0) : nameOk p.OldName = true ∧ nameOk p.NewName = true := by
  have h : ¬ (nameOk p.OldName = false ∨ nameOk p.NewName = false) := fun q => by
    unfold check12 at h1; rw [if_pos q] at h1; exact absurd h1 (by decide)
  exact ⟨by cases q : nameOk p.OldName <;> simp [q] at h ⊢, by cases q : nameOk p.NewName <;> simp [q] at h ⊢⟩
theorem uformat_ok (p : Patch) (hp : szP p.Hunks ≤ 268435456) : FnOk Tryd.prog 17 [pPatch p] (fun rs => rs = [pStr (if check12 p ≠ 0 then [] else writeOf p), pInt (check12 p)]) := by
  refine FnOk.intro Tryd.func17 (by decide) rfl rfl rfl rfl ?_
  refine k2 ?_
  refine c_region ?_; refine l_effv (f_box 1 rfl rfl rfl) rfl ?_; refine l_neu (n_assign rfl rfl) rfl ?_; refine l_neu (n_assign rfl rfl) rfl ?_; refine l_nil ?_
  refine k1 ?_; refine k2 ?_; refine k2 ?_
  refine c_region ?_; refine l_neu (n_loads_ref rfl rfl rfl) rfl ?_; refine l_call (ucheck_ok p hp) rfl rfl rfl ?_; rintro _ rfl; refine l_neu (n_assign rfl rfl) rfl ?_; refine l_nil ?_
  refine k1 ?_; refine k2 ?_
  refine c_region ?_; refine l_neu (n_move rfl rfl) rfl ?_; refine l_neu (n_neq rfl rfl) rfl ?_; refine l_nil ?_
  refine k1 ?_
  refine c_cond rfl (fun ht => ?_) (fun ht => ?_)
  · have h1 : check12 p ≠ 0 := of_decide_eq_true ht
    rw [if_pos h1]
    refine k2 ?_
    refine c_region ?_; refine l_neu (n_move rfl rfl) rfl ?_; refine l_neu (n_assign rfl rfl) rfl ?_; refine l_neu (n_assign rfl rfl) rfl ?_; refine l_nil ?_
    refine k1 ?_; refine k10 ?_; refine k11 ?_
    exact ret_ret (ret2 rfl rfl rfl rfl rfl) rfl
  · have h1 : ¬ check12 p ≠ 0 := of_decide_eq_false ht
    have hr := goodOf_range (check12_good h1)
    obtain ⟨hn1, hn2⟩ := check12_names (Decidable.not_not.1 h1)
    have hn3 := of_decide_eq_true hn1
    have hn4 := of_decide_eq_true hn2
    have hpf : PFit p := ⟨by omega, by omega, hp⟩
    rw [if_neg h1, Decidable.not_not.1 h1]
    refine k5 ?_; refine k1 ?_; refine k2 ?_
    refine c_region ?_; refine l_neu (n_loads_ref rfl rfl rfl) rfl ?_; refine l_call (uwritten_ok p hpf (fun x hx => by have := hr x hx; omega)) rfl rfl rfl ?_; rintro _ rfl; refine l_neu (n_assign rfl rfl) rfl ?_; refine l_neu (n_assign rfl rfl) rfl ?_; refine l_nil ?_
    refine k1 ?_; refine k10 ?_
    exact ret_ret (ret2 rfl rfl rfl rfl rfl) rfl
end Go.Proofs.YtjjidificdmnmaaDoor
namespace Go.Proofs.YtjjidificdmnmaaDoor
open Go Go.AL
set_option maxRecDepth 100000
theorem szP_app (a b : List PatchHunk) : szP (a ++ b) = szP a + szP b := by simp [szP]
theorem szL_app (a b : List PatchLine) : ((a ++ b).map szL).sum = (a.map szL).sum + (b.map szL).sum := by simp
theorem last_split {α : Type} {l : List α} {x : α} (h : l.getLast? = some x) : l = l.dropLast ++ [x] := by
  obtain ⟨ys, hy⟩ := List.getLast?_eq_some_iff.1 h
  rw [hy, List.dropLast_concat]
theorem trimS_len (t : Str) : (trimS t).length ≤ t.length := by
  unfold trimS; split
  · rw [List.length_dropLast]; omega
  · omega
theorem szP_last {hs : List PatchHunk} {h : PatchHunk} (hl : hs.getLast? = some h) : szP hs = szP hs.dropLast + szH h := by
  conv => lhs; rw [last_split hl, szP_app]
  simp [szP]
theorem step_sz {hs hs' : List PatchHunk} {l : Str} (h : stepP hs l = some hs') : szP hs' ≤ szP hs + l.length + 65 := by
  cases l with
  | nil => cases h
  | cons c r =>
    simp only [stepP] at h
    split at h
    · cases hh : headAt (c :: r) with
      | none => rw [hh] at h; cases h
      | some q =>
        obtain ⟨a, m, b, n⟩ := q
        rw [hh] at h
        have h : hs ++ [⟨a, b, []⟩] = hs' := Option.some.inj h
        rw [← h, szP_app]; simp [szP, szH]; omega
    · split at h
      · unfold addLine at h
        cases hl : hs.getLast? with
        | none => rw [hl] at h; cases h
        | some g =>
          rw [hl] at h
          have h : hs.dropLast ++ [⟨g.Old, g.New, g.Lines ++ [⟨c, r ++ [10]⟩]⟩] = hs' := Option.some.inj h
          rw [← h, szP_app, szP_last hl]
          simp [szP, szH, szL]; omega
      · split at h
        · unfold cutLine at h
          cases hl : hs.getLast? with
          | none => rw [hl] at h; cases h
          | some g =>
            rw [hl] at h
            dsimp only at h
            cases hx : g.Lines.getLast? with
            | none => rw [hx] at h; cases h
            | some x =>
              rw [hx] at h
              dsimp only at h
              split at h
              · have h : hs.dropLast ++ [⟨g.Old, g.New, g.Lines.dropLast ++ [⟨x.Kind, trimS x.Text⟩]⟩] = hs' := Option.some.inj h
                have ht := trimS_len x.Text
                have hg : szH g = 64 + ((g.Lines.dropLast.map szL).sum + szL x) := by
                  unfold szH
                  conv => lhs; rw [last_split hx, szL_app]
                  simp
                rw [← h, szP_app, szP_last hl, hg]
                simp [szP, szH, szL]; omega
              · cases h
        · cases h
def wTo60 (R : List Str) (k : Nat) : Nat := ((R.take k).map fun s => s.length + 65).sum
theorem wTo60_succ (R : List Str) (k : Nat) (x : Str) (h : R[k]? = some x) : wTo60 R (k + 1) = wTo60 R k + (x.length + 65) := by
  obtain ⟨hi, rfl⟩ := List.getElem?_eq_some_iff.1 h
  unfold wTo60
  rw [List.take_succ_eq_append_getElem hi, List.map_append, List.sum_append]; simp
theorem wTo60_le (R : List Str) (k : Nat) : wTo60 R k ≤ (R.map fun s => s.length + 65).sum := by
  unfold wTo60
  conv => rhs; rw [← List.take_append_drop k R, List.map_append, List.sum_append]
  omega
def objP (o n : Str) (hs : List PatchHunk) : Obs := match hs.getLast? with
  | some h => (match h.Lines with
    | [] => psShut o n hs
    | _ :: _ => psOpen o n hs h.Old h.New h.Lines)
  | none => psShut o n hs
section
variable {P : Program} {nt : Nat} {fr : Fr} {o n : Str} {hs : List PatchHunk}
theorem shutP {h : PatchHunk} (hf : frFree 732 fr = true) (hl : hs.getLast? = some h) (hne : h.Lines ≠ []) : Sees P nt fr (psOpen o n hs h.Old h.New h.Lines) fr (psShut o n hs) := by
  have h1 := Sees.freezeG (P := P) (nt := nt) (fr := fr) (ob := psOpen o n hs h.Old h.New h.Lines) (k := 732) rfl rfl
  rw [mapS_free hf] at h1
  refine h1.trans ?_
  have hset : hs.set (hs.length - 1) h = hs := by
    have h2 := last_split hl
    have hlen : hs.length - 1 = hs.dropLast.length := by rw [List.length_dropLast]
    conv => lhs; rw [hlen]; arg 1; rw [h2]
    rw [List.set_append_right _ _ (Nat.le_refl _), Nat.sub_self, List.set_cons_zero, ← h2]
  have h3 := Sees.closeA (P := P) (nt := nt) (fr := fr) (ob := Obs.mapO (Ob.freeze 732 PatchLine 2 plineC h.Lines) (Obs.drop 732 (psOpen o n hs h.Old h.New h.Lines))) 731 h rfl (by
    obtain ⟨a, b, ls⟩ := h
    cases ls with
    | nil => exact absurd rfl hne
    | cons x r => rfl)
  rw [hset] at h3
  refine h3.trans (Sees.fewer (ObIn.spec ⟨rfl, rfl, rfl, trivial⟩))
theorem openP {h : PatchHunk} (hf : frFree 732 fr = true) (hl : hs.getLast? = some h) (hne : h.Lines = []) : Sees P nt fr (psShut o n hs) fr (psOpen o n hs h.Old h.New []) := by
  have hv : hs[hs.length - 1]? = some h := by rw [← List.getLast?_eq_getElem?]; exact hl
  refine (Sees.openA 731 (hs.length - 1) (v := h) rfl hv).trans ?_
  have hcells : (cellsOf phunkN h 0 3).map TC.p = [.p (.v (.int .i64 h.Old)), .p (.v (.int .i64 h.New)), .p (.v (.slice none 0 0))] := by
    obtain ⟨a, b, ls⟩ := h
    have hne : ls = [] := hne
    subst hne; rfl
  rw [hcells]
  refine (Sees.adoptA 732 PatchLine 2 plineC 73 (kb := 731) (o := 2) rfl rfl (by rw [hf]; rfl)).trans ?_
  exact Sees.fewer (ObIn.spec ⟨rfl, rfl, rfl, rfl, trivial⟩)
theorem toShut (hf : frFree 732 fr = true) : Sees P nt fr (objP o n hs) fr (psShut o n hs) := by
  unfold objP
  cases hl : hs.getLast? with
  | none => exact Sees.fewer fun _ _ h => h
  | some h =>
    dsimp only
    cases hh : h.Lines with
    | nil => exact Sees.fewer fun _ _ h => h
    | cons x r =>
      dsimp only
      rw [← hh]
      exact shutP hf hl (by rw [hh]; simp)
theorem toOpen {h : PatchHunk} (hf : frFree 732 fr = true) (hl : hs.getLast? = some h) : Sees P nt fr (objP o n hs) fr (psOpen o n hs h.Old h.New h.Lines) := by
  unfold objP
  rw [hl]
  dsimp only
  cases hh : h.Lines with
  | nil => dsimp only; exact openP hf hl hh
  | cons x r => exact Sees.fewer fun _ _ h => h
theorem ofShut {a b : Int} : objP o n (hs ++ [⟨a, b, []⟩]) = psShut o n (hs ++ [⟨a, b, []⟩]) := by unfold objP; simp
theorem ofOpen {h : PatchHunk} {ls : List PatchLine} (hl : hs.getLast? = some h) (hne : ls ≠ []) : Sees P nt fr (psOpen o n hs h.Old h.New ls) fr (objP o n (hs.dropLast ++ [⟨h.Old, h.New, ls⟩])) := by
  have h2 := last_split hl
  have hlen : (hs.dropLast ++ [(⟨h.Old, h.New, ls⟩ : PatchHunk)]).length = hs.length := by
    conv => rhs; rw [h2]
    simp
  have hO : objP o n (hs.dropLast ++ [⟨h.Old, h.New, ls⟩]) = psOpen o n (hs.dropLast ++ [⟨h.Old, h.New, ls⟩]) h.Old h.New ls := by
    unfold objP
    cases ls with
    | nil => exact absurd rfl hne
    | cons x r => simp
  rw [hO]
  have h3 := Sees.reA (P := P) (nt := nt) (fr := fr) (ob := psOpen o n hs h.Old h.New ls) 731 (hs.dropLast ++ [⟨h.Old, h.New, ls⟩]) rfl hlen (by
    intro i hi
    have hd : hs.dropLast.length = hs.length - 1 := by rw [List.length_dropLast]
    rcases Nat.lt_or_ge i (hs.length - 1) with h4 | h4
    · rw [List.getElem?_append_left (by omega)]
      conv => rhs; rw [h2]
      rw [List.getElem?_append_left (by omega)]
    · rw [List.getElem?_eq_none (by omega), List.getElem?_eq_none (by omega)])
  rw [show (hs.length - 1) = (hs.dropLast ++ [(⟨h.Old, h.New, ls⟩ : PatchHunk)]).length - 1 by rw [hlen]] at h3
  exact h3.trans (Sees.fewer (ObIn.spec ⟨rfl, rfl, rfl, rfl, trivial⟩))
end
end Go.Proofs.YtjjidificdmnmaaDoor
namespace Go.Proofs.YtjjidificdmnmaaDoor
open Go Go.AL
set_option maxRecDepth 100000
def parseRes (f : List Str → Option Patch) (l : List Str) : List PV := match f l with
  | some p => [pPatch p, pBool true]
  | none => [pPatch patch0, pBool false]
theorem choose_64 : chooseF 64 = .func (.func 51) #[] #[] := rfl
theorem choose_txt {c : UInt8} (h : c = 32 ∨ c = 45 ∨ c = 43) : chooseF c = .func (.func 52) #[] #[] := by rcases h with rfl | rfl | rfl <;> rfl
theorem choose_92 : chooseF 92 = .func (.func 53) #[] #[] := rfl
theorem choose_no {c : UInt8} (h1 : c ≠ 64) (h2 : ¬ (c = 32 ∨ c = 45 ∨ c = 43)) (h3 : c ≠ 92) : chooseF c = .nilFunc := by
  unfold chooseF meths
  have e : ∀ d : UInt8, d ≠ c → decide (d = c) = false := fun d h => decide_eq_false h
  have a1 : (32 : UInt8) ≠ c := fun e => h2 (.inl e.symm)
  have a2 : (45 : UInt8) ≠ c := fun e => h2 (.inr (.inl e.symm))
  have a3 : (43 : UInt8) ≠ c := fun e => h2 (.inr (.inr e.symm))
  simp only [List.find?_cons, e _ (Ne.symm h1), e _ a1, e _ a2, e _ a3, e _ (Ne.symm h3), List.find?_nil]
theorem phunk_cell {x : PatchHunk} (j : Nat) (rd : Rd) (u : Value) (h : (phunkN x j).rep rd u) : (phunkC x j).rep rd u := by
  match j with
  | 0 => exact h
  | 1 => exact h
  | j + 2 =>
    obtain ⟨a, b, ls⟩ := x
    cases ls with
    | nil =>
      have h : (Cell.v (.slice none 0 0)).rep rd u := h
      obtain ⟨rfl, _⟩ := h
      exact rep_nil _ _ _
    | cons y r => exact h
set_option maxHeartbeats 2000000
theorem stparse_ok (l : List Str) (hw : (l.map fun s => s.length + 65).sum ≤ 134217728) (hsz : ∀ s ∈ l, s.length ≤ 4194304) : FnOk Tryd.prog 16 [pStrs l] (fun rs => rs = parseRes parseP l) := by
  have hll : 65 * l.length ≤ (l.map fun s => s.length + 65).sum := by
    clear hw hsz
    induction l with
    | nil => simp
    | cons x r ih => simp only [List.map_cons, List.sum_cons, List.length_cons]; omega
  by_cases hlen : l.length < 2
  · have hp : parseP l = none := by
      match l, hlen with
      | [], _ => rfl
      | [_], _ => rfl
    refine FnOk.intro Tryd.func16 (by decide) rfl rfl rfl rfl ?_
    refine k2 ?_
    refine c_region ?_; refine l_effv (f_alloc 2 rfl) rfl ?_; refine l_neu (n_assign rfl rfl) rfl ?_; refine l_nil ?_
    refine k1 ?_; refine k2 ?_; refine k2 ?_
    refine c_region ?_; refine l_neu (n_move rfl rfl) rfl ?_; refine l_neu (n_len rfl (.pure _ _ _ _)) rfl ?_; refine l_neu (n_lss rfl rfl) rfl ?_; refine l_nil ?_
    refine k1 ?_
    refine c_cond rfl (fun ht => ?_) (fun ht => ?_)
    rotate_left
    · exact absurd (by omega) (of_decide_eq_false ht)
    refine k2 ?_
    refine c_region ?_; refine l_neu (n_build rfl) rfl ?_; refine l_eff (e_store_ref TySz.out rfl rfl rfl rfl rfl rfl) ?_; refine l_neu (n_assign rfl rfl) rfl ?_; refine l_nil ?_
    refine k1 ?_
    refine c_sees (Sees.listB PatchHunk 3 phunkC 2 2 rfl rfl) ?_
    refine k10 ?_; refine k11 ?_
    exact ret_ret (rs := [pPatch patch0, pBool false]) (retc2 rfl rfl rfl rfl rfl rfl rfl) (by unfold parseRes; rw [hp])
  obtain ⟨l0, l1, R, rfl⟩ : ∃ a b r, l = a :: b :: r := by
    match l, hlen with
    | a :: b :: r, _ => exact ⟨a, b, r, rfl⟩
    | [], h => exact absurd (by simp) h
    | [_], h => exact absurd (by simp) h
  have z0 := hsz l0 (by simp)
  have z1 := hsz l1 (by simp)
  have hWR : (R.map fun s => s.length + 65).sum ≤ 134217728 := by simp only [List.map_cons, List.sum_cons] at hw; omega
  have hRl : R.length ≤ 134217728 := by simp only [List.length_cons] at hll; omega
  clear hw hll
  refine FnOk.intro Tryd.func16 (by decide) rfl rfl rfl rfl ?_
  refine k2 ?_
  refine c_region ?_; refine l_effv (f_alloc 2 rfl) rfl ?_; refine l_neu (n_assign rfl rfl) rfl ?_; refine l_nil ?_
  refine k1 ?_; refine k2 ?_; refine k2 ?_
  refine c_region ?_; refine l_neu (n_move rfl rfl) rfl ?_; refine l_neu (n_len rfl (.pure _ _ _ _)) rfl ?_; refine l_neu (n_lss rfl rfl) rfl ?_; refine l_nil ?_
  refine k1 ?_
  refine c_cond rfl (fun ht => ?_) (fun ht => ?_)
  · exact absurd (of_decide_eq_true ht) (by simp only [List.length_cons]; omega)
  refine k5 ?_; refine k1 ?_; refine k2 ?_
  refine c_region ?_; refine l_neu (n_build rfl) rfl ?_; refine l_effv (f_box 730 rfl rfl rfl) rfl ?_; refine l_neu (n_assign rfl rfl) rfl ?_; refine l_nil ?_
  refine k1 ?_; refine k2 ?_
  refine c_region ?_; refine l_neu (n_assign rfl rfl) rfl ?_; refine l_neu (n_assign rfl rfl) rfl ?_; refine l_nil ?_
  refine k1 ?_; refine k2 ?_
  refine c_region ?_; refine l_neu (n_move rfl rfl) rfl ?_; refine l_neu (n_move rfl rfl) rfl ?_; refine l_neu (n_indexAddr rfl (.pure _ _ _ _) rfl (by omega) (show (l0 :: l1 :: R)[(0 : Int).toNat]? = some l0 from rfl)) rfl ?_; refine l_neu (n_load_eref rfl rfl) rfl ?_; refine l_call (stname_ok l0 [45, 45, 45, 32] (by omega)) rfl rfl rfl ?_; rintro _ ⟨w0, b0, rfl, h0⟩; refine l_neu (n_move rfl rfl) rfl ?_; refine l_neu (n_extract rfl rfl) rfl ?_; refine l_neu (n_extract rfl rfl) rfl ?_; refine l_neu (n_nilCheck_ref rfl) rfl ?_; refine l_neu (n_field_ref rfl) rfl ?_; refine l_neu (n_field_ref rfl) rfl ?_; refine l_eff (e_store_ref TySz.out rfl rfl rfl rfl rfl rfl) ?_; refine l_neu (n_assign rfl rfl) rfl ?_; refine l_nil ?_
  refine k1 ?_; refine k2 ?_
  refine c_region ?_; refine l_neu (n_move rfl rfl) rfl ?_; refine l_neu (n_move rfl rfl) rfl ?_; refine l_neu (n_indexAddr rfl (.pure _ _ _ _) rfl (by omega) (show (l0 :: l1 :: R)[(1 : Int).toNat]? = some l1 from rfl)) rfl ?_; refine l_neu (n_load_eref rfl rfl) rfl ?_; refine l_call (stname_ok l1 [43, 43, 43, 32] (by omega)) rfl rfl rfl ?_; rintro _ ⟨w1, b1, rfl, h1⟩; refine l_neu (n_move rfl rfl) rfl ?_; refine l_neu (n_extract rfl rfl) rfl ?_; refine l_neu (n_extract rfl rfl) rfl ?_; refine l_neu (n_nilCheck_ref rfl) rfl ?_; refine l_neu (n_field_ref rfl) rfl ?_; refine l_neu (n_field_ref rfl) rfl ?_; refine l_eff (e_store_ref TySz.out rfl rfl rfl rfl rfl rfl) ?_; refine l_neu (n_assign rfl rfl) rfl ?_; refine l_nil ?_
  refine k1 ?_; refine k2 ?_; refine k2 ?_
  refine c_region ?_; refine l_neu (n_move rfl rfl) rfl ?_; refine l_neu (n_not rfl) rfl ?_; refine l_neu (n_move rfl rfl) rfl ?_; refine l_guard rfl rfl rfl rfl (fun hg => by rw [hg]; exact n_move rfl rfl) ?_; refine l_guard rfl rfl rfl rfl (fun hg => by rw [hg]; exact n_not rfl) ?_; refine l_neu (n_pick_bool rfl (fun h => by first | rfl | (rw [h]; rfl)) (fun h => by first | rfl | (rw [h]; rfl))) rfl ?_; refine l_nil ?_
  refine k1 ?_
  have hfail : nameAt l0 [45, 45, 45, 32] = none ∨ nameAt l1 [43, 43, 43, 32] = none → parseP (l0 :: l1 :: R) = none := by
    intro h
    unfold parseP
    rcases h with h | h
    · simp only [h]
    · simp only [h]
      cases nameAt l0 [45, 45, 45, 32] <;> rfl
  by_cases hnm : nameAt l0 [45, 45, 45, 32] = none ∨ nameAt l1 [43, 43, 43, 32] = none
  · refine c_cond rfl (fun ht => ?_) (fun ht => ?_)
    rotate_left
    · exfalso
      rcases hnm with h | h
      · rw [h] at h0; have h0 : b0 = false := h0; rw [h0] at ht; cases ht
      · rw [h] at h1; have h1 : b1 = false := h1; rw [h1] at ht; cases b0 <;> cases ht
    refine k2 ?_
    refine c_region ?_; refine l_neu (n_build rfl) rfl ?_; refine l_eff (e_store_ref TySz.out rfl rfl rfl rfl rfl rfl) ?_; refine l_neu (n_assign rfl rfl) rfl ?_; refine l_nil ?_
    refine k1 ?_
    refine c_sees (Sees.listB PatchHunk 3 phunkC 2 2 rfl rfl) ?_
    refine k10 ?_; refine k11 ?_
    exact ret_ret (rs := [pPatch patch0, pBool false]) (retc2 rfl rfl rfl rfl rfl rfl rfl) (by unfold parseRes; rw [hfail hnm])
  obtain ⟨o, ho⟩ : ∃ o, nameAt l0 [45, 45, 45, 32] = some o := by
    cases h : nameAt l0 [45, 45, 45, 32] with
    | none => exact absurd (.inl h) hnm
    | some o => exact ⟨o, rfl⟩
  obtain ⟨n, hn⟩ : ∃ n, nameAt l1 [43, 43, 43, 32] = some n := by
    cases h : nameAt l1 [43, 43, 43, 32] with
    | none => exact absurd (.inr h) hnm
    | some n => exact ⟨n, rfl⟩
  rw [ho] at h0
  rw [hn] at h1
  obtain ⟨rfl, rfl⟩ := h0
  obtain ⟨rfl, rfl⟩ := h1
  have hPs : ∀ hs, foldP [] R = some hs → [pPatch ⟨w0, w1, hs⟩, pBool true] = parseRes parseP (l0 :: l1 :: R) := by
    intro hs h
    have : parseP (l0 :: l1 :: R) = some ⟨w0, w1, hs⟩ := by unfold parseP; simp only [ho, hn, h]
    unfold parseRes; rw [this]
  have hnone : foldP [] R = none → [pPatch patch0, pBool false] = parseRes parseP (l0 :: l1 :: R) := by
    intro h
    have : parseP (l0 :: l1 :: R) = none := by unfold parseP; simp only [ho, hn, h]
    unfold parseRes; rw [this]
  refine c_cond rfl (fun ht => ?_) (fun ht => ?_)
  · cases ht
  refine k5 ?_; refine k1 ?_; refine k2 ?_; refine k2 ?_
  refine c_region ?_; refine l_neu (n_move rfl rfl) rfl ?_; refine l_neu (n_slice_l rfl (.pure _ _ _ _) rfl (by (first | omega | (simp only [List.length_cons]; omega))) (by (first | omega | (simp only [List.length_cons]; omega)))) rfl ?_; refine l_neu (n_len rfl (.pure _ _ _ _)) rfl ?_; refine l_neu (n_move rfl rfl) rfl ?_; refine l_nil ?_
  refine k1 ?_; refine k3 ?_
  refine c_sees (Sees.adoptBG 731 PatchHunk 3 phunkN 69 (kb := 730) (o := 2) rfl rfl rfl) ?_
  refine c_while (X := Nat × List PatchHunk) (fun x => ([(4, .s (.one (.ref 730 0))), (2, .s (.one (.ref 2 0))), (46, sList Str 1 strC R), (47, sInt R.length), (48, sInt x.1)], objP w0 w1 x.2)) (fun x => x.1 ≤ R.length ∧ szP x.2 ≤ wTo60 R x.1 ∧ foldP x.2 (R.drop x.1) = foldP [] R) (fun x => R.length - x.1) (0, []) ⟨Nat.zero_le _, by simp [szP], rfl⟩ (Sees.of ⟨le1 rfl, le1 rfl, le1 rfl, le1 rfl, le1 rfl, trivial⟩ ⟨rfl, rfl, rfl, trivial⟩) ?_
  rintro ⟨k, hs⟩ ⟨hk, hz, hf⟩
  dsimp only at hk hz hf ⊢
  have hzb := wTo60_le R k
  have hzb2 : szP hs ≤ 134217728 := by omega
  have hsl := szP_len hs
  refine k2 ?_
  refine c_region ?_; refine l_neu (n_lss rfl rfl) rfl ?_; refine l_nil ?_
  refine k1 ?_; refine k2 ?_
  refine c_cond rfl (fun ht => ?_) (fun ht => ?_)
  · have hlt : k < R.length := by have := of_decide_eq_true ht; omega
    obtain ⟨x, hx⟩ : ∃ x, x = R[k] := ⟨_, rfl⟩
    have hv : R[k]? = some x := by rw [hx]; simp [hlt]
    have hxz := hsz x (by simp [List.mem_of_getElem? hv])
    have hwk := wTo60_succ R k x hv
    rw [List.drop_eq_getElem_cons hlt, ← hx, foldP] at hf
    refine k5 ?_; refine k1 ?_; refine k2 ?_; refine k3 ?_; refine k2 ?_
    refine c_region ?_; refine l_neu (n_indexAddr rfl (.pure _ _ _ _) rfl (by omega) hv) rfl ?_; refine l_neu (n_load_eref rfl rfl) rfl ?_; refine l_neu (n_assign rfl rfl) rfl ?_; refine l_nil ?_
    refine k1 ?_; refine k2 ?_; refine k2 ?_
    refine c_region ?_; refine l_neu (n_move rfl rfl) rfl ?_; refine l_neu (n_eql_s rfl rfl) rfl ?_; refine l_nil ?_
    refine k1 ?_
    refine c_cond rfl (fun ht => ?_) (fun ht => ?_)
    · have h0 : x = [] := of_decide_eq_true ht
      subst h0
      have hf : none = foldP [] R := hf
      refine k2 ?_
      refine c_sees (toShut rfl) ?_
      refine c_region ?_; refine l_neu (n_build rfl) rfl ?_; refine l_eff (e_store_ref TySz.out rfl rfl rfl rfl rfl rfl) ?_; refine l_neu (n_assign rfl rfl) rfl ?_; refine l_nil ?_
      refine k1 ?_
      refine c_sees (Sees.listB PatchHunk 3 phunkC 2 2 rfl rfl) ?_
      refine k10 ?_; refine k11 ?_; refine k12 ?_; refine k11 ?_; refine k11 ?_; refine k12 ?_; refine k11 ?_
      exact ret_ret (rs := [pPatch patch0, pBool false]) (retc2 rfl rfl rfl rfl rfl rfl rfl) (hnone hf.symm)
    have hne : x ≠ [] := of_decide_eq_false ht
    obtain ⟨c, r, rfl⟩ : ∃ c r, x = c :: r := by
      cases x with
      | nil => exact absurd rfl hne
      | cons c r => exact ⟨c, r, rfl⟩
    simp only [List.length_cons] at hxz hwk
    refine k5 ?_; refine k1 ?_; refine k2 ?_
    refine c_region ?_; refine l_neu (n_move rfl rfl) rfl ?_; refine l_neu (n_index_s rfl rfl (by omega) (show (c :: r)[(0 : Int).toNat]? = some c from rfl)) rfl ?_; refine l_call (choose_ok c) rfl rfl rfl ?_; rintro _ rfl; refine l_neu (n_assign rfl rfl) rfl ?_; refine l_nil ?_
    refine k1 ?_; refine k2 ?_
    by_cases c64 : c = 64
    · subst c64
      rw [choose_64]
      have hm := fun gf => header_met (gf := gf) w0 w1 hs (64 :: r) (by omega) (by simp only [List.length_cons]; omega)
      have hst : stepP hs (64 :: r) = match headAt (64 :: r) with | none => none | some (a, _, b, _) => some (hs ++ [⟨a, b, []⟩]) := rfl
      refine c_sees (toShut rfl) ?_
      cases hh : headAt (64 :: r) with
      | none =>
        rw [hh] at hm hst
        rw [hst] at hf
        have hf : none = foldP [] R := hf
        refine c_region ?_; refine l_neu (n_move rfl rfl) rfl ?_; refine l_neu (n_eql_fn1 rfl (by kernel_rfl)) rfl ?_; refine l_neu (n_move rfl rfl) rfl ?_; refine l_run rfl rfl rfl rfl ?_; refine l_neu (n_move rfl rfl) rfl ?_; refine l_run rfl rfl rfl rfl ?_; refine l_neu (n_move rfl rfl) rfl ?_; refine l_run rfl rfl rfl rfl ?_; refine l_neu (n_move rfl rfl) rfl ?_; refine l_run rfl rfl rfl rfl ?_; refine l_sees ((Sees.trans (clo_of_val (t := 61) rfl) (Sees.of (ob' := psShut w0 w1 hs) (fr' := [(60, sBool false), (61, .s (.one (.clo 51 [] []))), (62, .s (.one (.ref 730 0))), (63, sStr (64 :: r)), (4, .s (.one (.ref 730 0))), (2, .s (.one (.ref 2 0))), (46, sList Str 1 strC R), (47, sInt R.length), (48, sInt k)]) ⟨le1 rfl, le1 rfl, le1 rfl, le1 rfl, le1 rfl, le1 rfl, le1 rfl, le1 rfl, le1 rfl, trivial⟩ ⟨rfl, rfl, rfl, trivial⟩))) ?_; refine l_metF (hm _) rfl rfl rfl rfl ?_; rintro _ _ ⟨rfl, rfl⟩; refine l_run rfl rfl rfl rfl ?_; refine l_neu (n_not rfl) rfl ?_; refine l_neu (n_pick_f rfl (rfl) rfl) rfl ?_; refine l_nil ?_
        refine k1 ?_
        refine c_cond rfl (fun ht => ?_) (fun ht => ?_)
        · refine k2 ?_
          refine c_region ?_; refine l_neu (n_build rfl) rfl ?_; refine l_eff (e_store_ref TySz.out rfl rfl rfl rfl rfl rfl) ?_; refine l_neu (n_assign rfl rfl) rfl ?_; refine l_nil ?_
          refine k1 ?_
          refine c_sees (Sees.listB PatchHunk 3 phunkC 2 2 rfl rfl) ?_
          refine k10 ?_; refine k12 ?_; refine k11 ?_; refine k11 ?_; refine k12 ?_; refine k11 ?_
          exact ret_ret (rs := [pPatch patch0, pBool false]) (retc2 rfl rfl rfl rfl rfl rfl rfl) (hnone hf.symm)
        · cases ht
      | some q =>
        obtain ⟨a, m, b, e⟩ := q
        rw [hh] at hm hst
        rw [hst] at hf
        have hf : foldP (hs ++ [⟨a, b, []⟩]) (R.drop (k + 1)) = foldP [] R := hf
        have hsz2 := step_sz (hs := hs) (hs' := hs ++ [⟨a, b, []⟩]) (l := 64 :: r) hst
        simp only [List.length_cons] at hsz2
        refine c_region ?_; refine l_neu (n_move rfl rfl) rfl ?_; refine l_neu (n_eql_fn1 rfl (by kernel_rfl)) rfl ?_; refine l_neu (n_move rfl rfl) rfl ?_; refine l_run rfl rfl rfl rfl ?_; refine l_neu (n_move rfl rfl) rfl ?_; refine l_run rfl rfl rfl rfl ?_; refine l_neu (n_move rfl rfl) rfl ?_; refine l_run rfl rfl rfl rfl ?_; refine l_neu (n_move rfl rfl) rfl ?_; refine l_run rfl rfl rfl rfl ?_; refine l_sees ((Sees.trans (clo_of_val (t := 61) rfl) (Sees.of (ob' := psShut w0 w1 hs) (fr' := [(60, sBool false), (61, .s (.one (.clo 51 [] []))), (62, .s (.one (.ref 730 0))), (63, sStr (64 :: r)), (4, .s (.one (.ref 730 0))), (2, .s (.one (.ref 2 0))), (46, sList Str 1 strC R), (47, sInt R.length), (48, sInt k)]) ⟨le1 rfl, le1 rfl, le1 rfl, le1 rfl, le1 rfl, le1 rfl, le1 rfl, le1 rfl, le1 rfl, trivial⟩ ⟨rfl, rfl, rfl, trivial⟩))) ?_; refine l_metF (hm _) rfl rfl rfl rfl ?_; rintro _ _ ⟨rfl, rfl⟩; refine l_run rfl rfl rfl rfl ?_; refine l_neu (n_not rfl) rfl ?_; refine l_neu (n_pick_f rfl (rfl) rfl) rfl ?_; refine l_nil ?_
        refine k1 ?_
        refine c_cond rfl (fun ht => ?_) (fun ht => ?_)
        · cases ht
        refine k5 ?_; refine k4 ?_; refine k1 ?_
        refine c_region ?_; refine l_neu (n_add rfl rfl (by omega)) rfl ?_; refine l_neu (n_move rfl rfl) rfl ?_; refine l_nil ?_
        refine k1 ?_
        refine ⟨(k + 1, hs ++ [⟨a, b, []⟩]), ⟨hlt, by dsimp only; omega, hf⟩, by dsimp only; omega, ?_⟩
        dsimp only
        rw [ofShut]
        exact Sees.of ⟨le1 rfl, le1 rfl, le1 rfl, le1 rfl, le1 rfl, trivial⟩ ⟨rfl, rfl, rfl, trivial⟩
    have hst64 : ∀ hs', stepP hs (c :: r) = hs' ↔ (if c = 32 ∨ c = 45 ∨ c = 43 then addLine hs ⟨c, r ++ [10]⟩ else if c = 92 then cutLine hs (c :: r) else none) = hs' := by
      intro hs'
      simp only [stepP]
      rw [if_neg c64]
    by_cases ctx : c = 32 ∨ c = 45 ∨ c = 43
    · rw [choose_txt ctx]
      simp only [if_pos ctx] at hst64
      cases hl : hs.getLast? with
      | none =>
        have hn0 : hs = [] := List.getLast?_eq_none_iff.1 hl
        subst hn0
        have hst := (hst64 none).2 rfl
        rw [hst] at hf
        have hf : none = foldP [] R := hf
        refine c_sees (toShut rfl) ?_
        refine c_region ?_; refine l_neu (n_move rfl rfl) rfl ?_; refine l_neu (n_eql_fn1 rfl (by kernel_rfl)) rfl ?_; refine l_neu (n_move rfl rfl) rfl ?_; refine l_run rfl rfl rfl rfl ?_; refine l_neu (n_move rfl rfl) rfl ?_; refine l_run rfl rfl rfl rfl ?_; refine l_neu (n_move rfl rfl) rfl ?_; refine l_run rfl rfl rfl rfl ?_; refine l_neu (n_move rfl rfl) rfl ?_; refine l_run rfl rfl rfl rfl ?_; refine l_sees ((Sees.trans (clo_of_val (t := 61) rfl) (Sees.of (ob' := psShut w0 w1 []) (fr' := [(60, sBool false), (61, .s (.one (.clo 52 [] []))), (62, .s (.one (.ref 730 0))), (63, sStr (c :: r)), (4, .s (.one (.ref 730 0))), (2, .s (.one (.ref 2 0))), (46, sList Str 1 strC R), (47, sInt R.length), (48, sInt k)]) ⟨le1 rfl, le1 rfl, le1 rfl, le1 rfl, le1 rfl, le1 rfl, le1 rfl, le1 rfl, le1 rfl, trivial⟩ ⟨rfl, rfl, rfl, trivial⟩))) ?_; refine l_metF (content_shut w0 w1 (c :: r)) rfl rfl rfl rfl ?_; rintro _ _ ⟨rfl, rfl⟩; refine l_run rfl rfl rfl rfl ?_; refine l_neu (n_not rfl) rfl ?_; refine l_neu (n_pick_f rfl (rfl) rfl) rfl ?_; refine l_nil ?_
        refine k1 ?_
        refine c_cond rfl (fun ht => ?_) (fun ht => ?_)
        · refine k2 ?_
          refine c_region ?_; refine l_neu (n_build rfl) rfl ?_; refine l_eff (e_store_ref TySz.out rfl rfl rfl rfl rfl rfl) ?_; refine l_neu (n_assign rfl rfl) rfl ?_; refine l_nil ?_
          refine k1 ?_
          refine c_sees (Sees.listB PatchHunk 3 phunkC 2 2 rfl rfl) ?_
          refine k10 ?_; refine k12 ?_; refine k11 ?_; refine k11 ?_; refine k12 ?_; refine k11 ?_
          exact ret_ret (rs := [pPatch patch0, pBool false]) (retc2 rfl rfl rfl rfl rfl rfl rfl) (hnone hf.symm)
        · cases ht
      | some h =>
        have hst := (hst64 (some (hs.dropLast ++ [⟨h.Old, h.New, h.Lines ++ [⟨c, r ++ [10]⟩]⟩]))).2 (by unfold addLine; rw [hl])
        rw [hst] at hf
        have hf : foldP (hs.dropLast ++ [⟨h.Old, h.New, h.Lines ++ [⟨c, r ++ [10]⟩]⟩]) (R.drop (k + 1)) = foldP [] R := hf
        have hsz2 := step_sz hst
        simp only [List.length_cons] at hsz2
        have hmem := szP_mem (List.mem_of_getLast? hl)
        have hln := szL_len h.Lines
        unfold szH at hmem
        have h0 : 0 < hs.length := List.length_pos_iff.2 (by intro e; rw [e] at hl; cases hl)
        refine c_sees (toOpen rfl hl) ?_
        refine c_region ?_; refine l_neu (n_move rfl rfl) rfl ?_; refine l_neu (n_eql_fn1 rfl (by kernel_rfl)) rfl ?_; refine l_neu (n_move rfl rfl) rfl ?_; refine l_run rfl rfl rfl rfl ?_; refine l_neu (n_move rfl rfl) rfl ?_; refine l_run rfl rfl rfl rfl ?_; refine l_neu (n_move rfl rfl) rfl ?_; refine l_run rfl rfl rfl rfl ?_; refine l_neu (n_move rfl rfl) rfl ?_; refine l_run rfl rfl rfl rfl ?_; refine l_sees ((Sees.trans (clo_of_val (t := 61) rfl) (Sees.of (ob' := psOpen w0 w1 hs h.Old h.New h.Lines) (fr' := [(60, sBool false), (61, .s (.one (.clo 52 [] []))), (62, .s (.one (.ref 730 0))), (63, sStr (c :: r)), (4, .s (.one (.ref 730 0))), (2, .s (.one (.ref 2 0))), (46, sList Str 1 strC R), (47, sInt R.length), (48, sInt k)]) ⟨le1 rfl, le1 rfl, le1 rfl, le1 rfl, le1 rfl, le1 rfl, le1 rfl, le1 rfl, le1 rfl, trivial⟩ ⟨rfl, rfl, rfl, rfl, trivial⟩))) ?_; refine l_metF (content_open 52 R k w0 w1 hs h.Old h.New h.Lines c r h0 (by omega) (by omega) (by omega)) rfl rfl rfl rfl ?_; rintro _ _ ⟨rfl, rfl⟩; refine l_run rfl rfl rfl rfl ?_; refine l_neu (n_not rfl) rfl ?_; refine l_neu (n_pick_f rfl (rfl) rfl) rfl ?_; refine l_nil ?_
        refine k1 ?_
        refine c_cond rfl (fun ht => ?_) (fun ht => ?_)
        · cases ht
        refine k5 ?_; refine k4 ?_; refine k1 ?_
        refine c_region ?_; refine l_neu (n_add rfl rfl (by omega)) rfl ?_; refine l_neu (n_move rfl rfl) rfl ?_; refine l_nil ?_
        refine k1 ?_
        refine ⟨(k + 1, hs.dropLast ++ [⟨h.Old, h.New, h.Lines ++ [⟨c, r ++ [10]⟩]⟩]), ⟨hlt, by dsimp only; omega, hf⟩, by dsimp only; omega, ?_⟩
        refine Sees.trans ?_ (ofOpen hl (by simp))
        exact Sees.of ⟨le1 rfl, le1 rfl, le1 rfl, le1 rfl, le1 rfl, trivial⟩ ⟨rfl, rfl, rfl, rfl, trivial⟩
    simp only [if_neg ctx] at hst64
    by_cases c92 : c = 92
    · subst c92
      rw [choose_92]
      simp only [if_true] at hst64
      cases hl : hs.getLast? with
      | none =>
        have hn0 : hs = [] := List.getLast?_eq_none_iff.1 hl
        subst hn0
        have hst := (hst64 none).2 rfl
        rw [hst] at hf
        have hf : none = foldP [] R := hf
        refine c_sees (toShut rfl) ?_
        refine c_region ?_; refine l_neu (n_move rfl rfl) rfl ?_; refine l_neu (n_eql_fn1 rfl (by kernel_rfl)) rfl ?_; refine l_neu (n_move rfl rfl) rfl ?_; refine l_run rfl rfl rfl rfl ?_; refine l_neu (n_move rfl rfl) rfl ?_; refine l_run rfl rfl rfl rfl ?_; refine l_neu (n_move rfl rfl) rfl ?_; refine l_run rfl rfl rfl rfl ?_; refine l_neu (n_move rfl rfl) rfl ?_; refine l_run rfl rfl rfl rfl ?_; refine l_sees ((Sees.trans (clo_of_val (t := 61) rfl) (Sees.of (ob' := psShut w0 w1 []) (fr' := [(60, sBool false), (61, .s (.one (.clo 53 [] []))), (62, .s (.one (.ref 730 0))), (63, sStr (92 :: r)), (4, .s (.one (.ref 730 0))), (2, .s (.one (.ref 2 0))), (46, sList Str 1 strC R), (47, sInt R.length), (48, sInt k)]) ⟨le1 rfl, le1 rfl, le1 rfl, le1 rfl, le1 rfl, le1 rfl, le1 rfl, le1 rfl, le1 rfl, trivial⟩ ⟨rfl, rfl, rfl, trivial⟩))) ?_; refine l_metF (unended_shut w0 w1 (92 :: r)) rfl rfl rfl rfl ?_; rintro _ _ ⟨rfl, rfl⟩; refine l_run rfl rfl rfl rfl ?_; refine l_neu (n_not rfl) rfl ?_; refine l_neu (n_pick_f rfl (rfl) rfl) rfl ?_; refine l_nil ?_
        refine k1 ?_
        refine c_cond rfl (fun ht => ?_) (fun ht => ?_)
        · refine k2 ?_
          refine c_region ?_; refine l_neu (n_build rfl) rfl ?_; refine l_eff (e_store_ref TySz.out rfl rfl rfl rfl rfl rfl) ?_; refine l_neu (n_assign rfl rfl) rfl ?_; refine l_nil ?_
          refine k1 ?_
          refine c_sees (Sees.listB PatchHunk 3 phunkC 2 2 rfl rfl) ?_
          refine k10 ?_; refine k12 ?_; refine k11 ?_; refine k11 ?_; refine k12 ?_; refine k11 ?_
          exact ret_ret (rs := [pPatch patch0, pBool false]) (retc2 rfl rfl rfl rfl rfl rfl rfl) (hnone hf.symm)
        · cases ht
      | some h =>
        have hmem := szP_mem (List.mem_of_getLast? hl)
        have hln := szL_len h.Lines
        unfold szH at hmem
        have h0 : 0 < hs.length := List.length_pos_iff.2 (by intro e; rw [e] at hl; cases hl)
        have hm := fun gf => unended_open (gf := gf) w0 w1 hs h.Old h.New h.Lines (92 :: r) h0 (by omega) (by omega) (fun y hy => by have := szL_mem hy; omega)
        refine c_sees (toOpen rfl hl) ?_
        by_cases hx2 : ∃ y, h.Lines.getLast? = some y ∧ (92 :: r) = noNl
        · obtain ⟨y, hy, hno⟩ := hx2
          have hst := (hst64 (some (hs.dropLast ++ [⟨h.Old, h.New, h.Lines.dropLast ++ [⟨y.Kind, trimS y.Text⟩]⟩]))).2 (by unfold cutLine; rw [hl]; dsimp only; rw [hy]; dsimp only; rw [if_pos hno])
          rw [hst] at hf
          have hf : foldP (hs.dropLast ++ [⟨h.Old, h.New, h.Lines.dropLast ++ [⟨y.Kind, trimS y.Text⟩]⟩]) (R.drop (k + 1)) = foldP [] R := hf
          have hsz2 := step_sz hst
          simp only [List.length_cons] at hsz2
          have hm2 := fun gf => (hm gf).mono (post' := fun rs ob' => rs = [tBo true] ∧ ob' = psOpen w0 w1 hs h.Old h.New (h.Lines.dropLast ++ [⟨y.Kind, trimS y.Text⟩])) (fun rs ob' hh => by rw [hy] at hh; dsimp only at hh; rw [if_pos hno] at hh; exact hh)
          refine c_region ?_; refine l_neu (n_move rfl rfl) rfl ?_; refine l_neu (n_eql_fn1 rfl (by kernel_rfl)) rfl ?_; refine l_neu (n_move rfl rfl) rfl ?_; refine l_run rfl rfl rfl rfl ?_; refine l_neu (n_move rfl rfl) rfl ?_; refine l_run rfl rfl rfl rfl ?_; refine l_neu (n_move rfl rfl) rfl ?_; refine l_run rfl rfl rfl rfl ?_; refine l_neu (n_move rfl rfl) rfl ?_; refine l_run rfl rfl rfl rfl ?_; refine l_sees ((Sees.trans (clo_of_val (t := 61) rfl) (Sees.of (ob' := psOpen w0 w1 hs h.Old h.New h.Lines) (fr' := [(60, sBool false), (61, .s (.one (.clo 53 [] []))), (62, .s (.one (.ref 730 0))), (63, sStr (92 :: r)), (4, .s (.one (.ref 730 0))), (2, .s (.one (.ref 2 0))), (46, sList Str 1 strC R), (47, sInt R.length), (48, sInt k)]) ⟨le1 rfl, le1 rfl, le1 rfl, le1 rfl, le1 rfl, le1 rfl, le1 rfl, le1 rfl, le1 rfl, trivial⟩ ⟨rfl, rfl, rfl, rfl, trivial⟩))) ?_; refine l_metF (hm2 _) rfl rfl rfl rfl ?_; rintro _ _ ⟨rfl, rfl⟩; refine l_run rfl rfl rfl rfl ?_; refine l_neu (n_not rfl) rfl ?_; refine l_neu (n_pick_f rfl (rfl) rfl) rfl ?_; refine l_nil ?_
          refine k1 ?_
          refine c_cond rfl (fun ht => ?_) (fun ht => ?_)
          · cases ht
          refine k5 ?_; refine k4 ?_; refine k1 ?_
          refine c_region ?_; refine l_neu (n_add rfl rfl (by omega)) rfl ?_; refine l_neu (n_move rfl rfl) rfl ?_; refine l_nil ?_
          refine k1 ?_
          refine ⟨(k + 1, hs.dropLast ++ [⟨h.Old, h.New, h.Lines.dropLast ++ [⟨y.Kind, trimS y.Text⟩]⟩]), ⟨hlt, by dsimp only; omega, hf⟩, by dsimp only; omega, ?_⟩
          refine Sees.trans ?_ (ofOpen hl (by simp))
          exact Sees.of ⟨le1 rfl, le1 rfl, le1 rfl, le1 rfl, le1 rfl, trivial⟩ ⟨rfl, rfl, rfl, rfl, trivial⟩
        · have hst := (hst64 none).2 (by
            unfold cutLine; rw [hl]; dsimp only
            cases hy : h.Lines.getLast? with
            | none => rfl
            | some y => dsimp only; rw [if_neg (fun e => hx2 ⟨y, hy, e⟩)])
          rw [hst] at hf
          have hf : none = foldP [] R := hf
          have hm2 := fun gf => (hm gf).mono (post' := fun rs ob' => rs = [tBo false] ∧ ob' = [(2, zBox)]) (fun rs ob' hh => by
            cases hy : h.Lines.getLast? with
            | none => rw [hy] at hh; exact hh
            | some y => rw [hy] at hh; dsimp only at hh; rw [if_neg (fun e => hx2 ⟨y, hy, e⟩)] at hh; exact hh)
          refine c_region ?_; refine l_neu (n_move rfl rfl) rfl ?_; refine l_neu (n_eql_fn1 rfl (by kernel_rfl)) rfl ?_; refine l_neu (n_move rfl rfl) rfl ?_; refine l_run rfl rfl rfl rfl ?_; refine l_neu (n_move rfl rfl) rfl ?_; refine l_run rfl rfl rfl rfl ?_; refine l_neu (n_move rfl rfl) rfl ?_; refine l_run rfl rfl rfl rfl ?_; refine l_neu (n_move rfl rfl) rfl ?_; refine l_run rfl rfl rfl rfl ?_; refine l_sees ((Sees.trans (clo_of_val (t := 61) rfl) (Sees.of (ob' := psOpen w0 w1 hs h.Old h.New h.Lines) (fr' := [(60, sBool false), (61, .s (.one (.clo 53 [] []))), (62, .s (.one (.ref 730 0))), (63, sStr (92 :: r)), (4, .s (.one (.ref 730 0))), (2, .s (.one (.ref 2 0))), (46, sList Str 1 strC R), (47, sInt R.length), (48, sInt k)]) ⟨le1 rfl, le1 rfl, le1 rfl, le1 rfl, le1 rfl, le1 rfl, le1 rfl, le1 rfl, le1 rfl, trivial⟩ ⟨rfl, rfl, rfl, rfl, trivial⟩))) ?_; refine l_metF (hm2 _) rfl rfl rfl rfl ?_; rintro _ _ ⟨rfl, rfl⟩; refine l_run rfl rfl rfl rfl ?_; refine l_neu (n_not rfl) rfl ?_; refine l_neu (n_pick_f rfl (rfl) rfl) rfl ?_; refine l_nil ?_
          refine k1 ?_
          refine c_cond rfl (fun ht => ?_) (fun ht => ?_)
          · refine k2 ?_
            refine c_region ?_; refine l_neu (n_build rfl) rfl ?_; refine l_eff (e_store_ref TySz.out rfl rfl rfl rfl rfl rfl) ?_; refine l_neu (n_assign rfl rfl) rfl ?_; refine l_nil ?_
            refine k1 ?_
            refine c_sees (Sees.listB PatchHunk 3 phunkC 2 2 rfl rfl) ?_
            refine k10 ?_; refine k12 ?_; refine k11 ?_; refine k11 ?_; refine k12 ?_; refine k11 ?_
            exact ret_ret (rs := [pPatch patch0, pBool false]) (retc2 rfl rfl rfl rfl rfl rfl rfl) (hnone hf.symm)
          · cases ht
    rw [choose_no c64 ctx c92]
    have hst := (hst64 none).2 (by rw [if_neg c92])
    rw [hst] at hf
    have hf : none = foldP [] R := hf
    refine c_sees (toShut rfl) ?_
    refine c_region ?_; refine l_neu (n_move rfl rfl) rfl ?_; refine l_neu (n_eql_fn0 rfl (by kernel_rfl)) rfl ?_; refine l_neu (n_move rfl rfl) rfl ?_; refine l_skip rfl rfl rfl (by simp) rfl ?_; refine l_skip rfl rfl rfl (by simp) rfl ?_; refine l_skip rfl rfl rfl (by simp) rfl ?_; refine l_skip rfl rfl rfl (by simp) rfl ?_; refine l_skip rfl rfl rfl (by simp) rfl ?_; refine l_neu (n_pick_t rfl (rfl) rfl) rfl ?_; refine l_nil ?_
    refine k1 ?_
    refine c_cond rfl (fun ht => ?_) (fun ht => ?_)
    · refine k2 ?_
      refine c_region ?_; refine l_neu (n_build rfl) rfl ?_; refine l_eff (e_store_ref TySz.out rfl rfl rfl rfl rfl rfl) ?_; refine l_neu (n_assign rfl rfl) rfl ?_; refine l_nil ?_
      refine k1 ?_
      refine c_sees (Sees.listB PatchHunk 3 phunkC 2 2 rfl rfl) ?_
      refine k10 ?_; refine k12 ?_; refine k11 ?_; refine k11 ?_; refine k12 ?_; refine k11 ?_
      exact ret_ret (rs := [pPatch patch0, pBool false]) (retc2 rfl rfl rfl rfl rfl rfl rfl) (hnone hf.symm)
    · cases ht
  · have hk2 : k = R.length := by have := of_decide_eq_false ht; omega
    subst hk2
    rw [List.drop_eq_nil_of_le (Nat.le_refl _)] at hf
    have hf : some hs = foldP [] R := hf
    refine k6 ?_; refine k2 ?_
    refine c_sees (toShut rfl) ?_
    refine c_sees (Sees.recell 731 phunkC rfl (fun x _ j _ rd u => phunk_cell j rd u)) ?_
    refine c_sees (Sees.freezeG (k := 731) rfl rfl) ?_
    refine c_cut [(4, .s (.one (.ref 730 0))), (2, .s (.one (.ref 2 0)))] [(730, .box [.p (.v (.string ⟨w0.toArray⟩)), .p (.v (.string ⟨w1.toArray⟩)), .p (.list PatchHunk 3 phunkC hs)]), (2, zBox)] (Sees.of ⟨le1 rfl, le1 rfl, trivial⟩ ⟨rfl, rfl, trivial⟩) ?_
    refine c_region ?_; refine l_neu (n_move rfl rfl) rfl ?_; refine l_neu (n_nilCheck_ref rfl) rfl ?_; refine l_neu (n_field_ref rfl) rfl ?_; refine l_neu (n_loads_ref rfl rfl rfl) rfl ?_; refine l_eff (e_store_ref TySz.out rfl rfl rfl rfl rfl rfl) ?_; refine l_neu (n_assign rfl rfl) rfl ?_; refine l_nil ?_
    refine k1 ?_; refine k10 ?_
    exact ret_ret (rs := [pPatch ⟨w0, w1, hs⟩, pBool true]) (retc2 rfl rfl rfl rfl rfl rfl rfl) (hPs hs hf.symm)
end Go.Proofs.YtjjidificdmnmaaDoor
namespace Go.Proofs.YtjjidificdmnmaaDoor
open Go Go.AL
set_option maxRecDepth 100000
theorem linesS_sz {s : Str} {l : List Str} (h : linesS s = some l) : (l.map fun t => t.length + 65).sum ≤ 66 * s.length ∧ ∀ t ∈ l, t.length ≤ s.length := by
  unfold linesS at h
  split at h
  · cases h; simp
  · split at h
    · have h : (linesOf s).map List.dropLast = l := Option.some.inj h
      obtain ⟨f1, f2⟩ := lines_flat s
      have hl := linesOf_length s
      have hsum : ∀ L : List Str, ((L.map List.dropLast).map fun t => t.length + 65).sum ≤ L.flatten.length + 65 * L.length := by
        intro L
        induction L with
        | nil => simp
        | cons x r ih =>
          simp only [List.map_cons, List.sum_cons, List.flatten_cons, List.length_append, List.length_cons, List.length_dropLast] at ih ⊢
          omega
      have hs := hsum (linesOf s)
      rw [h] at hs
      have hs2 : (l.map fun (t : Str) => t.length + 65).sum ≤ (linesOf s).flatten.length + 65 * (linesOf s).length := hs
      refine ⟨by omega, fun t ht => ?_⟩
      rw [← h] at ht
      obtain ⟨x, hx, rfl⟩ := List.mem_map.1 ht
      have := (List.sublist_flatten_of_mem hx).length_le
      rw [List.length_dropLast]; omega
    · cases h
theorem fold_sz {R : List Str} : ∀ {hs hs' : List PatchHunk}, foldP hs R = some hs' → szP hs' ≤ szP hs + (R.map fun t => t.length + 65).sum := by
  induction R with
  | nil => intro hs hs' h; cases h; simp
  | cons x r ih =>
    intro hs hs' h
    rw [foldP] at h
    cases hx : stepP hs x with
    | none => rw [hx] at h; cases h
    | some g =>
      rw [hx] at h
      have h1 := step_sz hx
      have h2 := ih h
      simp only [List.map_cons, List.sum_cons]; omega
theorem parseP_sz {l : List Str} {p : Patch} (h : parseP l = some p) : szP p.Hunks ≤ (l.map fun t => t.length + 65).sum := by
  unfold parseP at h
  match l with
  | [] => cases h
  | [_] => cases h
  | a :: b :: r =>
    dsimp only at h
    cases h1 : nameAt a [45, 45, 45, 32] with
    | none => rw [h1] at h; cases h
    | some o =>
      cases h2 : nameAt b [43, 43, 43, 32] with
      | none => rw [h1, h2] at h; cases h
      | some n =>
        rw [h1, h2] at h
        dsimp only at h
        cases h3 : foldP [] r with
        | none => rw [h3] at h; cases h
        | some hs =>
          rw [h3] at h
          have h : (⟨o, n, hs⟩ : Patch) = p := Option.some.inj h
          rw [← h]
          have := fold_sz h3
          simp only [List.map_cons, List.sum_cons]
          have e : szP ([] : List PatchHunk) = 0 := rfl
          first | omega | (dsimp only; omega)
def strictR (f : List Str → Option Patch) (s : Str) : List PV := [pPatch (strictBy f s).1, pInt (strictBy f s).2]
theorem stParse_ok (s : Str) (hs : s.length ≤ 1048576) : FnOk Tryd.prog 7 [pStr s] (fun rs => rs = strictR parseP s) := by
  have h16 : ¬ 16777216 < s.length := by omega
  have hL := stLines_ok s (by omega)
  have hfail : ∀ {x : Patch × Int}, strictBy parseP s = x → x = (patch0, 4) → [pPatch patch0, pInt 4] = strictR parseP s := by
    intro x h1 h2
    unfold strictR; rw [h1, h2]
  refine FnOk.intro Tryd.func7 (by decide) rfl rfl rfl rfl ?_
  refine k2 ?_
  refine c_region ?_; refine l_effv (f_alloc 2 rfl) rfl ?_; refine l_neu (n_assign rfl rfl) rfl ?_; refine l_nil ?_
  refine k1 ?_; refine k2 ?_; refine k2 ?_
  refine c_region ?_; refine l_neu (n_move rfl rfl) rfl ?_; refine l_neu (n_len_s rfl) rfl ?_; refine l_neu (n_gtr rfl rfl) rfl ?_; refine l_nil ?_
  refine k1 ?_
  refine c_cond rfl (fun ht => ?_) (fun ht => ?_)
  · exact absurd (of_decide_eq_true ht) (by omega)
  cases hl : linesS s with
  | none =>
    unfold linesR at hL
    rw [hl] at hL
    refine k5 ?_; refine k1 ?_; refine k2 ?_
    refine c_region ?_; refine l_neu (n_move rfl rfl) rfl ?_; refine l_call (hL) rfl rfl rfl ?_; rintro _ rfl; refine l_neu (n_move rfl rfl) rfl ?_; refine l_neu (n_extract rfl rfl) rfl ?_; refine l_neu (n_extract rfl rfl) rfl ?_; refine l_neu (n_assign rfl rfl) rfl ?_; refine l_neu (n_assign rfl rfl) rfl ?_; refine l_nil ?_
    refine k1 ?_; refine k2 ?_; refine k2 ?_
    refine c_region ?_; refine l_neu (n_move rfl rfl) rfl ?_; refine l_neu (n_not rfl) rfl ?_; refine l_nil ?_
    refine k1 ?_
    refine c_cond rfl (fun ht => ?_) (fun ht => ?_)
    · refine k2 ?_
      refine c_region ?_; refine l_neu (n_build rfl) rfl ?_; refine l_eff (e_store_ref TySz.out rfl rfl rfl rfl rfl rfl) ?_; refine l_neu (n_assign rfl rfl) rfl ?_; refine l_nil ?_
      refine k1 ?_
      refine c_sees (Sees.listB PatchHunk 3 phunkC 2 2 rfl rfl) ?_
      refine k10 ?_; refine k11 ?_
      exact ret_ret (rs := [pPatch patch0, pInt 4]) (retc2 rfl rfl rfl rfl rfl rfl rfl) (hfail rfl (by unfold strictBy; rw [if_neg h16, hl]))
    · cases ht
  | some l =>
    unfold linesR at hL
    rw [hl] at hL
    obtain ⟨z1, z2⟩ := linesS_sz hl
    have hP := stparse_ok l (by omega) (fun t ht => by have := z2 t ht; omega)
    cases hp : parseP l with
    | none =>
      unfold parseRes at hP
      rw [hp] at hP
      refine k5 ?_; refine k1 ?_; refine k2 ?_
      refine c_region ?_; refine l_neu (n_move rfl rfl) rfl ?_; refine l_call (hL) rfl rfl rfl ?_; rintro _ rfl; refine l_neu (n_move rfl rfl) rfl ?_; refine l_neu (n_extract rfl rfl) rfl ?_; refine l_neu (n_extract rfl rfl) rfl ?_; refine l_neu (n_assign rfl rfl) rfl ?_; refine l_neu (n_assign rfl rfl) rfl ?_; refine l_nil ?_
      refine k1 ?_; refine k2 ?_; refine k2 ?_
      refine c_region ?_; refine l_neu (n_move rfl rfl) rfl ?_; refine l_neu (n_not rfl) rfl ?_; refine l_nil ?_
      refine k1 ?_
      refine c_cond rfl (fun ht => ?_) (fun ht => ?_)
      · cases ht
      refine k5 ?_; refine k1 ?_; refine k2 ?_
      refine c_region ?_; refine l_neu (n_move rfl rfl) rfl ?_; refine l_call (hP) rfl rfl rfl ?_; rintro _ rfl; refine l_neu (n_move rfl rfl) rfl ?_; refine l_neu (n_extract rfl rfl) rfl ?_; refine l_neu (n_extract rfl rfl) rfl ?_; refine l_effv (f_alloc 6 rfl) rfl ?_; refine l_eff (e_store_ref TySz.out rfl rfl rfl rfl rfl rfl) ?_; refine l_neu (n_assign rfl rfl) rfl ?_; refine l_nil ?_
      refine k1 ?_; refine k2 ?_; refine k2 ?_
      refine c_region ?_; refine l_neu (n_move rfl rfl) rfl ?_; refine l_neu (n_not rfl) rfl ?_; refine l_nil ?_
      refine k1 ?_
      refine c_cond rfl (fun ht => ?_) (fun ht => ?_)
      · refine k2 ?_
        refine c_region ?_; refine l_neu (n_build rfl) rfl ?_; refine l_eff (e_store_ref TySz.out rfl rfl rfl rfl rfl rfl) ?_; refine l_neu (n_assign rfl rfl) rfl ?_; refine l_nil ?_
        refine k1 ?_
        refine c_sees (Sees.listB PatchHunk 3 phunkC 2 2 rfl rfl) ?_
        refine k10 ?_; refine k11 ?_
        exact ret_ret (rs := [pPatch patch0, pInt 4]) (retc2 rfl rfl rfl rfl rfl rfl rfl) (hfail rfl (by unfold strictBy; rw [if_neg h16, hl]; dsimp only; rw [hp]))
      · cases ht
    | some p =>
      unfold parseRes at hP
      rw [hp] at hP
      have hsz := parseP_sz hp
      have hF := uformat_ok p (by omega)
      have hS : strictBy parseP s = if check12 p ≠ 0 ∨ writeOf p ≠ s then (patch0, 4) else (p, 0) := by unfold strictBy; rw [if_neg h16, hl]; dsimp only; rw [hp]
      obtain ⟨w, hw⟩ : ∃ w, w = if check12 p ≠ 0 then [] else writeOf p := ⟨_, rfl⟩
      rw [← hw] at hF
      refine k5 ?_; refine k1 ?_; refine k2 ?_
      refine c_region ?_; refine l_neu (n_move rfl rfl) rfl ?_; refine l_call (hL) rfl rfl rfl ?_; rintro _ rfl; refine l_neu (n_move rfl rfl) rfl ?_; refine l_neu (n_extract rfl rfl) rfl ?_; refine l_neu (n_extract rfl rfl) rfl ?_; refine l_neu (n_assign rfl rfl) rfl ?_; refine l_neu (n_assign rfl rfl) rfl ?_; refine l_nil ?_
      refine k1 ?_; refine k2 ?_; refine k2 ?_
      refine c_region ?_; refine l_neu (n_move rfl rfl) rfl ?_; refine l_neu (n_not rfl) rfl ?_; refine l_nil ?_
      refine k1 ?_
      refine c_cond rfl (fun ht => ?_) (fun ht => ?_)
      · cases ht
      refine k5 ?_; refine k1 ?_; refine k2 ?_
      refine c_region ?_; refine l_neu (n_move rfl rfl) rfl ?_; refine l_call (hP) rfl rfl rfl ?_; rintro _ rfl; refine l_neu (n_move rfl rfl) rfl ?_; refine l_neu (n_extract rfl rfl) rfl ?_; refine l_neu (n_extract rfl rfl) rfl ?_; refine l_effv (f_alloc 6 rfl) rfl ?_; refine l_eff (e_store_ref TySz.out rfl rfl rfl rfl rfl rfl) ?_; refine l_neu (n_assign rfl rfl) rfl ?_; refine l_nil ?_
      refine k1 ?_; refine k2 ?_; refine k2 ?_
      refine c_region ?_; refine l_neu (n_move rfl rfl) rfl ?_; refine l_neu (n_not rfl) rfl ?_; refine l_nil ?_
      refine k1 ?_
      refine c_cond rfl (fun ht => ?_) (fun ht => ?_)
      · cases ht
      refine k5 ?_; refine k1 ?_; refine k2 ?_; refine k2 ?_
      refine c_region ?_; refine l_neu (n_loads_ref rfl rfl rfl) rfl ?_; refine l_call (hF) rfl rfl rfl ?_; rintro _ rfl; refine l_neu (n_move rfl rfl) rfl ?_; refine l_neu (n_extract rfl rfl) rfl ?_; refine l_neu (n_extract rfl rfl) rfl ?_; refine l_neu (n_assign rfl rfl) rfl ?_; refine l_neu (n_assign rfl rfl) rfl ?_; refine l_nil ?_
      refine k1 ?_; refine k2 ?_
      refine c_region ?_; refine l_neu (n_move rfl rfl) rfl ?_; refine l_neu (n_neq rfl rfl) rfl ?_; refine l_neu (n_move rfl rfl) rfl ?_; refine l_guard rfl rfl rfl rfl (fun hg => by rw [hg]; exact n_move rfl rfl) ?_; refine l_guard rfl rfl rfl rfl (fun hg => by rw [hg]; exact n_move rfl rfl) ?_; refine l_guard rfl rfl rfl rfl (fun hg => by rw [hg]; exact n_neq_s rfl rfl) ?_; refine l_neu (n_pick_bool rfl (fun h => by first | rfl | (rw [h]; rfl)) (fun h => by first | rfl | (rw [h]; rfl))) rfl ?_; refine l_nil ?_
      simp only [or_pick]
      refine k1 ?_
      by_cases hb : check12 p ≠ 0 ∨ writeOf p ≠ s
      · rw [if_pos hb] at hS
        refine c_cond rfl (fun ht => ?_) (fun ht => ?_)
        rotate_left
        · exfalso
          have h1 := of_decide_eq_false ht
          by_cases hc : check12 p = 0
          · rw [if_neg (by simp [hc])] at hw
            rcases hb with h | h
            · exact h hc
            · exact h1 (.inr (by rw [hw]; exact h))
          · exact h1 (.inl hc)
        refine k2 ?_
        refine c_region ?_; refine l_neu (n_build rfl) rfl ?_; refine l_eff (e_store_ref TySz.out rfl rfl rfl rfl rfl rfl) ?_; refine l_neu (n_assign rfl rfl) rfl ?_; refine l_nil ?_
        refine k1 ?_
        refine c_sees (Sees.listB PatchHunk 3 phunkC 2 2 rfl rfl) ?_
        refine k10 ?_; refine k11 ?_
        exact ret_ret (rs := [pPatch patch0, pInt 4]) (retc2 rfl rfl rfl rfl rfl rfl rfl) (hfail hS rfl)
      · rw [if_neg hb] at hS
        have hc : check12 p = 0 := Decidable.not_not.1 fun h => hb (.inl h)
        have hws : writeOf p = s := Decidable.not_not.1 fun h => hb (.inr h)
        rw [if_neg (by simp [hc])] at hw
        refine c_cond rfl (fun ht => ?_) (fun ht => ?_)
        · exfalso
          rcases of_decide_eq_true ht with h | h
          · exact h hc
          · exact h (by rw [hw]; exact hws)
        refine k5 ?_; refine k1 ?_; refine k2 ?_
        refine c_region ?_; refine l_neu (n_loads_ref rfl rfl rfl) rfl ?_; refine l_eff (e_store_ref TySz.out rfl rfl rfl rfl rfl rfl) ?_; refine l_neu (n_assign rfl rfl) rfl ?_; refine l_nil ?_
        refine k1 ?_; refine k10 ?_
        exact ret_ret (rs := [pPatch p, pInt 0]) (retc2 rfl rfl rfl rfl rfl rfl rfl) (by unfold strictR; rw [hS])
end Go.Proofs.YtjjidificdmnmaaDoor
namespace Go.Proofs.YtjjidificdmnmaaDoor
open Go Go.AL
set_option maxRecDepth 100000
set_option maxHeartbeats 1000000
end Go.Proofs.YtjjidificdmnmaaDoor
namespace Go.Proofs.YtjjidificdmnmaaDoor
open Go Go.AL
set_option maxRecDepth 100000
theorem parse_written {p : Patch} (hc : check12 p = 0) (hw : (writeOf p).length ≤ 1048576) : FnOk Tryd.prog 7 [pStr (writeOf p)] (fun rs => rs = [pPatch p, pInt 0]) := by
  have h := stParse_ok (writeOf p) hw
  unfold strictR at h
  rw [strictBy_of (fun p hg => parseP_back hg) hc] at h
  exact h
theorem awake13_ok : FnOk Tryd.prog 8 [] (fun rs => rs = [pBool true]) := by
  have e1 : writeOf ⟨[97], [98], []⟩ = [45, 45, 45, 32, 97, 10, 43, 43, 43, 32, 98, 10] := by decide
  have hp1 := parse_written (p := ⟨[97], [98], []⟩) (by decide) (by rw [e1]; decide)
  rw [e1] at hp1
  have hp2 := stParse_ok [] (by simp)
  have e2 : strictBy parseP [] = (patch0, 4) := rfl
  unfold strictR at hp2
  rw [e2] at hp2
  refine FnOk.intro Tryd.func8 (by decide) rfl rfl rfl rfl ?_
  refine k2 ?_
  refine c_region ?_; refine l_neu (n_assign rfl rfl) rfl ?_; refine l_nil ?_
  refine k1 ?_; refine k2 ?_
  refine c_region ?_; refine l_call (hp1) rfl rfl rfl ?_; rintro _ rfl; refine l_neu (n_move rfl rfl) rfl ?_; refine l_neu (n_extract rfl rfl) rfl ?_; refine l_neu (n_extract rfl rfl) rfl ?_; refine l_effv (f_alloc 1 rfl) rfl ?_; refine l_eff (e_store_ref TySz.out rfl rfl rfl rfl rfl rfl) ?_; refine l_neu (n_assign rfl rfl) rfl ?_; refine l_nil ?_
  refine k1 ?_; refine k2 ?_
  refine c_region ?_; refine l_call (hp2) rfl rfl rfl ?_; rintro _ rfl; refine l_neu (n_move rfl rfl) rfl ?_; refine l_neu (n_extract rfl rfl) rfl ?_; refine l_neu (n_extract rfl rfl) rfl ?_; refine l_effv (f_alloc 3 rfl) rfl ?_; refine l_eff (e_store_ref TySz.out rfl rfl rfl rfl rfl rfl) ?_; refine l_neu (n_assign rfl rfl) rfl ?_; refine l_nil ?_
  refine k1 ?_; refine k2 ?_
  refine c_region ?_; refine l_neu (n_move rfl rfl) rfl ?_; refine l_neu (n_eql rfl rfl) rfl ?_; refine l_neu (n_move rfl rfl) rfl ?_; refine l_guard rfl rfl rfl rfl (fun hg => by rw [hg]; exact n_field_ref rfl) ?_; refine l_guard rfl rfl rfl rfl (fun hg => by rw [hg]; exact n_load_ref rfl rfl rfl) ?_; refine l_guard rfl rfl rfl rfl (fun hg => by rw [hg]; exact n_eql_s rfl rfl) ?_; refine l_neu (n_pick_bool rfl (fun h => by first | rfl | (rw [h]; rfl)) (fun h => by first | rfl | (rw [h]; rfl))) rfl ?_; refine l_neu (n_move rfl rfl) rfl ?_; refine l_guard rfl rfl rfl rfl (fun hg => by rw [hg]; exact n_field_ref rfl) ?_; refine l_guard rfl rfl rfl rfl (fun hg => by rw [hg]; exact n_load_ref rfl rfl rfl) ?_; refine l_guard rfl rfl rfl rfl (fun hg => by rw [hg]; exact n_eql_s rfl rfl) ?_; refine l_neu (n_pick_bool rfl (fun h => by first | rfl | (rw [h]; rfl)) (fun h => by first | rfl | (rw [h]; rfl))) rfl ?_; refine l_neu (n_move rfl rfl) rfl ?_; refine l_guard rfl rfl rfl rfl (fun hg => by rw [hg]; exact n_field_ref rfl) ?_; refine l_guard rfl rfl rfl rfl (fun hg => by rw [hg]; exact n_load_ref rfl rfl rfl) ?_; refine l_guard rfl rfl rfl rfl (fun hg => by rw [hg]; exact n_len rfl (.pure _ _ _ _)) ?_; refine l_guard rfl rfl rfl rfl (fun hg => by rw [hg]; exact n_eql rfl rfl) ?_; refine l_neu (n_pick_bool rfl (fun h => by first | rfl | (rw [h]; rfl)) (fun h => by first | rfl | (rw [h]; rfl))) rfl ?_; refine l_neu (n_move rfl rfl) rfl ?_; refine l_guard rfl rfl rfl rfl (fun hg => by rw [hg]; exact n_move rfl rfl) ?_; refine l_guard rfl rfl rfl rfl (fun hg => by rw [hg]; exact n_eql rfl rfl) ?_; refine l_neu (n_pick_bool rfl (fun h => by first | rfl | (rw [h]; rfl)) (fun h => by first | rfl | (rw [h]; rfl))) rfl ?_; refine l_neu (n_assign rfl rfl) rfl ?_; refine l_nil ?_
  refine k1 ?_; refine k10 ?_
  exact ret_ret (ret1 rfl rfl rfl) rfl
end Go.Proofs.YtjjidificdmnmaaDoor
namespace Go.Proofs.YtjjidificdmnmaaDoor
open Go Go.AL
set_option maxRecDepth 100000
def goodTx (x : Str) : Str := [45, 45, 45, 32, 97, 10, 43, 43, 43, 32, 98, 10, 64, 64, 32, 45, 49, 32, 43, 49, 32, 64, 64, 10, 45] ++ x ++ [10, 43] ++ x ++ [122, 10]
def badTx (x : Str) : List Str := [
  [45, 45, 45, 32, 97, 10, 43, 43, 43, 32, 98, 10, 64, 64, 32, 45, 49, 44, 49, 32, 43, 49, 32, 64, 64, 10, 45] ++ x ++ [10, 43] ++ x ++ [122, 10],
  [45, 45, 45, 32, 97, 10, 43, 43, 43, 32, 98, 10, 64, 64, 32, 45, 48, 49, 32, 43, 49, 32, 64, 64, 10, 45] ++ x ++ [10, 43] ++ x ++ [122, 10],
  [45, 45, 45, 32, 34, 97, 34, 10, 43, 43, 43, 32, 98, 10, 64, 64, 32, 45, 49, 32, 43, 49, 32, 64, 64, 10, 45] ++ x ++ [10, 43] ++ x ++ [122, 10],
  (goodTx x).take (((goodTx x).length : Int) - 1).toNat, goodTx x ++ [10]]
def canonB (x : Str) : Bool := decide ((strictBy parseP (goodTx x)).2 = 0) && decide ((strictBy parseP (goodTx x)).1.Hunks.length = 1) && (badTx x).all fun t => decide ((strictBy parseP t).2 = 4)
theorem canon_all : lineTab.all canonB = true := by kernel_rfl
theorem lineOf_in (k : Int) : lineOf k ∈ lineTab := by
  obtain ⟨h1, h2⟩ := modOf_in k (n := 10) (by omega)
  unfold lineOf
  rw [List.getD_eq_getElem?_getD]
  have h : (modOf k 10).toNat < lineTab.length := by show (modOf k 10).toNat < 10; omega
  rw [List.getElem?_eq_getElem h]
  exact List.getElem_mem h
theorem canon (k : Int) : (strictBy parseP (goodTx (lineOf k))).2 = 0 ∧ (strictBy parseP (goodTx (lineOf k))).1.Hunks.length = 1 ∧ ∀ t ∈ badTx (lineOf k), (strictBy parseP t).2 = 4 ∧ t.length ≤ 1000 := by
  have h := List.all_eq_true.1 canon_all _ (lineOf_in k)
  unfold canonB at h
  simp only [Bool.and_eq_true, decide_eq_true_eq, List.all_eq_true] at h
  refine ⟨h.1.1, h.1.2, fun t ht => ⟨h.2 t ht, ?_⟩⟩
  have hl := lineOf_len k
  have hg : (goodTx (lineOf k)).length ≤ 100 := by unfold goodTx; simp; omega
  unfold badTx at ht
  simp only [List.mem_cons, List.not_mem_nil, or_false] at ht
  rcases ht with rfl | rfl | rfl | rfl | rfl <;> simp only [List.length_append, List.length_cons, List.length_nil, List.length_take] <;> omega
set_option maxHeartbeats 1000000
theorem lawCanonical_ok (raw : List Int) : FnOk Tryd.prog 3 [pInts raw] (fun rs => rs = [pBool true]) := by
  obtain ⟨k, hk⟩ : ∃ k, k = atOf raw 1 := ⟨_, rfl⟩
  obtain ⟨c1, c2, c3⟩ := canon k
  have hl := lineOf_len k
  obtain ⟨x, hx⟩ : ∃ x, x = lineOf k := ⟨_, rfl⟩
  rw [← hx] at c1 c2 c3 hl
  have hgl : (goodTx x).length ≤ 100 := by unfold goodTx; simp; omega
  have hg1 : 20 ≤ (goodTx x).length := by unfold goodTx; simp
  have h1 := stParse_ok (goodTx x) (by omega)
  unfold strictR at h1
  obtain ⟨q, hq⟩ : ∃ q, q = strictBy parseP (goodTx x) := ⟨_, rfl⟩
  rw [← hq] at c1 c2 h1
  rw [c1] at h1
  obtain ⟨L, hL⟩ : ∃ L, L = badTx x := ⟨_, rfl⟩
  have hLl : L.length = 5 := by rw [hL]; rfl
  rw [← hL] at c3
  refine FnOk.intro Tryd.func3 (by decide) rfl rfl rfl rfl ?_
  refine k2 ?_
  refine c_region ?_; refine l_neu (n_assign rfl rfl) rfl ?_; refine l_nil ?_
  refine k1 ?_; refine k2 ?_
  refine c_region ?_; refine l_neu (n_move rfl rfl) rfl ?_; refine l_call (at_ok raw 1 (by omega) (by omega)) rfl rfl rfl ?_; rintro _ rfl; refine l_call (gline_ok _) rfl rfl rfl ?_; rintro _ rfl; refine l_neu (n_assign rfl rfl) rfl ?_; refine l_nil ?_
  rw [← hk, ← hx]
  refine k1 ?_; refine k2 ?_
  refine c_region ?_; refine l_neu (n_move rfl rfl) rfl ?_; refine l_neu (n_add_s rfl rfl (by (simp only [List.length_append, List.length_cons, List.length_nil]; omega))) rfl ?_; refine l_neu (n_add_s rfl rfl (by (simp only [List.length_append, List.length_cons, List.length_nil]; omega))) rfl ?_; refine l_neu (n_move rfl rfl) rfl ?_; refine l_neu (n_add_s rfl rfl (by (simp only [List.length_append, List.length_cons, List.length_nil]; omega))) rfl ?_; refine l_neu (n_add_s rfl rfl (by (simp only [List.length_append, List.length_cons, List.length_nil]; omega))) rfl ?_; refine l_neu (n_assign rfl rfl) rfl ?_; refine l_nil ?_
  refine c_cut [(3, sStr x), (4, sStr (goodTx x))] [] (Sees.of ⟨le1 rfl, le1 rfl, trivial⟩ trivial) ?_
  refine k2 ?_
  refine c_region ?_; refine l_neu (n_move rfl rfl) rfl ?_; refine l_call (h1) rfl rfl rfl ?_; rintro _ rfl; refine l_neu (n_move rfl rfl) rfl ?_; refine l_neu (n_extract rfl rfl) rfl ?_; refine l_neu (n_extract rfl rfl) rfl ?_; refine l_effv (f_alloc 5 rfl) rfl ?_; refine l_eff (e_store_ref TySz.out rfl rfl rfl rfl rfl rfl) ?_; refine l_neu (n_assign rfl rfl) rfl ?_; refine l_nil ?_
  refine k1 ?_; refine k2 ?_
  refine c_region ?_; refine l_neu (n_move rfl rfl) rfl ?_; refine l_neu (n_add_s rfl rfl (by simp; omega)) rfl ?_; refine l_neu (n_add_s rfl rfl (by simp; omega)) rfl ?_; refine l_neu (n_move rfl rfl) rfl ?_; refine l_neu (n_add_s rfl rfl (by simp; omega)) rfl ?_; refine l_neu (n_add_s rfl rfl (by simp; omega)) rfl ?_; refine l_neu (n_move rfl rfl) rfl ?_; refine l_neu (n_add_s rfl rfl (by simp; omega)) rfl ?_; refine l_neu (n_add_s rfl rfl (by simp; omega)) rfl ?_; refine l_neu (n_move rfl rfl) rfl ?_; refine l_neu (n_add_s rfl rfl (by simp; omega)) rfl ?_; refine l_neu (n_add_s rfl rfl (by simp; omega)) rfl ?_; refine l_neu (n_move rfl rfl) rfl ?_; refine l_neu (n_add_s rfl rfl (by simp; omega)) rfl ?_; refine l_neu (n_add_s rfl rfl (by simp; omega)) rfl ?_; refine l_neu (n_move rfl rfl) rfl ?_; refine l_neu (n_add_s rfl rfl (by simp; omega)) rfl ?_; refine l_neu (n_add_s rfl rfl (by simp; omega)) rfl ?_; refine l_neu (n_move rfl rfl) rfl ?_; refine l_neu (n_move rfl rfl) rfl ?_; refine l_neu (n_len_s rfl) rfl ?_; refine l_neu (n_sub rfl rfl (by omega)) rfl ?_; refine l_neu (n_sub_h rfl rfl (by omega) (by omega)) rfl ?_; refine l_neu (n_move rfl rfl) rfl ?_; refine l_neu (n_add_s rfl rfl (by simp; omega)) rfl ?_; refine l_neu (n_buildSlice (c := strC) (ys := [_, _, _, _, _]) (asm_cons rfl rfl rfl rfl (asm_cons rfl rfl rfl rfl (asm_cons rfl rfl rfl rfl (asm_cons rfl rfl rfl rfl (asm_cons rfl rfl rfl rfl asm_nil))))) rfl rfl rfl) rfl ?_; refine l_neu (n_assign rfl rfl) rfl ?_; refine l_nil ?_
  refine k1 ?_; refine k2 ?_; refine k2 ?_
  refine c_region ?_; refine l_neu (n_assign rfl rfl) rfl ?_; refine l_nil ?_
  refine k1 ?_; refine k3 ?_
  refine c_while (X := Nat) (fun i => ([(5, .s (.one (.ref 5 0))), (6, sInt 0), (7, sList Str 1 strC L), (8, sInt i)], [(5, .box (pPatch q.1).s1.cells)])) (fun i => i ≤ 5) (fun i => 5 - i) 0 (by omega) (by rw [hL]; exact Sees.of ⟨le1 rfl, le1 rfl, le1 rfl, le1 rfl, trivial⟩ ⟨rfl, trivial⟩) ?_
  intro i hi
  dsimp only at hi ⊢
  refine k2 ?_; refine k2 ?_
  refine c_region ?_; refine l_neu (n_move rfl rfl) rfl ?_; refine l_neu (n_move rfl rfl) rfl ?_; refine l_neu (n_len rfl (.pure _ _ _ _)) rfl ?_; refine l_neu (n_lss rfl rfl) rfl ?_; refine l_nil ?_
  refine k1 ?_
  refine c_cond rfl (fun ht => ?_) (fun ht => ?_)
  rotate_left
  · refine k6 ?_; refine k2 ?_
    refine c_region ?_; refine l_neu (n_move rfl rfl) rfl ?_; refine l_neu (n_eql rfl rfl) rfl ?_; refine l_neu (n_move rfl rfl) rfl ?_; refine l_guard rfl rfl rfl rfl (fun hg => by rw [hg]; exact n_field_ref rfl) ?_; refine l_guard rfl rfl rfl rfl (fun hg => by rw [hg]; exact n_load_ref rfl rfl rfl) ?_; refine l_guard rfl rfl rfl rfl (fun hg => by rw [hg]; exact n_len rfl (.pure _ _ _ _)) ?_; refine l_guard rfl rfl rfl rfl (fun hg => by rw [hg]; exact n_eql rfl rfl) ?_; refine l_neu (n_pick_bool rfl (fun h => by first | rfl | (rw [h]; rfl)) (fun h => by first | rfl | (rw [h]; rfl))) rfl ?_; refine l_neu (n_move rfl rfl) rfl ?_; refine l_guard rfl rfl rfl rfl (fun hg => by have hq := hg; (try simp at hq); rw [hg]; exact n_call1 (awake13_ok) rfl rfl) ?_; refine l_neu (n_pick_bool rfl (fun h => by first | rfl | (rw [h]; rfl)) (fun h => by first | rfl | (rw [h]; rfl))) rfl ?_; refine l_neu (n_assign rfl rfl) rfl ?_; refine l_nil ?_
    refine k1 ?_; refine k10 ?_
    exact ret_ret (ret1 rfl rfl rfl) (by simp [c2])
  have hi2 : i < L.length := by have := of_decide_eq_true ht; omega
  obtain ⟨t, ht0⟩ : ∃ t, t = L[i] := ⟨_, rfl⟩
  have hv : L[i]? = some t := by rw [ht0]; simp [hi2]
  obtain ⟨d1, d2⟩ := c3 t (List.mem_of_getElem? hv)
  have h2 := stParse_ok t (by omega)
  unfold strictR at h2
  rw [d1] at h2
  refine k5 ?_; refine k1 ?_; refine k2 ?_; refine k3 ?_; refine k2 ?_
  refine c_region ?_; refine l_neu (n_move rfl rfl) rfl ?_; refine l_neu (n_move rfl rfl) rfl ?_; refine l_neu (n_indexAddr rfl (.pure _ _ _ _) rfl (by omega) hv) rfl ?_; refine l_neu (n_load_eref rfl rfl) rfl ?_; refine l_call (h2) rfl rfl rfl ?_; rintro _ rfl; refine l_neu (n_move rfl rfl) rfl ?_; refine l_neu (n_extract rfl rfl) rfl ?_; refine l_neu (n_extract rfl rfl) rfl ?_; refine l_effv (f_alloc 9 rfl) rfl ?_; refine l_eff (e_store_ref TySz.out rfl rfl rfl rfl rfl rfl) ?_; refine l_neu (n_assign rfl rfl) rfl ?_; refine l_nil ?_
  refine k1 ?_; refine k2 ?_
  refine c_region ?_; refine l_neu (n_move rfl rfl) rfl ?_; refine l_neu (n_neq rfl rfl) rfl ?_; refine l_nil ?_
  refine k1 ?_
  refine c_cond rfl (fun ht => ?_) (fun ht => ?_)
  · cases ht
  refine k5 ?_; refine k4 ?_; refine k1 ?_
  refine c_region ?_; refine l_neu (n_move rfl rfl) rfl ?_; refine l_neu (n_add rfl rfl (by omega)) rfl ?_; refine l_neu (n_assign rfl rfl) rfl ?_; refine l_nil ?_
  refine k1 ?_
  exact ⟨i + 1, by omega, by omega, Sees.of ⟨le1 rfl, le1 rfl, le1 rfl, le1 rfl, trivial⟩ ⟨rfl, trivial⟩⟩
end Go.Proofs.YtjjidificdmnmaaDoor
