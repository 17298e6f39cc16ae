/- Walks of the program's functions. -/
import Derived.Test.YtjjidificdmnmaaGreatDoorFd
import Derived.Test.YtjjidificdmnmaaGreatDoorFs
import Derived.Test.YtjjidificdmnmaaGreatDoorFc
import Derived.Test.YtjjidificdmnmaaGreatDoorFb
namespace Go.Proofs.YtjjidificdmnmaaGreatDoor
open Go Go.AL
set_option maxRecDepth 100000
end Go.Proofs.YtjjidificdmnmaaGreatDoor
namespace Go.Proofs.YtjjidificdmnmaaGreatDoor
open Go Go.AL
set_option maxRecDepth 100000
end Go.Proofs.YtjjidificdmnmaaGreatDoor
namespace Go.Proofs.YtjjidificdmnmaaGreatDoor
open Go Go.AL
set_option maxRecDepth 100000
set_option maxHeartbeats 1000000
end Go.Proofs.YtjjidificdmnmaaGreatDoor
namespace Go.Proofs.YtjjidificdmnmaaGreatDoor
open Go Go.AL
set_option maxRecDepth 100000
set_option maxHeartbeats 1000000
end Go.Proofs.YtjjidificdmnmaaGreatDoor
namespace Go.Proofs.YtjjidificdmnmaaGreatDoor
open Go Go.AL
set_option maxRecDepth 100000
theorem check12_names {p : Patch} (h1 : check12 p = 0) : nameOk p.OldName = true ∧ nameOk p.NewName = true := by
  have h : ¬ (nameOk p.OldName = false ∨ nameOk p.NewName = false) := fun q => by
    unfold check12 at h1; rw [if_pos q] at h1; exact absurd h1 (by decide)
  exact ⟨by cases q : nameOk p.OldName <;> simp [q] at h ⊢, by cases q : nameOk p.NewName <;> simp [q] at h ⊢⟩
theorem uformat_ok (p : Patch) (hp : szP p.Hunks ≤ 268435456) : FnOk Tryz.prog 36 [pPatch p] (fun rs => rs = [pStr (if check12 p ≠ 0 then [] else writeOf p), pInt (check12 p)]) := by
  refine FnOk.intro Tryz.func36 (by decide) rfl rfl rfl rfl ?_
  refine k2 ?_
  refine c_region ?_; refine l_effv (f_box 1 rfl rfl rfl) rfl ?_; refine l_neu (n_assign rfl rfl) rfl ?_; refine l_neu (n_assign rfl rfl) rfl ?_; refine l_nil ?_
  refine k1 ?_; refine k2 ?_; refine k2 ?_
  refine c_region ?_; refine l_neu (n_loads_ref rfl rfl rfl) rfl ?_; refine l_call (ucheck_ok p hp) rfl rfl rfl ?_; rintro _ rfl; refine l_neu (n_assign rfl rfl) rfl ?_; refine l_nil ?_
  refine k1 ?_; refine k2 ?_
  refine c_region ?_; refine l_neu (n_move rfl rfl) rfl ?_; refine l_neu (n_neq rfl rfl) rfl ?_; refine l_nil ?_
  refine k1 ?_
  refine c_cond rfl (fun ht => ?_) (fun ht => ?_)
  · have h1 : check12 p ≠ 0 := of_decide_eq_true ht
    rw [if_pos h1]
    refine k2 ?_
    refine c_region ?_; refine l_neu (n_move rfl rfl) rfl ?_; refine l_neu (n_assign rfl rfl) rfl ?_; refine l_neu (n_assign rfl rfl) rfl ?_; refine l_nil ?_
    refine k1 ?_; refine k10 ?_; refine k11 ?_
    exact ret_ret (ret2 rfl rfl rfl rfl rfl) rfl
  · have h1 : ¬ check12 p ≠ 0 := of_decide_eq_false ht
    have hr := goodOf_range (check12_good h1)
    obtain ⟨hn1, hn2⟩ := check12_names (Decidable.not_not.1 h1)
    have hn3 := of_decide_eq_true hn1
    have hn4 := of_decide_eq_true hn2
    have hpf : PFit p := ⟨by omega, by omega, hp⟩
    rw [if_neg h1, Decidable.not_not.1 h1]
    refine k5 ?_; refine k1 ?_; refine k2 ?_
    refine c_region ?_; refine l_neu (n_loads_ref rfl rfl rfl) rfl ?_; refine l_call (uwritten_ok p hpf (fun x hx => by have := hr x hx; omega)) rfl rfl rfl ?_; rintro _ rfl; refine l_neu (n_assign rfl rfl) rfl ?_; refine l_neu (n_assign rfl rfl) rfl ?_; refine l_nil ?_
    refine k1 ?_; refine k10 ?_
    exact ret_ret (ret2 rfl rfl rfl rfl rfl) rfl
end Go.Proofs.YtjjidificdmnmaaGreatDoor
namespace Go.Proofs.YtjjidificdmnmaaGreatDoor
open Go Go.AL
set_option maxRecDepth 100000
theorem szP_app (a b : List PatchHunk) : szP (a ++ b) = szP a + szP b := by simp [szP]
theorem szL_app (a b : List PatchLine) : ((a ++ b).map szL).sum = (a.map szL).sum + (b.map szL).sum := by simp
theorem last_split {α : Type} {l : List α} {x : α} (h : l.getLast? = some x) : l = l.dropLast ++ [x] := by
  obtain ⟨ys, hy⟩ := List.getLast?_eq_some_iff.1 h
  rw [hy, List.dropLast_concat]
theorem trimS_len (t : Str) : (trimS t).length ≤ t.length := by
  unfold trimS; split
  · rw [List.length_dropLast]; omega
  · omega
theorem szP_last {hs : List PatchHunk} {h : PatchHunk} (hl : hs.getLast? = some h) : szP hs = szP hs.dropLast + szH h := by
  conv => lhs; rw [last_split hl, szP_app]
  simp [szP]
theorem step_sz {hs hs' : List PatchHunk} {l : Str} (h : stepP hs l = some hs') : szP hs' ≤ szP hs + l.length + 65 := by
  cases l with
  | nil => cases h
  | cons c r =>
    simp only [stepP] at h
    split at h
    · cases hh : headAt (c :: r) with
      | none => rw [hh] at h; cases h
      | some q =>
        obtain ⟨a, m, b, n⟩ := q
        rw [hh] at h
        have h : hs ++ [⟨a, b, []⟩] = hs' := Option.some.inj h
        rw [← h, szP_app]; simp [szP, szH]; omega
    · split at h
      · unfold addLine at h
        cases hl : hs.getLast? with
        | none => rw [hl] at h; cases h
        | some g =>
          rw [hl] at h
          have h : hs.dropLast ++ [⟨g.Old, g.New, g.Lines ++ [⟨c, r ++ [10]⟩]⟩] = hs' := Option.some.inj h
          rw [← h, szP_app, szP_last hl]
          simp [szP, szH, szL]; omega
      · split at h
        · unfold cutLine at h
          cases hl : hs.getLast? with
          | none => rw [hl] at h; cases h
          | some g =>
            rw [hl] at h
            dsimp only at h
            cases hx : g.Lines.getLast? with
            | none => rw [hx] at h; cases h
            | some x =>
              rw [hx] at h
              dsimp only at h
              split at h
              · have h : hs.dropLast ++ [⟨g.Old, g.New, g.Lines.dropLast ++ [⟨x.Kind, trimS x.Text⟩]⟩] = hs' := Option.some.inj h
                have ht := trimS_len x.Text
                have hg : szH g = 64 + ((g.Lines.dropLast.map szL).sum + szL x) := by
                  unfold szH
                  conv => lhs; rw [last_split hx, szL_app]
                  simp
                rw [← h, szP_app, szP_last hl, hg]
                simp [szP, szH, szL]; omega
              · cases h
        · cases h
def wTo60 (R : List Str) (k : Nat) : Nat := ((R.take k).map fun s => s.length + 65).sum
theorem wTo60_succ (R : List Str) (k : Nat) (x : Str) (h : R[k]? = some x) : wTo60 R (k + 1) = wTo60 R k + (x.length + 65) := by
  obtain ⟨hi, rfl⟩ := List.getElem?_eq_some_iff.1 h
  unfold wTo60
  rw [List.take_succ_eq_append_getElem hi, List.map_append, List.sum_append]; simp
theorem wTo60_le (R : List Str) (k : Nat) : wTo60 R k ≤ (R.map fun s => s.length + 65).sum := by
  unfold wTo60
  conv => rhs; rw [← List.take_append_drop k R, List.map_append, List.sum_append]
  omega
def objP (o n : Str) (hs : List PatchHunk) : Obs := match hs.getLast? with
  | some h => (match h.Lines with
    | [] => psShut o n hs
    | _ :: _ => psOpen o n hs h.Old h.New h.Lines)
  | none => psShut o n hs
section
variable {P : Program} {nt : Nat} {fr : Fr} {o n : Str} {hs : List PatchHunk}
theorem shutP {h : PatchHunk} (hf : frFree 732 fr = true) (hl : hs.getLast? = some h) (hne : h.Lines ≠ []) : Sees P nt fr (psOpen o n hs h.Old h.New h.Lines) fr (psShut o n hs) := by
  have h1 := Sees.freezeG (P := P) (nt := nt) (fr := fr) (ob := psOpen o n hs h.Old h.New h.Lines) (k := 732) rfl rfl
  rw [mapS_free hf] at h1
  refine h1.trans ?_
  have hset : hs.set (hs.length - 1) h = hs := by
    have h2 := last_split hl
    have hlen : hs.length - 1 = hs.dropLast.length := by rw [List.length_dropLast]
    conv => lhs; rw [hlen]; arg 1; rw [h2]
    rw [List.set_append_right _ _ (Nat.le_refl _), Nat.sub_self, List.set_cons_zero, ← h2]
  have h3 := Sees.closeA (P := P) (nt := nt) (fr := fr) (ob := Obs.mapO (Ob.freeze 732 PatchLine 2 plineC h.Lines) (Obs.drop 732 (psOpen o n hs h.Old h.New h.Lines))) 731 h rfl (by
    obtain ⟨a, b, ls⟩ := h
    cases ls with
    | nil => exact absurd rfl hne
    | cons x r => rfl)
  rw [hset] at h3
  refine h3.trans (Sees.fewer (ObIn.spec ⟨rfl, rfl, rfl, trivial⟩))
theorem openP {h : PatchHunk} (hf : frFree 732 fr = true) (hl : hs.getLast? = some h) (hne : h.Lines = []) : Sees P nt fr (psShut o n hs) fr (psOpen o n hs h.Old h.New []) := by
  have hv : hs[hs.length - 1]? = some h := by rw [← List.getLast?_eq_getElem?]; exact hl
  refine (Sees.openA 731 (hs.length - 1) (v := h) rfl hv).trans ?_
  have hcells : (cellsOf phunkN h 0 3).map TC.p = [.p (.v (.int .i64 h.Old)), .p (.v (.int .i64 h.New)), .p (.v (.slice none 0 0))] := by
    obtain ⟨a, b, ls⟩ := h
    have hne : ls = [] := hne
    subst hne; rfl
  rw [hcells]
  refine (Sees.adoptA 732 PatchLine 2 plineC 36 (kb := 731) (o := 2) rfl rfl (by rw [hf]; rfl)).trans ?_
  exact Sees.fewer (ObIn.spec ⟨rfl, rfl, rfl, rfl, trivial⟩)
theorem toShut (hf : frFree 732 fr = true) : Sees P nt fr (objP o n hs) fr (psShut o n hs) := by
  unfold objP
  cases hl : hs.getLast? with
  | none => exact Sees.fewer fun _ _ h => h
  | some h =>
    dsimp only
    cases hh : h.Lines with
    | nil => exact Sees.fewer fun _ _ h => h
    | cons x r =>
      dsimp only
      rw [← hh]
      exact shutP hf hl (by rw [hh]; simp)
theorem toOpen {h : PatchHunk} (hf : frFree 732 fr = true) (hl : hs.getLast? = some h) : Sees P nt fr (objP o n hs) fr (psOpen o n hs h.Old h.New h.Lines) := by
  unfold objP
  rw [hl]
  dsimp only
  cases hh : h.Lines with
  | nil => dsimp only; exact openP hf hl hh
  | cons x r => exact Sees.fewer fun _ _ h => h
theorem ofShut {a b : Int} : objP o n (hs ++ [⟨a, b, []⟩]) = psShut o n (hs ++ [⟨a, b, []⟩]) := by unfold objP; simp
theorem ofOpen {h : PatchHunk} {ls : List PatchLine} (hl : hs.getLast? = some h) (hne : ls ≠ []) : Sees P nt fr (psOpen o n hs h.Old h.New ls) fr (objP o n (hs.dropLast ++ [⟨h.Old, h.New, ls⟩])) := by
  have h2 := last_split hl
  have hlen : (hs.dropLast ++ [(⟨h.Old, h.New, ls⟩ : PatchHunk)]).length = hs.length := by
    conv => rhs; rw [h2]
    simp
  have hO : objP o n (hs.dropLast ++ [⟨h.Old, h.New, ls⟩]) = psOpen o n (hs.dropLast ++ [⟨h.Old, h.New, ls⟩]) h.Old h.New ls := by
    unfold objP
    cases ls with
    | nil => exact absurd rfl hne
    | cons x r => simp
  rw [hO]
  have h3 := Sees.reA (P := P) (nt := nt) (fr := fr) (ob := psOpen o n hs h.Old h.New ls) 731 (hs.dropLast ++ [⟨h.Old, h.New, ls⟩]) rfl hlen (by
    intro i hi
    have hd : hs.dropLast.length = hs.length - 1 := by rw [List.length_dropLast]
    rcases Nat.lt_or_ge i (hs.length - 1) with h4 | h4
    · rw [List.getElem?_append_left (by omega)]
      conv => rhs; rw [h2]
      rw [List.getElem?_append_left (by omega)]
    · rw [List.getElem?_eq_none (by omega), List.getElem?_eq_none (by omega)])
  rw [show (hs.length - 1) = (hs.dropLast ++ [(⟨h.Old, h.New, ls⟩ : PatchHunk)]).length - 1 by rw [hlen]] at h3
  exact h3.trans (Sees.fewer (ObIn.spec ⟨rfl, rfl, rfl, rfl, trivial⟩))
end
end Go.Proofs.YtjjidificdmnmaaGreatDoor
namespace Go.Proofs.YtjjidificdmnmaaGreatDoor
open Go Go.AL
set_option maxRecDepth 100000
def parseRes (f : List Str → Option Patch) (l : List Str) : List PV := match f l with
  | some p => [pPatch p, pBool true]
  | none => [pPatch patch0, pBool false]
theorem choose_64 : chooseF 64 = .func (.func 132) #[] #[] := rfl
theorem choose_txt {c : UInt8} (h : c = 32 ∨ c = 45 ∨ c = 43) : chooseF c = .func (.func 133) #[] #[] := by rcases h with rfl | rfl | rfl <;> rfl
theorem choose_92 : chooseF 92 = .func (.func 134) #[] #[] := rfl
theorem choose_no {c : UInt8} (h1 : c ≠ 64) (h2 : ¬ (c = 32 ∨ c = 45 ∨ c = 43)) (h3 : c ≠ 92) : chooseF c = .nilFunc := by
  unfold chooseF meths
  have e : ∀ d : UInt8, d ≠ c → decide (d = c) = false := fun d h => decide_eq_false h
  have a1 : (32 : UInt8) ≠ c := fun e => h2 (.inl e.symm)
  have a2 : (45 : UInt8) ≠ c := fun e => h2 (.inr (.inl e.symm))
  have a3 : (43 : UInt8) ≠ c := fun e => h2 (.inr (.inr e.symm))
  simp only [List.find?_cons, e _ (Ne.symm h1), e _ a1, e _ a2, e _ a3, e _ (Ne.symm h3), List.find?_nil]
theorem phunk_cell {x : PatchHunk} (j : Nat) (rd : Rd) (u : Value) (h : (phunkN x j).rep rd u) : (phunkC x j).rep rd u := by
  match j with
  | 0 => exact h
  | 1 => exact h
  | j + 2 =>
    obtain ⟨a, b, ls⟩ := x
    cases ls with
    | nil =>
      have h : (Cell.v (.slice none 0 0)).rep rd u := h
      obtain ⟨rfl, _⟩ := h
      exact rep_nil _ _ _
    | cons y r => exact h
set_option maxHeartbeats 2000000
theorem stparse_ok (l : List Str) (hw : (l.map fun s => s.length + 65).sum ≤ 134217728) (hsz : ∀ s ∈ l, s.length ≤ 4194304) : FnOk Tryz.prog 59 [pStrs l] (fun rs => rs = parseRes parseP l) := by
  have hll : 65 * l.length ≤ (l.map fun s => s.length + 65).sum := by
    clear hw hsz
    induction l with
    | nil => simp
    | cons x r ih => simp only [List.map_cons, List.sum_cons, List.length_cons]; omega
  by_cases hlen : l.length < 2
  · have hp : parseP l = none := by
      match l, hlen with
      | [], _ => rfl
      | [_], _ => rfl
    refine FnOk.intro Tryz.func59 (by decide) rfl rfl rfl rfl ?_
    refine k2 ?_
    refine c_region ?_; refine l_effv (f_alloc 2 rfl) rfl ?_; refine l_neu (n_assign rfl rfl) rfl ?_; refine l_nil ?_
    refine k1 ?_; refine k2 ?_; refine k2 ?_
    refine c_region ?_; refine l_neu (n_move rfl rfl) rfl ?_; refine l_neu (n_len rfl (.pure _ _ _ _)) rfl ?_; refine l_neu (n_lss rfl rfl) rfl ?_; refine l_nil ?_
    refine k1 ?_
    refine c_cond rfl (fun ht => ?_) (fun ht => ?_)
    rotate_left
    · exact absurd (by omega) (of_decide_eq_false ht)
    refine k2 ?_
    refine c_region ?_; refine l_neu (n_build rfl) rfl ?_; refine l_eff (e_store_ref TySz.out rfl rfl rfl rfl rfl rfl) ?_; refine l_neu (n_assign rfl rfl) rfl ?_; refine l_nil ?_
    refine k1 ?_
    refine c_sees (Sees.listB PatchHunk 3 phunkC 2 2 rfl rfl) ?_
    refine k10 ?_; refine k11 ?_
    exact ret_ret (rs := [pPatch patch0, pBool false]) (retc2 rfl rfl rfl rfl rfl rfl rfl) (by unfold parseRes; rw [hp])
  obtain ⟨l0, l1, R, rfl⟩ : ∃ a b r, l = a :: b :: r := by
    match l, hlen with
    | a :: b :: r, _ => exact ⟨a, b, r, rfl⟩
    | [], h => exact absurd (by simp) h
    | [_], h => exact absurd (by simp) h
  have z0 := hsz l0 (by simp)
  have z1 := hsz l1 (by simp)
  have hWR : (R.map fun s => s.length + 65).sum ≤ 134217728 := by simp only [List.map_cons, List.sum_cons] at hw; omega
  have hRl : R.length ≤ 134217728 := by simp only [List.length_cons] at hll; omega
  clear hw hll
  refine FnOk.intro Tryz.func59 (by decide) rfl rfl rfl rfl ?_
  refine k2 ?_
  refine c_region ?_; refine l_effv (f_alloc 2 rfl) rfl ?_; refine l_neu (n_assign rfl rfl) rfl ?_; refine l_nil ?_
  refine k1 ?_; refine k2 ?_; refine k2 ?_
  refine c_region ?_; refine l_neu (n_move rfl rfl) rfl ?_; refine l_neu (n_len rfl (.pure _ _ _ _)) rfl ?_; refine l_neu (n_lss rfl rfl) rfl ?_; refine l_nil ?_
  refine k1 ?_
  refine c_cond rfl (fun ht => ?_) (fun ht => ?_)
  · exact absurd (of_decide_eq_true ht) (by simp only [List.length_cons]; omega)
  refine k5 ?_; refine k1 ?_; refine k2 ?_
  refine c_region ?_; refine l_neu (n_build rfl) rfl ?_; refine l_effv (f_box 730 rfl rfl rfl) rfl ?_; refine l_neu (n_assign rfl rfl) rfl ?_; refine l_nil ?_
  refine k1 ?_; refine k2 ?_
  refine c_region ?_; refine l_neu (n_assign rfl rfl) rfl ?_; refine l_neu (n_assign rfl rfl) rfl ?_; refine l_nil ?_
  refine k1 ?_; refine k2 ?_
  refine c_region ?_; refine l_neu (n_move rfl rfl) rfl ?_; refine l_neu (n_move rfl rfl) rfl ?_; refine l_neu (n_indexAddr rfl (.pure _ _ _ _) rfl (by omega) (show (l0 :: l1 :: R)[(0 : Int).toNat]? = some l0 from rfl)) rfl ?_; refine l_neu (n_load_eref rfl rfl) rfl ?_; refine l_call (stname_ok l0 [45, 45, 45, 32] (by omega)) rfl rfl rfl ?_; rintro _ ⟨w0, b0, rfl, h0⟩; refine l_neu (n_move rfl rfl) rfl ?_; refine l_neu (n_extract rfl rfl) rfl ?_; refine l_neu (n_extract rfl rfl) rfl ?_; refine l_neu (n_nilCheck_ref rfl) rfl ?_; refine l_neu (n_field_ref rfl) rfl ?_; refine l_neu (n_field_ref rfl) rfl ?_; refine l_eff (e_store_ref TySz.out rfl rfl rfl rfl rfl rfl) ?_; refine l_neu (n_assign rfl rfl) rfl ?_; refine l_nil ?_
  refine k1 ?_; refine k2 ?_
  refine c_region ?_; refine l_neu (n_move rfl rfl) rfl ?_; refine l_neu (n_move rfl rfl) rfl ?_; refine l_neu (n_indexAddr rfl (.pure _ _ _ _) rfl (by omega) (show (l0 :: l1 :: R)[(1 : Int).toNat]? = some l1 from rfl)) rfl ?_; refine l_neu (n_load_eref rfl rfl) rfl ?_; refine l_call (stname_ok l1 [43, 43, 43, 32] (by omega)) rfl rfl rfl ?_; rintro _ ⟨w1, b1, rfl, h1⟩; refine l_neu (n_move rfl rfl) rfl ?_; refine l_neu (n_extract rfl rfl) rfl ?_; refine l_neu (n_extract rfl rfl) rfl ?_; refine l_neu (n_nilCheck_ref rfl) rfl ?_; refine l_neu (n_field_ref rfl) rfl ?_; refine l_neu (n_field_ref rfl) rfl ?_; refine l_eff (e_store_ref TySz.out rfl rfl rfl rfl rfl rfl) ?_; refine l_neu (n_assign rfl rfl) rfl ?_; refine l_nil ?_
  refine k1 ?_; refine k2 ?_; refine k2 ?_
  refine c_region ?_; refine l_neu (n_move rfl rfl) rfl ?_; refine l_neu (n_not rfl) rfl ?_; refine l_neu (n_move rfl rfl) rfl ?_; refine l_guard rfl rfl rfl rfl (fun hg => by rw [hg]; exact n_move rfl rfl) ?_; refine l_guard rfl rfl rfl rfl (fun hg => by rw [hg]; exact n_not rfl) ?_; refine l_neu (n_pick_bool rfl (fun h => by first | rfl | (rw [h]; rfl)) (fun h => by first | rfl | (rw [h]; rfl))) rfl ?_; refine l_nil ?_
  refine k1 ?_
  have hfail : nameAt l0 [45, 45, 45, 32] = none ∨ nameAt l1 [43, 43, 43, 32] = none → parseP (l0 :: l1 :: R) = none := by
    intro h
    unfold parseP
    rcases h with h | h
    · simp only [h]
    · simp only [h]
      cases nameAt l0 [45, 45, 45, 32] <;> rfl
  by_cases hnm : nameAt l0 [45, 45, 45, 32] = none ∨ nameAt l1 [43, 43, 43, 32] = none
  · refine c_cond rfl (fun ht => ?_) (fun ht => ?_)
    rotate_left
    · exfalso
      rcases hnm with h | h
      · rw [h] at h0; have h0 : b0 = false := h0; rw [h0] at ht; cases ht
      · rw [h] at h1; have h1 : b1 = false := h1; rw [h1] at ht; cases b0 <;> cases ht
    refine k2 ?_
    refine c_region ?_; refine l_neu (n_build rfl) rfl ?_; refine l_eff (e_store_ref TySz.out rfl rfl rfl rfl rfl rfl) ?_; refine l_neu (n_assign rfl rfl) rfl ?_; refine l_nil ?_
    refine k1 ?_
    refine c_sees (Sees.listB PatchHunk 3 phunkC 2 2 rfl rfl) ?_
    refine k10 ?_; refine k11 ?_
    exact ret_ret (rs := [pPatch patch0, pBool false]) (retc2 rfl rfl rfl rfl rfl rfl rfl) (by unfold parseRes; rw [hfail hnm])
  obtain ⟨o, ho⟩ : ∃ o, nameAt l0 [45, 45, 45, 32] = some o := by
    cases h : nameAt l0 [45, 45, 45, 32] with
    | none => exact absurd (.inl h) hnm
    | some o => exact ⟨o, rfl⟩
  obtain ⟨n, hn⟩ : ∃ n, nameAt l1 [43, 43, 43, 32] = some n := by
    cases h : nameAt l1 [43, 43, 43, 32] with
    | none => exact absurd (.inr h) hnm
    | some n => exact ⟨n, rfl⟩
  rw [ho] at h0
  rw [hn] at h1
  obtain ⟨rfl, rfl⟩ := h0
  obtain ⟨rfl, rfl⟩ := h1
  have hPs : ∀ hs, foldP [] R = some hs → [pPatch ⟨w0, w1, hs⟩, pBool true] = parseRes parseP (l0 :: l1 :: R) := by
    intro hs h
    have : parseP (l0 :: l1 :: R) = some ⟨w0, w1, hs⟩ := by unfold parseP; simp only [ho, hn, h]
    unfold parseRes; rw [this]
  have hnone : foldP [] R = none → [pPatch patch0, pBool false] = parseRes parseP (l0 :: l1 :: R) := by
    intro h
    have : parseP (l0 :: l1 :: R) = none := by unfold parseP; simp only [ho, hn, h]
    unfold parseRes; rw [this]
  refine c_cond rfl (fun ht => ?_) (fun ht => ?_)
  · cases ht
  refine k5 ?_; refine k1 ?_; refine k2 ?_; refine k2 ?_
  refine c_region ?_; refine l_neu (n_move rfl rfl) rfl ?_; refine l_neu (n_slice_l rfl (.pure _ _ _ _) rfl (by (first | omega | (simp only [List.length_cons]; omega))) (by (first | omega | (simp only [List.length_cons]; omega)))) rfl ?_; refine l_neu (n_len rfl (.pure _ _ _ _)) rfl ?_; refine l_neu (n_move rfl rfl) rfl ?_; refine l_nil ?_
  refine k1 ?_; refine k3 ?_
  refine c_sees (Sees.adoptBG 731 PatchHunk 3 phunkN 29 (kb := 730) (o := 2) rfl rfl rfl) ?_
  refine c_while (X := Nat × List PatchHunk) (fun x => ([(4, .s (.one (.ref 730 0))), (2, .s (.one (.ref 2 0))), (46, sList Str 1 strC R), (47, sInt R.length), (48, sInt x.1)], objP w0 w1 x.2)) (fun x => x.1 ≤ R.length ∧ szP x.2 ≤ wTo60 R x.1 ∧ foldP x.2 (R.drop x.1) = foldP [] R) (fun x => R.length - x.1) (0, []) ⟨Nat.zero_le _, by simp [szP], rfl⟩ (Sees.of ⟨le1 rfl, le1 rfl, le1 rfl, le1 rfl, le1 rfl, trivial⟩ ⟨rfl, rfl, rfl, trivial⟩) ?_
  rintro ⟨k, hs⟩ ⟨hk, hz, hf⟩
  dsimp only at hk hz hf ⊢
  have hzb := wTo60_le R k
  have hzb2 : szP hs ≤ 134217728 := by omega
  have hsl := szP_len hs
  refine k2 ?_
  refine c_region ?_; refine l_neu (n_lss rfl rfl) rfl ?_; refine l_nil ?_
  refine k1 ?_; refine k2 ?_
  refine c_cond rfl (fun ht => ?_) (fun ht => ?_)
  · have hlt : k < R.length := by have := of_decide_eq_true ht; omega
    obtain ⟨x, hx⟩ : ∃ x, x = R[k] := ⟨_, rfl⟩
    have hv : R[k]? = some x := by rw [hx]; simp [hlt]
    have hxz := hsz x (by simp [List.mem_of_getElem? hv])
    have hwk := wTo60_succ R k x hv
    rw [List.drop_eq_getElem_cons hlt, ← hx, foldP] at hf
    refine k5 ?_; refine k1 ?_; refine k2 ?_; refine k3 ?_; refine k2 ?_
    refine c_region ?_; refine l_neu (n_indexAddr rfl (.pure _ _ _ _) rfl (by omega) hv) rfl ?_; refine l_neu (n_load_eref rfl rfl) rfl ?_; refine l_neu (n_assign rfl rfl) rfl ?_; refine l_nil ?_
    refine k1 ?_; refine k2 ?_; refine k2 ?_
    refine c_region ?_; refine l_neu (n_move rfl rfl) rfl ?_; refine l_neu (n_eql_s rfl rfl) rfl ?_; refine l_nil ?_
    refine k1 ?_
    refine c_cond rfl (fun ht => ?_) (fun ht => ?_)
    · have h0 : x = [] := of_decide_eq_true ht
      subst h0
      have hf : none = foldP [] R := hf
      refine k2 ?_
      refine c_sees (toShut rfl) ?_
      refine c_region ?_; refine l_neu (n_build rfl) rfl ?_; refine l_eff (e_store_ref TySz.out rfl rfl rfl rfl rfl rfl) ?_; refine l_neu (n_assign rfl rfl) rfl ?_; refine l_nil ?_
      refine k1 ?_
      refine c_sees (Sees.listB PatchHunk 3 phunkC 2 2 rfl rfl) ?_
      refine k10 ?_; refine k11 ?_; refine k12 ?_; refine k11 ?_; refine k11 ?_; refine k12 ?_; refine k11 ?_
      exact ret_ret (rs := [pPatch patch0, pBool false]) (retc2 rfl rfl rfl rfl rfl rfl rfl) (hnone hf.symm)
    have hne : x ≠ [] := of_decide_eq_false ht
    obtain ⟨c, r, rfl⟩ : ∃ c r, x = c :: r := by
      cases x with
      | nil => exact absurd rfl hne
      | cons c r => exact ⟨c, r, rfl⟩
    simp only [List.length_cons] at hxz hwk
    refine k5 ?_; refine k1 ?_; refine k2 ?_
    refine c_region ?_; refine l_neu (n_move rfl rfl) rfl ?_; refine l_neu (n_index_s rfl rfl (by omega) (show (c :: r)[(0 : Int).toNat]? = some c from rfl)) rfl ?_; refine l_call (choose_ok c) rfl rfl rfl ?_; rintro _ rfl; refine l_neu (n_assign rfl rfl) rfl ?_; refine l_nil ?_
    refine k1 ?_; refine k2 ?_
    by_cases c64 : c = 64
    · subst c64
      rw [choose_64]
      have hm := fun gf => header_met (gf := gf) w0 w1 hs (64 :: r) (by omega) (by simp only [List.length_cons]; omega)
      have hst : stepP hs (64 :: r) = match headAt (64 :: r) with | none => none | some (a, _, b, _) => some (hs ++ [⟨a, b, []⟩]) := rfl
      refine c_sees (toShut rfl) ?_
      cases hh : headAt (64 :: r) with
      | none =>
        rw [hh] at hm hst
        rw [hst] at hf
        have hf : none = foldP [] R := hf
        refine c_region ?_; refine l_neu (n_move rfl rfl) rfl ?_; refine l_neu (n_eql_fn1 rfl (by kernel_rfl)) rfl ?_; refine l_neu (n_move rfl rfl) rfl ?_; refine l_run rfl rfl rfl rfl ?_; refine l_neu (n_move rfl rfl) rfl ?_; refine l_run rfl rfl rfl rfl ?_; refine l_neu (n_move rfl rfl) rfl ?_; refine l_run rfl rfl rfl rfl ?_; refine l_neu (n_move rfl rfl) rfl ?_; refine l_run rfl rfl rfl rfl ?_; refine l_sees ((Sees.trans (clo_of_val (t := 61) rfl) (Sees.of (ob' := psShut w0 w1 hs) (fr' := [(60, sBool false), (61, .s (.one (.clo 132 [] []))), (62, .s (.one (.ref 730 0))), (63, sStr (64 :: r)), (4, .s (.one (.ref 730 0))), (2, .s (.one (.ref 2 0))), (46, sList Str 1 strC R), (47, sInt R.length), (48, sInt k)]) ⟨le1 rfl, le1 rfl, le1 rfl, le1 rfl, le1 rfl, le1 rfl, le1 rfl, le1 rfl, le1 rfl, trivial⟩ ⟨rfl, rfl, rfl, trivial⟩))) ?_; refine l_metF (hm _) rfl rfl rfl rfl ?_; rintro _ _ ⟨rfl, rfl⟩; refine l_run rfl rfl rfl rfl ?_; refine l_neu (n_not rfl) rfl ?_; refine l_neu (n_pick_f rfl (rfl) rfl) rfl ?_; refine l_nil ?_
        refine k1 ?_
        refine c_cond rfl (fun ht => ?_) (fun ht => ?_)
        · refine k2 ?_
          refine c_region ?_; refine l_neu (n_build rfl) rfl ?_; refine l_eff (e_store_ref TySz.out rfl rfl rfl rfl rfl rfl) ?_; refine l_neu (n_assign rfl rfl) rfl ?_; refine l_nil ?_
          refine k1 ?_
          refine c_sees (Sees.listB PatchHunk 3 phunkC 2 2 rfl rfl) ?_
          refine k10 ?_; refine k12 ?_; refine k11 ?_; refine k11 ?_; refine k12 ?_; refine k11 ?_
          exact ret_ret (rs := [pPatch patch0, pBool false]) (retc2 rfl rfl rfl rfl rfl rfl rfl) (hnone hf.symm)
        · cases ht
      | some q =>
        obtain ⟨a, m, b, e⟩ := q
        rw [hh] at hm hst
        rw [hst] at hf
        have hf : foldP (hs ++ [⟨a, b, []⟩]) (R.drop (k + 1)) = foldP [] R := hf
        have hsz2 := step_sz (hs := hs) (hs' := hs ++ [⟨a, b, []⟩]) (l := 64 :: r) hst
        simp only [List.length_cons] at hsz2
        refine c_region ?_; refine l_neu (n_move rfl rfl) rfl ?_; refine l_neu (n_eql_fn1 rfl (by kernel_rfl)) rfl ?_; refine l_neu (n_move rfl rfl) rfl ?_; refine l_run rfl rfl rfl rfl ?_; refine l_neu (n_move rfl rfl) rfl ?_; refine l_run rfl rfl rfl rfl ?_; refine l_neu (n_move rfl rfl) rfl ?_; refine l_run rfl rfl rfl rfl ?_; refine l_neu (n_move rfl rfl) rfl ?_; refine l_run rfl rfl rfl rfl ?_; refine l_sees ((Sees.trans (clo_of_val (t := 61) rfl) (Sees.of (ob' := psShut w0 w1 hs) (fr' := [(60, sBool false), (61, .s (.one (.clo 132 [] []))), (62, .s (.one (.ref 730 0))), (63, sStr (64 :: r)), (4, .s (.one (.ref 730 0))), (2, .s (.one (.ref 2 0))), (46, sList Str 1 strC R), (47, sInt R.length), (48, sInt k)]) ⟨le1 rfl, le1 rfl, le1 rfl, le1 rfl, le1 rfl, le1 rfl, le1 rfl, le1 rfl, le1 rfl, trivial⟩ ⟨rfl, rfl, rfl, trivial⟩))) ?_; refine l_metF (hm _) rfl rfl rfl rfl ?_; rintro _ _ ⟨rfl, rfl⟩; refine l_run rfl rfl rfl rfl ?_; refine l_neu (n_not rfl) rfl ?_; refine l_neu (n_pick_f rfl (rfl) rfl) rfl ?_; refine l_nil ?_
        refine k1 ?_
        refine c_cond rfl (fun ht => ?_) (fun ht => ?_)
        · cases ht
        refine k5 ?_; refine k4 ?_; refine k1 ?_
        refine c_region ?_; refine l_neu (n_add rfl rfl (by omega)) rfl ?_; refine l_neu (n_move rfl rfl) rfl ?_; refine l_nil ?_
        refine k1 ?_
        refine ⟨(k + 1, hs ++ [⟨a, b, []⟩]), ⟨hlt, by dsimp only; omega, hf⟩, by dsimp only; omega, ?_⟩
        dsimp only
        rw [ofShut]
        exact Sees.of ⟨le1 rfl, le1 rfl, le1 rfl, le1 rfl, le1 rfl, trivial⟩ ⟨rfl, rfl, rfl, trivial⟩
    have hst64 : ∀ hs', stepP hs (c :: r) = hs' ↔ (if c = 32 ∨ c = 45 ∨ c = 43 then addLine hs ⟨c, r ++ [10]⟩ else if c = 92 then cutLine hs (c :: r) else none) = hs' := by
      intro hs'
      simp only [stepP]
      rw [if_neg c64]
    by_cases ctx : c = 32 ∨ c = 45 ∨ c = 43
    · rw [choose_txt ctx]
      simp only [if_pos ctx] at hst64
      cases hl : hs.getLast? with
      | none =>
        have hn0 : hs = [] := List.getLast?_eq_none_iff.1 hl
        subst hn0
        have hst := (hst64 none).2 rfl
        rw [hst] at hf
        have hf : none = foldP [] R := hf
        refine c_sees (toShut rfl) ?_
        refine c_region ?_; refine l_neu (n_move rfl rfl) rfl ?_; refine l_neu (n_eql_fn1 rfl (by kernel_rfl)) rfl ?_; refine l_neu (n_move rfl rfl) rfl ?_; refine l_run rfl rfl rfl rfl ?_; refine l_neu (n_move rfl rfl) rfl ?_; refine l_run rfl rfl rfl rfl ?_; refine l_neu (n_move rfl rfl) rfl ?_; refine l_run rfl rfl rfl rfl ?_; refine l_neu (n_move rfl rfl) rfl ?_; refine l_run rfl rfl rfl rfl ?_; refine l_sees ((Sees.trans (clo_of_val (t := 61) rfl) (Sees.of (ob' := psShut w0 w1 []) (fr' := [(60, sBool false), (61, .s (.one (.clo 133 [] []))), (62, .s (.one (.ref 730 0))), (63, sStr (c :: r)), (4, .s (.one (.ref 730 0))), (2, .s (.one (.ref 2 0))), (46, sList Str 1 strC R), (47, sInt R.length), (48, sInt k)]) ⟨le1 rfl, le1 rfl, le1 rfl, le1 rfl, le1 rfl, le1 rfl, le1 rfl, le1 rfl, le1 rfl, trivial⟩ ⟨rfl, rfl, rfl, trivial⟩))) ?_; refine l_metF (content_shut w0 w1 (c :: r)) rfl rfl rfl rfl ?_; rintro _ _ ⟨rfl, rfl⟩; refine l_run rfl rfl rfl rfl ?_; refine l_neu (n_not rfl) rfl ?_; refine l_neu (n_pick_f rfl (rfl) rfl) rfl ?_; refine l_nil ?_
        refine k1 ?_
        refine c_cond rfl (fun ht => ?_) (fun ht => ?_)
        · refine k2 ?_
          refine c_region ?_; refine l_neu (n_build rfl) rfl ?_; refine l_eff (e_store_ref TySz.out rfl rfl rfl rfl rfl rfl) ?_; refine l_neu (n_assign rfl rfl) rfl ?_; refine l_nil ?_
          refine k1 ?_
          refine c_sees (Sees.listB PatchHunk 3 phunkC 2 2 rfl rfl) ?_
          refine k10 ?_; refine k12 ?_; refine k11 ?_; refine k11 ?_; refine k12 ?_; refine k11 ?_
          exact ret_ret (rs := [pPatch patch0, pBool false]) (retc2 rfl rfl rfl rfl rfl rfl rfl) (hnone hf.symm)
        · cases ht
      | some h =>
        have hst := (hst64 (some (hs.dropLast ++ [⟨h.Old, h.New, h.Lines ++ [⟨c, r ++ [10]⟩]⟩]))).2 (by unfold addLine; rw [hl])
        rw [hst] at hf
        have hf : foldP (hs.dropLast ++ [⟨h.Old, h.New, h.Lines ++ [⟨c, r ++ [10]⟩]⟩]) (R.drop (k + 1)) = foldP [] R := hf
        have hsz2 := step_sz hst
        simp only [List.length_cons] at hsz2
        have hmem := szP_mem (List.mem_of_getLast? hl)
        have hln := szL_len h.Lines
        unfold szH at hmem
        have h0 : 0 < hs.length := List.length_pos_iff.2 (by intro e; rw [e] at hl; cases hl)
        refine c_sees (toOpen rfl hl) ?_
        refine c_region ?_; refine l_neu (n_move rfl rfl) rfl ?_; refine l_neu (n_eql_fn1 rfl (by kernel_rfl)) rfl ?_; refine l_neu (n_move rfl rfl) rfl ?_; refine l_run rfl rfl rfl rfl ?_; refine l_neu (n_move rfl rfl) rfl ?_; refine l_run rfl rfl rfl rfl ?_; refine l_neu (n_move rfl rfl) rfl ?_; refine l_run rfl rfl rfl rfl ?_; refine l_neu (n_move rfl rfl) rfl ?_; refine l_run rfl rfl rfl rfl ?_; refine l_sees ((Sees.trans (clo_of_val (t := 61) rfl) (Sees.of (ob' := psOpen w0 w1 hs h.Old h.New h.Lines) (fr' := [(60, sBool false), (61, .s (.one (.clo 133 [] []))), (62, .s (.one (.ref 730 0))), (63, sStr (c :: r)), (4, .s (.one (.ref 730 0))), (2, .s (.one (.ref 2 0))), (46, sList Str 1 strC R), (47, sInt R.length), (48, sInt k)]) ⟨le1 rfl, le1 rfl, le1 rfl, le1 rfl, le1 rfl, le1 rfl, le1 rfl, le1 rfl, le1 rfl, trivial⟩ ⟨rfl, rfl, rfl, rfl, trivial⟩))) ?_; refine l_metF (content_open 133 R k w0 w1 hs h.Old h.New h.Lines c r h0 (by omega) (by omega) (by omega)) rfl rfl rfl rfl ?_; rintro _ _ ⟨rfl, rfl⟩; refine l_run rfl rfl rfl rfl ?_; refine l_neu (n_not rfl) rfl ?_; refine l_neu (n_pick_f rfl (rfl) rfl) rfl ?_; refine l_nil ?_
        refine k1 ?_
        refine c_cond rfl (fun ht => ?_) (fun ht => ?_)
        · cases ht
        refine k5 ?_; refine k4 ?_; refine k1 ?_
        refine c_region ?_; refine l_neu (n_add rfl rfl (by omega)) rfl ?_; refine l_neu (n_move rfl rfl) rfl ?_; refine l_nil ?_
        refine k1 ?_
        refine ⟨(k + 1, hs.dropLast ++ [⟨h.Old, h.New, h.Lines ++ [⟨c, r ++ [10]⟩]⟩]), ⟨hlt, by dsimp only; omega, hf⟩, by dsimp only; omega, ?_⟩
        refine Sees.trans ?_ (ofOpen hl (by simp))
        exact Sees.of ⟨le1 rfl, le1 rfl, le1 rfl, le1 rfl, le1 rfl, trivial⟩ ⟨rfl, rfl, rfl, rfl, trivial⟩
    simp only [if_neg ctx] at hst64
    by_cases c92 : c = 92
    · subst c92
      rw [choose_92]
      simp only [if_true] at hst64
      cases hl : hs.getLast? with
      | none =>
        have hn0 : hs = [] := List.getLast?_eq_none_iff.1 hl
        subst hn0
        have hst := (hst64 none).2 rfl
        rw [hst] at hf
        have hf : none = foldP [] R := hf
        refine c_sees (toShut rfl) ?_
        refine c_region ?_; refine l_neu (n_move rfl rfl) rfl ?_; refine l_neu (n_eql_fn1 rfl (by kernel_rfl)) rfl ?_; refine l_neu (n_move rfl rfl) rfl ?_; refine l_run rfl rfl rfl rfl ?_; refine l_neu (n_move rfl rfl) rfl ?_; refine l_run rfl rfl rfl rfl ?_; refine l_neu (n_move rfl rfl) rfl ?_; refine l_run rfl rfl rfl rfl ?_; refine l_neu (n_move rfl rfl) rfl ?_; refine l_run rfl rfl rfl rfl ?_; refine l_sees ((Sees.trans (clo_of_val (t := 61) rfl) (Sees.of (ob' := psShut w0 w1 []) (fr' := [(60, sBool false), (61, .s (.one (.clo 134 [] []))), (62, .s (.one (.ref 730 0))), (63, sStr (92 :: r)), (4, .s (.one (.ref 730 0))), (2, .s (.one (.ref 2 0))), (46, sList Str 1 strC R), (47, sInt R.length), (48, sInt k)]) ⟨le1 rfl, le1 rfl, le1 rfl, le1 rfl, le1 rfl, le1 rfl, le1 rfl, le1 rfl, le1 rfl, trivial⟩ ⟨rfl, rfl, rfl, trivial⟩))) ?_; refine l_metF (unended_shut w0 w1 (92 :: r)) rfl rfl rfl rfl ?_; rintro _ _ ⟨rfl, rfl⟩; refine l_run rfl rfl rfl rfl ?_; refine l_neu (n_not rfl) rfl ?_; refine l_neu (n_pick_f rfl (rfl) rfl) rfl ?_; refine l_nil ?_
        refine k1 ?_
        refine c_cond rfl (fun ht => ?_) (fun ht => ?_)
        · refine k2 ?_
          refine c_region ?_; refine l_neu (n_build rfl) rfl ?_; refine l_eff (e_store_ref TySz.out rfl rfl rfl rfl rfl rfl) ?_; refine l_neu (n_assign rfl rfl) rfl ?_; refine l_nil ?_
          refine k1 ?_
          refine c_sees (Sees.listB PatchHunk 3 phunkC 2 2 rfl rfl) ?_
          refine k10 ?_; refine k12 ?_; refine k11 ?_; refine k11 ?_; refine k12 ?_; refine k11 ?_
          exact ret_ret (rs := [pPatch patch0, pBool false]) (retc2 rfl rfl rfl rfl rfl rfl rfl) (hnone hf.symm)
        · cases ht
      | some h =>
        have hmem := szP_mem (List.mem_of_getLast? hl)
        have hln := szL_len h.Lines
        unfold szH at hmem
        have h0 : 0 < hs.length := List.length_pos_iff.2 (by intro e; rw [e] at hl; cases hl)
        have hm := fun gf => unended_open (gf := gf) w0 w1 hs h.Old h.New h.Lines (92 :: r) h0 (by omega) (by omega) (fun y hy => by have := szL_mem hy; omega)
        refine c_sees (toOpen rfl hl) ?_
        by_cases hx2 : ∃ y, h.Lines.getLast? = some y ∧ (92 :: r) = noNl
        · obtain ⟨y, hy, hno⟩ := hx2
          have hst := (hst64 (some (hs.dropLast ++ [⟨h.Old, h.New, h.Lines.dropLast ++ [⟨y.Kind, trimS y.Text⟩]⟩]))).2 (by unfold cutLine; rw [hl]; dsimp only; rw [hy]; dsimp only; rw [if_pos hno])
          rw [hst] at hf
          have hf : foldP (hs.dropLast ++ [⟨h.Old, h.New, h.Lines.dropLast ++ [⟨y.Kind, trimS y.Text⟩]⟩]) (R.drop (k + 1)) = foldP [] R := hf
          have hsz2 := step_sz hst
          simp only [List.length_cons] at hsz2
          have hm2 := fun gf => (hm gf).mono (post' := fun rs ob' => rs = [tBo true] ∧ ob' = psOpen w0 w1 hs h.Old h.New (h.Lines.dropLast ++ [⟨y.Kind, trimS y.Text⟩])) (fun rs ob' hh => by rw [hy] at hh; dsimp only at hh; rw [if_pos hno] at hh; exact hh)
          refine c_region ?_; refine l_neu (n_move rfl rfl) rfl ?_; refine l_neu (n_eql_fn1 rfl (by kernel_rfl)) rfl ?_; refine l_neu (n_move rfl rfl) rfl ?_; refine l_run rfl rfl rfl rfl ?_; refine l_neu (n_move rfl rfl) rfl ?_; refine l_run rfl rfl rfl rfl ?_; refine l_neu (n_move rfl rfl) rfl ?_; refine l_run rfl rfl rfl rfl ?_; refine l_neu (n_move rfl rfl) rfl ?_; refine l_run rfl rfl rfl rfl ?_; refine l_sees ((Sees.trans (clo_of_val (t := 61) rfl) (Sees.of (ob' := psOpen w0 w1 hs h.Old h.New h.Lines) (fr' := [(60, sBool false), (61, .s (.one (.clo 134 [] []))), (62, .s (.one (.ref 730 0))), (63, sStr (92 :: r)), (4, .s (.one (.ref 730 0))), (2, .s (.one (.ref 2 0))), (46, sList Str 1 strC R), (47, sInt R.length), (48, sInt k)]) ⟨le1 rfl, le1 rfl, le1 rfl, le1 rfl, le1 rfl, le1 rfl, le1 rfl, le1 rfl, le1 rfl, trivial⟩ ⟨rfl, rfl, rfl, rfl, trivial⟩))) ?_; refine l_metF (hm2 _) rfl rfl rfl rfl ?_; rintro _ _ ⟨rfl, rfl⟩; refine l_run rfl rfl rfl rfl ?_; refine l_neu (n_not rfl) rfl ?_; refine l_neu (n_pick_f rfl (rfl) rfl) rfl ?_; refine l_nil ?_
          refine k1 ?_
          refine c_cond rfl (fun ht => ?_) (fun ht => ?_)
          · cases ht
          refine k5 ?_; refine k4 ?_; refine k1 ?_
          refine c_region ?_; refine l_neu (n_add rfl rfl (by omega)) rfl ?_; refine l_neu (n_move rfl rfl) rfl ?_; refine l_nil ?_
          refine k1 ?_
          refine ⟨(k + 1, hs.dropLast ++ [⟨h.Old, h.New, h.Lines.dropLast ++ [⟨y.Kind, trimS y.Text⟩]⟩]), ⟨hlt, by dsimp only; omega, hf⟩, by dsimp only; omega, ?_⟩
          refine Sees.trans ?_ (ofOpen hl (by simp))
          exact Sees.of ⟨le1 rfl, le1 rfl, le1 rfl, le1 rfl, le1 rfl, trivial⟩ ⟨rfl, rfl, rfl, rfl, trivial⟩
        · have hst := (hst64 none).2 (by
            unfold cutLine; rw [hl]; dsimp only
            cases hy : h.Lines.getLast? with
            | none => rfl
            | some y => dsimp only; rw [if_neg (fun e => hx2 ⟨y, hy, e⟩)])
          rw [hst] at hf
          have hf : none = foldP [] R := hf
          have hm2 := fun gf => (hm gf).mono (post' := fun rs ob' => rs = [tBo false] ∧ ob' = [(2, zBox)]) (fun rs ob' hh => by
            cases hy : h.Lines.getLast? with
            | none => rw [hy] at hh; exact hh
            | some y => rw [hy] at hh; dsimp only at hh; rw [if_neg (fun e => hx2 ⟨y, hy, e⟩)] at hh; exact hh)
          refine c_region ?_; refine l_neu (n_move rfl rfl) rfl ?_; refine l_neu (n_eql_fn1 rfl (by kernel_rfl)) rfl ?_; refine l_neu (n_move rfl rfl) rfl ?_; refine l_run rfl rfl rfl rfl ?_; refine l_neu (n_move rfl rfl) rfl ?_; refine l_run rfl rfl rfl rfl ?_; refine l_neu (n_move rfl rfl) rfl ?_; refine l_run rfl rfl rfl rfl ?_; refine l_neu (n_move rfl rfl) rfl ?_; refine l_run rfl rfl rfl rfl ?_; refine l_sees ((Sees.trans (clo_of_val (t := 61) rfl) (Sees.of (ob' := psOpen w0 w1 hs h.Old h.New h.Lines) (fr' := [(60, sBool false), (61, .s (.one (.clo 134 [] []))), (62, .s (.one (.ref 730 0))), (63, sStr (92 :: r)), (4, .s (.one (.ref 730 0))), (2, .s (.one (.ref 2 0))), (46, sList Str 1 strC R), (47, sInt R.length), (48, sInt k)]) ⟨le1 rfl, le1 rfl, le1 rfl, le1 rfl, le1 rfl, le1 rfl, le1 rfl, le1 rfl, le1 rfl, trivial⟩ ⟨rfl, rfl, rfl, rfl, trivial⟩))) ?_; refine l_metF (hm2 _) rfl rfl rfl rfl ?_; rintro _ _ ⟨rfl, rfl⟩; refine l_run rfl rfl rfl rfl ?_; refine l_neu (n_not rfl) rfl ?_; refine l_neu (n_pick_f rfl (rfl) rfl) rfl ?_; refine l_nil ?_
          refine k1 ?_
          refine c_cond rfl (fun ht => ?_) (fun ht => ?_)
          · refine k2 ?_
            refine c_region ?_; refine l_neu (n_build rfl) rfl ?_; refine l_eff (e_store_ref TySz.out rfl rfl rfl rfl rfl rfl) ?_; refine l_neu (n_assign rfl rfl) rfl ?_; refine l_nil ?_
            refine k1 ?_
            refine c_sees (Sees.listB PatchHunk 3 phunkC 2 2 rfl rfl) ?_
            refine k10 ?_; refine k12 ?_; refine k11 ?_; refine k11 ?_; refine k12 ?_; refine k11 ?_
            exact ret_ret (rs := [pPatch patch0, pBool false]) (retc2 rfl rfl rfl rfl rfl rfl rfl) (hnone hf.symm)
          · cases ht
    rw [choose_no c64 ctx c92]
    have hst := (hst64 none).2 (by rw [if_neg c92])
    rw [hst] at hf
    have hf : none = foldP [] R := hf
    refine c_sees (toShut rfl) ?_
    refine c_region ?_; refine l_neu (n_move rfl rfl) rfl ?_; refine l_neu (n_eql_fn0 rfl (by kernel_rfl)) rfl ?_; refine l_neu (n_move rfl rfl) rfl ?_; refine l_skip rfl rfl rfl (by simp) rfl ?_; refine l_skip rfl rfl rfl (by simp) rfl ?_; refine l_skip rfl rfl rfl (by simp) rfl ?_; refine l_skip rfl rfl rfl (by simp) rfl ?_; refine l_skip rfl rfl rfl (by simp) rfl ?_; refine l_neu (n_pick_t rfl (rfl) rfl) rfl ?_; refine l_nil ?_
    refine k1 ?_
    refine c_cond rfl (fun ht => ?_) (fun ht => ?_)
    · refine k2 ?_
      refine c_region ?_; refine l_neu (n_build rfl) rfl ?_; refine l_eff (e_store_ref TySz.out rfl rfl rfl rfl rfl rfl) ?_; refine l_neu (n_assign rfl rfl) rfl ?_; refine l_nil ?_
      refine k1 ?_
      refine c_sees (Sees.listB PatchHunk 3 phunkC 2 2 rfl rfl) ?_
      refine k10 ?_; refine k12 ?_; refine k11 ?_; refine k11 ?_; refine k12 ?_; refine k11 ?_
      exact ret_ret (rs := [pPatch patch0, pBool false]) (retc2 rfl rfl rfl rfl rfl rfl rfl) (hnone hf.symm)
    · cases ht
  · have hk2 : k = R.length := by have := of_decide_eq_false ht; omega
    subst hk2
    rw [List.drop_eq_nil_of_le (Nat.le_refl _)] at hf
    have hf : some hs = foldP [] R := hf
    refine k6 ?_; refine k2 ?_
    refine c_sees (toShut rfl) ?_
    refine c_sees (Sees.recell 731 phunkC rfl (fun x _ j _ rd u => phunk_cell j rd u)) ?_
    refine c_sees (Sees.freezeG (k := 731) rfl rfl) ?_
    refine c_cut [(4, .s (.one (.ref 730 0))), (2, .s (.one (.ref 2 0)))] [(730, .box [.p (.v (.string ⟨w0.toArray⟩)), .p (.v (.string ⟨w1.toArray⟩)), .p (.list PatchHunk 3 phunkC hs)]), (2, zBox)] (Sees.of ⟨le1 rfl, le1 rfl, trivial⟩ ⟨rfl, rfl, trivial⟩) ?_
    refine c_region ?_; refine l_neu (n_move rfl rfl) rfl ?_; refine l_neu (n_nilCheck_ref rfl) rfl ?_; refine l_neu (n_field_ref rfl) rfl ?_; refine l_neu (n_loads_ref rfl rfl rfl) rfl ?_; refine l_eff (e_store_ref TySz.out rfl rfl rfl rfl rfl rfl) ?_; refine l_neu (n_assign rfl rfl) rfl ?_; refine l_nil ?_
    refine k1 ?_; refine k10 ?_
    exact ret_ret (rs := [pPatch ⟨w0, w1, hs⟩, pBool true]) (retc2 rfl rfl rfl rfl rfl rfl rfl) (hPs hs hf.symm)
end Go.Proofs.YtjjidificdmnmaaGreatDoor
namespace Go.Proofs.YtjjidificdmnmaaGreatDoor
open Go Go.AL
set_option maxRecDepth 100000
theorem linesS_sz {s : Str} {l : List Str} (h : linesS s = some l) : (l.map fun t => t.length + 65).sum ≤ 66 * s.length ∧ ∀ t ∈ l, t.length ≤ s.length := by
  unfold linesS at h
  split at h
  · cases h; simp
  · split at h
    · have h : (linesOf s).map List.dropLast = l := Option.some.inj h
      obtain ⟨f1, f2⟩ := lines_flat s
      have hl := linesOf_length s
      have hsum : ∀ L : List Str, ((L.map List.dropLast).map fun t => t.length + 65).sum ≤ L.flatten.length + 65 * L.length := by
        intro L
        induction L with
        | nil => simp
        | cons x r ih =>
          simp only [List.map_cons, List.sum_cons, List.flatten_cons, List.length_append, List.length_cons, List.length_dropLast] at ih ⊢
          omega
      have hs := hsum (linesOf s)
      rw [h] at hs
      have hs2 : (l.map fun (t : Str) => t.length + 65).sum ≤ (linesOf s).flatten.length + 65 * (linesOf s).length := hs
      refine ⟨by omega, fun t ht => ?_⟩
      rw [← h] at ht
      obtain ⟨x, hx, rfl⟩ := List.mem_map.1 ht
      have := (List.sublist_flatten_of_mem hx).length_le
      rw [List.length_dropLast]; omega
    · cases h
theorem fold_sz {R : List Str} : ∀ {hs hs' : List PatchHunk}, foldP hs R = some hs' → szP hs' ≤ szP hs + (R.map fun t => t.length + 65).sum := by
  induction R with
  | nil => intro hs hs' h; cases h; simp
  | cons x r ih =>
    intro hs hs' h
    rw [foldP] at h
    cases hx : stepP hs x with
    | none => rw [hx] at h; cases h
    | some g =>
      rw [hx] at h
      have h1 := step_sz hx
      have h2 := ih h
      simp only [List.map_cons, List.sum_cons]; omega
theorem parseP_sz {l : List Str} {p : Patch} (h : parseP l = some p) : szP p.Hunks ≤ (l.map fun t => t.length + 65).sum := by
  unfold parseP at h
  match l with
  | [] => cases h
  | [_] => cases h
  | a :: b :: r =>
    dsimp only at h
    cases h1 : nameAt a [45, 45, 45, 32] with
    | none => rw [h1] at h; cases h
    | some o =>
      cases h2 : nameAt b [43, 43, 43, 32] with
      | none => rw [h1, h2] at h; cases h
      | some n =>
        rw [h1, h2] at h
        dsimp only at h
        cases h3 : foldP [] r with
        | none => rw [h3] at h; cases h
        | some hs =>
          rw [h3] at h
          have h : (⟨o, n, hs⟩ : Patch) = p := Option.some.inj h
          rw [← h]
          have := fold_sz h3
          simp only [List.map_cons, List.sum_cons]
          have e : szP ([] : List PatchHunk) = 0 := rfl
          first | omega | (dsimp only; omega)
def strictR (f : List Str → Option Patch) (s : Str) : List PV := [pPatch (strictBy f s).1, pInt (strictBy f s).2]
theorem stParse_ok (s : Str) (hs : s.length ≤ 1048576) : FnOk Tryz.prog 30 [pStr s] (fun rs => rs = strictR parseP s) := by
  have h16 : ¬ 16777216 < s.length := by omega
  have hL := stLines_ok s (by omega)
  have hfail : ∀ {x : Patch × Int}, strictBy parseP s = x → x = (patch0, 4) → [pPatch patch0, pInt 4] = strictR parseP s := by
    intro x h1 h2
    unfold strictR; rw [h1, h2]
  refine FnOk.intro Tryz.func30 (by decide) rfl rfl rfl rfl ?_
  refine k2 ?_
  refine c_region ?_; refine l_effv (f_alloc 2 rfl) rfl ?_; refine l_neu (n_assign rfl rfl) rfl ?_; refine l_nil ?_
  refine k1 ?_; refine k2 ?_; refine k2 ?_
  refine c_region ?_; refine l_neu (n_move rfl rfl) rfl ?_; refine l_neu (n_len_s rfl) rfl ?_; refine l_neu (n_gtr rfl rfl) rfl ?_; refine l_nil ?_
  refine k1 ?_
  refine c_cond rfl (fun ht => ?_) (fun ht => ?_)
  · exact absurd (of_decide_eq_true ht) (by omega)
  cases hl : linesS s with
  | none =>
    unfold linesR at hL
    rw [hl] at hL
    refine k5 ?_; refine k1 ?_; refine k2 ?_
    refine c_region ?_; refine l_neu (n_move rfl rfl) rfl ?_; refine l_call (hL) rfl rfl rfl ?_; rintro _ rfl; refine l_neu (n_move rfl rfl) rfl ?_; refine l_neu (n_extract rfl rfl) rfl ?_; refine l_neu (n_extract rfl rfl) rfl ?_; refine l_neu (n_assign rfl rfl) rfl ?_; refine l_neu (n_assign rfl rfl) rfl ?_; refine l_nil ?_
    refine k1 ?_; refine k2 ?_; refine k2 ?_
    refine c_region ?_; refine l_neu (n_move rfl rfl) rfl ?_; refine l_neu (n_not rfl) rfl ?_; refine l_nil ?_
    refine k1 ?_
    refine c_cond rfl (fun ht => ?_) (fun ht => ?_)
    · refine k2 ?_
      refine c_region ?_; refine l_neu (n_build rfl) rfl ?_; refine l_eff (e_store_ref TySz.out rfl rfl rfl rfl rfl rfl) ?_; refine l_neu (n_assign rfl rfl) rfl ?_; refine l_nil ?_
      refine k1 ?_
      refine c_sees (Sees.listB PatchHunk 3 phunkC 2 2 rfl rfl) ?_
      refine k10 ?_; refine k11 ?_
      exact ret_ret (rs := [pPatch patch0, pInt 4]) (retc2 rfl rfl rfl rfl rfl rfl rfl) (hfail rfl (by unfold strictBy; rw [if_neg h16, hl]))
    · cases ht
  | some l =>
    unfold linesR at hL
    rw [hl] at hL
    obtain ⟨z1, z2⟩ := linesS_sz hl
    have hP := stparse_ok l (by omega) (fun t ht => by have := z2 t ht; omega)
    cases hp : parseP l with
    | none =>
      unfold parseRes at hP
      rw [hp] at hP
      refine k5 ?_; refine k1 ?_; refine k2 ?_
      refine c_region ?_; refine l_neu (n_move rfl rfl) rfl ?_; refine l_call (hL) rfl rfl rfl ?_; rintro _ rfl; refine l_neu (n_move rfl rfl) rfl ?_; refine l_neu (n_extract rfl rfl) rfl ?_; refine l_neu (n_extract rfl rfl) rfl ?_; refine l_neu (n_assign rfl rfl) rfl ?_; refine l_neu (n_assign rfl rfl) rfl ?_; refine l_nil ?_
      refine k1 ?_; refine k2 ?_; refine k2 ?_
      refine c_region ?_; refine l_neu (n_move rfl rfl) rfl ?_; refine l_neu (n_not rfl) rfl ?_; refine l_nil ?_
      refine k1 ?_
      refine c_cond rfl (fun ht => ?_) (fun ht => ?_)
      · cases ht
      refine k5 ?_; refine k1 ?_; refine k2 ?_
      refine c_region ?_; refine l_neu (n_move rfl rfl) rfl ?_; refine l_call (hP) rfl rfl rfl ?_; rintro _ rfl; refine l_neu (n_move rfl rfl) rfl ?_; refine l_neu (n_extract rfl rfl) rfl ?_; refine l_neu (n_extract rfl rfl) rfl ?_; refine l_effv (f_alloc 6 rfl) rfl ?_; refine l_eff (e_store_ref TySz.out rfl rfl rfl rfl rfl rfl) ?_; refine l_neu (n_assign rfl rfl) rfl ?_; refine l_nil ?_
      refine k1 ?_; refine k2 ?_; refine k2 ?_
      refine c_region ?_; refine l_neu (n_move rfl rfl) rfl ?_; refine l_neu (n_not rfl) rfl ?_; refine l_nil ?_
      refine k1 ?_
      refine c_cond rfl (fun ht => ?_) (fun ht => ?_)
      · refine k2 ?_
        refine c_region ?_; refine l_neu (n_build rfl) rfl ?_; refine l_eff (e_store_ref TySz.out rfl rfl rfl rfl rfl rfl) ?_; refine l_neu (n_assign rfl rfl) rfl ?_; refine l_nil ?_
        refine k1 ?_
        refine c_sees (Sees.listB PatchHunk 3 phunkC 2 2 rfl rfl) ?_
        refine k10 ?_; refine k11 ?_
        exact ret_ret (rs := [pPatch patch0, pInt 4]) (retc2 rfl rfl rfl rfl rfl rfl rfl) (hfail rfl (by unfold strictBy; rw [if_neg h16, hl]; dsimp only; rw [hp]))
      · cases ht
    | some p =>
      unfold parseRes at hP
      rw [hp] at hP
      have hsz := parseP_sz hp
      have hF := uformat_ok p (by omega)
      have hS : strictBy parseP s = if check12 p ≠ 0 ∨ writeOf p ≠ s then (patch0, 4) else (p, 0) := by unfold strictBy; rw [if_neg h16, hl]; dsimp only; rw [hp]
      obtain ⟨w, hw⟩ : ∃ w, w = if check12 p ≠ 0 then [] else writeOf p := ⟨_, rfl⟩
      rw [← hw] at hF
      refine k5 ?_; refine k1 ?_; refine k2 ?_
      refine c_region ?_; refine l_neu (n_move rfl rfl) rfl ?_; refine l_call (hL) rfl rfl rfl ?_; rintro _ rfl; refine l_neu (n_move rfl rfl) rfl ?_; refine l_neu (n_extract rfl rfl) rfl ?_; refine l_neu (n_extract rfl rfl) rfl ?_; refine l_neu (n_assign rfl rfl) rfl ?_; refine l_neu (n_assign rfl rfl) rfl ?_; refine l_nil ?_
      refine k1 ?_; refine k2 ?_; refine k2 ?_
      refine c_region ?_; refine l_neu (n_move rfl rfl) rfl ?_; refine l_neu (n_not rfl) rfl ?_; refine l_nil ?_
      refine k1 ?_
      refine c_cond rfl (fun ht => ?_) (fun ht => ?_)
      · cases ht
      refine k5 ?_; refine k1 ?_; refine k2 ?_
      refine c_region ?_; refine l_neu (n_move rfl rfl) rfl ?_; refine l_call (hP) rfl rfl rfl ?_; rintro _ rfl; refine l_neu (n_move rfl rfl) rfl ?_; refine l_neu (n_extract rfl rfl) rfl ?_; refine l_neu (n_extract rfl rfl) rfl ?_; refine l_effv (f_alloc 6 rfl) rfl ?_; refine l_eff (e_store_ref TySz.out rfl rfl rfl rfl rfl rfl) ?_; refine l_neu (n_assign rfl rfl) rfl ?_; refine l_nil ?_
      refine k1 ?_; refine k2 ?_; refine k2 ?_
      refine c_region ?_; refine l_neu (n_move rfl rfl) rfl ?_; refine l_neu (n_not rfl) rfl ?_; refine l_nil ?_
      refine k1 ?_
      refine c_cond rfl (fun ht => ?_) (fun ht => ?_)
      · cases ht
      refine k5 ?_; refine k1 ?_; refine k2 ?_; refine k2 ?_
      refine c_region ?_; refine l_neu (n_loads_ref rfl rfl rfl) rfl ?_; refine l_call (hF) rfl rfl rfl ?_; rintro _ rfl; refine l_neu (n_move rfl rfl) rfl ?_; refine l_neu (n_extract rfl rfl) rfl ?_; refine l_neu (n_extract rfl rfl) rfl ?_; refine l_neu (n_assign rfl rfl) rfl ?_; refine l_neu (n_assign rfl rfl) rfl ?_; refine l_nil ?_
      refine k1 ?_; refine k2 ?_
      refine c_region ?_; refine l_neu (n_move rfl rfl) rfl ?_; refine l_neu (n_neq rfl rfl) rfl ?_; refine l_neu (n_move rfl rfl) rfl ?_; refine l_guard rfl rfl rfl rfl (fun hg => by rw [hg]; exact n_move rfl rfl) ?_; refine l_guard rfl rfl rfl rfl (fun hg => by rw [hg]; exact n_move rfl rfl) ?_; refine l_guard rfl rfl rfl rfl (fun hg => by rw [hg]; exact n_neq_s rfl rfl) ?_; refine l_neu (n_pick_bool rfl (fun h => by first | rfl | (rw [h]; rfl)) (fun h => by first | rfl | (rw [h]; rfl))) rfl ?_; refine l_nil ?_
      simp only [or_pick]
      refine k1 ?_
      by_cases hb : check12 p ≠ 0 ∨ writeOf p ≠ s
      · rw [if_pos hb] at hS
        refine c_cond rfl (fun ht => ?_) (fun ht => ?_)
        rotate_left
        · exfalso
          have h1 := of_decide_eq_false ht
          by_cases hc : check12 p = 0
          · rw [if_neg (by simp [hc])] at hw
            rcases hb with h | h
            · exact h hc
            · exact h1 (.inr (by rw [hw]; exact h))
          · exact h1 (.inl hc)
        refine k2 ?_
        refine c_region ?_; refine l_neu (n_build rfl) rfl ?_; refine l_eff (e_store_ref TySz.out rfl rfl rfl rfl rfl rfl) ?_; refine l_neu (n_assign rfl rfl) rfl ?_; refine l_nil ?_
        refine k1 ?_
        refine c_sees (Sees.listB PatchHunk 3 phunkC 2 2 rfl rfl) ?_
        refine k10 ?_; refine k11 ?_
        exact ret_ret (rs := [pPatch patch0, pInt 4]) (retc2 rfl rfl rfl rfl rfl rfl rfl) (hfail hS rfl)
      · rw [if_neg hb] at hS
        have hc : check12 p = 0 := Decidable.not_not.1 fun h => hb (.inl h)
        have hws : writeOf p = s := Decidable.not_not.1 fun h => hb (.inr h)
        rw [if_neg (by simp [hc])] at hw
        refine c_cond rfl (fun ht => ?_) (fun ht => ?_)
        · exfalso
          rcases of_decide_eq_true ht with h | h
          · exact h hc
          · exact h (by rw [hw]; exact hws)
        refine k5 ?_; refine k1 ?_; refine k2 ?_
        refine c_region ?_; refine l_neu (n_loads_ref rfl rfl rfl) rfl ?_; refine l_eff (e_store_ref TySz.out rfl rfl rfl rfl rfl rfl) ?_; refine l_neu (n_assign rfl rfl) rfl ?_; refine l_nil ?_
        refine k1 ?_; refine k10 ?_
        exact ret_ret (rs := [pPatch p, pInt 0]) (retc2 rfl rfl rfl rfl rfl rfl rfl) (by unfold strictR; rw [hS])
end Go.Proofs.YtjjidificdmnmaaGreatDoor
namespace Go.Proofs.YtjjidificdmnmaaGreatDoor
open Go Go.AL
set_option maxRecDepth 100000
set_option maxHeartbeats 1000000
end Go.Proofs.YtjjidificdmnmaaGreatDoor
namespace Go.Proofs.YtjjidificdmnmaaGreatDoor
open Go Go.AL
set_option maxRecDepth 100000
theorem parse_written {p : Patch} (hc : check12 p = 0) (hw : (writeOf p).length ≤ 1048576) : FnOk Tryz.prog 30 [pStr (writeOf p)] (fun rs => rs = [pPatch p, pInt 0]) := by
  have h := stParse_ok (writeOf p) hw
  unfold strictR at h
  rw [strictBy_of (fun p hg => parseP_back hg) hc] at h
  exact h
theorem awake13_ok : FnOk Tryz.prog 32 [] (fun rs => rs = [pBool true]) := by
  have e1 : writeOf ⟨[97], [98], []⟩ = [45, 45, 45, 32, 97, 10, 43, 43, 43, 32, 98, 10] := by decide
  have hp1 := parse_written (p := ⟨[97], [98], []⟩) (by decide) (by rw [e1]; decide)
  rw [e1] at hp1
  have hp2 := stParse_ok [] (by simp)
  have e2 : strictBy parseP [] = (patch0, 4) := rfl
  unfold strictR at hp2
  rw [e2] at hp2
  refine FnOk.intro Tryz.func32 (by decide) rfl rfl rfl rfl ?_
  refine k2 ?_
  refine c_region ?_; refine l_neu (n_assign rfl rfl) rfl ?_; refine l_nil ?_
  refine k1 ?_; refine k2 ?_
  refine c_region ?_; refine l_call (hp1) rfl rfl rfl ?_; rintro _ rfl; refine l_neu (n_move rfl rfl) rfl ?_; refine l_neu (n_extract rfl rfl) rfl ?_; refine l_neu (n_extract rfl rfl) rfl ?_; refine l_effv (f_alloc 1 rfl) rfl ?_; refine l_eff (e_store_ref TySz.out rfl rfl rfl rfl rfl rfl) ?_; refine l_neu (n_assign rfl rfl) rfl ?_; refine l_nil ?_
  refine k1 ?_; refine k2 ?_
  refine c_region ?_; refine l_call (hp2) rfl rfl rfl ?_; rintro _ rfl; refine l_neu (n_move rfl rfl) rfl ?_; refine l_neu (n_extract rfl rfl) rfl ?_; refine l_neu (n_extract rfl rfl) rfl ?_; refine l_effv (f_alloc 3 rfl) rfl ?_; refine l_eff (e_store_ref TySz.out rfl rfl rfl rfl rfl rfl) ?_; refine l_neu (n_assign rfl rfl) rfl ?_; refine l_nil ?_
  refine k1 ?_; refine k2 ?_
  refine c_region ?_; refine l_neu (n_move rfl rfl) rfl ?_; refine l_neu (n_eql rfl rfl) rfl ?_; refine l_neu (n_move rfl rfl) rfl ?_; refine l_guard rfl rfl rfl rfl (fun hg => by rw [hg]; exact n_field_ref rfl) ?_; refine l_guard rfl rfl rfl rfl (fun hg => by rw [hg]; exact n_load_ref rfl rfl rfl) ?_; refine l_guard rfl rfl rfl rfl (fun hg => by rw [hg]; exact n_eql_s rfl rfl) ?_; refine l_neu (n_pick_bool rfl (fun h => by first | rfl | (rw [h]; rfl)) (fun h => by first | rfl | (rw [h]; rfl))) rfl ?_; refine l_neu (n_move rfl rfl) rfl ?_; refine l_guard rfl rfl rfl rfl (fun hg => by rw [hg]; exact n_field_ref rfl) ?_; refine l_guard rfl rfl rfl rfl (fun hg => by rw [hg]; exact n_load_ref rfl rfl rfl) ?_; refine l_guard rfl rfl rfl rfl (fun hg => by rw [hg]; exact n_eql_s rfl rfl) ?_; refine l_neu (n_pick_bool rfl (fun h => by first | rfl | (rw [h]; rfl)) (fun h => by first | rfl | (rw [h]; rfl))) rfl ?_; refine l_neu (n_move rfl rfl) rfl ?_; refine l_guard rfl rfl rfl rfl (fun hg => by rw [hg]; exact n_field_ref rfl) ?_; refine l_guard rfl rfl rfl rfl (fun hg => by rw [hg]; exact n_load_ref rfl rfl rfl) ?_; refine l_guard rfl rfl rfl rfl (fun hg => by rw [hg]; exact n_len rfl (.pure _ _ _ _)) ?_; refine l_guard rfl rfl rfl rfl (fun hg => by rw [hg]; exact n_eql rfl rfl) ?_; refine l_neu (n_pick_bool rfl (fun h => by first | rfl | (rw [h]; rfl)) (fun h => by first | rfl | (rw [h]; rfl))) rfl ?_; refine l_neu (n_move rfl rfl) rfl ?_; refine l_guard rfl rfl rfl rfl (fun hg => by rw [hg]; exact n_move rfl rfl) ?_; refine l_guard rfl rfl rfl rfl (fun hg => by rw [hg]; exact n_eql rfl rfl) ?_; refine l_neu (n_pick_bool rfl (fun h => by first | rfl | (rw [h]; rfl)) (fun h => by first | rfl | (rw [h]; rfl))) rfl ?_; refine l_neu (n_assign rfl rfl) rfl ?_; refine l_nil ?_
  refine k1 ?_; refine k10 ?_
  exact ret_ret (ret1 rfl rfl rfl) rfl
end Go.Proofs.YtjjidificdmnmaaGreatDoor
namespace Go.Proofs.YtjjidificdmnmaaGreatDoor
open Go Go.AL
set_option maxRecDepth 100000
set_option maxHeartbeats 1000000
end Go.Proofs.YtjjidificdmnmaaGreatDoor
namespace Go.Proofs.YtjjidificdmnmaaGreatDoor
open Go Go.AL
set_option maxRecDepth 100000
theorem bodyR_end {l : List Str} {i : Nat} {m n : Int} {acc : List PatchLine} (h : ¬ (0 < m ∨ 0 < n)) : bodyR l i m n acc = some (acc, i) := by rw [bodyR, if_neg h]
theorem bodyR_out {l : List Str} {i : Nat} {m n : Int} {acc : List PatchLine} (h : 0 < m ∨ 0 < n) (h2 : l.length ≤ i) : bodyR l i m n acc = none := by rw [bodyR, if_pos h, dif_neg (by omega)]
theorem bodyR_nil {l : List Str} {i : Nat} {m n : Int} {acc : List PatchLine} (h : 0 < m ∨ 0 < n) (h2 : l[i]? = some []) : bodyR l i m n acc = none := by
  obtain ⟨hi, he⟩ := List.getElem?_eq_some_iff.1 h2
  rw [bodyR, if_pos h, dif_pos hi, he]
theorem bodyR_mark {l : List Str} {i : Nat} {m n : Int} {acc : List PatchLine} {c : UInt8} {t : Str} (h : 0 < m ∨ 0 < n) (h2 : l[i]? = some (c :: t)) (h3 : l[i + 1]? = some noNl) :
    bodyR l i m n acc = bodyR l (i + 2) (if c = 43 then m else m - 1) (if c = 45 then n else n - 1) (acc ++ [⟨c, t⟩]) := by
  obtain ⟨hi, he⟩ := List.getElem?_eq_some_iff.1 h2
  rw [bodyR, if_pos h, dif_pos hi, he]
  dsimp only
  rw [if_pos h3]
theorem bodyR_line {l : List Str} {i : Nat} {m n : Int} {acc : List PatchLine} {c : UInt8} {t : Str} (h : 0 < m ∨ 0 < n) (h2 : l[i]? = some (c :: t)) (h3 : l[i + 1]? ≠ some noNl) :
    bodyR l i m n acc = bodyR l (i + 1) (if c = 43 then m else m - 1) (if c = 45 then n else n - 1) (acc ++ [⟨c, t ++ [10]⟩]) := by
  obtain ⟨hi, he⟩ := List.getElem?_eq_some_iff.1 h2
  rw [bodyR, if_pos h, dif_pos hi, he]
  dsimp only
  rw [if_neg h3]
theorem hunksR_end {l : List Str} {i : Nat} {hs : List PatchHunk} (h : l.length ≤ i) : hunksR l i hs = some hs := by rw [hunksR, dif_neg (by omega)]
theorem hunksR_bad {l : List Str} {i : Nat} {hs : List PatchHunk} {x : Str} (h : l[i]? = some x) (h2 : headAt x = none) : hunksR l i hs = none := by
  obtain ⟨hi, he⟩ := List.getElem?_eq_some_iff.1 h
  rw [hunksR, dif_pos hi, he, h2]
theorem hunksR_none {l : List Str} {i : Nat} {hs : List PatchHunk} {x : Str} {a m b n : Int} (h : l[i]? = some x) (h2 : headAt x = some (a, m, b, n)) (h3 : bodyR l (i + 1) m n [] = none) : hunksR l i hs = none := by
  obtain ⟨hi, he⟩ := List.getElem?_eq_some_iff.1 h
  rw [hunksR, dif_pos hi, he, h2]
  dsimp only
  rw [h3]
theorem hunksR_step {l : List Str} {i j : Nat} {hs : List PatchHunk} {ls : List PatchLine} {x : Str} {a m b n : Int} (h : l[i]? = some x) (h2 : headAt x = some (a, m, b, n)) (h3 : bodyR l (i + 1) m n [] = some (ls, j)) (hj : i + 1 ≤ j) :
    hunksR l i hs = hunksR l j (hs ++ [⟨a, b, ls⟩]) := by
  obtain ⟨hi, he⟩ := List.getElem?_eq_some_iff.1 h
  rw [hunksR, dif_pos hi, he, h2]
  dsimp only
  rw [h3]
  dsimp only
  rw [show max j (i + 1) = j by omega]
theorem headAt_cnt {x : Str} {a m b n : Int} (h : headAt x = some (a, m, b, n)) : (0 ≤ m ∧ m ≤ 2147483647) ∧ (0 ≤ n ∧ n ≤ 2147483647) := by
  have hr : ∀ {s : Str} {a n : Int} {e : Nat}, rngAt s = some (a, n, e) → 0 ≤ n ∧ n ≤ 2147483647 := by
    intro s a n e h
    have hf : ∀ {s : Str} {a c e : Nat} {r : Int × Int × Nat}, rngFin s a c e = some r → r.2.1 = c := by
      intro s a c e r h
      unfold rngFin at h
      obtain ⟨st, hst⟩ : ∃ st : Int, st = if 0 < c then (a : Int) - 1 else a := ⟨_, rfl⟩
      rw [← hst] at h
      by_cases hc : rangeOf st c = s.take e
      · rw [if_pos hc] at h; cases h; rfl
      · rw [if_neg hc] at h; cases h
    unfold rngAt at h
    cases h1 : numAt s with
    | none => rw [h1] at h; cases h
    | some p =>
      obtain ⟨v, k⟩ := p
      rw [h1] at h
      dsimp only at h
      split at h
      · cases h2 : numAt (s.drop (k + 1)) with
        | none => rw [h2] at h; cases h
        | some q =>
          obtain ⟨c, k'⟩ := q
          rw [h2] at h
          have := hf h
          have := (num_facts h2).2.2.2.2
          dsimp only at *; omega
      · have := hf h
        dsimp only at this; omega
  have hs : ∀ {l pre : Str} {i : Nat} {a n : Int} {e : Nat}, spanAt l i pre = some (a, n, e) → 0 ≤ n ∧ n ≤ 2147483647 := by
    intro l pre i a n e h
    unfold spanAt at h
    split at h
    · cases h3 : rngAt (l.drop (i + pre.length)) with
      | none => rw [h3] at h; cases h
      | some q =>
        obtain ⟨x, y, z⟩ := q
        rw [h3] at h
        have := hr h3
        simp at h; omega
    · cases h
  unfold headAt at h
  cases h1 : spanAt x 0 [64, 64, 32, 45] with
  | none => rw [h1] at h; cases h
  | some q =>
    obtain ⟨a1, m1, i1⟩ := q
    rw [h1] at h
    dsimp only at h
    cases h2 : spanAt x i1 [32, 43] with
    | none => rw [h2] at h; cases h
    | some q2 =>
      obtain ⟨b1, n1, j1⟩ := q2
      rw [h2] at h
      dsimp only at h
      have := hs h1
      have := hs h2
      split at h
      · cases h; omega
      · cases h
abbrev pBox (o n : Str) (hs : List PatchHunk) : Ob := .box [.p (.v (.string ⟨o.toArray⟩)), .p (.v (.string ⟨n.toArray⟩)), .buf 701 PatchHunk 3 phunkC hs]
abbrev hBox (a b : Int) (ls : List PatchLine) : Ob := .box [.p (.v (.int .i64 a)), .p (.v (.int .i64 b)), .buf 702 PatchLine 2 plineC ls]
set_option maxHeartbeats 2000000
theorem rread_ok (l : List Str) (hll : l.length ≤ 134217728) (hsz : ∀ s ∈ l, s.length ≤ 4194304) : FnOk Tryz.prog 60 [pStrs l]
    (fun rs => ∃ (p : Patch) (ok : Bool), rs = [pPatch p, pBool ok] ∧ match readR l with
      | some p' => ok = true ∧ p = p'
      | none => ok = false) := by
  have hR : ∀ (x y : Option Str), (if 0 < l.length then nameAt (l.getD 0 []) [45, 45, 45, 32] else none) = x → (if 1 < l.length then nameAt (l.getD 1 []) [43, 43, 43, 32] else none) = y → readR l = match x, y with
      | some o, some n => (match hunksR l 2 [] with | some hs => some ⟨o, n, hs⟩ | none => none)
      | _, _ => none := by
    intro x y h1 h2
    have e1 : nameAt (l.getD 0 []) [45, 45, 45, 32] = x := by
      rw [← h1]
      by_cases h : 0 < l.length
      · rw [if_pos h]
      · rw [if_neg h, List.getD_eq_getElem?_getD, List.getElem?_eq_none (by omega)]; rfl
    have e2 : nameAt (l.getD 1 []) [43, 43, 43, 32] = y := by
      rw [← h2]
      by_cases h : 1 < l.length
      · rw [if_pos h]
      · rw [if_neg h, List.getD_eq_getElem?_getD, List.getElem?_eq_none (by omega)]; rfl
    unfold readR
    rw [e1, e2]
    rfl
  have hn0 := rnamed_ok l 0 [45, 45, 45, 32] hsz (by omega)
  have hn1 := rnamed_ok l 1 [43, 43, 43, 32] hsz (by omega)
  obtain ⟨x0, hx0⟩ : ∃ x, x = (if 0 < l.length then nameAt (l.getD 0 []) [45, 45, 45, 32] else none) := ⟨_, rfl⟩
  obtain ⟨x1, hx1⟩ : ∃ x, x = (if 1 < l.length then nameAt (l.getD 1 []) [43, 43, 43, 32] else none) := ⟨_, rfl⟩
  have hR := hR x0 x1 hx0.symm hx1.symm
  have hl2 : x1 ≠ none → 1 < l.length := by
    intro h
    rw [hx1] at h
    by_cases h2 : 1 < l.length
    · exact h2
    · rw [if_neg h2] at h; exact absurd rfl h
  rw [← hx0] at hn0
  rw [← hx1] at hn1
  refine FnOk.intro Tryz.func60 (by decide) rfl rfl rfl rfl ?_
  refine k2 ?_
  refine c_region ?_; refine l_effv (f_alloc 2 rfl) rfl ?_; refine l_neu (n_assign rfl rfl) rfl ?_; refine l_nil ?_
  refine k1 ?_; refine k2 ?_
  refine c_region ?_; refine l_neu (n_move rfl rfl) rfl ?_; refine l_call (hn0) rfl rfl rfl ?_; rintro _ ⟨w0, b0, rfl, h0⟩; refine l_neu (n_move rfl rfl) rfl ?_; refine l_neu (n_extract rfl rfl) rfl ?_; refine l_neu (n_extract rfl rfl) rfl ?_; refine l_neu (n_assign rfl rfl) rfl ?_; refine l_neu (n_assign rfl rfl) rfl ?_; refine l_nil ?_
  refine k1 ?_; refine k2 ?_
  refine c_region ?_; refine l_neu (n_move rfl rfl) rfl ?_; refine l_call (hn1) rfl rfl rfl ?_; rintro _ ⟨w1, b1, rfl, h1⟩; refine l_neu (n_move rfl rfl) rfl ?_; refine l_neu (n_extract rfl rfl) rfl ?_; refine l_neu (n_extract rfl rfl) rfl ?_; refine l_neu (n_assign rfl rfl) rfl ?_; refine l_neu (n_assign rfl rfl) rfl ?_; refine l_nil ?_
  refine k1 ?_; refine k2 ?_
  refine c_region ?_; refine l_neu (n_move rfl rfl) rfl ?_; refine l_neu (n_move rfl rfl) rfl ?_; refine l_neu (n_build rfl) rfl ?_; refine l_effv (f_alloc 8 rfl) rfl ?_; refine l_eff (e_store_ref TySz.out rfl rfl rfl rfl rfl rfl) ?_; refine l_nil ?_
  refine k1 ?_; refine k2 ?_; refine k2 ?_
  refine c_region ?_; refine l_neu (n_move rfl rfl) rfl ?_; refine l_neu (n_not rfl) rfl ?_; refine l_neu (n_move rfl rfl) rfl ?_; refine l_guard rfl rfl rfl rfl (fun hg => by rw [hg]; exact n_move rfl rfl) ?_; refine l_guard rfl rfl rfl rfl (fun hg => by rw [hg]; exact n_not rfl) ?_; refine l_neu (n_pick_bool rfl (fun h => by first | rfl | (rw [h]; rfl)) (fun h => by first | rfl | (rw [h]; rfl))) rfl ?_; refine l_nil ?_
  refine k1 ?_
  by_cases hbad : x0 = none ∨ x1 = none
  · have hRn : readR l = none := by
      rw [hR]
      rcases hbad with h | h
      · rw [h]
      · rw [h]; cases x0 <;> rfl
    rw [hRn]
    refine c_cond rfl (fun ht => ?_) (fun ht => ?_)
    · refine k2 ?_
      refine c_region ?_; refine l_neu (n_loads_ref rfl rfl rfl) rfl ?_; refine l_eff (e_store_ref TySz.out rfl rfl rfl rfl rfl rfl) ?_; refine l_neu (n_assign rfl rfl) rfl ?_; refine l_nil ?_
      refine k1 ?_
      refine c_sees (Sees.listB PatchHunk 3 phunkC 2 2 rfl rfl) ?_
      refine k10 ?_; refine k11 ?_
      exact ret_ret (rs := [pPatch ⟨w0, w1, []⟩, pBool false]) (retc2 rfl rfl rfl rfl rfl rfl rfl) ⟨_, false, rfl, rfl⟩
    · exfalso
      rcases hbad with h | h
      · rw [h] at h0; have h0 : b0 = false := h0; rw [h0] at ht; cases ht
      · rw [h] at h1; have h1 : b1 = false := h1; rw [h1] at ht; cases b0 <;> cases ht
  obtain ⟨o, ho⟩ : ∃ o, x0 = some o := by
    cases h : x0 with
    | none => exact absurd (.inl h) hbad
    | some o => exact ⟨o, rfl⟩
  obtain ⟨n', hn'⟩ : ∃ n, x1 = some n := by
    cases h : x1 with
    | none => exact absurd (.inr h) hbad
    | some n => exact ⟨n, rfl⟩
  have hlen2 := hl2 (by rw [hn']; simp)
  rw [ho] at h0
  rw [hn'] at h1
  obtain ⟨rfl, rfl⟩ := h0
  obtain ⟨rfl, rfl⟩ := h1
  have hRn : hunksR l 2 [] = none → readR l = none := by intro h; rw [hR, ho, hn']; dsimp only; rw [h]
  have hRs : ∀ hs, hunksR l 2 [] = some hs → readR l = some ⟨w0, w1, hs⟩ := by intro hs h; rw [hR, ho, hn']; dsimp only; rw [h]
  clear hR hx0 hx1 hn0 hn1 hl2
  refine c_cond rfl (fun ht => ?_) (fun ht => ?_)
  · cases ht
  refine c_cut [(0, sList Str 1 strC l), (2, .s (.one (.ref 2 0))), (8, .s (.one (.ref 8 0)))] [(2, zBox), (8, .box [.p (.v (.string ⟨w0.toArray⟩)), .p (.v (.string ⟨w1.toArray⟩)), .p (.v (.slice none 0 0))])] (Sees.of ⟨le1 rfl, le1 rfl, le1 rfl, trivial⟩ ⟨rfl, rfl, trivial⟩) ?_
  refine k5 ?_; refine k1 ?_; refine k2 ?_
  refine c_sees (Sees.adoptB 701 PatchHunk 3 phunkC 29 (kb := 8) (o := 2) rfl rfl rfl) ?_
  refine c_region ?_; refine l_neu (n_assign rfl rfl) rfl ?_; refine l_nil ?_
  refine k1 ?_; refine k2 ?_; refine k3 ?_
  refine c_while (X := Nat × List PatchHunk) (fun x => ([(0, sList Str 1 strC l), (2, .s (.one (.ref 2 0))), (8, .s (.one (.ref 8 0))), (9, sInt x.1)], [(2, zBox), (8, pBox w0 w1 x.2), (701, .spare x.2.length 3 29)])) (fun x => x.1 ≤ l.length ∧ x.2.length ≤ x.1 ∧ hunksR l x.1 x.2 = hunksR l 2 []) (fun x => l.length - x.1) (2, []) ⟨hlen2, Nat.zero_le _, rfl⟩ (Sees.of ⟨le1 rfl, le1 rfl, le1 rfl, le1 rfl, trivial⟩ ⟨rfl, rfl, rfl, trivial⟩) ?_
  rintro ⟨i, hs⟩ ⟨hi, hhl, hf⟩
  dsimp only at hi hhl hf ⊢
  refine k2 ?_; refine k2 ?_
  refine c_region ?_; refine l_neu (n_move rfl rfl) rfl ?_; refine l_neu (n_move rfl rfl) rfl ?_; refine l_neu (n_len rfl (.pure _ _ _ _)) rfl ?_; refine l_neu (n_lss rfl rfl) rfl ?_; refine l_nil ?_
  refine k1 ?_
  refine c_cond rfl (fun ht => ?_) (fun ht => ?_)
  rotate_left
  · have he : l.length ≤ i := by have := of_decide_eq_false ht; omega
    rw [hunksR_end he] at hf
    refine k6 ?_; refine k2 ?_
    refine c_region ?_; refine l_neu (n_loads_ref rfl rfl rfl) rfl ?_; refine l_eff (e_store_ref TySz.out rfl rfl rfl rfl rfl rfl) ?_; refine l_neu (n_assign rfl rfl) rfl ?_; refine l_nil ?_
    refine k1 ?_; refine k10 ?_
    exact ret_ret (rs := [pPatch ⟨w0, w1, hs⟩, pBool true]) (retc2 rfl rfl rfl rfl rfl rfl rfl) ⟨_, true, rfl, by rw [hRs hs hf.symm]; exact ⟨rfl, rfl⟩⟩
  have hlt : i < l.length := by have := of_decide_eq_true ht; omega
  obtain ⟨x, hx⟩ : ∃ x, x = l[i] := ⟨_, rfl⟩
  have hv : l[i]? = some x := by rw [hx]; simp [hlt]
  have hxz := hsz x (List.mem_of_getElem? hv)
  refine k5 ?_; refine k1 ?_; refine k3 ?_; refine k2 ?_
  refine c_region ?_; refine l_neu (n_move rfl rfl) rfl ?_; refine l_neu (n_move rfl rfl) rfl ?_; refine l_neu (n_indexAddr rfl (.pure _ _ _ _) rfl (by omega) hv) rfl ?_; refine l_neu (n_load_eref rfl rfl) rfl ?_; refine l_call (rheader_ok x (by omega)) rfl rfl rfl ?_; rintro _ ⟨a, m0, b, n0, ok, rfl, hh⟩; refine l_neu (n_move rfl rfl) rfl ?_; refine l_neu (n_extract rfl rfl) rfl ?_; refine l_neu (n_extract rfl rfl) rfl ?_; refine l_neu (n_extract rfl rfl) rfl ?_; refine l_neu (n_extract rfl rfl) rfl ?_; refine l_neu (n_extract rfl rfl) rfl ?_; refine l_neu (n_assign rfl rfl) rfl ?_; refine l_neu (n_assign rfl rfl) rfl ?_; refine l_neu (n_assign rfl rfl) rfl ?_; refine l_neu (n_assign rfl rfl) rfl ?_; refine l_neu (n_assign rfl rfl) rfl ?_; refine l_nil ?_
  refine k1 ?_; refine k2 ?_; refine k2 ?_
  refine c_region ?_; refine l_neu (n_move rfl rfl) rfl ?_; refine l_neu (n_not rfl) rfl ?_; refine l_nil ?_
  refine k1 ?_
  cases hH : headAt x with
  | none =>
    rw [hH] at hh
    have hh : ok = false := hh
    subst hh
    rw [hunksR_bad hv hH] at hf
    refine c_cond rfl (fun ht => ?_) (fun ht => ?_)
    · refine k2 ?_
      refine c_region ?_; refine l_neu (n_loads_ref rfl rfl rfl) rfl ?_; refine l_eff (e_store_ref TySz.out rfl rfl rfl rfl rfl rfl) ?_; refine l_neu (n_assign rfl rfl) rfl ?_; refine l_nil ?_
      refine k1 ?_; refine k10 ?_; refine k11 ?_; refine k12 ?_; refine k11 ?_; refine k12 ?_; refine k11 ?_
      exact ret_ret (rs := [pPatch ⟨w0, w1, hs⟩, pBool false]) (retc2 rfl rfl rfl rfl rfl rfl rfl) ⟨_, false, rfl, by rw [hRn hf.symm]⟩
    · cases ht
  | some q =>
    obtain ⟨a', m', b', n''⟩ := q
    rw [hH] at hh
    obtain ⟨rfl, rfl, rfl, rfl, rfl⟩ := hh
    have hcnt := headAt_cnt hH
    refine c_cond rfl (fun ht => ?_) (fun ht => ?_)
    · cases ht
    refine k5 ?_; refine k1 ?_; refine k2 ?_
    refine c_region ?_; refine l_neu (n_move rfl rfl) rfl ?_; refine l_neu (n_add rfl rfl (by omega)) rfl ?_; refine l_neu (n_assign rfl rfl) rfl ?_; refine l_nil ?_
    refine k1 ?_; refine k2 ?_
    refine c_region ?_; refine l_neu (n_move rfl rfl) rfl ?_; refine l_neu (n_move rfl rfl) rfl ?_; refine l_neu (n_build rfl) rfl ?_; refine l_effv (f_alloc 15 rfl) rfl ?_; refine l_eff (e_store_ref TySz.out rfl rfl rfl rfl rfl rfl) ?_; refine l_nil ?_
    refine then_normal ?_
    refine c_cut [(0, sList Str 1 strC l), (2, .s (.one (.ref 2 0))), (8, .s (.one (.ref 8 0))), (9, sInt ((i : Int) + 1)), (11, sInt m0), (13, sInt n0), (15, .s (.one (.ref 15 0)))] [(2, zBox), (8, pBox w0 w1 hs), (701, .spare hs.length 3 29), (15, .box [.p (.v (.int .i64 a)), .p (.v (.int .i64 b)), .p (.v (.slice none 0 0))])] (Sees.of ⟨le1 rfl, le1 rfl, le1 rfl, le1 rfl, le1 rfl, le1 rfl, le1 rfl, trivial⟩ ⟨rfl, rfl, rfl, rfl, trivial⟩) ?_
    refine c_sees (Sees.adoptB 702 PatchLine 2 plineC 36 (kb := 15) (o := 2) rfl rfl rfl) ?_
    refine k2 ?_; refine k3 ?_
    refine c_while (X := Nat × Int × Int × List PatchLine) (fun z => ([(0, sList Str 1 strC l), (2, .s (.one (.ref 2 0))), (8, .s (.one (.ref 8 0))), (9, sInt z.1), (11, sInt z.2.1), (13, sInt z.2.2.1), (15, .s (.one (.ref 15 0)))], [(2, zBox), (8, pBox w0 w1 hs), (701, .spare hs.length 3 29), (15, hBox a b z.2.2.2), (702, .spare z.2.2.2.length 2 36)])) (fun z => i + 1 ≤ z.1 ∧ z.1 ≤ l.length ∧ (-(z.1 : Int) ≤ z.2.1 ∧ z.2.1 ≤ 2147483647) ∧ (-(z.1 : Int) ≤ z.2.2.1 ∧ z.2.2.1 ≤ 2147483647) ∧ z.2.2.2.length ≤ z.1 ∧ bodyR l z.1 z.2.1 z.2.2.1 z.2.2.2 = bodyR l (i + 1) m0 n0 []) (fun z => l.length - z.1) (i + 1, m0, n0, []) ⟨Nat.le_refl _, hlt, by dsimp only; omega, by dsimp only; omega, Nat.zero_le _, rfl⟩ (Sees.of ⟨le1 rfl, le1 rfl, le1 rfl, le1 rfl, le1 rfl, le1 rfl, le1 rfl, trivial⟩ ⟨rfl, rfl, rfl, rfl, rfl, trivial⟩) ?_
    rintro ⟨j, m, n, ls⟩ ⟨hj1, hj2, hm, hn, hls, hb⟩
    dsimp only at hj1 hj2 hm hn hls hb ⊢
    refine k2 ?_; refine k2 ?_
    refine c_region ?_; refine l_neu (n_move rfl rfl) rfl ?_; refine l_neu (n_gtr rfl rfl) rfl ?_; refine l_neu (n_move rfl rfl) rfl ?_; refine l_guard rfl rfl rfl rfl (fun hg => by rw [hg]; exact n_move rfl rfl) ?_; refine l_guard rfl rfl rfl rfl (fun hg => by rw [hg]; exact n_gtr rfl rfl) ?_; refine l_neu (n_pick_bool rfl (fun h => by first | rfl | (rw [h]; rfl)) (fun h => by first | rfl | (rw [h]; rfl))) rfl ?_; refine l_nil ?_
    simp only [or_pick]
    refine k1 ?_
    refine c_cond rfl (fun ht => ?_) (fun ht => ?_)
    rotate_left
    · have hend : ¬ (0 < m ∨ 0 < n) := of_decide_eq_false ht
      rw [bodyR_end hend] at hb
      rw [hunksR_step hv hH hb.symm hj1] at hf
      refine k6 ?_; refine k7 ?_; refine k7 ?_; refine k8 rfl ?_; refine k1 ?_
      refine c_region ?_; refine l_neu (n_field_ref rfl) rfl ?_; refine l_neu (n_load_ref rfl rfl rfl) rfl ?_; refine l_neu (n_loads_ref rfl rfl rfl) rfl ?_; refine l_neu (n_buildSlice (c := phunkC) (ys := [⟨a, b, ls⟩]) (asm_cons rfl rfl rfl rfl asm_nil) rfl rfl rfl) rfl ?_; refine l_effv (e_append rfl rfl rfl (.pure _ _ _ _) (by (simp; omega)) rfl) rfl ?_; refine l_neu (n_field_ref rfl) rfl ?_; refine l_eff (e_store_ref TySz.out rfl rfl rfl rfl rfl rfl) ?_; refine l_nil ?_
      refine k4 ?_; refine k1 ?_
      exact ⟨(j, hs ++ [⟨a, b, ls⟩]), ⟨hj2, by simp; omega, hf⟩, by dsimp only; omega, Sees.of ⟨le1 rfl, le1 rfl, le1 rfl, le1 rfl, trivial⟩ ⟨rfl, rfl, rfl, trivial⟩⟩
    have hpos : 0 < m ∨ 0 < n := of_decide_eq_true ht
    obtain ⟨y, hy⟩ : ∃ y, y = l.getD j [] := ⟨_, rfl⟩
    have hvy : j < l.length → l[j]? = some y := fun h => by rw [hy]; simp [h]
    refine k5 ?_; refine k1 ?_; refine k3 ?_; refine k2 ?_; refine k2 ?_
    refine c_region ?_; refine l_neu (n_move rfl rfl) rfl ?_; refine l_neu (n_move rfl rfl) rfl ?_; refine l_neu (n_len rfl (.pure _ _ _ _)) rfl ?_; refine l_neu (n_geq rfl rfl) rfl ?_; refine l_neu (n_move rfl rfl) rfl ?_; refine l_guard rfl rfl rfl rfl (fun hg => by rw [hg]; exact n_move rfl rfl) ?_; refine l_guard rfl rfl rfl rfl (fun hg => by rw [hg]; exact n_move rfl rfl) ?_; refine l_guard rfl rfl rfl rfl (fun hg => by have hq := hg; (try simp at hq); rw [hg]; exact n_indexAddr rfl (.pure _ _ _ _) rfl (by omega) (hvy (by omega))) ?_; refine l_guard rfl rfl rfl rfl (fun hg => by rw [hg]; exact n_load_eref rfl rfl) ?_; refine l_guard rfl rfl rfl rfl (fun hg => by rw [hg]; exact n_eql_s rfl rfl) ?_; refine l_neu (n_pick_bool rfl (fun h => by first | rfl | (rw [h]; rfl)) (fun h => by first | rfl | (rw [h]; rfl))) rfl ?_; refine l_nil ?_
    simp only [or_pick]
    refine k1 ?_
    refine c_cond rfl (fun ht => ?_) (fun ht => ?_)
    · have hbad2 := of_decide_eq_true ht
      have hbn : bodyR l (i + 1) m0 n0 [] = none := by
        rw [← hb]
        by_cases h : l.length ≤ j
        · exact bodyR_out hpos h
        · rcases hbad2 with h2 | h2
          · omega
          · exact bodyR_nil hpos (by rw [hvy (by omega), h2])
      rw [hunksR_none hv hH hbn] at hf
      refine k2 ?_
      refine c_region ?_; refine l_neu (n_loads_ref rfl rfl rfl) rfl ?_; refine l_eff (e_store_ref TySz.out rfl rfl rfl rfl rfl rfl) ?_; refine l_neu (n_assign rfl rfl) rfl ?_; refine l_nil ?_
      refine k1 ?_; refine k10 ?_; refine k11 ?_; refine k12 ?_; refine k11 ?_; refine k12 ?_; refine k11 ?_; refine k12 ?_; refine k11 ?_; refine k12 ?_; refine k11 ?_
      exact ret_ret (rs := [pPatch ⟨w0, w1, hs⟩, pBool false]) (retc2 rfl rfl rfl rfl rfl rfl rfl) ⟨_, false, rfl, by rw [hRn hf.symm]⟩
    have hgood := of_decide_eq_false ht
    have hjl : j < l.length := by
      by_cases h : j < l.length
      · exact h
      · exact absurd (.inl (by omega)) hgood
    have hne : y ≠ [] := fun h => hgood (.inr h)
    have hvy := hvy hjl
    have hyz := hsz y (List.mem_of_getElem? hvy)
    clear hy
    obtain ⟨c, t, rfl⟩ : ∃ c t, y = c :: t := by
      cases y with
      | nil => exact absurd rfl hne
      | cons c t => exact ⟨c, t, rfl⟩
    simp only [List.length_cons] at hyz
    refine k5 ?_; refine k1 ?_; refine k2 ?_
    refine c_cut [(0, sList Str 1 strC l), (2, .s (.one (.ref 2 0))), (8, .s (.one (.ref 8 0))), (9, sInt j), (11, sInt m), (13, sInt n), (15, .s (.one (.ref 15 0)))] [(2, zBox), (8, pBox w0 w1 hs), (701, .spare hs.length 3 29), (15, hBox a b ls), (702, .spare ls.length 2 36)] (Sees.of ⟨le1 rfl, le1 rfl, le1 rfl, le1 rfl, le1 rfl, le1 rfl, le1 rfl, trivial⟩ ⟨rfl, rfl, rfl, rfl, rfl, trivial⟩) ?_
    skip
    refine c_region_alloc 12 16 (by kernel_rfl) (by kernel_rfl) rfl rfl rfl ?_; refine b_neu (n_move rfl rfl) rfl (n_move rfl rfl) ?_; refine b_neu (n_move rfl rfl) rfl (n_move rfl rfl) ?_; refine b_neu (n_indexAddr rfl (.pure _ _ _ _) rfl (by omega) hvy) rfl (n_indexAddr rfl (.pure _ _ _ _) rfl (by omega) hvy) ?_; refine b_neu (n_load_eref rfl rfl) rfl (n_load_eref rfl rfl) ?_; refine b_neu (n_index_s rfl rfl (by omega) (show (c :: t)[(0 : Int).toNat]? = some c from rfl)) rfl (n_index_s rfl rfl (by omega) (show (c :: t)[(0 : Int).toNat]? = some c from rfl)) ?_; refine b_neu (n_move rfl rfl) rfl (n_move rfl rfl) ?_; refine b_neu (n_move rfl rfl) rfl (n_move rfl rfl) ?_; refine b_neu (n_indexAddr rfl (.pure _ _ _ _) rfl (by omega) hvy) rfl (n_indexAddr rfl (.pure _ _ _ _) rfl (by omega) hvy) ?_; refine b_neu (n_load_eref rfl rfl) rfl (n_load_eref rfl rfl) ?_; refine b_neu (n_sub_l rfl rfl (by (first | omega | (simp only [List.length_cons]; omega))) (by (first | omega | (simp only [List.length_cons]; omega)))) rfl (n_sub_l rfl rfl (by (first | omega | (simp only [List.length_cons]; omega))) (by (first | omega | (simp only [List.length_cons]; omega)))) ?_; refine b_neu (n_add_s rfl rfl (by (simp; omega))) rfl (n_add_s rfl rfl (by (simp; omega))) ?_; refine b_neu (n_build rfl) rfl (n_build rfl) ?_; refine b_nil rfl ?_; refine d_eff (e_store_ref TySz.out rfl rfl rfl rfl rfl rfl) rfl ?_; refine d_nil ?_
    obtain ⟨m2, hm2⟩ : ∃ m2 : Int, m2 = if c = 43 then m else m - 1 := ⟨_, rfl⟩
    obtain ⟨n2, hn2⟩ : ∃ n2 : Int, n2 = if c = 45 then n else n - 1 := ⟨_, rfl⟩
    have hm2b : m - 1 ≤ m2 ∧ m2 ≤ m := by rw [hm2]; split <;> omega
    have hn2b : n - 1 ≤ n2 ∧ n2 ≤ n := by rw [hn2]; split <;> omega
    refine then_normal ?_
    refine c_join [(0, sList Str 1 strC l), (2, .s (.one (.ref 2 0))), (8, .s (.one (.ref 8 0))), (9, sInt j), (11, sInt m2), (13, sInt n), (15, .s (.one (.ref 15 0))), (16, .s (.one (.ref 16 0)))] [(2, zBox), (8, pBox w0 w1 hs), (701, .spare hs.length 3 29), (15, hBox a b ls), (702, .spare ls.length 2 36), (16, .box [.p (.v (.int .u8 c.toNat)), .p (.v (.string ⟨(t ++ [10]).toArray⟩))])] ?_ ?_
    · refine k2 ?_
      refine c_region ?_; refine l_neu (n_field_ref rfl) rfl ?_; refine l_neu (n_load_ref rfl rfl rfl) rfl ?_; refine l_neu (n_neq rfl rfl) rfl ?_; refine l_nil ?_
      simp only [kn43]
      refine k1 ?_
      refine c_cond rfl (fun ht => ?_) (fun ht => ?_)
      · have h := of_decide_eq_true ht
        rw [if_neg h] at hm2
        skip
        refine c_region ?_; refine l_neu (n_move rfl rfl) rfl ?_; refine l_neu (n_sub rfl rfl (by omega)) rfl ?_; refine l_neu (n_assign rfl rfl) rfl ?_; refine l_nil ?_
        rw [← hm2]
        refine k1 ?_
        exact Sees.of ⟨le1 rfl, le1 rfl, le1 rfl, le1 rfl, le1 rfl, le1 rfl, le1 rfl, le1 rfl, trivial⟩ ⟨rfl, rfl, rfl, rfl, rfl, rfl, trivial⟩
      · have h := of_decide_eq_false ht
        rw [if_pos (Decidable.not_not.1 h)] at hm2
        rw [hm2]
        refine k5 ?_; refine k1 ?_
        exact Sees.of ⟨le1 rfl, le1 rfl, le1 rfl, le1 rfl, le1 rfl, le1 rfl, le1 rfl, le1 rfl, trivial⟩ ⟨rfl, rfl, rfl, rfl, rfl, rfl, trivial⟩
    refine c_join [(0, sList Str 1 strC l), (2, .s (.one (.ref 2 0))), (8, .s (.one (.ref 8 0))), (9, sInt j), (11, sInt m2), (13, sInt n2), (15, .s (.one (.ref 15 0))), (16, .s (.one (.ref 16 0)))] [(2, zBox), (8, pBox w0 w1 hs), (701, .spare hs.length 3 29), (15, hBox a b ls), (702, .spare ls.length 2 36), (16, .box [.p (.v (.int .u8 c.toNat)), .p (.v (.string ⟨(t ++ [10]).toArray⟩))])] ?_ ?_
    · refine k2 ?_
      refine c_region ?_; refine l_neu (n_field_ref rfl) rfl ?_; refine l_neu (n_load_ref rfl rfl rfl) rfl ?_; refine l_neu (n_neq rfl rfl) rfl ?_; refine l_nil ?_
      simp only [kn45]
      refine k1 ?_
      refine c_cond rfl (fun ht => ?_) (fun ht => ?_)
      · have h := of_decide_eq_true ht
        rw [if_neg h] at hn2
        skip
        refine c_region ?_; refine l_neu (n_move rfl rfl) rfl ?_; refine l_neu (n_sub rfl rfl (by omega)) rfl ?_; refine l_neu (n_assign rfl rfl) rfl ?_; refine l_nil ?_
        rw [← hn2]
        refine k1 ?_
        exact Sees.of ⟨le1 rfl, le1 rfl, le1 rfl, le1 rfl, le1 rfl, le1 rfl, le1 rfl, le1 rfl, trivial⟩ ⟨rfl, rfl, rfl, rfl, rfl, rfl, trivial⟩
      · have h := of_decide_eq_false ht
        rw [if_pos (Decidable.not_not.1 h)] at hn2
        rw [hn2]
        refine k5 ?_; refine k1 ?_
        exact Sees.of ⟨le1 rfl, le1 rfl, le1 rfl, le1 rfl, le1 rfl, le1 rfl, le1 rfl, le1 rfl, trivial⟩ ⟨rfl, rfl, rfl, rfl, rfl, rfl, trivial⟩
    refine k2 ?_
    refine c_region ?_; refine l_neu (n_move rfl rfl) rfl ?_; refine l_neu (n_add rfl rfl (by omega)) rfl ?_; refine l_neu (n_assign rfl rfl) rfl ?_; refine l_nil ?_
    obtain ⟨u, hu⟩ : ∃ u, u = l.getD (j + 1) [] := ⟨_, rfl⟩
    have hvu : j + 1 < l.length → l[j + 1]? = some u := fun h => by rw [hu]; simp [h]
    obtain ⟨j2, tx, hj2x⟩ : ∃ (j2 : Nat) (tx : Str), (l[j + 1]? = some noNl ∧ j2 = j + 2 ∧ tx = t) ∨ (l[j + 1]? ≠ some noNl ∧ j2 = j + 1 ∧ tx = t ++ [10]) := by
      by_cases h : l[j + 1]? = some noNl
      · exact ⟨_, _, .inl ⟨h, rfl, rfl⟩⟩
      · exact ⟨_, _, .inr ⟨h, rfl, rfl⟩⟩
    have hmark : decide ((((j : Int) + 1) < (l.length : Int)) ∧ u = noNl) = decide (l[j + 1]? = some noNl) := by
      congr 1
      apply propext; constructor
      · intro h; rw [hvu (by omega), h.2]
      · intro h
        have h2 := (List.getElem?_eq_some_iff.1 h).1
        rw [hvu h2] at h
        exact ⟨by omega, Option.some.inj h⟩
    refine then_normal ?_
    refine c_join [(0, sList Str 1 strC l), (2, .s (.one (.ref 2 0))), (8, .s (.one (.ref 8 0))), (9, sInt j2), (11, sInt m2), (13, sInt n2), (15, .s (.one (.ref 15 0))), (16, .s (.one (.ref 16 0)))] [(2, zBox), (8, pBox w0 w1 hs), (701, .spare hs.length 3 29), (15, hBox a b ls), (702, .spare ls.length 2 36), (16, .box [.p (.v (.int .u8 c.toNat)), .p (.v (.string ⟨(tx).toArray⟩))])] ?_ ?_
    · refine k2 ?_
      refine c_region ?_; refine l_neu (n_move rfl rfl) rfl ?_; refine l_neu (n_move rfl rfl) rfl ?_; refine l_neu (n_len rfl (.pure _ _ _ _)) rfl ?_; refine l_neu (n_lss rfl rfl) rfl ?_; refine l_neu (n_move rfl rfl) rfl ?_; refine l_guard rfl rfl rfl rfl (fun hg => by rw [hg]; exact n_move rfl rfl) ?_; refine l_guard rfl rfl rfl rfl (fun hg => by rw [hg]; exact n_move rfl rfl) ?_; refine l_guard rfl rfl rfl rfl (fun hg => by have hq := hg; (try simp at hq); rw [hg]; exact n_indexAddr rfl (.pure _ _ _ _) rfl (by omega) (hvu (by omega))) ?_; refine l_guard rfl rfl rfl rfl (fun hg => by rw [hg]; exact n_load_eref rfl rfl) ?_; refine l_guard rfl rfl rfl rfl (fun hg => by rw [hg]; exact n_eql_s rfl rfl) ?_; refine l_neu (n_pick_bool rfl (fun h => by first | rfl | (rw [h]; rfl)) (fun h => by first | rfl | (rw [h]; rfl))) rfl ?_; refine l_nil ?_
      simp only [and_pick]
      rw [show ([92, 32, 78, 111, 32, 110, 101, 119, 108, 105, 110, 101, 32, 97, 116, 32, 101, 110, 100, 32, 111, 102, 32, 102, 105, 108, 101] : Str) = noNl from rfl, hmark]
      refine k1 ?_
      refine c_cond rfl (fun ht => ?_) (fun ht => ?_)
      · have h := of_decide_eq_true ht
        rcases hj2x with ⟨_, e1, e2⟩ | ⟨h2, _⟩
        · have htk : (t ++ [10]).take ((((t ++ [10]).length : Int) - 1).toNat) = t := by
            have hz : (((t ++ [10] : Str).length : Int) - 1).toNat = t.length := by simp
            rw [hz]; simp
          refine k2 ?_
          refine c_region ?_; refine l_neu (n_field_ref rfl) rfl ?_; refine l_neu (n_load_ref rfl rfl rfl) rfl ?_; refine l_neu (n_field_ref rfl) rfl ?_; refine l_neu (n_load_ref rfl rfl rfl) rfl ?_; refine l_neu (n_len_s rfl) rfl ?_; refine l_neu (n_sub rfl rfl (by (simp; omega))) rfl ?_; refine l_neu (n_sub_h rfl rfl (by (first | omega | (simp; done) | (simp; omega))) (by (first | omega | (simp; done) | (simp; omega)))) rfl ?_; refine l_neu (n_field_ref rfl) rfl ?_; refine l_eff (e_store_ref TySz.out rfl rfl rfl rfl rfl rfl) ?_; refine l_nil ?_
          rw [htk]
          refine k1 ?_
          refine c_region ?_; refine l_neu (n_move rfl rfl) rfl ?_; refine l_neu (n_add rfl rfl (by omega)) rfl ?_; refine l_neu (n_assign rfl rfl) rfl ?_; refine l_nil ?_
          refine k1 ?_
          rw [e1, e2, show ((j + 2 : Nat) : Int) = (j : Int) + 1 + 1 by omega]
          exact Sees.of ⟨le1 rfl, le1 rfl, le1 rfl, le1 rfl, le1 rfl, le1 rfl, le1 rfl, le1 rfl, trivial⟩ ⟨rfl, rfl, rfl, rfl, rfl, rfl, trivial⟩
        · exact absurd h h2
      · have h := of_decide_eq_false ht
        rcases hj2x with ⟨h2, _⟩ | ⟨_, e1, e2⟩
        · exact absurd h2 h
        · refine k5 ?_; refine k1 ?_
          rw [e1, e2]
          exact Sees.of ⟨le1 rfl, le1 rfl, le1 rfl, le1 rfl, le1 rfl, le1 rfl, le1 rfl, le1 rfl, trivial⟩ ⟨rfl, rfl, rfl, rfl, rfl, rfl, trivial⟩
    have hb2 : bodyR l j2 m2 n2 (ls ++ [⟨c, tx⟩]) = bodyR l (i + 1) m0 n0 [] ∧ j + 1 ≤ j2 ∧ j2 ≤ l.length := by
      rcases hj2x with ⟨h, e1, e2⟩ | ⟨h, e1, e2⟩
      · have h2 := (List.getElem?_eq_some_iff.1 h).1
        rw [e1, e2, hm2, hn2, ← bodyR_mark hpos hvy h]
        exact ⟨hb, by omega, by omega⟩
      · rw [e1, e2, hm2, hn2, ← bodyR_line hpos hvy h]
        exact ⟨hb, by omega, by omega⟩
    obtain ⟨hb2, hj3, hj4⟩ := hb2
    skip
    refine c_region ?_; refine l_neu (n_field_ref rfl) rfl ?_; refine l_neu (n_load_ref rfl rfl rfl) rfl ?_; refine l_neu (n_loads_ref rfl rfl rfl) rfl ?_; refine l_neu (n_buildSlice (c := plineC) (ys := [⟨c, tx⟩]) (asm_cons rfl rfl rfl rfl asm_nil) rfl rfl rfl) rfl ?_; refine l_effv (e_append rfl rfl rfl (.pure _ _ _ _) (by (simp; omega)) rfl) rfl ?_; refine l_neu (n_field_ref rfl) rfl ?_; refine l_eff (e_store_ref TySz.out rfl rfl rfl rfl rfl rfl) ?_; refine l_nil ?_
    refine k4 ?_; refine k1 ?_
    exact ⟨(j2, m2, n2, ls ++ [⟨c, tx⟩]), ⟨by dsimp only; omega, hj4, by dsimp only; omega, by dsimp only; omega, by simp; omega, hb2⟩, by dsimp only; omega, Sees.of ⟨le1 rfl, le1 rfl, le1 rfl, le1 rfl, le1 rfl, le1 rfl, le1 rfl, trivial⟩ ⟨rfl, rfl, rfl, rfl, rfl, trivial⟩⟩
end Go.Proofs.YtjjidificdmnmaaGreatDoor
