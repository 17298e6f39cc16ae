/- Walks of the program's functions. -/
import Derived.Test.YtjjidificdmnmaaGreatDoorFe
import Derived.Test.YtjjidificdmnmaaGreatDoorFc
namespace Go.Proofs.YtjjidificdmnmaaGreatDoor
open Go Go.AL
set_option maxRecDepth 100000
def wghTo (l : List Str) (i : Nat) : Nat := ((l.take i).map fun t => t.length + 65).sum
theorem wghTo_succ {l : List Str} {i : Nat} (h : i < l.length) : wghTo l (i + 1) = wghTo l i + l[i].length + 65 := by
 unfold wghTo
 rw [List.take_succ_eq_append_getElem h, List.map_append, List.sum_append]
 simp only [List.map_cons, List.map_nil, List.sum_cons, List.sum_nil]
 omega
theorem wghTo_over {l : List Str} {i : Nat} (h : l.length ≤ i) : wghTo l i = wghTo l l.length := by unfold wghTo; rw [List.take_of_length_le h, List.take_length]
theorem bodyR_sz (l : List Str) : ∀ (f i : Nat) (m n : Int) (acc ls : List PatchLine) (j : Nat), l.length - i ≤ f → R0 l i m n acc = some (ls, j) → i ≤ j ∧ (ls.map szL).sum + wghTo l i ≤ (acc.map szL).sum + wghTo l j := by
 intro f
 induction f with
 | zero =>
  intro i m n acc ls j hf h
  rw [R0] at h
  split at h
  ·rw [dif_neg (by omega)] at h; cases h
  ·cases h; exact ⟨Nat.le_refl _, Nat.le_refl _⟩
 | succ f ih =>
  intro i m n acc ls j hf h
  rw [R0] at h
  split at h
  ·by_cases hi : i < l.length
   ·rw [dif_pos hi] at h
    have hw := wghTo_succ hi
    split at h
    ·cases h
    ·rename_i c t hl
     rw [hl] at hw
     simp only [List.length_cons] at hw
     split at h
     ·rename_i h2
      have hi2 := (List.getElem?_eq_some_iff.1 h2).1
      have hw2 := wghTo_succ hi2
      rw [show i + 1 + 1 = i + 2 from rfl] at hw2
      obtain ⟨a1, a2⟩ := ih _ _ _ _ _ _ (by omega) h
      rw [szL_app] at a2
      simp only [List.map_cons, List.map_nil, List.sum_cons, List.sum_nil, szL] at a2
      exact ⟨by omega, by omega⟩
     ·obtain ⟨a1, a2⟩ := ih _ _ _ _ _ _ (by omega) h
      rw [szL_app] at a2
      simp only [List.map_cons, List.map_nil, List.sum_cons, List.sum_nil, szL, List.length_append, List.length_cons, List.length_nil] at a2
      exact ⟨by omega, by omega⟩
   ·rw [dif_neg hi] at h; cases h
  ·cases h; exact ⟨Nat.le_refl _, Nat.le_refl _⟩
theorem hunksR_sz (l : List Str) : ∀ (f i : Nat) (hs hs' : List PatchHunk), l.length - i ≤ f → T3 l i hs = some hs' → szP hs' + wghTo l i ≤ szP hs + wghTo l l.length := by
 intro f
 induction f with
 | zero =>
  intro i hs hs' hf h
  rw [hunksR_end (by omega)] at h
  cases h
  rw [wghTo_over (by omega)]; exact Nat.le_refl _
 | succ f ih =>
  intro i hs hs' hf h
  by_cases hi : i < l.length
  ·have hv : l[i]? = some l[i] := by simp [hi]
   have hw := wghTo_succ hi
   cases h2 : L4 l[i] with
   | none => rw [hunksR_bad hv h2] at h; cases h
   | some q =>
    obtain ⟨a, m, b, n⟩ := q
    cases h3 : R0 l (i + 1) m n [] with
    | none => rw [hunksR_none hv h2 h3] at h; cases h
    | some r =>
     obtain ⟨ls, j⟩ := r
     obtain ⟨b1, b2⟩ := bodyR_sz l _ _ _ _ _ _ _ (Nat.le_refl _) h3
     rw [hunksR_step hv h2 h3 b1] at h
     have := ih _ _ _ (by omega) h
     rw [szP_app] at this
     have e : szP [(⟨a, b, ls⟩ : PatchHunk)] = 64 + (ls.map szL).sum := by simp [szP, szH]
     rw [e] at this
     simp only [List.map_nil, List.sum_nil] at b2
     omega
  ·rw [hunksR_end (by omega)] at h
   cases h
   rw [wghTo_over (by omega)]; exact Nat.le_refl _
theorem readR_sz {l : List Str} {p : Patch} (h : p9 l = some p) : szP p.Hunks ≤ (l.map fun t => t.length + 65).sum := by
 unfold p9 at h
 split at h
 ·split at h
  ·rename_i hs h2
   cases h
   have := hunksR_sz l _ _ _ _ (Nat.le_refl _) h2
   have e : wghTo l l.length = (l.map fun t => t.length + 65).sum := by unfold wghTo; rw [List.take_length]
   have e0 : szP ([] : List PatchHunk) = 0 := rfl
   dsimp only
   omega
  ·cases h
 ·cases h
theorem rParse_ok (s : Str) (hs : s.length ≤ 1048576) : FnOk Tryz.prog 31 [F6 s] (fun rs => rs = T8 N4 s) := by
 rw [show T8 N4 s = T8 p9 s by unfold T8; rw [strict_same]]
 have h16 : ¬ 16777216 < s.length := by omega
 have hL := r13Lines_ok s (by omega)
 have hfail : ∀ {x : Patch × Int}, H9 p9 s = x → x = (patch0, 4) → [pPatch patch0, D2 4] = T8 p9 s := by
  intro x h1 h2
  unfold T8; rw [h1, h2]
 refine FnOk.intro Tryz.func31 (by decide) Z Z Z Z ?_
 refine k2 ?_
 refine A5 (C8 (H4 2 Z) Z (A2 (A4 Z Z) Z (A6 ?_)))
 refine k1 (k2 (k2 ?_))
 refine A5 (A2 (A3 Z Z) Z (A2 (D8 Z) Z (A2 (L9 Z Z) Z (A6 ?_))))
 refine k1 ?_
 refine B3 rfl (fun ht => ?_) (fun ht => ?_)
 ·exact absurd (A0 ht) (by omega)
 cases hl : j5 s with
 | none =>
  unfold w9 at hL
  rw [hl] at hL
  refine k5 (k1 (k2 ?_))
  refine A5 (A2 (A3 Z Z) Z (C0 (hL) Z Z Z ?_)); rintro _ rfl; refine A2 (A3 Z Z) Z (A2 (B1 Z Z) Z (A2 (B1 Z Z) Z (A2 (A4 Z Z) Z (A2 (A4 Z Z) Z (A6 ?_)))))
  refine k1 (k2 (k2 ?_))
  refine A5 (A2 (A3 Z Z) Z (A2 (E5 Z) Z (A6 ?_)))
  refine k1 ?_
  refine B3 rfl (fun ht => ?_) (fun ht => ?_)
  ·refine k2 ?_
   refine A5 (A2 (G4 Z) Z (F4 (B9 TySz.out Z Z Z Z Z Z) (A2 (A4 Z Z) Z (A6 ?_))))
   refine k1 ?_
   refine G7 (Sees.listB PatchHunk 3 phunkC 2 2 Z Z) ?_
   refine k10 (k11 ?_)
   exact B5 (rs := [pPatch patch0, D2 4]) (T5 rfl rfl rfl rfl rfl rfl rfl) (hfail rfl (by unfold H9; rw [if_neg h16, hl]))
  ·cases ht
 | some l =>
  unfold w9 at hL
  rw [hl] at hL
  obtain ⟨z1, z2⟩ := linesS_sz hl
  have zl : 65 * l.length ≤ (l.map fun t => t.length + 65).sum := by
   clear z1 z2 hL hl
   induction l with
   | nil => simp
   | cons x r ih => simp only [List.map_cons, List.sum_cons, List.length_cons]; omega
  have hP := rread_ok l (by omega) (fun t ht => by have := z2 t ht; omega)
  cases hp : p9 l with
  | none =>
   rw [hp] at hP
   refine k5 (k1 (k2 ?_))
   refine A5 (A2 (A3 Z Z) Z (C0 (hL) Z Z Z ?_)); rintro _ rfl; refine A2 (A3 Z Z) Z (A2 (B1 Z Z) Z (A2 (B1 Z Z) Z (A2 (A4 Z Z) Z (A2 (A4 Z Z) Z (A6 ?_)))))
   refine k1 (k2 (k2 ?_))
   refine A5 (A2 (A3 Z Z) Z (A2 (E5 Z) Z (A6 ?_)))
   refine k1 ?_
   refine B3 rfl (fun ht => ?_) (fun ht => ?_)
   ·cases ht
   refine k5 (k1 (k2 ?_))
   refine A5 (A2 (A3 Z Z) Z (C0 (hP) Z Z Z ?_)); rintro _ ⟨p, ok, rfl, rfl⟩; refine A2 (A3 Z Z) Z (A2 (B1 Z Z) Z (A2 (B1 Z Z) Z (C8 (H4 6 Z) Z (F4 (B9 TySz.out Z Z Z Z Z Z) (A2 (A4 Z Z) Z (A6 ?_))))))
   refine k1 (k2 (k2 ?_))
   refine A5 (A2 (A3 Z Z) Z (A2 (E5 Z) Z (A2 (A3 Z Z) Z (G3 Z Z Z (by decide) Z (G3 Z Z Z (by decide) Z (G3 Z Z Z (by decide) Z (A2 (S4 Z (rfl) Z) Z (A2 (A3 Z Z) Z (G3 Z Z Z (by decide) Z (G3 Z Z Z (by decide) Z (G3 Z Z Z (by decide) Z (G3 Z Z Z (by decide) Z (A2 (S4 Z (rfl) Z) Z (A6 ?_))))))))))))))
   refine k1 ?_
   refine B3 rfl (fun ht => ?_) (fun ht => ?_)
   ·refine k2 ?_
    refine A5 (A2 (G4 Z) Z (F4 (B9 TySz.out Z Z Z Z Z Z) (A2 (A4 Z Z) Z (A6 ?_))))
    refine k1 ?_
    refine G7 (Sees.listB PatchHunk 3 phunkC 2 2 Z Z) ?_
    refine k10 (k11 ?_)
    exact B5 (rs := [pPatch patch0, D2 4]) (T5 rfl rfl rfl rfl rfl rfl rfl) (hfail rfl (by unfold H9; rw [if_neg h16, hl]; dsimp only; rw [hp]))
   ·cases ht
  | some p =>
   rw [hp] at hP
   have hsz := readR_sz hp
   have hC := rcheck12_ok p (by omega)
   have hS : H9 p9 s = if G1 p ≠ 0 ∨ H0 p ≠ s then (patch0, 4) else (p, 0) := by unfold H9; rw [if_neg h16, hl]; dsimp only; rw [hp]
   by_cases hc : G1 p = 0
   ·have hnames : p.OldName.length ≤ 200 ∧ p.NewName.length ≤ 200 := by
     unfold G1 at hc
     split at hc
     ·cases hc
     ·rename_i h
      have h1 : I9 p.OldName = true := by cases q : I9 p.OldName <;> simp [q] at h ⊢
      have h2 : I9 p.NewName = true := by cases q : I9 p.NewName <;> simp [q] at h ⊢
      exact ⟨(A0 h1).2, (A0 h2).2⟩
    have hW := rwrite_ok p ⟨by omega, by omega, by omega⟩ (fun h hm => by have := i8 (Go.AL.check12_good hc) h hm; omega)
    have hne : ¬ G1 p ≠ 0 := fun h => h hc
    rw [hc] at hC
    obtain ⟨w, hw⟩ : ∃ w, w = H0 p := ⟨_, rfl⟩
    rw [← hw] at hW hS
    refine k5 (k1 (k2 ?_))
    refine A5 (A2 (A3 Z Z) Z (C0 (hL) Z Z Z ?_)); rintro _ rfl; refine A2 (A3 Z Z) Z (A2 (B1 Z Z) Z (A2 (B1 Z Z) Z (A2 (A4 Z Z) Z (A2 (A4 Z Z) Z (A6 ?_)))))
    refine k1 (k2 (k2 ?_))
    refine A5 (A2 (A3 Z Z) Z (A2 (E5 Z) Z (A6 ?_)))
    refine k1 ?_
    refine B3 rfl (fun ht => ?_) (fun ht => ?_)
    ·cases ht
    refine k5 (k1 (k2 ?_))
    refine A5 (A2 (A3 Z Z) Z (C0 (hP) Z Z Z ?_)); rintro _ ⟨p', ok, rfl, rfl, rfl⟩; refine A2 (A3 Z Z) Z (A2 (B1 Z Z) Z (A2 (B1 Z Z) Z (C8 (H4 6 Z) Z (F4 (B9 TySz.out Z Z Z Z Z Z) (A2 (A4 Z Z) Z (A6 ?_))))))
    refine k1 (k2 (k2 ?_))
    refine A5 (A2 (A3 Z Z) Z (A2 (E5 Z) Z (A2 (A3 Z Z) Z (E0 Z Z Z Z (A2 (D7 Z Z Z) Z (E0 Z Z Z Z (C0 (hC) Z Z Z ?_))))))); rintro _ rfl; refine E0 Z Z Z Z (A2 (J2 Z Z) Z (A2 (L3 Z (rfl) Z) Z (A2 (A3 Z Z) Z (E0 Z Z Z Z (A2 (D7 Z Z Z) Z (E0 Z Z Z Z (C0 (hW) Z Z Z ?_))))))); rintro _ rfl; refine E0 Z Z Z Z (A2 (A3 Z Z) Z (E0 Z Z Z Z (A2 (V2 Z Z) Z (A2 (L3 Z (rfl) Z) Z (A6 ?_)))))
    refine k1 ?_
    by_cases hb : w = s
    ·rw [if_neg (by simp [hc, hb])] at hS
     refine B3 rfl (fun ht => ?_) (fun ht => ?_)
     ·exact absurd hb (A0 ht)
     refine k5 (k1 (k2 ?_))
     refine A5 (A2 (D7 Z Z Z) Z (F4 (B9 TySz.out Z Z Z Z Z Z) (A2 (A4 Z Z) Z (A6 ?_))))
     refine k1 (k10 ?_)
     exact B5 (rs := [pPatch p', D2 0]) (T5 rfl rfl rfl rfl rfl rfl rfl) (by unfold T8; rw [hS])
    ·rw [if_pos (.inr hb)] at hS
     refine B3 rfl (fun ht => ?_) (fun ht => ?_)
     rotate_left
     ·exact absurd (Decidable.not_not.1 (A1 ht)) hb
     refine k2 ?_
     refine A5 (A2 (G4 Z) Z (F4 (B9 TySz.out Z Z Z Z Z Z) (A2 (A4 Z Z) Z (A6 ?_))))
     refine k1 ?_
     refine G7 (Sees.listB PatchHunk 3 phunkC 2 2 Z Z) ?_
     refine k10 (k11 ?_)
     exact B5 (rs := [pPatch patch0, D2 4]) (T5 rfl rfl rfl rfl rfl rfl rfl) (hfail hS rfl)
   ·rw [if_pos (.inl hc)] at hS
    refine k5 (k1 (k2 ?_))
    refine A5 (A2 (A3 Z Z) Z (C0 (hL) Z Z Z ?_)); rintro _ rfl; refine A2 (A3 Z Z) Z (A2 (B1 Z Z) Z (A2 (B1 Z Z) Z (A2 (A4 Z Z) Z (A2 (A4 Z Z) Z (A6 ?_)))))
    refine k1 (k2 (k2 ?_))
    refine A5 (A2 (A3 Z Z) Z (A2 (E5 Z) Z (A6 ?_)))
    refine k1 ?_
    refine B3 rfl (fun ht => ?_) (fun ht => ?_)
    ·cases ht
    refine k5 (k1 (k2 ?_))
    refine A5 (A2 (A3 Z Z) Z (C0 (hP) Z Z Z ?_)); rintro _ ⟨p', ok, rfl, rfl, rfl⟩; refine A2 (A3 Z Z) Z (A2 (B1 Z Z) Z (A2 (B1 Z Z) Z (C8 (H4 6 Z) Z (F4 (B9 TySz.out Z Z Z Z Z Z) (A2 (A4 Z Z) Z (A6 ?_))))))
    refine k1 (k2 (k2 ?_))
    refine A5 (A2 (A3 Z Z) Z (A2 (E5 Z) Z (A2 (A3 Z Z) Z (E0 Z Z Z Z (A2 (D7 Z Z Z) Z (E0 Z Z Z Z (C0 (hC) Z Z Z ?_))))))); rintro _ rfl; refine E0 Z Z Z Z (A2 (J2 Z Z) Z (A2 (L3 Z (rfl) Z) Z (A2 (A3 Z Z) Z (G3 Z Z Z (by simp [hc]) Z (G3 Z Z Z (by simp [hc]) Z (G3 Z Z Z (by simp [hc]) Z (G3 Z Z Z (by simp [hc]) Z (A2 (S4 Z ((by simp [hc])) Z) Z (A6 ?_)))))))))
    refine k1 ?_
    refine B3 rfl (fun ht => ?_) (fun ht => ?_)
    rotate_left
    ·cases ht
    refine k2 ?_
    refine A5 (A2 (G4 Z) Z (F4 (B9 TySz.out Z Z Z Z Z Z) (A2 (A4 Z Z) Z (A6 ?_))))
    refine k1 ?_
    refine G7 (Sees.listB PatchHunk 3 phunkC 2 2 Z Z) ?_
    refine k10 (k11 ?_)
    exact B5 (rs := [pPatch patch0, D2 4]) (T5 rfl rfl rfl rfl rfl rfl rfl) (hfail hS rfl)
set_option maxHeartbeats 1000000
theorem spoiled_ok (s : Str) (what pos c : Int) (hs : s.length ≤ 1099511627776) : FnOk Tryz.prog 29 [F6 s, D2 what, D2 pos, D2 c]
  (fun rs => ∃ t : Str, rs = [F6 t] ∧ t.length ≤ s.length + 1) := by
 obtain ⟨a1, a2⟩ := w7 pos (n := (s.length : Int) + 1) (by omega)
 obtain ⟨i, hi⟩ : ∃ i : Nat, W0 pos ((s.length : Int) + 1) = i := ⟨(W0 pos ((s.length : Int) + 1)).toNat, by omega⟩
 have hM := mod_ok pos ((s.length : Int) + 1) (by omega) (by omega)
 rw [hi] at hM a1 a2
 have hil : i ≤ s.length := by omega
 obtain ⟨x, hx⟩ : ∃ x, x = W0 what 4 := ⟨_, rfl⟩
 have hW := mod_ok what 4 (by omega) (by omega)
 rw [← hx] at hW
 obtain ⟨d, hd⟩ : ∃ d : UInt8, IntKind.u8.wrap c = (d.toNat : Int) := by
  refine ⟨UInt8.ofNat (IntKind.u8.wrap c).toNat, ?_⟩
  have hw : IntKind.u8.wrap c = c % 256 := rfl
  rw [hw, UInt8.toNat_ofNat']
  omega
 refine FnOk.intro Tryz.func29 (by decide) Z Z Z Z ?_
 refine k2 ?_
 refine A5 (A2 (A4 Z Z) Z (A6 ?_))
 refine k1 (k2 ?_)
 refine A5 (A2 (A3 Z Z) Z (A2 (A3 Z Z) Z (A2 (D8 Z) Z (A2 (C3 Z Z (by omega)) Z (C0 (hM) Z Z Z ?_))))); rintro _ rfl; refine A2 (A4 Z Z) Z (A6 ?_)
 refine k1 (k2 (k2 ?_))
 refine A5 (A2 (A3 Z Z) Z (C0 (hW) Z Z Z ?_)); rintro _ rfl; refine A6 ?_
 refine k1 (k3 (k2 ?_))
 refine A5 (A2 (G6 Z Z) Z (A2 (A4 Z Z) Z (A6 ?_)))
 refine k1 ?_
 refine B3 rfl (fun ht => ?_) (fun ht => ?_)
 ·refine k2 ?_
  refine C2 (by kernel_rfl) (by kernel_rfl) (A9 (A3 Z Z) Z Z (A9 (A3 Z Z) Z Z (A9 (m9 Z Z (by omega) (by omega)) Z Z (A9 (A3 Z Z) Z Z (A9 (O1 Z) Z Z ?_))))); rw [hd]; refine A9 (D6 (c := u8C) (ys := [_]) (E3 Z Z Z Z H1) Z Z Z) Z Z (A9 (N6 TyStr.out Z (.pure _ _ _ _)) Z Z (A9 (F5 Z Z (by simp; omega)) Z Z (A9 (A3 Z Z) Z Z (A9 (A3 Z Z) Z Z (A9 (Q8 Z Z (by omega) (by omega)) Z Z (A9 (F5 Z Z (by simp; omega)) Z Z (A9 (A4 Z Z) Z Z (H3 ?_))))))))
  refine k1 (k10 (k12 (k11 ?_)))
  exact B5 (G8 rfl rfl rfl) ⟨_, rfl, by simp; omega⟩
 refine k2 ?_
 refine A5 (A2 (G6 Z Z) Z (A2 (A4 Z Z) Z (A6 ?_)))
 refine k1 ?_
 refine B3 rfl (fun ht => ?_) (fun ht => ?_)
 ·refine k2 ?_
  refine C2 (by kernel_rfl) (by kernel_rfl) (A9 (A3 Z Z) Z Z (A9 (A3 Z Z) Z Z (A9 (m9 Z Z (by omega) (by omega)) Z Z (A9 (A3 Z Z) Z Z (A9 (A3 Z Z) Z Z (A9 (C3 Z Z (by omega)) Z Z (A9 (A3 Z Z) Z Z (A9 (D8 Z) Z Z (A9 (n_min Z Z) Z Z (A9 (Q8 Z Z (by omega) (by omega)) Z Z (A9 (F5 Z Z (by simp; omega)) Z Z (A9 (A4 Z Z) Z Z (H3 ?_)))))))))))))
  refine k1 (k10 (k12 (k11 ?_)))
  exact B5 (G8 rfl rfl rfl) ⟨_, rfl, by simp; omega⟩
 refine k2 ?_
 refine A5 (A2 (G6 Z Z) Z (A2 (A4 Z Z) Z (A6 ?_)))
 refine k1 ?_
 refine B3 rfl (fun ht => ?_) (fun ht => ?_)
 ·refine k2 ?_
  refine C2 (by kernel_rfl) (by kernel_rfl) (A9 (A3 Z Z) Z Z (A9 (A3 Z Z) Z Z (A9 (m9 Z Z (by omega) (by omega)) Z Z (A9 (A3 Z Z) Z Z (A9 (O1 Z) Z Z ?_))))); rw [hd]; refine A9 (D6 (c := u8C) (ys := [_]) (E3 Z Z Z Z H1) Z Z Z) Z Z (A9 (N6 TyStr.out Z (.pure _ _ _ _)) Z Z (A9 (F5 Z Z (by simp; omega)) Z Z (A9 (A3 Z Z) Z Z (A9 (A3 Z Z) Z Z (A9 (C3 Z Z (by omega)) Z Z (A9 (A3 Z Z) Z Z (A9 (D8 Z) Z Z (A9 (n_min Z Z) Z Z (A9 (Q8 Z Z (by omega) (by omega)) Z Z (A9 (F5 Z Z (by simp; omega)) Z Z (A9 (A4 Z Z) Z Z (H3 ?_))))))))))))
  refine k1 (k10 (k12 (k11 ?_)))
  exact B5 (G8 rfl rfl rfl) ⟨_, rfl, by simp; omega⟩
 refine k5 (k2 ?_)
 refine A5 (A2 (A3 Z Z) Z (A2 (A4 Z Z) Z (A6 ?_)))
 refine k1 (k10 ?_)
 exact B5 (G8 rfl rfl rfl) ⟨_, rfl, by omega⟩
theorem strictBy_sz (s : Str) : szP (H9 N4 s).1.Hunks ≤ 66 * s.length := by
 have h0 : szP patch0.Hunks ≤ 66 * s.length := Nat.zero_le _
 unfold H9
 split
 ·exact h0
 ·split
  ·exact h0
  ·rename_i l hl
   split
   ·exact h0
   ·rename_i p hp
    split
    ·exact h0
    ·have := parseP_sz hp
     have := (linesS_sz hl).1
     dsimp only; omega
set_option maxHeartbeats 1000000
theorem lawStrictParses_ok (raw : List Int) (ctx what pos c : Int) : FnOk Tryz.prog 6 [Y0 raw, D2 ctx, D2 what, D2 pos, D2 c] (fun rs => rs = [D5 true]) := by
 have hm := made13_ok raw ctx
 obtain ⟨_, m2, m3, m4⟩ := madeS_facts raw ctx
 obtain ⟨p, hp⟩ : ∃ p, p = s9 raw ctx := ⟨_, rfl⟩
 rw [← hp] at hm m2 m3 m4
 obtain ⟨w, hw⟩ : ∃ w, w = H0 p := ⟨_, rfl⟩
 rw [← hw] at hm m4
 have h1 := stParse_ok w (by omega)
 have h2 := rParse_ok w (by omega)
 have z1 := strictBy_sz w
 have hS := spoiled_ok w what pos c (by omega)
 unfold T8 at h1 h2
 obtain ⟨x, hx⟩ : ∃ x, x = H9 N4 w := ⟨_, rfl⟩
 rw [← hx] at h1 h2 z1
 have hG1 := gpatch_ok x.1 x.1 (by omega)
 refine FnOk.intro Tryz.func6 (by decide) Z Z Z Z ?_
 refine k2 ?_
 refine A5 (A2 (A4 Z Z) Z (A6 ?_))
 refine k1 (k2 ?_)
 refine A5 (A2 (A3 Z Z) Z (A2 (A3 Z Z) Z (C0 (hm) Z Z Z ?_))); rintro _ rfl; refine A2 (A3 Z Z) Z (A2 (B1 Z Z) Z (A2 (B1 Z Z) Z (C8 (H4 11 Z) Z (F4 (B9 TySz.out Z Z Z Z Z Z) (A2 (A4 Z Z) Z (A6 ?_))))))
 refine k1 (k2 ?_)
 refine A5 (A2 (A3 Z Z) Z (A2 (A3 Z Z) Z (A2 (A3 Z Z) Z (A2 (A3 Z Z) Z (C0 (hS) Z Z Z ?_))))); rintro _ ⟨t, rfl, htl⟩; refine A2 (A4 Z Z) Z (A6 ?_)
 have h3 := stParse_ok t (by omega)
 have h4 := rParse_ok t (by omega)
 have z2 := strictBy_sz t
 unfold T8 at h3 h4
 obtain ⟨y, hy⟩ : ∃ y, y = H9 N4 t := ⟨_, rfl⟩
 rw [← hy] at h3 h4 z2
 have hG2 := gpatch_ok y.1 y.1 (by omega)
 refine k1 (k2 ?_)
 refine A5 (A2 (A3 Z Z) Z (C0 (h1) Z Z Z ?_)); rintro _ rfl; refine A2 (A3 Z Z) Z (A2 (B1 Z Z) Z (A2 (B1 Z Z) Z (C8 (H4 14 Z) Z (F4 (B9 TySz.out Z Z Z Z Z Z) (A2 (A4 Z Z) Z (A6 ?_))))))
 refine k1 (k2 ?_)
 refine A5 (A2 (A3 Z Z) Z (C0 (h2) Z Z Z ?_)); rintro _ rfl; refine A2 (A3 Z Z) Z (A2 (B1 Z Z) Z (A2 (B1 Z Z) Z (C8 (H4 16 Z) Z (F4 (B9 TySz.out Z Z Z Z Z Z) (A2 (A4 Z Z) Z (A6 ?_))))))
 refine k1 (k2 ?_)
 refine A5 (A2 (A3 Z Z) Z (C0 (h3) Z Z Z ?_)); rintro _ rfl; refine A2 (A3 Z Z) Z (A2 (B1 Z Z) Z (A2 (B1 Z Z) Z (C8 (H4 18 Z) Z (F4 (B9 TySz.out Z Z Z Z Z Z) (A2 (A4 Z Z) Z (A6 ?_))))))
 refine k1 (k2 ?_)
 refine A5 (A2 (A3 Z Z) Z (C0 (h4) Z Z Z ?_)); rintro _ rfl; refine A2 (A3 Z Z) Z (A2 (B1 Z Z) Z (A2 (B1 Z Z) Z (C8 (H4 20 Z) Z (F4 (B9 TySz.out Z Z Z Z Z Z) (A2 (A4 Z Z) Z (A6 ?_))))))
 refine k1 (k2 ?_)
 refine A5 (A2 (D7 Z Z Z) Z (A2 (D7 Z Z Z) Z (C0 (hG1) Z Z Z ?_))); rintro _ rfl; refine A2 (A3 Z Z) Z (A8 Z Z Z Z (fun hg => by rw [hg]; exact A3 Z Z) ?_); refine A8 Z Z Z Z (fun hg => by rw [hg]; exact A3 Z Z) ?_; refine A8 Z Z Z Z (fun hg => by rw [hg]; exact G6 Z Z) ?_; refine A2 (B2 Z (fun h => by first | rfl | (rw [h]; rfl)) (fun h => by first | rfl | (rw [h]; rfl))) Z ?_; refine A2 (A3 Z Z) Z (A8 Z Z Z Z (fun hg => by rw [hg]; exact D7 Z Z Z) ?_); refine A8 Z Z Z Z (fun hg => by rw [hg]; exact D7 Z Z Z) ?_; refine A8 Z Z Z Z (fun hg => by have hq := hg; (try simp at hq); rw [hg]; exact F9 (hG2) Z Z) ?_; refine A2 (B2 Z (fun h => by first | rfl | (rw [h]; rfl)) (fun h => by first | rfl | (rw [h]; rfl))) Z ?_; refine A2 (A3 Z Z) Z (A8 Z Z Z Z (fun hg => by rw [hg]; exact A3 Z Z) ?_); refine A8 Z Z Z Z (fun hg => by rw [hg]; exact A3 Z Z) ?_; refine A8 Z Z Z Z (fun hg => by rw [hg]; exact G6 Z Z) ?_; refine A2 (B2 Z (fun h => by first | rfl | (rw [h]; rfl)) (fun h => by first | rfl | (rw [h]; rfl))) Z ?_; refine A2 (A3 Z Z) Z (A8 Z Z Z Z (fun hg => by have hq := hg; (try simp at hq); rw [hg]; exact F9 (awake13_ok) Z Z) ?_); refine A2 (B2 Z (fun h => by first | rfl | (rw [h]; rfl)) (fun h => by first | rfl | (rw [h]; rfl))) Z ?_; refine A2 (A4 Z Z) Z (A6 ?_)
 refine k1 (k10 ?_)
 exact B5 (G8 rfl rfl rfl) (by simp)
end Go.Proofs.YtjjidificdmnmaaGreatDoor
