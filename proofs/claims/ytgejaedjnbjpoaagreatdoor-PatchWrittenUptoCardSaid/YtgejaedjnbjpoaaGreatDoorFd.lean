/- Walks of the program's functions. -/
import Derived.Test.YtgejaedjnbjpoaaGreatDoorFc
import Derived.Test.YtgejaedjnbjpoaaGreatDoorFs
import Derived.Test.YtgejaedjnbjpoaaGreatDoorAn
namespace Go.Proofs.YtgejaedjnbjpoaaGreatDoor
open Go Go.AL
set_option maxRecDepth 100000
abbrev X1 (e : Int) (o : Bool) : Ob := .box [.p (.v (.int .i64 e)), .p (.v (.bool o))]
theorem uplaced_met {gf : Fr} (h h' : PatchHunk) (i j : Int) (o n : Bool) (hl : (h.Lines.map szL).sum ≤ 268435456) (hi : 0 ≤ i ∧ i ≤ 8192) (hj : 0 ≤ j ∧ j ≤ 8192) (hf3 : I3 3 gf = true) (hf8 : I3 8 gf = true) :
  AL.Met Tryz.prog 152 [(pPhunk h).s1, .one (.ref 710 0), .one (.ref 711 0)] gf [(6, .box (pPhunk h').s1.cells), (710, X1 i o), (711, X1 j n)] []
   (fun rs ob' => ∃ b, rs = [.one (.p (.v (.bool b)))] ∧ b = (decide (¬ V0 i j h) && match n7 o n h.Lines with
    | none => false
    | some _ => decide (h.Old + J5 h ≤ 4096 ∧ h.New + L1 h ≤ 4096)) ∧
    (b = true → ∃ o' n', n7 o n h.Lines = some (o', n') ∧ ob' = [(6, .box (pPhunk h').s1.cells), (710, X1 (h.Old + J5 h) o'), (711, X1 (h.New + L1 h) n')])) := by
 refine AL.Met.introH Tryz.func152 (by decide) rfl rfl rfl (fun hH => ?_)
 refine k2 ?_
 refine A4 (C9 (c8 3 Z Z (show ((I3 3 gf && true) && true) = true by rw [hf3]; rfl)) Z ?_); refine A2 (A5 Z Z) Z (A6 ?_)
 refine k1 (k2 (k2 ?_))
 refine C7 (by kernel_rfl) (by kernel_rfl) (A8 (A7 Z) Z Z (A8 (A9 Z Z Z) Z Z (A8 (E3 Z Z) Z Z (A8 (A3 Z Z) Z Z (B8 Z Z (fun hg => by rw [hg]; exact A7 Z) Z Z ?_))))); refine B8 Z Z (fun hg => by rw [hg]; exact A9 Z Z Z) Z Z ?_; refine B8 Z Z (fun hg => by rw [hg]; exact E3 Z Z) Z Z ?_; refine A8 (B1 Z (fun h => by first | rfl | (rw [h]; rfl)) (fun h => by first | rfl | (rw [h]; rfl))) Z Z ?_; refine A8 (A3 Z Z) Z Z (B8 Z Z (fun hg => by rw [hg]; exact A7 Z) Z Z ?_); refine B8 Z Z (fun hg => by rw [hg]; exact A9 Z Z Z) Z Z ?_; refine B8 Z Z (fun hg => by rw [hg]; exact N4 Z Z) Z Z ?_; refine A8 (B1 Z (fun h => by first | rfl | (rw [h]; rfl)) (fun h => by first | rfl | (rw [h]; rfl))) Z Z ?_; refine A8 (A3 Z Z) Z Z (B8 Z Z (fun hg => by rw [hg]; exact A7 Z) Z Z ?_); refine B8 Z Z (fun hg => by rw [hg]; exact A9 Z Z Z) Z Z ?_; refine B8 Z Z (fun hg => by rw [hg]; exact N4 Z Z) Z Z ?_; refine A8 (B1 Z (fun h => by first | rfl | (rw [h]; rfl)) (fun h => by first | rfl | (rw [h]; rfl))) Z Z ?_; refine A8 (A3 Z Z) Z Z (B8 Z Z (fun hg => by rw [hg]; exact A7 Z) Z Z ?_); refine B8 Z Z (fun hg => by rw [hg]; exact A9 Z Z Z) Z Z ?_; refine B8 Z Z (fun hg => by rw [hg]; exact A3 Z Z) Z Z ?_; refine B8 Z Z (fun hg => by rw [hg]; exact B4 Z) Z Z ?_; refine B8 Z Z (fun hg => by rw [hg]; exact A7 Z) Z Z ?_; refine B8 Z Z (fun hg => by rw [hg]; exact A9 Z Z Z) Z Z ?_; refine B8 Z Z (fun hg => by rw [hg]; exact E3 Z Z) Z Z ?_; refine A8 (B1 Z (fun h => by first | rfl | (rw [h]; rfl)) (fun h => by first | rfl | (rw [h]; rfl))) Z Z ?_; refine A8 (A3 Z Z) Z Z (B8 Z Z (fun hg => by rw [hg]; exact A7 Z) Z Z ?_); refine B8 Z Z (fun hg => by rw [hg]; exact A9 Z Z Z) Z Z ?_; refine B8 Z Z (fun hg => by rw [hg]; exact A3 Z Z) Z Z ?_; refine B8 Z Z (fun hg => by rw [hg]; exact B4 Z) Z Z ?_; refine B8 Z Z (fun hg => by rw [hg]; exact A7 Z) Z Z ?_; refine B8 Z Z (fun hg => by rw [hg]; exact A9 Z Z Z) Z Z ?_; refine B8 Z Z (fun hg => by have hq := hg; (try simp at hq); rw [hg]; exact I1 Z Z (by omega)) Z Z ?_; refine B8 Z Z (fun hg => by rw [hg]; exact A7 Z) Z Z ?_; refine B8 Z Z (fun hg => by rw [hg]; exact A9 Z Z Z) Z Z ?_
 refine B8 Z Z (fun hg => by rw [hg]; exact A3 Z Z) Z Z ?_; refine B8 Z Z (fun hg => by rw [hg]; exact B4 Z) Z Z ?_; refine B8 Z Z (fun hg => by rw [hg]; exact A7 Z) Z Z ?_; refine B8 Z Z (fun hg => by rw [hg]; exact A9 Z Z Z) Z Z ?_; refine B8 Z Z (fun hg => by have hq := hg; (try simp at hq); rw [hg]; exact I1 Z Z (by omega)) Z Z ?_; refine B8 Z Z (fun hg => by rw [hg]; exact K7 Z Z) Z Z ?_; refine A8 (B1 Z (fun h => by first | rfl | (rw [h]; rfl)) (fun h => by first | rfl | (rw [h]; rfl))) Z Z ?_; refine H2 ?_
 refine k1 ?_
 refine B2 rfl (fun ht => ?_) (fun ht => ?_)
 ·simp only [or_pick] at ht
  have hb : V0 i j h := A0 ht
  refine k2 ?_
  refine A4 (A2 (A5 Z Z) Z (A6 ?_))
  refine k1 (k10 (k11 ?_))
  refine G1 (R4 rfl rfl) (by repeat (first | exact C6 | refine C5 rfl ?_ | refine D2 _ ?_)) (fun _ _ h => h) ⟨false, rfl, by rw [decide_eq_false (fun hh => hh hb)]; rfl, fun hh => by cases hh⟩
 ·simp only [or_pick] at ht
  have hb : ¬ V0 i j h := A1 ht
  have hln := X2 h.Lines
  refine k5 (k1 (k2 (k2 ?_)))
  refine A4 (A2 (A7 Z) Z (A2 (A9 Z Z Z) Z (A2 (E1 Z (.pure _ _ _ _)) Z (A2 (A3 Z Z) Z (A6 ?_)))))
  refine k1 (k3 ?_)
  refine E2 (X := Nat × Bool × Bool) (fun z => ([(1, .s (.one (.ref 710 0))), (2, .s (.one (.ref 711 0))), (3, .s (.one (.ref 3 0))), (56, D3 PatchLine 2 plineC h.Lines), (57, C2 h.Lines.length), (58, C2 z.1)] ++ gf, [(3, .box (pPhunk h).s1.cells), (6, .box (pPhunk h').s1.cells), (710, X1 i z.2.1), (711, X1 j z.2.2)])) (fun z => z.1 ≤ h.Lines.length ∧ n7 o n h.Lines = n7 z.2.1 z.2.2 (h.Lines.drop z.1)) (fun z => h.Lines.length - z.1) (0, o, n) ⟨Nat.zero_le _, rfl⟩ ?_ ?_
  ·exact Sees.tailed ⟨le1 rfl, le1 rfl, le1 rfl, le1 rfl, le1 rfl, le1 rfl, trivial⟩ hH (by repeat (first | exact C6 | refine C5 rfl ?_)) (fun _ _ hh => hh)
  rintro ⟨k, ok, nk⟩ ⟨hk, hp⟩
  dsimp only at hk hp ⊢
  refine k2 ?_
  refine A4 (A2 (E3 Z Z) Z (A6 ?_))
  refine k1 (k2 ?_)
  refine B2 rfl (fun ht => ?_) (fun ht => ?_)
  ·have hlt : k < h.Lines.length := by have := A0 ht; omega
   have hv : h.Lines[k]? = some h.Lines[k] := by simp [hlt]
   have hmem2 := szL_mem (List.getElem_mem hlt)
   rw [List.drop_eq_getElem_cons hlt, n7] at hp
   obtain ⟨x, hx⟩ : ∃ x, x = h.Lines[k] := ⟨_, rfl⟩
   rw [← hx] at hv hmem2 hp
   refine k5 (k1 (k2 (k3 (k2 ?_))))
   refine A4 (A2 (B5 Z (.pure _ _ _ _) Z (by omega) hv) Z (A2 (E5 Z Z) Z (C9 (G3 8 (show ((I3 8 gf && true) = true) by rw [hf8]; rfl)) Z ?_))); refine E9 (B7 TySz.out Z Z Z Z Z Z) (A6 ?_)
   refine k1 (k2 ?_)
   refine T5 ([(1, .s (.one (.ref 710 0))), (2, .s (.one (.ref 711 0))), (3, .s (.one (.ref 3 0))), (8, .s (.one (.ref 8 0))), (56, D3 PatchLine 2 plineC h.Lines), (57, C2 h.Lines.length), (58, C2 k)] ++ gf) [(8, .box [.p (.v (.int .u8 x.Kind.toNat)), .p (.v (.string ⟨x.Text.toArray⟩))]), (3, .box (pPhunk h).s1.cells), (6, .box (pPhunk h').s1.cells), (710, X1 i ok), (711, X1 j nk)] (Sees.tailed ⟨le1 rfl, le1 rfl, le1 rfl, le1 rfl, le1 rfl, le1 rfl, le1 rfl, trivial⟩ hH (by repeat (first | exact C6 | refine C5 rfl ?_ | refine J0 _ ?_)) (ObIn.spec ⟨rfl, rfl, rfl, rfl, rfl, trivial⟩)) ?_
   have hneg : ∀ {b : Bool}, b = (decide (¬ V0 i j h) && match n7 o n h.Lines with
    | none => false
    | some _ => decide (h.Old + J5 h ≤ 4096 ∧ h.New + L1 h ≤ 4096)) → n7 o n h.Lines = none → b = false := fun h1 h2 => by rw [h1, h2]; simp
   by_cases c1 : x.Kind ≠ 43
   ·have c1n : (x.Kind.toNat : Int) ≠ 43 := (decide_eq_decide.1 (s5 x.Kind 43)).2 c1
    cases ok with
    | true =>
     rw [if_pos ⟨c1, rfl⟩] at hp
     refine A4 (A2 (A7 Z) Z (A2 (A9 Z Z Z) Z (A2 (K7 Z Z) Z (A2 (A3 Z Z) Z (E8 Z Z Z (by simp [c1n]) (A2 (A3 Z Z) Z (E8 Z Z Z (by simp [c1n]) (A2 (A7 Z) Z (E8 Z Z Z (by simp [c1n]) (A2 (A9 Z Z Z) Z (E8 Z Z Z (by simp [c1n]) (R5 (uline_met (k := 710) (e := i) (o := true) Z (by omega)) Z Z Z ?_)))))))))))); rintro _ _ ⟨rfl, rfl⟩; refine E8 Z Z Z (by simp [c1n]) (A2 (F4 Z) Z (A2 (B1 Z (fun h => by first | rfl | (rw [h]; rfl)) (fun h => by first | rfl | (rw [h]; rfl))) Z ?_)); refine A2 (A3 Z Z) Z (I5 Z Z Z (by simp [c1n]) Z (I5 Z Z Z (by simp [c1n]) Z (I5 Z Z Z (by simp [c1n]) Z (I5 Z Z Z (by simp [c1n]) Z (L6 (s := .any) Z Z Z .un Z (fun h => absurd h (by decide)) (L6 (s := .any) Z Z Z .un Z (fun h => absurd h (by decide)) (L6 (s := .any) Z Z Z .un Z (fun h => absurd h (by decide)) (L6 (s := .any) Z Z Z .un Z (fun h => absurd h (by decide)) (L6 (s := .any) Z Z Z .un Z (fun h => absurd h (by decide)) (I5 Z Z Z (by simp [c1n]) Z (A2 (n_pick_t Z ((by simp [c1n])) Z) Z (A6 ?_))))))))))))
     refine k1 ?_
     refine B2 rfl (fun ht => ?_) (fun ht => ?_)
     ·refine k2 ?_
      refine A4 (A2 (A5 Z Z) Z (A6 ?_))
      refine k1 (k10 (k12 (k11 (k11 (k12 (k11 ?_))))))
      refine G1 (R4 rfl rfl) (by repeat (first | exact C6 | refine C5 rfl ?_ | refine D2 _ ?_)) (fun _ _ h => h) ⟨false, rfl, by rw [hp]; simp, fun hh => by cases hh⟩
     ·cases ht
    | false =>
     rw [if_neg (by simp)] at hp
     by_cases c2 : x.Kind ≠ 45
     ·have c2n : (x.Kind.toNat : Int) ≠ 45 := (decide_eq_decide.1 (s5 x.Kind 45)).2 c2
      refine A4 (A2 (A7 Z) Z (A2 (A9 Z Z Z) Z (A2 (K7 Z Z) Z (A2 (A3 Z Z) Z (E8 Z Z Z (by simp [c1n]) (A2 (A3 Z Z) Z (E8 Z Z Z (by simp [c1n]) (A2 (A7 Z) Z (E8 Z Z Z (by simp [c1n]) (A2 (A9 Z Z Z) Z (E8 Z Z Z (by simp [c1n]) (R5 (uline_met (k := 710) (e := i) (o := false) Z (by omega)) Z Z Z ?_)))))))))))); rintro _ _ ⟨rfl, rfl⟩; refine E8 Z Z Z (by simp [c1n]) (A2 (F4 Z) Z (A2 (B1 Z (fun h => by first | rfl | (rw [h]; rfl)) (fun h => by first | rfl | (rw [h]; rfl))) Z ?_)); refine A2 (A3 Z Z) Z (E8 Z Z Z (by simp [c1n]) (A2 (A7 Z) Z (E8 Z Z Z (by simp [c1n]) (A2 (A9 Z Z Z) Z (E8 Z Z Z (by simp [c1n]) (A2 (K7 Z Z) Z (E8 Z Z Z (by simp [c1n]) (A2 (A3 Z Z) Z (E8 Z Z Z (by simp [c1n, c2n]) (A2 (A3 Z Z) Z (E8 Z Z Z (by simp [c1n, c2n]) (A2 (A7 Z) Z (E8 Z Z Z (by simp [c1n, c2n]) (A2 (A9 Z Z Z) Z (E8 Z Z Z (by simp [c1n, c2n]) (R5 (uline_met (k := 711) (e := j) (o := nk) Z (by omega)) Z Z Z ?_)))))))))))))))); rintro _ _ ⟨rfl, rfl⟩; refine E8 Z Z Z (by simp [c1n, c2n]) (A2 (F4 Z) Z (E8 Z Z Z (by simp [c1n]) (A2 (B1 Z (fun h => by first | rfl | (rw [h]; rfl)) (fun h => by first | rfl | (rw [h]; rfl))) Z ?_))); refine A2 (B1 Z (fun h => by first | rfl | (rw [h]; rfl)) (fun h => by first | rfl | (rw [h]; rfl))) Z ?_; refine A6 ?_
      refine k1 ?_
      refine B2 rfl (fun ht => ?_) (fun ht => ?_)
      ·have hnk : nk = true := by revert ht; simp [c1n, c2n]
       rw [if_pos ⟨c2, hnk⟩] at hp
       refine k2 ?_
       refine A4 (A2 (A5 Z Z) Z (A6 ?_))
       refine k1 (k10 (k12 (k11 (k11 (k12 (k11 ?_))))))
       refine G1 (R4 rfl rfl) (by repeat (first | exact C6 | refine C5 rfl ?_ | refine D2 _ ?_)) (fun _ _ h => h) ⟨false, rfl, by rw [hp]; simp, fun hh => by cases hh⟩
      ·have hnk : nk = false := by revert ht; simp [c1n, c2n]
       rw [if_neg (by simp [hnk]), if_pos c1, if_pos c2] at hp
       refine k5 (k4 (k1 ?_))
       refine A4 (A2 (C0 Z Z (by omega)) Z (A2 (A3 Z Z) Z (A6 ?_)))
       refine k1 ?_
       exact ⟨(k + 1, !ended x.Text, !ended x.Text), ⟨by dsimp only; omega, hp⟩, by dsimp only; omega, Sees.tailed ⟨le1 rfl, le1 rfl, le1 rfl, le1 rfl, le1 rfl, le1 rfl, trivial⟩ hH (by repeat (first | exact C6 | refine C5 rfl ?_ | refine J0 _ ?_)) (ObIn.spec ⟨rfl, rfl, rfl, rfl, trivial⟩)⟩
     ·have c2n : (x.Kind.toNat : Int) = 45 := Decidable.not_not.1 (fun hh => c2 ((decide_eq_decide.1 (s5 x.Kind 45)).1 hh))
      refine A4 (A2 (A7 Z) Z (A2 (A9 Z Z Z) Z (A2 (K7 Z Z) Z (A2 (A3 Z Z) Z (E8 Z Z Z (by simp [c1n]) (A2 (A3 Z Z) Z (E8 Z Z Z (by simp [c1n]) (A2 (A7 Z) Z (E8 Z Z Z (by simp [c1n]) (A2 (A9 Z Z Z) Z (E8 Z Z Z (by simp [c1n]) (R5 (uline_met (k := 710) (e := i) (o := false) Z (by omega)) Z Z Z ?_)))))))))))); rintro _ _ ⟨rfl, rfl⟩; refine E8 Z Z Z (by simp [c1n]) (A2 (F4 Z) Z (A2 (B1 Z (fun h => by first | rfl | (rw [h]; rfl)) (fun h => by first | rfl | (rw [h]; rfl))) Z ?_)); refine A2 (A3 Z Z) Z (E8 Z Z Z (by simp [c1n]) (A2 (A7 Z) Z (E8 Z Z Z (by simp [c1n]) (A2 (A9 Z Z Z) Z (E8 Z Z Z (by simp [c1n]) (A2 (K7 Z Z) Z (E8 Z Z Z (by simp [c1n]) (A2 (A3 Z Z) Z (I5 Z Z Z (by simp [c1n, c2n]) Z (I5 Z Z Z (by simp [c1n, c2n]) Z (I5 Z Z Z (by simp [c1n, c2n]) Z (I5 Z Z Z (by simp [c1n, c2n]) Z (I5 Z Z Z (by simp [c1n, c2n]) Z (E8 Z Z Z (by simp [c1n]) (A2 (T6 Z ((by simp [c1n, c2n])) Z) Z (A2 (B1 Z (fun h => by first | rfl | (rw [h]; rfl)) (fun h => by first | rfl | (rw [h]; rfl))) Z ?_)))))))))))))))); refine A6 ?_
      refine k1 ?_
      refine B2 rfl (fun ht => ?_) (fun ht => ?_)
      ·exfalso; revert ht; simp [c1n, c2n]
      ·rw [if_neg (by simp [c2]), if_pos c1, if_neg c2] at hp
       refine k5 (k4 (k1 ?_))
       refine A4 (A2 (C0 Z Z (by omega)) Z (A2 (A3 Z Z) Z (A6 ?_)))
       refine k1 ?_
       exact ⟨(k + 1, !ended x.Text, nk), ⟨by dsimp only; omega, hp⟩, by dsimp only; omega, Sees.tailed ⟨le1 rfl, le1 rfl, le1 rfl, le1 rfl, le1 rfl, le1 rfl, trivial⟩ hH (by repeat (first | exact C6 | refine C5 rfl ?_ | refine J0 _ ?_)) (ObIn.spec ⟨rfl, rfl, rfl, rfl, trivial⟩)⟩
   ·have c2 : x.Kind ≠ 45 := by rw [Decidable.not_not.1 c1]; decide
    have c1n : (x.Kind.toNat : Int) = 43 := Decidable.not_not.1 (fun hh => c1 ((decide_eq_decide.1 (s5 x.Kind 43)).1 hh))
    have c2n : (x.Kind.toNat : Int) ≠ 45 := (decide_eq_decide.1 (s5 x.Kind 45)).2 c2
    rw [if_neg (by simp [c1])] at hp
    refine A4 (A2 (A7 Z) Z (A2 (A9 Z Z Z) Z (A2 (K7 Z Z) Z (A2 (A3 Z Z) Z (I5 Z Z Z (by simp [c1n]) Z (I5 Z Z Z (by simp [c1n]) Z (I5 Z Z Z (by simp [c1n]) Z (I5 Z Z Z (by simp [c1n]) Z (I5 Z Z Z (by simp [c1n]) Z (A2 (T6 Z ((by simp [c1n])) Z) Z (A2 (A3 Z Z) Z (E8 Z Z Z (by simp [c1n]) (A2 (A7 Z) Z (E8 Z Z Z (by simp [c1n]) (A2 (A9 Z Z Z) Z (E8 Z Z Z (by simp [c1n]) (A2 (K7 Z Z) Z (E8 Z Z Z (by simp [c1n]) (A2 (A3 Z Z) Z (E8 Z Z Z (by simp [c1n, c2n]) (A2 (A3 Z Z) Z (E8 Z Z Z (by simp [c1n, c2n]) (A2 (A7 Z) Z ?_))))))))))))))))))))))); refine E8 Z Z Z (by simp [c1n, c2n]) (A2 (A9 Z Z Z) Z (E8 Z Z Z (by simp [c1n, c2n]) (R5 (uline_met (k := 711) (e := j) (o := nk) Z (by omega)) Z Z Z ?_))); rintro _ _ ⟨rfl, rfl⟩; refine E8 Z Z Z (by simp [c1n, c2n]) (A2 (F4 Z) Z (E8 Z Z Z (by simp [c1n]) (A2 (B1 Z (fun h => by first | rfl | (rw [h]; rfl)) (fun h => by first | rfl | (rw [h]; rfl))) Z ?_))); refine A2 (B1 Z (fun h => by first | rfl | (rw [h]; rfl)) (fun h => by first | rfl | (rw [h]; rfl))) Z ?_; refine A6 ?_
    refine k1 ?_
    refine B2 rfl (fun ht => ?_) (fun ht => ?_)
    ·have hnk : nk = true := by revert ht; simp [c1n, c2n]
     rw [if_pos ⟨c2, hnk⟩] at hp
     refine k2 ?_
     refine A4 (A2 (A5 Z Z) Z (A6 ?_))
     refine k1 (k10 (k12 (k11 (k11 (k12 (k11 ?_))))))
     refine G1 (R4 rfl rfl) (by repeat (first | exact C6 | refine C5 rfl ?_ | refine D2 _ ?_)) (fun _ _ h => h) ⟨false, rfl, by rw [hp]; simp, fun hh => by cases hh⟩
    ·have hnk : nk = false := by revert ht; simp [c1n, c2n]
     rw [if_neg (by simp [hnk]), if_neg c1, if_pos c2] at hp
     refine k5 (k4 (k1 ?_))
     refine A4 (A2 (C0 Z Z (by omega)) Z (A2 (A3 Z Z) Z (A6 ?_)))
     refine k1 ?_
     exact ⟨(k + 1, ok, !ended x.Text), ⟨by dsimp only; omega, hp⟩, by dsimp only; omega, Sees.tailed ⟨le1 rfl, le1 rfl, le1 rfl, le1 rfl, le1 rfl, le1 rfl, trivial⟩ hH (by repeat (first | exact C6 | refine C5 rfl ?_ | refine J0 _ ?_)) (ObIn.spec ⟨rfl, rfl, rfl, rfl, trivial⟩)⟩
  ·have hk' : k = h.Lines.length := by have := A1 ht; omega
   subst hk'
   rw [List.drop_eq_nil_of_le (Nat.le_refl _), n7] at hp
   have hbb : (0 ≤ h.Old ∧ h.Old ≤ 4096) ∧ (0 ≤ h.New ∧ h.New ≤ 4096) := by unfold V0 at hb; simp only [not_or] at hb; omega
   have hon := J1 h.Lines 43
   have hnn := J1 h.Lines 45
   have hon2 : J5 h ≤ h.Lines.length ∧ 0 ≤ J5 h := by unfold J5; omega
   have hnn2 : L1 h ≤ h.Lines.length ∧ 0 ≤ L1 h := by unfold L1; omega
   refine k6 (k2 ?_)
   refine A4 (A2 (E4 Z Z Z) Z (C3 (usizes_ok h (by omega)) Z Z Z ?_)); rintro _ rfl; refine A2 (A3 Z Z) Z (A2 (B3 Z Z) Z (A2 (B3 Z Z) Z (A2 (A5 Z Z) Z (A2 (A5 Z Z) Z (A6 ?_)))))
   refine k1 (k2 ?_)
   have hbx : decide (¬ V0 i j h) = true := decide_eq_true hb
   refine c_region_store 12 [(101, .s (.one (.ref 710 0))), (95, C2 (h.Old + J5 h))] (by kernel_rfl) (by kernel_rfl) Z (u0 TySz.out Z Z Z Z Z Z) Z Z (s_neu (A3 Z Z) Z (A3 Z Z) (s_neu (A3 Z Z) Z (A3 Z Z) (s_neu (A7 Z) Z (A7 Z) (s_neu (A9 Z Z Z) Z (A9 Z Z Z) (s_neu (A3 Z Z) Z (A3 Z Z) (s_neu (C0 Z Z (by omega)) Z (C0 Z Z (by omega)) (s_neu (A7 Z) Z (A7 Z) (s_neu (A9 Z Z Z) Z (A9 Z Z Z) (s_neu (A3 Z Z) Z (A3 Z Z) (s_neu (C0 Z Z (by omega)) Z (C0 Z Z (by omega)) (s_neu (B4 Z) Z (B4 Z) (s_neu (A7 Z) Z (A7 Z) (s_nil ⟨rfl, rfl, trivial⟩ (A8 (B4 Z) Z Z (A8 (A7 Z) Z Z (y7 (B7 TySz.out Z Z Z Z Z Z) Z (H2 ?_)))))))))))))))))
   refine k1 (k2 ?_)
   refine A4 (A2 (A3 Z Z) Z (A2 (B4 Z) Z (A2 (A7 Z) Z (A2 (A9 Z Z Z) Z (A2 (x4 Z Z) Z (A2 (A3 Z Z) Z (B0 Z Z Z Z (fun hg => by rw [hg]; exact A3 Z Z) ?_))))))); refine B0 Z Z Z Z (fun hg => by rw [hg]; exact B4 Z) ?_; refine B0 Z Z Z Z (fun hg => by rw [hg]; exact A7 Z) ?_; refine B0 Z Z Z Z (fun hg => by rw [hg]; exact A9 Z Z Z) ?_; refine B0 Z Z Z Z (fun hg => by rw [hg]; exact x4 Z Z) ?_; refine A2 (B1 Z (fun h => by first | rfl | (rw [h]; rfl)) (fun h => by first | rfl | (rw [h]; rfl))) Z ?_; refine A2 (A5 Z Z) Z (A6 ?_)
   refine k1 (k10 ?_)
   refine G1 (ob' := [(6, .box (pPhunk h').s1.cells), (710, X1 (h.Old + J5 h) ok), (711, X1 (h.New + L1 h) nk)]) (R4 rfl rfl) (by repeat (first | exact C6 | refine C5 rfl ?_ | refine D2 _ ?_)) (ObIn.spec ⟨rfl, rfl, rfl, trivial⟩) ⟨_, rfl, ?_, fun hh => ⟨ok, nk, hp, rfl⟩⟩
   rw [hp, hbx]
   simp only [G2, Bool.true_and]
theorem uwell_ok (hs : List PatchHunk) (hsz : szP hs ≤ 268435456) : FnOk Tryz.prog 79 [pPhunks hs] (fun rs => rs = [F9 (P1 hs)]) := by
 have hsl := szP_len hs
 rw [← well_good]
 refine FnOk.intro Tryz.func79 (by decide) Z Z Z Z ?_
 refine k2 ?_
 refine A4 (A2 (A5 Z Z) Z (A6 ?_))
 refine k1 (k2 ?_)
 refine A4 (C9 (G3 710 Z) Z (C9 (G3 711 Z) Z (A6 ?_)))
 refine k1 (k2 (k2 ?_))
 refine A4 (A2 (A3 Z Z) Z (A2 (E1 Z (.pure _ _ _ _)) Z (A2 (A3 Z Z) Z (A6 ?_))))
 refine k1 (k3 ?_)
 refine E2 (X := Nat × (Int × Int) × Bool × Bool) (fun z => ([(3, .s (.one (.ref 710 0))), (4, .s (.one (.ref 711 0))), (7, D3 PatchHunk 3 phunkC hs), (8, C2 hs.length), (9, C2 z.1)], [(710, X1 z.2.1.1 z.2.2.1), (711, X1 z.2.1.2 z.2.2.2)])) (fun z => z.1 ≤ hs.length ∧ ((0 ≤ z.2.1.1 ∧ z.2.1.1 ≤ 8192) ∧ (0 ≤ z.2.1.2 ∧ z.2.1.2 ≤ 8192)) ∧ wellGo 0 0 false false hs = wellGo z.2.1.1 z.2.1.2 z.2.2.1 z.2.2.2 (hs.drop z.1)) (fun z => hs.length - z.1) (0, (0, 0), false, false) ⟨Nat.zero_le _, by decide, rfl⟩ (Sees.of ⟨le1 rfl, le1 rfl, le1 rfl, le1 rfl, le1 rfl, trivial⟩ ⟨rfl, rfl, trivial⟩) ?_
 rintro ⟨k, ⟨i, j⟩, o, n⟩ ⟨hk, ⟨hi, hj⟩, hp⟩
 dsimp only at hk hi hj hp ⊢
 refine k2 ?_
 refine A4 (A2 (E3 Z Z) Z (A6 ?_))
 refine k1 (k2 ?_)
 refine B2 rfl (fun ht => ?_) (fun ht => ?_)
 ·have hlt : k < hs.length := by have := A0 ht; omega
  have hv : hs[k]? = some hs[k] := by simp [hlt]
  have hmem : hs[k] ∈ hs := List.getElem_mem hlt
  rw [List.drop_eq_getElem_cons hlt, wellGo] at hp
  obtain ⟨h, hx⟩ : ∃ x, x = hs[k] := ⟨_, rfl⟩
  rw [← hx] at hv hmem hp
  have h1 := s6 hmem
  have h3 := X2 h.Lines
  unfold szH at h1
  refine k5 (k1 (k2 (k3 (k2 ?_))))
  refine A4 (A2 (B5 Z (.pure _ _ _ _) Z (by omega) hv) Z (A2 (E5 Z Z) Z (C9 (G3 6 Z) Z (E9 (B7 TySz.out Z Z Z Z Z Z) (A6 ?_)))))
  refine k1 (k2 ?_)
  refine T5 [(3, .s (.one (.ref 710 0))), (4, .s (.one (.ref 711 0))), (6, .s (.one (.ref 6 0))), (7, D3 PatchHunk 3 phunkC hs), (8, C2 hs.length), (9, C2 k)] [(6, .box (pPhunk h).s1.cells), (710, X1 i o), (711, X1 j n)] (Sees.of ⟨le1 rfl, le1 rfl, le1 rfl, le1 rfl, le1 rfl, le1 rfl, trivial⟩ ⟨rfl, rfl, rfl, trivial⟩) ?_
  cases hpr : (h.Lines.all O9 && U2 h.Lines) with
  | false =>
   rw [hpr] at hp
   refine A4 (A2 (E4 Z Z Z) Z (C3 (uproper_ok h (by omega)) Z Z Z ?_)); rintro _ rfl; refine A2 (F4 Z) Z (A2 (A3 Z Z) Z (I5 Z Z Z (by rw [hpr]; decide) Z ?_)); refine I5 Z Z Z (by rw [hpr]; decide) Z ?_; refine I5 Z Z Z (by rw [hpr]; decide) Z ?_; refine A2 (n_pick_t Z ((by rw [hpr]; rfl)) Z) Z ?_; refine A6 ?_
   refine k1 ?_
   refine B2 rfl (fun ht => ?_) (fun ht => ?_)
   ·refine k2 ?_
    refine A4 (A2 (A5 Z Z) Z (A6 ?_))
    refine k1 (k10 (k12 (k11 (k11 (k12 (k11 ?_))))))
    exact B6 (H1 rfl rfl rfl) (by rw [hp]; rfl)
   ·cases ht
  | true =>
   rw [hpr] at hp
   refine A4 (A2 (E4 Z Z Z) Z (C3 (uproper_ok h (by omega)) Z Z Z ?_)); rintro _ rfl; refine A2 (F4 Z) Z (A2 (A3 Z Z) Z (E8 Z Z Z (by rw [hpr]; rfl) ?_)); refine A2 (E4 Z Z Z) Z (E8 Z Z Z (by rw [hpr]; rfl) ?_); refine R5 (uplaced_met h h i j o n (by omega) hi hj Z Z) Z Z Z ?_; rintro _ _ ⟨b, rfl, hb, hpost⟩; refine E8 Z Z Z (by rw [hpr]; rfl) ?_; refine A2 (F4 Z) Z (A2 (T6 Z ((by rw [hpr]; rfl)) Z) Z ?_); refine A6 ?_
   refine k1 ?_
   refine B2 rfl (fun ht => ?_) (fun ht => ?_)
   ·have hbf : b = false := by simpa using ht
    refine k2 ?_
    refine A4 (A2 (A5 Z Z) Z (A6 ?_))
    refine k1 (k10 (k12 (k11 (k11 (k12 (k11 ?_))))))
    refine B6 (H1 Z Z Z) ?_
    subst hbf
    rw [hp]
    cases hbp : decide (¬ V0 i j h) with
    | false => rfl
    | true =>
     rw [hbp] at hb
     cases hop : n7 o n h.Lines with
     | none => rfl
     | some q =>
      rw [hop] at hb
      obtain ⟨q1, q2⟩ := q
      have hb2 : decide (h.Old + J5 h ≤ 4096 ∧ h.New + L1 h ≤ 4096) = false := hb.symm
      show [F9 false] = [F9 (decide (h.Old + J5 h ≤ 4096 ∧ h.New + L1 h ≤ 4096) && wellGo (h.Old + J5 h) (h.New + L1 h) q1 q2 (List.drop (k + 1) hs))]
      rw [hb2]; rfl
   ·have hbt : b = true := by simpa using ht
    obtain ⟨o', n', e1, rfl⟩ := hpost hbt
    rw [hbt, e1] at hb
    have hb2 := (Bool.and_eq_true _ _ ▸ hb.symm : _ ∧ _)
    have hb1 := A0 hb2.1
    have hb3 := A0 hb2.2
    rw [e1, hb2.1] at hp
    simp only [Bool.true_and] at hp
    rw [decide_eq_true hb3, Bool.true_and] at hp
    have hbb : (0 ≤ h.Old ∧ h.Old ≤ 4096) ∧ (0 ≤ h.New ∧ h.New ≤ 4096) := by unfold V0 at hb1; simp only [not_or] at hb1; omega
    have hon2 : 0 ≤ J5 h := by unfold J5; omega
    have hnn2 : 0 ≤ L1 h := by unfold L1; omega
    refine k5 (k4 (k1 ?_))
    refine A4 (A2 (C0 Z Z (by omega)) Z (A2 (A3 Z Z) Z (A6 ?_)))
    refine k1 ?_
    exact ⟨(k + 1, (h.Old + J5 h, h.New + L1 h), o', n'), ⟨by dsimp only; omega, by dsimp only; omega, hp⟩, by dsimp only; omega, Sees.of ⟨le1 rfl, le1 rfl, le1 rfl, le1 rfl, le1 rfl, trivial⟩ ⟨rfl, rfl, trivial⟩⟩
 ·have hk' : k = hs.length := by have := A1 ht; omega
  subst hk'
  rw [List.drop_eq_nil_of_le (Nat.le_refl _), wellGo] at hp
  refine k6 (k2 ?_)
  refine A4 (A2 (A5 Z Z) Z (A6 ?_))
  refine k1 (k10 ?_)
  exact B6 (H1 rfl rfl rfl) (by rw [hp])
theorem ucheck_ok (p : Patch) (hp : szP p.Hunks ≤ 268435456) : FnOk Tryz.prog 32 [pPatch p] (fun rs => rs = [F0 (F7 p)]) := by
 refine FnOk.intro Tryz.func32 (by decide) Z Z Z Z ?_
 refine k2 ?_
 refine A4 (C9 (c8 1 Z Z Z) Z (A2 (A5 Z Z) Z (A6 ?_)))
 refine k1 (k2 (k3 (k2 ?_)))
 refine A4 (A2 (A7 Z) Z (A2 (A9 Z Z Z) Z (C3 (unamed_ok p.OldName) Z Z Z ?_))); rintro _ rfl; refine A2 (F4 Z) Z (A2 (A3 Z Z) Z (B0 Z Z Z Z (fun hg => by rw [hg]; exact A7 Z) ?_)); refine B0 Z Z Z Z (fun hg => by rw [hg]; exact A9 Z Z Z) ?_; refine B0 Z Z Z Z (fun hg => by have hq := hg; (try simp at hq); rw [hg]; exact G9 (unamed_ok p.NewName) Z Z) ?_; refine B0 Z Z Z Z (fun hg => by rw [hg]; exact F4 Z) ?_; refine A2 (B1 Z (fun h => by first | rfl | (rw [h]; rfl)) (fun h => by first | rfl | (rw [h]; rfl))) Z ?_; refine A2 (A5 Z Z) Z (A6 ?_)
 refine k1 ?_
 refine B2 rfl (fun ht => ?_) (fun ht => ?_)
 ·simp only [notB, or_pick] at ht
  have h := A0 ht
  refine k2 ?_
  refine A4 (A2 (A5 Z Z) Z (A6 ?_))
  refine k1 (k10 (k12 (k11 ?_)))
  exact B6 (H1 rfl rfl rfl) (by rw [F7, if_pos h])
 ·simp only [notB, or_pick] at ht
  have h := A1 ht
  refine k2 ?_
  refine A4 (A2 (A7 Z) Z (A2 (A9 Z Z Z) Z (C3 (uwell_ok p.Hunks hp) Z Z Z ?_))); rintro _ rfl; refine A2 (F4 Z) Z (A2 (A5 Z Z) Z (A6 ?_))
  refine k1 ?_
  refine B2 rfl (fun ht => ?_) (fun ht => ?_)
  ·have h2 : P1 p.Hunks = false := by simpa using ht
   refine k2 ?_
   refine A4 (A2 (A5 Z Z) Z (A6 ?_))
   refine k1 (k10 (k12 (k11 ?_)))
   exact B6 (H1 rfl rfl rfl) (by rw [F7, if_neg h, if_pos h2])
  ·have h2 : P1 p.Hunks = true := by simpa using ht
   have hr := y2 h2
   have hn1 : L2 p.OldName = true := by by_cases hh : L2 p.OldName = true; exact hh; exact absurd (.inl (by simpa using hh)) h
   have hn2 : L2 p.NewName = true := by by_cases hh : L2 p.NewName = true; exact hh; exact absurd (.inr (by simpa using hh)) h
   have hn3 := A0 hn1
   have hn4 := A0 hn2
   have hpf : PFit p := ⟨by omega, by omega, hp⟩
   refine k2 ?_
   refine A4 (A2 (E4 Z Z Z) Z (C3 (usize_ok p hpf (fun x hx => by have := hr x hx; omega)) Z Z Z ?_)); rintro _ rfl; refine A2 (N4 Z Z) Z (A2 (A5 Z Z) Z (A6 ?_))
   refine k1 ?_
   refine B2 rfl (fun ht => ?_) (fun ht => ?_)
   ·have h3 := A0 ht
    refine k2 ?_
    refine A4 (A2 (A5 Z Z) Z (A6 ?_))
    refine k1 (k10 (k12 (k11 ?_)))
    exact B6 (H1 rfl rfl rfl) (by rw [F7, if_neg h, if_neg (by rw [h2]; decide), if_pos (by omega)])
   ·have h3 := A1 ht
    refine k5 (k2 ?_)
    refine A4 (A2 (A5 Z Z) Z (A6 ?_))
    refine k1 (k10 ?_)
    exact B6 (H1 rfl rfl rfl) (by rw [F7, if_neg h, if_neg (by rw [h2]; decide), if_neg (by omega)])
theorem check12_good {p : Patch} (h1 : ¬ F7 p ≠ 0) : P1 p.Hunks = true := by
 by_cases hg : P1 p.Hunks = true
 ·exact hg
 ·exfalso; apply h1; unfold F7; split
  ·decide
  ·rw [if_pos (by simpa using hg)]; decide
def U1 (p : Patch) (blob : Str) : List Str × Int := if F7 p ≠ 0 then ([], F7 p) else F1 blob
theorem pprepare_ok (p : Patch) (blob : Str) (hp : szP p.Hunks ≤ 268435456) (hb : blob.length ≤ 536870912) : FnOk Tryz.prog 56 [pPatch p, G6 blob] (fun rs => rs = [R3 (U1 p blob).1, F0 (U1 p blob).2]) := by
 refine FnOk.intro Tryz.func56 (by decide) Z Z Z Z ?_
 refine k2 ?_
 refine A4 (C9 (c8 2 Z Z Z) Z (A2 (A5 Z Z) Z (A2 (A5 Z Z) Z (A6 ?_))))
 refine k1 (k2 (k2 ?_))
 refine A4 (A2 (E4 Z Z Z) Z (C3 (ucheck_ok p hp) Z Z Z ?_)); rintro _ rfl; refine A2 (A5 Z Z) Z (A6 ?_)
 refine k1 (k2 ?_)
 refine A4 (A2 (A3 Z Z) Z (A2 (K7 Z Z) Z (A6 ?_)))
 refine k1 ?_
 refine B2 rfl (fun ht => ?_) (fun ht => ?_)
 ·have h1 : F7 p ≠ 0 := A0 ht
  refine k2 ?_
  refine A4 (A2 (A3 Z Z) Z (A2 (Q6 _ 1 I2) Z (A2 (A5 Z Z) Z (A6 ?_))))
  refine k1 (k10 (k11 ?_))
  exact B6 (U5 rfl rfl rfl rfl rfl) (by rw [U1, if_pos h1])
 have h1 : ¬ F7 p ≠ 0 := A1 ht
 refine k5 (k1 (k2 ?_))
 refine A4 (A2 (A3 Z Z) Z (C3 (tsplit_ok blob hb) Z Z Z ?_)); rintro _ rfl; refine A2 (B3 Z Z) Z (A2 (B3 Z Z) Z (A2 (A5 Z Z) Z (A2 (A5 Z Z) Z (A6 ?_))))
 refine k1 (k10 ?_)
 exact B6 (U5 rfl rfl rfl rfl rfl) (by rw [U1, if_neg h1])
theorem fits14_prep (p : Patch) (blob : Str) : fits14 p blob = if (U1 p blob).2 ≠ 0 then ((0 : Int), (U1 p blob).2) else (((fitN p.Hunks (U1 p blob).1 : Nat) : Int), (0 : Int)) := by
 unfold fits14 U1
 by_cases h : F7 p ≠ 0
 ·simp only [if_pos h]
 ·simp only [if_neg h]
theorem prep14_good {p : Patch} {blob : Str} (h : ¬ (U1 p blob).2 ≠ 0) : P1 p.Hunks = true ∧ (U1 p blob).1 = D8 blob ∧ (U1 p blob).1.length ≤ 4096 ∧ ¬ F7 p ≠ 0 := by
 unfold U1 at h ⊢
 by_cases h1 : F7 p ≠ 0
 ·rw [if_pos h1] at h; exact absurd h1 h
 rw [if_neg h1] at h ⊢
 refine ⟨check12_good h1, ?_, splitOf_len blob, h1⟩
 unfold F1 at h ⊢
 split
 ·rename_i c3; rw [if_pos c3] at h; exact absurd (by decide) h
 ·rfl
theorem apply14_prep (p : Patch) (blob : Str) : s7 p blob = if (U1 p blob).2 ≠ 0 then (([] : Str), (U1 p blob).2) else if fitN p.Hunks (U1 p blob).1 < p.Hunks.length then ([], 140) else applyOf p.Hunks (U1 p blob).1 := by
 unfold s7
 rw [fits14_prep]
 by_cases h : (U1 p blob).2 ≠ 0
 ·simp only [if_pos h]
 ·obtain ⟨_, h2, _⟩ := prep14_good h
  simp only [if_neg h]
  rw [h2]
  simp
theorem join_err (out : List Str) : (if p8 out = false then ([], 140) else j1 out) = if (j1 out).2 = 2 then (([] : Str), (140 : Int)) else j1 out := by
 unfold j1
 by_cases hlo : p8 out = false
 ·rw [if_pos hlo, if_pos hlo, if_pos rfl]
 ·rw [if_neg hlo, if_neg hlo]
  by_cases hc : out.flatten.length > 1048576 ∨ out.length > 4096
  ·rw [if_pos hc, if_neg (by decide)]
  ·rw [if_neg hc]; exact (if_neg (by show ¬ ((0 : Int) = 2); decide)).symm
theorem applyOf_join (hs : List PatchHunk) (x : List Str) : applyOf hs x = if (j1 (n6 hs x hs.length ++ x.drop (d6 hs hs.length).toNat)).2 = 2 then (([] : Str), (140 : Int)) else j1 (n6 hs x hs.length ++ x.drop (d6 hs hs.length).toNat) := join_err _
theorem papply14_ok (p : Patch) (blob : Str) (hp : szP p.Hunks ≤ 134217728) (hb : blob.length ≤ 134217728) : FnOk Tryz.prog 16 [pPatch p, G6 blob] (fun rs => rs = [G6 (s7 p blob).1, F0 (s7 p blob).2]) := by
 have hsl := szP_len p.Hunks
 have hf0 := apply14_prep p blob
 refine FnOk.intro Tryz.func16 (by decide) Z Z Z Z ?_
 refine k2 ?_
 refine A4 (C9 (c8 2 Z Z Z) Z (A2 (A5 Z Z) Z (A2 (A5 Z Z) Z (A6 ?_))))
 refine k1 (k2 ?_)
 refine A4 (A2 (E4 Z Z Z) Z (A2 (A3 Z Z) Z (C3 (pprepare_ok p blob (by omega) (by omega)) Z Z Z ?_))); rintro _ rfl; refine A2 (A3 Z Z) Z (A2 (B3 Z Z) Z (A2 (B3 Z Z) Z (A2 (A5 Z Z) Z (A2 (A5 Z Z) Z (A6 ?_)))))
 refine k1 (k2 (k2 ?_))
 refine A4 (A2 (A3 Z Z) Z (A2 (K7 Z Z) Z (A6 ?_)))
 refine k1 ?_
 refine B2 rfl (fun ht => ?_) (fun ht => ?_)
 ·have h1 : (U1 p blob).2 ≠ 0 := A0 ht
  refine k2 ?_
  refine A4 (A2 (A3 Z Z) Z (A2 (A5 Z Z) Z (A2 (A5 Z Z) Z (A6 ?_))))
  refine k1 (k10 (k11 ?_))
  exact B6 (U5 rfl rfl rfl rfl rfl) (by rw [hf0, if_pos h1])
 have h1 : ¬ (U1 p blob).2 ≠ 0 := A1 ht
 rw [if_neg h1] at hf0
 obtain ⟨hg, hxs, hxl, _⟩ := prep14_good h1
 have hr := y2 hg
 have hxf : (U1 p blob).1.flatten.length = blob.length := by rw [hxs, x1]
 obtain ⟨x, hx⟩ : ∃ x, x = (U1 p blob).1 := ⟨_, rfl⟩
 rw [← hx] at hxl hf0 hxf ⊢
 have hord0 : ∀ k, k < p.Hunks.length → 0 ≤ d6 p.Hunks k ∧ d6 p.Hunks k ≤ (hAt p.Hunks k).Old := by
  unfold P1 at hg
  rw [Bool.and_eq_true] at hg
  have hord := goodGo_order p.Hunks 0 0 hg.1
  refine fun k hk => ⟨?_, hord k hk⟩
  unfold d6
  split
  ·omega
  ·have := hr _ (hAt_mem (hs := p.Hunks) (k := k - 1) (by omega))
   have := oldN_nn (hAt p.Hunks (k - 1))
   omega
 refine k5 (k1 (k2 ?_))
 refine A4 (C9 (W9 8 _ I2 Z) Z (A6 ?_))
 refine k1 (k2 ?_)
 refine A4 (A2 (A5 Z Z) Z (A6 ?_))
 refine k1 (k2 (k2 ?_))
 refine A4 (A2 (A7 Z) Z (A2 (A9 Z Z Z) Z (A2 (E1 Z (.pure _ _ _ _)) Z (A2 (A3 Z Z) Z (A6 ?_)))))
 refine k1 (k3 ?_)
 refine E2 (X := Nat) (fun k => ([(2, .s (.one (.ref 2 0))), (6, D3 Str 1 I2 x), (8, .s (.one (.buf 8 Str 1 I2 (n6 p.Hunks x k)))), (9, C2 (d6 p.Hunks k)), (25, D3 PatchHunk 3 phunkC p.Hunks), (26, C2 p.Hunks.length), (27, C2 k)], [(2, .box (pPatch p).s1.cells), (8, .spare (n6 p.Hunks x k).length 1 9)])) (fun k => k ≤ p.Hunks.length ∧ fitN p.Hunks x = k + fitN (p.Hunks.drop k) x ∧ (∀ j, j < k → fitsOf (hAt p.Hunks j) x = true)) (fun k => p.Hunks.length - k) 0 ⟨Nat.zero_le _, by simp, fun j hj => absurd hj (by omega)⟩ (Sees.of ⟨le1 rfl, le1 rfl, le1 rfl, le1 rfl, le1 rfl, le1 rfl, le1 rfl, trivial⟩ ⟨rfl, rfl, trivial⟩) ?_
 rintro k ⟨hk, hf, hall⟩
 dsimp only at hk hf hall ⊢
 have hlk : (n6 p.Hunks x k).length ≤ (d6 p.Hunks k).toNat + szP (p.Hunks.take k) ∧ (n6 p.Hunks x k).flatten.length ≤ (x.take (d6 p.Hunks k).toNat).flatten.length + szP (p.Hunks.take k) := by
  refine outTo_lenK k hk (fun j hj => ?_)
  obtain ⟨q1, q2⟩ := hord0 j (by omega)
  exact ⟨q1, q2, fitsOf_le (hall j hj)⟩
 have hst := szP_take p.Hunks k
 refine k2 ?_
 refine A4 (A2 (E3 Z Z) Z (A6 ?_))
 refine k1 (k2 ?_)
 refine B2 rfl (fun ht => ?_) (fun ht => ?_)
 ·have hlt : k < p.Hunks.length := by have := A0 ht; omega
  have hv : p.Hunks[k]? = some (hAt p.Hunks k) := hAt_get hlt
  have hmem := hAt_mem hlt
  have hdr : p.Hunks.drop k = hAt p.Hunks k :: p.Hunks.drop (k + 1) := by
   rw [List.drop_eq_getElem_cons hlt]
   rw [List.getElem?_eq_getElem hlt] at hv
   rw [Option.some.inj hv]
  rw [hdr, fitN] at hf
  obtain ⟨o1, o2⟩ := hord0 k hlt
  obtain ⟨h, hh⟩ : ∃ h, h = hAt p.Hunks k := ⟨_, rfl⟩
  rw [← hh] at hv hmem hf o2
  have h3 := s6 hmem
  have h4 := X2 h.Lines
  have h5 := J1 h.Lines 45
  have h6 := J1 h.Lines 43
  have h7 := oldN_nn h
  have h8 := Z4 x (d6 p.Hunks k) h.Old
  unfold szH at h3
  have hr1 := hr h hmem
  refine k5 (k1 (k2 (k3 (k2 ?_))))
  refine A4 (A2 (B5 Z (.pure _ _ _ _) Z (by omega) hv) Z (A2 (E5 Z Z) Z (C9 (G3 11 Z) Z (E9 (B7 TySz.out Z Z Z Z Z Z) (A6 ?_)))))
  refine k1 (k2 ?_)
  refine A4 (A2 (E4 Z Z Z) Z (C3 (psides_ok h (by omega)) Z Z Z ?_)); rintro _ rfl; refine A2 (A3 Z Z) Z (A2 (B3 Z Z) Z (A2 (B3 Z Z) Z (A2 (A5 Z Z) Z (A2 (A5 Z Z) Z (A6 ?_)))))
  refine k1 (k2 (k2 ?_))
  refine A4 (A2 (A3 Z Z) Z (A2 (A7 Z) Z (A2 (A9 Z Z Z) Z (A2 (A3 Z Z) Z (C3 (pfound_ok h x (by omega) hr1.1 (by omega)) Z Z Z ?_))))); rintro _ rfl; refine A2 (F4 Z) Z (A6 ?_)
  refine k1 ?_
  refine B2 rfl (fun ht => ?_) (fun ht => ?_)
  ·have h5 : fitsOf h x = false := by simpa using ht
   rw [if_neg (by rw [h5]; decide)] at hf
   refine k2 ?_
   refine A4 (A2 (A5 Z Z) Z (A2 (A5 Z Z) Z (A6 ?_)))
   refine k1 (k10 (k11 (k12 (k11 (k11 (k12 (k11 ?_)))))))
   exact B6 (U5 rfl rfl rfl rfl rfl) (by rw [hf0, if_pos (by omega)])
  ·have h9 : fitsOf h x = true := by simpa using ht
   rw [if_pos h9] at hf
   have h10 := fitsOf_le h9
   refine k5 (k1 (k2 ?_))
   refine A4 (A2 (A3 Z Z) Z (A2 (A3 Z Z) Z (A2 (A3 Z Z) Z (A2 (A7 Z) Z (A2 (A9 Z Z Z) Z (A2 (R8 Z (.pure _ _ _ _) Z Z (by (first | omega | (unfold sub at h8; omega))) (by (first | omega | (unfold sub at h8; omega))) (by (first | omega | (unfold sub at h8; omega)))) Z (C9 (J4 Z Z Z (.pure _ _ _ _) (by (unfold sub at h8; omega)) Z) Z ?_))))))); refine A2 (A3 Z Z) Z (C9 (J4 Z Z Z (.pure _ _ _ _) (by (simp only [List.length_append]; unfold sub at h8; omega)) Z) Z (A2 (A5 Z Z) Z (A6 ?_)))
   refine k1 ?_
   refine A4 (A2 (A7 Z) Z (A2 (A9 Z Z Z) Z (A2 (A3 Z Z) Z (A2 (E1 Z (.pure _ _ _ _)) Z (A2 (C0 Z Z (by omega)) Z (A2 (A5 Z Z) Z (A6 ?_)))))))
   refine k4 (k1 ?_)
   refine A4 (A2 (C0 Z Z (by omega)) Z (A2 (A3 Z Z) Z (A6 ?_)))
   refine k1 ?_
   have e : n6 p.Hunks x (k + 1) = n6 p.Hunks x k ++ sub x (d6 p.Hunks k) h.Old ++ C4 h.Lines 45 := by rw [hh]; rfl
   have e2 : d6 p.Hunks (k + 1) = h.Old + ((C4 h.Lines 43).length : Int) := by rw [hh]; unfold d6; rw [if_neg (by omega)]; rfl
   refine ⟨k + 1, ⟨by omega, by omega, fun j hj => ?_⟩, by omega, ?_⟩
   ·rcases Nat.lt_or_ge j k with hjk | hjk
    ·exact hall j hjk
    ·rw [show j = k by omega, ← hh]; exact h9
   rw [e, e2]
   exact Sees.of ⟨le1 rfl, le1 rfl, le1 rfl, le1 rfl, le1 rfl, le1 rfl, le1 rfl, trivial⟩ ⟨rfl, rfl, trivial⟩
 ·have hk' : k = p.Hunks.length := by have := A1 ht; omega
  subst hk'
  rw [List.drop_eq_nil_of_le (Nat.le_refl _), fitN] at hf
  rw [if_neg (by omega)] at hf0
  have hat : 0 ≤ d6 p.Hunks p.Hunks.length ∧ d6 p.Hunks p.Hunks.length ≤ x.length := by
   unfold d6
   split
   ·omega
   ·obtain ⟨o1, o2⟩ := hord0 (p.Hunks.length - 1) (by omega)
    have o3 := fitsOf_le (hall (p.Hunks.length - 1) (by omega))
    have := oldN_nn (hAt p.Hunks (p.Hunks.length - 1))
    omega
  obtain ⟨out, hout⟩ : ∃ out, out = n6 p.Hunks x p.Hunks.length ++ x.drop (d6 p.Hunks p.Hunks.length).toNat := ⟨_, rfl⟩
  have hfl : out.flatten.length ≤ 268435456 := by
   have h9 : (x.take (d6 p.Hunks p.Hunks.length).toNat).flatten.length + (x.drop (d6 p.Hunks p.Hunks.length).toNat).flatten.length = x.flatten.length := by
    rw [← List.length_append, ← List.flatten_append, List.take_append_drop]
   rw [hout, List.flatten_append, List.length_append]; omega
  have hol : out.length ≤ 536870911 := by rw [hout, List.length_append, List.length_drop]; omega
  have hap := applyOf_join p.Hunks x
  rw [← hout] at hap
  have hfl2 := hfl
  have hol2 := hol
  rw [hout] at hfl2 hol2
  refine k6 (k2 ?_)
  refine A4 (A2 (A3 Z Z) Z (A2 (A3 Z Z) Z (A2 (A3 Z Z) Z (A2 (n_slice_l Z (.pure _ _ _ _) Z (by (first | omega | (unfold sub at *; omega))) (by (first | omega | (unfold sub at *; omega)))) Z (C9 (J4 Z Z Z (.pure _ _ _ _) (by (simp only [List.length_drop]; omega)) Z) Z (C3 (tjoin_ok _ (Nat.le_trans hfl2 (by decide)) hol2) Z Z Z ?_)))))); rintro _ rfl; refine A2 (A3 Z Z) Z (A2 (B3 Z Z) Z (A2 (B3 Z Z) Z (A2 (A5 Z Z) Z (A2 (A5 Z Z) Z (A6 ?_)))))
  rw [← hout]
  refine k1 (k2 (k2 ?_))
  refine A4 (A2 (A3 Z Z) Z (A2 (I8 Z Z) Z (A6 ?_)))
  refine k1 ?_
  refine B2 rfl (fun ht => ?_) (fun ht => ?_)
  ·have h8 : (j1 out).2 = 2 := A0 ht
   refine k2 ?_
   refine A4 (A2 (A5 Z Z) Z (A2 (A5 Z Z) Z (A6 ?_)))
   refine k1 (k10 (k11 ?_))
   exact B6 (U5 rfl rfl rfl rfl rfl) (by rw [hf0, hap, if_pos h8])
  ·have h8 : ¬ (j1 out).2 = 2 := A1 ht
   refine k5 (k1 (k2 ?_))
   refine A4 (A2 (A3 Z Z) Z (A2 (A3 Z Z) Z (A2 (A5 Z Z) Z (A2 (A5 Z Z) Z (A6 ?_)))))
   refine k1 (k10 ?_)
   exact B6 (U5 rfl rfl rfl rfl rfl) (by rw [hf0, hap, if_neg h8])
theorem awake14_ok : FnOk Tryz.prog 13 [] (fun rs => rs = [F9 true]) := by
 have hsz := madeHunks_small [97, 10, 98] [97, 10, 99, 10] 1 (by decide) (by decide)
 have hmk := rmake12_ok [120] [120] [97, 10, 98] [97, 10, 99, 10] 1 (by decide) (by decide) (Nat.le_trans hsz (by decide))
 rw [awake_make] at hmk
 have h1 := papply14_ok awakeP [97, 10, 98] (by decide) (by decide)
 have h2 := papply14_ok awakeP [97, 10, 98, 10] (by decide) (by decide)
 rw [awake_apply.1] at h1
 rw [awake_apply.2] at h2
 refine FnOk.intro Tryz.func13 (by decide) Z Z Z Z ?_
 refine k2 ?_
 refine A4 (A2 (A5 Z Z) Z (A6 ?_))
 refine k1 (k2 ?_)
 refine A4 (C3 (hmk) Z Z Z ?_); rintro _ rfl; refine A2 (A3 Z Z) Z (A2 (B3 Z Z) Z (A2 (B3 Z Z) Z (C9 (G3 1 Z) Z (E9 (B7 TySz.out Z Z Z Z Z Z) (A2 (A5 Z Z) Z (A6 ?_))))))
 refine k1 (k2 ?_)
 refine A4 (A2 (E4 Z Z Z) Z (C3 (h1) Z Z Z ?_)); rintro _ rfl; refine A2 (A3 Z Z) Z (A2 (B3 Z Z) Z (A2 (B3 Z Z) Z (A2 (A5 Z Z) Z (A2 (A5 Z Z) Z (A6 ?_)))))
 refine k1 (k2 ?_)
 refine A4 (A2 (E4 Z Z Z) Z (C3 (h2) Z Z Z ?_)); rintro _ rfl; refine A2 (A3 Z Z) Z (A2 (B3 Z Z) Z (A2 (B3 Z Z) Z (A2 (A5 Z Z) Z (A2 (A5 Z Z) Z (A6 ?_)))))
 refine k1 (k2 ?_)
 refine A4 (A2 (A3 Z Z) Z (A2 (I8 Z Z) Z (A2 (A3 Z Z) Z (B0 Z Z Z Z (fun hg => by rw [hg]; exact A3 Z Z) ?_)))); refine B0 Z Z Z Z (fun hg => by rw [hg]; exact d8 Z Z) ?_; refine A2 (B1 Z (fun h => by first | rfl | (rw [h]; rfl)) (fun h => by first | rfl | (rw [h]; rfl))) Z ?_; refine A2 (A3 Z Z) Z (B0 Z Z Z Z (fun hg => by rw [hg]; exact A3 Z Z) ?_); refine B0 Z Z Z Z (fun hg => by rw [hg]; exact I8 Z Z) ?_; refine A2 (B1 Z (fun h => by first | rfl | (rw [h]; rfl)) (fun h => by first | rfl | (rw [h]; rfl))) Z ?_; refine A2 (A5 Z Z) Z (A6 ?_)
 refine k1 (k10 ?_)
 exact B6 (H1 rfl rfl rfl) (by simp)
def pickA (raw : List Int) : Str := blobOf raw 0 9 5
def pickB (raw : List Int) : Str := nearOf (pickA raw) raw 100
def pickM (raw : List Int) (ctx : Int) : Patch × Int := make12 [111] [110] (pickA raw) (pickB raw) (Z6 ctx 4)
theorem pickA_len (raw : List Int) : (pickA raw).length ≤ 36 := by
 have := blobOf_len raw 0 9 5 (by omega)
 unfold pickA; omega
theorem near_len (b : Str) (raw : List Int) (f : Int) : (nearOf b raw f).length ≤ 5 * b.length := by
 unfold nearOf
 have h1 := nearGo_len raw f (D8 b) 0 []
 have h2 := U7 b
 rw [x1] at h1
 simp at h1; omega
theorem pickB_len (raw : List Int) : (pickB raw).length ≤ 180 := by
 have := near_len (pickA raw) raw 100
 have := pickA_len raw
 unfold pickB; omega
theorem pickA_def (raw : List Int) : pickA raw = blobOf raw 0 9 5 := rfl
theorem pickB_def (raw : List Int) : pickB raw = nearOf (pickA raw) raw 100 := rfl
theorem pick14_ok (raw : List Int) (ctx : Int) : FnOk Tryz.prog 14 [W8 raw, F0 ctx] (fun rs => rs = [pPatch (pickM raw ctx).1, G6 (pickA raw), G6 (pickB raw)]) := by
 have ha := pickA_len raw
 have hb := pickB_len raw
 have hsz := madeHunks_small (pickA raw) (pickB raw) (Z6 ctx 4) ha (by omega)
 have hmk := rmake12_ok [111] [110] (pickA raw) (pickB raw) (Z6 ctx 4) (by omega) (by omega) (by omega)
 obtain ⟨q, hq⟩ : ∃ q, q = make12 [111] [110] (pickA raw) (pickB raw) (Z6 ctx 4) := ⟨_, rfl⟩
 have hP : pickM raw ctx = q := by unfold pickM; rw [hq]
 rw [← hq] at hmk
 rw [hP]
 refine FnOk.intro Tryz.func14 (by decide) Z Z Z Z ?_
 refine k2 ?_
 refine A4 (C9 (G3 4 Z) Z (A2 (A5 Z Z) Z (A2 (A5 Z Z) Z (A6 ?_))))
 refine k1 (k2 ?_)
 refine A4 (A2 (A3 Z Z) Z (C3 (blob_ok raw 0 9 5 (by omega) (by omega) (by omega)) Z Z Z ?_)); rintro _ rfl; refine A2 (A5 Z Z) Z (A6 ?_)
 rw [← pickA_def]
 refine k1 (k2 ?_)
 refine A4 (A2 (A3 Z Z) Z (A2 (A3 Z Z) Z (C3 (near_ok (pickA raw) raw 100 (by omega) (by omega)) Z Z Z ?_))); rintro _ rfl; refine A2 (A5 Z Z) Z (A6 ?_)
 rw [← pickB_def]
 refine k1 (k2 ?_)
 refine A4 (A2 (A3 Z Z) Z (A2 (A3 Z Z) Z (A2 (A3 Z Z) Z (C3 (mod_ok ctx 4 (by omega) (by omega)) Z Z Z ?_)))); rintro _ rfl; refine C3 (hmk) Z Z Z ?_; rintro _ rfl; refine A2 (A3 Z Z) Z (A2 (B3 Z Z) Z (A2 (B3 Z Z) Z (C9 (G3 9 Z) Z (E9 (B7 TySz.out Z Z Z Z Z Z) (A2 (A5 Z Z) Z (A6 ?_))))))
 refine k1 (k2 ?_)
 refine A4 (A2 (E4 Z Z Z) Z (A2 (A3 Z Z) Z (A2 (A3 Z Z) Z (E9 (B7 TySz.out Z Z Z Z Z Z) (A2 (A5 Z Z) Z (A2 (A5 Z Z) Z (A6 ?_)))))))
 refine k1 (k10 ?_)
 exact B6 (rs := [pPatch q.1, G6 (pickA raw), G6 (pickB raw)]) (retc3 rfl rfl rfl rfl rfl rfl rfl rfl rfl) rfl
end Go.Proofs.YtgejaedjnbjpoaaGreatDoor
namespace Go.Proofs.YtgejaedjnbjpoaaGreatDoor
open Go Go.AL
set_option maxRecDepth 100000
end Go.Proofs.YtgejaedjnbjpoaaGreatDoor
namespace Go.Proofs.YtgejaedjnbjpoaaGreatDoor
open Go Go.AL
set_option maxRecDepth 100000
theorem Y0 (n : Int) : FnOk Tryz.prog 199 [F0 n] (fun rs => rs = [F9 (decide (G7 n))]) := by
 refine FnOk.intro Tryz.func199 (by decide) Z Z Z Z ?_
 refine k2 ?_
 refine A4 (A2 (A5 Z Z) Z (A6 ?_))
 refine k1 (k2 ?_)
 refine A4 (A2 (A3 Z Z) Z (A2 (l8 Z Z) Z (A2 (A3 Z Z) Z (B0 Z Z Z Z (fun hg => by rw [hg]; exact A3 Z Z) ?_)))); refine B0 Z Z Z Z (fun hg => by rw [hg]; exact x4 Z Z) ?_; refine A2 (B1 Z (fun h => by first | rfl | (rw [h]; rfl)) (fun h => by first | rfl | (rw [h]; rfl))) Z ?_; refine A2 (A5 Z Z) Z (A6 ?_)
 refine k1 (k10 ?_)
 refine B6 (H1 Z Z Z) ?_
 simp only [G2]
 rfl
theorem scheck_ok (l : List Change) (m n : Int) (hl : l.length ≤ 1073741824) : FnOk Tryz.prog 138 [pChanges l, F0 m, F0 n] (fun rs => rs = [F0 (Q4 l m n)]) := by
 refine FnOk.intro Tryz.func138 (by decide) Z Z Z Z ?_
 refine k2 ?_
 refine A4 (A2 (A5 Z Z) Z (A6 ?_))
 refine k1 (k2 (k2 ?_))
 refine A4 (A2 (A3 Z Z) Z (C3 (Y0 m) Z Z Z ?_)); rintro _ rfl; refine A2 (F4 Z) Z (A2 (A3 Z Z) Z (B0 Z Z Z Z (fun hg => by rw [hg]; exact A3 Z Z) ?_)); refine B0 Z Z Z Z (fun hg => by have hq := hg; (try simp at hq); rw [hg]; exact G9 (Y0 n) Z Z) ?_; refine B0 Z Z Z Z (fun hg => by rw [hg]; exact F4 Z) ?_; refine A2 (B1 Z (fun h => by first | rfl | (rw [h]; rfl)) (fun h => by first | rfl | (rw [h]; rfl))) Z ?_; refine A6 ?_
 refine k1 ?_
 refine B2 rfl (fun ht => ?_) (fun ht => ?_)
 ·simp only [← decide_not, or_pick] at ht
  have h : ¬ G7 m ∨ ¬ G7 n := A0 ht
  refine k2 ?_
  refine A4 (A2 (A5 Z Z) Z (A6 ?_))
  refine k1 (k10 (k11 ?_))
  exact B6 (H1 rfl rfl rfl) (by rw [Q4, if_pos h])
 simp only [← decide_not, or_pick] at ht
 have h : ¬ (¬ G7 m ∨ ¬ G7 n) := A1 ht
 have hm : 0 ≤ m ∧ m ≤ 4096 := by by_cases hm : G7 m; exact hm; exact absurd (.inl hm) h
 have hn : 0 ≤ n ∧ n ≤ 4096 := by by_cases hn : G7 n; exact hn; exact absurd (.inr hn) h
 refine k5 (k1 (k2 ?_))
 refine A4 (A2 (A5 Z Z) Z (A2 (A5 Z Z) Z (A6 ?_)))
 refine k1 (k2 (k2 ?_))
 refine A4 (A2 (A3 Z Z) Z (A2 (E1 Z (.pure _ _ _ _)) Z (A2 (A3 Z Z) Z (A6 ?_))))
 refine k1 (k3 ?_)
 refine E2 (X := Nat × Int × Int) (fun x => ([(1, C2 m), (2, C2 n), (7, C2 x.2.1), (8, C2 x.2.2), (20, D3 Change 4 changeC l), (21, C2 l.length), (22, C2 x.1)], [])) (fun x => x.1 ≤ l.length ∧ J3 0 0 0 l m n = J3 x.1 x.2.1 x.2.2 (l.drop x.1) m n ∧ 0 ≤ x.2.1 ∧ x.2.1 ≤ 8192 ∧ 0 ≤ x.2.2 ∧ x.2.2 ≤ 8192) (fun x => l.length - x.1) (0, 0, 0) ⟨Nat.zero_le _, rfl, by decide, by decide, by decide, by decide⟩ (Sees.of ⟨le1 rfl, le1 rfl, le1 rfl, le1 rfl, le1 rfl, le1 rfl, le1 rfl, trivial⟩ trivial) ?_
 rintro ⟨k, i, j⟩ ⟨hk, hp, hi, hi2, hj, hj2⟩
 dsimp only at hk hp hi hi2 hj hj2 ⊢
 refine k2 ?_
 refine A4 (A2 (E3 Z Z) Z (A6 ?_))
 refine k1 (k2 ?_)
 refine B2 rfl (fun ht => ?_) (fun ht => ?_)
 ·have hlt : k < l.length := by have := A0 ht; omega
  have hv : l[k]? = some l[k] := by simp [hlt]
  obtain ⟨c, hc⟩ : ∃ c, c = l[k] := ⟨_, rfl⟩
  rw [List.drop_eq_getElem_cons hlt, J3] at hp
  rw [← hc] at hv hp
  refine k5 (k1 (k2 (k3 (k2 ?_))))
  refine A4 (A2 (A3 Z Z) Z (A2 (B5 Z (.pure _ _ _ _) Z (by omega) hv) Z (A2 (E5 Z Z) Z (C9 (G3 10 Z) Z (A2 (A5 Z Z) Z (E9 (B7 TySz.out Z Z Z Z Z Z) (A6 ?_)))))))
  refine k1 (k2 (k2 ?_))
  refine A4 (A2 (A7 Z) Z (A2 (A9 Z Z Z) Z (C3 (Y0 c.Old) Z Z Z ?_))); rintro _ rfl; refine A2 (F4 Z) Z (A2 (A3 Z Z) Z (B0 Z Z Z Z (fun hg => by rw [hg]; exact A7 Z) ?_)); refine B0 Z Z Z Z (fun hg => by rw [hg]; exact A9 Z Z Z) ?_; refine B0 Z Z Z Z (fun hg => by have hq := hg; (try simp at hq); rw [hg]; exact G9 (Y0 c.OldLen) Z Z) ?_; refine B0 Z Z Z Z (fun hg => by rw [hg]; exact F4 Z) ?_; refine A2 (B1 Z (fun h => by first | rfl | (rw [h]; rfl)) (fun h => by first | rfl | (rw [h]; rfl))) Z ?_; refine A2 (A3 Z Z) Z (B0 Z Z Z Z (fun hg => by rw [hg]; exact A7 Z) ?_); refine B0 Z Z Z Z (fun hg => by rw [hg]; exact A9 Z Z Z) ?_; refine B0 Z Z Z Z (fun hg => by have hq := hg; (try simp at hq); rw [hg]; exact G9 (Y0 c.New) Z Z) ?_; refine B0 Z Z Z Z (fun hg => by rw [hg]; exact F4 Z) ?_; refine A2 (B1 Z (fun h => by first | rfl | (rw [h]; rfl)) (fun h => by first | rfl | (rw [h]; rfl))) Z ?_; refine A2 (A3 Z Z) Z (B0 Z Z Z Z (fun hg => by rw [hg]; exact A7 Z) ?_); refine B0 Z Z Z Z (fun hg => by rw [hg]; exact A9 Z Z Z) ?_; refine B0 Z Z Z Z (fun hg => by have hq := hg; (try simp at hq); rw [hg]; exact G9 (Y0 c.NewLen) Z Z) ?_; refine B0 Z Z Z Z (fun hg => by rw [hg]; exact F4 Z) ?_; refine A2 (B1 Z (fun h => by first | rfl | (rw [h]; rfl)) (fun h => by first | rfl | (rw [h]; rfl))) Z ?_; refine A2 (A3 Z Z) Z (B0 Z Z Z Z (fun hg => by rw [hg]; exact A7 Z) ?_); refine B0 Z Z Z Z (fun hg => by rw [hg]; exact A9 Z Z Z) ?_; refine B0 Z Z Z Z (fun hg => by rw [hg]; exact A7 Z) ?_; refine B0 Z Z Z Z (fun hg => by rw [hg]; exact A9 Z Z Z) ?_; refine B0 Z Z Z Z (fun hg => by have hq := hg; (try simp at hq); simp [G7] at hq; rw [hg]; exact C0 Z Z (by omega)) ?_; refine B0 Z Z Z Z (fun hg => by rw [hg]; exact I8 Z Z) ?_; refine A2 (B1 Z (fun h => by first | rfl | (rw [h]; rfl)) (fun h => by first | rfl | (rw [h]; rfl))) Z ?_; refine A6 ?_
  refine k1 ?_
  refine B2 rfl (fun ht => ?_) (fun ht => ?_)
  ·simp only [← decide_not, or_pick, G2] at ht
   have h0 := A0 ht
   have hb : badC k i j c := .inl (.inl (.inl h0))
   refine k2 ?_
   refine A4 (A2 (A5 Z Z) Z (A6 ?_))
   refine k1 (k10 (k11 (k12 (k11 (k11 (k12 (k11 ?_)))))))
   exact B6 (H1 rfl rfl rfl) (by rw [Q4, if_neg ‹¬ (¬ G7 m ∨ ¬ G7 n)›, hp, decide_eq_false (fun hh => hh hb)]; rfl)
  simp only [← decide_not, or_pick, G2] at ht
  have h0 := A1 ht
  have hr : (0 ≤ c.Old ∧ c.Old ≤ 4096) ∧ (0 ≤ c.OldLen ∧ c.OldLen ≤ 4096) ∧ (0 ≤ c.New ∧ c.New ≤ 4096) ∧ (0 ≤ c.NewLen ∧ c.NewLen ≤ 4096) ∧ c.OldLen + c.NewLen ≠ 0 := by
   by_cases a1 : G7 c.Old <;> by_cases a2 : G7 c.OldLen <;> by_cases a3 : G7 c.New <;> by_cases a4 : G7 c.NewLen <;> simp [a1, a2, a3, a4] at h0
   exact ⟨a1, a2, a3, a4, h0⟩
  refine k5 (k1 (k2 ?_))
  refine A4 (A2 (A7 Z) Z (A2 (A9 Z Z Z) Z (A2 (A3 Z Z) Z (A2 (I1 Z Z (by omega)) Z (A2 (A5 Z Z) Z (A6 ?_))))))
  refine k1 (k2 (k2 ?_))
  refine A4 (A2 (A3 Z Z) Z (A2 (A7 Z) Z (A2 (A9 Z Z Z) Z (A2 (A3 Z Z) Z (A2 (I1 Z Z (by omega)) Z (A2 (K7 Z Z) Z (A2 (A3 Z Z) Z (B0 Z Z Z Z (fun hg => by rw [hg]; exact A3 Z Z) ?_)))))))); refine B0 Z Z Z Z (fun hg => by rw [hg]; exact A3 Z Z) ?_; refine B0 Z Z Z Z (fun hg => by rw [hg]; exact n_min Z Z) ?_; refine B0 Z Z Z Z (fun hg => by rw [hg]; exact E3 Z Z) ?_; refine A2 (B1 Z (fun h => by first | rfl | (rw [h]; rfl)) (fun h => by first | rfl | (rw [h]; rfl))) Z ?_; refine A6 ?_
  refine k1 ?_
  have hmin : ∀ b : Int, (c.Old - i < if (1 : Int) < (k : Int) then 1 else (k : Int)) ↔ (c.Old < i ∨ (0 < (k : Int) ∧ c.Old = i)) := by intro _; split <;> omega
  refine B2 rfl (fun ht => ?_) (fun ht => ?_)
  ·simp only [or_pick] at ht
   have h1 := A0 ht
   have hb : badC k i j c := by
    rcases h1 with h1 | h1
    ·exact .inl (.inl (.inr h1))
    ·rcases (hmin 0).1 h1 with h2 | h2
     ·exact .inl (.inr h2)
     ·exact .inr h2
   refine k2 ?_
   refine A4 (A2 (A5 Z Z) Z (A6 ?_))
   refine k1 (k10 (k11 (k12 (k11 (k11 (k12 (k11 ?_)))))))
   exact B6 (H1 rfl rfl rfl) (by rw [Q4, if_neg ‹¬ (¬ G7 m ∨ ¬ G7 n)›, hp, decide_eq_false (fun hh => hh hb)]; rfl)
  ·simp only [or_pick] at ht
   have h1 := A1 ht
   have hb : ¬ badC k i j c := by
    rintro (((q | q) | q) | q)
    ·exact h0 q
    ·exact h1 (.inl q)
    ·exact h1 (.inr ((hmin 0).2 (.inl q)))
    ·exact h1 (.inr ((hmin 0).2 (.inr q)))
   rw [decide_eq_true hb, Bool.true_and] at hp
   refine k5 (k1 ?_)
   refine C7 (by kernel_rfl) (by kernel_rfl) (A8 (A7 Z) Z Z (A8 (A9 Z Z Z) Z Z (A8 (A7 Z) Z Z (A8 (A9 Z Z Z) Z Z (A8 (C0 Z Z (by omega)) Z Z (A8 (A7 Z) Z Z (A8 (A9 Z Z Z) Z Z (A8 (A7 Z) Z Z (A8 (A9 Z Z Z) Z Z (A8 (C0 Z Z (by omega)) Z Z (A8 (A5 Z Z) Z Z (A8 (A5 Z Z) Z Z (H2 ?_)))))))))))))
   refine k4 (k1 ?_)
   refine A4 (A2 (C0 Z Z (by omega)) Z (A2 (A3 Z Z) Z (A6 ?_)))
   refine k1 ?_
   exact ⟨(k + 1, c.Old + c.OldLen, c.New + c.NewLen), ⟨by dsimp only; omega, hp, by dsimp only; omega, by dsimp only; omega, by dsimp only; omega, by dsimp only; omega⟩, by dsimp only; omega, Sees.of ⟨le1 rfl, le1 rfl, le1 rfl, le1 rfl, le1 rfl, le1 rfl, le1 rfl, trivial⟩ trivial⟩
 ·have hk' : k = l.length := by have := A1 ht; omega
  rw [hk', List.drop_eq_nil_of_le (Nat.le_refl _), J3] at hp
  refine k6 (k2 (k2 ?_))
  refine A4 (A2 (A3 Z Z) Z (A2 (A3 Z Z) Z (A2 (I1 Z Z (by omega)) Z (A2 (A3 Z Z) Z (A2 (A3 Z Z) Z (A2 (I1 Z Z (by omega)) Z (A2 (K7 Z Z) Z (A2 (A3 Z Z) Z (B0 Z Z Z Z (fun hg => by rw [hg]; exact A3 Z Z) ?_))))))))); refine B0 Z Z Z Z (fun hg => by rw [hg]; exact A3 Z Z) ?_; refine B0 Z Z Z Z (fun hg => by rw [hg]; exact E3 Z Z) ?_; refine A2 (B1 Z (fun h => by first | rfl | (rw [h]; rfl)) (fun h => by first | rfl | (rw [h]; rfl))) Z ?_; refine A6 ?_
  refine k1 ?_
  refine B2 rfl (fun ht => ?_) (fun ht => ?_)
  ·have h2 := A0 (or_pick.symm.trans ht)
   refine k2 ?_
   refine A4 (A2 (A5 Z Z) Z (A6 ?_))
   refine k1 (k10 (k11 ?_))
   exact B6 (H1 rfl rfl rfl) (by rw [Q4, if_neg h, hp, decide_eq_false (fun hh => hh h2)]; rfl)
  ·have h2 := A1 (or_pick.symm.trans ht)
   refine k5 (k1 (k2 ?_))
   refine A4 (A2 (A5 Z Z) Z (A6 ?_))
   refine k1 (k10 ?_)
   exact B6 (H1 rfl rfl rfl) (by rw [Q4, if_neg h, hp, decide_eq_true h2]; rfl)
theorem clipS_met {gf : Fr} {ob : Obs} (p : List Span) : AL.Met Tryz.prog 249 [.one (.p (.list Span 2 spanC p))] gf ob [] (fun rs ob' => rs = [.one (.full Span 2 spanC p)] ∧ ob' = ob) := by
 refine AL.Met.intro Tryz.func249 (by decide) Z Z Z ?_
 refine k2 ?_
 refine A4 (A2 (A5 Z Z) Z (A6 ?_))
 refine k1 (k2 ?_)
 refine A4 (A2 (A3 Z Z) Z (A2 (A3 Z Z) Z (A2 (E1 Z (.pure _ _ _ _)) Z (A2 (A3 Z Z) Z (A2 (E1 Z (.pure _ _ _ _)) Z (A2 (n_slice_hm Z (.pure _ _ _ _) Z Z (by omega) (by omega) (by first | rfl | omega)) Z ?_)))))); refine A2 (A5 Z Z) Z (A6 ?_)
 rw [show p.take (p.length : Int).toNat = p by simp]
 refine k1 (k10 ?_)
 exact G1 (R4 rfl rfl) (by repeat (first | exact C6 | refine C5 rfl ?_ | refine D2 _ ?_)) (fun _ _ h => h) ⟨rfl, rfl⟩
def runMade (i j : Int) : List Span → List Change
 | [] => []
 | x :: r => (if x.From > i ∨ x.To > j then [⟨i, x.From - i, j, x.To - j⟩] else []) ++ runMade (x.From + 1) (x.To + 1) r
theorem runMade_end (m n : Int) : ∀ (p : List Span) (i j : Int), runMade i j (p ++ [⟨m, n⟩]) = S0 i j p m n
 | [], i, j => by simp [runMade, S0]
 | x :: r, i, j => by
  rw [List.cons_append, runMade, S0, runMade_end m n r]
theorem sfromPairs_ok (p : List Span) (m n : Int) (hp : p.length ≤ 536870912) (hm : -1099511627776 ≤ m ∧ m ≤ 1099511627776) (hn : -1099511627776 ≤ n ∧ n ≤ 1099511627776) (hb : ∀ s ∈ p, -1099511627776 ≤ s.From ∧ s.From ≤ 1099511627776 ∧ -1099511627776 ≤ s.To ∧ s.To ≤ 1099511627776) :
  FnOk Tryz.prog 200 [pSpans p, F0 m, F0 n] (fun rs => rs = [pChanges (p9 p m n)]) := by
 refine FnOk.intro Tryz.func200 (by decide) Z Z Z Z ?_
 refine k2 ?_
 refine A4 (A2 (A5 Z Z) Z (A6 ?_))
 refine k1 (k2 ?_)
 refine A4 (C9 (W9 7 _ changeC Z) Z (A6 ?_))
 refine k1 (k2 ?_)
 refine A4 (A2 (A5 Z Z) Z (A2 (A5 Z Z) Z (A6 ?_)))
 refine k1 (k2 (k2 ?_))
 refine A4 (A2 (A3 Z Z) Z (R5 (clipS_met p) Z Z Z ?_)); rintro _ _ ⟨rfl, rfl⟩; refine A2 (A3 Z Z) Z (A2 (A3 Z Z) Z (A2 (F6 Z) Z (A2 (E0 (c := spanC) (ys := [⟨m, n⟩]) (E6 Z Z Z Z I6) Z Z Z) Z (C9 (e_append_full 18 Z Z (.pure _ _ _ _) (by simp; omega) (by simp) Z) Z (A2 (E1 Z (.buf _ _ _ _ _)) Z (A2 (A3 Z Z) Z (A6 ?_)))))))
 obtain ⟨q, hq⟩ : ∃ q, q = p ++ [(⟨m, n⟩ : Span)] := ⟨_, rfl⟩
 have hql : q.length = p.length + 1 := by rw [hq]; simp
 have hqb : ∀ s ∈ q, -1099511627776 ≤ s.From ∧ s.From ≤ 1099511627776 ∧ -1099511627776 ≤ s.To ∧ s.To ≤ 1099511627776 := by
  intro s hs
  rw [hq] at hs
  rcases List.mem_append.1 hs with h | h
  ·exact hb s h
  ·simp at h; subst h; exact ⟨hm.1, hm.2, hn.1, hn.2⟩
 have hres : p9 p m n = runMade 0 0 q := by rw [hq, runMade_end]; rfl
 rw [← hq]
 refine k1 (k3 ?_)
 refine E2 (X := Nat × Int × Int × List Change) (fun x => ([(7, .s (.one (.buf 7 Change 4 changeC x.2.2.2))), (8, C2 x.2.1), (9, C2 x.2.2.1), (18, .s (.one (.buf 18 Span 2 spanC q))), (19, C2 q.length), (20, C2 x.1)], [(7, .spare x.2.2.2.length 4 164)])) (fun x => x.1 ≤ q.length ∧ x.2.2.2 ++ runMade x.2.1 x.2.2.1 (q.drop x.1) = p9 p m n ∧ (-1099511627777 ≤ x.2.1 ∧ x.2.1 ≤ 1099511627777) ∧ (-1099511627777 ≤ x.2.2.1 ∧ x.2.2.1 ≤ 1099511627777) ∧ x.2.2.2.length ≤ x.1) (fun x => q.length - x.1) (0, 0, 0, []) ⟨Nat.zero_le _, hres.symm, by decide, by decide, Nat.le_refl _⟩ (Sees.of ⟨le1 rfl, le1 rfl, le1 rfl, le1 rfl, le1 rfl, le1 rfl, trivial⟩ ⟨rfl, trivial⟩) ?_
 rintro ⟨k, i, j, out⟩ ⟨hk, he, hi, hj, hol⟩
 dsimp only at hk he hi hj hol ⊢
 refine k2 ?_
 refine A4 (A2 (E3 Z Z) Z (A6 ?_))
 refine k1 (k2 ?_)
 refine B2 rfl (fun ht => ?_) (fun ht => ?_)
 ·have hlt : k < q.length := by have := A0 ht; omega
  have hv : q[k]? = some q[k] := by simp [hlt]
  have hbk := hqb _ (List.getElem_mem hlt)
  obtain ⟨c, hc⟩ : ∃ c, c = q[k] := ⟨_, rfl⟩
  rw [List.drop_eq_getElem_cons hlt, runMade] at he
  rw [← hc] at hv he hbk
  refine k5 (k1 (k2 (k3 (k2 ?_))))
  refine A4 (A2 (B5 Z (.buf _ _ _ _ _) Z (by omega) hv) Z (A2 (E5 Z Z) Z (C9 (G3 11 Z) Z (E9 (B7 TySz.out Z Z Z Z Z Z) (A6 ?_)))))
  refine H9 ?_
  obtain ⟨out', hout'⟩ : ∃ out', out' = out ++ (if c.From > i ∨ c.To > j then [⟨i, c.From - i, j, c.To - j⟩] else []) := ⟨_, rfl⟩
  have hol' : out'.length ≤ k + 1 := by rw [hout', List.length_append]; split <;> simp <;> omega
  rw [← List.append_assoc, ← hout'] at he
  refine W6 [(7, .s (.one (.buf 7 Change 4 changeC out'))), (8, C2 i), (9, C2 j), (11, .s (.one (.ref 11 0))), (18, .s (.one (.buf 18 Span 2 spanC q))), (19, C2 q.length), (20, C2 k)] [(7, .spare out'.length 4 164), (11, .box [.p (.v (.int .i64 c.From)), .p (.v (.int .i64 c.To))])] ?_ ?_
  ·refine k2 ?_
   refine A4 (A2 (A7 Z) Z (A2 (A9 Z Z Z) Z (A2 (A3 Z Z) Z (A2 (N4 Z Z) Z (A2 (A3 Z Z) Z (B0 Z Z Z Z (fun hg => by rw [hg]; exact A7 Z) ?_)))))); refine B0 Z Z Z Z (fun hg => by rw [hg]; exact A9 Z Z Z) ?_; refine B0 Z Z Z Z (fun hg => by rw [hg]; exact A3 Z Z) ?_; refine B0 Z Z Z Z (fun hg => by rw [hg]; exact N4 Z Z) ?_; refine A2 (B1 Z (fun h => by first | rfl | (rw [h]; rfl)) (fun h => by first | rfl | (rw [h]; rfl))) Z ?_; refine A6 ?_
   refine k1 ?_
   refine B2 rfl (fun ht => ?_) (fun ht => ?_)
   ·simp only [or_pick] at ht
    have h1 := A0 ht
    rw [if_pos h1] at hout'
    skip
    refine A4 (A2 (A3 Z Z) Z (A2 (A3 Z Z) Z (A2 (A7 Z) Z (A2 (A9 Z Z Z) Z (A2 (A3 Z Z) Z (A2 (I1 Z Z (by omega)) Z (A2 (A3 Z Z) Z (A2 (A7 Z) Z (A2 (A9 Z Z Z) Z (A2 (A3 Z Z) Z (A2 (I1 Z Z (by omega)) Z (A2 (F6 Z) Z (A2 (E0 (c := changeC) (ys := [⟨i, c.From - i, j, c.To - j⟩]) (E6 Z Z Z Z I6) Z Z Z) Z (C9 (J4 Z Z Z (.pure _ _ _ _) (by (simp only [List.length_cons, List.length_nil]; omega)) Z) Z (A2 (A5 Z Z) Z (A6 ?_))))))))))))))))
    refine k1 ?_
    rw [hout']
    exact Sees.of ⟨le1 rfl, le1 rfl, le1 rfl, le1 rfl, le1 rfl, le1 rfl, le1 rfl, trivial⟩ ⟨rfl, rfl, trivial⟩
   ·simp only [or_pick] at ht
    have h1 := A1 ht
    rw [if_neg h1, List.append_nil] at hout'
    refine k5 (k1 ?_)
    rw [hout']
    exact Sees.of ⟨le1 rfl, le1 rfl, le1 rfl, le1 rfl, le1 rfl, le1 rfl, le1 rfl, trivial⟩ ⟨rfl, rfl, trivial⟩
  ·skip
   refine C7 (by kernel_rfl) (by kernel_rfl) (A8 (A7 Z) Z Z (A8 (A9 Z Z Z) Z Z (A8 (C0 Z Z (by omega)) Z Z (A8 (A7 Z) Z Z (A8 (A9 Z Z Z) Z Z (A8 (C0 Z Z (by omega)) Z Z (A8 (A5 Z Z) Z Z (A8 (A5 Z Z) Z Z (H2 ?_)))))))))
   refine k4 (k1 ?_)
   refine A4 (A2 (C0 Z Z (by omega)) Z (A2 (A3 Z Z) Z (A6 ?_)))
   refine k1 ?_
   exact ⟨(k + 1, c.From + 1, c.To + 1, out'), ⟨by dsimp only; omega, he, ⟨by dsimp only; omega, by dsimp only; omega⟩, ⟨by dsimp only; omega, by dsimp only; omega⟩, by dsimp only; omega⟩, by dsimp only; omega, Sees.of ⟨le1 rfl, le1 rfl, le1 rfl, le1 rfl, le1 rfl, le1 rfl, trivial⟩ ⟨rfl, trivial⟩⟩
 ·have hk' : k = q.length := by have := A1 ht; omega
  rw [hk', List.drop_eq_nil_of_le (Nat.le_refl _), runMade, List.append_nil] at he
  refine k6 (k2 ?_)
  refine A4 (A2 (A3 Z Z) Z (A2 (A5 Z Z) Z (A6 ?_)))
  refine k1 (k10 ?_)
  exact B6 (H1 rfl rfl rfl) (by rw [← he])
theorem asc_step {m n : Int} : ∀ {p : List Span} {i j : Int}, Asc m n i j p → ∀ k (h : k < p.length), (k = 0 → i ≤ p[k].From ∧ j ≤ p[k].To) ∧ (∀ h0 : 0 < k, p[k - 1].From < p[k].From ∧ p[k - 1].To < p[k].To) ∧ p[k].From < m ∧ p[k].To < n
 | [], _, _, _, k, h => by simp at h
 | x :: r, i, j, ha, k, h => by
  obtain ⟨h1, h2, h3⟩ := ha
  cases k with
  | zero => have := h3.le; exact ⟨fun _ => ⟨h1, h2⟩, fun h0 => absurd h0 (by omega), by show x.From < m; omega, by show x.To < n; omega⟩
  | succ k =>
   obtain ⟨g1, g2, g3, g4⟩ := asc_step h3 k (by simpa using h)
   refine ⟨fun h0 => absurd h0 (by omega), fun _ => ?_, by simpa using g3, by simpa using g4⟩
   cases k with
   | zero =>
    obtain ⟨q1, q2⟩ := g1 rfl
    have hr : 0 < r.length := by simpa using h
    show x.From < r[0].From ∧ x.To < r[0].To
    omega
   | succ k => simpa using g2 (by omega)
theorem sFromPairs_ok (p : List Span) (m n : Int) (hm : G7 m) (hn : G7 n) (ha : Asc m n 0 0 p) (hp : p.length ≤ 536870912) :
  FnOk Tryz.prog 133 [pSpans p, F0 m, F0 n] (fun rs => rs = [pChanges (p9 p m n), F0 0]) := by
 obtain ⟨hm1, hm2⟩ := hm
 obtain ⟨hn1, hn2⟩ := hn
 have hst := asc_step ha
 have hb : ∀ s ∈ p, 0 ≤ s.From ∧ s.From ≤ 4096 ∧ 0 ≤ s.To ∧ s.To ≤ 4096 := by
  have key : ∀ (p : List Span) (i j : Int), Asc m n i j p → 0 ≤ i → 0 ≤ j → ∀ s ∈ p, 0 ≤ s.From ∧ s.From ≤ 4096 ∧ 0 ≤ s.To ∧ s.To ≤ 4096 := by
   intro p
   induction p with
   | nil => intro _ _ _ _ _ s hs; simp at hs
   | cons x r ih =>
    rintro i j ⟨h1, h2, h3⟩ h4 h5 s hs
    have := h3.le
    rcases List.mem_cons.1 hs with rfl | hs
    ·omega
    ·exact ih _ _ h3 (by omega) (by omega) s hs
  exact key p 0 0 ha (by omega) (by omega)
 refine FnOk.intro Tryz.func133 (by decide) Z Z Z Z ?_
 refine k2 ?_
 refine A4 (A2 (A5 Z Z) Z (A2 (A5 Z Z) Z (A6 ?_)))
 refine k1 (k2 (k2 ?_))
 refine A4 (A2 (A3 Z Z) Z (C3 (Y0 m) Z Z Z ?_)); rintro _ rfl; refine A2 (F4 Z) Z (A2 (A3 Z Z) Z (B0 Z Z Z Z (fun hg => by rw [hg]; exact A3 Z Z) ?_)); refine B0 Z Z Z Z (fun hg => by have hq := hg; (try simp at hq); rw [hg]; exact G9 (Y0 n) Z Z) ?_; refine B0 Z Z Z Z (fun hg => by rw [hg]; exact F4 Z) ?_; refine A2 (B1 Z (fun h => by first | rfl | (rw [h]; rfl)) (fun h => by first | rfl | (rw [h]; rfl))) Z ?_; refine A6 ?_
 refine k1 ?_
 refine B2 rfl (fun ht => ?_) (fun ht => ?_)
 ·exfalso
  simp only [← decide_not, or_pick] at ht
  have h : ¬ G7 m ∨ ¬ G7 n := A0 ht
  rcases h with h | h
  ·exact h ⟨hm1, hm2⟩
  ·exact h ⟨hn1, hn2⟩
 refine T5 [(0, D3 Span 2 spanC p), (1, C2 m), (2, C2 n)] [] (Sees.of ⟨le1 rfl, le1 rfl, le1 rfl, trivial⟩ trivial) ?_
 refine k5 (k1 (k2 ?_))
 refine A4 (A2 (F6 Z) Z (C9 (G3 8 Z) Z (E9 (B7 TySz.out Z Z Z Z Z Z) (A6 ?_))))
 refine k1 (k2 (k2 ?_))
 refine A4 (A2 (A3 Z Z) Z (A2 (E1 Z (.pure _ _ _ _)) Z (A2 (A3 Z Z) Z (A6 ?_))))
 refine k1 (k3 ?_)
 obtain ⟨lastOf, hlast⟩ : ∃ lastOf : Nat → Span, lastOf = fun k => if k = 0 then ⟨-1, -1⟩ else p.getD (k - 1) ⟨0, 0⟩ := ⟨_, rfl⟩
 refine E2 (X := Nat) (fun k => ([(0, D3 Span 2 spanC p), (1, C2 m), (2, C2 n), (8, .s (.one (.ref 8 0))), (20, D3 Span 2 spanC p), (21, C2 p.length), (22, C2 k)], [(8, .box [.p (.v (.int .i64 (lastOf k).From)), .p (.v (.int .i64 (lastOf k).To))])])) (fun k => k ≤ p.length) (fun k => p.length - k) 0 (Nat.zero_le _) ?_ ?_
 ·rw [show lastOf 0 = ⟨-1, -1⟩ by rw [hlast]; rfl]
  exact Sees.of ⟨le1 rfl, le1 rfl, le1 rfl, le1 rfl, le1 rfl, le1 rfl, le1 rfl, trivial⟩ ⟨rfl, trivial⟩
 intro k hk
 dsimp only at hk ⊢
 refine k2 ?_
 refine A4 (A2 (E3 Z Z) Z (A6 ?_))
 refine k1 (k2 ?_)
 refine B2 rfl (fun ht => ?_) (fun ht => ?_)
 ·have hlt : k < p.length := by have := A0 ht; omega
  have hv : p[k]? = some p[k] := by simp [hlt]
  obtain ⟨g1, g2, g3, g4⟩ := hst k hlt
  have hnext : lastOf (k + 1) = p[k] := by rw [hlast]; simp [hlt]
  have hless : (lastOf k).From < p[k].From ∧ (lastOf k).To < p[k].To := by
   rw [hlast]
   by_cases h0 : k = 0
   ·have := g1 h0
    simp only [h0, if_true] at this ⊢
    omega
   ·have := g2 (by omega)
    simp only [h0, if_false]
    have e : p.getD (k - 1) ⟨0, 0⟩ = p[k - 1] := by simp [show k - 1 < p.length by omega]
    rw [e]; exact this
  obtain ⟨c, hc⟩ : ∃ c, c = p[k] := ⟨_, rfl⟩
  rw [← hc] at hv g3 g4 hnext hless
  obtain ⟨la, hla⟩ : ∃ la, la = lastOf k := ⟨_, rfl⟩
  rw [← hla] at hless ⊢
  refine k5 (k1 (k2 (k3 (k2 ?_))))
  refine A4 (A2 (B5 Z (.pure _ _ _ _) Z (by omega) hv) Z (A2 (E5 Z Z) Z (C9 (G3 10 Z) Z (E9 (B7 TySz.out Z Z Z Z Z Z) (A6 ?_)))))
  refine k1 (k2 (k2 ?_))
  refine A4 (A2 (A7 Z) Z (A2 (A9 Z Z Z) Z (A2 (A7 Z) Z (A2 (A9 Z Z Z) Z (A2 (x4 Z Z) Z (A2 (A3 Z Z) Z (B0 Z Z Z Z (fun hg => by rw [hg]; exact A7 Z) ?_))))))); refine B0 Z Z Z Z (fun hg => by rw [hg]; exact A9 Z Z Z) ?_; refine B0 Z Z Z Z (fun hg => by rw [hg]; exact A3 Z Z) ?_; refine B0 Z Z Z Z (fun hg => by rw [hg]; exact l8 Z Z) ?_; refine A2 (B1 Z (fun h => by first | rfl | (rw [h]; rfl)) (fun h => by first | rfl | (rw [h]; rfl))) Z ?_; refine A2 (A3 Z Z) Z (B0 Z Z Z Z (fun hg => by rw [hg]; exact A7 Z) ?_); refine B0 Z Z Z Z (fun hg => by rw [hg]; exact A9 Z Z Z) ?_; refine B0 Z Z Z Z (fun hg => by rw [hg]; exact A7 Z) ?_; refine B0 Z Z Z Z (fun hg => by rw [hg]; exact A9 Z Z Z) ?_; refine B0 Z Z Z Z (fun hg => by rw [hg]; exact x4 Z Z) ?_; refine A2 (B1 Z (fun h => by first | rfl | (rw [h]; rfl)) (fun h => by first | rfl | (rw [h]; rfl))) Z ?_; refine A2 (A3 Z Z) Z (B0 Z Z Z Z (fun hg => by rw [hg]; exact A7 Z) ?_); refine B0 Z Z Z Z (fun hg => by rw [hg]; exact A9 Z Z Z) ?_; refine B0 Z Z Z Z (fun hg => by rw [hg]; exact A3 Z Z) ?_; refine B0 Z Z Z Z (fun hg => by rw [hg]; exact l8 Z Z) ?_; refine A2 (B1 Z (fun h => by first | rfl | (rw [h]; rfl)) (fun h => by first | rfl | (rw [h]; rfl))) Z ?_; refine A6 ?_
  refine k1 ?_
  refine B2 rfl (fun ht => ?_) (fun ht => ?_)
  ·exfalso
   simp only [or_pick] at ht
   have := A0 ht
   omega
  ·refine k5 (k1 ?_)
   refine A4 (A2 (E4 Z Z Z) Z (E9 (B7 TySz.out Z Z Z Z Z Z) (A6 ?_)))
   refine k4 (k1 ?_)
   refine A4 (A2 (C0 Z Z (by omega)) Z (A2 (A3 Z Z) Z (A6 ?_)))
   refine k1 ?_
   refine ⟨k + 1, by omega, by omega, ?_⟩
   rw [hnext]
   exact Sees.of ⟨le1 rfl, le1 rfl, le1 rfl, le1 rfl, le1 rfl, le1 rfl, le1 rfl, trivial⟩ ⟨rfl, trivial⟩
 ·refine k6 (k2 ?_)
  refine A4 (A2 (A3 Z Z) Z (A2 (A3 Z Z) Z (A2 (A3 Z Z) Z (C3 (sfromPairs_ok p m n hp (by omega) (by omega) (fun s hs => by have := hb s hs; omega)) Z Z Z ?_)))); rintro _ rfl; refine A2 (A5 Z Z) Z (A2 (A5 Z Z) Z (A6 ?_))
  refine k1 (k10 ?_)
  exact B6 (U5 rfl rfl rfl rfl rfl) rfl
theorem getD_get {l : List Int} {i : Nat} (h : i < l.length) : l[i]? = some (l.getD i 0) := by simp [h]
theorem slimited_ok (a b : List Int) : FnOk Tryz.prog 132 [W8 a, W8 b] (fun rs => rs = [F9 (decide ((a.length : Int) ≤ 4096 ∧ (b.length : Int) ≤ 4096))]) := by
 refine FnOk.intro Tryz.func132 (by decide) Z Z Z Z ?_
 refine k2 ?_
 refine A4 (A2 (A5 Z Z) Z (A6 ?_))
 refine k1 (k2 ?_)
 refine A4 (A2 (A3 Z Z) Z (A2 (E1 Z (.pure _ _ _ _)) Z (A2 (x4 Z Z) Z (A2 (A3 Z Z) Z (B0 Z Z Z Z (fun hg => by rw [hg]; exact A3 Z Z) ?_))))); refine B0 Z Z Z Z (fun hg => by rw [hg]; exact E1 Z (.pure _ _ _ _)) ?_; refine B0 Z Z Z Z (fun hg => by rw [hg]; exact x4 Z Z) ?_; refine A2 (B1 Z (fun h => by first | rfl | (rw [h]; rfl)) (fun h => by first | rfl | (rw [h]; rfl))) Z ?_; refine A2 (A5 Z Z) Z (A6 ?_)
 refine k1 (k10 ?_)
 exact B6 (H1 rfl rfl rfl) (by simp only [G2])
theorem sbeginning_ok (a b : List Int) (ha : a.length ≤ 1073741824) : FnOk Tryz.prog 201 [W8 a, W8 b] (fun rs => rs = [F0 (V3 a b)]) := by
 refine FnOk.intro Tryz.func201 (by decide) Z Z Z Z ?_
 refine k2 ?_
 refine A4 (A2 (A5 Z Z) Z (A6 ?_))
 refine k1 (k2 ?_)
 refine A4 (A2 (A5 Z Z) Z (A6 ?_))
 refine k1 (k2 (k3 ?_))
 refine E2 (X := Nat) (fun k => ([(0, D3 Int 1 K5 a), (1, D3 Int 1 K5 b), (5, C2 k)], [])) (fun k => k ≤ a.length ∧ k ≤ b.length ∧ V3 a b = k + V3 (a.drop k) (b.drop k)) (fun k => a.length - k) 0 ⟨Nat.zero_le _, Nat.zero_le _, by simp⟩ (Sees.of ⟨le1 rfl, le1 rfl, le1 rfl, trivial⟩ trivial) ?_
 rintro k ⟨hk, hk2, he⟩
 dsimp only at hk hk2 he ⊢
 refine k2 (k2 ?_)
 refine C7 (by kernel_rfl) (by kernel_rfl) (A8 (A3 Z Z) Z Z (A8 (A3 Z Z) Z Z (A8 (E1 Z (.pure _ _ _ _)) Z Z (A8 (E3 Z Z) Z Z (A8 (A3 Z Z) Z Z (B8 Z Z (fun hg => by rw [hg]; exact A3 Z Z) Z Z ?_)))))); refine B8 Z Z (fun hg => by rw [hg]; exact A3 Z Z) Z Z ?_; refine B8 Z Z (fun hg => by rw [hg]; exact E1 Z (.pure _ _ _ _)) Z Z ?_; refine B8 Z Z (fun hg => by rw [hg]; exact E3 Z Z) Z Z ?_; refine A8 (B1 Z (fun h => by first | rfl | (rw [h]; rfl)) (fun h => by first | rfl | (rw [h]; rfl))) Z Z ?_; refine A8 (A3 Z Z) Z Z (B8 Z Z (fun hg => by rw [hg]; exact A3 Z Z) Z Z ?_); refine B8 Z Z (fun hg => by rw [hg]; exact A3 Z Z) Z Z ?_; refine B8 Z Z (fun hg => by have hq := hg; (try simp at hq); rw [hg]; exact B5 Z (.pure _ _ _ _) Z (by omega) (getD_get (by omega))) Z Z ?_; refine B8 Z Z (fun hg => by rw [hg]; exact B9 Z Z) Z Z ?_; refine B8 Z Z (fun hg => by rw [hg]; exact A3 Z Z) Z Z ?_; refine B8 Z Z (fun hg => by rw [hg]; exact A3 Z Z) Z Z ?_; refine B8 Z Z (fun hg => by have hq := hg; (try simp at hq); rw [hg]; exact B5 Z (.pure _ _ _ _) Z (by omega) (getD_get (by omega))) Z Z ?_; refine B8 Z Z (fun hg => by rw [hg]; exact B9 Z Z) Z Z ?_; refine B8 Z Z (fun hg => by rw [hg]; exact I8 Z Z) Z Z ?_; refine A8 (B1 Z (fun h => by first | rfl | (rw [h]; rfl)) (fun h => by first | rfl | (rw [h]; rfl))) Z Z ?_; refine H2 ?_
 refine k1 ?_
 refine B2 rfl (fun ht => ?_) (fun ht => ?_)
 ·simp only [G2] at ht
  obtain ⟨⟨h1, h2⟩, h3⟩ := A0 ht
  have h1 : k < a.length := by omega
  have h2 : k < b.length := by omega
  rw [begOf_drop a b k h1 h2, if_pos (by simpa [h1, h2] using h3)] at he
  refine k5 (k1 (k3 ?_))
  refine A4 (A2 (A3 Z Z) Z (A2 (C0 Z Z (by omega)) Z (A2 (A5 Z Z) Z (A6 ?_))))
  refine k4 (k1 ?_)
  exact ⟨k + 1, ⟨by omega, by omega, by omega⟩, by omega, Sees.of ⟨le1 rfl, le1 rfl, le1 rfl, trivial⟩ trivial⟩
 ·simp only [G2] at ht
  have h := A1 ht
  have h0 : V3 (a.drop k) (b.drop k) = 0 := by
   by_cases hc : k < a.length ∧ k < b.length
   ·obtain ⟨h1, h2⟩ := hc
    rw [begOf_drop a b k h1 h2, if_neg]
    intro h3
    exact h ⟨⟨by omega, by omega⟩, by simpa [h1, h2] using h3⟩
   ·exact begOf_end a b k hc
  rw [h0] at he
  refine k6 (k2 ?_)
  refine A4 (A2 (A3 Z Z) Z (A2 (A5 Z Z) Z (A6 ?_)))
  refine k1 (k10 ?_)
  exact B6 (H1 rfl rfl rfl) (by rw [he]; rfl)
theorem sdistances_ok (a b : List Int) (ha : a.length ≤ 4096) (hb : b.length ≤ 4096) : FnOk Tryz.prog 202 [W8 a, W8 b] (fun rs => rs = [pU16s (flat a b (fun _ _ => true))]) := by
 obtain ⟨W, hW⟩ : ∃ W, W = b.length + 1 := ⟨_, rfl⟩
 have hmul : ∀ i : Nat, i ≤ a.length + 1 → 0 ≤ (i : Int) * (W : Int) ∧ (i : Int) * (W : Int) ≤ 16789506 := by
  intro i hi
  have h1 : i * W ≤ 4098 * 4097 := Nat.mul_le_mul (by omega) (by omega)
  have h2 : ((i * W : Nat) : Int) = (i : Int) * W := by push_cast; rfl
  omega
 have hcast : ∀ i : Nat, (i : Int) * (W : Int) = ((i * W : Nat) : Int) := fun i => by push_cast; rfl
 have hlen : ∀ done, (flat a b done).length = (a.length + 1) * W := fun done => by rw [flat_length, hW]
 have hdl : ∀ i j, dist (a.drop i) (b.drop j) ≤ 8192 := fun i j => by
  have := dist_le (a.drop i) (b.drop j)
  simp only [List.length_drop] at this
  omega
 have hin : ∀ i j : Nat, i ≤ a.length → j ≤ b.length → i * W + j < (a.length + 1) * W := fun i j hi hj => by rw [hW]; exact (flat_at hi hj).1
 refine FnOk.intro Tryz.func202 (by decide) Z Z Z Z ?_
 refine k2 ?_
 refine A4 (A2 (A5 Z Z) Z (A6 ?_))
 refine k1 (k2 ?_)
 refine A4 (A2 (A3 Z Z) Z (A2 (E1 Z (.pure _ _ _ _)) Z (A2 (C0 Z Z (by omega)) Z (A2 (A5 Z Z) Z (A6 ?_)))))
 refine H9 ?_
 refine T5 [(0, D3 Int 1 K5 a), (1, D3 Int 1 K5 b), (5, C2 W)] [] (Sees.of ⟨⟨_, rfl, .same _⟩, ⟨_, rfl, .same _⟩, ⟨_, rfl, .eq (by rw [hW]; simp)⟩, trivial⟩ trivial) ?_
 have hm1 := hmul (a.length + 1) (Nat.le_refl _)
 have e1 : ((a.length : Int) + 1) = ((a.length + 1 : Nat) : Int) := by omega
 refine k2 ?_
 refine A4 (A2 (A3 Z Z) Z (A2 (E1 Z (.pure _ _ _ _)) Z (A2 (C0 Z Z (by omega)) Z (A2 (A3 Z Z) Z (A2 (n_mul Z Z (by (rw [e1]; omega))) Z ?_))))); refine C9 (f_makeZ 20 Int u16C 0 Z Z (by (rw [e1]; omega)) (by (rw [e1]; omega)) (fun _ => by first | exact ⟨⟨rfl, rfl⟩, trivial⟩ | exact ⟨T4 _ _ _, trivial⟩) Z) Z ?_; refine A2 (A5 Z Z) Z (A6 ?_)
 refine H9 ?_
 refine T5 [(0, D3 Int 1 K5 a), (1, D3 Int 1 K5 b), (5, C2 W), (6, .s (.one (.mut 20)))] [(20, .arr Int 1 u16C (flat a b (fun _ _ => false)))] ?_ ?_
 ·refine Sees.of ⟨⟨_, rfl, .same _⟩, ⟨_, rfl, .same _⟩, ⟨_, rfl, .same _⟩, ⟨_, rfl, .same _⟩, trivial⟩ ⟨?_, trivial⟩
  rw [← flat_zero, e1, hcast, Int.toNat_natCast, hW]; rfl
 refine k2 (k2 ?_)
 refine A4 (A2 (A3 Z Z) Z (A2 (E1 Z (.pure _ _ _ _)) Z (A2 (A3 Z Z) Z (A6 ?_))))
 refine k1 (k3 ?_)
 refine E2 (X := Nat) (fun j => ([(0, D3 Int 1 K5 a), (1, D3 Int 1 K5 b), (5, C2 W), (6, .s (.one (.mut 20))), (22, C2 b.length), (23, C2 j)], [(20, .arr Int 1 u16C (flat a b (fun r q => decide (r = a.length ∧ q < j))))])) (fun j => j ≤ b.length) (fun j => b.length - j) 0 (Nat.zero_le _) ?_ ?_
 ·rw [show flat a b (fun r q => decide (r = a.length ∧ q < 0)) = flat a b (fun _ _ => false) from flat_congr fun r q _ _ => .inl (by simp)]
  exact Sees.of ⟨le1 rfl, le1 rfl, le1 rfl, le1 rfl, le1 rfl, le1 rfl, trivial⟩ ⟨rfl, trivial⟩
 intro j hj
 dsimp only at hj ⊢
 refine k2 ?_
 refine A4 (A2 (E3 Z Z) Z (A6 ?_))
 refine k1 (k2 ?_)
 refine B2 rfl (fun ht => ?_) (fun ht => ?_)
 ·have hlt : j < b.length := by have := A0 ht; omega
  have hmm := hmul a.length (by omega)
  have hix := hin a.length j (Nat.le_refl _) (by omega)
  have hc1 := hcast a.length
  have hL := hlen (fun r q => decide (r = a.length ∧ q < j))
  have hst : (flat a b (fun r q => decide (r = a.length ∧ q < j))).set (((a.length : Int) * (W : Int) + (j : Int)).toNat) (IntKind.u16.wrap ((b.length : Int) - j)) = flat a b (fun r q => decide (r = a.length ∧ q < j + 1)) := by
   rw [show ((a.length : Int) * (W : Int) + (j : Int)).toNat = a.length * (b.length + 1) + j by rw [hc1, hW]; omega, u16_in _ (by omega)]
   refine flat_set (Nat.le_refl _) (by omega) ?_ (by simp) (fun r q hr hq hne => ?_)
   ·rw [List.drop_eq_nil_of_le (Nat.le_refl a.length), dist, List.length_drop]; omega
   ·rw [decide_eq_decide]; omega
  refine k5 (k1 (k2 (k3 (k2 ?_))))
  refine A4 (A2 (A3 Z Z) Z (A2 (A5 Z Z) Z (A6 ?_)))
  refine k1 ?_
  refine A4 (A2 (A3 Z Z) Z (A2 (A3 Z Z) Z (A2 (E1 Z (.pure _ _ _ _)) Z (A2 (A3 Z Z) Z (A2 (n_mul Z Z (by omega)) Z (A2 (A3 Z Z) Z (A2 (C0 Z Z (by omega)) Z (A2 (A3 Z Z) Z (A2 (E1 Z (.pure _ _ _ _)) Z (A2 (A3 Z Z) Z (A2 (I1 Z Z (by omega)) Z (A2 (S9 Z) Z (A2 (M1 Z Z Z (by omega) (by (rw [hL]; omega))) Z ?_))))))))))))); refine E9 (M2 TySz.out Z Z (by (rw [hL]; omega)) Z Z) ?_; refine A6 ?_
  refine k4 (k1 ?_)
  refine A4 (A2 (C0 Z Z (by omega)) Z (A2 (A3 Z Z) Z (A6 ?_)))
  refine k1 ?_
  refine ⟨j + 1, by omega, by omega, ?_⟩
  rw [← hst]
  exact Sees.of ⟨le1 rfl, le1 rfl, le1 rfl, le1 rfl, le1 rfl, le1 rfl, trivial⟩ ⟨rfl, trivial⟩
 ·have hj' : j = b.length := by have := A1 ht; omega
  subst hj'
  rw [show flat a b (fun r q => decide (r = a.length ∧ q < b.length)) = flat a b (fun r _ => decide (a.length ≤ r)) from flat_congr fun r q hr hq => by
   by_cases h : r = a.length ∧ q = b.length
   ·right; rw [h.1, h.2, List.drop_eq_nil_of_le (Nat.le_refl _), List.drop_eq_nil_of_le (Nat.le_refl _)]; exact dist_nil []
   ·left; rw [decide_eq_decide]; omega]
  refine k6 (k2 (k2 ?_))
  refine A4 (A2 (A3 Z Z) Z (A2 (E1 Z (.pure _ _ _ _)) Z (A2 (I1 Z Z (by omega)) Z (A2 (A5 Z Z) Z (A6 ?_)))))
  refine k1 (k3 ?_)
  refine E2 (X := Nat) (fun i => ([(0, D3 Int 1 K5 a), (1, D3 Int 1 K5 b), (5, C2 W), (6, .s (.one (.mut 20))), (8, C2 ((i : Int) - 1))], [(20, .arr Int 1 u16C (flat a b (fun r _ => decide (i ≤ r))))])) (fun i => i ≤ a.length) (fun i => i) a.length (Nat.le_refl _) (Sees.of ⟨le1 rfl, le1 rfl, le1 rfl, le1 rfl, le1 rfl, trivial⟩ ⟨rfl, trivial⟩) ?_
  intro i hi
  dsimp only at hi ⊢
  refine k2 (k2 ?_)
  refine A4 (A2 (A3 Z Z) Z (A2 (l8 Z Z) Z (A6 ?_)))
  refine k1 ?_
  refine B2 rfl (fun ht => ?_) (fun ht => ?_)
  ·obtain ⟨i, rfl⟩ : ∃ r, i = r + 1 := ⟨i - 1, by have := A0 ht; omega⟩
   refine T5 [(0, D3 Int 1 K5 a), (1, D3 Int 1 K5 b), (5, C2 W), (6, .s (.one (.mut 20))), (8, C2 i)] [(20, .arr Int 1 u16C (flat a b (fun r _ => decide (i + 1 ≤ r))))] (Sees.of ⟨le1 rfl, le1 rfl, le1 rfl, le1 rfl, leE Z (by first | (simp; done) | (simp; omega)), trivial⟩ ⟨rfl, trivial⟩) ?_
   obtain ⟨P, hP⟩ : ∃ P, P = i * W := ⟨_, rfl⟩
   obtain ⟨N, hN⟩ : ∃ N, N = (a.length + 1) * W := ⟨_, rfl⟩
   have c0 : (i : Int) * (W : Int) = (P : Int) := by rw [hP]; exact hcast i
   have c1 : ((i : Int) + 1) * (W : Int) = (P : Int) + W := by rw [Int.add_mul, Int.one_mul, c0]
   have c2 : ((i : Int) + 2) * (W : Int) = (P : Int) + W + W := by rw [Int.add_mul, c0]; omega
   have hPN : P + W + W ≤ N := by
    have h1 : (i + 2) * W ≤ (a.length + 1) * W := Nat.mul_le_mul_right _ (by omega)
    have h2 : (i + 2) * W = i * W + W + W := by rw [Nat.add_mul]; omega
    omega
   have hN2 : N ≤ 16789506 := by have := hmul (a.length + 1) (Nat.le_refl _); have := hcast (a.length + 1); omega
   have hL : ∀ done, (flat a b done).length = N := fun done => by rw [hlen, hN]
   refine k5 (k1 (k2 (k3 (k2 ?_))))
   refine C7 (by kernel_rfl) (by kernel_rfl) (A8 (A3 Z Z) Z Z (A8 (A3 Z Z) Z Z (A8 (A3 Z Z) Z Z (A8 (n_mul Z Z (by (rw [c0]; omega))) Z Z ?_)))); refine A8 (A3 Z Z) Z Z (A8 (C0 Z Z (by omega)) Z Z (A8 (A3 Z Z) Z Z (A8 (n_mul Z Z (by (rw [c1]; omega))) Z Z ?_))); refine A8 (n_slice_mut_lh Z Z Z Z (by (first | (rw [c0]; omega) | (rw [c0, c1]; omega) | (rw [c1, hL]; omega))) (by (first | (rw [c0]; omega) | (rw [c0, c1]; omega) | (rw [c1, hL]; omega))) (by (first | (rw [c0]; omega) | (rw [c0, c1]; omega) | (rw [c1, hL]; omega)))) Z Z ?_; refine A8 (A3 Z Z) Z Z (A8 (A3 Z Z) Z Z (A8 (C0 Z Z (by omega)) Z Z (A8 (A3 Z Z) Z Z (A8 (n_mul Z Z (by (rw [c1]; omega))) Z Z ?_)))); refine A8 (A3 Z Z) Z Z (A8 (C0 Z Z (by omega)) Z Z (A8 (A3 Z Z) Z Z (A8 (n_mul Z Z (by (rw [c2]; omega))) Z Z ?_))); refine A8 (n_slice_mut_lh Z Z Z Z (by (first | (rw [c1]; omega) | (rw [c1, c2]; omega) | (rw [c2, hL]; omega))) (by (first | (rw [c1]; omega) | (rw [c1, c2]; omega) | (rw [c2, hL]; omega))) (by (first | (rw [c1]; omega) | (rw [c1, c2]; omega) | (rw [c2, hL]; omega)))) Z Z ?_; refine A8 (A5 Z Z) Z Z (A8 (A5 Z Z) Z Z (H2 ?_))
   refine H9 ?_
   have hdone : ∀ j, j ≤ b.length → (flat a b (fun r q => decide (i + 1 ≤ r ∨ (r = i ∧ j ≤ q))))[P + j]? = some (dist (a.drop i) (b.drop j) : Int) := fun j hj => by
    rw [hP, hW, flat_get (by omega) hj, if_pos (by simp)]
   have hbelow : ∀ j j', j ≤ b.length → (flat a b (fun r q => decide (i + 1 ≤ r ∨ (r = i ∧ j' ≤ q))))[P + W + j]? = some (dist (a.drop (i + 1)) (b.drop j) : Int) := fun j j' hj => by
    rw [show P + W + j = (i + 1) * (b.length + 1) + j by rw [hP, hW, Nat.add_mul]; omega, flat_get (by omega) hj, if_pos (by simp)]
   refine T5 [(0, D3 Int 1 K5 a), (1, D3 Int 1 K5 b), (5, C2 W), (6, .s (.one (.mut 20))), (8, C2 i), (9, .s (.one (.msl 20 1 P W))), (10, .s (.one (.msl 20 1 (P + W) W)))] [(20, .arr Int 1 u16C (flat a b (fun r _ => decide (i + 1 ≤ r))))] ?_ ?_
   ·refine Sees.of ⟨⟨_, rfl, .same _⟩, ⟨_, rfl, .same _⟩, ⟨_, rfl, .same _⟩, ⟨_, rfl, .same _⟩, ⟨_, rfl, .same _⟩, ⟨_, rfl, .eq ?_⟩, ⟨_, rfl, .eq ?_⟩, trivial⟩ ⟨rfl, trivial⟩
    ·rw [c0, c1]; congr 3 <;> omega
    ·rw [c1, c2]; congr 3 <;> omega
   have hset : ∀ (done done' : Nat → Nat → Bool) (j : Nat) (v : Int), j ≤ b.length → v = (dist (a.drop i) (b.drop j) : Int) → done' i j = true → (∀ r q, r ≤ a.length → q ≤ b.length → ¬ (r = i ∧ q = j) → done' r q = done r q) → (flat a b done).set (P + j) v = flat a b done' := by
    intro done done' j v hj hv h1 h2
    rw [hP, hW]; exact flat_set (by omega) hj hv h1 h2
   have hs0 : (flat a b (fun r _ => decide (i + 1 ≤ r))).set (P + ((b.length : Nat) : Int).toNat) (IntKind.u16.wrap ((a.length : Int) - i)) = flat a b (fun r q => decide (i + 1 ≤ r ∨ (r = i ∧ b.length ≤ q))) := by
    rw [Int.toNat_natCast, u16_in _ (by omega)]
    refine hset _ _ _ _ (Nat.le_refl _) ?_ (by simp) (fun r q hr hq hne => ?_)
    ·rw [List.drop_eq_nil_of_le (Nat.le_refl b.length), dist_nil, List.length_drop]; omega
    ·rw [decide_eq_decide]; omega
   refine k2 ?_
   refine A4 (A2 (A3 Z Z) Z (A2 (A3 Z Z) Z (A2 (E1 Z (.pure _ _ _ _)) Z (A2 (A3 Z Z) Z (A2 (E1 Z (.pure _ _ _ _)) Z (A2 (A3 Z Z) Z (A2 (I1 Z Z (by omega)) Z (A2 (S9 Z) Z (A2 (T0 Z Z (by omega) (by omega)) Z (E9 (M2 TySz.out Z Z (by (rw [hL]; omega)) Z Z) ?_)))))))))); refine A6 ?_
   rw [hs0]
   refine k1 (k2 ?_)
   refine A4 (A2 (A3 Z Z) Z (A2 (E1 Z (.pure _ _ _ _)) Z (A2 (I1 Z Z (by omega)) Z (A2 (A5 Z Z) Z (A6 ?_)))))
   refine k1 (k3 ?_)
   refine E2 (X := Nat) (fun j => ([(0, D3 Int 1 K5 a), (1, D3 Int 1 K5 b), (5, C2 W), (6, .s (.one (.mut 20))), (8, C2 i), (9, .s (.one (.msl 20 1 P W))), (10, .s (.one (.msl 20 1 (P + W) W))), (11, C2 ((j : Int) - 1))], [(20, .arr Int 1 u16C (flat a b (fun r q => decide (i + 1 ≤ r ∨ (r = i ∧ j ≤ q)))))])) (fun j => j ≤ b.length) (fun j => j) b.length (Nat.le_refl _) (Sees.of ⟨le1 rfl, le1 rfl, le1 rfl, le1 rfl, le1 rfl, le1 rfl, le1 rfl, le1 rfl, trivial⟩ ⟨rfl, trivial⟩) ?_
   intro j hj
   dsimp only at hj ⊢
   refine k2 (k2 ?_)
   refine A4 (A2 (A3 Z Z) Z (A2 (l8 Z Z) Z (A6 ?_)))
   refine k1 ?_
   refine B2 rfl (fun ht => ?_) (fun ht => ?_)
   ·obtain ⟨j, rfl⟩ : ∃ r, j = r + 1 := ⟨j - 1, by have := A0 ht; omega⟩
    have hva : a[i]? = some a[i] := by simp [show i < a.length by omega]
    have hvb : b[j]? = some b[j] := by simp [show j < b.length by omega]
    have hdd := dist_drop a b i j (by omega) (by omega)
    have hd1 := hdl i j
    have hd2 := hdl (i + 1) j
    have hd3 := hdl i (j + 1)
    have hd4 := hdl (i + 1) (j + 1)
    obtain ⟨u, hu⟩ : ∃ u, u = a[i] := ⟨_, rfl⟩
    obtain ⟨v, hv⟩ : ∃ v, v = b[j] := ⟨_, rfl⟩
    rw [← hu] at hva hdd
    rw [← hv] at hvb hdd
    have hst : (flat a b (fun r q => decide (i + 1 ≤ r ∨ (r = i ∧ j + 1 ≤ q)))).set (P + j) (dist (a.drop i) (b.drop j) : Int) = flat a b (fun r q => decide (i + 1 ≤ r ∨ (r = i ∧ j ≤ q))) := hset _ _ _ _ (by omega) rfl (by simp) (fun r q hr hq hne => by rw [decide_eq_decide]; omega)
    refine T5 [(0, D3 Int 1 K5 a), (1, D3 Int 1 K5 b), (5, C2 W), (6, .s (.one (.mut 20))), (8, C2 i), (9, .s (.one (.msl 20 1 P W))), (10, .s (.one (.msl 20 1 (P + W) W))), (11, C2 j)] [(20, .arr Int 1 u16C (flat a b (fun r q => decide (i + 1 ≤ r ∨ (r = i ∧ j + 1 ≤ q)))))] (Sees.of ⟨le1 rfl, le1 rfl, le1 rfl, le1 rfl, le1 rfl, le1 rfl, le1 rfl, leE Z (by first | (simp; done) | (simp; omega)), trivial⟩ ⟨rfl, trivial⟩) ?_
    refine c_skip ?_
    refine H9 ?_
    refine W6 [(0, D3 Int 1 K5 a), (1, D3 Int 1 K5 b), (5, C2 W), (6, .s (.one (.mut 20))), (8, C2 i), (9, .s (.one (.msl 20 1 P W))), (10, .s (.one (.msl 20 1 (P + W) W))), (11, C2 j)] [(20, .arr Int 1 u16C (flat a b (fun r q => decide (i + 1 ≤ r ∨ (r = i ∧ j ≤ q)))))] ?_ ?_
    ·refine k3 (k2 ?_)
     refine C7 (by kernel_rfl) (by kernel_rfl) (A8 (A3 Z Z) Z Z (A8 (A3 Z Z) Z Z (A8 (B5 Z (.pure _ _ _ _) Z (by omega) hva) Z Z (A8 (B9 Z Z) Z Z (A8 (A3 Z Z) Z Z (A8 (A3 Z Z) Z Z (A8 (B5 Z (.pure _ _ _ _) Z (by omega) hvb) Z Z (A8 (B9 Z Z) Z Z (A8 (I8 Z Z) Z Z (H2 ?_))))))))))
     refine k1 ?_
     refine B2 rfl (fun ht => ?_) (fun ht => ?_)
     ·rw [if_pos (A0 ht)] at hdd
      rw [hdd] at hst
      have hg := hbelow (j + 1) (j + 1) (by omega)
      have hgi : (flat a b (fun r q => decide (i + 1 ≤ r ∨ (r = i ∧ j + 1 ≤ q))))[P + W + ((j : Int) + 1).toNat]? = some (dist (a.drop (i + 1)) (b.drop (j + 1)) : Int) := by rw [show ((j : Int) + 1).toNat = j + 1 by omega]; exact hg
      skip
      refine A4 (A2 (A3 Z Z) Z (A2 (A3 Z Z) Z (A2 (A3 Z Z) Z (A2 (A3 Z Z) Z (A2 (C0 Z Z (by omega)) Z (A2 (T0 Z Z (by omega) (by omega)) Z (A2 (n_load_mref Z Z hgi Z) Z (A2 (T0 Z Z (by omega) (by omega)) Z (E9 (M2 TySz.out Z Z (by (rw [hL]; omega)) Z Z) ?_))))))))); refine A6 ?_
      refine k4 (k1 ?_)
      rw [show P + ((j : Nat) : Int).toNat = P + j by omega, hst]
      exact Sees.of ⟨le1 rfl, le1 rfl, le1 rfl, le1 rfl, le1 rfl, le1 rfl, le1 rfl, le1 rfl, trivial⟩ ⟨rfl, trivial⟩
     ·rw [if_neg (A1 ht)] at hdd
      have hg1 := hbelow j (j + 1) (by omega)
      have hg2 := hdone (j + 1) (by omega)
      have hgi1 : (flat a b (fun r q => decide (i + 1 ≤ r ∨ (r = i ∧ j + 1 ≤ q))))[P + W + ((j : Nat) : Int).toNat]? = some (dist (a.drop (i + 1)) (b.drop j) : Int) := by rw [Int.toNat_natCast]; exact hg1
      have hgi2 : (flat a b (fun r q => decide (i + 1 ≤ r ∨ (r = i ∧ j + 1 ≤ q))))[P + ((j : Int) + 1).toNat]? = some (dist (a.drop i) (b.drop (j + 1)) : Int) := by rw [show ((j : Int) + 1).toNat = j + 1 by omega]; exact hg2
      have hval : IntKind.u16.wrap ((if (dist (a.drop i) (b.drop (j + 1)) : Int) < (dist (a.drop (i + 1)) (b.drop j) : Int) then (dist (a.drop i) (b.drop (j + 1)) : Int) else (dist (a.drop (i + 1)) (b.drop j) : Int)) + 1) = (dist (a.drop i) (b.drop j) : Int) := by
       rw [u16_in _ (by split <;> omega), hdd]; split <;> omega
      skip
      refine C7 (by kernel_rfl) (by kernel_rfl) (A8 (A3 Z Z) Z Z (A8 (A3 Z Z) Z Z (A8 (A3 Z Z) Z Z (A8 (A3 Z Z) Z Z (A8 (T0 Z Z (by omega) (by omega)) Z Z (A8 (n_load_mref Z Z hgi1 Z) Z Z (A8 (A3 Z Z) Z Z (A8 (A3 Z Z) Z Z (A8 (C0 Z Z (by omega)) Z Z (A8 (T0 Z Z (by omega) (by omega)) Z Z (A8 (n_load_mref Z Z hgi2 Z) Z Z (A8 (n_min Z Z) Z Z (A8 (n_add_w Z Z) Z Z (A8 (T0 Z Z (by omega) (by omega)) Z Z (y7 (M2 TySz.out Z Z (by (rw [hL]; omega)) Z Z) Z ?_))))))))))))))); refine H2 ?_
      refine k4 (k1 ?_)
      rw [hval, show P + ((j : Nat) : Int).toNat = P + j by omega, hst]
      exact Sees.of ⟨le1 rfl, le1 rfl, le1 rfl, le1 rfl, le1 rfl, le1 rfl, le1 rfl, le1 rfl, trivial⟩ ⟨rfl, trivial⟩
    ·skip
     refine A4 (A2 (A3 Z Z) Z (A2 (I1 Z Z (by omega)) Z (A2 (A5 Z Z) Z (A6 ?_))))
     refine k1 ?_
     exact ⟨j, by omega, by omega, Sees.of ⟨le1 rfl, le1 rfl, le1 rfl, le1 rfl, le1 rfl, le1 rfl, le1 rfl, le1 rfl, trivial⟩ ⟨rfl, trivial⟩⟩
   ·obtain rfl : j = 0 := by have := A1 ht; omega
    rw [show flat a b (fun r q => decide (i + 1 ≤ r ∨ (r = i ∧ 0 ≤ q))) = flat a b (fun r _ => decide (i ≤ r)) from flat_congr fun r q _ _ => .inl (by rw [decide_eq_decide]; omega)]
    refine k6 (k7 (k7 (k8 Z (k4 (k1 ?_)))))
    refine A4 (A2 (A3 Z Z) Z (A2 (I1 Z Z (by omega)) Z (A2 (A5 Z Z) Z (A6 ?_))))
    refine k1 ?_
    exact ⟨i, by omega, by omega, Sees.of ⟨le1 rfl, le1 rfl, le1 rfl, le1 rfl, le1 rfl, trivial⟩ ⟨rfl, trivial⟩⟩
  ·obtain rfl : i = 0 := by have := A1 ht; omega
   rw [show flat a b (fun r _ => decide (0 ≤ r)) = flat a b (fun _ _ => true) from flat_congr fun r q _ _ => .inl (by simp)]
   refine F8 (Sees.freeze (k := 20) Z) ?_
   refine k6 (k2 ?_)
   refine A4 (A2 (A3 Z Z) Z (A2 (A5 Z Z) Z (A6 ?_)))
   refine k1 (k10 ?_)
   exact B6 (H1 rfl rfl rfl) rfl
theorem i64_id {n : Int} (h : -9223372036854775808 ≤ n ∧ n ≤ 9223372036854775807) : IntKind.i64.wrap n = n := IntWalk.i64_in _ h
theorem sat_met {gf : Fr} {ob : Obs} (a b : List Int) (i j : Nat) (ha : a.length ≤ 4096) (hb : b.length ≤ 4096) (hi : i ≤ a.length) (hj : j ≤ b.length) (h8 : D4 ob 8 = some (.box [.p (.list Int 1 u16C (flat a b (fun _ _ => true)))])) (h3 : D4 ob 3 = some (.box [.p (.list Int 1 K5 b)])) :
  AL.Met Tryz.prog 203 [.one (.p (.v (.int .i64 i))), .one (.p (.v (.int .i64 j))), .one (.ref 8 0), .one (.ref 3 0)] gf ob [] (fun rs ob' => rs = [.one (.p (.v (.int .i64 (dist (a.drop i) (b.drop j) : Int))))] ∧ ob' = ob) := by
 have hg := flat_get (a := a) (b := b) (done := fun _ _ => true) hi hj
 rw [if_pos rfl] at hg
 have hin := (flat_at (a := a) (b := b) hi hj).1
 have hL := flat_length a b (fun _ _ => true)
 have e1 : (i : Int) * ((b.length : Int) + 1) = ((i * (b.length + 1) : Nat) : Int) := by push_cast; rfl
 have hbd : i * (b.length + 1) ≤ 4096 * 4097 := Nat.mul_le_mul (by omega) (by omega)
 have hbd2 : (a.length + 1) * (b.length + 1) ≤ 4097 * 4097 := Nat.mul_le_mul (by omega) (by omega)
 have hgi : (flat a b (fun _ _ => true))[((i : Int) * ((b.length : Int) + 1) + j).toNat]? = some (dist (a.drop i) (b.drop j) : Int) := by
  rw [e1, show (((i * (b.length + 1) : Nat) : Int) + j).toNat = i * (b.length + 1) + j by omega]; exact hg
 have hd := dist_le (a.drop i) (b.drop j)
 simp only [List.length_drop] at hd
 refine AL.Met.intro Tryz.func203 (by decide) Z Z Z ?_
 refine k2 ?_
 refine A4 (A2 (A5 Z Z) Z (A6 ?_))
 refine k1 (k2 ?_)
 refine A4 (A2 (A9 Z h8 Z) Z (A2 (A3 Z Z) Z (A2 (A9 Z h3 Z) Z (A2 (E1 Z (.pure _ _ _ _)) Z (A2 (C0 Z Z (by omega)) Z (A2 (n_mul Z Z (by (rw [e1]; omega))) Z ?_)))))); refine A2 (A3 Z Z) Z (A2 (C0 Z Z (by (rw [e1]; omega))) Z ?_); refine A2 (B5 Z (.pure _ _ _ _) Z (by omega) hgi) Z (A2 (B9 Z Z) Z (A2 (S9 Z) Z (A2 (A5 Z Z) Z (A6 ?_))))
 rw [i64_id (by omega)]
 refine k1 (k10 ?_)
 exact G1 (R4 rfl rfl) (by repeat (first | exact C6 | refine C5 rfl ?_ | refine D2 _ ?_)) (fun _ _ h => h) ⟨rfl, rfl⟩
theorem swalk_ok (a b : List Int) (ha : a.length ≤ 4096) (hb : b.length ≤ 4096) : FnOk Tryz.prog 134 [W8 a, W8 b] (fun rs => rs = [pSpans (H8 0 0 a b)]) := by
 obtain ⟨n, hn⟩ : ∃ n, n = V3 a b := ⟨_, rfl⟩
 have hnl := begOf_le a b
 rw [← hn] at hnl
 have hbeg := walkGo_beg a b 0 0
 rw [← hn] at hbeg
 refine FnOk.intro Tryz.func134 (by decide) Z Z Z Z ?_
 refine k2 ?_
 refine A4 (C9 (c8 3 Z Z Z) Z (A2 (A5 Z Z) Z (A6 ?_)))
 refine k1 (k2 ?_)
 refine A4 (C9 (W9 5 _ spanC Z) Z (A6 ?_))
 refine k1 (k2 ?_)
 refine A4 (A2 (A3 Z Z) Z (A2 (A9 Z Z Z) Z (C3 (sbeginning_ok a b (by omega)) Z Z Z ?_))); rintro _ rfl; refine A2 (A5 Z Z) Z (A6 ?_)
 rw [← hn]
 refine k1 (k2 (k2 ?_))
 refine A4 (A2 (A3 Z Z) Z (A2 (A3 Z Z) Z (A6 ?_)))
 refine k1 (k3 ?_)
 refine E2 (X := Nat) (fun k => ([(0, D3 Int 1 K5 a), (3, .s (.one (.ref 3 0))), (5, .s (.one (.buf 5 Span 2 spanC (N1 0 0 k)))), (6, C2 n), (15, C2 n), (16, C2 k)], [(3, .box [.p (.list Int 1 K5 b)]), (5, .spare (N1 0 0 k).length 2 95)])) (fun k => k ≤ n) (fun k => n - k) 0 (Nat.zero_le _) (Sees.of ⟨le1 rfl, le1 rfl, le1 rfl, le1 rfl, le1 rfl, le1 rfl, trivial⟩ ⟨rfl, rfl, trivial⟩) ?_
 intro k hk
 dsimp only at hk ⊢
 have hrl := Y1 0 0 k
 refine k2 ?_
 refine A4 (A2 (E3 Z Z) Z (A6 ?_))
 refine k1 (k2 ?_)
 refine B2 rfl (fun ht => ?_) (fun ht => ?_)
 ·have hlt : k < n := by have := A0 ht; omega
  have hsn := spanRun_snoc 0 0 k
  refine k5 (k1 (k2 (k3 (k2 ?_))))
  refine A4 (A2 (A3 Z Z) Z (A2 (A5 Z Z) Z (A6 ?_)))
  refine k1 ?_
  refine A4 (A2 (A3 Z Z) Z (A2 (A3 Z Z) Z (A2 (A3 Z Z) Z (A2 (F6 Z) Z (A2 (E0 (c := spanC) (ys := [⟨(k : Int), (k : Int)⟩]) (E6 Z Z Z Z I6) Z Z Z) Z (C9 (J4 Z Z Z (.pure _ _ _ _) (by (simp only [List.length_cons, List.length_nil]; omega)) Z) Z (A2 (A5 Z Z) Z (A6 ?_))))))))
  refine k4 (k1 ?_)
  refine A4 (A2 (C0 Z Z (by omega)) Z (A2 (A3 Z Z) Z (A6 ?_)))
  refine k1 ?_
  refine ⟨k + 1, by omega, by omega, ?_⟩
  rw [hsn, show (0 : Int) + (k : Int) = k by omega]
  exact Sees.of ⟨le1 rfl, le1 rfl, le1 rfl, le1 rfl, le1 rfl, le1 rfl, trivial⟩ ⟨rfl, rfl, trivial⟩
 have hk' : k = n := by have := A1 ht; omega
 subst hk'
 obtain ⟨a', ha'⟩ : ∃ a', a' = a.drop k := ⟨_, rfl⟩
 obtain ⟨b', hb'⟩ : ∃ b', b' = b.drop k := ⟨_, rfl⟩
 have hal : a'.length ≤ 4096 := by rw [ha', List.length_drop]; omega
 have hbl : b'.length ≤ 4096 := by rw [hb', List.length_drop]; omega
 rw [Int.zero_add, ← ha', ← hb'] at hbeg
 refine k6 (k2 ?_)
 refine C7 (by kernel_rfl) (by kernel_rfl) (A8 (A3 Z Z) Z Z (A8 (A3 Z Z) Z Z (A8 (n_slice_l Z (.pure _ _ _ _) Z (by omega) (by omega)) Z Z (A8 (A9 Z Z Z) Z Z (A8 (A3 Z Z) Z Z (A8 (n_slice_l Z (.pure _ _ _ _) Z (by omega) (by omega)) Z Z (A8 (A5 Z Z) Z Z (y7 (B7 TySz.out Z Z Z Z Z Z) Z (H2 ?_)))))))))
 rw [Int.toNat_natCast, ← ha', ← hb']
 refine k1 (k2 ?_)
 refine A4 (A2 (A3 Z Z) Z (A2 (A9 Z Z Z) Z (C3 (sdistances_ok a' b' hal hbl) Z Z Z ?_))); rintro _ rfl; refine C9 (G3 8 Z) Z (E9 (B7 TySz.out Z Z Z Z Z Z) (A6 ?_))
 refine k1 (k2 ?_)
 refine A4 (A2 (n_makeFunc Z Z) Z (A2 (A5 Z Z) Z (A6 ?_)))
 refine k1 (k2 (k2 ?_))
 refine A4 (A2 (A5 Z Z) Z (A2 (A5 Z Z) Z (A6 ?_)))
 refine k1 (k3 ?_)
 refine E2 (X := Nat × Nat × List Span) (fun x => ([(0, D3 Int 1 K5 a'), (3, .s (.one (.ref 3 0))), (5, .s (.one (.buf 5 Span 2 spanC x.2.2))), (6, C2 k), (8, .s (.one (.ref 8 0))), (9, .s (.one (.clo 203 [] [(8, 0), (3, 0)]))), (10, C2 x.1), (11, C2 x.2.1)], [(3, .box [.p (.list Int 1 K5 b')]), (5, .spare x.2.2.length 2 95), (8, .box [.p (.list Int 1 u16C (flat a' b' (fun _ _ => true)))])])) (fun x => x.1 ≤ a'.length ∧ x.2.1 ≤ b'.length ∧ x.2.2.length ≤ k + x.1 ∧ H8 0 0 a b = x.2.2 ++ H8 (k + x.1) (k + x.2.1) (a'.drop x.1) (b'.drop x.2.1)) (fun x => (a'.length - x.1) + (b'.length - x.2.1)) (0, 0, N1 0 0 k) ⟨Nat.zero_le _, Nat.zero_le _, by rw [hrl]; exact Nat.le_refl _, by simpa using hbeg⟩ (Sees.of ⟨le1 rfl, le1 rfl, le1 rfl, le1 rfl, le1 rfl, le1 rfl, le1 rfl, le1 rfl, trivial⟩ ⟨rfl, rfl, rfl, trivial⟩) ?_
 rintro ⟨i, j, out⟩ ⟨hi, hj, hol, he⟩
 dsimp only at hi hj hol he ⊢
 refine k2 (k2 ?_)
 refine A4 (A2 (A3 Z Z) Z (A2 (A3 Z Z) Z (A2 (E1 Z (.pure _ _ _ _)) Z (A2 (E3 Z Z) Z (A2 (A3 Z Z) Z (B0 Z Z Z Z (fun hg => by rw [hg]; exact A3 Z Z) ?_)))))); refine B0 Z Z Z Z (fun hg => by rw [hg]; exact A9 Z Z Z) ?_; refine B0 Z Z Z Z (fun hg => by rw [hg]; exact E1 Z (.pure _ _ _ _)) ?_; refine B0 Z Z Z Z (fun hg => by rw [hg]; exact E3 Z Z) ?_; refine A2 (B1 Z (fun h => by first | rfl | (rw [h]; rfl)) (fun h => by first | rfl | (rw [h]; rfl))) Z ?_; refine A6 ?_
 refine k1 ?_
 refine B2 rfl (fun ht => ?_) (fun ht => ?_)
 ·simp only [or_pick] at ht
  have hcond := A0 ht
  refine T5 [(0, D3 Int 1 K5 a'), (3, .s (.one (.ref 3 0))), (5, .s (.one (.buf 5 Span 2 spanC out))), (6, C2 k), (8, .s (.one (.ref 8 0))), (9, .s (.one (.clo 203 [] [(8, 0), (3, 0)]))), (10, C2 i), (11, C2 j)] [(3, .box [.p (.list Int 1 K5 b')]), (5, .spare out.length 2 95), (8, .box [.p (.list Int 1 u16C (flat a' b' (fun _ _ => true)))])] (Sees.of ⟨le1 rfl, le1 rfl, le1 rfl, le1 rfl, le1 rfl, le1 rfl, le1 rfl, le1 rfl, trivial⟩ ⟨rfl, rfl, rfl, trivial⟩) ?_
  refine k5 (k1 (k3 (k3 (k2 ?_))))
  refine C7 (by kernel_rfl) (by kernel_rfl) (A8 (A3 Z Z) Z Z (A8 (A3 Z Z) Z Z (A8 (E1 Z (.pure _ _ _ _)) Z Z (A8 (E3 Z Z) Z Z (A8 (A3 Z Z) Z Z (B8 Z Z (fun hg => by rw [hg]; exact A3 Z Z) Z Z ?_)))))); refine B8 Z Z (fun hg => by rw [hg]; exact A9 Z Z Z) Z Z ?_; refine B8 Z Z (fun hg => by rw [hg]; exact E1 Z (.pure _ _ _ _)) Z Z ?_; refine B8 Z Z (fun hg => by rw [hg]; exact E3 Z Z) Z Z ?_; refine A8 (B1 Z (fun h => by first | rfl | (rw [h]; rfl)) (fun h => by first | rfl | (rw [h]; rfl))) Z Z ?_; refine A8 (A3 Z Z) Z Z (B8 Z Z (fun hg => by rw [hg]; exact A3 Z Z) Z Z ?_); refine B8 Z Z (fun hg => by rw [hg]; exact A3 Z Z) Z Z ?_; refine B8 Z Z (fun hg => by have hq := hg; (try simp at hq); rw [hg]; exact B5 Z (.pure _ _ _ _) Z (by omega) (getD_get (by omega))) Z Z ?_; refine B8 Z Z (fun hg => by rw [hg]; exact B9 Z Z) Z Z ?_; refine B8 Z Z (fun hg => by rw [hg]; exact A9 Z Z Z) Z Z ?_; refine B8 Z Z (fun hg => by rw [hg]; exact A3 Z Z) Z Z ?_; refine B8 Z Z (fun hg => by have hq := hg; (try simp at hq); rw [hg]; exact B5 Z (.pure _ _ _ _) Z (by omega) (getD_get (by omega))) Z Z ?_; refine B8 Z Z (fun hg => by rw [hg]; exact B9 Z Z) Z Z ?_; refine B8 Z Z (fun hg => by rw [hg]; exact I8 Z Z) Z Z ?_; refine A8 (B1 Z (fun h => by first | rfl | (rw [h]; rfl)) (fun h => by first | rfl | (rw [h]; rfl))) Z Z ?_; refine A8 (A5 Z Z) Z Z (H2 ?_)
  refine k1 ?_
  refine B2 rfl (fun ht => ?_) (fun ht => ?_)
  ·simp only [G2] at ht
   obtain ⟨⟨h1, h2⟩, h3⟩ := A0 ht
   have h1 : i < a'.length := by omega
   have h2 : j < b'.length := by omega
   rw [v6 a' b' i j h1 h2, if_pos (by simpa [h1, h2] using h3)] at he
   refine T5 [(0, D3 Int 1 K5 a'), (3, .s (.one (.ref 3 0))), (5, .s (.one (.buf 5 Span 2 spanC out))), (6, C2 k), (8, .s (.one (.ref 8 0))), (9, .s (.one (.clo 203 [] [(8, 0), (3, 0)]))), (10, C2 i), (11, C2 j)] [(3, .box [.p (.list Int 1 K5 b')]), (5, .spare out.length 2 95), (8, .box [.p (.list Int 1 u16C (flat a' b' (fun _ _ => true)))])] (Sees.of ⟨le1 rfl, le1 rfl, le1 rfl, le1 rfl, le1 rfl, le1 rfl, le1 rfl, le1 rfl, trivial⟩ ⟨rfl, rfl, rfl, trivial⟩) ?_
   refine k2 ?_
   refine A4 (A2 (A3 Z Z) Z (A2 (A3 Z Z) Z (A2 (A3 Z Z) Z (A2 (C0 Z Z (by omega)) Z (A2 (A3 Z Z) Z (A2 (A3 Z Z) Z (A2 (C0 Z Z (by omega)) Z (A2 (F6 Z) Z (A2 (E0 (c := spanC) (ys := [⟨(k : Int) + i, (k : Int) + j⟩]) (E6 Z Z Z Z I6) Z Z Z) Z (C9 (J4 Z Z Z (.pure _ _ _ _) (by (simp only [List.length_cons, List.length_nil]; omega)) Z) Z (A2 (A5 Z Z) Z (A6 ?_))))))))))))
   refine k1 ?_
   refine A4 (A2 (A3 Z Z) Z (A2 (C0 Z Z (by omega)) Z (A2 (A3 Z Z) Z (A2 (C0 Z Z (by omega)) Z (A2 (A5 Z Z) Z (A2 (A5 Z Z) Z (A6 ?_)))))))
   refine k4 (k4 (k1 ?_))
   refine ⟨(i + 1, j + 1, out ++ [⟨(k : Int) + i, (k : Int) + j⟩]), ⟨by dsimp only; omega, by dsimp only; omega, by simp; omega, ?_⟩, by dsimp only; omega, Sees.of ⟨le1 rfl, le1 rfl, le1 rfl, le1 rfl, le1 rfl, le1 rfl, le1 rfl, le1 rfl, trivial⟩ ⟨rfl, rfl, rfl, trivial⟩⟩
   dsimp only
   rw [he, List.append_assoc]
   congr 2
  ·simp only [G2] at ht
   have hno := A1 ht
   refine T5 [(0, D3 Int 1 K5 a'), (3, .s (.one (.ref 3 0))), (5, .s (.one (.buf 5 Span 2 spanC out))), (6, C2 k), (8, .s (.one (.ref 8 0))), (9, .s (.one (.clo 203 [] [(8, 0), (3, 0)]))), (10, C2 i), (11, C2 j)] [(3, .box [.p (.list Int 1 K5 b')]), (5, .spare out.length 2 95), (8, .box [.p (.list Int 1 u16C (flat a' b' (fun _ _ => true)))])] (Sees.of ⟨le1 rfl, le1 rfl, le1 rfl, le1 rfl, le1 rfl, le1 rfl, le1 rfl, le1 rfl, trivial⟩ ⟨rfl, rfl, rfl, trivial⟩) ?_
   by_cases h1 : i < a'.length
   ·have hr : decide ((i : Int) < (a'.length : Int)) = true := decide_eq_true (by omega)
    have hd1 := dist_le (a'.drop (i + 1)) (b'.drop j)
    simp only [List.length_drop] at hd1
    have hstep : ¬ j < b'.length → dist (a'.drop (i + 1)) (b'.drop j) + 1 = dist (a'.drop i) (b'.drop j) ∧ H8 (k + i) (k + j) (a'.drop i) (b'.drop j) = H8 (k + i + 1) (k + j) (a'.drop (i + 1)) (b'.drop j) := by
     intro hj2
     rw [show b'.drop j = [] from List.drop_eq_nil_of_le (by omega), dist_nil, dist_nil, List.length_drop, List.length_drop, Z2, Z2]
     exact ⟨by omega, rfl⟩
    have hgo : j < b'.length → H8 (k + i) (k + j) (a'.drop i) (b'.drop j) = if dist (a'.drop (i + 1)) (b'.drop j) + 1 = dist (a'.drop i) (b'.drop j) then H8 (k + i + 1) (k + j) (a'.drop (i + 1)) (b'.drop j) else H8 (k + i) (k + j + 1) (a'.drop i) (b'.drop (j + 1)) := by
     intro h2
     rw [v6 a' b' i j h1 h2, if_neg]
     intro h3
     exact hno ⟨⟨by omega, by omega⟩, by simpa [h1, h2] using h3⟩
    refine k2 ?_
    refine A4 (A2 (A3 Z Z) Z (A2 (A3 Z Z) Z (A2 (E1 Z (.pure _ _ _ _)) Z (A2 (E3 Z Z) Z (A2 (A3 Z Z) Z (E8 Z Z Z hr (A2 (A3 Z Z) Z (E8 Z Z Z hr (A2 (A3 Z Z) Z (E8 Z Z Z hr (A2 (C0 Z Z (by omega)) Z (E8 Z Z Z hr (A2 (A3 Z Z) Z (E8 Z Z Z hr (w8 (sat_met a' b' (i + 1) j hal hbl (by omega) hj Z Z) Z Z Z Z ?_))))))))))))))); rintro _ _ ⟨rfl, rfl⟩; refine E8 Z Z Z hr (A2 (C0 Z Z (by omega)) Z (E8 Z Z Z hr (A2 (A3 Z Z) Z (E8 Z Z Z hr (A2 (A3 Z Z) Z (E8 Z Z Z hr (A2 (A3 Z Z) Z (E8 Z Z Z hr (w8 (sat_met a' b' i j hal hbl hi hj Z Z) Z Z Z Z ?_))))))))); rintro _ _ ⟨rfl, rfl⟩; refine E8 Z Z Z hr (A2 (I8 Z Z) Z (A2 (B1 Z (fun h => by first | rfl | (rw [h]; rfl)) (fun h => by first | rfl | (rw [h]; rfl))) Z ?_)); refine A2 (A5 Z Z) Z (A6 ?_)
    refine k1 ?_
    refine B2 rfl (fun ht => ?_) (fun ht => ?_)
    ·simp only [G2] at ht
     obtain ⟨_, h3⟩ := A0 ht
     have h3 : dist (a'.drop (i + 1)) (b'.drop j) + 1 = dist (a'.drop i) (b'.drop j) := by omega
     have hnext : H8 (k + i) (k + j) (a'.drop i) (b'.drop j) = H8 (k + i + 1) (k + j) (a'.drop (i + 1)) (b'.drop j) := by
      by_cases h2 : j < b'.length
      ·rw [hgo h2, if_pos h3]
      ·exact (hstep h2).2
     rw [hnext] at he
     skip
     refine A4 (A2 (A3 Z Z) Z (A2 (C0 Z Z (by omega)) Z (A2 (A5 Z Z) Z (A6 ?_))))
     refine k4 (k4 (k1 ?_))
     refine ⟨(i + 1, j, out), ⟨by dsimp only; omega, by dsimp only; omega, by dsimp only; omega, ?_⟩, by dsimp only; omega, Sees.of ⟨le1 rfl, le1 rfl, le1 rfl, le1 rfl, le1 rfl, le1 rfl, le1 rfl, le1 rfl, trivial⟩ ⟨rfl, rfl, rfl, trivial⟩⟩
     dsimp only
     rw [he, show (k : Int) + (i : Int) + 1 = (k : Int) + ((i + 1 : Nat) : Int) by omega]
    ·simp only [G2] at ht
     have h3 := A1 ht
     have h3 : ¬ dist (a'.drop (i + 1)) (b'.drop j) + 1 = dist (a'.drop i) (b'.drop j) := fun q => h3 ⟨by omega, by omega⟩
     have h2 : j < b'.length := by
      by_cases h2 : j < b'.length
      ·exact h2
      ·exact absurd (hstep h2).1 h3
     rw [hgo h2, if_neg h3] at he
     skip
     refine A4 (A2 (A3 Z Z) Z (A2 (C0 Z Z (by omega)) Z (A2 (A5 Z Z) Z (A6 ?_))))
     refine k4 (k4 (k1 ?_))
     refine ⟨(i, j + 1, out), ⟨by dsimp only; omega, by dsimp only; omega, by dsimp only; omega, ?_⟩, by dsimp only; omega, Sees.of ⟨le1 rfl, le1 rfl, le1 rfl, le1 rfl, le1 rfl, le1 rfl, le1 rfl, le1 rfl, trivial⟩ ⟨rfl, rfl, rfl, trivial⟩⟩
     dsimp only
     rw [he, show (k : Int) + (j : Int) + 1 = (k : Int) + ((j + 1 : Nat) : Int) by omega]
   ·have hrf : decide ((i : Int) < (a'.length : Int)) = false := decide_eq_false (by omega)
    have h2 : j < b'.length := by omega
    refine k2 ?_
    refine A4 (A2 (A3 Z Z) Z (A2 (A3 Z Z) Z (A2 (E1 Z (.pure _ _ _ _)) Z (A2 (E3 Z Z) Z (A2 (A3 Z Z) Z (I5 Z Z Z (by rw [hrf]; decide) Z ?_)))))); refine I5 Z Z Z (by rw [hrf]; decide) Z ?_; refine I5 Z Z Z (by rw [hrf]; decide) Z ?_; refine I5 Z Z Z (by rw [hrf]; decide) Z ?_; refine I5 Z Z Z (by rw [hrf]; decide) Z ?_; refine I5 Z Z Z (by rw [hrf]; decide) Z ?_; refine I5 Z Z Z (by rw [hrf]; decide) Z ?_; refine I5 Z Z Z (by rw [hrf]; decide) Z ?_; refine I5 Z Z Z (by rw [hrf]; decide) Z ?_; refine I5 Z Z Z (by rw [hrf]; decide) Z ?_; refine I5 Z Z Z (by rw [hrf]; decide) Z ?_; refine A2 (T6 Z (hrf) Z) Z (A2 (A5 Z Z) Z (A6 ?_))
    refine k1 ?_
    refine B2 rfl (fun ht => ?_) (fun ht => ?_)
    ·cases ht
    ·skip
     refine A4 (A2 (A3 Z Z) Z (A2 (C0 Z Z (by omega)) Z (A2 (A5 Z Z) Z (A6 ?_))))
     refine k4 (k4 (k1 ?_))
     refine ⟨(i, j + 1, out), ⟨by dsimp only; omega, by dsimp only; omega, by dsimp only; omega, ?_⟩, by dsimp only; omega, Sees.of ⟨le1 rfl, le1 rfl, le1 rfl, le1 rfl, le1 rfl, le1 rfl, le1 rfl, le1 rfl, trivial⟩ ⟨rfl, rfl, rfl, trivial⟩⟩
     dsimp only
     rw [he, show a'.drop i = [] from List.drop_eq_nil_of_le (by omega), W1, W1]
 ·simp only [or_pick] at ht
  have hcond := A1 ht
  rw [show a'.drop i = [] from List.drop_eq_nil_of_le (by omega), W1, List.append_nil] at he
  refine k6 (k2 ?_)
  refine A4 (A2 (A3 Z Z) Z (A2 (A5 Z Z) Z (A6 ?_)))
  refine k1 (k10 ?_)
  exact B6 (H1 rfl rfl rfl) (by rw [he])
theorem sScript_ok (a b : List Int) (ha : a.length ≤ 4096) (hb : b.length ≤ 4096) : FnOk Tryz.prog 69 [W8 a, W8 b] (fun rs => rs = [pChanges (walkOf a b), F0 0]) := by
 have hA := walkGo_asc a b 0 0
 rw [Int.zero_add, Int.zero_add] at hA
 have hl := walkGo_length 0 0 a b
 refine FnOk.intro Tryz.func69 (by decide) Z Z Z Z ?_
 refine k2 ?_
 refine A4 (A2 (A5 Z Z) Z (A2 (A5 Z Z) Z (A6 ?_)))
 refine k1 (k2 (k2 ?_))
 refine A4 (A2 (A3 Z Z) Z (A2 (A3 Z Z) Z (C3 (slimited_ok a b) Z Z Z ?_))); rintro _ rfl; refine A2 (F4 Z) Z (A6 ?_)
 refine k1 ?_
 refine B2 rfl (fun ht => ?_) (fun ht => ?_)
 ·exfalso
  have h : decide ((a.length : Int) ≤ 4096 ∧ (b.length : Int) ≤ 4096) = true := decide_eq_true ⟨by omega, by omega⟩
  rw [h] at ht; cases ht
 refine k5 (k1 (k2 ?_))
 refine A4 (A2 (A3 Z Z) Z (A2 (A3 Z Z) Z (C3 (swalk_ok a b ha hb) Z Z Z ?_))); rintro _ rfl; refine A2 (A3 Z Z) Z (A2 (E1 Z (.pure _ _ _ _)) Z (A2 (A3 Z Z) Z (A2 (E1 Z (.pure _ _ _ _)) Z (C3 (sFromPairs_ok (H8 0 0 a b) a.length b.length ⟨by omega, by omega⟩ ⟨by omega, by omega⟩ hA (by omega)) Z Z Z ?_)))); rintro _ rfl; refine A2 (B3 Z Z) Z (A2 (B3 Z Z) Z (A2 (A5 Z Z) Z (A2 (A5 Z Z) Z (A6 ?_))))
 refine k1 (k10 ?_)
 exact B6 (U5 rfl rfl rfl rfl rfl) rfl
abbrev pHunk (h : Hunk) : PV := .agg [.v (.int .i64 h.First), .v (.int .i64 h.Last), .v (.int .i64 h.Old.From), .v (.int .i64 h.Old.To), .v (.int .i64 h.New.From), .v (.int .i64 h.New.To)]
theorem hclosed_ok (l : List Change) (f z : Nat) (m ctx : Int) (hl : l.length ≤ 1073741824) (hf : f < z) (hz : z ≤ l.length) (hc : 0 ≤ ctx ∧ ctx ≤ 1048576) (hm : 0 ≤ m ∧ m ≤ 4096)
  (hb : ∀ k, k < l.length → G7 (cAt l k).Old ∧ G7 (cAt l k).OldLen ∧ G7 (cAt l k).New ∧ G7 (cAt l k).NewLen) :
  FnOk Tryz.prog 139 [pChanges l, F0 f, F0 z, F0 m, F0 ctx] (fun rs => rs = [pHunk (mkH l m ctx f z)]) := by
 have hva : l[((f : Nat) : Int).toNat]? = some (cAt l f) := by rw [Int.toNat_natCast]; exact i6 (by omega)
 have hvz : l[((z : Nat) : Int).toNat - 1]? = some (cAt l (z - 1)) := by rw [Int.toNat_natCast]; exact i6 (by omega)
 have hvz2 : l[(((z : Nat) : Int) - 1).toNat]? = some (cAt l (z - 1)) := by rw [show (((z : Nat) : Int) - 1).toNat = z - 1 by omega]; exact i6 (by omega)
 obtain ⟨⟨a1, a2⟩, ⟨a3, a4⟩, ⟨a5, a6⟩, ⟨a7, a8⟩⟩ := hb f (by omega)
 obtain ⟨⟨z1, z2⟩, ⟨z3, z4⟩, ⟨z5, z6⟩, ⟨z7, z8⟩⟩ := hb (z - 1) (by omega)
 obtain ⟨a, ha⟩ : ∃ a, a = cAt l f := ⟨_, rfl⟩
 obtain ⟨y, hy⟩ : ∃ y, y = cAt l (z - 1) := ⟨_, rfl⟩
 have hres : mkH l m ctx f z = ⟨f, z, ⟨a.Old - U3 ctx a.Old, y.Old + y.OldLen + U3 ctx (m - y.Old - y.OldLen)⟩, ⟨a.New - U3 ctx a.Old, y.New + y.NewLen + U3 ctx (m - y.Old - y.OldLen)⟩⟩ := by
  unfold mkH x9 S2
  dsimp only
  rw [← ha, ← hy, show m - (y.Old + y.OldLen) = m - y.Old - y.OldLen by omega, show (((z - 1 : Nat) : Int) + 1) = z by omega]
 rw [← ha] at hva a1 a2 a3 a4 a5 a6 a7 a8
 rw [← hy] at hvz hvz2 z1 z2 z3 z4 z5 z6 z7 z8
 rw [hres]
 have n1 : -4096 ≤ U3 ctx a.Old ∧ U3 ctx a.Old ≤ 4096 := by unfold U3; split <;> omega
 have n2 : -8192 ≤ U3 ctx (m - y.Old - y.OldLen) ∧ U3 ctx (m - y.Old - y.OldLen) ≤ 1048576 := by unfold U3; split <;> omega
 refine FnOk.intro Tryz.func139 (by decide) Z Z Z Z ?_
 refine k2 ?_
 refine A4 (C9 (G3 10 Z) Z (A6 ?_))
 refine k1 (k2 ?_)
 refine c_region_any [12, 11, 10, 9] [[], [9], [10], [10, 9], [11, 10, 9], [12, 11, 10, 9]] [(0, [9]), (0, [10]), (0, [10, 9]), (1, [9]), (1, [10]), (1, [10, 9]), (2, [9]), (2, [10]), (2, [10, 9]), (3, [9]), (3, [10]), (3, [10, 9]), (4, [9]), (4, [10]), (4, [10, 9]), (4, [11, 10, 9]), (5, [9]), (5, [10]), (5, [10, 9]), (5, [11, 10, 9]), (6, [9]), (6, [10]), (6, [10, 9]), (6, [11, 10, 9]), (7, [9]), (7, [10]), (7, [10, 9]), (7, [11, 10, 9]), (8, [9]), (8, [10]), (8, [10, 9]), (8, [11, 10, 9]), (9, [10]), (10, [])] (by kernel_rfl) (by kernel_rfl) (u7 Z (A3 Z Z) (u7 Z (A3 Z Z) (u7 Z (B5 Z (.pure _ _ _ _) Z (by omega) hva) (u7 Z (E5 Z Z) (u7 Z (A3 Z Z) (u7 Z (A3 Z Z) (u7 Z (I1 Z Z (by omega)) (u7 Z (B5 Z (.pure _ _ _ _) Z (by omega) hvz2) (u7 Z (E5 Z Z) (a_alloc 11 Z Z (a_alloc 12 Z Z (a_store (u0 TySz.out Z Z Z Z Z Z) (a_store (u0 TySz.out Z Z Z Z Z Z) ?_))))))))))))); refine a_nil rfl ?_ ?_
 ·refine O6 Z Z (A3 Z Z) (O6 Z Z (A3 Z Z) (O6 Z Z (A3 Z Z) (O6 Z Z (A3 Z Z) (O6 Z Z (A3 Z Z) (O6 Z Z (A3 Z Z) (O6 Z Z (B5 Z (.pure _ _ _ _) Z (by omega) hva) (O6 Z Z (B5 Z (.pure _ _ _ _) Z (by omega) hva) (O6 Z Z (B5 Z (.pure _ _ _ _) Z (by omega) hva) (O6 Z Z (E5 Z Z) (O6 Z Z (E5 Z Z) (O6 Z Z (E5 Z Z) (O6 Z Z (A3 Z Z) (O6 Z Z (A3 Z Z) (O6 Z Z (A3 Z Z) (O6 Z Z (A3 Z Z) (O6 Z Z (A3 Z Z) (O6 Z Z (A3 Z Z) (O6 Z Z (A3 Z Z) (O6 Z Z (A3 Z Z) (O6 Z Z (I1 Z Z (by omega)) (O6 Z Z (I1 Z Z (by omega)) (O6 Z Z (I1 Z Z (by omega)) (O6 Z Z (I1 Z Z (by omega)) ?_))))))))))))))))))))))); refine O6 Z Z (B5 Z (.pure _ _ _ _) Z (by omega) hvz2) (O6 Z Z (B5 Z (.pure _ _ _ _) Z (by omega) hvz2) (O6 Z Z (B5 Z (.pure _ _ _ _) Z (by omega) hvz2) (O6 Z Z (B5 Z (.pure _ _ _ _) Z (by omega) hvz2) (O6 Z Z (E5 Z Z) (O6 Z Z (E5 Z Z) (O6 Z Z (E5 Z Z) (O6 Z Z (E5 Z Z) (o_alloc Z Z Z Z Z (o_alloc Z Z Z Z Z ?_))))))))); exact o_nil
 refine k1 (k2 ?_)
 refine A4 (A2 (A3 Z Z) Z (A2 (A7 Z) Z (A2 (A9 Z Z Z) Z (A2 (n_min Z Z) Z (A2 (A5 Z Z) Z (A6 ?_))))))
 rw [show (if a.Old < ctx then a.Old else ctx) = U3 ctx a.Old from rfl]
 refine k1 (k2 ?_)
 refine A4 (A2 (A3 Z Z) Z (A2 (A3 Z Z) Z (A2 (A7 Z) Z (A2 (A9 Z Z Z) Z (A2 (I1 Z Z (by omega)) Z (A2 (A7 Z) Z (A2 (A9 Z Z Z) Z (A2 (I1 Z Z (by omega)) Z (A2 (n_min Z Z) Z (A2 (A5 Z Z) Z (A6 ?_)))))))))))
 rw [show (if m - y.Old - y.OldLen < ctx then m - y.Old - y.OldLen else ctx) = U3 ctx (m - y.Old - y.OldLen) from rfl]
 refine k1 (k2 ?_)
 refine A4 (A2 (A3 Z Z) Z (A2 (A3 Z Z) Z (A2 (A7 Z) Z (A2 (A9 Z Z Z) Z (A2 (A3 Z Z) Z (A2 (I1 Z Z (by omega)) Z (A2 (A7 Z) Z (A2 (A9 Z Z Z) Z (A2 (A7 Z) Z (A2 (A9 Z Z Z) Z (A2 (C0 Z Z (by omega)) Z (A2 (A3 Z Z) Z (A2 (C0 Z Z (by omega)) Z (A2 (F6 Z) Z (A2 (A7 Z) Z (A2 (A9 Z Z Z) Z (A2 (A3 Z Z) Z (A2 (I1 Z Z (by omega)) Z (A2 (A7 Z) Z (A2 (A9 Z Z Z) Z (A2 (A7 Z) Z (A2 (A9 Z Z Z) Z (A2 (C0 Z Z (by omega)) Z ?_))))))))))))))))))))))); refine A2 (A3 Z Z) Z (A2 (C0 Z Z (by omega)) Z (A2 (F6 Z) Z (A2 (F6 Z) Z (E9 (B7 TySz.out Z Z Z Z Z Z) (A6 ?_)))))
 refine k1 (k10 ?_)
 exact B6 (retc rfl rfl rfl rfl rfl) rfl
theorem hGroup_ok (l : List Change) (m n ctx : Int) (hl : l.length ≤ 1073741824) : FnOk Tryz.prog 71 [pChanges l, F0 m, F0 n, F0 ctx] (fun rs => rs = [pHunks (M3 l m n ctx).1, F0 (M3 l m n ctx).2]) := by
 have hg0 : M3 l m n ctx = if ctx < 0 ∨ 1048576 < ctx then ([], 3) else if Q4 l m n ≠ 0 then ([], Q4 l m n) else (H0 l m ctx l.length, 0) := rfl
 refine FnOk.intro Tryz.func71 (by decide) Z Z Z Z ?_
 refine k2 ?_
 refine A4 (A2 (A5 Z Z) Z (A2 (A5 Z Z) Z (A6 ?_)))
 refine k1 (k2 (k2 ?_))
 refine A4 (A2 (A3 Z Z) Z (A2 (E3 Z Z) Z (A2 (A3 Z Z) Z (B0 Z Z Z Z (fun hg => by rw [hg]; exact A3 Z Z) ?_)))); refine B0 Z Z Z Z (fun hg => by rw [hg]; exact N4 Z Z) ?_; refine A2 (B1 Z (fun h => by first | rfl | (rw [h]; rfl)) (fun h => by first | rfl | (rw [h]; rfl))) Z ?_; refine A6 ?_
 refine k1 ?_
 refine B2 rfl (fun ht => ?_) (fun ht => ?_)
 ·simp only [or_pick] at ht
  have h := A0 ht
  rw [if_pos h] at hg0
  refine k2 ?_
  refine A4 (A2 (Q6 _ 6 hunkC) Z (A2 (A5 Z Z) Z (A6 ?_)))
  refine k1 (k10 (k11 ?_))
  exact B6 (U5 rfl rfl rfl rfl rfl) (by rw [hg0])
 simp only [or_pick] at ht
 have hc := A1 ht
 rw [if_neg hc] at hg0
 refine k5 (k1 (k2 (k2 ?_)))
 refine A4 (A2 (A3 Z Z) Z (A2 (A3 Z Z) Z (A2 (A3 Z Z) Z (C3 (scheck_ok l m n hl) Z Z Z ?_)))); rintro _ rfl; refine A2 (A5 Z Z) Z (A6 ?_)
 refine k1 (k2 ?_)
 refine A4 (A2 (A3 Z Z) Z (A2 (K7 Z Z) Z (A6 ?_)))
 refine k1 ?_
 refine B2 rfl (fun ht => ?_) (fun ht => ?_)
 ·have h := A0 ht
  rw [if_pos h] at hg0
  refine k2 ?_
  refine A4 (A2 (A3 Z Z) Z (A2 (Q6 _ 6 hunkC) Z (A2 (A5 Z Z) Z (A6 ?_))))
  refine k1 (k10 (k11 ?_))
  exact B6 (U5 rfl rfl rfl rfl rfl) (by rw [hg0])
 have h := A1 ht
 rw [if_neg h] at hg0
 obtain ⟨hm, hn, hs⟩ := check8_ok (Decidable.not_not.1 h)
 have hb : ∀ k, k < l.length → G7 (cAt l k).Old ∧ G7 (cAt l k).OldLen ∧ G7 (cAt l k).New ∧ G7 (cAt l k).NewLen := fun k hk => by
  obtain ⟨b1, b2, b3, b4, _⟩ := hs.get k hk
  exact ⟨b1, b2, b3, b4⟩
 refine T5 [(0, D3 Change 4 changeC l), (1, C2 m), (2, C2 n), (3, C2 ctx)] [] (Sees.of ⟨le1 rfl, le1 rfl, le1 rfl, le1 rfl, trivial⟩ trivial) ?_
 refine k5 (k1 (k2 ?_))
 refine A4 (C9 (W9 11 _ hunkC Z) Z (A6 ?_))
 refine k1 (k2 ?_)
 refine A4 (A2 (A5 Z Z) Z (A6 ?_))
 refine k1 (k2 (k2 ?_))
 refine A4 (A2 (A3 Z Z) Z (A2 (E1 Z (.pure _ _ _ _)) Z (A2 (A3 Z Z) Z (A6 ?_))))
 refine k1 (k3 ?_)
 refine E2 (X := Nat × Nat × List Hunk) (fun x => ([(0, D3 Change 4 changeC l), (1, C2 m), (3, C2 ctx), (11, .s (.one (.buf 11 Hunk 6 hunkC x.2.2))), (12, C2 x.2.1), (28, D3 Change 4 changeC l), (29, C2 l.length), (30, C2 x.1)], [(11, .spare x.2.2.length 6 125)])) (fun x => x.1 ≤ l.length ∧ x.2.1 ≤ x.1 ∧ GrX l m ctx 0 x.2.2 x.2.1 ∧ (∀ c, x.2.1 < c → c ≤ x.1 → c < l.length → ¬ opens l ctx c) ∧ (x.2.1 < l.length → opens l ctx x.2.1) ∧ (x.1 = l.length → x.2.1 = l.length)) (fun x => l.length - x.1) (0, 0, []) ⟨Nat.zero_le _, Nat.le_refl _, rfl, fun c h1 h2 => by omega, fun _ => .inl rfl, fun h => h⟩ (Sees.of ⟨le1 rfl, le1 rfl, le1 rfl, le1 rfl, le1 rfl, le1 rfl, le1 rfl, le1 rfl, trivial⟩ ⟨rfl, trivial⟩) ?_
 rintro ⟨i, f, out⟩ ⟨hi, hfi, hx, hno, hof, hend⟩
 dsimp only at hi hfi hx hno hof hend ⊢
 have hxl := hx.len
 refine k2 ?_
 refine A4 (A2 (E3 Z Z) Z (A6 ?_))
 refine k1 (k2 ?_)
 refine B2 rfl (fun ht => ?_) (fun ht => ?_)
 ·have hlt : i < l.length := by have := A0 ht; omega
  have hv : l[((i : Nat) : Int).toNat]? = some (cAt l i) := by rw [Int.toNat_natCast]; exact i6 hlt
  obtain ⟨⟨b1, b2⟩, ⟨b3, b4⟩, _⟩ := hb i hlt
  obtain ⟨c, hcc⟩ : ∃ c, c = cAt l i := ⟨_, rfl⟩
  have hopi : i + 1 < l.length → (opens l ctx (i + 1) ↔ 2 * ctx < (cAt l (i + 1)).Old - c.Old - c.OldLen) := fun h1 => by
   unfold opens
   rw [show i + 1 - 1 = i by omega, ← hcc]
   exact ⟨fun h => h.resolve_left (by omega), fun h => .inr h⟩
  rw [← hcc] at hv b1 b2 b3 b4
  have hnx : ∀ q : Int, q = (i : Int) + 1 → ¬ q = (l.length : Int) → l[q.toNat]? = some (cAt l (i + 1)) := by
   intro q hq hne
   rw [hq, show ((i : Int) + 1).toNat = i + 1 by omega]; exact i6 (by omega)
  have hbx : ¬ ((i : Int) + 1 = (l.length : Int)) → 0 ≤ (cAt l (i + 1)).Old ∧ (cAt l (i + 1)).Old ≤ 4096 := by
   intro hne; exact (hb (i + 1) (by omega)).1
  refine k5 (k1 (k2 (k3 (k2 ?_))))
  refine A4 (A2 (A3 Z Z) Z (A2 (B5 Z (.pure _ _ _ _) Z (by omega) hv) Z (A2 (E5 Z Z) Z (C9 (G3 14 Z) Z (A2 (A5 Z Z) Z (E9 (B7 TySz.out Z Z Z Z Z Z) (A6 ?_)))))))
  refine k1 (k2 ?_)
  refine C7 (by kernel_rfl) (by kernel_rfl) (A8 (A3 Z Z) Z Z (A8 (C0 Z Z (by omega)) Z Z (A8 (A3 Z Z) Z Z (A8 (E1 Z (.pure _ _ _ _)) Z Z (A8 (I8 Z Z) Z Z (A8 (A3 Z Z) Z Z (B8 Z Z (fun hg => by rw [hg]; exact A3 Z Z) Z Z ?_))))))); refine B8 Z Z (fun hg => by rw [hg]; exact A3 Z Z) Z Z ?_; refine B8 Z Z (fun hg => by have hq := hg; (try simp at hq); skip; rw [hg]; exact C0 Z Z (by omega)) Z Z ?_; refine B8 Z Z (fun hg => by have hq := hg; (try simp at hq); rw [hg]; exact B5 Z (.pure _ _ _ _) Z (by omega) (hnx _ Z (by simpa using hq))) Z Z ?_; refine B8 Z Z (fun hg => by rw [hg]; exact D7 Z) Z Z ?_; refine B8 Z Z (fun hg => by rw [hg]; exact B9 Z Z) Z Z ?_; refine B8 Z Z (fun hg => by rw [hg]; exact A7 Z) Z Z ?_; refine B8 Z Z (fun hg => by rw [hg]; exact A9 Z Z Z) Z Z ?_; refine B8 Z Z (fun hg => by have hq := hg; (try simp at hq); rw [hg]; exact I1 Z Z (by (have := hbx (by simpa using hq); omega))) Z Z ?_; refine B8 Z Z (fun hg => by rw [hg]; exact A7 Z) Z Z ?_; refine B8 Z Z (fun hg => by rw [hg]; exact A9 Z Z Z) Z Z ?_; refine B8 Z Z (fun hg => by have hq := hg; (try simp at hq); rw [hg]; exact I1 Z Z (by (have := hbx (by simpa using hq); omega))) Z Z ?_; refine B8 Z Z (fun hg => by rw [hg]; exact A3 Z Z) Z Z ?_; refine B8 Z Z (fun hg => by have hq := hg; (try simp at hq); rw [hg]; exact n_mul Z Z (by omega)) Z Z ?_; refine B8 Z Z (fun hg => by rw [hg]; exact N4 Z Z) Z Z ?_; refine A8 (B1 Z (fun h => by first | rfl | (rw [h]; rfl)) (fun h => by first | rfl | (rw [h]; rfl))) Z Z ?_; refine H2 ?_
  refine k1 ?_
  refine B2 rfl (fun ht => ?_) (fun ht => ?_)
  ·simp only [or_pick] at ht
   have hcl := A0 ht
   have hnext : i + 1 < l.length → opens l ctx (i + 1) := fun h1 => by
    rw [hopi h1]
    exact hcl.resolve_left (by omega)
   refine T5 [(0, D3 Change 4 changeC l), (1, C2 m), (3, C2 ctx), (11, .s (.one (.buf 11 Hunk 6 hunkC out))), (12, C2 f), (13, C2 i), (28, D3 Change 4 changeC l), (29, C2 l.length), (30, C2 i)] [(11, .spare out.length 6 125)] (Sees.of ⟨le1 rfl, le1 rfl, le1 rfl, le1 rfl, le1 rfl, le1 rfl, le1 rfl, le1 rfl, le1 rfl, trivial⟩ ⟨rfl, trivial⟩) ?_
   refine k2 ?_
   refine A4 (A2 (A3 Z Z) Z (A2 (A3 Z Z) Z (A2 (A3 Z Z) Z (A2 (A3 Z Z) Z (A2 (C0 Z Z (by omega)) Z (A2 (A3 Z Z) Z (A2 (A3 Z Z) Z (C3 (hclosed_ok l f (i + 1) m ctx hl (by omega) (by omega) (by omega) hm hb) Z Z Z ?_)))))))); rintro _ rfl; refine A2 (E0 (c := hunkC) (ys := [mkH l m ctx f (i + 1)]) (E6 Z Z Z Z I6) Z Z Z) Z (C9 (J4 Z Z Z (.pure _ _ _ _) (by (simp only [List.length_cons, List.length_nil]; omega)) Z) Z (A2 (A5 Z Z) Z (A6 ?_)))
   refine k1 ?_
   refine A4 (A2 (A3 Z Z) Z (A2 (C0 Z Z (by omega)) Z (A2 (A5 Z Z) Z (A6 ?_))))
   refine k4 (k1 ?_)
   refine A4 (A2 (C0 Z Z (by omega)) Z (A2 (A3 Z Z) Z (A6 ?_)))
   refine k1 ?_
   refine ⟨(i + 1, i + 1, out ++ [mkH l m ctx f (i + 1)]), ⟨by dsimp only; omega, Nat.le_refl _, ?_, fun c h1 h2 => by dsimp only at h1 h2; omega, fun h1 => hnext h1, fun h1 => h1⟩, by dsimp only; omega, Sees.of ⟨le1 rfl, le1 rfl, le1 rfl, le1 rfl, le1 rfl, le1 rfl, le1 rfl, le1 rfl, trivial⟩ ⟨rfl, trivial⟩⟩
   exact hx.snoc (hof (by omega)) (by omega) (fun c h1 h2 => hno c h1 (by omega) (by omega))
  ·simp only [or_pick] at ht
   have hcl := A1 ht
   have hne : ¬ (i : Int) + 1 = l.length := fun q => hcl (.inl q)
   have hnext : ¬ opens l ctx (i + 1) := fun q => by
    rw [hopi (by omega)] at q
    exact hcl (.inr q)
   refine k5 (k4 (k1 ?_))
   refine A4 (A2 (C0 Z Z (by omega)) Z (A2 (A3 Z Z) Z (A6 ?_)))
   refine k1 ?_
   refine ⟨(i + 1, f, out), ⟨by dsimp only; omega, by dsimp only; omega, hx, fun c h1 h2 h3 => ?_, hof, fun h1 => by dsimp only at h1; omega⟩, by dsimp only; omega, Sees.of ⟨le1 rfl, le1 rfl, le1 rfl, le1 rfl, le1 rfl, le1 rfl, le1 rfl, le1 rfl, trivial⟩ ⟨rfl, trivial⟩⟩
   dsimp only at h1 h2
   by_cases hce : c = i + 1
   ·rw [hce]; exact hnext
   ·exact hno c h1 (by omega) h3
 ·have hi' : i = l.length := by have := A1 ht; omega
  have hf' := hend hi'
  rw [hf'] at hx
  refine k6 (k2 ?_)
  refine A4 (A2 (A3 Z Z) Z (A2 (A5 Z Z) Z (A2 (A5 Z Z) Z (A6 ?_))))
  refine k1 (k10 ?_)
  exact B6 (U5 rfl rfl rfl rfl rfl) (by rw [hg0, GrX.unique hx (groupTo_grx l m ctx l.length)])
theorem ulines_met {gf : Fr} {ob : Obs} (l : List PatchLine) (k : UInt8) (ts : List Str) (hk : D4 ob 701 = some (.spare l.length 2 36)) (hlen : l.length + ts.length ≤ 1073741824) :
  AL.Met Tryz.prog 140 [.one (.buf 701 PatchLine 2 plineC l), .one (.p (.v (.int .u8 k.toNat))), .one (.p (.list Str 1 I2 ts))] gf ob [701]
   (fun rs ob' => rs = [.one (.buf 701 PatchLine 2 plineC (l ++ N0 k ts))] ∧ ob' = (701, .spare (l ++ N0 k ts).length 2 36) :: Obs.forget 701 ob) := by
 refine AL.Met.introH Tryz.func140 (by decide) rfl rfl rfl (fun hH => ?_)
 refine k2 ?_
 refine A4 (A2 (A5 Z Z) Z (A6 ?_))
 refine k1 (k2 (k2 ?_))
 refine A4 (A2 (A3 Z Z) Z (A2 (E1 Z (.pure _ _ _ _)) Z (A2 (A3 Z Z) Z (A6 ?_))))
 refine k1 (k3 ?_)
 refine E2 (X := Nat) (fun i => ([(0, .s (.one (.buf 701 PatchLine 2 plineC (l ++ N0 k (ts.take i))))), (1, .s (pByte k).s1), (9, D3 Str 1 I2 ts), (10, C2 ts.length), (11, C2 i)] ++ Fr.forget 701 gf, (701, .spare (l ++ N0 k (ts.take i)).length 2 36) :: Obs.forget 701 ob)) (fun i => i ≤ ts.length) (fun i => ts.length - i) 0 (Nat.zero_le _) ?_ ?_
 ·have e : l ++ N0 k (ts.take 0) = l := by simp [N0]
  rw [e]
  exact Sees.tailF 701 ⟨le1 rfl, le1 rfl, le1 rfl, le1 rfl, le1 rfl, trivial⟩ hH (by repeat (first | exact C6 | refine C5 rfl ?_)) hk
 intro i hi
 dsimp only at hi ⊢
 have hpl := l6 k (ts.take i)
 rw [List.length_take] at hpl
 refine k2 ?_
 refine A4 (A2 (E3 Z Z) Z (A6 ?_))
 refine k1 (k2 ?_)
 refine B2 rfl (fun ht => ?_) (fun ht => ?_)
 ·have hlt : i < ts.length := by have := A0 ht; omega
  have hv : ts[i]? = some ts[i] := by simp [hlt]
  have hsucc := putOf_succ k ts i hlt
  refine k5 (k1 (k2 (k3 (k2 ?_))))
  refine A4 (A2 (B5 Z (.pure _ _ _ _) Z (by omega) hv) Z (A2 (B9 Z Z) Z (A2 (A5 Z Z) Z (A6 ?_))))
  refine k1 ?_
  refine A4 (A2 (A3 Z Z) Z (A2 (A3 Z Z) Z (A2 (A3 Z Z) Z (A2 (F6 Z) Z (A2 (E0 (c := plineC) (ys := [⟨k, ts[i]⟩]) (E6 Z Z Z Z I6) Z Z Z) Z (C9 (J4 Z Z Z (.pure _ _ _ _) (by (simp only [List.length_append, List.length_cons, List.length_nil]; omega)) Z) Z (A2 (A5 Z Z) Z (A6 ?_))))))))
  refine k4 (k1 ?_)
  refine A4 (A2 (C0 Z Z (by omega)) Z (A2 (A3 Z Z) Z (A6 ?_)))
  refine k1 ?_
  refine ⟨i + 1, hlt, by omega, ?_⟩
  rw [hsucc, ← List.append_assoc]
  exact Sees.tailed ⟨le1 rfl, le1 rfl, le1 rfl, le1 rfl, le1 rfl, trivial⟩ (L8 hH) (by repeat (first | exact C6 | refine C5 rfl ?_ | refine J0 _ ?_)) obs_step
 ·have hi' : i = ts.length := by have := A1 ht; omega
  subst hi'
  rw [List.take_length]
  refine k6 (k2 ?_)
  refine A4 (A2 (A3 Z Z) Z (A2 (A5 Z Z) Z (A6 ?_)))
  refine k1 (k10 ?_)
  exact G1 (R4 rfl rfl) (by repeat (first | exact C6 | refine C5 rfl ?_ | refine D2 _ ?_)) (fun _ _ h => h) ⟨rfl, rfl⟩
theorem ubuild_ok (l : List Change) (x y : List Str) (q : Hunk) (hsc : ScOk 0 0 l x.length y.length) (hq : HunkOk l x.length l.length q) (hxl : x.length ≤ 4096) (hyl : y.length ≤ 4096) (hll : l.length ≤ 4097) :
  FnOk Tryz.prog 72 [pHunk q, pChanges l, R3 x, R3 y] (fun rs => rs = [pPhunk (H5 l x y q)]) := by
 obtain ⟨a, b, q1, q2, q3, q4, q5, q6, q7, q8, q9, q10⟩ := hq
 have hgb := hsc.get b q4
 obtain ⟨ds, hds⟩ : ∃ ds, ds = (l.drop a).take (b + 1 - a) := ⟨_, rfl⟩
 have hdl : ds.length = b + 1 - a := by rw [hds, List.length_take, List.length_drop]; omega
 have hdv : ∀ t, a + t ≤ b → ds[t]? = some (cAt l (a + t)) := by
  intro t ht
  rw [hds, List.getElem?_take_of_lt (by omega), List.getElem?_drop]
  exact i6 (by omega)
 have hslice : (l.drop q.First.toNat).take (q.Last.toNat - q.First.toNat) = ds := by
  rw [hds, q1, q2, show ((b : Int) + 1).toNat = b + 1 by omega, show ((a : Nat) : Int).toNat = a by omega]
 refine FnOk.intro Tryz.func72 (by decide) Z Z Z Z ?_
 refine k2 ?_
 refine A4 (C9 (c8 4 Z Z Z) Z (C9 (G3 8 Z) Z (A6 ?_)))
 refine k1 (k2 ?_)
 refine A4 (A2 (A7 Z) Z (A2 (A7 Z) Z (A2 (A9 Z Z Z) Z (A2 (A7 Z) Z (A2 (A7 Z) Z (A2 (A9 Z Z Z) Z (A2 (F6 Z) Z (C9 (G3 9 Z) Z (E9 (B7 TySz.out Z Z Z Z Z Z) (A6 ?_))))))))))
 refine k1 (k2 ?_)
 refine F8 (Sees.adoptB 701 PatchLine 2 plineC 36 (kb := 9) (o := 2) Z Z Z) ?_
 refine A4 (A2 (A7 Z) Z (A2 (A7 Z) Z (A2 (A9 Z Z Z) Z (A2 (A5 Z Z) Z (A6 ?_)))))
 refine k1 (k2 (k2 ?_))
 refine A4 (A2 (A3 Z Z) Z (A2 (A7 Z) Z (A2 (A9 Z Z Z) Z (A2 (A7 Z) Z (A2 (A9 Z Z Z) Z (A2 (R8 Z (.pure _ _ _ _) Z Z (by (first | (rw [q1]; omega) | (rw [q1, q2]; omega) | (rw [q2]; omega))) (by (first | (rw [q1]; omega) | (rw [q1, q2]; omega) | (rw [q2]; omega))) (by (first | (rw [q1]; omega) | (rw [q1, q2]; omega) | (rw [q2]; omega)))) Z ?_)))))); refine A2 (E1 Z (.pure _ _ _ _)) Z (A2 (A3 Z Z) Z (A6 ?_))
 rw [hslice]
 refine k1 (k3 ?_)
 refine E2 (X := Nat) (fun t => ([(2, D3 Str 1 I2 x), (3, D3 Str 1 I2 y), (4, .s (.one (.ref 4 0))), (8, .s (.one (.ref 8 0))), (9, .s (.one (.ref 9 0))), (10, C2 (S6 l q.Old.From a t)), (28, D3 Change 4 changeC ds), (29, C2 ds.length), (30, C2 t)], [(4, .box (pHunk q).s1.cells), (8, .box [.p (.v (.int .i64 0)), .p (.v (.int .i64 0)), .p (.v (.slice none 0 0))]), (9, .box [.p (.v (.int .i64 q.Old.From)), .p (.v (.int .i64 q.New.From)), .buf 701 PatchLine 2 plineC (N3 l x y q.Old.From a t)]), (701, .spare (N3 l x y q.Old.From a t).length 2 36)])) (fun t => a + t ≤ b + 1) (fun t => b + 1 - t) 0 (by omega) ?_ ?_
 ·have e1 : S6 l q.Old.From a 0 = q.Old.From := if_pos rfl
  rw [e1]
  exact Sees.of ⟨le1 rfl, le1 rfl, le1 rfl, le1 rfl, le1 rfl, le1 rfl, le1 rfl, le1 rfl, le1 rfl, trivial⟩ ⟨rfl, rfl, rfl, rfl, trivial⟩
 intro t hat
 dsimp only at hat ⊢
 have hml := madeTo_len l x y q.Old.From a t
 have hml2 : (N3 l x y q.Old.From a t).length ≤ 4097 * 12288 := Nat.le_trans hml (Nat.mul_le_mul (by omega) (by omega))
 refine k2 ?_
 refine A4 (A2 (E3 Z Z) Z (A6 ?_))
 refine k1 (k2 ?_)
 refine B2 rfl (fun ht => ?_) (fun ht => ?_)
 ·have hlt2 : a + t ≤ b := by have : ((t : Nat) : Int) < ds.length := A0 ht; omega
  obtain ⟨c, hc⟩ : ∃ c, c = cAt l (a + t) := ⟨_, rfl⟩
  have hcv := hdv t hlt2
  rw [← hc] at hcv
  have hgc := hsc.get (a + t) (by omega)
  rw [← hc] at hgc
  obtain ⟨⟨g1, g2⟩, ⟨g3, g4⟩, ⟨g5, g6⟩, ⟨g7, g8⟩, g9, g10⟩ := hgc
  obtain ⟨i0, hi0⟩ : ∃ i0, i0 = S6 l q.Old.From a t := ⟨_, rfl⟩
  have hpos : 0 ≤ i0 ∧ i0 ≤ c.Old := by
   rw [hi0, hc]; unfold S6 V8
   split
   ·rename_i h0; subst h0; exact ⟨q5, q6⟩
   ·have h4 := hsc.next (a + t - 1) (by omega)
    have h5 := hsc.get (a + t - 1) (by omega)
    rw [show a + t - 1 + 1 = a + t by omega] at h4
    unfold G7 at h5; omega
  obtain ⟨ls, hls⟩ : ∃ ls, ls = N3 l x y q.Old.From a t := ⟨_, rfl⟩
  obtain ⟨p1, hp1⟩ : ∃ p1, p1 = N0 32 (sub x i0 c.Old) := ⟨_, rfl⟩
  obtain ⟨p2, hp2⟩ : ∃ p2, p2 = N0 45 (sub x c.Old (V8 c)) := ⟨_, rfl⟩
  obtain ⟨p3, hp3⟩ : ∃ p3, p3 = N0 43 (sub y c.New (c.New + c.NewLen)) := ⟨_, rfl⟩
  have hsucc : N3 l x y q.Old.From a (t + 1) = ls ++ p1 ++ p2 ++ p3 := by rw [hls, hp1, hp2, hp3, hi0, hc]; rfl
  have hps : S6 l q.Old.From a (t + 1) = V8 c := by rw [posTo_succ, hc]
  have l1 := Z4 x i0 c.Old
  have l2 := Z4 x c.Old (V8 c)
  have l3 := Z4 y c.New (c.New + c.NewLen)
  have m1 : p1.length = (sub x i0 c.Old).length := by rw [hp1, l6]
  have m2 : p2.length = (sub x c.Old (V8 c)).length := by rw [hp2, l6]
  have hend : V8 c = c.Old + c.OldLen := rfl
  rw [← hls] at hml2 ⊢
  rw [← hi0]
  refine k5 (k1 (k2 (k3 (k2 ?_))))
  refine A4 (A2 (B5 Z (.pure _ _ _ _) Z (by omega) hcv) Z (A2 (E5 Z Z) Z (C9 (G3 12 Z) Z (E9 (B7 TySz.out Z Z Z Z Z Z) (A6 ?_)))))
  refine k1 (k2 ?_)
  refine N5 7 (by kernel_rfl) (by kernel_rfl) Z (A8 (A7 Z) Z Z (A8 (A9 Z Z Z) Z Z (A8 (A3 Z Z) Z Z (A8 (A3 Z Z) Z Z (A8 (A7 Z) Z Z (A8 (A9 Z Z Z) Z Z (A8 (R8 Z (.pure _ _ _ _) Z Z (by omega) (by omega) (by omega)) Z Z (H2 (m9 (ulines_met ls 32 (sub x i0 c.Old) Z (by omega)) Z Z Z ?_))))))))); rintro _ _ ⟨rfl, rfl⟩; refine ⟨_, rfl, ?_⟩; refine A8 (A7 Z) Z Z (y7 (B7 TySz.out Z Z Z Z Z Z) Z (H2 ?_))
  rw [← hp1]
  refine k1 (k2 ?_)
  refine A4 (A2 (A7 Z) Z (A2 (A9 Z Z Z) Z (A2 (A7 Z) Z (A2 (A9 Z Z Z) Z (A2 (C0 Z Z (by omega)) Z (A2 (A5 Z Z) Z (A6 ?_)))))))
  rw [show c.Old + c.OldLen = V8 c from rfl]
  refine k1 (k2 ?_)
  refine N5 7 (by kernel_rfl) (by kernel_rfl) Z (A8 (A7 Z) Z Z (A8 (A9 Z Z Z) Z Z (A8 (A3 Z Z) Z Z (A8 (A7 Z) Z Z (A8 (A9 Z Z Z) Z Z (A8 (A3 Z Z) Z Z (A8 (R8 Z (.pure _ _ _ _) Z Z (by omega) (by omega) (by omega)) Z Z (H2 (m9 (ulines_met (ls ++ p1) 45 (sub x c.Old (V8 c)) Z (by simp only [List.length_append]; omega)) Z Z Z ?_))))))))); rintro _ _ ⟨rfl, rfl⟩; refine ⟨_, rfl, ?_⟩; refine A8 (A7 Z) Z Z (y7 (B7 TySz.out Z Z Z Z Z Z) Z (H2 ?_))
  rw [← hp2]
  refine k1 ?_
  refine N5 11 (by kernel_rfl) (by kernel_rfl) Z (A8 (A7 Z) Z Z (A8 (A9 Z Z Z) Z Z (A8 (A3 Z Z) Z Z (A8 (A7 Z) Z Z (A8 (A9 Z Z Z) Z Z (A8 (A7 Z) Z Z (A8 (A9 Z Z Z) Z Z (A8 (A7 Z) Z Z (A8 (A9 Z Z Z) Z Z (A8 (C0 Z Z (by omega)) Z Z (A8 (R8 Z (.pure _ _ _ _) Z Z (by omega) (by omega) (by omega)) Z Z (H2 (m9 (ulines_met (ls ++ p1 ++ p2) 43 (sub y c.New (c.New + c.NewLen)) Z (by simp only [List.length_append]; omega)) Z Z Z ?_))))))))))))); rintro _ _ ⟨rfl, rfl⟩; refine ⟨_, rfl, ?_⟩; refine A8 (A7 Z) Z Z (y7 (B7 TySz.out Z Z Z Z Z Z) Z (H2 ?_))
  rw [← hp3]
  refine k4 (k1 ?_)
  refine A4 (A2 (C0 Z Z (by omega)) Z (A2 (A3 Z Z) Z (A6 ?_)))
  refine k1 ?_
  refine ⟨t + 1, by omega, by omega, ?_⟩
  rw [hsucc, hps]
  exact Sees.of ⟨le1 rfl, le1 rfl, le1 rfl, le1 rfl, le1 rfl, le1 rfl, le1 rfl, le1 rfl, le1 rfl, trivial⟩ ⟨rfl, rfl, rfl, rfl, trivial⟩
 ·have htb : a + t = b + 1 := by
   have h0 : ¬ ((t : Nat) : Int) < ds.length := A1 ht
   omega
  obtain ⟨i0, hi0⟩ : ∃ i0, i0 = S6 l q.Old.From a t := ⟨_, rfl⟩
  have hib : i0 = (cAt l b).Old + (cAt l b).OldLen := by
   rw [hi0]; unfold S6 V8
   rw [if_neg (by omega), show a + t - 1 = b by omega]
  unfold G7 at hgb
  obtain ⟨ls, hls⟩ : ∃ ls, ls = N3 l x y q.Old.From a t := ⟨_, rfl⟩
  have hG : H5 l x y q = ⟨q.Old.From, q.New.From, ls ++ N0 32 (sub x i0 q.Old.To)⟩ := by
   rw [H5, q1, q2, show ((a : Nat) : Int).toNat = a by omega, show ((b : Int) + 1).toNat - a = t by omega, ← hls, ← hi0]
  have l1 := Z4 x i0 q.Old.To
  rw [← hls] at hml2 ⊢
  rw [← hi0]
  refine k6 (k2 ?_)
  refine N5 8 (by kernel_rfl) (by kernel_rfl) Z (A8 (A7 Z) Z Z (A8 (A9 Z Z Z) Z Z (A8 (A3 Z Z) Z Z (A8 (A3 Z Z) Z Z (A8 (A7 Z) Z Z (A8 (A7 Z) Z Z (A8 (A9 Z Z Z) Z Z (A8 (R8 Z (.pure _ _ _ _) Z Z (by omega) (by omega) (by omega)) Z Z (H2 (m9 (ulines_met ls 32 (sub x i0 q.Old.To) Z (by omega)) Z Z Z ?_)))))))))); rintro _ _ ⟨rfl, rfl⟩; refine ⟨_, rfl, ?_⟩; refine A8 (A7 Z) Z Z (y7 (B7 TySz.out Z Z Z Z Z Z) Z (H2 ?_))
  refine k1 (k2 ?_)
  refine A4 (A2 (E4 Z Z Z) Z (E9 (B7 TySz.out Z Z Z Z Z Z) (A6 ?_)))
  refine k1 (k10 ?_)
  exact B6 (rs := [pPhunk (H5 l x y q)]) (by rw [hG]; exact retc rfl rfl rfl rfl rfl) rfl
set_option maxHeartbeats 1000000
theorem tid_old {gf : Fr} {ob : Obs} (names : List Str) (s : Str) (hs : s ∈ names) (h0 : D4 ob 710 = some (.box [.mut 711, .buf 712 Str 1 I2 names])) (h1 : D4 ob 711 = some (.map Str strK (y4 names 0))) :
  AL.Met Tryz.prog 198 [.one (.ref 710 0), .one (.p (.v (.string ⟨s.toArray⟩)))] gf ob [] (fun rs ob' => rs = [.one (.p (.v (.int .i64 (I7 names s 0))))] ∧ ob' = ob) := by
 have hg := kv_get_in s names 0 hs
 refine AL.Met.intro Tryz.func198 (by decide) Z Z Z ?_
 refine k2 ?_
 refine A4 (A2 (A5 Z Z) Z (A6 ?_))
 refine k1 (k2 ?_)
 refine A4 (A2 (A3 Z Z) Z (A2 (B4 Z) Z (A2 (A7 Z) Z (A2 (A9 Z h0 Z) Z (A2 (A3 Z Z) Z (A2 (n_lookup (s) (r := some (.v (.int .i64 (I7 names s 0)))) Z h1 Z strK_key strK_inj (hg)) Z (A2 (A3 Z Z) Z (A2 (B3 Z Z) Z (A2 (B3 Z Z) Z (A2 (A5 Z Z) Z (A2 (A5 Z Z) Z (A6 ?_))))))))))))
 refine k1 (k2 (k2 ?_))
 refine A4 (A2 (A3 Z Z) Z (A2 (F4 Z) Z (A6 ?_)))
 refine k1 ?_
 refine B2 rfl (fun ht => ?_) (fun ht => ?_)
 ·cases ht
 refine k5 (k1 (k2 ?_))
 refine A4 (A2 (A3 Z Z) Z (A2 (A5 Z Z) Z (A6 ?_)))
 refine k1 (k10 ?_)
 exact G1 (R4 rfl rfl) (by repeat (first | exact C6 | refine C5 rfl ?_ | refine D2 _ ?_)) (fun _ _ h => h) ⟨rfl, rfl⟩
theorem tid_new {gf : Fr} {ob : Obs} (names : List Str) (s : Str) (hs : s ∉ names) (hl : names.length ≤ 1073741823) (h0 : D4 ob 710 = some (.box [.mut 711, .buf 712 Str 1 I2 names])) (h1 : D4 ob 711 = some (.map Str strK (y4 names 0)))
  (h2 : D4 ob 712 = some (.spare names.length 1 9)) :
  AL.Met Tryz.prog 198 [.one (.ref 710 0), .one (.p (.v (.string ⟨s.toArray⟩)))] gf ob [712] (fun rs ob' => rs = [.one (.p (.v (.int .i64 names.length)))] ∧ ob' = (710, .box [.mut 711, .buf 712 Str 1 I2 (names ++ [s])]) :: (712, .spare (names ++ [s]).length 1 9) :: Obs.forget 712 ((711, .map Str strK (y4 names 0 ++ [(s, .v (.int .i64 names.length))])) :: ob)) := by
 have hg := kv_get_out s names 0 hs
 refine AL.Met.intro Tryz.func198 (by decide) Z Z Z ?_
 refine k2 ?_
 refine A4 (A2 (A5 Z Z) Z (A6 ?_))
 refine k1 (k2 ?_)
 refine A4 (A2 (A3 Z Z) Z (A2 (B4 Z) Z (A2 (A7 Z) Z (A2 (A9 Z h0 Z) Z (A2 (A3 Z Z) Z (A2 (n_lookup (s) (r := none) Z h1 Z strK_key strK_inj (hg)) Z (A2 (A3 Z Z) Z (A2 (B3 Z Z) Z (A2 (B3 Z Z) Z (A2 (A5 Z Z) Z (A2 (A5 Z Z) Z (A6 ?_))))))))))))
 refine k1 (k2 (k2 ?_))
 refine A4 (A2 (A3 Z Z) Z (A2 (F4 Z) Z (A6 ?_)))
 refine k1 ?_
 refine B2 rfl (fun ht => ?_) (fun ht => ?_)
 ·refine k2 ?_
  refine A4 (A2 (A3 Z Z) Z (A2 (B4 Z) Z (A2 (A7 Z) Z (A2 (A9 Z h0 Z) Z (A2 (E1 Z (.buf _ _ _ _ _)) Z (A2 (A5 Z Z) Z (A6 ?_)))))))
  refine k1 (k2 ?_)
  refine A4 (A2 (A3 Z Z) Z (A2 (B4 Z) Z (A2 (A7 Z) Z (A2 (A9 Z h0 Z) Z (A2 (A3 Z Z) Z (A2 (A3 Z Z) Z (E9 (e_mapNew (s) Z h1 Z Z Z strK_key strK_inj (hg)) (A6 ?_))))))))
  refine k1 ?_
  have h0' : D4 ((711, Ob.map Str strK (y4 names 0 ++ [(s, .v (.int .i64 names.length))])) :: ob) 710 = some (.box [.mut 711, .buf 712 Str 1 I2 names]) := by rw [C1 (by decide)]; exact h0
  have h2' : D4 ((711, Ob.map Str strK (y4 names 0 ++ [(s, .v (.int .i64 names.length))])) :: ob) 712 = some (.spare names.length 1 9) := by rw [C1 (by decide)]; exact h2
  have h0'' : D4 ((712, Ob.spare (names ++ [s]).length 1 9) :: Obs.forget 712 ((711, Ob.map Str strK (y4 names 0 ++ [(s, .v (.int .i64 names.length))])) :: ob)) 710 = some (.box [.mut 711, .p (.list Str 1 I2 names)]) := by
   rw [C1 (by decide), O1, h0']; rfl
  refine A4 (A2 (A3 Z Z) Z (A2 (A3 Z Z) Z (A2 (B4 Z) Z (A2 (A7 Z) Z (A2 (A9 Z h0' Z) Z (A2 (A3 Z Z) Z (A2 (E0 (c := I2) (ys := [s]) (E6 Z Z Z Z I6) Z Z Z) Z (C9 (J4 Z h2' Z (.pure _ _ _ _) (by (simp only [List.length_cons, List.length_nil]; omega)) Z) Z (A2 (B4 Z) Z (A2 (A7 Z) Z (E9 (B7 TySz.out Z h0'' Z Z Z Z) (A6 ?_))))))))))))
  refine k1 (k2 ?_)
  refine A4 (A2 (A3 Z Z) Z (A2 (A5 Z Z) Z (A6 ?_)))
  refine k1 (k10 ?_)
  exact G1 (R4 rfl rfl) (by repeat (first | exact C6 | refine C5 rfl ?_ | refine D2 _ ?_)) (fun _ _ h => h) ⟨rfl, rfl⟩
 ·cases ht
theorem rowsN_free (files : List (List Str)) (i m : Nat) : (O3 files i).all (TC.free m) = true := by
 rw [List.all_eq_true]
 intro t ht
 unfold O3 at ht
 obtain ⟨r, _, rfl⟩ := List.mem_map.1 ht
 split <;> rfl
theorem rows_back {files : List (List Str)} {i : Nat} (b x : TC) (m : Nat) : (((O3 files i).set i b).map (TC.forget m)).set i x = (O3 files i).set i x := by
 have e1 : (O3 files i).map (TC.forget m) = O3 files i := by
  unfold O3
  rw [List.map_map]
  apply List.map_congr_left
  intro r _
  simp only [Function.comp]
  split <;> rfl
 rw [List.map_set, e1, List.set_set]
theorem rows_back2 {files : List (List Str)} {i : Nat} (b x : TC) (m m' : Nat) : ((((O3 files i).set i b).map (TC.forget m)).map (TC.forget m')).set i x = (O3 files i).set i x := by
 have e1 : ∀ m, (O3 files i).map (TC.forget m) = O3 files i := by
  intro m
  unfold O3
  rw [List.map_map]
  apply List.map_congr_left
  intro r _
  simp only [Function.comp]
  split <;> rfl
 rw [List.map_set, e1, List.map_set, e1, List.set_set]
theorem number_ok (files : List (List Str)) (hn : files.length ≤ 1048576) (hl : files.flatten.length ≤ 536870911) : FnOk Tryz.prog 131 [pStrss files] (fun rs => rs = [pIntss (files.map (F2 (D1 files))), R3 (D1 files)]) := by
 refine FnOk.intro Tryz.func131 (by decide) Z Z Z Z ?_
 refine k2 ?_
 refine A4 (A2 (A5 Z Z) Z (A2 (A5 Z Z) Z (A6 ?_)))
 refine k1 (k2 ?_)
 refine A4 (C9 (f_makeMap 711 Str strK Z) Z (A2 (F6 Z) Z (C9 (c8 710 Z Z Z) Z (A2 (A5 Z Z) Z (A6 ?_)))))
 refine k1 (k2 ?_)
 refine F8 (Sees.adoptB 712 Str 1 I2 9 (kb := 710) (o := 1) Z Z Z) ?_
 refine A4 (A2 (A3 Z Z) Z (A2 (E1 Z (.pure _ _ _ _)) Z (C9 (f_makeZ 20 Unit (fun _ _ => .v (.slice none 0 0)) () Z Z (by omega) (by omega) (fun _ => by first | exact ⟨⟨rfl, rfl⟩, trivial⟩ | exact ⟨T4 _ _ _, trivial⟩) (by first | rfl | (simp [I3, M7, Ob.free, SV.free, S1.free, TC.free] <;> rfl))) Z ?_))); refine A2 (A5 Z Z) Z (A6 ?_)
 refine k1 (k2 (k2 ?_))
 refine F8 (Sees.toT1 20 Z) ?_
 have hz : ((List.replicate ((files.length : Nat) : Int).toNat ()).map fun x => TC.p ((fun (_ : Unit) (_ : Nat) => Cell.v (.slice none 0 0)) x 0)) = O3 files 0 := by
  rw [Int.toNat_natCast, ← rowsN_zero]; simp
 have hz2 : (List.replicate ((files.length : Nat) : Int).toNat ()).length = files.length := by simp
 rw [hz, hz2]
 refine A4 (A2 (A3 Z Z) Z (A2 (E1 Z (.pure _ _ _ _)) Z (A2 (A3 Z Z) Z (A6 ?_))))
 refine k1 (k3 ?_)
 refine E2 (X := Nat) (fun i => ([(4, .s (.one (.ref 710 0))), (5, .s (.one (.mut 20))), (16, D3 (List Str) 1 strsC files), (17, C2 files.length), (18, C2 i)], [(710, .box [.mut 711, .buf 712 Str 1 I2 (N2 files i 0)]), (711, .map Str strK (y4 (N2 files i 0) 0)), (712, .spare (N2 files i 0).length 1 9), (20, .tarr files.length 1 (O3 files i))])) (fun i => i ≤ files.length) (fun i => files.length - i) 0 (Nat.zero_le _) ?_ ?_
 ·rw [show N2 files 0 0 = [] from rfl]
  exact Sees.of ⟨le1 rfl, le1 rfl, le1 rfl, le1 rfl, le1 rfl, trivial⟩ ⟨rfl, rfl, rfl, rfl, trivial⟩
 intro i hi
 dsimp only at hi ⊢
 refine k2 ?_
 refine A4 (A2 (E3 Z Z) Z (A6 ?_))
 refine k1 (k2 ?_)
 refine B2 rfl (fun ht => ?_) (fun ht => ?_)
 ·have hlt : i < files.length := by have := A0 ht; omega
  obtain ⟨f, hf⟩ : ∃ f, f = files.getD i [] := ⟨_, rfl⟩
  have hv : files[i]? = some f := by rw [hf]; simp [hlt]
  have hfl : f.length ≤ files.flatten.length := by
   have h1 : f ∈ files := List.mem_of_getElem? hv
   have : ∀ (fs : List (List Str)), f ∈ fs → f.length ≤ fs.flatten.length := by
    intro fs
    induction fs with
    | nil => intro h; simp at h
    | cons x r ih =>
     intro h
     simp only [List.flatten_cons, List.length_append]
     rcases List.mem_cons.1 h with rfl | h
     ·omega
     ·have := ih h; omega
   exact this files h1
  have hrl : (O3 files i).length = files.length := by simp [O3]
  refine k5 (k1 (k2 (k3 (k2 ?_))))
  refine A4 (A2 (A3 Z Z) Z (A2 (B5 Z (.pure _ _ _ _) Z (by omega) hv) Z (A2 (B9 Z Z) Z (A2 (A5 Z Z) Z (A2 (A5 Z Z) Z (A6 ?_))))))
  refine k1 (k2 ?_)
  refine A4 (A2 (A3 Z Z) Z (A2 (E1 Z (.pure _ _ _ _)) Z (A2 (A3 Z Z) Z (A6 ?_))))
  refine k1 (k3 ?_)
  refine F8 (Sees.adoptE 713 Int 1 K5 3 (kb := 20) (o := i) Z (rowsN_get hlt) (by simp [I3, M7, Ob.free, SV.free, S1.free, TC.free, rowsN_free]; repeat' (first | rfl | constructor))) ?_
  refine E2 (X := Nat) (fun j => ([(4, .s (.one (.ref 710 0))), (5, .s (.one (.mut 20))), (6, C2 i), (16, D3 (List Str) 1 strsC files), (17, C2 files.length), (18, C2 i), (23, D3 Str 1 I2 f), (24, C2 f.length), (25, C2 j)], [(20, .tarr files.length 1 ((O3 files i).set i (.buf 713 Int 1 K5 (F2 (D1 files) (f.take j))))), (710, .box [.mut 711, .buf 712 Str 1 I2 (N2 files i j)]), (711, .map Str strK (y4 (N2 files i j) 0)), (712, .spare (N2 files i j).length 1 9), (713, .spare (F2 (D1 files) (f.take j)).length 1 3)])) (fun j => j ≤ f.length) (fun j => f.length - j) 0 (Nat.zero_le _) ?_ ?_
  ·exact Sees.of ⟨le1 rfl, le1 rfl, le1 rfl, le1 rfl, le1 rfl, le1 rfl, le1 rfl, le1 rfl, le1 rfl, trivial⟩ ⟨rfl, rfl, rfl, rfl, rfl, trivial⟩
  intro j hj
  dsimp only at hj ⊢
  refine k2 ?_
  refine A4 (A2 (E3 Z Z) Z (A6 ?_))
  refine k1 (k2 ?_)
  refine B2 rfl (fun ht => ?_) (fun ht => ?_)
  ·have hlt2 : j < f.length := by have := A0 ht; omega
   obtain ⟨s, hs⟩ : ∃ s, s = f[j] := ⟨_, rfl⟩
   have hvs : f[j]? = some s := by rw [hs]; simp [hlt2]
   have hstep := namesTo_step files i j s (by rw [← hf]; exact hvs)
   obtain ⟨names, hnm⟩ : ∃ names, names = N2 files i j := ⟨_, rfl⟩
   have hnl := namesTo_length files i j
   obtain ⟨rest, hrest⟩ := namesTo_sub files i (j + 1)
   obtain ⟨ids, hids⟩ : ∃ ids, ids = F2 (D1 files) (f.take j) := ⟨_, rfl⟩
   have hil : ids.length = j := by rw [hids]; simp [F2]; omega
   have hnext : F2 (D1 files) (f.take (j + 1)) = ids ++ [I7 (D1 files) s 0] := by
    rw [hids, List.take_succ_eq_append_getElem hlt2, ← hs]; unfold F2; rw [List.map_append]; rfl
   rw [hstep] at hrest
   rw [← hnm] at hstep hnl hrest ⊢
   rw [← hids]
   have hTi : ((O3 files i).set i (.buf 713 Int 1 K5 ids))[((i : Nat) : Int).toNat]? = some (.buf 713 Int 1 K5 ids) := by
    rw [Int.toNat_natCast, List.getElem?_set_self (by rw [hrl]; omega)]
   have hTi2 : (((O3 files i).set i (.buf 713 Int 1 K5 ids)).map (TC.forget 712))[((i : Nat) : Int).toNat]? = some (.buf 713 Int 1 K5 ids) := by
    rw [List.getElem?_map, hTi]; rfl
   refine k5 (k1 (k2 (k3 (k2 ?_))))
   refine A4 (A2 (B5 Z (.pure _ _ _ _) Z (by omega) hvs) Z (A2 (B9 Z Z) Z (A2 (A5 Z Z) Z (A6 ?_))))
   by_cases hmem : s ∈ names
   ·have hns : I4 names s = names := by unfold I4; rw [if_pos hmem]
    rw [hns] at hstep hrest
    have hpl : I7 (D1 files) s 0 = I7 names s 0 := by rw [hrest]; exact placeOf_app s rest names 0 hmem
    refine H9 ?_
    refine T5 ((9, O7 s) :: [(4, .s (.one (.ref 710 0))), (5, .s (.one (.mut 20))), (6, C2 i), (16, D3 (List Str) 1 strsC files), (17, C2 files.length), (18, C2 i), (23, D3 Str 1 I2 f), (24, C2 f.length), (25, C2 j)]) [(20, .tarr files.length 1 ((O3 files i).set i (.buf 713 Int 1 K5 ids))), (710, .box [.mut 711, .buf 712 Str 1 I2 names]), (711, .map Str strK (y4 names 0)), (712, .spare names.length 1 9), (713, .spare ids.length 1 3)] (Sees.of ⟨le1 rfl, le1 rfl, le1 rfl, le1 rfl, le1 rfl, le1 rfl, le1 rfl, le1 rfl, le1 rfl, le1 rfl, trivial⟩ ⟨rfl, rfl, rfl, rfl, rfl, trivial⟩) ?_
    refine n4 [12, 10, 8] [[], [8], [10, 8], [12, 10, 8]] [(8, ([], [])), (10, ([713], [34])), (12, ([], []))] [(0, []), (1, []), (2, []), (3, []), (4, []), (5, []), (6, []), (7, []), (8, []), (9, [8]), (10, [8]), (11, [10, 8]), (12, [10, 8])] [(0, [8]), (0, [10, 8]), (1, [8]), (1, [10, 8]), (2, [8]), (3, [8]), (4, [8]), (5, [8])] (by kernel_rfl) (by kernel_rfl) (J8 Z Z Z Z Z (A3 Z Z) (J8 Z Z Z Z Z (A3 Z Z) (J8 Z Z Z Z Z (A3 Z Z) (J8 Z Z Z Z Z (A3 Z Z) (J8 Z Z Z Z Z (H7 Z Z Z (by omega) (by omega)) (J8 Z Z Z Z Z (M8 Z Z (by first | exact hTi | exact hTi2)) ?_)))))); refine J8 Z Z Z Z Z (A3 Z Z) (J8 Z Z Z Z Z (A3 Z Z) (w_eff Z Z Z Z Z (r_met (fun gf => tid_old names s hmem Z Z) Z Z) Z (J8 Z Z Z Z Z (E0 (c := K5) (ys := [I7 names s 0]) (E6 Z Z Z Z I6) Z Z Z) (w_eff Z Z Z Z Z (r_turn (fun frc hU => J4 (opvU hU Z) Z (opvU hU Z) (.pure _ _ _ _) (by (simp only [List.length_cons, List.length_nil]; omega)) Z)) Z (J8 Z Z Z Z Z (H7 Z Z Z (by omega) (by omega)) (w_eff Z Z Z Z Z (r_eff (fun frc hU => y8 TySz.out (opvU hU Z) Z (by (simp; omega)) (opvU hU Z) Z)) Z ?_)))))); refine w_nil rfl rfl ?_ ?_
    ·refine R9 Z Z Z Z Z (A3 Z Z) (R9 Z Z Z Z Z (A3 Z Z) (R9 Z Z Z Z Z (A3 Z Z) (R9 Z Z Z Z Z (A3 Z Z) (R9 Z Z Z Z Z (A3 Z Z) (R9 Z Z Z Z Z (A3 Z Z) (R9 Z Z Z Z Z (H7 Z Z Z (by omega) (by omega)) (R9 Z Z Z Z Z (M8 Z Z (by first | exact hTi | exact hTi2)) ?_))))))); exact x_nil
    refine T5 [(4, .s (.one (.ref 710 0))), (5, .s (.one (.mut 20))), (6, C2 i), (16, D3 (List Str) 1 strsC files), (17, C2 files.length), (18, C2 i), (23, D3 Str 1 I2 f), (24, C2 f.length), (25, C2 j)] [(20, .tarr files.length 1 ((O3 files i).set i (.buf 713 Int 1 K5 (ids ++ [I7 names s 0])))), (710, .box [.mut 711, .buf 712 Str 1 I2 (names)]), (711, .map Str strK (y4 (names) 0)), (712, .spare (names).length 1 9), (713, .spare (ids ++ [I7 names s 0]).length 1 3)] (by rw [Int.toNat_natCast i, rows_back]; exact Sees.of ⟨le1 rfl, le1 rfl, le1 rfl, le1 rfl, le1 rfl, le1 rfl, le1 rfl, le1 rfl, le1 rfl, trivial⟩ ⟨rfl, rfl, rfl, rfl, rfl, trivial⟩) ?_
    refine A4 (A2 (C0 Z Z (by omega)) Z (A2 (A3 Z Z) Z (A6 ?_)))
    refine k1 ?_
    exact ⟨j + 1, hlt2, by omega, by rw [hstep, hnext, hpl]; exact Sees.of ⟨le1 rfl, le1 rfl, le1 rfl, le1 rfl, le1 rfl, le1 rfl, le1 rfl, le1 rfl, le1 rfl, trivial⟩ ⟨rfl, rfl, rfl, rfl, rfl, trivial⟩⟩
   ·refine H9 ?_
    have hns : I4 names s = names ++ [s] := by unfold I4; rw [if_neg hmem]
    rw [hns] at hstep hrest
    have hkv : y4 (names ++ [s]) 0 = y4 names 0 ++ [(s, .v (.int .i64 (names.length : Int)))] := by rw [kvOf_snoc]; simp only [Int.zero_add]
    have hpl : I7 (D1 files) s 0 = names.length := by
     rw [hrest, placeOf_app s rest (names ++ [s]) 0 (by simp), placeOf_new s names 0 hmem]; omega
    refine T5 ((9, O7 s) :: [(4, .s (.one (.ref 710 0))), (5, .s (.one (.mut 20))), (6, C2 i), (16, D3 (List Str) 1 strsC files), (17, C2 files.length), (18, C2 i), (23, D3 Str 1 I2 f), (24, C2 f.length), (25, C2 j)]) [(20, .tarr files.length 1 ((O3 files i).set i (.buf 713 Int 1 K5 (ids)))), (710, .box [.mut 711, .buf 712 Str 1 I2 (names)]), (711, .map Str strK (y4 (names) 0)), (712, .spare (names).length 1 9), (713, .spare (ids).length 1 3)] (Sees.of ⟨le1 rfl, le1 rfl, le1 rfl, le1 rfl, le1 rfl, le1 rfl, le1 rfl, le1 rfl, le1 rfl, le1 rfl, trivial⟩ ⟨rfl, rfl, rfl, rfl, rfl, trivial⟩) ?_
    refine n4 [12, 10, 8] [[], [8], [10, 8], [12, 10, 8]] [(8, ([712], [])), (10, ([713], [34])), (12, ([], []))] [(0, []), (1, []), (2, []), (3, []), (4, []), (5, []), (6, []), (7, []), (8, []), (9, [8]), (10, [8]), (11, [10, 8]), (12, [10, 8])] [(0, [8]), (0, [10, 8]), (1, [8]), (1, [10, 8]), (2, [8]), (3, [8]), (4, [8]), (5, [8])] (by kernel_rfl) (by kernel_rfl) (J8 Z Z Z Z Z (A3 Z Z) (J8 Z Z Z Z Z (A3 Z Z) (J8 Z Z Z Z Z (A3 Z Z) (J8 Z Z Z Z Z (A3 Z Z) (J8 Z Z Z Z Z (H7 Z Z Z (by omega) (by omega)) (J8 Z Z Z Z Z (M8 Z Z (by first | exact hTi | exact hTi2)) ?_)))))); refine J8 Z Z Z Z Z (A3 Z Z) (J8 Z Z Z Z Z (A3 Z Z) (w_eff Z Z Z Z Z (r_met (fun gf => tid_new names s hmem (by omega) Z Z Z) Z Z) Z (J8 Z Z Z Z Z (E0 (c := K5) (ys := [(names.length : Int)]) (E6 Z Z Z Z I6) Z Z Z) (w_eff Z Z Z Z Z (r_turn (fun frc hU => J4 (opvU hU Z) Z (opvU hU Z) (.pure _ _ _ _) (by (simp only [List.length_cons, List.length_nil]; omega)) Z)) Z (J8 Z Z Z Z Z (H7 Z Z Z (by omega) (by omega)) (w_eff Z Z Z Z Z (r_eff (fun frc hU => y8 TySz.out (opvU hU Z) Z (by (simp; omega)) (opvU hU Z) Z)) Z ?_)))))); refine w_nil rfl rfl ?_ ?_
    ·refine R9 Z Z Z Z Z (A3 Z Z) (R9 Z Z Z Z Z (A3 Z Z) (R9 Z Z Z Z Z (A3 Z Z) (R9 Z Z Z Z Z (A3 Z Z) (R9 Z Z Z Z Z (A3 Z Z) (R9 Z Z Z Z Z (A3 Z Z) (R9 Z Z Z Z Z (H7 Z Z Z (by omega) (by omega)) (R9 Z Z Z Z Z (M8 Z Z (by first | exact hTi | exact hTi2)) ?_))))))); exact x_nil
    refine T5 [(4, .s (.one (.ref 710 0))), (5, .s (.one (.mut 20))), (6, C2 i), (16, D3 (List Str) 1 strsC files), (17, C2 files.length), (18, C2 i), (23, D3 Str 1 I2 f), (24, C2 f.length), (25, C2 j)] [(20, .tarr files.length 1 ((O3 files i).set i (.buf 713 Int 1 K5 (ids ++ [(names.length : Int)])))), (710, .box [.mut 711, .buf 712 Str 1 I2 (names ++ [s])]), (711, .map Str strK (y4 (names ++ [s]) 0)), (712, .spare (names ++ [s]).length 1 9), (713, .spare (ids ++ [(names.length : Int)]).length 1 3)] (by rw [Int.toNat_natCast i, rows_back2, hkv]; exact Sees.of ⟨le1 rfl, le1 rfl, le1 rfl, le1 rfl, le1 rfl, le1 rfl, le1 rfl, le1 rfl, le1 rfl, trivial⟩ ⟨rfl, rfl, rfl, rfl, rfl, trivial⟩) ?_
    refine A4 (A2 (C0 Z Z (by omega)) Z (A2 (A3 Z Z) Z (A6 ?_)))
    refine k1 ?_
    exact ⟨j + 1, hlt2, by omega, by rw [hstep, hnext, hpl]; exact Sees.of ⟨le1 rfl, le1 rfl, le1 rfl, le1 rfl, le1 rfl, le1 rfl, le1 rfl, le1 rfl, le1 rfl, trivial⟩ ⟨rfl, rfl, rfl, rfl, rfl, trivial⟩⟩
  ·have hj2 : j = f.length := by have := A1 ht; omega
   subst hj2
   rw [List.take_length]
   refine k6 (k7 (k7 (k8 Z (k4 (k1 ?_)))))
   refine F8 (Sees.forget 713) ?_
   have hfr : ((O3 files i).set i (.buf 713 Int 1 K5 (F2 (D1 files) f))).map (TC.forget 713) = O3 files (i + 1) := by rw [hf]; exact rowsN_forget files i 713 hlt
   have hnr : N2 files (i + 1) 0 = N2 files i f.length := by rw [hf]; exact namesTo_row files i
   refine T5 [(4, .s (.one (.ref 710 0))), (5, .s (.one (.mut 20))), (16, D3 (List Str) 1 strsC files), (17, C2 files.length), (18, C2 i)] [(710, .box [.mut 711, .buf 712 Str 1 I2 (N2 files (i + 1) 0)]), (711, .map Str strK (y4 (N2 files (i + 1) 0) 0)), (712, .spare (N2 files (i + 1) 0).length 1 9), (20, .tarr files.length 1 (O3 files (i + 1)))] (by rw [hnr, ← hfr]; exact Sees.of ⟨le1 rfl, le1 rfl, le1 rfl, le1 rfl, le1 rfl, trivial⟩ ⟨rfl, rfl, rfl, rfl, trivial⟩) ?_
   refine A4 (A2 (C0 Z Z (by omega)) Z (A2 (A3 Z Z) Z (A6 ?_)))
   refine k1 ?_
   exact ⟨i + 1, hlt, by omega, Sees.of ⟨le1 rfl, le1 rfl, le1 rfl, le1 rfl, le1 rfl, trivial⟩ ⟨rfl, rfl, rfl, rfl, trivial⟩⟩
 ·have hi2 : i = files.length := by have := A1 ht; omega
  rw [hi2, namesTo_all]
  refine F8 (Sees.ofT1 20 (c := intsC) (files.map (F2 (D1 files))) Z (by simp) (rowsN_full files)) ?_
  refine F8 (Sees.freeze (k := 20) Z) ?_
  refine F8 (Sees.forget 712) ?_
  refine k6 (k2 ?_)
  refine C7 (by kernel_rfl) (by kernel_rfl) (A8 (A3 Z Z) Z Z (A8 (A3 Z Z) Z Z (A8 (B4 Z) Z Z (A8 (A7 Z) Z Z (A8 (A9 Z Z Z) Z Z (A8 (A5 Z Z) Z Z (A8 (A5 Z Z) Z Z (H2 ?_))))))))
  refine k1 (k10 ?_)
  exact B6 (U5 rfl rfl rfl rfl rfl) rfl
theorem internIds_ok (files : List (List Str)) (hn : files.length ≤ 1048576) (hl : files.flatten.length ≤ 536870911) : FnOk Tryz.prog 68 [pStrss files] (fun rs => rs = [pIntss (files.map (F2 (D1 files)))]) := by
 refine FnOk.intro Tryz.func68 (by decide) Z Z Z Z ?_
 refine k2 ?_
 refine A4 (A2 (A5 Z Z) Z (A6 ?_))
 refine k1 (k2 ?_)
 refine A4 (A2 (A3 Z Z) Z (C3 (number_ok files hn hl) Z Z Z ?_)); rintro _ rfl; refine A2 (A3 Z Z) Z (A2 (B3 Z Z) Z (A2 (B3 Z Z) Z (A2 (A5 Z Z) Z (A2 (A5 Z Z) Z (A6 ?_)))))
 refine k1 (k2 ?_)
 refine A4 (A2 (A3 Z Z) Z (A2 (A5 Z Z) Z (A6 ?_)))
 refine k1 (k10 ?_)
 exact B6 (H1 rfl rfl rfl) rfl
end Go.Proofs.YtgejaedjnbjpoaaGreatDoor
