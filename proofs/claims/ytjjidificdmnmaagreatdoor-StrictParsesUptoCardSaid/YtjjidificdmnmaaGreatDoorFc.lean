/- Walks of the program's functions. -/
import Derived.Test.YtjjidificdmnmaaGreatDoorFb
import Derived.Test.YtjjidificdmnmaaGreatDoorFs
import Derived.Test.YtjjidificdmnmaaGreatDoorAn
namespace Go.Proofs.YtjjidificdmnmaaGreatDoor
open Go Go.AL
set_option maxRecDepth 100000
theorem in8_ok (n : Int) : FnOk Tryz.prog 164 [D2 n] (fun rs => rs = [D5 (decide (I8 n))]) := by
 refine FnOk.intro Tryz.func164 (by decide) Z Z Z Z ?_
 refine k2 ?_
 refine A5 (A2 (A4 Z Z) Z (A6 ?_))
 refine k1 (k2 ?_)
 refine A5 (A2 (A3 Z Z) Z (A2 (V1 Z Z) Z (A2 (A3 Z Z) Z (A8 Z Z Z Z (fun hg => by rw [hg]; exact A3 Z Z) ?_)))); refine A8 Z Z Z Z (fun hg => by rw [hg]; exact n_leq Z Z) ?_; refine A2 (B2 Z (fun h => by first | rfl | (rw [h]; rfl)) (fun h => by first | rfl | (rw [h]; rfl))) Z ?_; refine A2 (A4 Z Z) Z (A6 ?_)
 refine k1 (k10 ?_)
 refine B5 (G8 Z Z Z) ?_
 simp only [H2]
 rfl
theorem check8_walk (l : List Change) (m n : Int) (hl : l.length ≤ 1073741824) : FnOk Tryz.prog 123 [pChanges l, D2 m, D2 n] (fun rs => rs = [D2 (Z1 l m n)]) := by
 refine FnOk.intro Tryz.func123 (by decide) Z Z Z Z ?_
 refine k2 ?_
 refine A5 (A2 (A4 Z Z) Z (A6 ?_))
 refine k1 (k2 (k2 ?_))
 refine A5 (A2 (A3 Z Z) Z (C0 (in8_ok m) Z Z Z ?_)); rintro _ rfl; refine A2 (E5 Z) Z (A2 (A3 Z Z) Z (A8 Z Z Z Z (fun hg => by rw [hg]; exact A3 Z Z) ?_)); refine A8 Z Z Z Z (fun hg => by have hq := hg; (try simp at hq); rw [hg]; exact F9 (in8_ok n) Z Z) ?_; refine A8 Z Z Z Z (fun hg => by rw [hg]; exact E5 Z) ?_; refine A2 (B2 Z (fun h => by first | rfl | (rw [h]; rfl)) (fun h => by first | rfl | (rw [h]; rfl))) Z ?_; refine A6 ?_
 refine k1 ?_
 refine B3 rfl (fun ht => ?_) (fun ht => ?_)
 ·simp only [← decide_not, or_pick] at ht
  have h : ¬ I8 m ∨ ¬ I8 n := A0 ht
  refine k2 ?_
  refine A5 (A2 (A4 Z Z) Z (A6 ?_))
  refine k1 (k10 (k11 ?_))
  exact B5 (G8 rfl rfl rfl) (by rw [Z1, if_pos h])
 simp only [← decide_not, or_pick] at ht
 have h : ¬ (¬ I8 m ∨ ¬ I8 n) := A1 ht
 have hm : 0 ≤ m ∧ m ≤ 4096 := by by_cases hm : I8 m; exact hm; exact absurd (.inl hm) h
 have hn : 0 ≤ n ∧ n ≤ 4096 := by by_cases hn : I8 n; exact hn; exact absurd (.inr hn) h
 refine k5 (k1 (k2 ?_))
 refine A5 (A2 (A4 Z Z) Z (A2 (A4 Z Z) Z (A6 ?_)))
 refine k1 (k2 (k2 ?_))
 refine A5 (A2 (A4 Z Z) Z (A6 ?_))
 refine k1 (k3 ?_)
 refine E9 (X := Nat × Int × Int) (fun x => ([(0, E8 Change 4 changeC l), (1, C6 m), (2, C6 n), (7, C6 x.2.1), (8, C6 x.2.2), (9, C6 x.1)], [])) (fun x => x.1 ≤ l.length ∧ J4 0 0 0 l m n = J4 x.1 x.2.1 x.2.2 (l.drop x.1) m n ∧ 0 ≤ x.2.1 ∧ x.2.1 ≤ 8192 ∧ 0 ≤ x.2.2 ∧ x.2.2 ≤ 8192) (fun x => l.length - x.1) (0, 0, 0) ⟨Nat.zero_le _, rfl, by decide, by decide, by decide, by decide⟩ (Sees.of ⟨le1 rfl, le1 rfl, le1 rfl, le1 rfl, le1 rfl, le1 rfl, trivial⟩ trivial) ?_
 rintro ⟨k, i, j⟩ ⟨hk, hp, hi, hi2, hj, hj2⟩
 dsimp only at hk hp hi hi2 hj hj2 ⊢
 refine k2 (k2 ?_)
 refine A5 (A2 (A3 Z Z) Z (A2 (A3 Z Z) Z (A2 (F8 Z (.pure _ _ _ _)) Z (A2 (F0 Z Z) Z (A6 ?_)))))
 refine k1 ?_
 refine B3 rfl (fun ht => ?_) (fun ht => ?_)
 ·have hlt : k < l.length := by have := A0 ht; omega
  have hv : l[k]? = some l[k] := by simp [hlt]
  obtain ⟨c, hc⟩ : ∃ c, c = l[k] := ⟨_, rfl⟩
  rw [List.drop_eq_getElem_cons hlt, J4] at hp
  rw [← hc] at hv hp
  refine k5 (k1 (k2 (k3 (k2 ?_))))
  refine A5 (A2 (A3 Z Z) Z (A2 (A3 Z Z) Z (A2 (B4 Z (.pure _ _ _ _) Z (by omega) hv) Z (A2 (F2 Z Z) Z (C8 (H4 10 Z) Z (F4 (B9 TySz.out Z Z Z Z Z Z) (A6 ?_)))))))
  refine k1 (k2 (k2 ?_))
  refine A5 (A2 (A7 Z) Z (A2 (B0 Z Z Z) Z (C0 (in8_ok c.Old) Z Z Z ?_))); rintro _ rfl; refine A2 (E5 Z) Z (A2 (A3 Z Z) Z (A8 Z Z Z Z (fun hg => by rw [hg]; exact A7 Z) ?_)); refine A8 Z Z Z Z (fun hg => by rw [hg]; exact B0 Z Z Z) ?_; refine A8 Z Z Z Z (fun hg => by have hq := hg; (try simp at hq); rw [hg]; exact F9 (in8_ok c.OldLen) Z Z) ?_; refine A8 Z Z Z Z (fun hg => by rw [hg]; exact E5 Z) ?_; refine A2 (B2 Z (fun h => by first | rfl | (rw [h]; rfl)) (fun h => by first | rfl | (rw [h]; rfl))) Z ?_; refine A2 (A3 Z Z) Z (A8 Z Z Z Z (fun hg => by rw [hg]; exact A7 Z) ?_); refine A8 Z Z Z Z (fun hg => by rw [hg]; exact B0 Z Z Z) ?_; refine A8 Z Z Z Z (fun hg => by have hq := hg; (try simp at hq); rw [hg]; exact F9 (in8_ok c.New) Z Z) ?_; refine A8 Z Z Z Z (fun hg => by rw [hg]; exact E5 Z) ?_; refine A2 (B2 Z (fun h => by first | rfl | (rw [h]; rfl)) (fun h => by first | rfl | (rw [h]; rfl))) Z ?_; refine A2 (A3 Z Z) Z (A8 Z Z Z Z (fun hg => by rw [hg]; exact A7 Z) ?_); refine A8 Z Z Z Z (fun hg => by rw [hg]; exact B0 Z Z Z) ?_; refine A8 Z Z Z Z (fun hg => by have hq := hg; (try simp at hq); rw [hg]; exact F9 (in8_ok c.NewLen) Z Z) ?_; refine A8 Z Z Z Z (fun hg => by rw [hg]; exact E5 Z) ?_; refine A2 (B2 Z (fun h => by first | rfl | (rw [h]; rfl)) (fun h => by first | rfl | (rw [h]; rfl))) Z ?_; refine A2 (A3 Z Z) Z (A8 Z Z Z Z (fun hg => by rw [hg]; exact A7 Z) ?_); refine A8 Z Z Z Z (fun hg => by rw [hg]; exact B0 Z Z Z) ?_; refine A8 Z Z Z Z (fun hg => by rw [hg]; exact A7 Z) ?_; refine A8 Z Z Z Z (fun hg => by rw [hg]; exact B0 Z Z Z) ?_; refine A8 Z Z Z Z (fun hg => by have hq := hg; (try simp at hq); simp [I8] at hq; rw [hg]; exact C3 Z Z (by omega)) ?_; refine A8 Z Z Z Z (fun hg => by rw [hg]; exact G6 Z Z) ?_; refine A2 (B2 Z (fun h => by first | rfl | (rw [h]; rfl)) (fun h => by first | rfl | (rw [h]; rfl))) Z ?_; refine A2 (A3 Z Z) Z (A8 Z Z Z Z (fun hg => by rw [hg]; exact A7 Z) ?_); refine A8 Z Z Z Z (fun hg => by rw [hg]; exact B0 Z Z Z) ?_; refine A8 Z Z Z Z (fun hg => by rw [hg]; exact A3 Z Z) ?_; refine A8 Z Z Z Z (fun hg => by have hq := hg; (try simp at hq); simp [I8] at hq; rw [hg]; exact L8 Z Z (by omega)) ?_; refine A8 Z Z Z Z (fun hg => by rw [hg]; exact A7 Z) ?_
  refine A8 Z Z Z Z (fun hg => by rw [hg]; exact B0 Z Z Z) ?_; refine A8 Z Z Z Z (fun hg => by rw [hg]; exact A3 Z Z) ?_; refine A8 Z Z Z Z (fun hg => by have hq := hg; (try simp at hq); simp [I8] at hq; rw [hg]; exact L8 Z Z (by omega)) ?_; refine A8 Z Z Z Z (fun hg => by rw [hg]; exact J2 Z Z) ?_; refine A2 (B2 Z (fun h => by first | rfl | (rw [h]; rfl)) (fun h => by first | rfl | (rw [h]; rfl))) Z ?_; refine A2 (A3 Z Z) Z (A8 Z Z Z Z (fun hg => by rw [hg]; exact A7 Z) ?_); refine A8 Z Z Z Z (fun hg => by rw [hg]; exact B0 Z Z Z) ?_; refine A8 Z Z Z Z (fun hg => by rw [hg]; exact A3 Z Z) ?_; refine A8 Z Z Z Z (fun hg => by rw [hg]; exact F0 Z Z) ?_; refine A2 (B2 Z (fun h => by first | rfl | (rw [h]; rfl)) (fun h => by first | rfl | (rw [h]; rfl))) Z ?_; refine A2 (A3 Z Z) Z (A8 Z Z Z Z (fun hg => by rw [hg]; exact A3 Z Z) ?_); refine A8 Z Z Z Z (fun hg => by rw [hg]; exact L9 Z Z) ?_; refine A8 Z Z Z Z (fun hg => by rw [hg]; exact A3 Z Z) ?_; refine S0 Z Z Z (.gd (.val _)) Z (fun hg => by obtain ⟨hg1, hg2⟩ := gd_and hg; (try rw [hg1]); (try rw [hg2]); exact A7 Z) ?_; refine S0 Z Z Z (.gd (.val _)) Z (fun hg => by obtain ⟨hg1, hg2⟩ := gd_and hg; (try rw [hg1]); (try rw [hg2]); exact B0 Z Z Z) ?_; refine S0 Z Z Z (.gd (.val _)) Z (fun hg => by obtain ⟨hg1, hg2⟩ := gd_and hg; (try rw [hg1]); (try rw [hg2]); exact A3 Z Z) ?_; refine S0 Z Z Z (.gd (.val _)) Z (fun hg => by obtain ⟨hg1, hg2⟩ := gd_and hg; (try rw [hg1]); (try rw [hg2]); exact G6 Z Z) ?_; refine A8 Z Z Z Z (fun hg => by rw [hg]; exact B2 Z (fun h => by first | rfl | (rw [h]; rfl)) (fun h => by first | rfl | (rw [h]; rfl))) ?_; refine A2 (B2 Z (fun h => by first | rfl | (rw [h]; rfl)) (fun h => by first | rfl | (rw [h]; rfl))) Z ?_; refine A6 ?_
  refine k1 ?_
  refine B3 rfl (fun ht => ?_) (fun ht => ?_)
  ·simp only [← decide_not, or_pick, H2] at ht
   have h : badC k i j c := A0 ht
   refine k2 ?_
   refine A5 (A2 (A4 Z Z) Z (A6 ?_))
   refine k1 (k10 (k11 (k12 (k11 (k11 (k12 (k11 ?_)))))))
   exact B5 (G8 rfl rfl rfl) (by rw [Z1, if_neg ‹¬ (¬ I8 m ∨ ¬ I8 n)›, hp, decide_eq_false (fun hh => hh h)]; rfl)
  ·simp only [← decide_not, or_pick, H2] at ht
   have h : ¬ badC k i j c := A1 ht
   have hr : (0 ≤ c.Old ∧ c.Old ≤ 4096) ∧ (0 ≤ c.OldLen ∧ c.OldLen ≤ 4096) ∧ (0 ≤ c.New ∧ c.New ≤ 4096) ∧ (0 ≤ c.NewLen ∧ c.NewLen ≤ 4096) := by
    unfold badC at h
    by_cases a1 : I8 c.Old <;> by_cases a2 : I8 c.OldLen <;> by_cases a3 : I8 c.New <;> by_cases a4 : I8 c.NewLen <;> simp [a1, a2, a3, a4] at h
    exact ⟨a1, a2, a3, a4⟩
   rw [decide_eq_true h, Bool.true_and] at hp
   refine k5 (k1 ?_)
   refine C2 (by kernel_rfl) (by kernel_rfl) (A9 (A7 Z) Z Z (A9 (B0 Z Z Z) Z Z (A9 (A7 Z) Z Z (A9 (B0 Z Z Z) Z Z (A9 (C3 Z Z (by omega)) Z Z (A9 (A7 Z) Z Z (A9 (B0 Z Z Z) Z Z (A9 (A7 Z) Z Z (A9 (B0 Z Z Z) Z Z (A9 (C3 Z Z (by omega)) Z Z (A9 (A4 Z Z) Z Z (A9 (A4 Z Z) Z Z (H3 ?_)))))))))))))
   refine k4 (k1 ?_)
   refine A5 (A2 (A3 Z Z) Z (A2 (C3 Z Z (by omega)) Z (A2 (A4 Z Z) Z (A6 ?_))))
   refine k1 ?_
   exact ⟨(k + 1, c.Old + c.OldLen, c.New + c.NewLen), ⟨by dsimp only; omega, hp, by dsimp only; omega, by dsimp only; omega, by dsimp only; omega, by dsimp only; omega⟩, by dsimp only; omega, Sees.of ⟨le1 rfl, le1 rfl, le1 rfl, le1 rfl, le1 rfl, le1 rfl, trivial⟩ trivial⟩
 ·have hk' : k = l.length := by have := A1 ht; omega
  rw [hk', List.drop_eq_nil_of_le (Nat.le_refl _), J4] at hp
  refine k6 (k2 (k2 ?_))
  refine A5 (A2 (A3 Z Z) Z (A2 (A3 Z Z) Z (A2 (L8 Z Z (by omega)) Z (A2 (A3 Z Z) Z (A2 (A3 Z Z) Z (A2 (L8 Z Z (by omega)) Z (A2 (J2 Z Z) Z (A2 (A3 Z Z) Z (A8 Z Z Z Z (fun hg => by rw [hg]; exact A3 Z Z) ?_))))))))); refine A8 Z Z Z Z (fun hg => by rw [hg]; exact A3 Z Z) ?_; refine A8 Z Z Z Z (fun hg => by rw [hg]; exact F0 Z Z) ?_; refine A2 (B2 Z (fun h => by first | rfl | (rw [h]; rfl)) (fun h => by first | rfl | (rw [h]; rfl))) Z ?_; refine A6 ?_
  refine k1 ?_
  refine B3 rfl (fun ht => ?_) (fun ht => ?_)
  ·have h2 := A0 (or_pick.symm.trans ht)
   refine k2 ?_
   refine A5 (A2 (A4 Z Z) Z (A6 ?_))
   refine k1 (k10 (k11 ?_))
   exact B5 (G8 rfl rfl rfl) (by rw [Z1, if_neg h, hp, decide_eq_false (fun hh => hh h2)]; rfl)
  ·have h2 := A1 (or_pick.symm.trans ht)
   refine k5 (k1 (k2 ?_))
   refine A5 (A2 (A4 Z Z) Z (A6 ?_))
   refine k1 (k10 ?_)
   exact B5 (G8 rfl rfl rfl) (by rw [Z1, if_neg h, hp, decide_eq_true h2]; rfl)
theorem group_walk (l : List Change) (m n ctx : Int) (hl : l.length ≤ 1073741824) : FnOk Tryz.prog 80 [pChanges l, D2 m, D2 n, D2 ctx] (fun rs => rs = [pHunks (u5 l m n ctx).1, D2 (u5 l m n ctx).2]) := by
 refine FnOk.intro Tryz.func80 (by decide) Z Z Z Z ?_
 refine k2 ?_
 refine A5 (A2 (A4 Z Z) Z (A2 (A4 Z Z) Z (A6 ?_)))
 refine k1 (k2 (k2 ?_))
 refine A5 (A2 (A3 Z Z) Z (A2 (F0 Z Z) Z (A2 (A3 Z Z) Z (A8 Z Z Z Z (fun hg => by rw [hg]; exact A3 Z Z) ?_)))); refine A8 Z Z Z Z (fun hg => by rw [hg]; exact L9 Z Z) ?_; refine A2 (B2 Z (fun h => by first | rfl | (rw [h]; rfl)) (fun h => by first | rfl | (rw [h]; rfl))) Z ?_; refine A6 ?_
 refine k1 ?_
 refine B3 rfl (fun ht => ?_) (fun ht => ?_)
 ·have h := A0 (or_pick.symm.trans ht)
  refine k2 ?_
  refine A5 (A2 (W7 _ 6 hunkC) Z (A2 (A4 Z Z) Z (A6 ?_)))
  refine k1 (k10 (k11 ?_))
  exact B5 (X9 rfl rfl rfl rfl rfl) (by rw [u5, if_pos (by omega)])
 have h := A1 (or_pick.symm.trans ht)
 refine k5 (k1 (k2 (k2 ?_)))
 refine A5 (A2 (A3 Z Z) Z (A2 (A3 Z Z) Z (A2 (A3 Z Z) Z (C0 (check8_walk l m n hl) Z Z Z ?_)))); rintro _ rfl; refine A2 (A4 Z Z) Z (A6 ?_)
 refine k1 (k2 ?_)
 refine A5 (A2 (A3 Z Z) Z (A2 (J2 Z Z) Z (A6 ?_)))
 refine k1 ?_
 refine B3 rfl (fun ht => ?_) (fun ht => ?_)
 ·have h1 : Z1 l m n ≠ 0 := A0 ht
  refine k2 ?_
  refine A5 (A2 (A3 Z Z) Z (A2 (W7 _ 6 hunkC) Z (A2 (A4 Z Z) Z (A6 ?_))))
  refine k1 (k10 (k11 ?_))
  exact B5 (X9 rfl rfl rfl rfl rfl) (by rw [u5, if_neg (by omega), if_pos h1])
 have h1 : Z1 l m n = 0 := by simpa using ht
 obtain ⟨hm, hn, hs⟩ := check8_ok h1
 unfold I8 at hm hn
 refine k5 (k1 (k2 ?_))
 refine c_cut [(0, E8 Change 4 changeC l), (1, C6 m), (2, C6 n), (3, C6 ctx)] [] (Sees.of ⟨le1 rfl, le1 rfl, le1 rfl, le1 rfl, trivial⟩ trivial) ?_
 refine A5 (C8 (f_adoptG 11 _ hunkC Z) Z (A6 ?_))
 refine k1 (k2 (k2 ?_))
 refine A5 (A2 (A4 Z Z) Z (A6 ?_))
 refine k1 (k3 ?_)
 refine E9 (X := Nat) (fun k => ([(0, E8 Change 4 changeC l), (1, C6 m), (3, C6 ctx), (11, .s (.one (.mut 11))), (12, C6 k)], [(11, .grow 111 Hunk 6 hunkC (H8 l m ctx k))])) (fun k => k ≤ l.length) (fun k => l.length - k) 0 (Nat.zero_le _) (Sees.of ⟨le1 rfl, le1 rfl, le1 rfl, le1 rfl, le1 rfl, trivial⟩ ⟨rfl, trivial⟩) ?_
 intro k hk
 dsimp only at hk ⊢
 have hgl := o8 l m ctx k
 refine k2 (k2 ?_)
 refine A5 (A2 (A3 Z Z) Z (A2 (A3 Z Z) Z (A2 (F8 Z (.pure _ _ _ _)) Z (A2 (F0 Z Z) Z (A6 ?_)))))
 refine k1 ?_
 refine B3 rfl (fun ht => ?_) (fun ht => ?_)
 ·have hlt : k < l.length := by have := A0 ht; omega
  have hv : l[k]? = some (cAt l k) := cAt_get hlt
  obtain ⟨⟨g1, g2⟩, ⟨g3, g4⟩, ⟨g5, g6⟩, ⟨g7, g8⟩, g9, g10⟩ := hs.get k hlt
  refine c_skip ?_
  refine J6 ?_
  refine c_seq ?_
  refine c_block ?_
  refine V9 [(0, E8 Change 4 changeC l), (1, C6 m), (3, C6 ctx), (11, .s (.one (.mut 11))), (12, C6 k)] [(11, .grow 111 Hunk 6 hunkC (P8 l ctx k (H8 l m ctx k)))] ?_ ?_
  ·refine k2 ?_
   have hp1 : k ≠ 0 → l[((k : Int) - 1).toNat]? = some (cAt l (k - 1)) ∧ (0 ≤ (cAt l (k - 1)).Old ∧ (cAt l (k - 1)).Old ≤ 4096) ∧ 0 ≤ (cAt l (k - 1)).OldLen ∧ (cAt l (k - 1)).OldLen ≤ 4096 := fun hk0 => by
    have := hs.get (k - 1) (by omega)
    refine ⟨?_, this.1, this.2.1⟩
    rw [show ((k : Int) - 1).toNat = k - 1 by omega]; exact cAt_get (by omega)
   refine C2 (by kernel_rfl) (by kernel_rfl) (A9 (A3 Z Z) Z Z (A9 (G6 Z Z) Z Z (A9 (A3 Z Z) Z Z (B6 Z Z (fun hg => by rw [hg]; exact A3 Z Z) Z Z ?_)))); refine B6 Z Z (fun hg => by rw [hg]; exact A3 Z Z) Z Z ?_; refine B6 Z Z (fun hg => by have hq := hg; (try simp at hq); rw [hg]; exact B4 Z (.pure _ _ _ _) Z (by omega) hv) Z Z ?_; refine B6 Z Z (fun hg => by rw [hg]; exact C7 Z) Z Z ?_; refine B6 Z Z (fun hg => by rw [hg]; exact B8 Z Z) Z Z ?_; refine B6 Z Z (fun hg => by rw [hg]; exact A3 Z Z) Z Z ?_; refine B6 Z Z (fun hg => by rw [hg]; exact A3 Z Z) Z Z ?_; refine B6 Z Z (fun hg => by have hq := hg; (try simp at hq); rw [hg]; exact L8 Z Z (by omega)) Z Z ?_; refine B6 Z Z (fun hg => by have hq := hg; (try simp at hq); rw [hg]; exact B4 Z (.pure _ _ _ _) Z (by omega) (hp1 (by simpa using hq)).1) Z Z ?_; refine B6 Z Z (fun hg => by rw [hg]; exact C7 Z) Z Z ?_; refine B6 Z Z (fun hg => by rw [hg]; exact B8 Z Z) Z Z ?_; refine B6 Z Z (fun hg => by have hq := hg; (try simp at hq); have hp2 := hp1 (by simpa using hq); rw [hg]; exact L8 Z Z (by omega)) Z Z ?_; refine B6 Z Z (fun hg => by rw [hg]; exact A3 Z Z) Z Z ?_; refine B6 Z Z (fun hg => by rw [hg]; exact A3 Z Z) Z Z ?_; refine B6 Z Z (fun hg => by have hq := hg; (try simp at hq); rw [hg]; exact L8 Z Z (by omega)) Z Z ?_; refine B6 Z Z (fun hg => by have hq := hg; (try simp at hq); rw [hg]; exact B4 Z (.pure _ _ _ _) Z (by omega) (hp1 (by simpa using hq)).1) Z Z ?_; refine B6 Z Z (fun hg => by rw [hg]; exact C7 Z) Z Z ?_; refine B6 Z Z (fun hg => by rw [hg]; exact B8 Z Z) Z Z ?_; refine B6 Z Z (fun hg => by have hq := hg; (try simp at hq); have hp2 := hp1 (by simpa using hq); rw [hg]; exact L8 Z Z (by omega)) Z Z ?_; refine B6 Z Z (fun hg => by rw [hg]; exact A3 Z Z) Z Z ?_; refine B6 Z Z (fun hg => by have hq := hg; (try simp at hq); rw [hg]; exact n_mul Z Z (by omega)) Z Z ?_; refine B6 Z Z (fun hg => by rw [hg]; exact L9 Z Z) Z Z ?_; refine A9 (B2 Z (fun h => by first | rfl | (rw [h]; rfl)) (fun h => by first | rfl | (rw [h]; rfl))) Z Z ?_; refine H3 ?_
   refine k1 ?_
   refine B3 rfl (fun ht => ?_) (fun ht => ?_)
   ·have h2 := A0 (or_pick.symm.trans ht)
    have ho : opens l ctx k := by unfold opens; omega
    have hmin : 0 ≤ c7 ctx (cAt l k).Old ∧ c7 ctx (cAt l k).Old ≤ (cAt l k).Old := by unfold c7; split <;> omega
    refine k2 ?_
    refine A5 (A2 (A3 Z Z) Z (A2 (A3 Z Z) Z (A2 (A3 Z Z) Z (A2 (B4 Z (.pure _ _ _ _) Z (by omega) hv) Z (A2 (C7 Z) Z (A2 (B8 Z Z) Z (A2 (n_min Z Z) Z (A2 (A4 Z Z) Z (A6 ?_)))))))))
    rw [show (if (cAt l k).Old < ctx then (cAt l k).Old else ctx) = c7 ctx (cAt l k).Old from rfl]
    refine k1 ?_
    refine C2 (by kernel_rfl) (by kernel_rfl) (A9 (A3 Z Z) Z Z (A9 (A3 Z Z) Z Z (A9 (A3 Z Z) Z Z (A9 (A3 Z Z) Z Z (A9 (B4 Z (.pure _ _ _ _) Z (by omega) hv) Z Z (A9 (C7 Z) Z Z (A9 (B8 Z Z) Z Z (A9 (A3 Z Z) Z Z (A9 (L8 Z Z (by omega)) Z Z (A9 (G4 Z) Z Z (A9 (A3 Z Z) Z Z (A9 (A3 Z Z) Z Z (A9 (B4 Z (.pure _ _ _ _) Z (by omega) hv) Z Z (A9 (C7 Z) Z Z (A9 (B8 Z Z) Z Z (A9 (A3 Z Z) Z Z (A9 (L8 Z Z (by omega)) Z Z (A9 (G4 Z) Z Z (A9 (G4 Z) Z Z (A9 (D6 (c := hunkC) (ys := [Y2 l ctx k]) (E3 Z Z Z Z H1) Z Z Z) Z Z (d_effv (l7 Z Z Z (.pure _ _ _ _) (by simp; omega) Z) Z Z (A9 (A4 Z Z) Z Z (H3 ?_)))))))))))))))))))))))
    refine k1 ?_
    rw [P8, if_pos ho]
    exact Sees.of ⟨le1 rfl, le1 rfl, le1 rfl, le1 rfl, le1 rfl, trivial⟩ ⟨rfl, trivial⟩
   ·have h2 := A1 (or_pick.symm.trans ht)
    have ho : ¬ opens l ctx k := by unfold opens; omega
    refine k5 (k1 ?_)
    rw [P8, if_neg ho]
    exact Sees.of ⟨le1 rfl, le1 rfl, le1 rfl, le1 rfl, le1 rfl, trivial⟩ ⟨rfl, trivial⟩
  ·obtain ⟨out, hout⟩ : ∃ out, out = P8 l ctx k (H8 l m ctx k) := ⟨_, rfl⟩
   have hsucc : H8 l m ctx (k + 1) = out.set (out.length - 1) (hunkEnd l m ctx k (out.getD (out.length - 1) hunk0)) := by rw [hout]; rfl
   have hol : 0 < out.length ∧ out.length ≤ k + 1 := by
    rw [hout, P8]
    split
    ·simp only [List.length_append, List.length_cons, List.length_nil]; omega
    ·rename_i ho
     have : k ≠ 0 := fun e => ho (.inl e)
     omega
   rw [← hout]
   obtain ⟨h0, hh0⟩ : ∃ h0, h0 = out.getD (out.length - 1) hunk0 := ⟨_, rfl⟩
   have hvo : out[out.length - 1]? = some h0 := by rw [hh0, List.getD_eq_getElem?_getD, List.getElem?_eq_getElem (by omega)]; rfl
   rw [← hh0] at hsucc
   have hi : ((out.length : Int) - 1).toNat = out.length - 1 := by omega
   have hmin : 0 ≤ c7 ctx (m - ((cAt l k).Old + (cAt l k).OldLen)) ∧ c7 ctx (m - ((cAt l k).Old + (cAt l k).OldLen)) ≤ m - ((cAt l k).Old + (cAt l k).OldLen) := by unfold c7; split <;> omega
   refine k2 ?_
   refine A5 (A2 (A3 Z Z) Z (A2 (n_len_g Z Z) Z (A2 (L8 Z Z (by omega)) Z (A2 (A4 Z Z) Z (A6 ?_)))))
   refine k1 (k2 ?_)
   refine C2 (by kernel_rfl) (by kernel_rfl) (A9 (A3 Z Z) Z Z (A9 (A3 Z Z) Z Z (A9 (B4 Z (.pure _ _ _ _) Z (by omega) hv) Z Z (A9 (C7 Z) Z Z (A9 (B8 Z Z) Z Z (A9 (A3 Z Z) Z Z (A9 (A3 Z Z) Z Z (A9 (B4 Z (.pure _ _ _ _) Z (by omega) hv) Z Z (A9 (C7 Z) Z Z (A9 (B8 Z Z) Z Z (A9 (C3 Z Z (by omega)) Z Z (A9 (A3 Z Z) Z Z (A9 (A3 Z Z) Z Z (A9 (B4 Z (.pure _ _ _ _) Z (by omega) hv) Z Z (A9 (C7 Z) Z Z (A9 (B8 Z Z) Z Z (A9 (A3 Z Z) Z Z (A9 (A3 Z Z) Z Z (A9 (B4 Z (.pure _ _ _ _) Z (by omega) hv) Z Z (A9 (C7 Z) Z Z (A9 (B8 Z Z) Z Z (A9 (C3 Z Z (by omega)) Z Z (A9 (A4 Z Z) Z Z ?_))))))))))))))))))))))); refine A9 (A4 Z Z) Z Z (H3 ?_)
   refine k1 (k2 ?_)
   refine A5 (A2 (A3 Z Z) Z (A2 (A3 Z Z) Z (A2 (A3 Z Z) Z (A2 (L8 Z Z (by omega)) Z (A2 (n_min Z Z) Z (A2 (A4 Z Z) Z (A6 ?_)))))))
   refine k1 (k2 ?_)
   rw [show (if m - ((cAt l k).Old + (cAt l k).OldLen) < ctx then m - ((cAt l k).Old + (cAt l k).OldLen) else ctx) = c7 ctx (m - ((cAt l k).Old + (cAt l k).OldLen)) from rfl]
   refine A5 (A2 (A3 Z Z) Z (A2 (A3 Z Z) Z (A2 (A3 Z Z) Z (A2 (C3 Z Z (by omega)) Z (A2 (L2 Z Z Z (by omega) (by omega)) Z (A2 (I0 Z) Z (F4 (l6 (({ h0 with Last := (k : Int) + 1 } : Hunk)) TySz.out Z Z (by rw [hi]; exact hvo) Z Z Z Z (fun _ _ _ h => n9 h) (by intro j h1 h2; rcases j with _ | _ | _ | _ | _ | _ | _ | j <;> first | rfl | omega)) ?_))))))); refine A6 ?_
   rw [hi]
   refine k1 (k2 ?_)
   have hv2 : (out.set (out.length - 1) { h0 with Last := (k : Int) + 1 })[out.length - 1]? = some { h0 with Last := (k : Int) + 1 } := List.getElem?_set_self (by omega)
   obtain ⟨h2, hh2⟩ : ∃ h2 : Hunk, h2 = { h0 with Last := (k : Int) + 1 } := ⟨_, rfl⟩
   rw [← hh2] at hv2 ⊢
   obtain ⟨out2, ho2⟩ : ∃ out2, out2 = out.set (out.length - 1) h2 := ⟨_, rfl⟩
   have hol2 : out2.length = out.length := by rw [ho2]; simp
   rw [← ho2] at hv2 ⊢
   refine A5 (A2 (A3 Z Z) Z (A2 (A3 Z Z) Z (A2 (A3 Z Z) Z (A2 (A3 Z Z) Z (A2 (C3 Z Z (by omega)) Z (A2 (L2 Z Z Z (by omega) (by (simp only [hol2]; omega))) Z (A2 (I0 Z) Z (A2 (I0 Z) Z (F4 (l6 (({ h2 with Old := ⟨h2.Old.From, (cAt l k).Old + (cAt l k).OldLen + c7 ctx (m - ((cAt l k).Old + (cAt l k).OldLen))⟩ } : Hunk)) TySz.out Z Z (by rw [hi]; exact hv2) Z Z Z Z (fun _ _ _ h => n9 h) (by intro j h1 h2; rcases j with _ | _ | _ | _ | _ | _ | _ | j <;> first | rfl | omega)) ?_))))))))); refine A6 ?_
   rw [hi]
   refine k1 ?_
   obtain ⟨h3, hh3⟩ : ∃ h3 : Hunk, h3 = { h2 with Old := ⟨h2.Old.From, (cAt l k).Old + (cAt l k).OldLen + c7 ctx (m - ((cAt l k).Old + (cAt l k).OldLen))⟩ } := ⟨_, rfl⟩
   have hv3 : (out2.set (out.length - 1) h3)[out.length - 1]? = some h3 := List.getElem?_set_self (by omega)
   rw [← hh3]
   obtain ⟨out3, ho3⟩ : ∃ out3, out3 = out2.set (out.length - 1) h3 := ⟨_, rfl⟩
   have hol3 : out3.length = out.length := by rw [ho3]; simp [hol2]
   rw [← ho3] at hv3 ⊢
   refine A5 (A2 (A3 Z Z) Z (A2 (A3 Z Z) Z (A2 (A3 Z Z) Z (A2 (A3 Z Z) Z (A2 (C3 Z Z (by omega)) Z (A2 (L2 Z Z Z (by omega) (by (simp only [hol3]; omega))) Z (A2 (I0 Z) Z (A2 (I0 Z) Z (F4 (l6 (({ h3 with New := ⟨h3.New.From, (cAt l k).New + (cAt l k).NewLen + c7 ctx (m - ((cAt l k).Old + (cAt l k).OldLen))⟩ } : Hunk)) TySz.out Z Z (by rw [hi]; exact hv3) Z Z Z Z (fun _ _ _ h => n9 h) (by intro j h1 h2; rcases j with _ | _ | _ | _ | _ | _ | _ | j <;> first | rfl | omega)) ?_))))))))); refine A6 ?_
   rw [hi]
   have hfin : out3.set (out.length - 1) { h3 with New := ⟨h3.New.From, (cAt l k).New + (cAt l k).NewLen + c7 ctx (m - ((cAt l k).Old + (cAt l k).OldLen))⟩ } = H8 l m ctx (k + 1) := by
    rw [hsucc, ho3, ho2, List.set_set, List.set_set, hh3, hh2]; rfl
   rw [hfin]
   refine k4 (k1 ?_)
   refine A5 (A2 (A3 Z Z) Z (A2 (C3 Z Z (by omega)) Z (A2 (A4 Z Z) Z (A6 ?_))))
   refine k1 ?_
   exact ⟨k + 1, by omega, by omega, Sees.of ⟨le1 rfl, le1 rfl, le1 rfl, le1 rfl, le1 rfl, trivial⟩ ⟨rfl, trivial⟩⟩
 ·have hk' : k = l.length := by have := A1 ht; omega
  subst hk'
  refine k6 (k2 ?_)
  refine G7 (Sees.growBuf (t := 11) (k := 11) Z Z Z) ?_
  refine A5 (A2 (A3 Z Z) Z (A2 (A4 Z Z) Z (A2 (A4 Z Z) Z (A6 ?_))))
  refine k1 (k10 ?_)
  exact B5 (X9 rfl rfl rfl rfl rfl) (by rw [u5, if_neg (by omega), if_neg (by rw [h1]; decide)])
theorem rlines9_ok (a b : List Str) (ha : a.length ≤ 4096) (hb : b.length ≤ 4096) : FnOk Tryz.prog 77 [Z6 a, Z6 b] (fun rs => rs = [pChanges (walkOf (G9 (E4 [a, b]) a) (G9 (E4 [a, b]) b))]) := by
 have h1 : (G9 (E4 [a, b]) a).length = a.length := by simp [G9]
 have h2 : (G9 (E4 [a, b]) b).length = b.length := by simp [G9]
 refine FnOk.intro Tryz.func77 (by decide) Z Z Z Z ?_
 refine k2 ?_
 refine A5 (A2 (A4 Z Z) Z (A6 ?_))
 refine k1 (k2 ?_)
 refine A5 (A2 (A3 Z Z) Z (A2 (A3 Z Z) Z (A2 (D6 (c := strsC) (ys := [a, b]) (E3 Z Z Z Z (E3 Z Z Z Z H1)) Z Z Z) Z (C0 (ids_ok [a, b] (by simp; omega) (by simp)) Z Z Z ?_)))); rintro _ rfl; refine A2 (A4 Z Z) Z (A6 ?_)
 refine k1 (k2 ?_)
 refine C2 (by kernel_rfl) (by kernel_rfl) (A9 (A3 Z Z) Z Z (A9 (B4 Z (.pure _ _ _ _) Z (by omega) Z) Z Z (A9 (B8 Z Z) Z Z (A9 (A3 Z Z) Z Z (A9 (B4 Z (.pure _ _ _ _) Z (by omega) Z) Z Z (A9 (B8 Z Z) Z Z (A9 (F9 (walk_ok _ _ (by omega) (by omega)) Z Z) Z Z (A9 (A4 Z Z) Z Z (H3 ?_)))))))))
 refine k1 (k10 ?_)
 exact B5 (G8 rfl rfl rfl) rfl
theorem n4 (a b : UInt8) : decide ((a.toNat : Int) ≠ (b.toNat : Int)) = decide (a ≠ b) := by
 by_cases h : a = b
 ·subst h; simp
 ·have : (a.toNat : Int) ≠ (b.toNat : Int) := fun e => h (UInt8.toNat_inj.1 (by omega))
  rw [decide_eq_true this, decide_eq_true h]
theorem rname_ok (s : Str) : FnOk Tryz.prog 75 [F6 s] (fun rs => rs = [D5 (I9 s)]) := by
 refine FnOk.intro Tryz.func75 (by decide) Z Z Z Z ?_
 refine k2 ?_
 refine A5 (A2 (A4 Z Z) Z (A6 ?_))
 refine k1 (k2 ?_)
 refine A5 (A2 (A3 Z Z) Z (A2 (D8 Z) Z (A2 (V1 Z Z) Z (A2 (A3 Z Z) Z (A8 Z Z Z Z (fun hg => by rw [hg]; exact A3 Z Z) ?_))))); refine A8 Z Z Z Z (fun hg => by rw [hg]; exact D8 Z) ?_; refine A8 Z Z Z Z (fun hg => by rw [hg]; exact n_leq Z Z) ?_; refine A2 (B2 Z (fun h => by first | rfl | (rw [h]; rfl)) (fun h => by first | rfl | (rw [h]; rfl))) Z ?_; refine A2 (A4 Z Z) Z (A6 ?_)
 refine k1 (k10 ?_)
 refine B5 (G8 Z Z Z) ?_
 simp only [H2]
 congr 4
 unfold I9
 congr 1
 apply propext
 omega
theorem o6 (h : PatchHunk) (k : UInt8) (hl : h.Lines.length ≤ 268435456) : FnOk Tryz.prog 44 [pPhunk h, pByte k] (fun rs => rs = [Z6 (C1 h.Lines k)]) := by
 obtain ⟨ls, hls⟩ : ∃ ls, ls = h.Lines := ⟨_, rfl⟩
 refine FnOk.intro Tryz.func44 (by decide) Z Z Z Z ?_
 refine k2 ?_
 refine A5 (C8 (l4 2 Z Z Z) Z (A2 (A4 Z Z) Z (A6 ?_)))
 refine k1 (k2 ?_)
 refine A5 (C8 (n3 5 _ K8 Z) Z (A6 ?_))
 refine k1 (k2 (k2 ?_))
 refine A5 (A2 (A4 Z Z) Z (A6 ?_))
 refine k1 (k3 ?_)
 refine E9 (X := Nat) (fun i => ([(1, .s (pByte k).s1), (2, .s (.one (.ref 2 0))), (5, .s (.one (.buf 5 Str 1 K8 (C1 (h.Lines.take i) k)))), (6, C6 i)], [(2, .box (pPhunk h).s1.cells), (5, .spare (C1 (h.Lines.take i) k).length 1 9)])) (fun i => i ≤ h.Lines.length) (fun i => h.Lines.length - i) 0 (Nat.zero_le _) (Sees.of ⟨le1 rfl, le1 rfl, le1 rfl, le1 rfl, trivial⟩ ⟨rfl, rfl, trivial⟩) ?_
 intro i hi
 dsimp only at hi ⊢
 have hlen := K7 (h.Lines.take i) k
 rw [List.length_take] at hlen
 refine k2 (k2 ?_)
 refine A5 (A2 (A3 Z Z) Z (A2 (A7 Z) Z (A2 (B0 Z Z Z) Z (A2 (F8 Z (.pure _ _ _ _)) Z (A2 (F0 Z Z) Z (A6 ?_))))))
 refine k1 ?_
 refine B3 rfl (fun ht => ?_) (fun ht => ?_)
 ·have hlt : i < h.Lines.length := by have := A0 ht; omega
  have hv : h.Lines[i]? = some h.Lines[i] := by simp [hlt]
  have hsucc := linesNot_succ h.Lines k i hlt
  obtain ⟨x, hx⟩ : ∃ x, x = h.Lines[i] := ⟨_, rfl⟩
  rw [← hx] at hv hsucc
  refine k5 (k1 (k2 (k3 (k2 ?_))))
  refine A5 (A2 (A7 Z) Z (A2 (B0 Z Z Z) Z (A2 (A3 Z Z) Z (A2 (B4 Z (.pure _ _ _ _) Z (by omega) hv) Z (A2 (C7 Z) Z (A2 (B8 Z Z) Z (A2 (A3 Z Z) Z (A2 (J2 Z Z) Z (A6 ?_)))))))))
  refine k1 ?_
  refine B3 rfl (fun ht => ?_) (fun ht => ?_)
  ·have h1 : x.Kind ≠ k := A0 ((n4 _ _).symm.trans ht)
   rw [if_pos h1] at hsucc
   skip
   refine A5 (A2 (A3 Z Z) Z (A2 (A7 Z) Z (A2 (B0 Z Z Z) Z (A2 (A3 Z Z) Z (A2 (B4 Z (.pure _ _ _ _) Z (by omega) hv) Z (A2 (C7 Z) Z (A2 (B8 Z Z) Z (A2 (D6 (c := K8) (ys := [_]) (E3 Z Z Z Z H1) Z Z Z) Z (C8 (J3 Z Z Z (.pure _ _ _ _) (by simp; omega) Z) Z (A2 (A4 Z Z) Z (A6 ?_)))))))))))
   refine k4 (k1 ?_)
   refine A5 (A2 (A3 Z Z) Z (A2 (C3 Z Z (by omega)) Z (A2 (A4 Z Z) Z (A6 ?_))))
   refine k1 ?_
   refine ⟨i + 1, by omega, by omega, ?_⟩
   rw [hsucc]
   exact Sees.of ⟨le1 rfl, le1 rfl, le1 rfl, le1 rfl, trivial⟩ ⟨rfl, rfl, trivial⟩
  ·have h1 : ¬ x.Kind ≠ k := A1 ((n4 _ _).symm.trans ht)
   rw [if_neg h1] at hsucc
   refine k5 (k4 (k1 ?_))
   refine A5 (A2 (A3 Z Z) Z (A2 (C3 Z Z (by omega)) Z (A2 (A4 Z Z) Z (A6 ?_))))
   refine k1 ?_
   refine ⟨i + 1, by omega, by omega, ?_⟩
   rw [hsucc]
   exact Sees.of ⟨le1 rfl, le1 rfl, le1 rfl, le1 rfl, trivial⟩ ⟨rfl, rfl, trivial⟩
 ·have hi' : i = h.Lines.length := by have := A1 ht; omega
  subst hi'
  refine k6 (k2 ?_)
  refine A5 (A2 (A3 Z Z) Z (A2 (A4 Z Z) Z (A6 ?_)))
  refine k1 (k10 ?_)
  exact B5 (G8 rfl rfl rfl) (by rw [List.take_length])
theorem rside_ok (p : Patch) (k : UInt8) (hp : szP p.Hunks ≤ 268435456) : FnOk Tryz.prog 125 [pPatch p, pByte k] (fun rs => rs = [D5 (sideOk p.Hunks k)]) := by
 have hsl := z7 p.Hunks
 refine FnOk.intro Tryz.func125 (by decide) Z Z Z Z ?_
 refine k2 ?_
 refine A5 (C8 (l4 2 Z Z Z) Z (A2 (A4 Z Z) Z (A6 ?_)))
 refine k1 (k2 ?_)
 refine A5 (C8 (n3 5 _ K8 Z) Z (A6 ?_))
 refine k1 (k2 (k2 ?_))
 refine A5 (A2 (A4 Z Z) Z (A6 ?_))
 refine k1 (k3 ?_)
 refine E9 (X := Nat) (fun i => ([(1, .s (pByte k).s1), (2, .s (.one (.ref 2 0))), (5, .s (.one (.buf 5 Str 1 K8 (F7 (p.Hunks.take i) k)))), (6, C6 i)], [(2, .box (pPatch p).s1.cells), (5, .spare (F7 (p.Hunks.take i) k).length 1 9)])) (fun i => i ≤ p.Hunks.length) (fun i => p.Hunks.length - i) 0 (Nat.zero_le _) (Sees.of ⟨le1 rfl, le1 rfl, le1 rfl, le1 rfl, trivial⟩ ⟨rfl, rfl, trivial⟩) ?_
 intro i hi
 dsimp only at hi ⊢
 have hlen := sideLines_len (p.Hunks.take i) k
 have hle := szP_take p.Hunks i
 refine k2 (k2 ?_)
 refine A5 (A2 (A3 Z Z) Z (A2 (A7 Z) Z (A2 (B0 Z Z Z) Z (A2 (F8 Z (.pure _ _ _ _)) Z (A2 (F0 Z Z) Z (A6 ?_))))))
 refine k1 ?_
 refine B3 rfl (fun ht => ?_) (fun ht => ?_)
 ·have hlt : i < p.Hunks.length := by have := A0 ht; omega
  have hv : p.Hunks[i]? = some p.Hunks[i] := by simp [hlt]
  have hsucc := sideLines_succ p.Hunks k i hlt
  have hmem : p.Hunks[i] ∈ p.Hunks := List.getElem_mem hlt
  obtain ⟨h, hx⟩ : ∃ x, x = p.Hunks[i] := ⟨_, rfl⟩
  rw [← hx] at hv hsucc hmem
  have h1 := n5 hmem
  have h2 := K7 h.Lines k
  have h3 := V6 h.Lines
  unfold szH at h1
  refine k5 (k1 (k2 (k3 ?_)))
  refine A5 (A2 (A3 Z Z) Z (A2 (A7 Z) Z (A2 (B0 Z Z Z) Z (A2 (A3 Z Z) Z (A2 (B4 Z (.pure _ _ _ _) Z (by omega) hv) Z (A2 (F2 Z Z) Z (A2 (A3 Z Z) Z (C0 (o6 h k (by omega)) Z Z Z ?_)))))))); rintro _ rfl; refine C8 (J3 Z Z Z (.pure _ _ _ _) (by omega) Z) Z (A2 (A4 Z Z) Z (A6 ?_))
  refine k4 (k1 ?_)
  refine A5 (A2 (A3 Z Z) Z (A2 (C3 Z Z (by omega)) Z (A2 (A4 Z Z) Z (A6 ?_))))
  refine k1 ?_
  refine ⟨i + 1, by omega, by omega, ?_⟩
  rw [hsucc]
  exact Sees.of ⟨le1 rfl, le1 rfl, le1 rfl, le1 rfl, trivial⟩ ⟨rfl, rfl, trivial⟩
 ·have hi' : i = p.Hunks.length := by have := A1 ht; omega
  subst hi'
  rw [List.take_length] at hlen ⊢
  obtain ⟨all, hall⟩ : ∃ all, all = F7 p.Hunks k := ⟨_, rfl⟩
  have hmem : ∀ s ∈ all, s.length ≤ szP p.Hunks := fun s hs => sideLines_mem (k := k) (by rw [← hall]; exact hs)
  rw [sideOk, ← hall]
  rw [← hall] at hlen
  refine k6 (k2 (k2 ?_))
  refine A5 (A2 (A4 Z Z) Z (A6 ?_))
  refine k1 (k3 ?_)
  refine E9 (X := Nat) (fun i => ([(5, E8 Str 1 K8 all), (7, C6 i)], [])) (fun i => i ≤ all.length + 1 ∧ K3 all = K3 (all.drop i)) (fun i => all.length + 1 - i) 0 ⟨Nat.zero_le _, rfl⟩ (Sees.of ⟨leL rfl, le1 rfl, trivial⟩ trivial) ?_
  rintro i ⟨hi, he⟩
  dsimp only at hi he ⊢
  refine k2 (k2 ?_)
  refine A5 (A2 (A3 Z Z) Z (A2 (C3 Z Z (by omega)) Z (A2 (A3 Z Z) Z (A2 (F8 Z (.pure _ _ _ _)) Z (A2 (F0 Z Z) Z (A6 ?_))))))
  refine k1 ?_
  refine B3 rfl (fun ht => ?_) (fun ht => ?_)
  ·have hlt : i + 1 < all.length := by have := A0 ht; omega
   have hv : all[i]? = some all[i] := by simp
   have h1 := hmem all[i] (List.getElem_mem _)
   rw [endedBut_drop all i hlt] at he
   refine k5 (k1 (k2 (k3 (k2 ?_))))
   refine A5 (A2 (A3 Z Z) Z (A2 (A3 Z Z) Z (A2 (B4 Z (.pure _ _ _ _) Z (by omega) hv) Z (A2 (B8 Z Z) Z (C0 (ended_ok all[i] (by omega)) Z Z Z ?_))))); rintro _ rfl; refine A2 (E5 Z) Z (A6 ?_)
   refine k1 ?_
   refine B3 rfl (fun ht => ?_) (fun ht => ?_)
   ·have h2 : ended all[i] = false := by simpa using ht
    rw [h2] at he
    refine k2 ?_
    refine A5 (A2 (A4 Z Z) Z (A6 ?_))
    refine k1 (k10 (k12 (k11 (k11 (k12 (k11 ?_))))))
    exact B5 (G8 rfl rfl rfl) (by rw [he]; rfl)
   ·have h2 : ended all[i] = true := by simpa using ht
    rw [h2, Bool.true_and] at he
    refine k5 (k4 (k1 ?_))
    refine A5 (A2 (A3 Z Z) Z (A2 (C3 Z Z (by omega)) Z (A2 (A4 Z Z) Z (A6 ?_))))
    refine k1 ?_
    exact ⟨i + 1, ⟨by omega, he⟩, by omega, Sees.of ⟨le1 rfl, le1 rfl, trivial⟩ trivial⟩
  ·have hge : all.length ≤ i + 1 := by have := A1 ht; omega
   rw [endedBut_last all i hge] at he
   refine k6 (k2 ?_)
   refine A5 (A2 (A4 Z Z) Z (A6 ?_))
   refine k1 (k10 ?_)
   exact B5 (G8 rfl rfl rfl) (by rw [he])
theorem kn32 (c : UInt8) : decide ((c.toNat : Int) ≠ 32) = decide (c ≠ 32) := n4 c 32
theorem kn45 (c : UInt8) : decide ((c.toNat : Int) ≠ 45) = decide (c ≠ 45) := n4 c 45
theorem kn43 (c : UInt8) : decide ((c.toNat : Int) ≠ 43) = decide (c ≠ 43) := n4 c 43
theorem notB (b : Bool) : (!b) = decide (b = false) := by cases b <;> rfl
theorem someCh_succ (ls : List PatchLine) (n : Nat) (h : n < ls.length) : R4 (ls.take (n + 1)) = (if R4 (ls.take n) = true then true else decide (ls[n].Kind ≠ 32)) := by
 unfold R4
 rw [List.take_succ_eq_append_getElem h, List.any_append]
 cases (ls.take n).any _ <;> simp
theorem rgood_ok (p : Patch) (hp : szP p.Hunks ≤ 268435456) : FnOk Tryz.prog 82 [pPatch p] (fun rs => rs = [D5 (N8 p.Hunks)]) := by
 have hsl := z7 p.Hunks
 refine FnOk.intro Tryz.func82 (by decide) Z Z Z Z ?_
 refine k2 ?_
 refine A5 (C8 (l4 1 Z Z Z) Z (A2 (A4 Z Z) Z (A6 ?_)))
 refine k1 (k2 ?_)
 refine A5 (A2 (A4 Z Z) Z (A2 (A4 Z Z) Z (A6 ?_)))
 refine k1 (k2 (k2 ?_))
 refine A5 (A2 (A4 Z Z) Z (A6 ?_))
 refine k1 (k3 ?_)
 refine E9 (X := Nat × Int × Int) (fun x => ([(1, .s (.one (.ref 1 0))), (3, C6 x.2.1), (4, C6 x.2.2), (5, C6 x.1)], [(1, .box (pPatch p).s1.cells)])) (fun x => x.1 ≤ p.Hunks.length ∧ S6 0 0 p.Hunks = S6 x.2.1 x.2.2 (p.Hunks.drop x.1) ∧ 0 ≤ x.2.1 ∧ x.2.1 ≤ 4096 ∧ 0 ≤ x.2.2 ∧ x.2.2 ≤ 4096) (fun x => p.Hunks.length - x.1) (0, 0, 0) ⟨Nat.zero_le _, rfl, by decide, by decide, by decide, by decide⟩ (Sees.of ⟨le1 rfl, le1 rfl, le1 rfl, le1 rfl, trivial⟩ ⟨rfl, trivial⟩) ?_
 rintro ⟨k, i, j⟩ ⟨hk, hg, hi, hi2, hj, hj2⟩
 dsimp only at hk hg hi hi2 hj hj2 ⊢
 refine k2 (k2 ?_)
 refine A5 (A2 (A3 Z Z) Z (A2 (A7 Z) Z (A2 (B0 Z Z Z) Z (A2 (F8 Z (.pure _ _ _ _)) Z (A2 (F0 Z Z) Z (A6 ?_))))))
 refine k1 ?_
 refine B3 rfl (fun ht => ?_) (fun ht => ?_)
 ·have hlt : k < p.Hunks.length := by have := A0 ht; omega
  have hv : p.Hunks[k]? = some p.Hunks[k] := by simp [hlt]
  have hmem : p.Hunks[k] ∈ p.Hunks := List.getElem_mem hlt
  rw [List.drop_eq_getElem_cons hlt, S6] at hg
  obtain ⟨h, hx⟩ : ∃ x, x = p.Hunks[k] := ⟨_, rfl⟩
  rw [← hx] at hv hmem hg
  have h1 := n5 hmem
  have h3 := V6 h.Lines
  have ho := K7 h.Lines 43
  have hn := K7 h.Lines 45
  unfold szH at h1
  refine k5 (k1 (k2 (k3 (k2 ?_))))
  refine A5 (A2 (A7 Z) Z (A2 (B0 Z Z Z) Z (A2 (A3 Z Z) Z (A2 (B4 Z (.pure _ _ _ _) Z (by omega) hv) Z (A2 (F2 Z Z) Z (C8 (H4 6 Z) Z (F4 (B9 TySz.out Z Z Z Z Z Z) (A6 ?_))))))))
  refine k1 (k2 ?_)
  refine A5 (A2 (A4 Z Z) Z (A6 ?_))
  refine k1 (k2 (k2 ?_))
  refine A5 (A2 (A4 Z Z) Z (A6 ?_))
  refine k1 (k3 ?_)
  refine E9 (X := Nat) (fun n => ([(1, .s (.one (.ref 1 0))), (3, C6 i), (4, C6 j), (5, C6 k), (6, .s (.one (.ref 6 0))), (7, J1 (.bool (R4 (h.Lines.take n)))), (8, C6 n)], [(1, .box (pPatch p).s1.cells), (6, .box (pPhunk h).s1.cells)])) (fun n => n ≤ h.Lines.length ∧ h.Lines.all L7 = (h.Lines.drop n).all L7) (fun n => h.Lines.length - n) 0 ⟨Nat.zero_le _, rfl⟩ (Sees.of ⟨le1 rfl, le1 rfl, le1 rfl, le1 rfl, le1 rfl, le1 rfl, le1 rfl, trivial⟩ ⟨rfl, rfl, trivial⟩) ?_
  rintro n ⟨hn1, hn2⟩
  dsimp only at hn1 hn2 ⊢
  refine k2 (k2 ?_)
  refine A5 (A2 (A3 Z Z) Z (A2 (A7 Z) Z (A2 (B0 Z Z Z) Z (A2 (F8 Z (.pure _ _ _ _)) Z (A2 (F0 Z Z) Z (A6 ?_))))))
  refine k1 ?_
  refine B3 rfl (fun ht => ?_) (fun ht => ?_)
  ·have hlt2 : n < h.Lines.length := by have := A0 ht; omega
   have hv2 : h.Lines[n]? = some h.Lines[n] := by simp [hlt2]
   have hmem2 := z6 (List.getElem_mem hlt2)
   have hsucc := someCh_succ h.Lines n hlt2
   rw [List.drop_eq_getElem_cons hlt2, List.all_cons] at hn2
   obtain ⟨x, hx2⟩ : ∃ x, x = h.Lines[n] := ⟨_, rfl⟩
   rw [← hx2] at hv2 hmem2 hsucc hn2
   refine k5 (k1 (k2 (k3 (k2 ?_))))
   refine A5 (A2 (A7 Z) Z (A2 (B0 Z Z Z) Z (A2 (A3 Z Z) Z (A2 (B4 Z (.pure _ _ _ _) Z (by omega) hv2) Z (A2 (C7 Z) Z (A2 (B8 Z Z) Z (A2 (A4 Z Z) Z (A6 ?_))))))))
   refine k1 (k2 (k2 ?_))
   refine A5 (A2 (A3 Z Z) Z (A2 (J2 Z Z) Z (A2 (A3 Z Z) Z (A8 Z Z Z Z (fun hg => by rw [hg]; exact A3 Z Z) ?_)))); refine A8 Z Z Z Z (fun hg => by rw [hg]; exact J2 Z Z) ?_; refine A2 (B2 Z (fun h => by first | rfl | (rw [h]; rfl)) (fun h => by first | rfl | (rw [h]; rfl))) Z ?_; refine A2 (A3 Z Z) Z (A8 Z Z Z Z (fun hg => by rw [hg]; exact A3 Z Z) ?_); refine A8 Z Z Z Z (fun hg => by rw [hg]; exact J2 Z Z) ?_; refine A2 (B2 Z (fun h => by first | rfl | (rw [h]; rfl)) (fun h => by first | rfl | (rw [h]; rfl))) Z ?_; refine A2 (A3 Z Z) Z (A8 Z Z Z Z (fun hg => by rw [hg]; exact A7 Z) ?_); refine A8 Z Z Z Z (fun hg => by rw [hg]; exact B0 Z Z Z) ?_; refine A8 Z Z Z Z (fun hg => by rw [hg]; exact A3 Z Z) ?_; refine A8 Z Z Z Z (fun hg => by have hq := hg; (try simp at hq); rw [hg]; exact B4 Z (.pure _ _ _ _) Z (by omega) hv2) ?_; refine A8 Z Z Z Z (fun hg => by rw [hg]; exact C7 Z) ?_; refine A8 Z Z Z Z (fun hg => by rw [hg]; exact B8 Z Z) ?_; refine A8 Z Z Z Z (fun hg => by have hq := hg; (try simp at hq); rw [hg]; exact F9 (line_ok x.Text (by omega)) Z Z) ?_; refine A8 Z Z Z Z (fun hg => by rw [hg]; exact E5 Z) ?_; refine A2 (B2 Z (fun h => by first | rfl | (rw [h]; rfl)) (fun h => by first | rfl | (rw [h]; rfl))) Z ?_; refine A6 ?_
   refine k1 ?_
   refine B3 rfl (fun ht => ?_) (fun ht => ?_)
   ·simp only [kn32, kn45, kn43, H2, notB, or_pick] at ht
    have hb : badLn x := A0 ht
    refine k2 ?_
    refine A5 (A2 (A4 Z Z) Z (A6 ?_))
    refine k1 (k10 (k11 (k12 (k11 (k11 (k12 (k11 (k12 (k11 (k11 (k12 (k11 ?_))))))))))))
    refine B5 (G8 Z Z Z) ?_
    have : L7 x = false := decide_eq_false (fun hh => hh hb)
    rw [N8, hg, hn2, this]; rfl
   ·simp only [kn32, kn45, kn43, H2, notB, or_pick] at ht
    have hb : ¬ badLn x := A1 ht
    have hgl : L7 x = true := decide_eq_true hb
    rw [hgl, Bool.true_and] at hn2
    refine k5 (k1 ?_)
    refine A5 (A2 (A3 Z Z) Z (A2 (A3 Z Z) Z (A8 Z Z Z Z (fun hg => by rw [hg]; exact A3 Z Z) ?_))); refine A8 Z Z Z Z (fun hg => by rw [hg]; exact J2 Z Z) ?_; refine A2 (B2 Z (fun h => by first | rfl | (rw [h]; rfl)) (fun h => by first | rfl | (rw [h]; rfl))) Z ?_; refine A2 (A4 Z Z) Z (A6 ?_)
    refine k4 (k1 ?_)
    refine A5 (A2 (A3 Z Z) Z (A2 (C3 Z Z (by omega)) Z (A2 (A4 Z Z) Z (A6 ?_))))
    refine k1 ?_
    refine ⟨n + 1, ⟨by omega, hn2⟩, by omega, ?_⟩
    rw [kn32, ← hsucc]
    exact Sees.of ⟨le1 rfl, le1 rfl, le1 rfl, le1 rfl, le1 rfl, le1 rfl, le1 rfl, trivial⟩ ⟨rfl, rfl, trivial⟩
  ·have hn' : n = h.Lines.length := by have := A1 ht; omega
   subst hn'
   rw [List.take_length]
   rw [List.drop_eq_nil_of_le (Nat.le_refl _)] at hn2
   rw [hn2, List.all_nil, Bool.true_and] at hg
   refine k6 (k2 (k2 ?_))
   refine A5 (A2 (A3 Z Z) Z (A2 (E5 Z) Z (A2 (A3 Z Z) Z (A8 Z Z Z Z (fun hg => by rw [hg]; exact A7 Z) ?_)))); refine A8 Z Z Z Z (fun hg => by rw [hg]; exact B0 Z Z Z) ?_; refine A8 Z Z Z Z (fun hg => by rw [hg]; exact A3 Z Z) ?_; refine A8 Z Z Z Z (fun hg => by rw [hg]; exact F0 Z Z) ?_; refine A2 (B2 Z (fun h => by first | rfl | (rw [h]; rfl)) (fun h => by first | rfl | (rw [h]; rfl))) Z ?_; refine A2 (A3 Z Z) Z (A8 Z Z Z Z (fun hg => by rw [hg]; exact A7 Z) ?_); refine A8 Z Z Z Z (fun hg => by rw [hg]; exact B0 Z Z Z) ?_; refine A8 Z Z Z Z (fun hg => by rw [hg]; exact A3 Z Z) ?_; refine A8 Z Z Z Z (fun hg => by rw [hg]; exact F0 Z Z) ?_; refine A2 (B2 Z (fun h => by first | rfl | (rw [h]; rfl)) (fun h => by first | rfl | (rw [h]; rfl))) Z ?_; refine A2 (A3 Z Z) Z (A8 Z Z Z Z (fun hg => by rw [hg]; exact A7 Z) ?_); refine A8 Z Z Z Z (fun hg => by rw [hg]; exact B0 Z Z Z) ?_; refine A8 Z Z Z Z (fun hg => by rw [hg]; exact L9 Z Z) ?_; refine A2 (B2 Z (fun h => by first | rfl | (rw [h]; rfl)) (fun h => by first | rfl | (rw [h]; rfl))) Z ?_; refine A2 (A3 Z Z) Z (A8 Z Z Z Z (fun hg => by rw [hg]; exact A7 Z) ?_); refine A8 Z Z Z Z (fun hg => by rw [hg]; exact B0 Z Z Z) ?_; refine A8 Z Z Z Z (fun hg => by rw [hg]; exact L9 Z Z) ?_; refine A2 (B2 Z (fun h => by first | rfl | (rw [h]; rfl)) (fun h => by first | rfl | (rw [h]; rfl))) Z ?_; refine A2 (A3 Z Z) Z (A8 Z Z Z Z (fun hg => by rw [hg]; exact A7 Z) ?_); refine A8 Z Z Z Z (fun hg => by rw [hg]; exact B0 Z Z Z) ?_; refine A8 Z Z Z Z (fun hg => by rw [hg]; exact A3 Z Z) ?_; refine A8 Z Z Z Z (fun hg => by have hq := hg; (try simp at hq); rw [hg]; exact L8 Z Z (by omega)) ?_; refine A8 Z Z Z Z (fun hg => by rw [hg]; exact A7 Z) ?_; refine A8 Z Z Z Z (fun hg => by rw [hg]; exact B0 Z Z Z) ?_; refine A8 Z Z Z Z (fun hg => by rw [hg]; exact A3 Z Z) ?_; refine A8 Z Z Z Z (fun hg => by have hq := hg; (try simp at hq); rw [hg]; exact L8 Z Z (by omega)) ?_; refine A8 Z Z Z Z (fun hg => by rw [hg]; exact J2 Z Z) ?_; refine A2 (B2 Z (fun h => by first | rfl | (rw [h]; rfl)) (fun h => by first | rfl | (rw [h]; rfl))) Z ?_; refine A6 ?_
   refine k1 ?_
   refine B3 rfl (fun ht => ?_) (fun ht => ?_)
   ·simp only [notB, or_pick] at ht
    have hb : P0 (R4 h.Lines) i j h := A0 ht
    refine k2 ?_
    refine A5 (A2 (A4 Z Z) Z (A6 ?_))
    refine k1 (k10 (k11 (k12 (k11 (k11 (k12 (k11 ?_)))))))
    exact B5 (G8 rfl rfl rfl) (by rw [N8, hg, decide_eq_false (fun hh => hh hb)]; rfl)
   ·simp only [notB, or_pick] at ht
    have hb : ¬ P0 (R4 h.Lines) i j h := A1 ht
    rw [decide_eq_true hb, Bool.true_and] at hg
    have hb2 : i ≤ h.Old ∧ j ≤ h.New ∧ h.Old ≤ 4096 ∧ h.New ≤ 4096 := by unfold P0 at hb; omega
    refine k5 (k1 (k2 ?_))
    refine C2 (by kernel_rfl) (by kernel_rfl) (A9 (A7 Z) Z Z (A9 (B0 Z Z Z) Z Z (A9 (D7 Z Z Z) Z Z (A9 (F9 (o6 h 43 (by omega)) Z Z) Z Z (A9 (F8 Z (.pure _ _ _ _)) Z Z (A9 (C3 Z Z (by omega)) Z Z (A9 (A7 Z) Z Z (A9 (B0 Z Z Z) Z Z (A9 (D7 Z Z Z) Z Z (A9 (F9 (o6 h 45 (by omega)) Z Z) Z Z (A9 (F8 Z (.pure _ _ _ _)) Z Z (A9 (C3 Z Z (by omega)) Z Z (A9 (A4 Z Z) Z Z (A9 (A4 Z Z) Z Z (H3 ?_)))))))))))))))
    refine k1 (k2 ?_)
    refine A5 (A2 (A3 Z Z) Z (A2 (L9 Z Z) Z (A2 (A3 Z Z) Z (A8 Z Z Z Z (fun hg => by rw [hg]; exact A3 Z Z) ?_)))); refine A8 Z Z Z Z (fun hg => by rw [hg]; exact L9 Z Z) ?_; refine A2 (B2 Z (fun h => by first | rfl | (rw [h]; rfl)) (fun h => by first | rfl | (rw [h]; rfl))) Z ?_; refine A6 ?_
    refine k1 ?_
    refine B3 rfl (fun ht => ?_) (fun ht => ?_)
    ·have hb3 := A0 (or_pick.symm.trans ht)
     refine k2 ?_
     refine A5 (A2 (A4 Z Z) Z (A6 ?_))
     refine k1 (k10 (k12 (k11 (k11 (k12 (k11 ?_))))))
     exact B5 (G8 rfl rfl rfl) (by rw [N8, hg, decide_eq_false (fun hh => hh hb3)]; rfl)
    ·have hb3 := A1 (or_pick.symm.trans ht)
     rw [decide_eq_true (p := ¬ (4096 < h.Old + J0 h ∨ 4096 < h.New + J5 h)) hb3, Bool.true_and] at hg
     refine k5 (k4 (k1 ?_))
     refine A5 (A2 (A3 Z Z) Z (A2 (C3 Z Z (by omega)) Z (A2 (A4 Z Z) Z (A6 ?_))))
     refine k1 ?_
     exact ⟨(k + 1, h.Old + J0 h, h.New + J5 h), ⟨by dsimp only; omega, hg, by unfold J0; dsimp only; omega, by unfold J0; dsimp only; omega, by unfold J5; dsimp only; omega, by unfold J5; dsimp only; omega⟩, by dsimp only; omega, Sees.of ⟨le1 rfl, le1 rfl, le1 rfl, le1 rfl, trivial⟩ ⟨rfl, trivial⟩⟩
 ·have hk' : k = p.Hunks.length := by have := A1 ht; omega
  rw [hk', List.drop_eq_nil_of_le (Nat.le_refl _), S6] at hg
  refine k6 (k2 ?_)
  refine A5 (A2 (D7 Z Z Z) Z (C0 (rside_ok p 43 hp) Z Z Z ?_)); rintro _ rfl; refine A2 (A3 Z Z) Z (A8 Z Z Z Z (fun hg => by rw [hg]; exact D7 Z Z Z) ?_); refine A8 Z Z Z Z (fun hg => by have hq := hg; (try simp at hq); rw [hg]; exact F9 (rside_ok p 45 hp) Z Z) ?_; refine A2 (B2 Z (fun h => by first | rfl | (rw [h]; rfl)) (fun h => by first | rfl | (rw [h]; rfl))) Z ?_; refine A2 (A4 Z Z) Z (A6 ?_)
  refine k1 (k10 ?_)
  refine B5 (G8 Z Z Z) ?_
  rw [N8, hg]
  cases sideOk p.Hunks 43 <;> rfl
theorem rwrite_ok (p : Patch) (hp : PFit p) (hrange : ∀ h ∈ p.Hunks, (-4611686018427387904 ≤ h.Old ∧ h.Old ≤ 4611686018427387904) ∧ (-4611686018427387904 ≤ h.New ∧ h.New ≤ 4611686018427387904)) : FnOk Tryz.prog 58 [pPatch p] (fun rs => rs = [F6 (H0 p)]) := by
 have hsl := z7 p.Hunks
 have hpl := hp.hunks
 have hpo := hp.old
 have hpn := hp.new
 have hq1 := a7 p.OldName
 have hq2 := a7 p.NewName
 have hnf := o9 p
 have hnl : (W5 p).length = 2 := rfl
 refine FnOk.intro Tryz.func58 (by decide) Z Z Z Z ?_
 refine k2 ?_
 refine A5 (C8 (l4 1 Z Z Z) Z (A2 (A4 Z Z) Z (A6 ?_)))
 refine k1 (k2 ?_)
 refine U7 10 (by kernel_rfl) (by kernel_rfl) Z (A9 (A7 Z) Z Z (A9 (B0 Z Z Z) Z Z (A9 (F9 (rquote_ok p.OldName (by omega)) Z Z) Z Z (A9 (F5 Z Z (by (simp only [List.length_cons, List.length_nil]; omega))) Z Z (A9 (F5 Z Z (by (simp only [List.length_append, List.length_cons, List.length_nil]; omega))) Z Z (A9 (A7 Z) Z Z (A9 (B0 Z Z Z) Z Z (A9 (F9 (rquote_ok p.NewName (by omega)) Z Z) Z Z (A9 (F5 Z Z (by (simp only [List.length_cons, List.length_nil]; omega))) Z Z (A9 (F5 Z Z (by (simp only [List.length_append, List.length_cons, List.length_nil]; omega))) Z Z (H3 (d_turn (f_buildBuf 3 (c := K8) (ys := (W5 p)) (E3 Z Z Z Z (E3 Z Z Z Z H1)) Z Z Z (by first | rfl | (simp [H5, M4, Ob.free, SV.free, S1.free, TC.free] <;> rfl))) Z ?_)))))))))))); refine A9 (A4 Z Z) Z Z (H3 ?_)
 refine k1 (k2 (k2 ?_))
 refine A5 (A2 (A4 Z Z) Z (A6 ?_))
 refine k1 (k3 ?_)
 refine E9 (X := Nat) (fun k => ([(1, .s (.one (.ref 1 0))), (3, .s (.one (.buf 3 Str 1 K8 (W5 p ++ ((p.Hunks.take k).map Q2).flatten)))), (4, C6 k)], [(1, .box (pPatch p).s1.cells), (3, .spare (W5 p ++ ((p.Hunks.take k).map Q2).flatten).length 1 9)])) (fun k => k ≤ p.Hunks.length) (fun k => p.Hunks.length - k) 0 (Nat.zero_le _) (Sees.of ⟨le1 rfl, le1 rfl, le1 rfl, trivial⟩ ⟨rfl, rfl, trivial⟩) ?_
 intro k hk
 dsimp only at hk ⊢
 have hle := szP_take p.Hunks k
 have hlb := hunksPs_len (p.Hunks.take k)
 refine k2 (k2 ?_)
 refine A5 (A2 (A3 Z Z) Z (A2 (A7 Z) Z (A2 (B0 Z Z Z) Z (A2 (F8 Z (.pure _ _ _ _)) Z (A2 (F0 Z Z) Z (A6 ?_))))))
 refine k1 ?_
 refine B3 rfl (fun ht => ?_) (fun ht => ?_)
 ·have hlt : k < p.Hunks.length := by have := A0 ht; omega
  have hv : p.Hunks[k]? = some p.Hunks[k] := by simp [hlt]
  have hmem : p.Hunks[k] ∈ p.Hunks := List.getElem_mem hlt
  have hsucc := hunkTo_succ p.Hunks k hlt
  obtain ⟨h, hx⟩ : ∃ x, x = p.Hunks[k] := ⟨_, rfl⟩
  rw [← hx] at hv hmem hsucc
  have h1 := n5 hmem
  have h3 := V6 h.Lines
  have ho := K7 h.Lines 43
  have hn := K7 h.Lines 45
  have hr1 := a8 h.Old (J0 h)
  have hr2 := a8 h.New (J5 h)
  unfold szH at h1
  obtain ⟨base, hbase⟩ : ∃ base, base = W5 p ++ ((p.Hunks.take k).map Q2).flatten := ⟨_, rfl⟩
  have hbl : base.length ≤ 2 + szP p.Hunks := by rw [hbase, List.length_append]; omega
  rw [← hbase]
  have hho : -4611686018427387904 ≤ h.Old ∧ h.Old ≤ 4611686018427387904 := (hrange h hmem).1
  have hhn : -4611686018427387904 ≤ h.New ∧ h.New ≤ 4611686018427387904 := (hrange h hmem).2
  refine k5 (k1 (k2 (k3 (k2 ?_))))
  refine A5 (A2 (A7 Z) Z (A2 (B0 Z Z Z) Z (A2 (A3 Z Z) Z (A2 (B4 Z (.pure _ _ _ _) Z (by omega) hv) Z (A2 (F2 Z Z) Z (C8 (H4 5 Z) Z (F4 (B9 TySz.out Z Z Z Z Z Z) (A6 ?_))))))))
  refine k1 (k2 ?_)
  refine C2 (by kernel_rfl) (by kernel_rfl) (A9 (A3 Z Z) Z Z (A9 (A7 Z) Z Z (A9 (B0 Z Z Z) Z Z (A9 (D7 Z Z Z) Z Z (A9 (F9 (o6 h 43 (by omega)) Z Z) Z Z (A9 (F8 Z (.pure _ _ _ _)) Z Z (A9 (F9 (rrange_ok h.Old _ hho (by omega)) Z Z) Z Z (A9 (F5 Z Z (by (simp only [List.length_cons, List.length_nil]; unfold J0 at hr1; omega))) Z Z (A9 (F5 Z Z (by (simp only [List.length_append, List.length_cons, List.length_nil]; unfold J0 at hr1; omega))) Z Z (A9 (A7 Z) Z Z (A9 (B0 Z Z Z) Z Z (A9 (D7 Z Z Z) Z Z (A9 (F9 (o6 h 45 (by omega)) Z Z) Z Z (A9 (F8 Z (.pure _ _ _ _)) Z Z (A9 (F9 (rrange_ok h.New _ hhn (by omega)) Z Z) Z Z (A9 (F5 Z Z (by (simp only [List.length_append, List.length_cons, List.length_nil]; unfold J0 at hr1; unfold J5 at hr2; omega))) Z Z (A9 (F5 Z Z (by (simp only [List.length_append, List.length_cons, List.length_nil]; unfold J0 at hr1; unfold J5 at hr2; omega))) Z Z (A9 (D6 (c := K8) (ys := [S7 h]) (E3 Z Z Z Z H1) Z Z Z) Z Z (d_effv (J3 Z Z Z (.pure _ _ _ _) (by (simp only [List.length_cons, List.length_nil]; omega)) Z) Z Z (A9 (A4 Z Z) Z Z (H3 ?_)))))))))))))))))))))
  refine k1 (k2 ?_)
  refine A5 (A2 (A4 Z Z) Z (A6 ?_))
  refine k1 (k3 ?_)
  refine E9 (X := Nat) (fun n => ([(1, .s (.one (.ref 1 0))), (3, .s (.one (.buf 3 Str 1 K8 (base ++ (S7 h :: ((h.Lines.take n).map N9).flatten))))), (4, C6 k), (5, .s (.one (.ref 5 0))), (6, C6 n)], [(1, .box (pPatch p).s1.cells), (3, .spare (base ++ (S7 h :: ((h.Lines.take n).map N9).flatten)).length 1 9), (5, .box (pPhunk h).s1.cells)])) (fun n => n ≤ h.Lines.length) (fun n => h.Lines.length - n) 0 (Nat.zero_le _) (Sees.of ⟨le1 rfl, le1 rfl, le1 rfl, le1 rfl, le1 rfl, trivial⟩ ⟨rfl, rfl, rfl, trivial⟩) ?_
  intro n hn1
  dsimp only at hn1 ⊢
  have hll := linesPs_len (h.Lines.take n)
  have hlt3 : (h.Lines.take n).length ≤ h.Lines.length := by rw [List.length_take]; omega
  refine k2 (k2 ?_)
  refine A5 (A2 (A3 Z Z) Z (A2 (A7 Z) Z (A2 (B0 Z Z Z) Z (A2 (F8 Z (.pure _ _ _ _)) Z (A2 (F0 Z Z) Z (A6 ?_))))))
  refine k1 ?_
  refine B3 rfl (fun ht => ?_) (fun ht => ?_)
  ·have hlt2 : n < h.Lines.length := by have := A0 ht; omega
   have hv2 : h.Lines[n]? = some h.Lines[n] := by simp [hlt2]
   have hmem2 := z6 (List.getElem_mem hlt2)
   have hsucc2 := lineTo_succ h.Lines n hlt2
   obtain ⟨x, hx2⟩ : ∃ x, x = h.Lines[n] := ⟨_, rfl⟩
   rw [← hx2] at hv2 hmem2 hsucc2
   refine k5 (k1 (k2 (k3 (k2 ?_))))
   refine C2 (by kernel_rfl) (by kernel_rfl) (A9 (A3 Z Z) Z Z (A9 (A7 Z) Z Z (A9 (B0 Z Z Z) Z Z (A9 (A3 Z Z) Z Z (A9 (B4 Z (.pure _ _ _ _) Z (by omega) hv2) Z Z (A9 (C7 Z) Z Z (A9 (B8 Z Z) Z Z (A9 (D6 (c := u8C) (ys := [x.Kind]) (E3 Z Z Z Z H1) Z Z Z) Z Z (A9 (N6 TyStr.out Z (.pure _ _ _ _)) Z Z (A9 (A7 Z) Z Z (A9 (B0 Z Z Z) Z Z (A9 (A3 Z Z) Z Z (A9 (B4 Z (.pure _ _ _ _) Z (by omega) hv2) Z Z (A9 (C7 Z) Z Z (A9 (B8 Z Z) Z Z (A9 (F5 Z Z (by (simp only [List.length_cons, List.length_nil]; omega))) Z Z (A9 (D6 (c := K8) (ys := [_]) (E3 Z Z Z Z H1) Z Z Z) Z Z (d_effv (J3 Z Z Z (.pure _ _ _ _) (by (simp only [List.length_append, List.length_cons, List.length_nil]; omega)) Z) Z Z (A9 (A4 Z Z) Z Z (H3 ?_))))))))))))))))))))
   have hcons : ∀ a b : List Str, base ++ S7 h :: (a ++ b) = base ++ S7 h :: a ++ b := fun a b => by simp
   refine k1 (k2 ?_)
   refine A5 (A2 (A7 Z) Z (A2 (B0 Z Z Z) Z (A2 (A3 Z Z) Z (A2 (B4 Z (.pure _ _ _ _) Z (by omega) hv2) Z (A2 (C7 Z) Z (A2 (B8 Z Z) Z (C0 (ended_ok x.Text (by omega)) Z Z Z ?_))))))); rintro _ rfl; refine A2 (E5 Z) Z (A6 ?_)
   refine k1 ?_
   refine B3 rfl (fun ht => ?_) (fun ht => ?_)
   ·have h2 : ended x.Text = false := by simpa using ht
    have e : N9 x = [[x.Kind] ++ x.Text] ++ [markS] := by rw [N9, h2]; rfl
    skip
    refine A5 (A2 (A3 Z Z) Z (A2 (D6 (c := K8) (ys := [markS]) (E3 Z Z Z Z H1) Z Z Z) Z (C8 (J3 Z Z Z (.pure _ _ _ _) (by (simp only [List.length_append, List.length_cons, List.length_nil]; omega)) Z) Z (A2 (A4 Z Z) Z (A6 ?_)))))
    refine k4 (k1 ?_)
    refine A5 (A2 (A3 Z Z) Z (A2 (C3 Z Z (by omega)) Z (A2 (A4 Z Z) Z (A6 ?_))))
    refine k1 ?_
    refine ⟨n + 1, by omega, by omega, ?_⟩
    rw [hsucc2, e, ← List.append_assoc, hcons, hcons]
    exact Sees.of ⟨le1 rfl, le1 rfl, le1 rfl, le1 rfl, le1 rfl, trivial⟩ ⟨rfl, rfl, rfl, trivial⟩
   ·have h2 : ended x.Text = true := by simpa using ht
    have e : N9 x = [[x.Kind] ++ x.Text] := by rw [N9, h2]; rfl
    refine k5 (k4 (k1 ?_))
    refine A5 (A2 (A3 Z Z) Z (A2 (C3 Z Z (by omega)) Z (A2 (A4 Z Z) Z (A6 ?_))))
    refine k1 ?_
    refine ⟨n + 1, by omega, by omega, ?_⟩
    rw [hsucc2, e, hcons]
    exact Sees.of ⟨le1 rfl, le1 rfl, le1 rfl, le1 rfl, le1 rfl, trivial⟩ ⟨rfl, rfl, rfl, trivial⟩
  ·have hn' : n = h.Lines.length := by have := A1 ht; omega
   subst hn'
   rw [List.take_length]
   refine k6 (k7 (k7 (k8 Z (k4 (k1 ?_)))))
   refine A5 (A2 (A3 Z Z) Z (A2 (C3 Z Z (by omega)) Z (A2 (A4 Z Z) Z (A6 ?_))))
   refine k1 ?_
   refine ⟨k + 1, by omega, by omega, ?_⟩
   rw [hsucc, ← List.append_assoc, ← hbase]
   exact Sees.of ⟨le1 rfl, le1 rfl, le1 rfl, trivial⟩ ⟨rfl, rfl, trivial⟩
 ·have hk' : k = p.Hunks.length := by have := A1 ht; omega
  subst hk'
  have hff := i7 p.Hunks
  rw [List.take_length] at hlb ⊢
  have hall : (W5 p ++ (p.Hunks.map Q2).flatten).flatten.length ≤ 536870912 := by simp only [List.flatten_append, List.length_append]; omega
  refine k6 (k2 ?_)
  refine A5 (A2 (A3 Z Z) Z (C0 (all_ok _ hall) Z Z Z ?_)); rintro _ rfl; refine A2 (A4 Z Z) Z (A6 ?_)
  refine k1 (k10 ?_)
  exact B5 (G8 rfl rfl rfl) rfl
theorem rcheck12_ok (p : Patch) (hp : szP p.Hunks ≤ 268435456) : FnOk Tryz.prog 42 [pPatch p] (fun rs => rs = [D2 (G1 p)]) := by
 refine FnOk.intro Tryz.func42 (by decide) Z Z Z Z ?_
 refine k2 ?_
 refine A5 (C8 (l4 1 Z Z Z) Z (A2 (A4 Z Z) Z (A6 ?_)))
 refine k1 (k2 (k3 (k2 ?_)))
 refine A5 (A2 (A7 Z) Z (A2 (B0 Z Z Z) Z (C0 (rname_ok p.OldName) Z Z Z ?_))); rintro _ rfl; refine A2 (E5 Z) Z (A2 (A3 Z Z) Z (A8 Z Z Z Z (fun hg => by rw [hg]; exact A7 Z) ?_)); refine A8 Z Z Z Z (fun hg => by rw [hg]; exact B0 Z Z Z) ?_; refine A8 Z Z Z Z (fun hg => by have hq := hg; (try simp at hq); rw [hg]; exact F9 (rname_ok p.NewName) Z Z) ?_; refine A8 Z Z Z Z (fun hg => by rw [hg]; exact E5 Z) ?_; refine A2 (B2 Z (fun h => by first | rfl | (rw [h]; rfl)) (fun h => by first | rfl | (rw [h]; rfl))) Z ?_; refine A2 (A4 Z Z) Z (A6 ?_)
 refine k1 ?_
 refine B3 rfl (fun ht => ?_) (fun ht => ?_)
 ·simp only [notB, or_pick] at ht
  have h := A0 ht
  refine k2 ?_
  refine A5 (A2 (A4 Z Z) Z (A6 ?_))
  refine k1 (k10 (k12 (k11 ?_)))
  exact B5 (G8 rfl rfl rfl) (by rw [G1, if_pos h])
 ·simp only [notB, or_pick] at ht
  have h := A1 ht
  refine k2 ?_
  refine A5 (A2 (D7 Z Z Z) Z (C0 (rgood_ok p hp) Z Z Z ?_)); rintro _ rfl; refine A2 (E5 Z) Z (A2 (A4 Z Z) Z (A6 ?_))
  refine k1 ?_
  refine B3 rfl (fun ht => ?_) (fun ht => ?_)
  ·have h2 : N8 p.Hunks = false := by simpa using ht
   refine k2 ?_
   refine A5 (A2 (A4 Z Z) Z (A6 ?_))
   refine k1 (k10 (k12 (k11 ?_)))
   exact B5 (G8 rfl rfl rfl) (by rw [G1, if_neg h, if_pos h2])
  ·have h2 : N8 p.Hunks = true := by simpa using ht
   have hr := i8 h2
   have hn1 : I9 p.OldName = true := by by_cases hh : I9 p.OldName = true; exact hh; exact absurd (.inl (by simpa using hh)) h
   have hn2 : I9 p.NewName = true := by by_cases hh : I9 p.NewName = true; exact hh; exact absurd (.inr (by simpa using hh)) h
   have hn3 := A0 hn1
   have hn4 := A0 hn2
   have hpf : PFit p := ⟨by omega, by omega, hp⟩
   refine k2 ?_
   refine A5 (A2 (D7 Z Z Z) Z (C0 (rwrite_ok p hpf (fun x hx => by have := hr x hx; omega)) Z Z Z ?_)); rintro _ rfl; refine A2 (D8 Z) Z (A2 (L9 Z Z) Z (A2 (A4 Z Z) Z (A6 ?_)))
   refine k1 ?_
   refine B3 rfl (fun ht => ?_) (fun ht => ?_)
   ·have h3 := A0 ht
    refine k2 ?_
    refine A5 (A2 (A4 Z Z) Z (A6 ?_))
    refine k1 (k10 (k12 (k11 ?_)))
    exact B5 (G8 rfl rfl rfl) (by rw [G1, if_neg h, if_neg (by rw [h2]; decide), if_pos (by omega)])
   ·have h3 := A1 ht
    refine k5 (k2 ?_)
    refine A5 (A2 (A4 Z Z) Z (A6 ?_))
    refine k1 (k10 ?_)
    exact B5 (G8 rfl rfl rfl) (by rw [G1, if_neg h, if_neg (by rw [h2]; decide), if_neg (by omega)])
theorem rput_met {gf : Fr} {ob : Obs} (l : List PatchLine) (k : UInt8) (ts : List Str) (hk : E2 ob 701 = some (.spare l.length 2 36)) (hlen : l.length + ts.length ≤ 1073741824) :
  Met Tryz.prog 81 [.one (.buf 701 PatchLine 2 plineC l), .one (.p (.v (.int .u8 k.toNat))), .one (.p (.list Str 1 K8 ts))] gf ob [701]
   (fun rs ob' => rs = [.one (.buf 701 PatchLine 2 plineC (l ++ Q6 k ts))] ∧ ob' = (701, .spare (l ++ Q6 k ts).length 2 36) :: Obs.forget 701 ob) := by
 refine Met.introH Tryz.func81 (by decide) rfl rfl rfl (fun hH => ?_)
 refine k2 ?_
 refine A5 (A2 (A4 Z Z) Z (A6 ?_))
 refine k1 (k2 (k2 ?_))
 refine A5 (A2 (A4 Z Z) Z (A6 ?_))
 refine k1 (k3 ?_)
 refine E9 (X := Nat) (fun i => ([(0, .s (.one (.buf 701 PatchLine 2 plineC (l ++ Q6 k (ts.take i))))), (1, .s (pByte k).s1), (2, E8 Str 1 K8 ts), (7, C6 i)] ++ Fr.forget 701 gf, (701, .spare (l ++ Q6 k (ts.take i)).length 2 36) :: Obs.forget 701 ob)) (fun i => i ≤ ts.length) (fun i => ts.length - i) 0 (Nat.zero_le _) ?_ ?_
 ·have e : l ++ Q6 k (ts.take 0) = l := by simp [Q6]
  rw [e]
  exact Sees.tailF 701 ⟨le1 rfl, le1 rfl, le1 rfl, le1 rfl, trivial⟩ hH (by repeat (first | exact C9 | refine D1 rfl ?_)) hk
 intro i hi
 dsimp only at hi ⊢
 have hpl := putOf_len k (ts.take i)
 rw [List.length_take] at hpl
 refine k2 (k2 ?_)
 refine A5 (A2 (A3 Z Z) Z (A2 (A3 Z Z) Z (A2 (F8 Z (.pure _ _ _ _)) Z (A2 (F0 Z Z) Z (A6 ?_)))))
 refine k1 ?_
 refine B3 rfl (fun ht => ?_) (fun ht => ?_)
 ·have hlt : i < ts.length := by have := A0 ht; omega
  have hv : ts[i]? = some ts[i] := by simp [hlt]
  have hsucc := putOf_succ k ts i hlt
  refine k5 (k1 (k2 (k3 ?_)))
  refine A5 (A2 (A3 Z Z) Z (A2 (A3 Z Z) Z (A2 (A3 Z Z) Z (A2 (A3 Z Z) Z (A2 (B4 Z (.pure _ _ _ _) Z (by omega) hv) Z (A2 (B8 Z Z) Z (A2 (G4 Z) Z (A2 (D6 (c := plineC) (ys := [⟨k, ts[i]⟩]) (E3 Z Z Z Z H1) Z Z Z) Z (C8 (J3 Z Z Z (.pure _ _ _ _) (by (simp only [List.length_append, List.length_cons, List.length_nil]; omega)) Z) Z (A2 (A4 Z Z) Z (A6 ?_)))))))))))
  refine k4 (k1 ?_)
  refine A5 (A2 (A3 Z Z) Z (A2 (C3 Z Z (by omega)) Z (A2 (A4 Z Z) Z (A6 ?_))))
  refine k1 ?_
  refine ⟨i + 1, hlt, by omega, ?_⟩
  rw [hsucc, ← List.append_assoc]
  exact Sees.tailed ⟨le1 rfl, le1 rfl, le1 rfl, le1 rfl, trivial⟩ (P6 hH) (by repeat (first | exact C9 | refine D1 rfl ?_ | refine K6 _ ?_)) obs_step
 ·have hi' : i = ts.length := by have := A1 ht; omega
  subst hi'
  rw [List.take_length]
  refine k6 (k2 ?_)
  refine A5 (A2 (A3 Z Z) Z (A2 (A4 Z Z) Z (A6 ?_)))
  refine k1 (k10 ?_)
  exact I3 (Y1 rfl rfl) (by repeat (first | exact C9 | refine D1 rfl ?_ | refine E1 _ ?_)) (fun _ _ h => h) ⟨rfl, rfl⟩
set_option maxHeartbeats 1000000
end Go.Proofs.YtjjidificdmnmaaGreatDoor
namespace Go.Proofs.YtjjidificdmnmaaGreatDoor
open Go Go.AL
set_option maxRecDepth 100000
theorem unamed_ok (s : Str) : FnOk Tryz.prog 66 [F6 s] (fun rs => rs = [D5 (I9 s)]) := by
 refine FnOk.intro Tryz.func66 (by decide) Z Z Z Z ?_
 refine k2 ?_
 refine A5 (A2 (A4 Z Z) Z (A6 ?_))
 refine k1 (k2 ?_)
 refine A5 (A2 (A3 Z Z) Z (A2 (D8 Z) Z (A2 (V1 Z Z) Z (A2 (A3 Z Z) Z (A8 Z Z Z Z (fun hg => by rw [hg]; exact A3 Z Z) ?_))))); refine A8 Z Z Z Z (fun hg => by rw [hg]; exact D8 Z) ?_; refine A8 Z Z Z Z (fun hg => by rw [hg]; exact n_leq Z Z) ?_; refine A2 (B2 Z (fun h => by first | rfl | (rw [h]; rfl)) (fun h => by first | rfl | (rw [h]; rfl))) Z ?_; refine A2 (A4 Z Z) Z (A6 ?_)
 refine k1 (k10 ?_)
 refine B5 (G8 Z Z Z) ?_
 simp only [H2]
 congr 4
 unfold I9
 congr 1
 apply propext
 omega
theorem usingle_ok (s : Str) (hs : s.length ≤ 1099511627776) : FnOk Tryz.prog 148 [F6 s] (fun rs => rs = [D5 (L5 s)]) := by
 refine FnOk.intro Tryz.func148 (by decide) Z Z Z Z ?_
 refine k2 ?_
 refine A5 (A2 (A4 Z Z) Z (A6 ?_))
 refine k1 (k2 ?_)
 refine A5 (A2 (A3 Z Z) Z (A2 (V2 Z Z) Z (A2 (A3 Z Z) Z (A8 Z Z Z Z (fun hg => by rw [hg]; exact A3 Z Z) ?_)))); refine A8 Z Z Z Z (fun hg => by have hq := hg; (try simp at hq); rw [hg]; exact F9 (tbare_ok s hs) Z Z) ?_; refine A8 Z Z Z Z (fun hg => by have hq := hg; (try simp at hq); rw [hg]; exact F9 (contains1_ok (bareOf s) 10) Z Z) ?_; refine A8 Z Z Z Z (fun hg => by rw [hg]; exact E5 Z) ?_; refine A2 (B2 Z (fun h => by first | rfl | (rw [h]; rfl)) (fun h => by first | rfl | (rw [h]; rfl))) Z ?_; refine A2 (A4 Z Z) Z (A6 ?_)
 refine k1 (k10 ?_)
 exact B5 (G8 rfl rfl rfl) (by rw [single_eq])
theorem usizes_ok (h : PatchHunk) (hl : h.Lines.length ≤ 268435456) : FnOk Tryz.prog 145 [pPhunk h] (fun rs => rs = [D2 (J0 h), D2 (J5 h)]) := by
 refine FnOk.intro Tryz.func145 (by decide) Z Z Z Z ?_
 refine k2 ?_
 refine A5 (C8 (l4 1 Z Z Z) Z (A2 (A4 Z Z) Z (A2 (A4 Z Z) Z (A6 ?_))))
 refine k1 (k2 ?_)
 refine A5 (A2 (A4 Z Z) Z (A2 (A4 Z Z) Z (A6 ?_)))
 refine k1 (k2 (k2 ?_))
 refine A5 (A2 (A7 Z) Z (A2 (B0 Z Z Z) Z (A2 (F8 Z (.pure _ _ _ _)) Z (A2 (A3 Z Z) Z (A6 ?_)))))
 refine k1 (k3 ?_)
 refine E9 (X := Nat) (fun i => ([(4, C6 (C1 (h.Lines.take i) 43).length), (5, C6 (C1 (h.Lines.take i) 45).length), (9, E8 PatchLine 2 plineC h.Lines), (10, C6 h.Lines.length), (11, C6 i)], [])) (fun i => i ≤ h.Lines.length) (fun i => h.Lines.length - i) 0 (Nat.zero_le _) (Sees.of ⟨le1 rfl, le1 rfl, le1 rfl, le1 rfl, le1 rfl, trivial⟩ trivial) ?_
 intro i hi
 dsimp only at hi ⊢
 have h1 := K7 (h.Lines.take i) 43
 have h2 := K7 (h.Lines.take i) 45
 rw [List.length_take] at h1 h2
 refine k2 ?_
 refine A5 (A2 (F0 Z Z) Z (A6 ?_))
 refine k1 (k2 ?_)
 refine B3 rfl (fun ht => ?_) (fun ht => ?_)
 ·have hlt : i < h.Lines.length := by have := A0 ht; omega
  have hv : h.Lines[i]? = some h.Lines[i] := by simp [hlt]
  have s1 := linesNot_succ h.Lines 43 i hlt
  have s2 := linesNot_succ h.Lines 45 i hlt
  obtain ⟨x, hx⟩ : ∃ x, x = h.Lines[i] := ⟨_, rfl⟩
  rw [← hx] at hv s1 s2
  refine k5 (k1 (k2 (k3 (k2 ?_))))
  refine A5 (A2 (B4 Z (.pure _ _ _ _) Z (by omega) hv) Z (A2 (F2 Z Z) Z (C8 (H4 7 Z) Z (F4 (B9 TySz.out Z Z Z Z Z Z) (A6 ?_)))))
  refine J6 ?_
  refine V9 [(4, C6 (C1 (h.Lines.take (i + 1)) 43).length), (5, C6 (C1 (h.Lines.take i) 45).length), (7, .s (.one (.ref 7 0))), (9, E8 PatchLine 2 plineC h.Lines), (10, C6 h.Lines.length), (11, C6 i)] [(7, .box [.p (.v (.int .u8 x.Kind.toNat)), .p (.v (.string ⟨x.Text.toArray⟩))])] ?_ ?_
  ·refine k2 ?_
   refine A5 (A2 (A7 Z) Z (A2 (B0 Z Z Z) Z (A2 (J2 Z Z) Z (A6 ?_))))
   refine k1 ?_
   refine B3 rfl (fun ht => ?_) (fun ht => ?_)
   ·rw [kn43] at ht
    have h3 : x.Kind ≠ 43 := A0 ht
    rw [if_pos h3] at s1
    skip
    refine A5 (A2 (A3 Z Z) Z (A2 (C3 Z Z (by omega)) Z (A2 (A4 Z Z) Z (A6 ?_))))
    refine k1 ?_
    rw [s1, List.length_append, Int.natCast_add]
    exact Sees.of ⟨le1 rfl, le1 rfl, le1 rfl, le1 rfl, le1 rfl, le1 rfl, trivial⟩ ⟨rfl, trivial⟩
   ·rw [kn43] at ht
    have h3 : ¬ x.Kind ≠ 43 := A1 ht
    rw [if_neg h3] at s1
    refine k5 (k1 ?_)
    rw [s1]
    exact Sees.of ⟨le1 rfl, le1 rfl, le1 rfl, le1 rfl, le1 rfl, le1 rfl, trivial⟩ ⟨rfl, trivial⟩
  ·refine k2 ?_
   refine A5 (A2 (A7 Z) Z (A2 (B0 Z Z Z) Z (A2 (J2 Z Z) Z (A6 ?_))))
   refine k1 ?_
   refine B3 rfl (fun ht => ?_) (fun ht => ?_)
   ·rw [kn45] at ht
    have h3 : x.Kind ≠ 45 := A0 ht
    rw [if_pos h3] at s2
    skip
    refine A5 (A2 (A3 Z Z) Z (A2 (C3 Z Z (by omega)) Z (A2 (A4 Z Z) Z (A6 ?_))))
    refine k4 (k1 ?_)
    refine A5 (A2 (C3 Z Z (by omega)) Z (A2 (A3 Z Z) Z (A6 ?_)))
    refine k1 ?_
    refine ⟨i + 1, by omega, by omega, ?_⟩
    rw [s2, List.length_append, Int.natCast_add]
    exact Sees.of ⟨le1 rfl, le1 rfl, le1 rfl, le1 rfl, le1 rfl, trivial⟩ trivial
   ·rw [kn45] at ht
    have h3 : ¬ x.Kind ≠ 45 := A1 ht
    rw [if_neg h3] at s2
    refine k5 (k4 (k1 ?_))
    refine A5 (A2 (C3 Z Z (by omega)) Z (A2 (A3 Z Z) Z (A6 ?_)))
    refine k1 ?_
    refine ⟨i + 1, by omega, by omega, ?_⟩
    rw [s2]
    exact Sees.of ⟨le1 rfl, le1 rfl, le1 rfl, le1 rfl, le1 rfl, trivial⟩ trivial
 ·have hi' : i = h.Lines.length := by have := A1 ht; omega
  subst hi'
  rw [List.take_length]
  refine k6 (k2 ?_)
  refine A5 (A2 (A3 Z Z) Z (A2 (A3 Z Z) Z (A2 (A4 Z Z) Z (A2 (A4 Z Z) Z (A6 ?_)))))
  refine k1 (k10 ?_)
  exact B5 (X9 rfl rfl rfl rfl rfl) rfl
theorem uheader_ok (h : PatchHunk) (hl : h.Lines.length ≤ 268435456) (ho : -4611686018427387904 ≤ h.Old ∧ h.Old ≤ 4611686018427387904) (hn : -4611686018427387904 ≤ h.New ∧ h.New ≤ 4611686018427387904) : FnOk Tryz.prog 98 [pPhunk h] (fun rs => rs = [F6 (S7 h)]) := by
 have h1 := K7 h.Lines 43
 have h2 := K7 h.Lines 45
 have h3 : 0 ≤ J0 h ∧ J0 h ≤ 268435456 := by unfold J0; omega
 have h4 : 0 ≤ J5 h ∧ J5 h ≤ 268435456 := by unfold J5; omega
 have h5 := a8 h.Old (J0 h)
 have h6 := a8 h.New (J5 h)
 refine FnOk.intro Tryz.func98 (by decide) Z Z Z Z ?_
 refine k2 ?_
 refine A5 (C8 (l4 1 Z Z Z) Z (A2 (A4 Z Z) Z (A6 ?_)))
 refine k1 (k2 ?_)
 refine A5 (A2 (D7 Z Z Z) Z (C0 (usizes_ok h hl) Z Z Z ?_)); rintro _ rfl; refine A2 (A3 Z Z) Z (A2 (B1 Z Z) Z (A2 (B1 Z Z) Z (A2 (A4 Z Z) Z (A2 (A4 Z Z) Z (A6 ?_)))))
 refine k1 (k2 ?_)
 refine C2 (by kernel_rfl) (by kernel_rfl) (A9 (A7 Z) Z Z (A9 (B0 Z Z Z) Z Z (A9 (A3 Z Z) Z Z (A9 (F9 (srange_ok h.Old (J0 h) ho (by omega)) Z Z) Z Z (A9 (F5 Z Z (by (simp only [List.length_cons, List.length_nil]; omega))) Z Z (A9 (F5 Z Z (by (simp only [List.length_append, List.length_cons, List.length_nil]; omega))) Z Z (A9 (A7 Z) Z Z (A9 (B0 Z Z Z) Z Z (A9 (A3 Z Z) Z Z (A9 (F9 (srange_ok h.New (J5 h) hn (by omega)) Z Z) Z Z (A9 (F5 Z Z (by (simp only [List.length_append, List.length_cons, List.length_nil]; omega))) Z Z (A9 (F5 Z Z (by (simp only [List.length_append, List.length_cons, List.length_nil]; omega))) Z Z (A9 (A4 Z Z) Z Z (H3 ?_))))))))))))))
 refine k1 (k10 ?_)
 exact B5 (G8 rfl rfl rfl) rfl
theorem uproper_ok (h : PatchHunk) (hl : (h.Lines.map szL).sum ≤ 1099511627776) : FnOk Tryz.prog 102 [pPhunk h] (fun rs => rs = [D5 (h.Lines.all L7 && R4 h.Lines)]) := by
 have h3 := V6 h.Lines
 refine FnOk.intro Tryz.func102 (by decide) Z Z Z Z ?_
 refine k2 ?_
 refine A5 (C8 (l4 1 Z Z Z) Z (A2 (A4 Z Z) Z (A6 ?_)))
 refine k1 (k2 ?_)
 refine A5 (A2 (A4 Z Z) Z (A6 ?_))
 refine k1 (k2 (k2 ?_))
 refine A5 (A2 (A7 Z) Z (A2 (B0 Z Z Z) Z (A2 (F8 Z (.pure _ _ _ _)) Z (A2 (A3 Z Z) Z (A6 ?_)))))
 refine k1 (k3 ?_)
 refine E9 (X := Nat) (fun n => ([(3, J1 (.bool (R4 (h.Lines.take n)))), (7, E8 PatchLine 2 plineC h.Lines), (8, C6 h.Lines.length), (9, C6 n)], [])) (fun n => n ≤ h.Lines.length ∧ h.Lines.all L7 = (h.Lines.drop n).all L7) (fun n => h.Lines.length - n) 0 ⟨Nat.zero_le _, rfl⟩ (Sees.of ⟨le1 rfl, le1 rfl, le1 rfl, le1 rfl, trivial⟩ trivial) ?_
 rintro n ⟨hn1, hn2⟩
 dsimp only at hn1 hn2 ⊢
 refine k2 ?_
 refine A5 (A2 (F0 Z Z) Z (A6 ?_))
 refine k1 (k2 ?_)
 refine B3 rfl (fun ht => ?_) (fun ht => ?_)
 ·have hlt2 : n < h.Lines.length := by have := A0 ht; omega
  have hv2 : h.Lines[n]? = some h.Lines[n] := by simp [hlt2]
  have hmem2 := z6 (List.getElem_mem hlt2)
  have hsucc := someCh_succ h.Lines n hlt2
  rw [List.drop_eq_getElem_cons hlt2, List.all_cons] at hn2
  obtain ⟨x, hx2⟩ : ∃ x, x = h.Lines[n] := ⟨_, rfl⟩
  rw [← hx2] at hv2 hmem2 hsucc hn2
  refine k5 (k1 (k2 (k3 (k2 ?_))))
  refine A5 (A2 (B4 Z (.pure _ _ _ _) Z (by omega) hv2) Z (A2 (F2 Z Z) Z (C8 (H4 5 Z) Z (F4 (B9 TySz.out Z Z Z Z Z Z) (A6 ?_)))))
  refine k1 (k2 (k2 ?_))
  refine A5 (A2 (A7 Z) Z (A2 (B0 Z Z Z) Z (A2 (J2 Z Z) Z (A2 (A3 Z Z) Z (A8 Z Z Z Z (fun hg => by rw [hg]; exact A7 Z) ?_))))); refine A8 Z Z Z Z (fun hg => by rw [hg]; exact B0 Z Z Z) ?_; refine A8 Z Z Z Z (fun hg => by rw [hg]; exact J2 Z Z) ?_; refine A2 (B2 Z (fun h => by first | rfl | (rw [h]; rfl)) (fun h => by first | rfl | (rw [h]; rfl))) Z ?_; refine A2 (A3 Z Z) Z (A8 Z Z Z Z (fun hg => by rw [hg]; exact A7 Z) ?_); refine A8 Z Z Z Z (fun hg => by rw [hg]; exact B0 Z Z Z) ?_; refine A8 Z Z Z Z (fun hg => by rw [hg]; exact J2 Z Z) ?_; refine A2 (B2 Z (fun h => by first | rfl | (rw [h]; rfl)) (fun h => by first | rfl | (rw [h]; rfl))) Z ?_; refine A2 (A3 Z Z) Z (A8 Z Z Z Z (fun hg => by rw [hg]; exact A7 Z) ?_); refine A8 Z Z Z Z (fun hg => by rw [hg]; exact B0 Z Z Z) ?_; refine A8 Z Z Z Z (fun hg => by have hq := hg; (try simp at hq); rw [hg]; exact F9 (usingle_ok x.Text (by omega)) Z Z) ?_; refine A8 Z Z Z Z (fun hg => by rw [hg]; exact E5 Z) ?_; refine A2 (B2 Z (fun h => by first | rfl | (rw [h]; rfl)) (fun h => by first | rfl | (rw [h]; rfl))) Z ?_; refine A6 ?_
  refine k1 ?_
  refine B3 rfl (fun ht => ?_) (fun ht => ?_)
  ·simp only [kn32, kn45, kn43, H2, notB, or_pick] at ht
   have hb : badLn x := A0 ht
   refine k2 ?_
   refine A5 (A2 (A4 Z Z) Z (A6 ?_))
   refine k1 (k10 (k11 (k12 (k11 (k11 (k12 (k11 ?_)))))))
   refine B5 (G8 Z Z Z) ?_
   have : L7 x = false := decide_eq_false (fun hh => hh hb)
   rw [hn2, this]; rfl
  ·simp only [kn32, kn45, kn43, H2, notB, or_pick] at ht
   have hb : ¬ badLn x := A1 ht
   have hgl : L7 x = true := decide_eq_true hb
   rw [hgl, Bool.true_and] at hn2
   refine k5 (k1 ?_)
   refine A5 (A2 (A3 Z Z) Z (A2 (A3 Z Z) Z (A8 Z Z Z Z (fun hg => by rw [hg]; exact A7 Z) ?_))); refine A8 Z Z Z Z (fun hg => by rw [hg]; exact B0 Z Z Z) ?_; refine A8 Z Z Z Z (fun hg => by rw [hg]; exact J2 Z Z) ?_; refine A2 (B2 Z (fun h => by first | rfl | (rw [h]; rfl)) (fun h => by first | rfl | (rw [h]; rfl))) Z ?_; refine A2 (A4 Z Z) Z (A6 ?_)
   refine k4 (k1 ?_)
   refine A5 (A2 (C3 Z Z (by omega)) Z (A2 (A3 Z Z) Z (A6 ?_)))
   refine k1 ?_
   refine ⟨n + 1, ⟨by omega, hn2⟩, by omega, ?_⟩
   rw [kn32, ← hsucc]
   exact Sees.of ⟨le1 rfl, le1 rfl, le1 rfl, le1 rfl, trivial⟩ trivial
 ·have hn' : n = h.Lines.length := by have := A1 ht; omega
  subst hn'
  rw [List.take_length]
  rw [List.drop_eq_nil_of_le (Nat.le_refl _)] at hn2
  refine k6 (k2 ?_)
  refine A5 (A2 (A3 Z Z) Z (A2 (A4 Z Z) Z (A6 ?_)))
  refine k1 (k10 ?_)
  exact B5 (G8 rfl rfl rfl) (by rw [hn2]; rfl)
theorem uline_met {gf : Fr} {ob : Obs} {k : Nat} {e : Int} {o : Bool} {t : Str} (hk : E2 ob k = some (.box [.p (.v (.int .i64 e)), .p (.v (.bool o))])) (hs : t.length ≤ 1099511627776) :
  Met Tryz.prog 149 [.one (.ref k 0), .one (.p (.v (.string ⟨t.toArray⟩)))] gf ob [] (fun rs ob' => rs = [.one (.p (.v (.bool (!o))))] ∧ ob' = (k, .box [.p (.v (.int .i64 e)), .p (.v (.bool (!ended t)))]) :: ob) := by
 refine Met.intro Tryz.func149 (by decide) Z Z Z ?_
 refine k2 ?_
 refine A5 (A2 (A4 Z Z) Z (A6 ?_))
 refine k1 (k2 ?_)
 refine A5 (A2 (A3 Z Z) Z (A2 (B7 Z) Z (A2 (A7 Z) Z (A2 (B0 Z hk Z) Z (A2 (E5 Z) Z (A2 (A4 Z Z) Z (A6 ?_)))))))
 refine k1 (k2 ?_)
 refine A5 (A2 (A3 Z Z) Z (A2 (A3 Z Z) Z (C0 (tended_ok t hs) Z Z Z ?_))); rintro _ rfl; refine A2 (E5 Z) Z (A2 (B7 Z) Z (A2 (A7 Z) Z (F4 (B9 TySz.out Z hk Z Z Z Z) (A6 ?_))))
 refine k1 (k2 ?_)
 refine A5 (A2 (A3 Z Z) Z (A2 (A4 Z Z) Z (A6 ?_)))
 refine k1 (k10 ?_)
 exact I3 (Y1 rfl rfl) (by repeat (first | exact C9 | refine D1 rfl ?_ | refine E1 _ ?_)) (fun _ _ h => h) ⟨rfl, rfl⟩
end Go.Proofs.YtjjidificdmnmaaGreatDoor
namespace Go.Proofs.YtjjidificdmnmaaGreatDoor
open Go Go.AL
set_option maxRecDepth 100000
def wTo (p : Patch) (k : Nat) : Str := (W5 p ++ ((p.Hunks.take k).map Q2).flatten).flatten
theorem wTo_succ (p : Patch) (k : Nat) (h : k < p.Hunks.length) : wTo p (k + 1) = wTo p k ++ (Q2 p.Hunks[k]).flatten := by
 unfold wTo
 rw [hunkTo_succ _ _ h]; simp only [List.flatten_append, List.append_assoc]
def lTo (ls : List PatchLine) (n : Nat) : Str := ((ls.take n).map N9).flatten.flatten
theorem lTo_succ (ls : List PatchLine) (n : Nat) (h : n < ls.length) : lTo ls (n + 1) = lTo ls n ++ (N9 ls[n]).flatten := by
 unfold lTo; rw [lineTo_succ _ _ h, List.flatten_append]
theorem uwritten_ok (p : Patch) (hp : PFit p) (hrange : ∀ h ∈ p.Hunks, (-4611686018427387904 ≤ h.Old ∧ h.Old ≤ 4611686018427387904) ∧ (-4611686018427387904 ≤ h.New ∧ h.New ≤ 4611686018427387904)) : FnOk Tryz.prog 65 [pPatch p] (fun rs => rs = [F6 (H0 p)]) := by
 have hsl := z7 p.Hunks
 have hpl := hp.hunks
 have hpo := hp.old
 have hpn := hp.new
 have hq1 := a7 p.OldName
 have hq2 := a7 p.NewName
 have hnf := o9 p
 have hw0 : wTo p 0 = [45, 45, 45, 32] ++ I4 p.OldName ++ [10, 43, 43, 43, 32] ++ I4 p.NewName ++ [10] := by
  unfold wTo W5; simp
 have hwl : ∀ k, (wTo p k).length ≤ 33554446 + szP p.Hunks := fun k => by
  have h1 := i7 (p.Hunks.take k)
  have h2 := szP_take p.Hunks k
  unfold wTo; rw [List.flatten_append, List.length_append]; omega
 refine FnOk.intro Tryz.func65 (by decide) Z Z Z Z ?_
 refine k2 ?_
 refine A5 (C8 (l4 1 Z Z Z) Z (A2 (A4 Z Z) Z (A6 ?_)))
 refine k1 (k2 ?_)
 refine A5 (C8 (f_allocT 700 Z) Z (A6 ?_))
 refine k1 (k2 ?_)
 refine G7 (Sees.adoptT 701 UInt8 1 u8C 5 (kb := 700) (o := 1) Z Z Z) ?_
 have hwl0 := hwl 0
 rw [hw0] at hwl0
 refine U7 10 (by kernel_rfl) (by kernel_rfl) Z (A9 (A7 Z) Z Z (A9 (B0 Z Z Z) Z Z (A9 (F9 (squote_ok p.OldName (by omega)) Z Z) Z Z (A9 (F5 Z Z (by (simp only [List.length_cons, List.length_nil]; omega))) Z Z (A9 (F5 Z Z (by (simp only [List.length_append, List.length_cons, List.length_nil]; omega))) Z Z (A9 (A7 Z) Z Z (A9 (B0 Z Z Z) Z Z (A9 (F9 (squote_ok p.NewName (by omega)) Z Z) Z Z (A9 (F5 Z Z (by (simp only [List.length_append, List.length_cons, List.length_nil]; omega))) Z Z (A9 (F5 Z Z (by (simp only [List.length_append, List.length_cons, List.length_nil]; omega))) Z Z (H3 (met_step (U3 (xs := []) ⟨⟨_, .inl rfl, rfl⟩, rfl⟩ (by simp only [List.length_nil]; omega)) Z Z Z ?_)))))))))))); rintro _ _ ⟨rfl, rfl⟩; refine ⟨_, rfl, ?_⟩; refine H3 ?_
 rw [← hw0]
 refine k1 (k2 (k2 ?_))
 refine A5 (A2 (A7 Z) Z (A2 (B0 Z Z Z) Z (A2 (F8 Z (.pure _ _ _ _)) Z (A2 (A3 Z Z) Z (A6 ?_)))))
 refine k1 (k3 ?_)
 refine E9 (X := Nat) (fun k => ([(3, .s (.one (.ref 700 0))), (20, E8 PatchHunk 3 phunkC p.Hunks), (21, C6 p.Hunks.length), (22, C6 k)], [(700, .tbx 132 [.ref 700 0, .buf 701 UInt8 1 u8C (wTo p k)]), (701, .spare (wTo p k).length 1 5)])) (fun k => k ≤ p.Hunks.length) (fun k => p.Hunks.length - k) 0 (Nat.zero_le _) (Sees.of ⟨le1 rfl, le1 rfl, le1 rfl, le1 rfl, trivial⟩ ⟨rfl, rfl, trivial⟩) ?_
 intro k hk
 dsimp only at hk ⊢
 refine k2 ?_
 refine A5 (A2 (F0 Z Z) Z (A6 ?_))
 refine k1 (k2 ?_)
 refine B3 rfl (fun ht => ?_) (fun ht => ?_)
 ·have hlt : k < p.Hunks.length := by have := A0 ht; omega
  have hv : p.Hunks[k]? = some p.Hunks[k] := by simp [hlt]
  have hmem : p.Hunks[k] ∈ p.Hunks := List.getElem_mem hlt
  have hsucc := wTo_succ p k hlt
  have hwk := hwl k
  obtain ⟨h, hx⟩ : ∃ x, x = p.Hunks[k] := ⟨_, rfl⟩
  rw [← hx] at hv hmem hsucc
  have h1 := n5 hmem
  have h3 := V6 h.Lines
  have h4 := headW_len h
  have hr := hrange h hmem
  unfold szH at h1
  obtain ⟨base, hbase⟩ : ∃ base, base = wTo p k := ⟨_, rfl⟩
  rw [← hbase] at hsucc hwk ⊢
  refine k5 (k1 (k2 (k3 (k2 ?_))))
  refine A5 (A2 (B4 Z (.pure _ _ _ _) Z (by omega) hv) Z (A2 (F2 Z Z) Z (C8 (H4 5 Z) Z (F4 (B9 TySz.out Z Z Z Z Z Z) (A6 ?_)))))
  refine k1 (k2 ?_)
  refine A5 (A2 (D7 Z Z Z) Z (C0 (uheader_ok h (by omega) hr.1 hr.2) Z Z Z ?_)); rintro _ rfl; refine S3 (U3 (xs := base) (s := S7 h) ⟨⟨_, .inr rfl, rfl⟩, rfl⟩ (by omega)) Z Z Z ?_; rintro _ _ ⟨rfl, rfl⟩; refine A6 ?_
  refine k1 (k2 ?_)
  refine A5 (A2 (A7 Z) Z (A2 (B0 Z Z Z) Z (A2 (F8 Z (.pure _ _ _ _)) Z (A2 (A3 Z Z) Z (A6 ?_)))))
  refine k1 (k3 ?_)
  refine E9 (X := Nat) (fun n => ([(3, .s (.one (.ref 700 0))), (20, E8 PatchHunk 3 phunkC p.Hunks), (21, C6 p.Hunks.length), (22, C6 k), (30, E8 PatchLine 2 plineC h.Lines), (31, C6 h.Lines.length), (32, C6 n)], [(700, .tbx 132 [.ref 700 0, .buf 701 UInt8 1 u8C (base ++ S7 h ++ lTo h.Lines n)]), (701, .spare (base ++ S7 h ++ lTo h.Lines n).length 1 5)])) (fun n => n ≤ h.Lines.length) (fun n => h.Lines.length - n) 0 (Nat.zero_le _) ?_ ?_
  ·have e : base ++ S7 h ++ lTo h.Lines 0 = base ++ S7 h := by simp [lTo]
   rw [e]
   exact Sees.of ⟨le1 rfl, le1 rfl, le1 rfl, le1 rfl, le1 rfl, le1 rfl, le1 rfl, trivial⟩ ⟨rfl, rfl, trivial⟩
  intro n hn1
  dsimp only at hn1 ⊢
  have hll := linesPs_flat (h.Lines.take n)
  have hl2 := szL_take h.Lines n
  have hlt0 : (lTo h.Lines n).length ≤ (h.Lines.map szL).sum := by unfold lTo; omega
  refine k2 ?_
  refine A5 (A2 (F0 Z Z) Z (A6 ?_))
  refine k1 (k2 ?_)
  refine B3 rfl (fun ht => ?_) (fun ht => ?_)
  ·have hlt2 : n < h.Lines.length := by have := A0 ht; omega
   have hv2 : h.Lines[n]? = some h.Lines[n] := by simp [hlt2]
   have hmem2 := z6 (List.getElem_mem hlt2)
   have hsucc2 := lTo_succ h.Lines n hlt2
   obtain ⟨x, hx2⟩ : ∃ x, x = h.Lines[n] := ⟨_, rfl⟩
   rw [← hx2] at hv2 hmem2 hsucc2
   obtain ⟨bs, hbs⟩ : ∃ bs, bs = base ++ S7 h ++ lTo h.Lines n := ⟨_, rfl⟩
   have hbl : bs.length ≤ 33554446 + szP p.Hunks + 52 + szP p.Hunks := by rw [hbs, List.length_append, List.length_append]; omega
   rw [← hbs]
   have hm29 : markS.length = 29 := rfl
   refine k5 (k1 (k2 (k3 (k2 ?_))))
   refine A5 (A2 (B4 Z (.pure _ _ _ _) Z (by omega) hv2) Z (A2 (F2 Z Z) Z (C8 (H4 7 Z) Z (F4 (B9 TySz.out Z Z Z Z Z Z) (A6 ?_)))))
   refine k1 (k2 ?_)
   refine A5 (A2 (A7 Z) Z (A2 (B0 Z Z Z) Z (S3 (writeByte_met (xs := bs) (c := x.Kind) ⟨⟨_, .inr rfl, rfl⟩, rfl⟩ (by omega)) Z Z Z ?_))); rintro _ _ ⟨rfl, rfl⟩; refine A6 ?_
   refine k1 (k2 ?_)
   refine A5 (A2 (A7 Z) Z (A2 (B0 Z Z Z) Z (S3 (U3 (xs := bs ++ [x.Kind]) (s := x.Text) ⟨⟨_, .inr rfl, rfl⟩, rfl⟩ (by simp only [List.length_append, List.length_cons, List.length_nil]; omega)) Z Z Z ?_))); rintro _ _ ⟨rfl, rfl⟩; refine A6 ?_
   refine k1 (k2 ?_)
   refine A5 (A2 (A7 Z) Z (A2 (B0 Z Z Z) Z (C0 (tended_ok x.Text (by omega)) Z Z Z ?_))); rintro _ rfl; refine A2 (E5 Z) Z (A6 ?_)
   refine k1 ?_
   refine B3 rfl (fun ht => ?_) (fun ht => ?_)
   ·have h2 : ended x.Text = false := by simpa using ht
    have e : base ++ S7 h ++ lTo h.Lines (n + 1) = bs ++ [x.Kind] ++ x.Text ++ markS := by
     rw [hsucc2, hbs, N9, h2]; simp
    skip
    refine A5 (S3 (U3 (xs := bs ++ [x.Kind] ++ x.Text) (s := markS) ⟨⟨_, .inr rfl, rfl⟩, rfl⟩ (by simp only [List.length_append, List.length_cons, List.length_nil]; omega)) Z Z Z ?_); rintro _ _ ⟨rfl, rfl⟩; refine A6 ?_
    refine k4 (k1 ?_)
    refine A5 (A2 (C3 Z Z (by omega)) Z (A2 (A3 Z Z) Z (A6 ?_)))
    refine k1 ?_
    refine ⟨n + 1, by omega, by omega, ?_⟩
    rw [e]
    exact Sees.of ⟨le1 rfl, le1 rfl, le1 rfl, le1 rfl, le1 rfl, le1 rfl, le1 rfl, trivial⟩ ⟨rfl, rfl, trivial⟩
   ·have h2 : ended x.Text = true := by simpa using ht
    have e : base ++ S7 h ++ lTo h.Lines (n + 1) = bs ++ [x.Kind] ++ x.Text := by
     rw [hsucc2, hbs, N9, h2]; simp
    refine k5 (k4 (k1 ?_))
    refine A5 (A2 (C3 Z Z (by omega)) Z (A2 (A3 Z Z) Z (A6 ?_)))
    refine k1 ?_
    refine ⟨n + 1, by omega, by omega, ?_⟩
    rw [e]
    exact Sees.of ⟨le1 rfl, le1 rfl, le1 rfl, le1 rfl, le1 rfl, le1 rfl, le1 rfl, trivial⟩ ⟨rfl, rfl, trivial⟩
  ·have hn' : n = h.Lines.length := by have := A1 ht; omega
   subst hn'
   have e : wTo p (k + 1) = base ++ S7 h ++ lTo h.Lines h.Lines.length := by
    rw [hsucc, Q2, lTo, List.take_length]; simp
   rw [← e]
   refine k6 (k7 (k7 (k8 Z (k4 (k1 ?_)))))
   refine A5 (A2 (C3 Z Z (by omega)) Z (A2 (A3 Z Z) Z (A6 ?_)))
   refine k1 ?_
   exact ⟨k + 1, by omega, by omega, Sees.of ⟨le1 rfl, le1 rfl, le1 rfl, le1 rfl, trivial⟩ ⟨rfl, rfl, trivial⟩⟩
 ·have hk' : k = p.Hunks.length := by have := A1 ht; omega
  subst hk'
  have e : wTo p p.Hunks.length = H0 p := by unfold wTo H0 writePs; rw [List.take_length]
  rw [e]
  refine k6 (k2 ?_)
  refine A5 (l_bstring (k := 700) (k' := 701) ⟨_, rfl, rfl, rfl⟩ bstring_calls Z Z Z Z Z (.inr Z) Z (A2 (A4 Z Z) Z (A6 ?_)))
  refine k1 (k10 ?_)
  exact B5 (G8 rfl rfl rfl) rfl
theorem usize_ok (p : Patch) (hp : PFit p) (hrange : ∀ h ∈ p.Hunks, (-4611686018427387904 ≤ h.Old ∧ h.Old ≤ 4611686018427387904) ∧ (-4611686018427387904 ≤ h.New ∧ h.New ≤ 4611686018427387904)) : FnOk Tryz.prog 68 [pPatch p] (fun rs => rs = [D2 (H0 p).length]) := by
 have hsl := z7 p.Hunks
 have hpl := hp.hunks
 have hpo := hp.old
 have hpn := hp.new
 have hnf := o9 p
 have hw0 : (H0 ⟨p.OldName, p.NewName, []⟩).length = (wTo p 0).length := by
  unfold H0 wTo writePs W5; simp
 have hwl : ∀ k, (wTo p k).length ≤ 33554446 + szP p.Hunks := fun k => by
  have h1 := i7 (p.Hunks.take k)
  have h2 := szP_take p.Hunks k
  unfold wTo; rw [List.flatten_append, List.length_append]; omega
 refine FnOk.intro Tryz.func68 (by decide) Z Z Z Z ?_
 refine k2 ?_
 refine A5 (C8 (l4 1 Z Z Z) Z (A2 (A4 Z Z) Z (A6 ?_)))
 refine k1 (k2 ?_)
 refine A5 (A2 (A7 Z) Z (A2 (B0 Z Z Z) Z (A2 (A7 Z) Z (A2 (B0 Z Z Z) Z (A2 (G4 Z) Z (l_sees (Sees.aggNil PatchHunk 3 phunkC 12 2 Z Z) (C0 (uwritten_ok ⟨p.OldName, p.NewName, []⟩ ⟨by dsimp only; omega, by dsimp only; omega, by simp [szP]⟩ (by simp)) Z Z Z ?_))))))); rintro _ rfl; refine A2 (D8 Z) Z (A2 (A4 Z Z) Z (A6 ?_))
 rw [hw0]
 refine k1 (k2 (k2 ?_))
 refine A5 (A2 (A7 Z) Z (A2 (B0 Z Z Z) Z (A2 (F8 Z (.pure _ _ _ _)) Z (A2 (A3 Z Z) Z (A6 ?_)))))
 refine k1 (k3 ?_)
 refine E9 (X := Nat) (fun k => ([(3, C6 (wTo p k).length), (16, E8 PatchHunk 3 phunkC p.Hunks), (17, C6 p.Hunks.length), (18, C6 k)], [])) (fun k => k ≤ p.Hunks.length) (fun k => p.Hunks.length - k) 0 (Nat.zero_le _) (Sees.of ⟨le1 rfl, le1 rfl, le1 rfl, le1 rfl, trivial⟩ trivial) ?_
 intro k hk
 dsimp only at hk ⊢
 have hwk := hwl k
 refine k2 ?_
 refine A5 (A2 (F0 Z Z) Z (A6 ?_))
 refine k1 (k2 ?_)
 refine B3 rfl (fun ht => ?_) (fun ht => ?_)
 ·have hlt : k < p.Hunks.length := by have := A0 ht; omega
  have hv : p.Hunks[k]? = some p.Hunks[k] := by simp [hlt]
  have hmem : p.Hunks[k] ∈ p.Hunks := List.getElem_mem hlt
  have hsucc := wTo_succ p k hlt
  obtain ⟨h, hx⟩ : ∃ x, x = p.Hunks[k] := ⟨_, rfl⟩
  rw [← hx] at hv hmem hsucc
  have h1 := n5 hmem
  have h3 := V6 h.Lines
  have h4 := headW_len h
  have hr := hrange h hmem
  unfold szH at h1
  obtain ⟨base, hbase⟩ : ∃ base, base = (wTo p k).length := ⟨_, rfl⟩
  rw [← hbase] at hwk ⊢
  have hsl2 : (wTo p (k + 1)).length = base + (S7 h).length + (lTo h.Lines h.Lines.length).length := by
   rw [hsucc, Q2, lTo, List.take_length, hbase]; simp; omega
  refine k5 (k1 (k2 (k3 (k2 ?_))))
  refine A5 (A2 (B4 Z (.pure _ _ _ _) Z (by omega) hv) Z (A2 (F2 Z Z) Z (C8 (H4 5 Z) Z (F4 (B9 TySz.out Z Z Z Z Z Z) (A6 ?_)))))
  refine k1 (k2 ?_)
  refine A5 (A2 (A3 Z Z) Z (A2 (D7 Z Z Z) Z (C0 (uheader_ok h (by omega) hr.1 hr.2) Z Z Z ?_))); rintro _ rfl; refine A2 (D8 Z) Z (A2 (C3 Z Z (by omega)) Z (A2 (A4 Z Z) Z (A6 ?_)))
  refine k1 (k2 ?_)
  refine A5 (A2 (A7 Z) Z (A2 (B0 Z Z Z) Z (A2 (F8 Z (.pure _ _ _ _)) Z (A2 (A3 Z Z) Z (A6 ?_)))))
  refine k1 (k3 ?_)
  refine E9 (X := Nat) (fun n => ([(3, C6 (base + (S7 h).length + (lTo h.Lines n).length : Nat)), (16, E8 PatchHunk 3 phunkC p.Hunks), (17, C6 p.Hunks.length), (18, C6 k), (28, E8 PatchLine 2 plineC h.Lines), (29, C6 h.Lines.length), (30, C6 n)], [])) (fun n => n ≤ h.Lines.length) (fun n => h.Lines.length - n) 0 (Nat.zero_le _) ?_ ?_
  ·have e : ((base + (S7 h).length + (lTo h.Lines 0).length : Nat) : Int) = (base : Int) + ((S7 h).length : Int) := by simp [lTo]
   rw [e]
   exact Sees.of ⟨le1 rfl, le1 rfl, le1 rfl, le1 rfl, le1 rfl, le1 rfl, le1 rfl, trivial⟩ trivial
  intro n hn1
  dsimp only at hn1 ⊢
  have hll := linesPs_flat (h.Lines.take n)
  have hl2 := szL_take h.Lines n
  have hlt0 : (lTo h.Lines n).length ≤ (h.Lines.map szL).sum := by unfold lTo; omega
  refine k2 ?_
  refine A5 (A2 (F0 Z Z) Z (A6 ?_))
  refine k1 (k2 ?_)
  refine B3 rfl (fun ht => ?_) (fun ht => ?_)
  ·have hlt2 : n < h.Lines.length := by have := A0 ht; omega
   have hv2 : h.Lines[n]? = some h.Lines[n] := by simp [hlt2]
   have hmem2 := z6 (List.getElem_mem hlt2)
   have hsucc2 := lTo_succ h.Lines n hlt2
   obtain ⟨x, hx2⟩ : ∃ x, x = h.Lines[n] := ⟨_, rfl⟩
   rw [← hx2] at hv2 hmem2 hsucc2
   have hm29 : markS.length = 29 := rfl
   refine k5 (k1 (k2 (k3 (k2 ?_))))
   refine A5 (A2 (B4 Z (.pure _ _ _ _) Z (by omega) hv2) Z (A2 (F2 Z Z) Z (C8 (H4 7 Z) Z (F4 (B9 TySz.out Z Z Z Z Z Z) (A6 ?_)))))
   refine k1 (k2 ?_)
   refine A5 (A2 (A3 Z Z) Z (A2 (A7 Z) Z (A2 (B0 Z Z Z) Z (A2 (D8 Z) Z (A2 (C3 Z Z (by omega)) Z (A2 (C3 Z Z (by omega)) Z (A2 (A4 Z Z) Z (A6 ?_))))))))
   refine k1 (k2 ?_)
   refine A5 (A2 (A7 Z) Z (A2 (B0 Z Z Z) Z (C0 (tended_ok x.Text (by omega)) Z Z Z ?_))); rintro _ rfl; refine A2 (E5 Z) Z (A6 ?_)
   refine k1 ?_
   refine B3 rfl (fun ht => ?_) (fun ht => ?_)
   ·have h2 : ended x.Text = false := by simpa using ht
    have e : ((base + (S7 h).length + (lTo h.Lines (n + 1)).length : Nat) : Int) = ((base + (S7 h).length + (lTo h.Lines n).length : Nat) : Int) + (1 + (x.Text.length : Int)) + 29 := by
     rw [hsucc2, N9, h2]; simp [hm29]; omega
    skip
    refine A5 (A2 (A3 Z Z) Z (A2 (C3 Z Z (by omega)) Z (A2 (A4 Z Z) Z (A6 ?_))))
    refine k4 (k1 ?_)
    refine A5 (A2 (C3 Z Z (by omega)) Z (A2 (A3 Z Z) Z (A6 ?_)))
    refine k1 ?_
    refine ⟨n + 1, by omega, by omega, ?_⟩
    rw [e]
    exact Sees.of ⟨le1 rfl, le1 rfl, le1 rfl, le1 rfl, le1 rfl, le1 rfl, le1 rfl, trivial⟩ trivial
   ·have h2 : ended x.Text = true := by simpa using ht
    have e : ((base + (S7 h).length + (lTo h.Lines (n + 1)).length : Nat) : Int) = ((base + (S7 h).length + (lTo h.Lines n).length : Nat) : Int) + (1 + (x.Text.length : Int)) := by
     rw [hsucc2, N9, h2]; simp; omega
    refine k5 (k4 (k1 ?_))
    refine A5 (A2 (C3 Z Z (by omega)) Z (A2 (A3 Z Z) Z (A6 ?_)))
    refine k1 ?_
    refine ⟨n + 1, by omega, by omega, ?_⟩
    rw [e]
    exact Sees.of ⟨le1 rfl, le1 rfl, le1 rfl, le1 rfl, le1 rfl, le1 rfl, le1 rfl, trivial⟩ trivial
  ·have hn' : n = h.Lines.length := by have := A1 ht; omega
   subst hn'
   rw [← hsl2]
   refine k6 (k7 (k7 (k8 Z (k4 (k1 ?_)))))
   refine A5 (A2 (C3 Z Z (by omega)) Z (A2 (A3 Z Z) Z (A6 ?_)))
   refine k1 ?_
   exact ⟨k + 1, by omega, by omega, Sees.of ⟨le1 rfl, le1 rfl, le1 rfl, le1 rfl, trivial⟩ trivial⟩
 ·have hk' : k = p.Hunks.length := by have := A1 ht; omega
  subst hk'
  have e : wTo p p.Hunks.length = H0 p := by unfold wTo H0 writePs; rw [List.take_length]
  rw [e]
  refine k6 (k2 ?_)
  refine A5 (A2 (A3 Z Z) Z (A2 (A4 Z Z) Z (A6 ?_)))
  refine k1 (k10 ?_)
  exact B5 (G8 rfl rfl rfl) rfl
abbrev V4 (e : Int) (o : Bool) : Ob := .box [.p (.v (.int .i64 e)), .p (.v (.bool o))]
theorem uplaced_met {gf : Fr} (h h' : PatchHunk) (i j : Int) (o n : Bool) (hl : (h.Lines.map szL).sum ≤ 268435456) (hi : 0 ≤ i ∧ i ≤ 8192) (hj : 0 ≤ j ∧ j ≤ 8192) (hf3 : H5 3 gf = true) (hf8 : H5 8 gf = true) :
  Met Tryz.prog 103 [(pPhunk h).s1, .one (.ref 710 0), .one (.ref 711 0)] gf [(6, .box (pPhunk h').s1.cells), (710, V4 i o), (711, V4 j n)] []
   (fun rs ob' => ∃ b, rs = [.one (.p (.v (.bool b)))] ∧ b = (decide (¬ S9 i j h) && match j3 o n h.Lines with
    | none => false
    | some _ => decide (h.Old + J0 h ≤ 4096 ∧ h.New + J5 h ≤ 4096)) ∧
    (b = true → ∃ o' n', j3 o n h.Lines = some (o', n') ∧ ob' = [(6, .box (pPhunk h').s1.cells), (710, V4 (h.Old + J0 h) o'), (711, V4 (h.New + J5 h) n')])) := by
 refine Met.introH Tryz.func103 (by decide) rfl rfl rfl (fun hH => ?_)
 refine k2 ?_
 refine A5 (C8 (l4 3 Z Z (show ((H5 3 gf && true) && true) = true by rw [hf3]; rfl)) Z ?_); refine A2 (A4 Z Z) Z (A6 ?_)
 refine k1 (k2 (k2 ?_))
 refine C2 (by kernel_rfl) (by kernel_rfl) (A9 (A7 Z) Z Z (A9 (B0 Z Z Z) Z Z (A9 (F0 Z Z) Z Z (A9 (A3 Z Z) Z Z (B6 Z Z (fun hg => by rw [hg]; exact A7 Z) Z Z ?_))))); refine B6 Z Z (fun hg => by rw [hg]; exact B0 Z Z Z) Z Z ?_; refine B6 Z Z (fun hg => by rw [hg]; exact F0 Z Z) Z Z ?_; refine A9 (B2 Z (fun h => by first | rfl | (rw [h]; rfl)) (fun h => by first | rfl | (rw [h]; rfl))) Z Z ?_; refine A9 (A3 Z Z) Z Z (B6 Z Z (fun hg => by rw [hg]; exact A7 Z) Z Z ?_); refine B6 Z Z (fun hg => by rw [hg]; exact B0 Z Z Z) Z Z ?_; refine B6 Z Z (fun hg => by rw [hg]; exact L9 Z Z) Z Z ?_; refine A9 (B2 Z (fun h => by first | rfl | (rw [h]; rfl)) (fun h => by first | rfl | (rw [h]; rfl))) Z Z ?_; refine A9 (A3 Z Z) Z Z (B6 Z Z (fun hg => by rw [hg]; exact A7 Z) Z Z ?_); refine B6 Z Z (fun hg => by rw [hg]; exact B0 Z Z Z) Z Z ?_; refine B6 Z Z (fun hg => by rw [hg]; exact L9 Z Z) Z Z ?_; refine A9 (B2 Z (fun h => by first | rfl | (rw [h]; rfl)) (fun h => by first | rfl | (rw [h]; rfl))) Z Z ?_; refine A9 (A3 Z Z) Z Z (B6 Z Z (fun hg => by rw [hg]; exact A7 Z) Z Z ?_); refine B6 Z Z (fun hg => by rw [hg]; exact B0 Z Z Z) Z Z ?_; refine B6 Z Z (fun hg => by rw [hg]; exact A3 Z Z) Z Z ?_; refine B6 Z Z (fun hg => by rw [hg]; exact B7 Z) Z Z ?_; refine B6 Z Z (fun hg => by rw [hg]; exact A7 Z) Z Z ?_; refine B6 Z Z (fun hg => by rw [hg]; exact B0 Z Z Z) Z Z ?_; refine B6 Z Z (fun hg => by rw [hg]; exact F0 Z Z) Z Z ?_; refine A9 (B2 Z (fun h => by first | rfl | (rw [h]; rfl)) (fun h => by first | rfl | (rw [h]; rfl))) Z Z ?_; refine A9 (A3 Z Z) Z Z (B6 Z Z (fun hg => by rw [hg]; exact A7 Z) Z Z ?_); refine B6 Z Z (fun hg => by rw [hg]; exact B0 Z Z Z) Z Z ?_; refine B6 Z Z (fun hg => by rw [hg]; exact A3 Z Z) Z Z ?_; refine B6 Z Z (fun hg => by rw [hg]; exact B7 Z) Z Z ?_; refine B6 Z Z (fun hg => by rw [hg]; exact A7 Z) Z Z ?_; refine B6 Z Z (fun hg => by rw [hg]; exact B0 Z Z Z) Z Z ?_; refine B6 Z Z (fun hg => by have hq := hg; (try simp at hq); rw [hg]; exact L8 Z Z (by omega)) Z Z ?_; refine B6 Z Z (fun hg => by rw [hg]; exact A7 Z) Z Z ?_; refine B6 Z Z (fun hg => by rw [hg]; exact B0 Z Z Z) Z Z ?_
 refine B6 Z Z (fun hg => by rw [hg]; exact A3 Z Z) Z Z ?_; refine B6 Z Z (fun hg => by rw [hg]; exact B7 Z) Z Z ?_; refine B6 Z Z (fun hg => by rw [hg]; exact A7 Z) Z Z ?_; refine B6 Z Z (fun hg => by rw [hg]; exact B0 Z Z Z) Z Z ?_; refine B6 Z Z (fun hg => by have hq := hg; (try simp at hq); rw [hg]; exact L8 Z Z (by omega)) Z Z ?_; refine B6 Z Z (fun hg => by rw [hg]; exact J2 Z Z) Z Z ?_; refine A9 (B2 Z (fun h => by first | rfl | (rw [h]; rfl)) (fun h => by first | rfl | (rw [h]; rfl))) Z Z ?_; refine H3 ?_
 refine k1 ?_
 refine B3 rfl (fun ht => ?_) (fun ht => ?_)
 ·simp only [or_pick] at ht
  have hb : S9 i j h := A0 ht
  refine k2 ?_
  refine A5 (A2 (A4 Z Z) Z (A6 ?_))
  refine k1 (k10 (k11 ?_))
  refine I3 (Y1 rfl rfl) (by repeat (first | exact C9 | refine D1 rfl ?_ | refine E1 _ ?_)) (fun _ _ h => h) ⟨false, rfl, by rw [decide_eq_false (fun hh => hh hb)]; rfl, fun hh => by cases hh⟩
 ·simp only [or_pick] at ht
  have hb : ¬ S9 i j h := A1 ht
  have hln := V6 h.Lines
  refine k5 (k1 (k2 (k2 ?_)))
  refine A5 (A2 (A7 Z) Z (A2 (B0 Z Z Z) Z (A2 (F8 Z (.pure _ _ _ _)) Z (A2 (A3 Z Z) Z (A6 ?_)))))
  refine k1 (k3 ?_)
  refine E9 (X := Nat × Bool × Bool) (fun z => ([(1, .s (.one (.ref 710 0))), (2, .s (.one (.ref 711 0))), (3, .s (.one (.ref 3 0))), (56, E8 PatchLine 2 plineC h.Lines), (57, C6 h.Lines.length), (58, C6 z.1)] ++ gf, [(3, .box (pPhunk h).s1.cells), (6, .box (pPhunk h').s1.cells), (710, V4 i z.2.1), (711, V4 j z.2.2)])) (fun z => z.1 ≤ h.Lines.length ∧ j3 o n h.Lines = j3 z.2.1 z.2.2 (h.Lines.drop z.1)) (fun z => h.Lines.length - z.1) (0, o, n) ⟨Nat.zero_le _, rfl⟩ ?_ ?_
  ·exact Sees.tailed ⟨le1 rfl, le1 rfl, le1 rfl, le1 rfl, le1 rfl, le1 rfl, trivial⟩ hH (by repeat (first | exact C9 | refine D1 rfl ?_)) (fun _ _ hh => hh)
  rintro ⟨k, ok, nk⟩ ⟨hk, hp⟩
  dsimp only at hk hp ⊢
  refine k2 ?_
  refine A5 (A2 (F0 Z Z) Z (A6 ?_))
  refine k1 (k2 ?_)
  refine B3 rfl (fun ht => ?_) (fun ht => ?_)
  ·have hlt : k < h.Lines.length := by have := A0 ht; omega
   have hv : h.Lines[k]? = some h.Lines[k] := by simp [hlt]
   have hmem2 := z6 (List.getElem_mem hlt)
   rw [List.drop_eq_getElem_cons hlt, j3] at hp
   obtain ⟨x, hx⟩ : ∃ x, x = h.Lines[k] := ⟨_, rfl⟩
   rw [← hx] at hv hmem2 hp
   refine k5 (k1 (k2 (k3 (k2 ?_))))
   refine A5 (A2 (B4 Z (.pure _ _ _ _) Z (by omega) hv) Z (A2 (F2 Z Z) Z (C8 (H4 8 (show ((H5 8 gf && true) = true) by rw [hf8]; rfl)) Z ?_))); refine F4 (B9 TySz.out Z Z Z Z Z Z) (A6 ?_)
   refine k1 (k2 ?_)
   refine c_cut ([(1, .s (.one (.ref 710 0))), (2, .s (.one (.ref 711 0))), (3, .s (.one (.ref 3 0))), (8, .s (.one (.ref 8 0))), (56, E8 PatchLine 2 plineC h.Lines), (57, C6 h.Lines.length), (58, C6 k)] ++ gf) [(8, .box [.p (.v (.int .u8 x.Kind.toNat)), .p (.v (.string ⟨x.Text.toArray⟩))]), (3, .box (pPhunk h).s1.cells), (6, .box (pPhunk h').s1.cells), (710, V4 i ok), (711, V4 j nk)] (Sees.tailed ⟨le1 rfl, le1 rfl, le1 rfl, le1 rfl, le1 rfl, le1 rfl, le1 rfl, trivial⟩ hH (by repeat (first | exact C9 | refine D1 rfl ?_ | refine K6 _ ?_)) (ObIn.spec ⟨rfl, rfl, rfl, rfl, rfl, trivial⟩)) ?_
   have hneg : ∀ {b : Bool}, b = (decide (¬ S9 i j h) && match j3 o n h.Lines with
    | none => false
    | some _ => decide (h.Old + J0 h ≤ 4096 ∧ h.New + J5 h ≤ 4096)) → j3 o n h.Lines = none → b = false := fun h1 h2 => by rw [h1, h2]; simp
   by_cases c1 : x.Kind ≠ 43
   ·have c1n : (x.Kind.toNat : Int) ≠ 43 := (decide_eq_decide.1 (n4 x.Kind 43)).2 c1
    cases ok with
    | true =>
     rw [if_pos ⟨c1, rfl⟩] at hp
     refine A5 (A2 (A7 Z) Z (A2 (B0 Z Z Z) Z (A2 (J2 Z Z) Z (A2 (A3 Z Z) Z (E0 Z Z Z (by simp [c1n]) (A2 (A3 Z Z) Z (E0 Z Z Z (by simp [c1n]) (A2 (A7 Z) Z (E0 Z Z Z (by simp [c1n]) (A2 (B0 Z Z Z) Z (E0 Z Z Z (by simp [c1n]) (S3 (uline_met (k := 710) (e := i) (o := true) Z (by omega)) Z Z Z ?_)))))))))))); rintro _ _ ⟨rfl, rfl⟩; refine E0 Z Z Z (by simp [c1n]) (A2 (E5 Z) Z (A2 (B2 Z (fun h => by first | rfl | (rw [h]; rfl)) (fun h => by first | rfl | (rw [h]; rfl))) Z ?_)); refine A2 (A3 Z Z) Z (G3 Z Z Z (by simp [c1n]) Z (G3 Z Z Z (by simp [c1n]) Z (G3 Z Z Z (by simp [c1n]) Z (G3 Z Z Z (by simp [c1n]) Z (S0 (s := .any) Z Z Z .un Z (fun h => absurd h (by decide)) (S0 (s := .any) Z Z Z .un Z (fun h => absurd h (by decide)) (S0 (s := .any) Z Z Z .un Z (fun h => absurd h (by decide)) (S0 (s := .any) Z Z Z .un Z (fun h => absurd h (by decide)) (S0 (s := .any) Z Z Z .un Z (fun h => absurd h (by decide)) (G3 Z Z Z (by simp [c1n]) Z (A2 (S4 Z ((by simp [c1n])) Z) Z (A6 ?_))))))))))))
     refine k1 ?_
     refine B3 rfl (fun ht => ?_) (fun ht => ?_)
     ·refine k2 ?_
      refine A5 (A2 (A4 Z Z) Z (A6 ?_))
      refine k1 (k10 (k12 (k11 (k11 (k12 (k11 ?_))))))
      refine I3 (Y1 rfl rfl) (by repeat (first | exact C9 | refine D1 rfl ?_ | refine E1 _ ?_)) (fun _ _ h => h) ⟨false, rfl, by rw [hp]; simp, fun hh => by cases hh⟩
     ·cases ht
    | false =>
     rw [if_neg (by simp)] at hp
     by_cases c2 : x.Kind ≠ 45
     ·have c2n : (x.Kind.toNat : Int) ≠ 45 := (decide_eq_decide.1 (n4 x.Kind 45)).2 c2
      refine A5 (A2 (A7 Z) Z (A2 (B0 Z Z Z) Z (A2 (J2 Z Z) Z (A2 (A3 Z Z) Z (E0 Z Z Z (by simp [c1n]) (A2 (A3 Z Z) Z (E0 Z Z Z (by simp [c1n]) (A2 (A7 Z) Z (E0 Z Z Z (by simp [c1n]) (A2 (B0 Z Z Z) Z (E0 Z Z Z (by simp [c1n]) (S3 (uline_met (k := 710) (e := i) (o := false) Z (by omega)) Z Z Z ?_)))))))))))); rintro _ _ ⟨rfl, rfl⟩; refine E0 Z Z Z (by simp [c1n]) (A2 (E5 Z) Z (A2 (B2 Z (fun h => by first | rfl | (rw [h]; rfl)) (fun h => by first | rfl | (rw [h]; rfl))) Z ?_)); refine A2 (A3 Z Z) Z (E0 Z Z Z (by simp [c1n]) (A2 (A7 Z) Z (E0 Z Z Z (by simp [c1n]) (A2 (B0 Z Z Z) Z (E0 Z Z Z (by simp [c1n]) (A2 (J2 Z Z) Z (E0 Z Z Z (by simp [c1n]) (A2 (A3 Z Z) Z (E0 Z Z Z (by simp [c1n, c2n]) (A2 (A3 Z Z) Z (E0 Z Z Z (by simp [c1n, c2n]) (A2 (A7 Z) Z (E0 Z Z Z (by simp [c1n, c2n]) (A2 (B0 Z Z Z) Z (E0 Z Z Z (by simp [c1n, c2n]) (S3 (uline_met (k := 711) (e := j) (o := nk) Z (by omega)) Z Z Z ?_)))))))))))))))); rintro _ _ ⟨rfl, rfl⟩; refine E0 Z Z Z (by simp [c1n, c2n]) (A2 (E5 Z) Z (E0 Z Z Z (by simp [c1n]) (A2 (B2 Z (fun h => by first | rfl | (rw [h]; rfl)) (fun h => by first | rfl | (rw [h]; rfl))) Z ?_))); refine A2 (B2 Z (fun h => by first | rfl | (rw [h]; rfl)) (fun h => by first | rfl | (rw [h]; rfl))) Z ?_; refine A6 ?_
      refine k1 ?_
      refine B3 rfl (fun ht => ?_) (fun ht => ?_)
      ·have hnk : nk = true := by revert ht; simp [c1n, c2n]
       rw [if_pos ⟨c2, hnk⟩] at hp
       refine k2 ?_
       refine A5 (A2 (A4 Z Z) Z (A6 ?_))
       refine k1 (k10 (k12 (k11 (k11 (k12 (k11 ?_))))))
       refine I3 (Y1 rfl rfl) (by repeat (first | exact C9 | refine D1 rfl ?_ | refine E1 _ ?_)) (fun _ _ h => h) ⟨false, rfl, by rw [hp]; simp, fun hh => by cases hh⟩
      ·have hnk : nk = false := by revert ht; simp [c1n, c2n]
       rw [if_neg (by simp [hnk]), if_pos c1, if_pos c2] at hp
       refine k5 (k4 (k1 ?_))
       refine A5 (A2 (C3 Z Z (by omega)) Z (A2 (A3 Z Z) Z (A6 ?_)))
       refine k1 ?_
       exact ⟨(k + 1, !ended x.Text, !ended x.Text), ⟨by dsimp only; omega, hp⟩, by dsimp only; omega, Sees.tailed ⟨le1 rfl, le1 rfl, le1 rfl, le1 rfl, le1 rfl, le1 rfl, trivial⟩ hH (by repeat (first | exact C9 | refine D1 rfl ?_ | refine K6 _ ?_)) (ObIn.spec ⟨rfl, rfl, rfl, rfl, trivial⟩)⟩
     ·have c2n : (x.Kind.toNat : Int) = 45 := Decidable.not_not.1 (fun hh => c2 ((decide_eq_decide.1 (n4 x.Kind 45)).1 hh))
      refine A5 (A2 (A7 Z) Z (A2 (B0 Z Z Z) Z (A2 (J2 Z Z) Z (A2 (A3 Z Z) Z (E0 Z Z Z (by simp [c1n]) (A2 (A3 Z Z) Z (E0 Z Z Z (by simp [c1n]) (A2 (A7 Z) Z (E0 Z Z Z (by simp [c1n]) (A2 (B0 Z Z Z) Z (E0 Z Z Z (by simp [c1n]) (S3 (uline_met (k := 710) (e := i) (o := false) Z (by omega)) Z Z Z ?_)))))))))))); rintro _ _ ⟨rfl, rfl⟩; refine E0 Z Z Z (by simp [c1n]) (A2 (E5 Z) Z (A2 (B2 Z (fun h => by first | rfl | (rw [h]; rfl)) (fun h => by first | rfl | (rw [h]; rfl))) Z ?_)); refine A2 (A3 Z Z) Z (E0 Z Z Z (by simp [c1n]) (A2 (A7 Z) Z (E0 Z Z Z (by simp [c1n]) (A2 (B0 Z Z Z) Z (E0 Z Z Z (by simp [c1n]) (A2 (J2 Z Z) Z (E0 Z Z Z (by simp [c1n]) (A2 (A3 Z Z) Z (G3 Z Z Z (by simp [c1n, c2n]) Z (G3 Z Z Z (by simp [c1n, c2n]) Z (G3 Z Z Z (by simp [c1n, c2n]) Z (G3 Z Z Z (by simp [c1n, c2n]) Z (G3 Z Z Z (by simp [c1n, c2n]) Z (E0 Z Z Z (by simp [c1n]) (A2 (L3 Z ((by simp [c1n, c2n])) Z) Z (A2 (B2 Z (fun h => by first | rfl | (rw [h]; rfl)) (fun h => by first | rfl | (rw [h]; rfl))) Z ?_)))))))))))))))); refine A6 ?_
      refine k1 ?_
      refine B3 rfl (fun ht => ?_) (fun ht => ?_)
      ·exfalso; revert ht; simp [c1n, c2n]
      ·rw [if_neg (by simp [c2]), if_pos c1, if_neg c2] at hp
       refine k5 (k4 (k1 ?_))
       refine A5 (A2 (C3 Z Z (by omega)) Z (A2 (A3 Z Z) Z (A6 ?_)))
       refine k1 ?_
       exact ⟨(k + 1, !ended x.Text, nk), ⟨by dsimp only; omega, hp⟩, by dsimp only; omega, Sees.tailed ⟨le1 rfl, le1 rfl, le1 rfl, le1 rfl, le1 rfl, le1 rfl, trivial⟩ hH (by repeat (first | exact C9 | refine D1 rfl ?_ | refine K6 _ ?_)) (ObIn.spec ⟨rfl, rfl, rfl, rfl, trivial⟩)⟩
   ·have c2 : x.Kind ≠ 45 := by rw [Decidable.not_not.1 c1]; decide
    have c1n : (x.Kind.toNat : Int) = 43 := Decidable.not_not.1 (fun hh => c1 ((decide_eq_decide.1 (n4 x.Kind 43)).1 hh))
    have c2n : (x.Kind.toNat : Int) ≠ 45 := (decide_eq_decide.1 (n4 x.Kind 45)).2 c2
    rw [if_neg (by simp [c1])] at hp
    refine A5 (A2 (A7 Z) Z (A2 (B0 Z Z Z) Z (A2 (J2 Z Z) Z (A2 (A3 Z Z) Z (G3 Z Z Z (by simp [c1n]) Z (G3 Z Z Z (by simp [c1n]) Z (G3 Z Z Z (by simp [c1n]) Z (G3 Z Z Z (by simp [c1n]) Z (G3 Z Z Z (by simp [c1n]) Z (A2 (L3 Z ((by simp [c1n])) Z) Z (A2 (A3 Z Z) Z (E0 Z Z Z (by simp [c1n]) (A2 (A7 Z) Z (E0 Z Z Z (by simp [c1n]) (A2 (B0 Z Z Z) Z (E0 Z Z Z (by simp [c1n]) (A2 (J2 Z Z) Z (E0 Z Z Z (by simp [c1n]) (A2 (A3 Z Z) Z (E0 Z Z Z (by simp [c1n, c2n]) (A2 (A3 Z Z) Z (E0 Z Z Z (by simp [c1n, c2n]) (A2 (A7 Z) Z ?_))))))))))))))))))))))); refine E0 Z Z Z (by simp [c1n, c2n]) (A2 (B0 Z Z Z) Z (E0 Z Z Z (by simp [c1n, c2n]) (S3 (uline_met (k := 711) (e := j) (o := nk) Z (by omega)) Z Z Z ?_))); rintro _ _ ⟨rfl, rfl⟩; refine E0 Z Z Z (by simp [c1n, c2n]) (A2 (E5 Z) Z (E0 Z Z Z (by simp [c1n]) (A2 (B2 Z (fun h => by first | rfl | (rw [h]; rfl)) (fun h => by first | rfl | (rw [h]; rfl))) Z ?_))); refine A2 (B2 Z (fun h => by first | rfl | (rw [h]; rfl)) (fun h => by first | rfl | (rw [h]; rfl))) Z ?_; refine A6 ?_
    refine k1 ?_
    refine B3 rfl (fun ht => ?_) (fun ht => ?_)
    ·have hnk : nk = true := by revert ht; simp [c1n, c2n]
     rw [if_pos ⟨c2, hnk⟩] at hp
     refine k2 ?_
     refine A5 (A2 (A4 Z Z) Z (A6 ?_))
     refine k1 (k10 (k12 (k11 (k11 (k12 (k11 ?_))))))
     refine I3 (Y1 rfl rfl) (by repeat (first | exact C9 | refine D1 rfl ?_ | refine E1 _ ?_)) (fun _ _ h => h) ⟨false, rfl, by rw [hp]; simp, fun hh => by cases hh⟩
    ·have hnk : nk = false := by revert ht; simp [c1n, c2n]
     rw [if_neg (by simp [hnk]), if_neg c1, if_pos c2] at hp
     refine k5 (k4 (k1 ?_))
     refine A5 (A2 (C3 Z Z (by omega)) Z (A2 (A3 Z Z) Z (A6 ?_)))
     refine k1 ?_
     exact ⟨(k + 1, ok, !ended x.Text), ⟨by dsimp only; omega, hp⟩, by dsimp only; omega, Sees.tailed ⟨le1 rfl, le1 rfl, le1 rfl, le1 rfl, le1 rfl, le1 rfl, trivial⟩ hH (by repeat (first | exact C9 | refine D1 rfl ?_ | refine K6 _ ?_)) (ObIn.spec ⟨rfl, rfl, rfl, rfl, trivial⟩)⟩
  ·have hk' : k = h.Lines.length := by have := A1 ht; omega
   subst hk'
   rw [List.drop_eq_nil_of_le (Nat.le_refl _), j3] at hp
   have hbb : (0 ≤ h.Old ∧ h.Old ≤ 4096) ∧ (0 ≤ h.New ∧ h.New ≤ 4096) := by unfold S9 at hb; simp only [not_or] at hb; omega
   have hon := K7 h.Lines 43
   have hnn := K7 h.Lines 45
   have hon2 : J0 h ≤ h.Lines.length ∧ 0 ≤ J0 h := by unfold J0; omega
   have hnn2 : J5 h ≤ h.Lines.length ∧ 0 ≤ J5 h := by unfold J5; omega
   refine k6 (k2 ?_)
   refine A5 (A2 (D7 Z Z Z) Z (C0 (usizes_ok h (by omega)) Z Z Z ?_)); rintro _ rfl; refine A2 (A3 Z Z) Z (A2 (B1 Z Z) Z (A2 (B1 Z Z) Z (A2 (A4 Z Z) Z (A2 (A4 Z Z) Z (A6 ?_)))))
   refine k1 (k2 ?_)
   have hbx : decide (¬ S9 i j h) = true := decide_eq_true hb
   refine c_region_store 12 [(101, .s (.one (.ref 710 0))), (95, C6 (h.Old + J0 h))] (by kernel_rfl) (by kernel_rfl) Z (u_store_ref TySz.out Z Z Z Z Z Z) Z Z (s_neu (A3 Z Z) Z (A3 Z Z) (s_neu (A3 Z Z) Z (A3 Z Z) (s_neu (A7 Z) Z (A7 Z) (s_neu (B0 Z Z Z) Z (B0 Z Z Z) (s_neu (A3 Z Z) Z (A3 Z Z) (s_neu (C3 Z Z (by omega)) Z (C3 Z Z (by omega)) (s_neu (A7 Z) Z (A7 Z) (s_neu (B0 Z Z Z) Z (B0 Z Z Z) (s_neu (A3 Z Z) Z (A3 Z Z) (s_neu (C3 Z Z (by omega)) Z (C3 Z Z (by omega)) (s_neu (B7 Z) Z (B7 Z) (s_neu (A7 Z) Z (A7 Z) (s_nil ⟨rfl, rfl, trivial⟩ (A9 (B7 Z) Z Z (A9 (A7 Z) Z Z (d_eff (B9 TySz.out Z Z Z Z Z Z) Z (H3 ?_)))))))))))))))))
   refine k1 (k2 ?_)
   refine A5 (A2 (A3 Z Z) Z (A2 (B7 Z) Z (A2 (A7 Z) Z (A2 (B0 Z Z Z) Z (A2 (n_leq Z Z) Z (A2 (A3 Z Z) Z (A8 Z Z Z Z (fun hg => by rw [hg]; exact A3 Z Z) ?_))))))); refine A8 Z Z Z Z (fun hg => by rw [hg]; exact B7 Z) ?_; refine A8 Z Z Z Z (fun hg => by rw [hg]; exact A7 Z) ?_; refine A8 Z Z Z Z (fun hg => by rw [hg]; exact B0 Z Z Z) ?_; refine A8 Z Z Z Z (fun hg => by rw [hg]; exact n_leq Z Z) ?_; refine A2 (B2 Z (fun h => by first | rfl | (rw [h]; rfl)) (fun h => by first | rfl | (rw [h]; rfl))) Z ?_; refine A2 (A4 Z Z) Z (A6 ?_)
   refine k1 (k10 ?_)
   refine I3 (ob' := [(6, .box (pPhunk h').s1.cells), (710, V4 (h.Old + J0 h) ok), (711, V4 (h.New + J5 h) nk)]) (Y1 rfl rfl) (by repeat (first | exact C9 | refine D1 rfl ?_ | refine E1 _ ?_)) (ObIn.spec ⟨rfl, rfl, rfl, trivial⟩) ⟨_, rfl, ?_, fun hh => ⟨ok, nk, hp, rfl⟩⟩
   rw [hp, hbx]
   simp only [H2, Bool.true_and]
theorem uwell_ok (hs : List PatchHunk) (hsz : szP hs ≤ 268435456) : FnOk Tryz.prog 67 [pPhunks hs] (fun rs => rs = [D5 (N8 hs)]) := by
 have hsl := z7 hs
 rw [← well_good]
 refine FnOk.intro Tryz.func67 (by decide) Z Z Z Z ?_
 refine k2 ?_
 refine A5 (A2 (A4 Z Z) Z (A6 ?_))
 refine k1 (k2 ?_)
 refine A5 (C8 (H4 710 Z) Z (C8 (H4 711 Z) Z (A6 ?_)))
 refine k1 (k2 (k2 ?_))
 refine A5 (A2 (A3 Z Z) Z (A2 (F8 Z (.pure _ _ _ _)) Z (A2 (A3 Z Z) Z (A6 ?_))))
 refine k1 (k3 ?_)
 refine E9 (X := Nat × (Int × Int) × Bool × Bool) (fun z => ([(3, .s (.one (.ref 710 0))), (4, .s (.one (.ref 711 0))), (7, E8 PatchHunk 3 phunkC hs), (8, C6 hs.length), (9, C6 z.1)], [(710, V4 z.2.1.1 z.2.2.1), (711, V4 z.2.1.2 z.2.2.2)])) (fun z => z.1 ≤ hs.length ∧ ((0 ≤ z.2.1.1 ∧ z.2.1.1 ≤ 8192) ∧ (0 ≤ z.2.1.2 ∧ z.2.1.2 ≤ 8192)) ∧ wellGo 0 0 false false hs = wellGo z.2.1.1 z.2.1.2 z.2.2.1 z.2.2.2 (hs.drop z.1)) (fun z => hs.length - z.1) (0, (0, 0), false, false) ⟨Nat.zero_le _, by decide, rfl⟩ (Sees.of ⟨le1 rfl, le1 rfl, le1 rfl, le1 rfl, le1 rfl, trivial⟩ ⟨rfl, rfl, trivial⟩) ?_
 rintro ⟨k, ⟨i, j⟩, o, n⟩ ⟨hk, ⟨hi, hj⟩, hp⟩
 dsimp only at hk hi hj hp ⊢
 refine k2 ?_
 refine A5 (A2 (F0 Z Z) Z (A6 ?_))
 refine k1 (k2 ?_)
 refine B3 rfl (fun ht => ?_) (fun ht => ?_)
 ·have hlt : k < hs.length := by have := A0 ht; omega
  have hv : hs[k]? = some hs[k] := by simp [hlt]
  have hmem : hs[k] ∈ hs := List.getElem_mem hlt
  rw [List.drop_eq_getElem_cons hlt, wellGo] at hp
  obtain ⟨h, hx⟩ : ∃ x, x = hs[k] := ⟨_, rfl⟩
  rw [← hx] at hv hmem hp
  have h1 := n5 hmem
  have h3 := V6 h.Lines
  unfold szH at h1
  refine k5 (k1 (k2 (k3 (k2 ?_))))
  refine A5 (A2 (B4 Z (.pure _ _ _ _) Z (by omega) hv) Z (A2 (F2 Z Z) Z (C8 (H4 6 Z) Z (F4 (B9 TySz.out Z Z Z Z Z Z) (A6 ?_)))))
  refine k1 (k2 ?_)
  refine c_cut [(3, .s (.one (.ref 710 0))), (4, .s (.one (.ref 711 0))), (6, .s (.one (.ref 6 0))), (7, E8 PatchHunk 3 phunkC hs), (8, C6 hs.length), (9, C6 k)] [(6, .box (pPhunk h).s1.cells), (710, V4 i o), (711, V4 j n)] (Sees.of ⟨le1 rfl, le1 rfl, le1 rfl, le1 rfl, le1 rfl, le1 rfl, trivial⟩ ⟨rfl, rfl, rfl, trivial⟩) ?_
  cases hpr : (h.Lines.all L7 && R4 h.Lines) with
  | false =>
   rw [hpr] at hp
   refine A5 (A2 (D7 Z Z Z) Z (C0 (uproper_ok h (by omega)) Z Z Z ?_)); rintro _ rfl; refine A2 (E5 Z) Z (A2 (A3 Z Z) Z (G3 Z Z Z (by rw [hpr]; decide) Z ?_)); refine G3 Z Z Z (by rw [hpr]; decide) Z ?_; refine G3 Z Z Z (by rw [hpr]; decide) Z ?_; refine A2 (S4 Z ((by rw [hpr]; rfl)) Z) Z ?_; refine A6 ?_
   refine k1 ?_
   refine B3 rfl (fun ht => ?_) (fun ht => ?_)
   ·refine k2 ?_
    refine A5 (A2 (A4 Z Z) Z (A6 ?_))
    refine k1 (k10 (k12 (k11 (k11 (k12 (k11 ?_))))))
    exact B5 (G8 rfl rfl rfl) (by rw [hp]; rfl)
   ·cases ht
  | true =>
   rw [hpr] at hp
   refine A5 (A2 (D7 Z Z Z) Z (C0 (uproper_ok h (by omega)) Z Z Z ?_)); rintro _ rfl; refine A2 (E5 Z) Z (A2 (A3 Z Z) Z (E0 Z Z Z (by rw [hpr]; rfl) ?_)); refine A2 (D7 Z Z Z) Z (E0 Z Z Z (by rw [hpr]; rfl) ?_); refine S3 (uplaced_met h h i j o n (by omega) hi hj Z Z) Z Z Z ?_; rintro _ _ ⟨b, rfl, hb, hpost⟩; refine E0 Z Z Z (by rw [hpr]; rfl) ?_; refine A2 (E5 Z) Z (A2 (L3 Z ((by rw [hpr]; rfl)) Z) Z ?_); refine A6 ?_
   refine k1 ?_
   refine B3 rfl (fun ht => ?_) (fun ht => ?_)
   ·have hbf : b = false := by simpa using ht
    refine k2 ?_
    refine A5 (A2 (A4 Z Z) Z (A6 ?_))
    refine k1 (k10 (k12 (k11 (k11 (k12 (k11 ?_))))))
    refine B5 (G8 Z Z Z) ?_
    subst hbf
    rw [hp]
    cases hbp : decide (¬ S9 i j h) with
    | false => rfl
    | true =>
     rw [hbp] at hb
     cases hop : j3 o n h.Lines with
     | none => rfl
     | some q =>
      rw [hop] at hb
      obtain ⟨q1, q2⟩ := q
      have hb2 : decide (h.Old + J0 h ≤ 4096 ∧ h.New + J5 h ≤ 4096) = false := hb.symm
      show [D5 false] = [D5 (decide (h.Old + J0 h ≤ 4096 ∧ h.New + J5 h ≤ 4096) && wellGo (h.Old + J0 h) (h.New + J5 h) q1 q2 (List.drop (k + 1) hs))]
      rw [hb2]; rfl
   ·have hbt : b = true := by simpa using ht
    obtain ⟨o', n', e1, rfl⟩ := hpost hbt
    rw [hbt, e1] at hb
    have hb2 := (Bool.and_eq_true _ _ ▸ hb.symm : _ ∧ _)
    have hb1 := A0 hb2.1
    have hb3 := A0 hb2.2
    rw [e1, hb2.1] at hp
    simp only [Bool.true_and] at hp
    rw [decide_eq_true hb3, Bool.true_and] at hp
    have hbb : (0 ≤ h.Old ∧ h.Old ≤ 4096) ∧ (0 ≤ h.New ∧ h.New ≤ 4096) := by unfold S9 at hb1; simp only [not_or] at hb1; omega
    have hon2 : 0 ≤ J0 h := by unfold J0; omega
    have hnn2 : 0 ≤ J5 h := by unfold J5; omega
    refine k5 (k4 (k1 ?_))
    refine A5 (A2 (C3 Z Z (by omega)) Z (A2 (A3 Z Z) Z (A6 ?_)))
    refine k1 ?_
    exact ⟨(k + 1, (h.Old + J0 h, h.New + J5 h), o', n'), ⟨by dsimp only; omega, by dsimp only; omega, hp⟩, by dsimp only; omega, Sees.of ⟨le1 rfl, le1 rfl, le1 rfl, le1 rfl, le1 rfl, trivial⟩ ⟨rfl, rfl, trivial⟩⟩
 ·have hk' : k = hs.length := by have := A1 ht; omega
  subst hk'
  rw [List.drop_eq_nil_of_le (Nat.le_refl _), wellGo] at hp
  refine k6 (k2 ?_)
  refine A5 (A2 (A4 Z Z) Z (A6 ?_))
  refine k1 (k10 ?_)
  exact B5 (G8 rfl rfl rfl) (by rw [hp])
theorem ucheck_ok (p : Patch) (hp : szP p.Hunks ≤ 268435456) : FnOk Tryz.prog 37 [pPatch p] (fun rs => rs = [D2 (G1 p)]) := by
 refine FnOk.intro Tryz.func37 (by decide) Z Z Z Z ?_
 refine k2 ?_
 refine A5 (C8 (l4 1 Z Z Z) Z (A2 (A4 Z Z) Z (A6 ?_)))
 refine k1 (k2 (k3 (k2 ?_)))
 refine A5 (A2 (A7 Z) Z (A2 (B0 Z Z Z) Z (C0 (unamed_ok p.OldName) Z Z Z ?_))); rintro _ rfl; refine A2 (E5 Z) Z (A2 (A3 Z Z) Z (A8 Z Z Z Z (fun hg => by rw [hg]; exact A7 Z) ?_)); refine A8 Z Z Z Z (fun hg => by rw [hg]; exact B0 Z Z Z) ?_; refine A8 Z Z Z Z (fun hg => by have hq := hg; (try simp at hq); rw [hg]; exact F9 (unamed_ok p.NewName) Z Z) ?_; refine A8 Z Z Z Z (fun hg => by rw [hg]; exact E5 Z) ?_; refine A2 (B2 Z (fun h => by first | rfl | (rw [h]; rfl)) (fun h => by first | rfl | (rw [h]; rfl))) Z ?_; refine A2 (A4 Z Z) Z (A6 ?_)
 refine k1 ?_
 refine B3 rfl (fun ht => ?_) (fun ht => ?_)
 ·simp only [notB, or_pick] at ht
  have h := A0 ht
  refine k2 ?_
  refine A5 (A2 (A4 Z Z) Z (A6 ?_))
  refine k1 (k10 (k12 (k11 ?_)))
  exact B5 (G8 rfl rfl rfl) (by rw [G1, if_pos h])
 ·simp only [notB, or_pick] at ht
  have h := A1 ht
  refine k2 ?_
  refine A5 (A2 (A7 Z) Z (A2 (B0 Z Z Z) Z (C0 (uwell_ok p.Hunks hp) Z Z Z ?_))); rintro _ rfl; refine A2 (E5 Z) Z (A2 (A4 Z Z) Z (A6 ?_))
  refine k1 ?_
  refine B3 rfl (fun ht => ?_) (fun ht => ?_)
  ·have h2 : N8 p.Hunks = false := by simpa using ht
   refine k2 ?_
   refine A5 (A2 (A4 Z Z) Z (A6 ?_))
   refine k1 (k10 (k12 (k11 ?_)))
   exact B5 (G8 rfl rfl rfl) (by rw [G1, if_neg h, if_pos h2])
  ·have h2 : N8 p.Hunks = true := by simpa using ht
   have hr := i8 h2
   have hn1 : I9 p.OldName = true := by by_cases hh : I9 p.OldName = true; exact hh; exact absurd (.inl (by simpa using hh)) h
   have hn2 : I9 p.NewName = true := by by_cases hh : I9 p.NewName = true; exact hh; exact absurd (.inr (by simpa using hh)) h
   have hn3 := A0 hn1
   have hn4 := A0 hn2
   have hpf : PFit p := ⟨by omega, by omega, hp⟩
   refine k2 ?_
   refine A5 (A2 (D7 Z Z Z) Z (C0 (usize_ok p hpf (fun x hx => by have := hr x hx; omega)) Z Z Z ?_)); rintro _ rfl; refine A2 (L9 Z Z) Z (A2 (A4 Z Z) Z (A6 ?_))
   refine k1 ?_
   refine B3 rfl (fun ht => ?_) (fun ht => ?_)
   ·have h3 := A0 ht
    refine k2 ?_
    refine A5 (A2 (A4 Z Z) Z (A6 ?_))
    refine k1 (k10 (k12 (k11 ?_)))
    exact B5 (G8 rfl rfl rfl) (by rw [G1, if_neg h, if_neg (by rw [h2]; decide), if_pos (by omega)])
   ·have h3 := A1 ht
    refine k5 (k2 ?_)
    refine A5 (A2 (A4 Z Z) Z (A6 ?_))
    refine k1 (k10 ?_)
    exact B5 (G8 rfl rfl rfl) (by rw [G1, if_neg h, if_neg (by rw [h2]; decide), if_neg (by omega)])
theorem check12_good {p : Patch} (h1 : ¬ G1 p ≠ 0) : N8 p.Hunks = true := by
 by_cases hg : N8 p.Hunks = true
 ·exact hg
 ·exfalso; apply h1; unfold G1; split
  ·decide
  ·rw [if_pos (by simpa using hg)]; decide
end Go.Proofs.YtjjidificdmnmaaGreatDoor
