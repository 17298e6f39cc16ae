/- Walks of the program's functions. -/
import Derived.Test.YtjjidificdmnmaaGreatDoorFa
import Derived.Test.YtjjidificdmnmaaGreatDoorAn
import Derived.Test.YtjjidificdmnmaaGreatDoorFs
namespace Go.Proofs.YtjjidificdmnmaaGreatDoor
open Go Go.AL
set_option maxRecDepth 100000
abbrev X3 (s : Str) (i : Nat) : Ob := .box [.p (.v (.string ⟨s.toArray⟩)), .p (.v (.int .i64 (i : Int)))]
abbrev t8 (x : Int) : S1 := .one (.p (.v (.int .u8 x)))
abbrev tBo (b : Bool) : S1 := .one (.p (.v (.bool b)))
def octOk (c : UInt8) : Prop := 48 ≤ c.toNat ∧ c.toNat ≤ 55
def x8 (s : Str) (i : Nat) : Nat → Nat
 | 0 => 0
 | q + 1 => 8 * x8 s i q + ((s.getD (i + q) 0).toNat - 48)
def K1 (s : Str) (i q : Nat) : Prop := i + q < s.length ∧ octOk (s.getD (i + q) 0)
instance (s : Str) (i q : Nat) : Decidable (K1 s i q) := by unfold K1 octOk; exact inferInstance
def octI (s : Str) (i : Nat) : Option UInt8 := if (K1 s i 0 ∧ K1 s i 1 ∧ K1 s i 2) ∧ x8 s i 3 < 256 then some (UInt8.ofNat (x8 s i 3)) else none
theorem octI_none {s : Str} {i q : Nat} (hq : q < 3) (h : ¬ K1 s i q) : octI s i = none := by
 unfold octI
 rw [if_neg]
 rintro ⟨⟨h0, h1, h2⟩, _⟩
 rcases (show q = 0 ∨ q = 1 ∨ q = 2 by omega) with rfl | rfl | rfl <;> exact h ‹_›
theorem octN_le {s : Str} {i : Nat} : ∀ q, q ≤ 3 → (∀ p, p < q → K1 s i p) → x8 s i q ≤ 8 ^ q - 1
 | 0, _, _ => by simp [x8]
 | q + 1, hq, h => by
  have ih := octN_le q (by omega) (fun p hp => h p (by omega))
  have h1 := (h q (by omega)).2
  unfold octOk at h1
  simp only [x8]
  rcases (show q = 0 ∨ q = 1 ∨ q = 2 by omega) with rfl | rfl | rfl <;> omega
theorem octI_all {s : Str} {i : Nat} (h : ∀ p, p < 3 → K1 s i p) : octI s i = if x8 s i 3 < 256 then some (UInt8.ofNat (x8 s i 3)) else none := by
 unfold octI
 by_cases hv : x8 s i 3 < 256
 ·rw [if_pos ⟨⟨h 0 (by omega), h 1 (by omega), h 2 (by omega)⟩, hv⟩, if_pos hv]
 ·rw [if_neg (fun hh => hv hh.2), if_neg hv]
theorem ob_front {k0 : Nat} {x : Ob} {ob : Obs} (h : E2 ob k0 = some x) : ∀ k o, E2 ((k0, x) :: ob) k = some o → E2 ob k = some o := by
 intro k o hk
 by_cases he : k0 = k
 ·subst he; rw [E6] at hk; cases hk; exact h
 ·rw [C5 he] at hk; exact hk
theorem ob_dup {k0 : Nat} {x y : Ob} {ob : Obs} : ∀ k o, E2 ((k0, x) :: ob) k = some o → E2 ((k0, x) :: (k0, y) :: ob) k = some o := by
 intro k o hk
 by_cases he : k0 = k
 ·subst he; rw [E6] at hk ⊢; exact hk
 ·rw [C5 he] at hk ⊢; rw [C5 he]; exact hk
theorem octal_met {gf : Fr} {ob : Obs} (s : Str) (i : Nat) (hi : i ≤ s.length) (hs : s.length ≤ 1073741824) (h5 : E2 ob 705 = some (X3 s i)) :
  Met Tryz.prog 201 [.one (.ref 705 0)] gf ob []
   (fun rs ob' => ∃ (x : Int) (b : Bool) (j : Nat), rs = [t8 x, tBo b] ∧ ob' = (705, X3 s j) :: ob ∧ j ≤ s.length ∧ match octI s i with
    | some c => b = true ∧ x = c.toNat ∧ j = i + 3
    | none => b = false) := by
 refine Met.introH Tryz.func201 (by decide) rfl rfl rfl (fun hH => ?_)
 refine k2 ?_
 refine A5 (A2 (A4 Z Z) Z (A2 (A4 Z Z) Z (A6 ?_)))
 refine k1 (k2 ?_)
 refine A5 (A2 (A4 Z Z) Z (A6 ?_))
 refine k1 (k2 (k2 ?_))
 refine A5 (A2 (A3 Z Z) Z (A6 ?_))
 refine k1 (k3 ?_)
 refine E9 (X := Nat) (fun q => ([(0, .s (.one (.ref 705 0))), (4, C6 (x8 s i q : Int)), (5, C6 q)] ++ gf, (705, X3 s (i + q)) :: ob)) (fun q => q ≤ 3 ∧ ∀ p, p < q → K1 s i p) (fun q => 3 - q) 0 ⟨by omega, by omega⟩ ?_ ?_
 ·exact Sees.tailed ⟨le1 rfl, le1 rfl, le1 rfl, trivial⟩ hH (by repeat (first | exact C9 | refine D1 rfl ?_)) (ob_front h5)
 rintro q ⟨hq, hok⟩
 dsimp only at hq hok ⊢
 have hle := octN_le q hq hok
 have hlen : q = 0 ∨ i + q ≤ s.length := by
  rcases Nat.eq_zero_or_pos q with h | h
  ·exact .inl h
  ·have := (hok (q - 1) (by omega)).1; exact .inr (by omega)
 have hiq : i + q ≤ s.length := by rcases hlen with rfl | h <;> omega
 have h8 : x8 s i q ≤ 512 := by rcases (show q = 0 ∨ q = 1 ∨ q = 2 ∨ q = 3 by omega) with rfl | rfl | rfl | rfl <;> omega
 refine k2 ?_
 refine A5 (A2 (F0 Z Z) Z (A6 ?_))
 refine k1 (k2 ?_)
 refine B3 rfl (fun ht => ?_) (fun ht => ?_)
 ·have hlt : q < 3 := by have := A0 ht; omega
  refine k5 (k1 (k2 (k3 (k2 (k2 ?_)))))
  refine C2 (by kernel_rfl) (by kernel_rfl) (A9 (A3 Z Z) Z Z (A9 (B7 Z) Z Z (A9 (A7 Z) Z Z (A9 (B0 Z Z Z) Z Z (A9 (A3 Z Z) Z Z (A9 (B7 Z) Z Z (A9 (A7 Z) Z Z (A9 (B0 Z Z Z) Z Z (A9 (D8 Z) Z Z (A9 (V1 Z Z) Z Z (A9 (A3 Z Z) Z Z (B6 Z Z (fun hg => by rw [hg]; exact A3 Z Z) Z Z ?_)))))))))))); refine B6 Z Z (fun hg => by rw [hg]; exact B7 Z) Z Z ?_; refine B6 Z Z (fun hg => by rw [hg]; exact A7 Z) Z Z ?_; refine B6 Z Z (fun hg => by rw [hg]; exact B0 Z Z Z) Z Z ?_; refine B6 Z Z (fun hg => by rw [hg]; exact A3 Z Z) Z Z ?_; refine B6 Z Z (fun hg => by rw [hg]; exact B7 Z) Z Z ?_; refine B6 Z Z (fun hg => by rw [hg]; exact A7 Z) Z Z ?_; refine B6 Z Z (fun hg => by rw [hg]; exact B0 Z Z Z) Z Z ?_; refine B6 Z Z (fun hg => by have hq := hg; (try simp at hq); rw [hg]; exact E7 Z Z (by omega) (gD (by omega))) Z Z ?_; refine B6 Z Z (fun hg => by rw [hg]; exact F0 Z Z) Z Z ?_; refine A9 (B2 Z (fun h => by first | rfl | (rw [h]; rfl)) (fun h => by first | rfl | (rw [h]; rfl))) Z Z ?_; refine A9 (A3 Z Z) Z Z (B6 Z Z (fun hg => by rw [hg]; exact A3 Z Z) Z Z ?_); refine B6 Z Z (fun hg => by rw [hg]; exact B7 Z) Z Z ?_; refine B6 Z Z (fun hg => by rw [hg]; exact A7 Z) Z Z ?_; refine B6 Z Z (fun hg => by rw [hg]; exact B0 Z Z Z) Z Z ?_; refine B6 Z Z (fun hg => by rw [hg]; exact A3 Z Z) Z Z ?_; refine B6 Z Z (fun hg => by rw [hg]; exact B7 Z) Z Z ?_; refine B6 Z Z (fun hg => by rw [hg]; exact A7 Z) Z Z ?_; refine B6 Z Z (fun hg => by rw [hg]; exact B0 Z Z Z) Z Z ?_; refine B6 Z Z (fun hg => by have hq := hg; (try simp at hq); rw [hg]; exact E7 Z Z (by omega) (gD (by omega))) Z Z ?_; refine B6 Z Z (fun hg => by rw [hg]; exact L9 Z Z) Z Z ?_; refine A9 (B2 Z (fun h => by first | rfl | (rw [h]; rfl)) (fun h => by first | rfl | (rw [h]; rfl))) Z Z ?_; refine H3 ?_
  refine k1 ?_
  simp only [or_pick, Int.toNat_natCast]
  have hsnd : decide ((((s.length : Int) ≤ ((i + q : Nat) : Int)) ∨ ((s.getD (i + q) 0).toNat : Int) < 48) ∨ (55 : Int) < ((s.getD (i + q) 0).toNat : Int)) = decide (¬ K1 s i q) := by
   congr 1
   unfold K1 octOk
   apply propext; constructor
   ·intro h1 h2; omega
   ·intro h1
    by_cases h3 : i + q < s.length
    ·by_cases h4 : 48 ≤ (s.getD (i + q) 0).toNat
     ·by_cases h5 : (s.getD (i + q) 0).toNat ≤ 55
      ·exact absurd ⟨h3, h4, h5⟩ h1
      ·exact .inr (by omega)
     ·exact .inl (.inr (by omega))
    ·exact .inl (.inl (by omega))
  rw [hsnd]
  refine B3 rfl (fun ht => ?_) (fun ht => ?_)
  ·have hbad : ¬ K1 s i q := A0 ht
   refine k2 ?_
   refine A5 (A2 (A4 Z Z) Z (A2 (A4 Z Z) Z (A6 ?_)))
   refine k1 (k10 (k11 (k12 (k11 (k11 (k12 (k11 ?_)))))))
   refine I3 (rets2 rfl rfl rfl) (by repeat (first | exact C9 | refine D1 rfl ?_ | refine E1 _ ?_)) (fun _ _ h => h) ⟨0, false, i + q, rfl, rfl, hiq, ?_⟩
   rw [octI_none hlt hbad]
  ·have hgood : K1 s i q := Decidable.not_not.1 (A1 ht)
   obtain ⟨g1, g2, g3⟩ := hgood
   have hgood : K1 s i q := ⟨g1, g2, g3⟩
   have hsub := i64sub48 (s.getD (i + q) 0).toNat g2 (by omega)
   refine k5 (k1 (k2 ?_))
   have hv : s[i + q]? = some (s.getD (i + q) 0) := gD g1
   refine C2 (by kernel_rfl) (by kernel_rfl) (A9 (A3 Z Z) Z Z (A9 (n_mul Z Z (by omega)) Z Z (A9 (A3 Z Z) Z Z (A9 (B7 Z) Z Z (A9 (A7 Z) Z Z (A9 (B0 Z Z Z) Z Z (A9 (A3 Z Z) Z Z (A9 (B7 Z) Z Z (A9 (A7 Z) Z Z (A9 (B0 Z Z Z) Z Z (A9 (E7 Z Z (by omega) hv) Z Z (A9 (n_sub_w Z Z) Z Z (A9 (O1 Z) Z Z (A9 (C3 Z Z (by (rw [hsub]; omega))) Z Z ?_)))))))))))))); refine A9 (A4 Z Z) Z Z (H3 ?_)
   rw [hsub]
   refine k1 ?_
   refine A5 (A2 (A3 Z Z) Z (A2 (B7 Z) Z (A2 (A7 Z) Z (A2 (B0 Z Z Z) Z (A2 (C3 Z Z (by omega)) Z (A2 (B7 Z) Z (A2 (A7 Z) Z (F4 (B9 TySz.out Z Z Z Z Z Z) (A6 ?_)))))))))
   refine k4 (k1 ?_)
   refine A5 (A2 (C3 Z Z (by omega)) Z (A2 (A3 Z Z) Z (A6 ?_)))
   refine k1 ?_
   refine ⟨q + 1, ⟨by omega, fun p hp => ?_⟩, by omega, ?_⟩
   ·by_cases hpq : p = q
    ·rw [hpq]; exact hgood
    ·exact hok p (by omega)
   rw [show ((x8 s i (q + 1) : Nat) : Int) = 8 * ((x8 s i q : Nat) : Int) + (((s.getD (i + q) 0).toNat - 48 : Nat) : Int) by simp only [x8]; omega, show X3 s (i + (q + 1)) = .box [.p (.v (.string ⟨s.toArray⟩)), .p (.v (.int .i64 (((i + q : Nat) : Int) + 1)))] by unfold X3; congr 6]
   exact Sees.tailed ⟨le1 rfl, le1 rfl, le1 rfl, trivial⟩ hH (by repeat (first | exact C9 | refine D1 rfl ?_)) ob_dup
 ·have hq3 : q = 3 := by have := A1 ht; omega
  subst hq3
  refine k6 (k2 ?_)
  refine A5 (A2 (A3 Z Z) Z (A2 (O1 Z) Z (A2 (A3 Z Z) Z (A2 (F0 Z Z) Z (A2 (A4 Z Z) Z (A2 (A4 Z Z) Z (A6 ?_)))))))
  refine k1 (k10 ?_)
  refine I3 (rets2 rfl rfl rfl) (by repeat (first | exact C9 | refine D1 rfl ?_ | refine E1 _ ?_)) (fun _ _ h => h) ⟨_, _, i + 3, rfl, rfl, hiq, ?_⟩
  rw [octI_all hok]
  by_cases hv : x8 s i 3 < 256
  ·rw [if_pos hv]
   refine ⟨decide_eq_true (by omega), ?_, rfl⟩
   rw [UInt8.toNat_ofNat']
   have : ∀ n : Fin 256, IntKind.u8.wrap ((n.1 : Nat) : Int) = ((n.1 % 2 ^ 8 : Nat) : Int) := by decide
   exact this ⟨_, hv⟩
  ·rw [if_neg hv]
   exact decide_eq_false (by omega)
def escI (s : Str) (i : Nat) : Option (UInt8 × Nat) := if i < s.length then
  (if (s.getD i 0).toNat = 34 ∨ (s.getD i 0).toNat = 92 then some (s.getD i 0, i + 1) else if (s.getD i 0).toNat = 110 then some (10, i + 1) else if (s.getD i 0).toNat = 116 then some (9, i + 1) else (octI s i).map fun x => (x, i + 3))
 else none
theorem escI_eq (s : Str) (i : Nat) : escI s i = (escAt (s.drop i)).map fun p => (p.1, i + p.2) := by
 unfold escI
 by_cases hi : i < s.length
 ·rw [if_pos hi]
  have h0 : (s.drop i)[0]? = some (s.getD i 0) := by rw [List.getElem?_drop]; exact gD hi
  have hg : ∀ q, (s.drop i)[q]? = s[i + q]? := fun q => List.getElem?_drop
  obtain ⟨d, r, hdr⟩ : ∃ d r, s.drop i = d :: r := by
   cases h : s.drop i with
   | nil => rw [h] at h0; cases h0
   | cons d r => exact ⟨d, r, rfl⟩
  rw [hdr] at h0 hg ⊢
  have hd : s.getD i 0 = d := by simpa using h0.symm
  rw [hd]
  simp only [escAt]
  by_cases c1 : d.toNat = 34 ∨ d.toNat = 92
  ·rw [if_pos c1, if_pos c1]; rfl
  ·rw [if_neg c1, if_neg c1]
   by_cases c2 : d.toNat = 110
   ·rw [if_pos c2, if_pos c2]; rfl
   ·rw [if_neg c2, if_neg c2]
    by_cases c3 : d.toNat = 116
    ·rw [if_pos c3, if_pos c3]; rfl
    ·rw [if_neg c3, if_neg c3]
     cases r with
     | nil =>
      have : ¬ K1 s i 1 := fun h => by have := h.1; have h2 := hg 1; rw [List.getElem?_eq_getElem this] at h2; simp at h2
      rw [octI_none (q := 1) (by omega) this]; rfl
     | cons e r2 =>
      cases r2 with
      | nil =>
       have : ¬ K1 s i 2 := fun h => by have := h.1; have h2 := hg 2; rw [List.getElem?_eq_getElem this] at h2; simp at h2
       rw [octI_none (q := 2) (by omega) this]; rfl
      | cons f r3 =>
       have h1 := hg 1
       have h2 := hg 2
       simp only [List.getElem?_cons_succ, List.getElem?_cons_zero] at h1 h2
       have l1 := (List.getElem?_eq_some_iff.1 h1.symm).1
       have l2 := (List.getElem?_eq_some_iff.1 h2.symm).1
       have e1 : s.getD (i + 1) 0 = e := by have := gD l1; rw [← h1] at this; exact (Option.some.inj this).symm
       have e2 : s.getD (i + 2) 0 = f := by have := gD l2; rw [← h2] at this; exact (Option.some.inj this).symm
       have hV : octI s i = octV d e f := by
        unfold octI octV K1 octOk
        simp only [x8, Nat.add_zero, hd, e1, e2]
        by_cases hc : (((((d.toNat < 48 ∨ 55 < d.toNat) ∨ e.toNat < 48) ∨ 55 < e.toNat) ∨ f.toNat < 48) ∨ 55 < f.toNat) ∨ 256 ≤ 64 * (d.toNat - 48) + 8 * (e.toNat - 48) + (f.toNat - 48)
        ·rw [if_pos hc, if_neg (by omega)]
        ·rw [if_neg hc, if_pos (by omega)]
         congr 2; omega
       rw [hV]
       show (octV d e f).map _ = ((octV d e f).map _).map _
       rw [Option.map_map]; rfl
 ·rw [if_neg hi, List.drop_eq_nil_of_le (by omega)]; rfl
theorem escI_le {s : Str} {i j : Nat} {x : UInt8} (h : escI s i = some (x, j)) : i < j ∧ j ≤ s.length := by
 rw [escI_eq] at h
 cases he : escAt (s.drop i) with
 | none => rw [he] at h; cases h
 | some p =>
  obtain ⟨y, k⟩ := p
  rw [he] at h
  simp at h
  have := escAt_pos he
  rw [List.length_drop] at this
  omega
theorem escape_met {gf : Fr} {ob : Obs} (s : Str) (i : Nat) (hi : i ≤ s.length) (hs : s.length ≤ 1073741824) (h5 : E2 ob 705 = some (X3 s i)) :
  Met Tryz.prog 197 [.one (.ref 705 0)] gf ob []
   (fun rs ob' => ∃ (x : Int) (b : Bool) (j : Nat), rs = [t8 x, tBo b] ∧ ob' = (705, X3 s j) :: ob ∧ j ≤ s.length ∧ match escI s i with
    | some (c, j') => b = true ∧ x = c.toNat ∧ j = j'
    | none => b = false) := by
 refine Met.introH Tryz.func197 (by decide) rfl rfl rfl (fun hH => ?_)
 refine G7 (fr' := [(0, .s (.one (.ref 705 0)))] ++ gf) (ob' := (705, X3 s i) :: ob) (Sees.tailed ⟨le1 rfl, trivial⟩ hH (by repeat (first | exact C9 | refine D1 rfl ?_)) (ob_front h5)) ?_
 refine k2 ?_
 refine A5 (A2 (A4 Z Z) Z (A2 (A4 Z Z) Z (A6 ?_)))
 refine k1 (k2 (k2 ?_))
 refine C2 (by kernel_rfl) (by kernel_rfl) (A9 (A3 Z Z) Z Z (A9 (B7 Z) Z Z (A9 (A7 Z) Z Z (A9 (B0 Z Z Z) Z Z (A9 (A3 Z Z) Z Z (A9 (B7 Z) Z Z (A9 (A7 Z) Z Z (A9 (B0 Z Z Z) Z Z (A9 (D8 Z) Z Z (A9 (V1 Z Z) Z Z (H3 ?_)))))))))))
 refine k1 ?_
 refine B3 rfl (fun ht => ?_) (fun ht => ?_)
 ·have h1 : ¬ i < s.length := by have := A0 ht; omega
  refine k2 ?_
  refine A5 (A2 (A4 Z Z) Z (A2 (A4 Z Z) Z (A6 ?_)))
  refine k1 (k10 (k11 ?_))
  refine I3 (rets2 rfl rfl rfl) (by repeat (first | exact C9 | refine D1 rfl ?_ | refine E1 _ ?_)) (fun _ _ h => h) ⟨0, false, i, rfl, rfl, hi, ?_⟩
  unfold escI; rw [if_neg h1]
 have hlt : i < s.length := by have := A1 ht; omega
 obtain ⟨c, hc⟩ : ∃ c, c = s.getD i 0 := ⟨_, rfl⟩
 have hv : s[i]? = some c := by rw [hc]; exact gD hlt
 have hE : escI s i = (if c.toNat = 34 ∨ c.toNat = 92 then some (c, i + 1) else if c.toNat = 110 then some (10, i + 1) else if c.toNat = 116 then some (9, i + 1) else (octI s i).map fun x => (x, i + 3)) := by unfold escI; rw [if_pos hlt, ← hc]
 refine k5 (k1 (k2 (k2 ?_)))
 refine C2 (by kernel_rfl) (by kernel_rfl) (A9 (A3 Z Z) Z Z (A9 (B7 Z) Z Z (A9 (A7 Z) Z Z (A9 (B0 Z Z Z) Z Z (A9 (A3 Z Z) Z Z (A9 (B7 Z) Z Z (A9 (A7 Z) Z Z (A9 (B0 Z Z Z) Z Z (A9 (E7 Z Z (by omega) hv) Z Z (A9 (A4 Z Z) Z Z (H3 ?_)))))))))))
 refine k1 (k2 ?_)
 refine A5 (A2 (A3 Z Z) Z (A6 ?_))
 refine J6 ?_
 refine c_block ?_
 refine V9 ([(0, .s (.one (.ref 705 0))), (4, .s (t8 c.toNat)), (24, .s (t8 c.toNat)), (25, J1 (.bool (decide (c.toNat = 34 ∨ c.toNat = 92))))] ++ gf) ((705, X3 s i) :: ob) ?_ ?_
 ·refine k2 ?_
  refine A5 (A2 (G6 Z Z) Z (A2 (A4 Z Z) Z (A6 ?_)))
  refine k1 ?_
  refine B3 rfl (fun ht => ?_) (fun ht => ?_)
  ·have h1 : (c.toNat : Int) = 34 := A0 ht
   refine k5 (k1 ?_)
   exact Sees.tailed ⟨le1 rfl, le1 rfl, le1 rfl, ⟨_, rfl, .eq (by congr 4; apply propext; constructor <;> intro _ <;> omega)⟩, trivial⟩ hH (by repeat (first | exact C9 | refine D1 rfl ?_)) (fun _ _ h => h)
  ·have h1 : ¬ (c.toNat : Int) = 34 := A1 ht
   skip
   refine A5 (A2 (G6 Z Z) Z (A2 (A4 Z Z) Z (A6 ?_)))
   refine k1 ?_
   exact Sees.tailed ⟨le1 rfl, le1 rfl, le1 rfl, ⟨_, rfl, .eq (by congr 4; apply propext; constructor <;> intro _ <;> omega)⟩, trivial⟩ hH (by repeat (first | exact C9 | refine D1 rfl ?_)) (fun _ _ h => h)
 skip
 refine B3 rfl (fun ht => ?_) (fun ht => ?_)
 ·have h1 := A0 ht
  rw [if_pos h1] at hE
  refine k2 ?_
  refine A5 (A2 (A3 Z Z) Z (A2 (B7 Z) Z (A2 (A7 Z) Z (A2 (B0 Z Z Z) Z (A2 (C3 Z Z (by omega)) Z (A2 (B7 Z) Z (A2 (A7 Z) Z (F4 (B9 TySz.out Z Z Z Z Z Z) (A6 ?_)))))))))
  refine k1 (k2 ?_)
  refine A5 (A2 (A3 Z Z) Z (A2 (A4 Z Z) Z (A2 (A4 Z Z) Z (A6 ?_))))
  refine k1 (k10 (k12 (k11 ?_)))
  refine I3 (rets2 rfl rfl rfl) (by repeat (first | exact C9 | refine D1 rfl ?_ | refine E1 _ ?_)) ob_dup ⟨c.toNat, true, i + 1, rfl, rfl, hlt, ?_⟩
  rw [hE]; exact ⟨rfl, rfl, rfl⟩
 have h1 := A1 ht
 rw [if_neg h1] at hE
 refine k2 ?_
 refine A5 (A2 (G6 Z Z) Z (A2 (A4 Z Z) Z (A6 ?_)))
 refine k1 ?_
 refine B3 rfl (fun ht => ?_) (fun ht => ?_)
 ·have h2 : (c.toNat : Int) = 110 := A0 ht
  rw [if_pos (by omega)] at hE
  refine k2 ?_
  refine A5 (A2 (A3 Z Z) Z (A2 (B7 Z) Z (A2 (A7 Z) Z (A2 (B0 Z Z Z) Z (A2 (C3 Z Z (by omega)) Z (A2 (B7 Z) Z (A2 (A7 Z) Z (F4 (B9 TySz.out Z Z Z Z Z Z) (A6 ?_)))))))))
  refine k1 (k2 ?_)
  refine A5 (A2 (A4 Z Z) Z (A2 (A4 Z Z) Z (A6 ?_)))
  refine k1 (k10 (k12 (k11 ?_)))
  refine I3 (rets2 rfl rfl rfl) (by repeat (first | exact C9 | refine D1 rfl ?_ | refine E1 _ ?_)) ob_dup ⟨10, true, i + 1, rfl, rfl, hlt, ?_⟩
  rw [hE]; exact ⟨rfl, rfl, rfl⟩
 have h2 : ¬ (c.toNat : Int) = 110 := A1 ht
 rw [if_neg (by omega)] at hE
 refine k2 ?_
 refine A5 (A2 (G6 Z Z) Z (A2 (A4 Z Z) Z (A6 ?_)))
 refine k1 ?_
 refine B3 rfl (fun ht => ?_) (fun ht => ?_)
 ·have h3 : (c.toNat : Int) = 116 := A0 ht
  rw [if_pos (by omega)] at hE
  refine k2 ?_
  refine A5 (A2 (A3 Z Z) Z (A2 (B7 Z) Z (A2 (A7 Z) Z (A2 (B0 Z Z Z) Z (A2 (C3 Z Z (by omega)) Z (A2 (B7 Z) Z (A2 (A7 Z) Z (F4 (B9 TySz.out Z Z Z Z Z Z) (A6 ?_)))))))))
  refine k1 (k2 ?_)
  refine A5 (A2 (A4 Z Z) Z (A2 (A4 Z Z) Z (A6 ?_)))
  refine k1 (k10 (k12 (k11 ?_)))
  refine I3 (rets2 rfl rfl rfl) (by repeat (first | exact C9 | refine D1 rfl ?_ | refine E1 _ ?_)) ob_dup ⟨9, true, i + 1, rfl, rfl, hlt, ?_⟩
  rw [hE]; exact ⟨rfl, rfl, rfl⟩
 have h3 : ¬ (c.toNat : Int) = 116 := A1 ht
 rw [if_neg (by omega)] at hE
 refine k5 (k2 ?_)
 refine A5 (A2 (A3 Z Z) Z (S3 (octal_met s i hi hs Z) Z Z Z ?_)); rintro _ _ ⟨x, b, j, rfl, rfl, hj, ho⟩; refine A2 (B1 Z Z) Z (A2 (B1 Z Z) Z (A2 (A4 Z Z) Z (A2 (A4 Z Z) Z (A6 ?_))))
 refine k1 (k10 ?_)
 refine I3 (rets2 rfl rfl rfl) (by repeat (first | exact C9 | refine D1 rfl ?_ | refine E1 _ ?_)) ob_dup ⟨x, b, j, rfl, rfl, hj, ?_⟩
 rw [hE]
 cases hoc : octI s i with
 | none => rw [hoc] at ho; exact ho
 | some y => rw [hoc] at ho; exact ho
def goOn (s acc : Str) : Option (UInt8 × Nat) → Option (Str × Nat)
 | none => none
 | some (x, j) => H6 s j (acc ++ [x])
theorem o5 {s : Str} {i : Nat} {acc : Str} (h : i < s.length) : H6 s i acc = if (s.getD i 0).toNat = 34 then some (acc, i + 1) else if (s.getD i 0).toNat = 92 then goOn s acc (escI s (i + 1)) else H6 s (i + 1) (acc ++ [s.getD i 0]) := by
 have hg : s[i] = s.getD i 0 := by have := gD h; rw [List.getElem?_eq_getElem h] at this; exact Option.some.inj this
 rw [H6, dif_pos h, hg, escI_eq]
 by_cases c1 : (s.getD i 0).toNat = 34
 ·rw [if_pos c1, if_pos c1]
 ·rw [if_neg c1, if_neg c1]
  by_cases c2 : (s.getD i 0).toNat = 92
  ·rw [if_pos c2, if_pos c2]
   split
   ·rename_i he; rw [he]; rfl
   ·rename_i x k he; rw [he]; rfl
  ·rw [if_neg c2, if_neg c2]
theorem m7 {s : Str} {i : Nat} {acc : Str} (h : s.length ≤ i) : H6 s i acc = none := by rw [H6, dif_neg (by omega)]
theorem quoted_met {gf : Fr} (s : Str) (i : Nat) (hi : i ≤ s.length) (hs : s.length ≤ 1073741824) :
  Met Tryz.prog 187 [.one (.ref 705 0)] gf [(705, X3 s i)] [706]
   (fun rs ob' => ∃ (w : Str) (b : Bool) (j : Nat), rs = [.one (.p (.v (.string ⟨w.toArray⟩))), tBo b] ∧ ob' = [(705, X3 s j)] ∧ j ≤ s.length ∧ match H6 s i [] with
    | some (w', j') => b = true ∧ w = w' ∧ j = j'
    | none => b = false) := by
 refine Met.introH Tryz.func187 (by decide) rfl rfl rfl (fun hH => ?_)
 refine k2 ?_
 refine A5 (A2 (A4 Z Z) Z (A2 (A4 Z Z) Z (A6 ?_)))
 refine k1 (k2 ?_)
 refine A5 (C8 (e_adoptG 706 _ u8C Z Z) Z (A6 ?_))
 refine k1 (k2 (k3 ?_))
 refine E9 (X := Nat × Str) (fun z => ([(0, .s (.one (.ref 705 0))), (4, .s (.one (.mut 706)))] ++ Fr.forget 706 gf, [(706, .grow 5 UInt8 1 u8C z.2), (705, X3 s z.1)])) (fun z => z.1 ≤ s.length ∧ z.2.length ≤ z.1 ∧ H6 s z.1 z.2 = H6 s i []) (fun z => s.length - z.1) (i, []) ⟨hi, Nat.zero_le _, rfl⟩ ?_ ?_
 ·exact Sees.tailed ⟨le1 rfl, le1 rfl, trivial⟩ (P6 hH) (by repeat (first | exact C9 | refine D1 rfl ?_ | refine K6 _ ?_ | refine E1 _ ?_)) (ObIn.spec (ob' := [(706, _), (705, _)]) ⟨rfl, rfl, trivial⟩)
 rintro ⟨p, acc⟩ ⟨hp, hal, hgo⟩
 dsimp only at hp hal hgo ⊢
 refine k2 (k2 ?_)
 refine C2 (by kernel_rfl) (by kernel_rfl) (A9 (A3 Z Z) Z Z (A9 (B7 Z) Z Z (A9 (A7 Z) Z Z (A9 (B0 Z Z Z) Z Z (A9 (A3 Z Z) Z Z (A9 (B7 Z) Z Z (A9 (A7 Z) Z Z (A9 (B0 Z Z Z) Z Z (A9 (D8 Z) Z Z (A9 (F0 Z Z) Z Z (H3 ?_)))))))))))
 refine k1 ?_
 refine B3 rfl (fun ht => ?_) (fun ht => ?_)
 ·have hlt : p < s.length := by have := A0 ht; omega
  obtain ⟨c, hc⟩ : ∃ c, c = s.getD p 0 := ⟨_, rfl⟩
  have hv : s[p]? = some c := by rw [hc]; exact gD hlt
  rw [o5 hlt, ← hc] at hgo
  refine k5 (k1 (k3 (k2 ?_)))
  refine C2 (by kernel_rfl) (by kernel_rfl) (A9 (A3 Z Z) Z Z (A9 (B7 Z) Z Z (A9 (A7 Z) Z Z (A9 (B0 Z Z Z) Z Z (A9 (A3 Z Z) Z Z (A9 (B7 Z) Z Z (A9 (A7 Z) Z Z (A9 (B0 Z Z Z) Z Z (A9 (E7 Z Z (by omega) hv) Z Z (A9 (A4 Z Z) Z Z (H3 ?_)))))))))))
  refine k1 (k2 ?_)
  refine A5 (A2 (A3 Z Z) Z (A2 (B7 Z) Z (A2 (A7 Z) Z (A2 (B0 Z Z Z) Z (A2 (C3 Z Z (by omega)) Z (A2 (B7 Z) Z (A2 (A7 Z) Z (F4 (B9 TySz.out Z Z Z Z Z Z) (A6 ?_)))))))))
  refine k1 (k2 (k2 ?_))
  refine A5 (A2 (A3 Z Z) Z (A2 (G6 Z Z) Z (A6 ?_)))
  refine k1 ?_
  refine B3 rfl (fun ht => ?_) (fun ht => ?_)
  ·have h1 : (c.toNat : Int) = 34 := A0 ht
   rw [if_pos (by omega)] at hgo
   refine k2 ?_
   refine G7 (Sees.growBuf (t := 4) Z Z Z) ?_
   refine A5 (A2 (A3 Z Z) Z (A2 (N6 TyStr.out Z (.buf _ _ _ _ _)) Z (A2 (A4 Z Z) Z (A2 (A4 Z Z) Z (A6 ?_)))))
   refine k1 (k10 (k11 (k12 (k11 (k12 (k11 ?_))))))
   refine I3 (rets2 rfl rfl rfl) (by repeat (first | exact C9 | refine D1 rfl ?_ | refine E1 _ ?_)) (ObIn.spec (ob' := [(705, X3 s (p + 1))]) ⟨rfl, trivial⟩) ⟨acc, true, p + 1, rfl, rfl, hlt, ?_⟩
   rw [← hgo]; exact ⟨rfl, rfl, rfl⟩
  have h1 : ¬ (c.toNat : Int) = 34 := A1 ht
  rw [if_neg (by omega)] at hgo
  obtain ⟨nx, hnx⟩ : ∃ nx : Option (UInt8 × Nat), nx = if c.toNat = 92 then escI s (p + 1) else some (c, p + 1) := ⟨_, rfl⟩
  have hgo2 : goOn s acc nx = H6 s i [] := by
   rw [← hgo, hnx]
   by_cases h2 : c.toNat = 92
   ·rw [if_pos h2, if_pos h2]
   ·rw [if_neg h2, if_neg h2]; rfl
  have hnb : ∀ x j, nx = some (x, j) → p < j ∧ j ≤ s.length := by
   intro x j hj
   rw [hnx] at hj
   by_cases h2 : c.toNat = 92
   ·rw [if_pos h2] at hj; have := escI_le hj; omega
   ·rw [if_neg h2] at hj; cases hj; omega
  cases hq : nx with
  | none =>
   refine k5 (k1 (k2 (k2 ?_)))
   refine A5 (A2 (A3 Z Z) Z (A2 (G6 Z Z) Z (A6 ?_)))
   refine k1 ?_
   rw [hq] at hgo2
   have h2 : c.toNat = 92 := by
    by_cases h2 : c.toNat = 92
    ·exact h2
    ·rw [if_neg h2, hq] at hnx; cases hnx
   rw [if_pos h2, hq] at hnx
   refine B3 rfl (fun ht => ?_) (fun ht => ?_)
   rotate_left
   ·exact absurd (show (c.toNat : Int) = 92 by omega) (A1 ht)
   refine k2 ?_
   refine A5 (A2 (A4 Z Z) Z (A6 ?_))
   refine k1 (k2 ?_)
   refine A5 (A2 (A3 Z Z) Z (S3 (escape_met s (p + 1) hlt hs Z) Z Z Z ?_)); rintro _ _ ⟨x, b, j, rfl, rfl, hj, ho⟩; refine A2 (A3 Z Z) Z (A2 (B1 Z Z) Z (A2 (B1 Z Z) Z (A2 (A4 Z Z) Z (A2 (A4 Z Z) Z (A6 ?_)))))
   rw [← hnx] at ho
   have ho : b = false := ho
   subst ho
   refine k1 (k2 ?_)
   refine A5 (A2 (A3 Z Z) Z (A2 (E5 Z) Z (A6 ?_)))
   refine k1 ?_
   refine B3 rfl (fun ht => ?_) (fun ht => ?_)
   ·refine k2 ?_
    refine A5 (A2 (A4 Z Z) Z (A2 (A4 Z Z) Z (A6 ?_)))
    refine k1 (k10 (k11 (k12 (k11 (k12 (k11 ?_))))))
    refine I3 (rets2 rfl rfl rfl) (by repeat (first | exact C9 | refine D1 rfl ?_ | refine E1 _ ?_)) (ObIn.spec (ob' := [(705, X3 s j)]) ⟨rfl, trivial⟩) ⟨[], false, j, rfl, rfl, hj, ?_⟩
    rw [← hgo2]; exact (rfl : false = false)
   ·cases ht
  | some q =>
   obtain ⟨y, j⟩ := q
   obtain ⟨hj1, hj2⟩ := hnb y j hq
   rw [hq] at hgo2
   refine c_skip ?_
   refine J6 ?_
   refine V9 ([(0, .s (.one (.ref 705 0))), (4, .s (.one (.mut 706))), (5, .s (t8 y.toNat))] ++ Fr.forget 706 gf) [(706, .grow 5 UInt8 1 u8C acc), (705, X3 s j)] ?_ ?_
   ·refine k2 ?_
    refine A5 (A2 (A3 Z Z) Z (A2 (G6 Z Z) Z (A6 ?_)))
    refine k1 ?_
    refine B3 rfl (fun ht => ?_) (fun ht => ?_)
    ·have h2 : c.toNat = 92 := by have : (c.toNat : Int) = 92 := A0 ht; omega
     rw [if_pos h2, hq] at hnx
     refine k2 ?_
     refine A5 (A2 (A4 Z Z) Z (A6 ?_))
     refine k1 (k2 ?_)
     refine A5 (A2 (A3 Z Z) Z (S3 (escape_met s (p + 1) hlt hs Z) Z Z Z ?_)); rintro _ _ ⟨x, b, j', rfl, rfl, hj, ho⟩; refine A2 (A3 Z Z) Z (A2 (B1 Z Z) Z (A2 (B1 Z Z) Z (A2 (A4 Z Z) Z (A2 (A4 Z Z) Z (A6 ?_)))))
     rw [← hnx] at ho
     obtain ⟨rfl, rfl, rfl⟩ := ho
     refine k1 (k2 ?_)
     refine A5 (A2 (A3 Z Z) Z (A2 (E5 Z) Z (A6 ?_)))
     refine k1 ?_
     refine B3 rfl (fun ht => ?_) (fun ht => ?_)
     ·cases ht
     refine k5 (k1 ?_)
     exact Sees.tailed ⟨le1 rfl, le1 rfl, le1 rfl, trivial⟩ (P6 hH) (by repeat (first | exact C9 | refine D1 rfl ?_)) (ObIn.spec (ob' := [(706, _), (705, _)]) ⟨rfl, rfl, trivial⟩)
    ·have h2 : ¬ c.toNat = 92 := by have : ¬ (c.toNat : Int) = 92 := A1 ht; omega
     rw [if_neg h2, hq] at hnx
     obtain ⟨rfl, rfl⟩ : y = c ∧ j = p + 1 := by simpa using hnx
     refine k5 (k1 ?_)
     exact Sees.tailed ⟨le1 rfl, le1 rfl, le1 rfl, trivial⟩ (P6 hH) (by repeat (first | exact C9 | refine D1 rfl ?_)) (ObIn.spec (ob' := [(706, _), (705, _)]) ⟨rfl, rfl, trivial⟩)
   skip
   refine A5 (A2 (A3 Z Z) Z (A2 (A3 Z Z) Z (A2 (D6 (c := u8C) (ys := [y]) (E3 Z Z Z Z H1) Z Z Z) Z (C8 (l7 Z Z Z (.pure _ _ _ _) (by (simp; omega)) Z) Z (A2 (A4 Z Z) Z (A6 ?_))))))
   refine k4 (k1 ?_)
   refine ⟨(j, acc ++ [y]), ⟨hj2, by simp; omega, hgo2⟩, by dsimp only; omega, ?_⟩
   exact Sees.tailed ⟨le1 rfl, le1 rfl, trivial⟩ (P6 hH) (by repeat (first | exact C9 | refine D1 rfl ?_ | refine K6 _ ?_)) (ObIn.spec (ob' := [(706, _), (705, _)]) ⟨rfl, rfl, trivial⟩)
 ·have hend : s.length ≤ p := by have := A1 ht; omega
  rw [m7 hend] at hgo
  refine k6 (k2 ?_)
  refine A5 (A2 (A4 Z Z) Z (A2 (A4 Z Z) Z (A6 ?_)))
  refine k1 (k10 ?_)
  refine I3 (rets2 rfl rfl rfl) (by repeat (first | exact C9 | refine D1 rfl ?_ | refine E1 _ ?_)) (ObIn.spec (ob' := [(705, X3 s p)]) ⟨rfl, trivial⟩) ⟨[], false, p, rfl, rfl, hp, ?_⟩
  rw [← hgo]
theorem getD_drop {s : Str} {i k : Nat} (h : i + k < s.length) : (s.drop i).getD k 0 = s.getD (i + k) 0 := by
 have h1 := gD (s := s.drop i) (i := k) (by rw [List.length_drop]; omega)
 rw [List.getElem?_drop, gD h] at h1
 exact (Option.some.inj h1).symm
theorem wordGo_drop (s : Str) (i : Nat) (n : Nat) : ∀ (k : Nat) (acc : Str), s.length - (i + k) ≤ n → H6 (s.drop i) k acc = (H6 s (i + k) acc).map fun p => (p.1, p.2 - i) := by
 induction n with
 | zero =>
  intro k acc h
  rw [m7 (by rw [List.length_drop]; omega), m7 (by omega)]; rfl
 | succ n ih =>
  intro k acc h
  by_cases hlt : i + k < s.length
  ·rw [o5 (by rw [List.length_drop]; omega), o5 hlt, getD_drop hlt]
   by_cases c1 : (s.getD (i + k) 0).toNat = 34
   ·rw [if_pos c1, if_pos c1]; simp; omega
   ·rw [if_neg c1, if_neg c1]
    by_cases c2 : (s.getD (i + k) 0).toNat = 92
    ·rw [if_pos c2, if_pos c2, escI_eq, escI_eq, List.drop_drop, show i + (k + 1) = i + k + 1 by omega]
     cases he : escAt (s.drop (i + k + 1)) with
     | none => rfl
     | some q =>
      obtain ⟨x, e⟩ := q
      simp only [Option.map_some]
      show H6 (s.drop i) (k + 1 + e) (acc ++ [x]) = Option.map _ (H6 s (i + k + 1 + e) (acc ++ [x]))
      rw [ih (k + 1 + e) _ (by omega), show i + (k + 1 + e) = i + k + 1 + e by omega]
    ·rw [if_neg c2, if_neg c2, ih (k + 1) _ (by omega), show i + (k + 1) = i + k + 1 by omega]
  ·rw [m7 (by rw [List.length_drop]; omega), m7 (by omega)]; rfl
theorem head_drop {s : Str} {i : Nat} : (s.drop i).head? = some 34 ↔ (i < s.length ∧ (s.getD i 0).toNat = 34) := by
 rw [List.head?_drop]
 by_cases h : i < s.length
 ·rw [gD h, Option.some.injEq, ← UInt8.toNat_inj]
  have : (34 : UInt8).toNat = 34 := rfl
  constructor
  ·intro h1; exact ⟨h, by omega⟩
  ·intro h1; omega
 ·rw [List.getElem?_eq_none (by omega)]
  constructor
  ·intro h1; cases h1
  ·intro h1; exact absurd h1.1 h
theorem takeWhile_le {p : UInt8 → Bool} (s : Str) (i : Nat) : ((s.drop i).takeWhile p).length ≤ s.length - i := by
 have := (List.takeWhile_sublist p (l := s.drop i)).length_le
 rw [List.length_drop] at this; exact this
theorem d8 {p : UInt8 → Bool} : ∀ (s : Str), s.take (s.takeWhile p).length = s.takeWhile p
 | [] => rfl
 | c :: r => by
  by_cases hc : p c = true
  ·rw [List.takeWhile_cons, if_pos hc, List.length_cons, List.take_succ_cons, d8 r]
  ·rw [List.takeWhile_cons, if_neg hc]; rfl
theorem wordGo_len {s : Str} {i j : Nat} {w : Str} (h : H6 s i [] = some (w, j)) : i < j ∧ j ≤ s.length ∧ w.length + i ≤ j := by
 have := wordGo_pos (s := s) (s.length - i) (Nat.le_refl _) h
 simpa using this
set_option maxHeartbeats 1000000
theorem word_met {gf : Fr} (s : Str) (i : Nat) (hi : i ≤ s.length) (hs : s.length ≤ 16777216) :
  Met Tryz.prog 168 [.one (.ref 705 0)] gf [(705, X3 s i)] [706]
   (fun rs ob' => ∃ (w : Str) (b : Bool) (j : Nat), rs = [.one (.p (.v (.string ⟨w.toArray⟩))), tBo b] ∧ ob' = [(705, X3 s j)] ∧ j ≤ s.length ∧ match R6 (s.drop i) with
    | some (w', k) => b = true ∧ w = w' ∧ j = i + k
    | none => b = false) := by
 have hcase : (i < s.length ∧ (s.getD i 0).toNat = 34 ∧ H6 s (i + 1) [] = none) ∨
   ∃ w j, ((i < s.length ∧ (s.getD i 0).toNat = 34 ∧ H6 s (i + 1) [] = some (w, j)) ∨ (¬ (i < s.length ∧ (s.getD i 0).toNat = 34) ∧ w = (s.drop i).takeWhile M6 ∧ j = i + w.length)) ∧
    i ≤ j ∧ j ≤ s.length ∧ w.length ≤ s.length ∧ R6 (s.drop i) = if I4 w = (s.drop i).take (j - i) then some (w, j - i) else none := by
  by_cases hq : i < s.length ∧ (s.getD i 0).toNat = 34
  ·cases hg : H6 s (i + 1) [] with
   | none => exact .inl ⟨hq.1, hq.2, rfl⟩
   | some p =>
    obtain ⟨w, j⟩ := p
    have h1 := wordGo_len hg
    refine .inr ⟨w, j, .inl ⟨hq.1, hq.2, rfl⟩, by omega, by omega, by omega, ?_⟩
    unfold R6
    rw [if_pos (head_drop.2 hq), wordGo_drop s i s.length 1 [] (by omega), hg]
    rfl
  ·have hl := takeWhile_le (p := M6) s i
   refine .inr ⟨(s.drop i).takeWhile M6, _, .inr ⟨hq, rfl, rfl⟩, by omega, by omega, by omega, ?_⟩
   unfold R6
   rw [if_neg (fun h => hq (head_drop.1 h)), show i + ((s.drop i).takeWhile M6).length - i = ((s.drop i).takeWhile M6).length by omega, d8]
   by_cases hn : (s.drop i).takeWhile M6 = []
   ·rw [if_pos hn, hn]; rfl
   ·rw [if_neg hn]
    have : I4 ((s.drop i).takeWhile M6) = (s.drop i).takeWhile M6 := by unfold I4; rw [if_pos ⟨hn, List.all_takeWhile⟩]
    rw [this, if_pos rfl]
 have htest : decide ((i : Int) < (s.length : Int) ∧ ((s.getD i 0).toNat : Int) = 34) = decide (i < s.length ∧ (s.getD i 0).toNat = 34) := by congr 1; apply propext; constructor <;> intro h <;> omega
 refine Met.introH Tryz.func168 (by decide) rfl rfl rfl (fun hH => ?_)
 refine k2 ?_
 refine A5 (A2 (A4 Z Z) Z (A2 (A4 Z Z) Z (A6 ?_)))
 refine k1 (k2 ?_)
 refine A5 (A2 (A3 Z Z) Z (A2 (B7 Z) Z (A2 (A7 Z) Z (A2 (B0 Z Z Z) Z (A2 (A4 Z Z) Z (A6 ?_))))))
 refine k1 (k2 ?_)
 refine A5 (A2 (A4 Z Z) Z (A6 ?_))
 rcases hcase with ⟨hlt, h34, hg⟩ | ⟨w, j, hwj, hij, hjl, hwl, hW⟩
 ·refine k1 (k2 (k2 ?_))
  refine A5 (A2 (A3 Z Z) Z (A2 (A3 Z Z) Z (A2 (B7 Z) Z (A2 (A7 Z) Z (A2 (B0 Z Z Z) Z (A2 (D8 Z) Z (A2 (F0 Z Z) Z (A2 (A3 Z Z) Z (A8 Z Z Z Z (fun hg => by rw [hg]; exact A3 Z Z) ?_))))))))); refine A8 Z Z Z Z (fun hg => by rw [hg]; exact B7 Z) ?_; refine A8 Z Z Z Z (fun hg => by rw [hg]; exact A7 Z) ?_; refine A8 Z Z Z Z (fun hg => by rw [hg]; exact B0 Z Z Z) ?_; refine A8 Z Z Z Z (fun hg => by rw [hg]; exact A3 Z Z) ?_; refine A8 Z Z Z Z (fun hg => by have hq := hg; (try simp at hq); rw [hg]; exact E7 Z Z (by omega) (gD (by omega))) ?_; refine A8 Z Z Z Z (fun hg => by rw [hg]; exact G6 Z Z) ?_; refine A2 (B2 Z (fun h => by first | rfl | (rw [h]; rfl)) (fun h => by first | rfl | (rw [h]; rfl))) Z ?_; refine A6 ?_
  simp only [H2, Int.toNat_natCast]
  rw [htest]
  refine k1 ?_
  refine B3 rfl (fun ht => ?_) (fun ht => ?_)
  rotate_left
  ·exact absurd ⟨hlt, h34⟩ (A1 ht)
  refine k2 ?_
  refine A5 (A2 (A3 Z Z) Z (A2 (B7 Z) Z (A2 (A7 Z) Z (A2 (B0 Z Z Z) Z (A2 (C3 Z Z (by omega)) Z (A2 (B7 Z) Z (A2 (A7 Z) Z (F4 (B9 TySz.out Z Z Z Z Z Z) (A6 ?_)))))))))
  refine k1 (k2 ?_)
  refine G7 (fr' := [(0, .s (.one (.ref 705 0))), (4, C6 i)] ++ gf) (ob' := [(705, X3 s (i + 1))]) (Sees.tailed ⟨le1 rfl, le1 rfl, trivial⟩ hH (by repeat (first | exact C9 | refine D1 rfl ?_)) (ObIn.spec (ob' := [(705, _)]) ⟨rfl, trivial⟩)) ?_
  refine A5 (A2 (A4 Z Z) Z (A6 ?_))
  refine k1 (k2 ?_)
  refine A5 (A2 (A3 Z Z) Z (S3 (quoted_met s (i + 1) hlt (by omega)) Z Z Z ?_)); rintro _ _ ⟨w, b, j, rfl, rfl, hj, ho⟩; refine A2 (A3 Z Z) Z (A2 (B1 Z Z) Z (A2 (B1 Z Z) Z (A2 (A4 Z Z) Z (A2 (A4 Z Z) Z (A6 ?_)))))
  rw [hg] at ho
  have ho : b = false := ho
  subst ho
  refine k1 (k2 ?_)
  refine A5 (A2 (A3 Z Z) Z (A2 (E5 Z) Z (A6 ?_)))
  refine k1 ?_
  refine B3 rfl (fun ht => ?_) (fun ht => ?_)
  ·refine k2 ?_
   refine A5 (A2 (A4 Z Z) Z (A2 (A4 Z Z) Z (A6 ?_)))
   refine k1 (k10 (k11 ?_))
   refine I3 (rets2 rfl rfl rfl) (by repeat (first | exact C9 | refine D1 rfl ?_ | refine E1 _ ?_)) (fun _ _ h => h) ⟨[], false, j, rfl, rfl, hj, ?_⟩
   have : R6 (s.drop i) = none := by
    unfold R6
    rw [if_pos (head_drop.2 ⟨hlt, h34⟩), wordGo_drop s i s.length 1 [] (by omega), hg]; rfl
   rw [this]
  ·cases ht
 ·refine J6 ?_
  refine V9 ([(0, .s (.one (.ref 705 0))), (4, C6 i), (5, N3 w)] ++ Fr.forget 706 gf) [(705, X3 s j)] ?_ ?_
  ·refine k2 ?_
   refine A5 (A2 (A3 Z Z) Z (A2 (A3 Z Z) Z (A2 (B7 Z) Z (A2 (A7 Z) Z (A2 (B0 Z Z Z) Z (A2 (D8 Z) Z (A2 (F0 Z Z) Z (A2 (A3 Z Z) Z (A8 Z Z Z Z (fun hg => by rw [hg]; exact A3 Z Z) ?_))))))))); refine A8 Z Z Z Z (fun hg => by rw [hg]; exact B7 Z) ?_; refine A8 Z Z Z Z (fun hg => by rw [hg]; exact A7 Z) ?_; refine A8 Z Z Z Z (fun hg => by rw [hg]; exact B0 Z Z Z) ?_; refine A8 Z Z Z Z (fun hg => by rw [hg]; exact A3 Z Z) ?_; refine A8 Z Z Z Z (fun hg => by have hq := hg; (try simp at hq); rw [hg]; exact E7 Z Z (by omega) (gD (by omega))) ?_; refine A8 Z Z Z Z (fun hg => by rw [hg]; exact G6 Z Z) ?_; refine A2 (B2 Z (fun h => by first | rfl | (rw [h]; rfl)) (fun h => by first | rfl | (rw [h]; rfl))) Z ?_; refine A6 ?_
   simp only [H2, Int.toNat_natCast]
   rw [htest]
   refine k1 ?_
   refine B3 rfl (fun ht => ?_) (fun ht => ?_)
   ·have hq := A0 ht
    rcases hwj with ⟨_, _, hg⟩ | ⟨hn, _⟩
    ·refine k2 ?_
     refine A5 (A2 (A3 Z Z) Z (A2 (B7 Z) Z (A2 (A7 Z) Z (A2 (B0 Z Z Z) Z (A2 (C3 Z Z (by omega)) Z (A2 (B7 Z) Z (A2 (A7 Z) Z (F4 (B9 TySz.out Z Z Z Z Z Z) (A6 ?_)))))))))
     refine k1 (k2 ?_)
     refine G7 (fr' := [(0, .s (.one (.ref 705 0))), (4, C6 i)] ++ gf) (ob' := [(705, X3 s (i + 1))]) (Sees.tailed ⟨le1 rfl, le1 rfl, trivial⟩ hH (by repeat (first | exact C9 | refine D1 rfl ?_)) (ObIn.spec (ob' := [(705, _)]) ⟨rfl, trivial⟩)) ?_
     refine A5 (A2 (A4 Z Z) Z (A6 ?_))
     refine k1 (k2 ?_)
     refine A5 (A2 (A3 Z Z) Z (S3 (quoted_met s (i + 1) hq.1 (by omega)) Z Z Z ?_)); rintro _ _ ⟨w', b, j', rfl, rfl, hj, ho⟩; refine A2 (A3 Z Z) Z (A2 (B1 Z Z) Z (A2 (B1 Z Z) Z (A2 (A4 Z Z) Z (A2 (A4 Z Z) Z (A6 ?_)))))
     rw [hg] at ho
     obtain ⟨rfl, rfl, rfl⟩ := ho
     refine k1 (k2 ?_)
     refine A5 (A2 (A3 Z Z) Z (A2 (E5 Z) Z (A6 ?_)))
     refine k1 ?_
     refine B3 rfl (fun ht => ?_) (fun ht => ?_)
     ·cases ht
     refine k5 (k1 ?_)
     exact Sees.tailed ⟨le1 rfl, le1 rfl, le1 rfl, trivial⟩ (P6 hH) (by repeat (first | exact C9 | refine D1 rfl ?_ | refine K6 _ ?_ | refine E1 _ ?_)) (ObIn.spec (ob' := [(705, _)]) ⟨rfl, trivial⟩)
    ·exact absurd hq hn
   ·have hq := A1 ht
    rcases hwj with ⟨h1, h2, _⟩ | ⟨_, hw, hj⟩
    ·exact absurd ⟨h1, h2⟩ hq
    have hl := takeWhile_le (p := M6) s i
    rw [← hw] at hl
    refine k2 (k3 ?_)
    refine E9 (X := Nat) (fun k => ([(0, .s (.one (.ref 705 0))), (4, C6 i)] ++ gf, [(705, X3 s (i + k))])) (fun k => k ≤ w.length) (fun k => w.length - k) 0 (Nat.zero_le _) ?_ ?_
    ·exact Sees.tailed ⟨le1 rfl, le1 rfl, trivial⟩ hH (by repeat (first | exact C9 | refine D1 rfl ?_)) (ObIn.spec (ob' := [(705, _)]) ⟨rfl, trivial⟩)
    intro k hk
    dsimp only at hk ⊢
    have hrun := u0 (p := M6) (s.drop i) k (by rw [← hw]; exact hk)
    rw [← hw, List.getElem?_drop] at hrun
    obtain ⟨c, hc⟩ : ∃ c, c = s.getD (i + k) 0 := ⟨_, rfl⟩
    have hv : i + k < s.length → s[i + k]? = some c := fun h => by rw [hc]; exact gD h
    have hrun2 : (if decide (((i + k : Nat) : Int) < (s.length : Int)) = true then M6 c else false) = decide (k < w.length) := by
     rw [← hrun]
     by_cases hlt : i + k < s.length
     ·rw [hv hlt, if_pos (decide_eq_true (by omega))]
     ·rw [List.getElem?_eq_none (by omega), if_neg (by simp; omega)]
    refine k2 (k2 ?_)
    refine C2 (by kernel_rfl) (by kernel_rfl) (A9 (A3 Z Z) Z Z (A9 (B7 Z) Z Z (A9 (A7 Z) Z Z (A9 (B0 Z Z Z) Z Z (A9 (A3 Z Z) Z Z (A9 (B7 Z) Z Z (A9 (A7 Z) Z Z (A9 (B0 Z Z Z) Z Z (A9 (D8 Z) Z Z (A9 (F0 Z Z) Z Z (A9 (A3 Z Z) Z Z (B6 Z Z (fun hg => by rw [hg]; exact A3 Z Z) Z Z ?_)))))))))))); refine B6 Z Z (fun hg => by rw [hg]; exact B7 Z) Z Z ?_; refine B6 Z Z (fun hg => by rw [hg]; exact A7 Z) Z Z ?_; refine B6 Z Z (fun hg => by rw [hg]; exact B0 Z Z Z) Z Z ?_; refine B6 Z Z (fun hg => by rw [hg]; exact A3 Z Z) Z Z ?_; refine B6 Z Z (fun hg => by rw [hg]; exact B7 Z) Z Z ?_; refine B6 Z Z (fun hg => by rw [hg]; exact A7 Z) Z Z ?_; refine B6 Z Z (fun hg => by rw [hg]; exact B0 Z Z Z) Z Z ?_; refine B6 Z Z (fun hg => by have hq := hg; (try simp at hq); rw [hg]; exact E7 Z Z (by omega) (hv (by omega))) Z Z ?_; refine B6 Z Z (fun hg => by have hq := hg; (try simp at hq); rw [hg]; exact F9 (splain_ok c) Z Z) Z Z ?_; refine A9 (B2 Z (fun h => by first | rfl | (rw [h]; rfl)) (fun h => by first | rfl | (rw [h]; rfl))) Z Z ?_; refine H3 ?_
    rw [hrun2]
    refine k1 ?_
    refine B3 rfl (fun ht => ?_) (fun ht => ?_)
    ·have hlt := A0 ht
     refine k5 (k1 (k3 ?_))
     refine A5 (A2 (A3 Z Z) Z (A2 (B7 Z) Z (A2 (A7 Z) Z (A2 (B0 Z Z Z) Z (A2 (C3 Z Z (by omega)) Z (A2 (B7 Z) Z (A2 (A7 Z) Z (F4 (B9 TySz.out Z Z Z Z Z Z) (A6 ?_)))))))))
     refine k4 (k1 ?_)
     exact ⟨k + 1, hlt, by omega, Sees.tailed ⟨le1 rfl, le1 rfl, trivial⟩ hH (by repeat (first | exact C9 | refine D1 rfl ?_)) (ObIn.spec (ob' := [(705, _)]) ⟨rfl, trivial⟩)⟩
    ·have hk2 : k = w.length := by have := A1 ht; omega
     subst hk2
     refine k6 (k7 (k7 (k8 Z (k1 ?_))))
     refine C2 (by kernel_rfl) (by kernel_rfl) (A9 (A3 Z Z) Z Z (A9 (B7 Z) Z Z (A9 (A7 Z) Z Z (A9 (B0 Z Z Z) Z Z (A9 (A3 Z Z) Z Z (A9 (A3 Z Z) Z Z (A9 (B7 Z) Z Z (A9 (A7 Z) Z Z (A9 (B0 Z Z Z) Z Z (A9 (Q0 Z Z Z (by omega) (by omega) (by omega)) Z Z (A9 (A4 Z Z) Z Z (H3 ?_))))))))))))
     have hww : (s.drop i).take (i + w.length - i) = w := by rw [Nat.add_sub_cancel_left, hw]; exact d8 _
     rw [Int.toNat_natCast, Int.toNat_natCast, hww]
     refine k1 ?_
     refine Sees.trans (Sees.forget 706) ?_
     subst hj
     exact Sees.tailed ⟨le1 rfl, le1 rfl, le1 rfl, trivial⟩ (P6 hH) (by repeat (first | exact C9 | refine D1 rfl ?_ | refine K6 _ ?_ | refine E1 _ ?_)) (ObIn.spec (ob' := [(705, _)]) ⟨rfl, trivial⟩)
  ·refine k2 ?_
   refine C2 (by kernel_rfl) (by kernel_rfl) (A9 (A3 Z Z) Z Z (A9 (A3 Z Z) Z Z (A9 (F9 (squote_ok w (by omega)) Z Z) Z Z (A9 (A3 Z Z) Z Z (A9 (B7 Z) Z Z (A9 (A7 Z) Z Z (A9 (B0 Z Z Z) Z Z (A9 (A3 Z Z) Z Z (A9 (A3 Z Z) Z Z (A9 (B7 Z) Z Z (A9 (A7 Z) Z Z (A9 (B0 Z Z Z) Z Z (A9 (Q0 Z Z Z (by omega) (by omega) (by omega)) Z Z (A9 (W8 Z Z) Z Z (A9 (A4 Z Z) Z Z (A9 (A4 Z Z) Z Z (H3 ?_)))))))))))))))))
   rw [Int.toNat_natCast, Int.toNat_natCast]
   refine k1 (k10 ?_)
   refine I3 (rets2 rfl rfl rfl) (by repeat (first | exact C9 | refine D1 rfl ?_ | refine E1 _ ?_)) (fun _ _ h => h) ⟨w, _, j, rfl, rfl, hjl, ?_⟩
   rw [hW]
   by_cases hqw : I4 w = (s.drop i).take (j - i)
   ·rw [if_pos hqw]; exact ⟨decide_eq_true hqw, rfl, by omega⟩
   ·rw [if_neg hqw]; exact decide_eq_false hqw
def wordR (s : Str) (i : Nat) : List PV := match R6 (s.drop i) with
 | none => [F6 [], D2 0, D5 false]
 | some (w, k) => [F6 w, D2 ((i + k : Nat) : Int), D5 true]
theorem sUnquote_ok (s : Str) (i : Nat) (hi : i ≤ s.length) (hs : s.length ≤ 16777216) : FnOk Tryz.prog 131 [F6 s, D2 i] (fun rs => rs = wordR s i) := by
 refine FnOk.intro Tryz.func131 (by decide) Z Z Z Z ?_
 refine k2 ?_
 refine A5 (A2 (A4 Z Z) Z (A2 (A4 Z Z) Z (A2 (A4 Z Z) Z (A6 ?_))))
 refine k1 (k2 (k2 ?_))
 refine A5 (A2 (A3 Z Z) Z (A2 (F0 Z Z) Z (A2 (A3 Z Z) Z (A8 Z Z Z Z (fun hg => by rw [hg]; exact A3 Z Z) ?_)))); refine A8 Z Z Z Z (fun hg => by rw [hg]; exact A3 Z Z) ?_; refine A8 Z Z Z Z (fun hg => by rw [hg]; exact D8 Z) ?_; refine A8 Z Z Z Z (fun hg => by rw [hg]; exact L9 Z Z) ?_; refine A2 (B2 Z (fun h => by first | rfl | (rw [h]; rfl)) (fun h => by first | rfl | (rw [h]; rfl))) Z ?_; refine A6 ?_
 refine k1 ?_
 refine B3 rfl (fun ht => ?_) (fun ht => ?_)
 ·exfalso; revert ht; simp only [or_pick]; simp; omega
 refine k5 (k1 (k2 ?_))
 refine A5 (A2 (A3 Z Z) Z (A2 (A3 Z Z) Z (A2 (G4 Z) Z (C8 (l4 705 Z Z Z) Z (A2 (A4 Z Z) Z (A6 ?_))))))
 refine k1 (k2 ?_)
 refine A5 (A2 (A3 Z Z) Z (S3 (word_met s i hi hs) Z Z Z ?_)); rintro _ _ ⟨w, b, j, rfl, rfl, hj, ho⟩; refine A2 (A3 Z Z) Z (A2 (B1 Z Z) Z (A2 (B1 Z Z) Z (A2 (A4 Z Z) Z (A2 (A4 Z Z) Z (A6 ?_)))))
 refine k1 (k2 (k2 ?_))
 refine A5 (A2 (A3 Z Z) Z (A2 (E5 Z) Z (A6 ?_)))
 refine k1 ?_
 cases hw : R6 (s.drop i) with
 | none =>
  rw [hw] at ho
  have ho : b = false := ho
  subst ho
  refine B3 rfl (fun ht => ?_) (fun ht => ?_)
  ·refine k2 ?_
   refine A5 (A2 (A4 Z Z) Z (A2 (A4 Z Z) Z (A2 (A4 Z Z) Z (A6 ?_))))
   refine k1 (k10 (k11 ?_))
   exact B5 (rs := [F6 [], D2 0, D5 false]) (ret3 rfl rfl rfl rfl rfl rfl rfl) (by unfold wordR; rw [hw])
  ·cases ht
 | some q =>
  obtain ⟨w', k⟩ := q
  rw [hw] at ho
  obtain ⟨rfl, rfl, rfl⟩ := ho
  refine B3 rfl (fun ht => ?_) (fun ht => ?_)
  ·cases ht
  refine k5 (k1 (k2 ?_))
  refine C2 (by kernel_rfl) (by kernel_rfl) (A9 (A3 Z Z) Z Z (A9 (A3 Z Z) Z Z (A9 (B7 Z) Z Z (A9 (A7 Z) Z Z (A9 (B0 Z Z Z) Z Z (A9 (A4 Z Z) Z Z (A9 (A4 Z Z) Z Z (A9 (A4 Z Z) Z Z (H3 ?_)))))))))
  refine k1 (k10 ?_)
  exact B5 (rs := [F6 w, D2 ((i + k : Nat) : Int), D5 true]) (ret3 rfl rfl rfl rfl rfl rfl rfl) (by unfold wordR; rw [hw])
theorem roctal_ok (s : Str) (i : Nat) (hs : s.length ≤ 1073741824) (hi : i ≤ s.length) : FnOk Tryz.prog 172 [F6 s, D2 i]
  (fun rs => ∃ (x : Int) (b : Bool), rs = [.one (.v (.int .u8 x)), D5 b] ∧ match octI s i with
   | some c => b = true ∧ x = c.toNat
   | none => b = false) := by
 refine FnOk.intro Tryz.func172 (by decide) Z Z Z Z ?_
 refine k2 ?_
 refine A5 (A2 (A4 Z Z) Z (A2 (A4 Z Z) Z (A6 ?_)))
 refine k1 (k2 ?_)
 refine A5 (A2 (A4 Z Z) Z (A6 ?_))
 refine k1 (k2 (k2 ?_))
 refine A5 (A2 (A3 Z Z) Z (A2 (A4 Z Z) Z (A6 ?_)))
 refine k1 (k3 ?_)
 refine E9 (X := Nat) (fun q => ([(0, N3 s), (1, C6 i), (6, C6 (x8 s i q : Int)), (7, C6 ((i + q : Nat) : Int))], [])) (fun q => q ≤ 3 ∧ ∀ p, p < q → K1 s i p) (fun q => 3 - q) 0 ⟨by omega, by omega⟩ (Sees.of ⟨le1 rfl, le1 rfl, le1 rfl, le1 rfl, trivial⟩ trivial) ?_
 rintro q ⟨hq, hok⟩
 dsimp only at hq hok ⊢
 have hle := octN_le q hq hok
 have h8 : x8 s i q ≤ 512 := by rcases (show q = 0 ∨ q = 1 ∨ q = 2 ∨ q = 3 by omega) with rfl | rfl | rfl | rfl <;> omega
 refine k2 (k2 ?_)
 refine A5 (A2 (A3 Z Z) Z (A2 (A3 Z Z) Z (A2 (C3 Z Z (by omega)) Z (A2 (F0 Z Z) Z (A6 ?_)))))
 refine k1 ?_
 refine B3 rfl (fun ht => ?_) (fun ht => ?_)
 ·have hlt : q < 3 := by have := A0 ht; omega
  have hvv : i + q < s.length → s[i + q]? = some (s.getD (i + q) 0) := gD
  refine k5 (k1 (k2 (k3 (k2 (k2 ?_)))))
  refine A5 (A2 (A3 Z Z) Z (A2 (A3 Z Z) Z (A2 (D8 Z) Z (A2 (V1 Z Z) Z (A2 (A3 Z Z) Z (A8 Z Z Z Z (fun hg => by rw [hg]; exact A3 Z Z) ?_)))))); refine A8 Z Z Z Z (fun hg => by rw [hg]; exact A3 Z Z) ?_; refine A8 Z Z Z Z (fun hg => by have hq := hg; (try simp at hq); rw [hg]; exact E7 Z Z (by omega) (hvv (by omega))) ?_; refine A8 Z Z Z Z (fun hg => by rw [hg]; exact F0 Z Z) ?_; refine A2 (B2 Z (fun h => by first | rfl | (rw [h]; rfl)) (fun h => by first | rfl | (rw [h]; rfl))) Z ?_; refine A2 (A3 Z Z) Z (A8 Z Z Z Z (fun hg => by rw [hg]; exact A3 Z Z) ?_); refine A8 Z Z Z Z (fun hg => by rw [hg]; exact A3 Z Z) ?_; refine A8 Z Z Z Z (fun hg => by have hq := hg; (try simp at hq); rw [hg]; exact E7 Z Z (by omega) (hvv (by omega))) ?_; refine A8 Z Z Z Z (fun hg => by rw [hg]; exact L9 Z Z) ?_; refine A2 (B2 Z (fun h => by first | rfl | (rw [h]; rfl)) (fun h => by first | rfl | (rw [h]; rfl))) Z ?_; refine A6 ?_
  refine k1 ?_
  simp only [or_pick]
  have hsnd : decide ((((s.length : Int) ≤ ((i + q : Nat) : Int)) ∨ ((s.getD (i + q) 0).toNat : Int) < 48) ∨ (55 : Int) < ((s.getD (i + q) 0).toNat : Int)) = decide (¬ K1 s i q) := by
   congr 1
   unfold K1 octOk
   apply propext; constructor
   ·intro h1 h2; omega
   ·intro h1
    by_cases h3 : i + q < s.length
    ·by_cases h4 : 48 ≤ (s.getD (i + q) 0).toNat
     ·by_cases h5 : (s.getD (i + q) 0).toNat ≤ 55
      ·exact absurd ⟨h3, h4, h5⟩ h1
      ·exact .inr (by omega)
     ·exact .inl (.inr (by omega))
    ·exact .inl (.inl (by omega))
  rw [hsnd]
  refine B3 rfl (fun ht => ?_) (fun ht => ?_)
  ·have hbad : ¬ K1 s i q := A0 ht
   refine k2 ?_
   refine A5 (A2 (A4 Z Z) Z (A2 (A4 Z Z) Z (A6 ?_)))
   refine k1 (k10 (k11 (k12 (k11 (k11 (k12 (k11 ?_)))))))
   refine B5 (rs := [.one (.v (.int .u8 0)), D5 false]) (X9 rfl rfl rfl rfl rfl) ⟨0, false, rfl, ?_⟩
   rw [octI_none hlt hbad]
  ·have hgood : K1 s i q := Decidable.not_not.1 (A1 ht)
   obtain ⟨g1, g2, g3⟩ := hgood
   have hgood : K1 s i q := ⟨g1, g2, g3⟩
   have hsub := i64sub48 (s.getD (i + q) 0).toNat g2 (by omega)
   refine k5 (k1 ?_)
   refine A5 (A2 (A3 Z Z) Z (A2 (n_mul Z Z (by omega)) Z (A2 (A3 Z Z) Z (A2 (A3 Z Z) Z (A2 (E7 Z Z (by omega) (hvv g1)) Z (A2 (n_sub_w Z Z) Z (A2 (O1 Z) Z (A2 (C3 Z Z (by (rw [hsub]; omega))) Z ?_)))))))); refine A2 (A4 Z Z) Z (A6 ?_)
   rw [hsub]
   refine k4 (k1 ?_)
   refine A5 (A2 (A3 Z Z) Z (A2 (C3 Z Z (by omega)) Z (A2 (A4 Z Z) Z (A6 ?_))))
   refine k1 ?_
   refine ⟨q + 1, ⟨by omega, fun p hp => ?_⟩, by omega, ?_⟩
   ·by_cases hpq : p = q
    ·rw [hpq]; exact hgood
    ·exact hok p (by omega)
   rw [show ((x8 s i (q + 1) : Nat) : Int) = 8 * ((x8 s i q : Nat) : Int) + (((s.getD (i + q) 0).toNat - 48 : Nat) : Int) by simp only [x8]; omega, show ((i + (q + 1) : Nat) : Int) = ((i + q : Nat) : Int) + 1 by omega]
   exact Sees.of ⟨le1 rfl, le1 rfl, le1 rfl, le1 rfl, trivial⟩ trivial
 ·have hq3 : q = 3 := by have := A1 ht; omega
  subst hq3
  refine k6 (k2 ?_)
  refine A5 (A2 (A3 Z Z) Z (A2 (O1 Z) Z (A2 (A3 Z Z) Z (A2 (F0 Z Z) Z (A2 (A4 Z Z) Z (A2 (A4 Z Z) Z (A6 ?_)))))))
  refine k1 (k10 ?_)
  refine B5 (X9 rfl rfl rfl rfl rfl) ⟨_, _, rfl, ?_⟩
  rw [octI_all hok]
  by_cases hv : x8 s i 3 < 256
  ·rw [if_pos hv]
   refine ⟨decide_eq_true (by omega), ?_⟩
   rw [UInt8.toNat_ofNat']
   have : ∀ n : Fin 256, IntKind.u8.wrap ((n.1 : Nat) : Int) = ((n.1 % 2 ^ 8 : Nat) : Int) := by decide
   exact this ⟨_, hv⟩
  ·rw [if_neg hv]
   exact decide_eq_false (by omega)
theorem W1 {s : Str} {i : Nat} (h : R6 (s.drop i) = none) : wordR s i = [F6 [], D2 0, D5 false] := by unfold wordR; rw [h]
theorem wordR_some {s : Str} {i k : Nat} {w : Str} (h : R6 (s.drop i) = some (w, k)) : wordR s i = [F6 w, D2 ((i + k : Nat) : Int), D5 true] := by unfold wordR; rw [h]
theorem wordAt_quoted {s : Str} {i : Nat} (hlt : i < s.length) (h34 : (s.getD i 0).toNat = 34) : R6 (s.drop i) = match H6 s (i + 1) [] with
  | none => none
  | some (w, j) => if I4 w = (s.drop i).take (j - i) then some (w, j - i) else none := by
 unfold R6
 rw [if_pos (head_drop.2 ⟨hlt, h34⟩), wordGo_drop s i s.length 1 [] (by omega)]
 cases H6 s (i + 1) [] <;> rfl
set_option maxHeartbeats 1000000
theorem rUnquote_ok (s : Str) (i : Nat) (hs : s.length ≤ 16777216) : FnOk Tryz.prog 136 [F6 s, D2 i] (fun rs => rs = wordR s i) := by
 refine FnOk.intro Tryz.func136 (by decide) Z Z Z Z ?_
 refine k2 ?_
 refine A5 (A2 (A4 Z Z) Z (A2 (A4 Z Z) Z (A2 (A4 Z Z) Z (A6 ?_))))
 refine k1 (k2 (k2 ?_))
 refine A5 (A2 (A3 Z Z) Z (A2 (F0 Z Z) Z (A2 (A3 Z Z) Z (A8 Z Z Z Z (fun hg => by rw [hg]; exact A3 Z Z) ?_)))); refine A8 Z Z Z Z (fun hg => by rw [hg]; exact A3 Z Z) ?_; refine A8 Z Z Z Z (fun hg => by rw [hg]; exact D8 Z) ?_; refine A8 Z Z Z Z (fun hg => by rw [hg]; exact V1 Z Z) ?_; refine A2 (B2 Z (fun h => by first | rfl | (rw [h]; rfl)) (fun h => by first | rfl | (rw [h]; rfl))) Z ?_; refine A6 ?_
 simp only [or_pick]
 refine k1 ?_
 refine B3 rfl (fun ht => ?_) (fun ht => ?_)
 ·have h1 : s.length ≤ i := by have := A0 ht; omega
  refine k2 ?_
  refine A5 (A2 (A4 Z Z) Z (A2 (A4 Z Z) Z (A2 (A4 Z Z) Z (A6 ?_))))
  refine k1 (k10 (k11 ?_))
  refine B5 (rs := [F6 [], D2 0, D5 false]) (ret3 Z Z Z Z Z Z Z) ?_
  have : R6 (s.drop i) = none := by rw [List.drop_eq_nil_of_le h1]; rfl
  rw [W1 this]
 have hlt : i < s.length := by have := A1 ht; omega
 obtain ⟨c0, hc0⟩ : ∃ c0, c0 = s.getD i 0 := ⟨_, rfl⟩
 have hv0 : s[i]? = some c0 := by rw [hc0]; exact gD hlt
 refine k5 (k1 (k2 ?_))
 refine A5 (A2 (A3 Z Z) Z (A2 (A4 Z Z) Z (A6 ?_)))
 refine k1 (k2 (k2 ?_))
 refine A5 (A2 (A3 Z Z) Z (A2 (A3 Z Z) Z (A2 (E7 Z Z (by omega) hv0) Z (A2 (J2 Z Z) Z (A6 ?_)))))
 refine k1 ?_
 refine B3 rfl (fun ht => ?_) (fun ht => ?_)
 ·have h34 : ¬ (s.getD i 0).toNat = 34 := by have h : ¬ (c0.toNat : Int) = 34 := A0 ht; rw [← hc0]; omega
  obtain ⟨w, hw⟩ : ∃ w, w = (s.drop i).takeWhile M6 := ⟨_, rfl⟩
  have hl := takeWhile_le (p := M6) s i
  rw [← hw] at hl
  have hW : R6 (s.drop i) = if w = [] then none else some (w, w.length) := by
   unfold R6
   rw [if_neg (fun h => h34 (head_drop.1 h).2), ← hw]
  refine k2 (k3 ?_)
  refine E9 (X := Nat) (fun k => ([(0, N3 s), (1, C6 i), (7, C6 ((i + k : Nat) : Int))], [])) (fun k => k ≤ w.length) (fun k => w.length - k) 0 (Nat.zero_le _) (Sees.of ⟨le1 rfl, le1 rfl, le1 rfl, trivial⟩ trivial) ?_
  intro k hk
  dsimp only at hk ⊢
  have hrun := u0 (p := M6) (s.drop i) k (by rw [← hw]; exact hk)
  rw [← hw, List.getElem?_drop] at hrun
  obtain ⟨c, hc⟩ : ∃ c, c = s.getD (i + k) 0 := ⟨_, rfl⟩
  have hv : i + k < s.length → s[i + k]? = some c := fun h => by rw [hc]; exact gD h
  have hrun2 : (if decide (((i + k : Nat) : Int) < (s.length : Int)) = true then M6 c else false) = decide (k < w.length) := by
   rw [← hrun]
   by_cases hlt : i + k < s.length
   ·rw [hv hlt, if_pos (decide_eq_true (by omega))]
   ·rw [List.getElem?_eq_none (by omega), if_neg (by simp; omega)]
  refine k2 (k2 ?_)
  refine A5 (A2 (A3 Z Z) Z (A2 (A3 Z Z) Z (A2 (D8 Z) Z (A2 (F0 Z Z) Z (A2 (A3 Z Z) Z (A8 Z Z Z Z (fun hg => by rw [hg]; exact A3 Z Z) ?_)))))); refine A8 Z Z Z Z (fun hg => by rw [hg]; exact A3 Z Z) ?_; refine A8 Z Z Z Z (fun hg => by have hq := hg; (try simp at hq); rw [hg]; exact E7 Z Z (by omega) (hv (by omega))) ?_; refine A8 Z Z Z Z (fun hg => by have hq := hg; (try simp at hq); rw [hg]; exact F9 (rplain_ok c) Z Z) ?_; refine A2 (B2 Z (fun h => by first | rfl | (rw [h]; rfl)) (fun h => by first | rfl | (rw [h]; rfl))) Z ?_; refine A6 ?_
  rw [hrun2]
  refine k1 ?_
  refine B3 rfl (fun ht => ?_) (fun ht => ?_)
  ·have hlt := A0 ht
   refine k5 (k1 (k3 ?_))
   refine A5 (A2 (A3 Z Z) Z (A2 (C3 Z Z (by omega)) Z (A2 (A4 Z Z) Z (A6 ?_))))
   refine k4 (k1 ?_)
   exact ⟨k + 1, hlt, by omega, Sees.of ⟨le1 rfl, le1 rfl, le1 rfl, trivial⟩ trivial⟩
  ·have hk2 : k = w.length := by have := A1 ht; omega
   subst hk2
   refine k6 (k2 (k2 ?_))
   refine A5 (A2 (A3 Z Z) Z (A2 (A3 Z Z) Z (A2 (G6 Z Z) Z (A6 ?_))))
   refine k1 ?_
   refine B3 rfl (fun ht => ?_) (fun ht => ?_)
   ·have h0 : w = [] := List.length_eq_zero_iff.1 (by have := A0 ht; omega)
    refine k2 ?_
    refine A5 (A2 (A4 Z Z) Z (A2 (A4 Z Z) Z (A2 (A4 Z Z) Z (A6 ?_))))
    refine k1 (k10 (k11 (k11 ?_)))
    refine B5 (rs := [F6 [], D2 0, D5 false]) (ret3 Z Z Z Z Z Z Z) ?_
    rw [W1 (by rw [hW, if_pos h0])]
   ·have h0 : w ≠ [] := fun e => by have := A1 ht; rw [e] at this; simp at this
    have hww : (s.drop i).take (i + w.length - i) = w := by rw [Nat.add_sub_cancel_left, hw]; exact d8 _
    refine k5 (k1 (k2 ?_))
    refine A5 (A2 (A3 Z Z) Z (A2 (A3 Z Z) Z (A2 (A3 Z Z) Z (A2 (Q0 Z Z Z (by omega) (by omega) (by omega)) Z (A2 (A3 Z Z) Z (A2 (A4 Z Z) Z (A2 (A4 Z Z) Z (A2 (A4 Z Z) Z (A6 ?_)))))))))
    rw [Int.toNat_natCast, Int.toNat_natCast, hww]
    refine k1 (k10 (k11 ?_))
    refine B5 (rs := [F6 w, D2 ((i + w.length : Nat) : Int), D5 true]) (ret3 Z Z Z Z Z Z Z) ?_
    rw [wordR_some (by rw [hW, if_neg h0])]
 have h34 : (s.getD i 0).toNat = 34 := by
  have h : (c0.toNat : Int) = 34 := Decidable.not_not.1 (A1 ht)
  rw [← hc0]; omega
 have hW := wordAt_quoted hlt h34
 refine k5 (k1 (k2 ?_))
 refine A5 (C8 (n3 30 _ u8C Z) Z (A6 ?_))
 refine k1 (k2 ?_)
 refine A5 (A2 (A3 Z Z) Z (A2 (C3 Z Z (by omega)) Z (A2 (A4 Z Z) Z (A6 ?_))))
 refine k1 (k2 (k3 ?_))
 refine E9 (X := Nat × Str) (fun z => ([(0, N3 s), (1, C6 i), (7, C6 (z.1 : Int)), (8, .s (.one (.buf 30 UInt8 1 u8C z.2)))], [(30, .spare z.2.length 1 5)])) (fun z => z.1 ≤ s.length ∧ z.2.length ≤ z.1 ∧ i < z.1 ∧ H6 s z.1 z.2 = H6 s (i + 1) []) (fun z => s.length - z.1) (i + 1, []) ⟨hlt, Nat.zero_le _, by dsimp only; omega, rfl⟩ (Sees.of ⟨le1 rfl, le1 rfl, le1 rfl, le1 rfl, trivial⟩ ⟨rfl, trivial⟩) ?_
 rintro ⟨p, acc⟩ ⟨hp, hal, hip, hgo⟩
 dsimp only at hp hal hip hgo ⊢
 obtain ⟨c, hc⟩ : ∃ c, c = s.getD p 0 := ⟨_, rfl⟩
 have hv : p < s.length → s[p]? = some c := fun h => by rw [hc]; exact gD h
 refine k2 (k2 ?_)
 refine A5 (A2 (A3 Z Z) Z (A2 (A3 Z Z) Z (A2 (D8 Z) Z (A2 (F0 Z Z) Z (A2 (A3 Z Z) Z (A8 Z Z Z Z (fun hg => by rw [hg]; exact A3 Z Z) ?_)))))); refine A8 Z Z Z Z (fun hg => by rw [hg]; exact A3 Z Z) ?_; refine A8 Z Z Z Z (fun hg => by have hq := hg; (try simp at hq); rw [hg]; exact E7 Z Z (by omega) (hv (by omega))) ?_; refine A8 Z Z Z Z (fun hg => by rw [hg]; exact J2 Z Z) ?_; refine A2 (B2 Z (fun h => by first | rfl | (rw [h]; rfl)) (fun h => by first | rfl | (rw [h]; rfl))) Z ?_; refine A6 ?_
 simp only [H2]
 refine k1 ?_
 refine B3 rfl (fun ht => ?_) (fun ht => ?_)
 ·have hh := A0 ht
  have hpl : p < s.length := by omega
  have hn34 : ¬ c.toNat = 34 := by omega
  rw [o5 hpl, ← hc, if_neg hn34] at hgo
  refine k5 (k1 (k3 (k2 (k2 ?_))))
  refine A5 (A2 (A3 Z Z) Z (A2 (A3 Z Z) Z (A2 (E7 Z Z (by omega) (hv hpl)) Z (A2 (J2 Z Z) Z (A6 ?_)))))
  refine k1 ?_
  refine B3 rfl (fun ht => ?_) (fun ht => ?_)
  ·have h92 : ¬ c.toNat = 92 := by have h : ¬ (c.toNat : Int) = 92 := A0 ht; omega
   rw [if_neg h92] at hgo
   refine k2 ?_
   refine A5 (A2 (A3 Z Z) Z (A2 (A3 Z Z) Z (A2 (A3 Z Z) Z (A2 (E7 Z Z (by omega) (hv hpl)) Z (A2 (D6 (c := u8C) (ys := [c]) (E3 Z Z Z Z H1) Z Z Z) Z (C8 (J3 Z Z Z (.pure _ _ _ _) (by (simp; omega)) Z) Z (A2 (A4 Z Z) Z (A6 ?_))))))))
   refine k1 (k2 ?_)
   refine A5 (A2 (A3 Z Z) Z (A2 (C3 Z Z (by omega)) Z (A2 (A4 Z Z) Z (A6 ?_))))
   refine k1 (k6 (k7 (k8 Z (k1 ?_))))
   exact ⟨(p + 1, acc ++ [c]), ⟨hpl, by simp; omega, by dsimp only; omega, hgo⟩, by dsimp only; omega, Sees.of ⟨le1 rfl, le1 rfl, le1 rfl, le1 rfl, trivial⟩ ⟨rfl, trivial⟩⟩
  have h92 : c.toNat = 92 := by have h : (c.toNat : Int) = 92 := Decidable.not_not.1 (A1 ht); omega
  rw [if_pos h92] at hgo
  refine k5 (k1 (k2 (k2 ?_)))
  refine A5 (A2 (A3 Z Z) Z (A2 (C3 Z Z (by omega)) Z (A2 (A3 Z Z) Z (A2 (D8 Z) Z (A2 (G6 Z Z) Z (A6 ?_))))))
  refine k1 ?_
  refine B3 rfl (fun ht => ?_) (fun ht => ?_)
  ·have he : s.length ≤ p + 1 := by have := A0 ht; omega
   have hE : escI s (p + 1) = none := by unfold escI; rw [if_neg (by omega)]
   rw [hE] at hgo
   refine k2 ?_
   refine A5 (A2 (A4 Z Z) Z (A2 (A4 Z Z) Z (A2 (A4 Z Z) Z (A6 ?_))))
   refine k1 (k10 (k11 (k12 (k11 (k12 (k11 ?_))))))
   refine B5 (rs := [F6 [], D2 0, D5 false]) (ret3 Z Z Z Z Z Z Z) ?_
   rw [W1 (by rw [hW, ← hgo]; rfl)]
  have hp1 : p + 1 < s.length := by have := A1 ht; omega
  obtain ⟨d, hd⟩ : ∃ d, d = s.getD (p + 1) 0 := ⟨_, rfl⟩
  have hvd : s[p + 1]? = some d := by rw [hd]; exact gD hp1
  have hE : escI s (p + 1) = (if d.toNat = 34 ∨ d.toNat = 92 then some (d, p + 1 + 1) else if d.toNat = 110 then some (10, p + 1 + 1) else if d.toNat = 116 then some (9, p + 1 + 1) else (octI s (p + 1)).map fun x => (x, p + 1 + 3)) := by unfold escI; rw [if_pos hp1, ← hd]
  refine k5 (k1 (k2 ?_))
  refine A5 (A2 (A3 Z Z) Z (A2 (A3 Z Z) Z (A2 (C3 Z Z (by omega)) Z (A2 (E7 Z Z (by omega) hvd) Z (A6 ?_)))))
  refine k1 (k3 (k2 (k2 ?_)))
  refine A5 (A2 (G6 Z Z) Z (A2 (A4 Z Z) Z (A6 ?_)))
  refine k1 ?_
  refine B3 rfl (fun ht => ?_) (fun ht => ?_)
  ·have hx : (d.toNat : Int) = 34 := A0 ht
   have h1 : d.toNat = 34 ∨ d.toNat = 92 := by omega
   rw [hE, if_pos h1] at hgo
   have hgo : H6 s (p + 1 + 1) (acc ++ [d]) = H6 s (i + 1) [] := hgo
   refine k5 (k1 ?_)
   refine B3 rfl (fun ht => ?_) (fun ht => ?_)
   rotate_left
   ·exact absurd hx (A1 ht)
   refine k2 ?_
   refine A5 (A2 (A3 Z Z) Z (A2 (A3 Z Z) Z (A2 (A3 Z Z) Z (A2 (C3 Z Z (by omega)) Z (A2 (E7 Z Z (by omega) hvd) Z (A2 (D6 (c := u8C) (ys := [d]) (E3 Z Z Z Z H1) Z Z Z) Z (C8 (J3 Z Z Z (.pure _ _ _ _) (by (simp; omega)) Z) Z (A2 (A4 Z Z) Z (A6 ?_)))))))))
   refine k1 ?_
   refine A5 (A2 (A3 Z Z) Z (A2 (C3 Z Z (by omega)) Z (A2 (A4 Z Z) Z (A6 ?_))))
   refine k4 (k4 (k1 ?_))
   exact ⟨(p + 1 + 1, acc ++ [d]), ⟨by dsimp only; omega, by simp; omega, by dsimp only; omega, hgo⟩, by dsimp only; omega, Sees.of ⟨le1 rfl, le1 rfl, le1 rfl, le1 rfl, trivial⟩ ⟨rfl, trivial⟩⟩
  have hx : ¬ (d.toNat : Int) = 34 := A1 ht
  skip
  refine A5 (A2 (G6 Z Z) Z (A2 (A4 Z Z) Z (A6 ?_)))
  refine k1 ?_
  refine B3 rfl (fun ht => ?_) (fun ht => ?_)
  ·have hy : (d.toNat : Int) = 92 := A0 ht
   have h1 : d.toNat = 34 ∨ d.toNat = 92 := by omega
   rw [hE, if_pos h1] at hgo
   have hgo : H6 s (p + 1 + 1) (acc ++ [d]) = H6 s (i + 1) [] := hgo
   refine k2 ?_
   refine A5 (A2 (A3 Z Z) Z (A2 (A3 Z Z) Z (A2 (A3 Z Z) Z (A2 (C3 Z Z (by omega)) Z (A2 (E7 Z Z (by omega) hvd) Z (A2 (D6 (c := u8C) (ys := [d]) (E3 Z Z Z Z H1) Z Z Z) Z (C8 (J3 Z Z Z (.pure _ _ _ _) (by (simp; omega)) Z) Z (A2 (A4 Z Z) Z (A6 ?_)))))))))
   refine k1 ?_
   refine A5 (A2 (A3 Z Z) Z (A2 (C3 Z Z (by omega)) Z (A2 (A4 Z Z) Z (A6 ?_))))
   refine k4 (k4 (k1 ?_))
   exact ⟨(p + 1 + 1, acc ++ [d]), ⟨by dsimp only; omega, by simp; omega, by dsimp only; omega, hgo⟩, by dsimp only; omega, Sees.of ⟨le1 rfl, le1 rfl, le1 rfl, le1 rfl, trivial⟩ ⟨rfl, trivial⟩⟩
  have hy : ¬ (d.toNat : Int) = 92 := A1 ht
  have h1 : ¬ (d.toNat = 34 ∨ d.toNat = 92) := by omega
  rw [if_neg h1] at hE
  refine k2 ?_
  refine A5 (A2 (G6 Z Z) Z (A2 (A4 Z Z) Z (A6 ?_)))
  refine k1 ?_
  refine B3 rfl (fun ht => ?_) (fun ht => ?_)
  ·have h2 : (d.toNat : Int) = 110 := A0 ht
   rw [hE, if_pos (by omega)] at hgo
   have hgo : H6 s (p + 1 + 1) (acc ++ [10]) = H6 s (i + 1) [] := hgo
   refine k2 ?_
   refine A5 (A2 (A3 Z Z) Z (A2 (D6 (c := u8C) (ys := [10]) (E3 Z Z Z Z H1) Z Z Z) Z (C8 (J3 Z Z Z (.pure _ _ _ _) (by (simp; omega)) Z) Z (A2 (A4 Z Z) Z (A6 ?_)))))
   refine k1 ?_
   refine A5 (A2 (A3 Z Z) Z (A2 (C3 Z Z (by omega)) Z (A2 (A4 Z Z) Z (A6 ?_))))
   refine k4 (k4 (k1 ?_))
   exact ⟨(p + 1 + 1, acc ++ [10]), ⟨by dsimp only; omega, by simp; omega, by dsimp only; omega, hgo⟩, by dsimp only; omega, Sees.of ⟨le1 rfl, le1 rfl, le1 rfl, le1 rfl, trivial⟩ ⟨rfl, trivial⟩⟩
  have h2 : ¬ (d.toNat : Int) = 110 := A1 ht
  rw [if_neg (by omega)] at hE
  refine k2 ?_
  refine A5 (A2 (G6 Z Z) Z (A2 (A4 Z Z) Z (A6 ?_)))
  refine k1 ?_
  refine B3 rfl (fun ht => ?_) (fun ht => ?_)
  ·have h3 : (d.toNat : Int) = 116 := A0 ht
   rw [hE, if_pos (by omega)] at hgo
   have hgo : H6 s (p + 1 + 1) (acc ++ [9]) = H6 s (i + 1) [] := hgo
   refine k2 ?_
   refine A5 (A2 (A3 Z Z) Z (A2 (D6 (c := u8C) (ys := [9]) (E3 Z Z Z Z H1) Z Z Z) Z (C8 (J3 Z Z Z (.pure _ _ _ _) (by (simp; omega)) Z) Z (A2 (A4 Z Z) Z (A6 ?_)))))
   refine k1 ?_
   refine A5 (A2 (A3 Z Z) Z (A2 (C3 Z Z (by omega)) Z (A2 (A4 Z Z) Z (A6 ?_))))
   refine k4 (k4 (k1 ?_))
   exact ⟨(p + 1 + 1, acc ++ [9]), ⟨by dsimp only; omega, by simp; omega, by dsimp only; omega, hgo⟩, by dsimp only; omega, Sees.of ⟨le1 rfl, le1 rfl, le1 rfl, le1 rfl, trivial⟩ ⟨rfl, trivial⟩⟩
  have h3 : ¬ (d.toNat : Int) = 116 := A1 ht
  rw [if_neg (by omega)] at hE
  refine k2 ?_
  refine A5 (A2 (A3 Z Z) Z (A2 (A3 Z Z) Z (A2 (C3 Z Z (by omega)) Z (C0 (roctal_ok s (p + 1) (by omega) (by omega)) Z Z Z ?_)))); rintro _ ⟨x, b, rfl, ho⟩; refine A2 (A3 Z Z) Z (A2 (B1 Z Z) Z (A2 (B1 Z Z) Z (A2 (A4 Z Z) Z (A2 (A4 Z Z) Z (A6 ?_)))))
  refine k1 (k2 (k2 ?_))
  refine A5 (A2 (A3 Z Z) Z (A2 (E5 Z) Z (A6 ?_)))
  refine k1 ?_
  cases hoc : octI s (p + 1) with
  | none =>
   rw [hoc] at ho hE
   have ho : b = false := ho
   subst ho
   rw [hE] at hgo
   refine B3 rfl (fun ht => ?_) (fun ht => ?_)
   ·refine k2 ?_
    refine A5 (A2 (A4 Z Z) Z (A2 (A4 Z Z) Z (A2 (A4 Z Z) Z (A6 ?_))))
    refine k1 (k10 (k11 (k12 (k12 (k11 (k12 (k11 ?_)))))))
    refine B5 (rs := [F6 [], D2 0, D5 false]) (ret3 Z Z Z Z Z Z Z) ?_
    rw [W1 (by rw [hW, ← hgo]; rfl)]
   ·cases ht
  | some y =>
   rw [hoc] at ho hE
   obtain ⟨rfl, rfl⟩ := ho
   have hle := escI_le hE
   rw [hE] at hgo
   have hgo : H6 s (p + 1 + 3) (acc ++ [y]) = H6 s (i + 1) [] := hgo
   refine B3 rfl (fun ht => ?_) (fun ht => ?_)
   ·cases ht
   refine k5 (k1 (k2 ?_))
   refine A5 (A2 (A3 Z Z) Z (A2 (A3 Z Z) Z (A2 (D6 (c := u8C) (ys := [y]) (E3 Z Z Z Z H1) Z Z Z) Z (C8 (J3 Z Z Z (.pure _ _ _ _) (by (simp; omega)) Z) Z (A2 (A4 Z Z) Z (A6 ?_))))))
   refine k1 ?_
   refine A5 (A2 (A3 Z Z) Z (A2 (C3 Z Z (by omega)) Z (A2 (A4 Z Z) Z (A6 ?_))))
   refine k4 (k4 (k1 ?_))
   exact ⟨(p + 1 + 3, acc ++ [y]), ⟨by dsimp only; omega, by simp; omega, by dsimp only; omega, hgo⟩, by dsimp only; omega, Sees.of ⟨le1 rfl, le1 rfl, le1 rfl, le1 rfl, trivial⟩ ⟨rfl, trivial⟩⟩
 ·have hh := A1 ht
  have htk : (s.drop i).take (((p : Int) + 1).toNat - i) = (s.drop i).take (p + 1 - i) := rfl
  refine k6 (k2 (k2 ?_))
  refine C2 (by kernel_rfl) (by kernel_rfl) (A9 (A3 Z Z) Z Z (A9 (A3 Z Z) Z Z (A9 (D8 Z) Z Z (A9 (V1 Z Z) Z Z (A9 (A3 Z Z) Z Z (B6 Z Z (fun hg => by rw [hg]; exact A3 Z Z) Z Z ?_)))))); refine B6 Z Z (fun hg => by rw [hg]; exact N6 TyStr.out Z (.buf _ _ _ _ _)) Z Z ?_; refine B6 Z Z (fun hg => by have hq := hg; (try simp at hq); rw [hg]; exact F9 (rquote_ok acc (by omega)) Z Z) Z Z ?_; refine B6 Z Z (fun hg => by rw [hg]; exact A3 Z Z) Z Z ?_; refine B6 Z Z (fun hg => by rw [hg]; exact A3 Z Z) Z Z ?_; refine B6 Z Z (fun hg => by rw [hg]; exact A3 Z Z) Z Z ?_; refine B6 Z Z (fun hg => by have hq := hg; (try simp at hq); rw [hg]; exact C3 Z Z (by omega)) Z Z ?_; refine B6 Z Z (fun hg => by have hq := hg; (try simp at hq); rw [hg]; exact Q0 Z Z Z (by omega) (by omega) (by omega)) Z Z ?_; refine B6 Z Z (fun hg => by rw [hg]; exact V2 Z Z) Z Z ?_; refine A9 (B2 Z (fun h => by first | rfl | (rw [h]; rfl)) (fun h => by first | rfl | (rw [h]; rfl))) Z Z ?_; refine H3 ?_
  simp only [or_pick]
  rw [Int.toNat_natCast, htk]
  refine k1 ?_
  by_cases hpl : p < s.length
  ·have hc34 : c.toNat = 34 := by
    by_cases h : c.toNat = 34
    ·exact h
    ·exact absurd ⟨by omega, by omega⟩ hh
   rw [o5 hpl, ← hc, if_pos hc34] at hgo
   rw [← hgo] at hW
   have hW : R6 (s.drop i) = if I4 acc = (s.drop i).take (p + 1 - i) then some (acc, p + 1 - i) else none := hW
   refine B3 rfl (fun ht => ?_) (fun ht => ?_)
   ·have h1 : ¬ I4 acc = (s.drop i).take (p + 1 - i) := by
     rcases A0 ht with h | h
     ·omega
     ·exact h
    refine k2 ?_
    refine A5 (A2 (A4 Z Z) Z (A2 (A4 Z Z) Z (A2 (A4 Z Z) Z (A6 ?_))))
    refine k1 (k10 (k11 ?_))
    refine B5 (rs := [F6 [], D2 0, D5 false]) (ret3 Z Z Z Z Z Z Z) ?_
    rw [W1 (by rw [hW, if_neg h1])]
   ·have h1 : I4 acc = (s.drop i).take (p + 1 - i) := Decidable.not_not.1 fun h => A1 ht (.inr h)
    refine k5 (k1 (k2 ?_))
    refine A5 (A2 (A3 Z Z) Z (A2 (N6 TyStr.out Z (.buf _ _ _ _ _)) Z (A2 (A3 Z Z) Z (A2 (C3 Z Z (by omega)) Z (A2 (A4 Z Z) Z (A2 (A4 Z Z) Z (A2 (A4 Z Z) Z (A6 ?_))))))))
    refine k1 (k10 ?_)
    refine B5 (rs := [F6 acc, D2 ((p : Int) + 1), D5 true]) (ret3 Z Z Z Z Z Z Z) ?_
    rw [wordR_some (k := p + 1 - i) (by rw [hW, if_pos h1]), show ((i + (p + 1 - i) : Nat) : Int) = (p : Int) + 1 by omega]
  ·rw [m7 (by omega)] at hgo
   rw [← hgo] at hW
   refine B3 rfl (fun ht => ?_) (fun ht => ?_)
   rotate_left
   ·exact absurd (.inl (by omega)) (A1 ht)
   refine k2 ?_
   refine A5 (A2 (A4 Z Z) Z (A2 (A4 Z Z) Z (A2 (A4 Z Z) Z (A6 ?_))))
   refine k1 (k10 (k11 ?_))
   refine B5 (rs := [F6 [], D2 0, D5 false]) (ret3 Z Z Z Z Z Z Z) ?_
   rw [W1 (by rw [hW])]
theorem count1_ok (s : Str) (c : UInt8) : FnOk Tryz.prog 140 [F6 s, F6 [c]] (fun rs => rs = [D2 (s.count c)]) :=
 FnOk.ofPlain (xs := [.string ⟨s.toArray⟩, .string ⟨#[c]⟩]) ⟨_, rfl, rfl, rfl⟩ rfl fun w => by simpa [Lib.countByte] using Tryz.strings_Count_one ⟨s.toArray⟩ c w
theorem index1_ok (s : Str) (c : UInt8) : FnOk Tryz.prog 141 [F6 s, F6 [c]] (fun rs => rs = [D2 (Lib.indexByte s c)]) :=
 FnOk.ofPlain (xs := [.string ⟨s.toArray⟩, .string ⟨#[c]⟩]) ⟨_, rfl, rfl, rfl⟩ rfl fun w => by simpa using Tryz.strings_Index_one ⟨s.toArray⟩ c w
theorem rsplit_ok (s : Str) (hs : s.length ≤ 536870912) : FnOk Tryz.prog 76 [F6 s] (fun rs => rs = [Z6 (u4 s).1, D2 (u4 s).2]) := by
 refine FnOk.intro Tryz.func76 (by decide) Z Z Z Z ?_
 refine k2 ?_
 refine A5 (A2 (A4 Z Z) Z (A2 (A4 Z Z) Z (A6 ?_)))
 refine k1 (k2 (k2 ?_))
 refine A5 (A2 (A3 Z Z) Z (C0 (check_ok s (by omega)) Z Z Z ?_)); rintro _ rfl; refine A2 (J2 Z Z) Z (A6 ?_)
 refine k1 ?_
 refine B3 rfl (fun ht => ?_) (fun ht => ?_)
 ·have h : checkOf s ≠ 0 := by simpa using ht
  have h1 : s.length > 1048576 ∨ (D9 s).length > 4096 := by
   by_cases h1 : s.length > 1048576 ∨ (D9 s).length > 4096
   ·exact h1
   ·exact absurd (by rw [checkOf, if_neg h1]) h
  refine k2 ?_
  refine A5 (A2 (W7 _ 1 K8) Z (A2 (A4 Z Z) Z (A6 ?_)))
  refine k1 (k10 (k11 ?_))
  exact B5 (X9 rfl rfl rfl rfl rfl) (by rw [u4, if_pos h1])
 ·have h : checkOf s = 0 := by simpa using ht
  have h1 : ¬ (s.length > 1048576 ∨ (D9 s).length > 4096) := fun h1 => by rw [checkOf, if_pos h1] at h; omega
  refine k5 (k1 (k2 ?_))
  refine A5 (A2 (A3 Z Z) Z (C0 (lines_ok s (by omega)) Z Z Z ?_)); rintro _ rfl; refine A2 (A4 Z Z) Z (A2 (A4 Z Z) Z (A6 ?_))
  refine k1 (k10 ?_)
  exact B5 (X9 rfl rfl rfl rfl rfl) (by rw [u4, if_neg h1])
def W2 (r : Str) : List Str := (D9 (r ++ [10])).map List.dropLast
theorem cuts_cut {a b : Str} (h : (10 : UInt8) ∉ a) : W2 (a ++ 10 :: b) = a :: W2 b := by
 unfold W2 D9
 rw [List.append_assoc, List.cons_append, linesAux_cut _ _ _ h]; simp
theorem cuts_last {r : Str} (h : (10 : UInt8) ∉ r) : W2 r = [r] := by
 unfold W2 D9
 rw [linesAux_cut _ _ _ h]; simp [G2]
theorem cuts_count (r : Str) : (W2 r).length = r.count 10 + 1 := by
 unfold W2
 rw [List.length_map, linesOf_count, List.count_append, ended_app]; simp
theorem cuts_step {P : List Str} {i : Nat} {r a b : Str} (h : P.drop i = W2 r) (hr : r = a ++ 10 :: b) (ha : (10 : UInt8) ∉ a) : P[i]? = some a ∧ P.drop (i + 1) = W2 b := by
 have e : W2 r = a :: W2 b := by rw [hr, cuts_cut ha]
 rw [e] at h
 refine ⟨by rw [← List.head?_drop, h]; rfl, ?_⟩
 rw [← List.tail_drop, h]; rfl
theorem linesS_cuts {s : Str} (h : s ≠ []) : j5 s = if ended s = true then some (W2 s.dropLast) else none := by
 unfold j5
 rw [if_neg h]
 by_cases he : ended s = true
 ·rw [if_pos he, if_pos he]
  obtain ⟨a, rfl⟩ := ended_iff.1 he
  rw [List.dropLast_concat]; rfl
 ·rw [if_neg he, if_neg he]
theorem genSplit0_ok (s : Str) (hs : s.length ≤ 536870912) : FnOk Tryz.prog 95 [F6 s, F6 [10], D2 0, D2 (-1)] (fun rs => rs = [Z6 (W2 s)]) := by
 have hP := cuts_count s
 have hc : s.count 10 ≤ s.length := List.count_le_length
 have h10 : ([10] : Str).length = 1 := rfl
 obtain ⟨P, hPe⟩ : ∃ P, P = W2 s := ⟨_, rfl⟩
 have hPl : P.length = s.count 10 + 1 := by rw [hPe]; exact hP
 refine FnOk.intro Tryz.func95 (by decide) Z Z Z Z ?_
 refine k2 ?_
 refine A5 (A2 (A4 Z Z) Z (A6 ?_))
 refine k1 (k2 (k2 ?_))
 refine A5 (A2 (A3 Z Z) Z (A2 (G6 Z Z) Z (A6 ?_)))
 refine k1 ?_
 refine B3 rfl (fun ht => ?_) (fun ht => ?_)
 ·exact absurd (A0 ht) (by omega)
 refine k5 (k1 (k2 (k2 ?_)))
 refine A5 (A2 (A3 Z Z) Z (A2 (W8 Z Z) Z (A6 ?_)))
 refine k1 ?_
 refine B3 rfl (fun ht => ?_) (fun ht => ?_)
 ·exact absurd (A0 ht) (by simp)
 refine k5 (k1 (k2 (k2 ?_)))
 refine A5 (A2 (A3 Z Z) Z (A2 (F0 Z Z) Z (A6 ?_)))
 refine k1 ?_
 refine B3 rfl (fun ht => ?_) (fun ht => ?_)
 rotate_left
 ·exact absurd (A1 ht) (by omega)
 skip
 refine A5 (A2 (A3 Z Z) Z (A2 (A3 Z Z) Z (C0 (count1_ok s 10) Z Z Z ?_))); rintro _ rfl; refine A2 (C3 Z Z (by omega)) Z (A2 (A4 Z Z) Z (A6 ?_))
 refine k1 (k2 ?_)
 refine A5 (A2 (A3 Z Z) Z (A2 (A3 Z Z) Z (A2 (D8 Z) Z (A2 (C3 Z Z (by omega)) Z (A2 (n_min Z Z) Z (A2 (A4 Z Z) Z (A6 ?_)))))))
 refine k1 (k2 ?_)
 rw [show (if (s.length : Int) + 1 < (s.count 10 : Int) + 1 then (s.length : Int) + 1 else (s.count 10 : Int) + 1) = (P.length : Int) from by split <;> omega]
 refine A5 (A2 (A3 Z Z) Z (C8 (f_makeZ 9 Str K8 [] Z Z (by omega) (by omega) (fun _ => by first | exact ⟨⟨rfl, rfl⟩, trivial⟩ | exact ⟨W6 _ _ _, trivial⟩) (by first | rfl | (simp [H5, M4, Ob.free, SV.free, S1.free, TC.free] <;> rfl))) Z ?_)); refine A2 (A4 Z Z) Z (A6 ?_)
 refine k1 (k2 ?_)
 refine A5 (A2 (A3 Z Z) Z (A2 (L8 Z Z (by omega)) Z (A2 (A4 Z Z) Z (A6 ?_))))
 refine k1 (k2 ?_)
 refine A5 (A2 (A4 Z Z) Z (A6 ?_))
 refine k1 (k2 (k3 ?_))
 refine E9 (X := Nat × Str) (fun x => ([(0, N3 x.2), (1, N3 [10]), (2, C6 0), (3, C6 ((P.length : Int) - 1)), (9, .s (.one (.mut 9))), (10, C6 x.1)], [(9, .arr Str 1 K8 (P.take x.1 ++ List.replicate (P.length - x.1) []))])) (fun x => x.1 + 1 ≤ P.length ∧ P.drop x.1 = W2 x.2 ∧ x.2.length ≤ s.length) (fun x => P.length - x.1) (0, s) ⟨by dsimp only; omega, hPe, Nat.le_refl _⟩ (Sees.of ⟨le1 rfl, le1 rfl, le1 rfl, le1 rfl, le1 rfl, le1 rfl, trivial⟩ ⟨rfl, trivial⟩) ?_
 rintro ⟨i, r⟩ ⟨hi, hp, hr⟩
 dsimp only at hi hp hr ⊢
 refine k2 (k2 ?_)
 refine A5 (A2 (A3 Z Z) Z (A2 (A3 Z Z) Z (A2 (F0 Z Z) Z (A6 ?_))))
 refine k1 ?_
 refine B3 rfl (fun ht => ?_) (fun ht => ?_)
 ·have hlt : i + 1 < P.length := by have := A0 ht; omega
  have hin : (10 : UInt8) ∈ r := by
   have h1 := cuts_count r
   have h2 : (P.drop i).length = r.count 10 + 1 := by rw [hp]; exact h1
   rw [List.length_drop] at h2
   exact List.count_pos_iff.1 (by omega)
  rcases r9 10 r with ⟨h1, _⟩ | ⟨a, b, h1, h2, h3⟩
  ·exact absurd hin h1
  obtain ⟨h4, h5⟩ := cuts_step hp h1 h2
  have hl : r.length = a.length + 1 + b.length := by rw [h1]; simp; omega
  refine k5 (k1 (k3 (k2 ?_)))
  refine A5 (A2 (A3 Z Z) Z (A2 (A3 Z Z) Z (C0 (index1_ok r 10) Z Z Z ?_))); rintro _ rfl; refine A2 (A4 Z Z) Z (A6 ?_)
  refine k1 (k2 (k2 ?_))
  refine A5 (A2 (A3 Z Z) Z (A2 (F0 Z Z) Z (A6 ?_)))
  refine k1 ?_
  rw [h3]
  refine B3 rfl (fun ht => ?_) (fun ht => ?_)
  ·exact absurd (A0 ht) (by omega)
  refine k5 (k1 (k2 ?_))
  refine A5 (A2 (A3 Z Z) Z (A2 (A3 Z Z) Z (A2 (A3 Z Z) Z (A2 (A3 Z Z) Z (A2 (A3 Z Z) Z (A2 (C3 Z Z (by omega)) Z (A2 (m9 Z Z (by omega) (by omega)) Z (A2 (O6 Z Z Z (by omega) (by (simp; omega))) Z (F4 (U6 TySz.out Z Z (by simp; omega) Z Z) (A6 ?_))))))))))
  refine k1 (k2 ?_)
  refine A5 (A2 (A3 Z Z) Z (A2 (A3 Z Z) Z (A2 (A3 Z Z) Z (A2 (D8 Z) Z (A2 (C3 Z Z (by omega)) Z (A2 (Q8 Z Z (by omega) (by omega)) Z (A2 (A4 Z Z) Z (A6 ?_))))))))
  refine k1 ?_
  refine A5 (A2 (A3 Z Z) Z (A2 (C3 Z Z (by omega)) Z (A2 (A4 Z Z) Z (A6 ?_))))
  refine k4 (k1 ?_)
  have e1 : r.take (((a.length : Int) + 0).toNat) = a := by rw [h1, show ((a.length : Int) + 0).toNat = a.length by omega, List.take_left]
  have e2 : r.drop (((a.length : Int) + (([10] : Str).length : Int)).toNat) = b := by rw [h1, h10, show ((a.length : Int) + ((1 : Nat) : Int)).toNat = a.length + 1 by omega, show a ++ 10 :: b = (a ++ [10]) ++ b by simp, List.drop_left' (by simp)]
  refine ⟨(i + 1, b), ⟨by dsimp only; omega, h5, by dsimp only; omega⟩, by dsimp only; omega, ?_⟩
  rw [e1, e2]
  dsimp only
  rw [← fill_step P [] _ i h4]
  exact Sees.of ⟨le1 rfl, le1 rfl, le1 rfl, le1 rfl, le1 rfl, le1 rfl, trivial⟩ ⟨rfl, trivial⟩
 ·have hge : i + 1 = P.length := by have := A1 ht; omega
  have h1 := cuts_count r
  have h2 : (P.drop i).length = r.count 10 + 1 := by rw [hp]; exact h1
  rw [List.length_drop] at h2
  have h3 : (10 : UInt8) ∉ r := List.count_eq_zero.1 (by omega)
  have h4 : P[i]? = some r := by rw [← List.head?_drop, hp, cuts_last h3]; rfl
  refine k6 (k2 ?_)
  refine A5 (A2 (A3 Z Z) Z (A2 (A3 Z Z) Z (A2 (A3 Z Z) Z (A2 (O6 Z Z Z (by omega) (by (simp; omega))) Z (F4 (U6 TySz.out Z Z (by simp; omega) Z Z) (A6 ?_))))))
  refine k1 (k2 ?_)
  have e : (P.take i ++ List.replicate (P.length - i) ([] : Str)).set (i : Int).toNat r = P := by rw [Int.toNat_natCast, fill_step P [] r i h4, hge]; simp
  rw [e]
  refine G7 (Sees.freeze (k := 9) Z) ?_
  refine A5 (A2 (A3 Z Z) Z (A2 (A3 Z Z) Z (A2 (C3 Z Z (by omega)) Z (A2 (n_slice_h Z (.pure _ _ _ _) Z (by omega) (by omega)) Z (A2 (A4 Z Z) Z (A6 ?_))))))
  refine k1 (k10 ?_)
  exact B5 (G8 rfl rfl rfl) (by rw [show ((i : Int) + 1).toNat = P.length by omega, List.take_length, hPe])
theorem split_ok (s : Str) (hs : s.length ≤ 536870912) : FnOk Tryz.prog 62 [F6 s, F6 [10]] (fun rs => rs = [Z6 (W2 s)]) := by
 refine FnOk.intro Tryz.func62 (by decide) Z Z Z Z ?_
 refine k2 ?_
 refine A5 (A2 (A4 Z Z) Z (A6 ?_))
 refine k1 (k2 ?_)
 refine A5 (A2 (A3 Z Z) Z (A2 (A3 Z Z) Z (C0 (genSplit0_ok s hs) Z Z Z ?_))); rintro _ rfl; refine A2 (A4 Z Z) Z (A6 ?_)
 refine k1 (k10 ?_)
 exact B5 (G8 rfl rfl rfl) rfl
theorem lhasPrefix_ok (s p : Str) : FnOk Tryz.prog 186 [F6 s, F6 p] (fun rs => rs = [D5 (decide (s.take p.length = p))]) := by
 refine FnOk.intro Tryz.func186 (by decide) Z Z Z Z ?_
 refine k2 ?_
 refine A5 (A2 (A4 Z Z) Z (A6 ?_))
 refine k1 (k2 ?_)
 refine A5 (A2 (A3 Z Z) Z (A2 (D8 Z) Z (A2 (A3 Z Z) Z (A2 (D8 Z) Z (A2 (V1 Z Z) Z (A2 (A3 Z Z) Z (A8 Z Z Z Z (fun hg => by rw [hg]; exact A3 Z Z) ?_))))))); refine A8 Z Z Z Z (fun hg => by rw [hg]; exact A3 Z Z) ?_; refine A8 Z Z Z Z (fun hg => by rw [hg]; exact D8 Z) ?_; refine A8 Z Z Z Z (fun hg => by have hq := hg; (try simp at hq); rw [hg]; exact m9 Z Z (by omega) (by omega)) ?_; refine A8 Z Z Z Z (fun hg => by rw [hg]; exact A3 Z Z) ?_; refine A8 Z Z Z Z (fun hg => by rw [hg]; exact W8 Z Z) ?_; refine A2 (B2 Z (fun h => by first | rfl | (rw [h]; rfl)) (fun h => by first | rfl | (rw [h]; rfl))) Z ?_; refine A2 (A4 Z Z) Z (A6 ?_)
 simp only [H2, Int.toNat_natCast]
 refine k1 (k10 ?_)
 refine B5 (G8 Z Z Z) ?_
 congr 4
 congr 1
 apply propext; constructor
 ·intro h; exact h.2
 ·intro h
  refine ⟨?_, h⟩
  have := congrArg List.length h
  rw [List.length_take] at this; omega
theorem hasPrefix_ok (s p : Str) : FnOk Tryz.prog 188 [F6 s, F6 p] (fun rs => rs = [D5 (decide (s.take p.length = p))]) := by
 refine FnOk.intro Tryz.func188 (by decide) Z Z Z Z ?_
 refine k2 ?_
 refine A5 (A2 (A4 Z Z) Z (A6 ?_))
 refine k1 (k2 ?_)
 refine A5 (A2 (A3 Z Z) Z (A2 (A3 Z Z) Z (C0 (lhasPrefix_ok s p) Z Z Z ?_))); rintro _ rfl; refine A2 (A4 Z Z) Z (A6 ?_)
 refine k1 (k10 ?_)
 exact B5 (G8 rfl rfl rfl) rfl
def cutP (s p : Str) : List PV := if s.take p.length = p then [F6 (s.drop p.length), D5 true] else [F6 s, D5 false]
theorem lcutPrefix_ok (s p : Str) : FnOk Tryz.prog 167 [F6 s, F6 p] (fun rs => rs = cutP s p) := by
 refine FnOk.intro Tryz.func167 (by decide) Z Z Z Z ?_
 refine k2 ?_
 refine A5 (A2 (A4 Z Z) Z (A2 (A4 Z Z) Z (A6 ?_)))
 refine k1 (k2 (k2 ?_))
 refine A5 (A2 (A3 Z Z) Z (A2 (A3 Z Z) Z (C0 (lhasPrefix_ok s p) Z Z Z ?_))); rintro _ rfl; refine A2 (E5 Z) Z (A6 ?_)
 refine k1 ?_
 refine B3 rfl (fun ht => ?_) (fun ht => ?_)
 ·have h : ¬ s.take p.length = p := by intro h; rw [decide_eq_true h] at ht; cases ht
  refine k2 ?_
  refine A5 (A2 (A3 Z Z) Z (A2 (A4 Z Z) Z (A2 (A4 Z Z) Z (A6 ?_))))
  refine k1 (k10 (k11 ?_))
  exact B5 (rs := [F6 s, D5 false]) (X9 rfl rfl rfl rfl rfl) (by unfold cutP; rw [if_neg h])
 ·have h : s.take p.length = p := by
   by_cases h : s.take p.length = p
   ·exact h
   ·rw [decide_eq_false h] at ht; cases ht
  have hl : p.length ≤ s.length := by
   have := congrArg List.length h
   rw [List.length_take] at this; omega
  refine k5 (k1 (k2 ?_))
  refine A5 (A2 (A3 Z Z) Z (A2 (A3 Z Z) Z (A2 (D8 Z) Z (A2 (Q8 Z Z (by omega) (by omega)) Z (A2 (A4 Z Z) Z (A2 (A4 Z Z) Z (A6 ?_)))))))
  refine k1 (k10 ?_)
  exact B5 (rs := [F6 (s.drop p.length), D5 true]) (X9 rfl rfl rfl rfl rfl) (by unfold cutP; rw [if_pos h])
theorem cutPrefix_ok (s p : Str) : FnOk Tryz.prog 130 [F6 s, F6 p] (fun rs => rs = cutP s p) := by
 have hc := lcutPrefix_ok s p
 unfold cutP at hc ⊢
 by_cases h : s.take p.length = p
 ·rw [if_pos h] at hc ⊢
  refine FnOk.intro Tryz.func130 (by decide) Z Z Z Z ?_
  refine k2 ?_
  refine A5 (A2 (A4 Z Z) Z (A2 (A4 Z Z) Z (A6 ?_)))
  refine k1 (k2 ?_)
  refine A5 (A2 (A3 Z Z) Z (A2 (A3 Z Z) Z (C0 (hc) Z Z Z ?_))); rintro _ rfl; refine A2 (B1 Z Z) Z (A2 (B1 Z Z) Z (A2 (A4 Z Z) Z (A2 (A4 Z Z) Z (A6 ?_))))
  refine k1 (k10 ?_)
  exact B5 (X9 rfl rfl rfl rfl rfl) rfl
 ·rw [if_neg h] at hc ⊢
  refine FnOk.intro Tryz.func130 (by decide) Z Z Z Z ?_
  refine k2 ?_
  refine A5 (A2 (A4 Z Z) Z (A2 (A4 Z Z) Z (A6 ?_)))
  refine k1 (k2 ?_)
  refine A5 (A2 (A3 Z Z) Z (A2 (A3 Z Z) Z (C0 (hc) Z Z Z ?_))); rintro _ rfl; refine A2 (B1 Z Z) Z (A2 (B1 Z Z) Z (A2 (A4 Z Z) Z (A2 (A4 Z Z) Z (A6 ?_))))
  refine k1 (k10 ?_)
  exact B5 (X9 rfl rfl rfl rfl rfl) rfl
theorem ended_drop (s : Str) : ended s = decide (1 ≤ s.length ∧ s.drop (s.length - 1) = [10]) := by
 by_cases h : ended s = true
 ·rw [h]
  obtain ⟨a, rfl⟩ := ended_iff.1 h
  symm; apply decide_eq_true; simp
 ·have h2 : ended s = false := by simpa using h
  rw [h2]; symm; apply decide_eq_false
  rintro ⟨h3, h4⟩
  refine h (ended_iff.2 ⟨s.take (s.length - 1), ?_⟩)
  rw [← h4, List.take_append_drop]
theorem lhasSuffix_ok (s : Str) (hs : s.length ≤ 1073741824) : FnOk Tryz.prog 138 [F6 s, F6 [10]] (fun rs => rs = [D5 (ended s)]) := by
 have h10 : ([10] : Str).length = 1 := rfl
 refine FnOk.intro Tryz.func138 (by decide) Z Z Z Z ?_
 refine k2 ?_
 refine A5 (A2 (A4 Z Z) Z (A6 ?_))
 refine k1 (k2 ?_)
 refine A5 (A2 (A3 Z Z) Z (A2 (D8 Z) Z (A2 (A3 Z Z) Z (A2 (D8 Z) Z (A2 (V1 Z Z) Z (A2 (A3 Z Z) Z (A8 Z Z Z Z (fun hg => by rw [hg]; exact A3 Z Z) ?_))))))); refine A8 Z Z Z Z (fun hg => by rw [hg]; exact A3 Z Z) ?_; refine A8 Z Z Z Z (fun hg => by rw [hg]; exact D8 Z) ?_; refine A8 Z Z Z Z (fun hg => by rw [hg]; exact A3 Z Z) ?_; refine A8 Z Z Z Z (fun hg => by rw [hg]; exact D8 Z) ?_; refine A8 Z Z Z Z (fun hg => by have hq := hg; (try simp at hq); rw [hg]; exact L8 Z Z (by omega)) ?_; refine A8 Z Z Z Z (fun hg => by have hq := hg; (try simp at hq); rw [hg]; exact Q8 Z Z (by omega) (by omega)) ?_; refine A8 Z Z Z Z (fun hg => by rw [hg]; exact A3 Z Z) ?_; refine A8 Z Z Z Z (fun hg => by rw [hg]; exact W8 Z Z) ?_; refine A2 (B2 Z (fun h => by first | rfl | (rw [h]; rfl)) (fun h => by first | rfl | (rw [h]; rfl))) Z ?_; refine A2 (A4 Z Z) Z (A6 ?_)
 simp only [H2]
 refine k1 (k10 ?_)
 refine B5 (G8 Z Z Z) ?_
 rw [ended_drop, h10]
 congr 4
 congr 1
 rw [show ((s.length : Int) - ((1 : Nat) : Int)).toNat = s.length - 1 by omega]
 apply propext; constructor
 ·intro h; exact ⟨by omega, h.2⟩
 ·intro h; exact ⟨by omega, h.2⟩
def cutLf (s : Str) : List PV := if ended s = true then [F6 s.dropLast, D5 true] else [F6 s, D5 false]
theorem lcutSuffix_ok (s : Str) (hs : s.length ≤ 1073741824) : FnOk Tryz.prog 94 [F6 s, F6 [10]] (fun rs => rs = cutLf s) := by
 have h10 : ([10] : Str).length = 1 := rfl
 refine FnOk.intro Tryz.func94 (by decide) Z Z Z Z ?_
 refine k2 ?_
 refine A5 (A2 (A4 Z Z) Z (A2 (A4 Z Z) Z (A6 ?_)))
 refine k1 (k2 (k2 ?_))
 refine A5 (A2 (A3 Z Z) Z (A2 (A3 Z Z) Z (C0 (lhasSuffix_ok s hs) Z Z Z ?_))); rintro _ rfl; refine A2 (E5 Z) Z (A6 ?_)
 refine k1 ?_
 refine B3 rfl (fun ht => ?_) (fun ht => ?_)
 ·have h : ended s = false := by cases h : ended s <;> rw [h] at ht <;> simp at ht ⊢
  refine k2 ?_
  refine A5 (A2 (A3 Z Z) Z (A2 (A4 Z Z) Z (A2 (A4 Z Z) Z (A6 ?_))))
  refine k1 (k10 (k11 ?_))
  exact B5 (rs := [F6 s, D5 false]) (X9 rfl rfl rfl rfl rfl) (by unfold cutLf; rw [h]; rfl)
 ·have h : ended s = true := by cases h : ended s <;> rw [h] at ht <;> simp at ht ⊢
  have hl : 1 ≤ s.length := by obtain ⟨a, rfl⟩ := ended_iff.1 h; simp
  refine k5 (k1 (k2 ?_))
  refine A5 (A2 (A3 Z Z) Z (A2 (A3 Z Z) Z (A2 (D8 Z) Z (A2 (A3 Z Z) Z (A2 (D8 Z) Z (A2 (L8 Z Z (by omega)) Z (A2 (m9 Z Z (by omega) (by omega)) Z (A2 (A4 Z Z) Z (A2 (A4 Z Z) Z (A6 ?_))))))))))
  refine k1 (k10 ?_)
  refine B5 (rs := [F6 s.dropLast, D5 true]) (X9 rfl rfl (by rw [h10, show ((s.length : Int) - ((1 : Nat) : Int)).toNat = s.length - 1 by omega, ← List.dropLast_eq_take]; rfl) rfl rfl) (by unfold cutLf; rw [if_pos h])
theorem cutSuffix_ok (s : Str) (hs : s.length ≤ 1073741824) : FnOk Tryz.prog 61 [F6 s, F6 [10]] (fun rs => rs = cutLf s) := by
 have hc := lcutSuffix_ok s hs
 unfold cutLf at hc ⊢
 by_cases h : ended s = true
 ·rw [if_pos h] at hc ⊢
  refine FnOk.intro Tryz.func61 (by decide) Z Z Z Z ?_
  refine k2 ?_
  refine A5 (A2 (A4 Z Z) Z (A2 (A4 Z Z) Z (A6 ?_)))
  refine k1 (k2 ?_)
  refine A5 (A2 (A3 Z Z) Z (A2 (A3 Z Z) Z (C0 (hc) Z Z Z ?_))); rintro _ rfl; refine A2 (B1 Z Z) Z (A2 (B1 Z Z) Z (A2 (A4 Z Z) Z (A2 (A4 Z Z) Z (A6 ?_))))
  refine k1 (k10 ?_)
  exact B5 (X9 rfl rfl rfl rfl rfl) rfl
 ·rw [if_neg h] at hc ⊢
  refine FnOk.intro Tryz.func61 (by decide) Z Z Z Z ?_
  refine k2 ?_
  refine A5 (A2 (A4 Z Z) Z (A2 (A4 Z Z) Z (A6 ?_)))
  refine k1 (k2 ?_)
  refine A5 (A2 (A3 Z Z) Z (A2 (A3 Z Z) Z (C0 (hc) Z Z Z ?_))); rintro _ rfl; refine A2 (B1 Z Z) Z (A2 (B1 Z Z) Z (A2 (A4 Z Z) Z (A2 (A4 Z Z) Z (A6 ?_))))
  refine k1 (k10 ?_)
  exact B5 (X9 rfl rfl rfl rfl rfl) rfl
def w9 (s : Str) : List PV := match j5 s with
 | none => [Z6 [], D5 false]
 | some l => [Z6 l, D5 true]
theorem stLines_ok (s : Str) (hs : s.length ≤ 536870912) : FnOk Tryz.prog 33 [F6 s] (fun rs => rs = w9 s) := by
 refine FnOk.intro Tryz.func33 (by decide) Z Z Z Z ?_
 refine k2 ?_
 refine A5 (A2 (A4 Z Z) Z (A2 (A4 Z Z) Z (A6 ?_)))
 refine k1 (k2 (k2 ?_))
 refine A5 (A2 (A3 Z Z) Z (A2 (W8 Z Z) Z (A6 ?_)))
 refine k1 ?_
 refine B3 rfl (fun ht => ?_) (fun ht => ?_)
 ·have h : s = [] := A0 ht
  refine k2 ?_
  refine A5 (A2 (W7 _ 1 K8) Z (A2 (A4 Z Z) Z (A6 ?_)))
  refine k1 (k10 (k11 ?_))
  exact B5 (rs := [Z6 [], D5 true]) (X9 rfl rfl rfl rfl rfl) (by unfold w9 j5; rw [if_pos h])
 have h : s ≠ [] := A1 ht
 have hc := cutSuffix_ok s (by omega)
 unfold cutLf at hc
 by_cases he : ended s = true
 ·rw [if_pos he] at hc
  have hl : s.dropLast.length ≤ s.length := by rw [List.length_dropLast]; omega
  refine k5 (k1 (k2 ?_))
  refine A5 (A2 (A3 Z Z) Z (C0 (hc) Z Z Z ?_)); rintro _ rfl; refine A2 (A3 Z Z) Z (A2 (B1 Z Z) Z (A2 (B1 Z Z) Z (A2 (A4 Z Z) Z (A2 (A4 Z Z) Z (A6 ?_)))))
  refine k1 (k2 (k2 ?_))
  refine A5 (A2 (A3 Z Z) Z (A2 (E5 Z) Z (A6 ?_)))
  refine k1 ?_
  refine B3 rfl (fun ht => ?_) (fun ht => ?_)
  ·cases ht
  refine k5 (k1 (k2 ?_))
  refine A5 (A2 (A3 Z Z) Z (C0 (split_ok s.dropLast (by omega)) Z Z Z ?_)); rintro _ rfl; refine A2 (A4 Z Z) Z (A2 (A4 Z Z) Z (A6 ?_))
  refine k1 (k10 ?_)
  exact B5 (rs := [Z6 (W2 s.dropLast), D5 true]) (X9 rfl rfl rfl rfl rfl) (by unfold w9; rw [linesS_cuts h, if_pos he])
 ·rw [if_neg he] at hc
  refine k5 (k1 (k2 ?_))
  refine A5 (A2 (A3 Z Z) Z (C0 (hc) Z Z Z ?_)); rintro _ rfl; refine A2 (A3 Z Z) Z (A2 (B1 Z Z) Z (A2 (B1 Z Z) Z (A2 (A4 Z Z) Z (A2 (A4 Z Z) Z (A6 ?_)))))
  refine k1 (k2 (k2 ?_))
  refine A5 (A2 (A3 Z Z) Z (A2 (E5 Z) Z (A6 ?_)))
  refine k1 ?_
  refine B3 rfl (fun ht => ?_) (fun ht => ?_)
  ·refine k2 ?_
   refine A5 (A2 (W7 _ 1 K8) Z (A2 (A4 Z Z) Z (A6 ?_)))
   refine k1 (k10 (k11 ?_))
   exact B5 (rs := [Z6 [], D5 false]) (X9 rfl rfl rfl rfl rfl) (by unfold w9; rw [linesS_cuts h, if_neg he])
  ·cases ht
theorem stname_ok (l pre : Str) (hl : l.length ≤ 16777216) : FnOk Tryz.prog 90 [F6 l, F6 pre]
  (fun rs => ∃ (w : Str) (b : Bool), rs = [F6 w, D5 b] ∧ match J7 l pre with
   | some w' => b = true ∧ w = w'
   | none => b = false) := by
 have hc := cutPrefix_ok l pre
 unfold cutP at hc
 by_cases h : l.take pre.length = pre
 ·rw [if_pos h] at hc
  obtain ⟨r, hr⟩ : ∃ r, r = l.drop pre.length := ⟨_, rfl⟩
  have hrl : r.length ≤ l.length := by rw [hr, List.length_drop]; omega
  have hu := sUnquote_ok r 0 (Nat.zero_le _) (by omega)
  rw [← hr] at hc
  cases hw : R6 r with
  | none =>
   rw [W1 (by rw [List.drop_zero]; exact hw)] at hu
   have hN : J7 l pre = none := by unfold J7; rw [if_pos h, ← hr, hw]
   refine FnOk.intro Tryz.func90 (by decide) Z Z Z Z ?_
   refine k2 ?_
   refine A5 (A2 (A4 Z Z) Z (A2 (A4 Z Z) Z (A6 ?_)))
   refine k1 (k2 ?_)
   refine A5 (A2 (A3 Z Z) Z (A2 (A3 Z Z) Z (C0 (hc) Z Z Z ?_))); rintro _ rfl; refine A2 (A3 Z Z) Z (A2 (B1 Z Z) Z (A2 (B1 Z Z) Z (A2 (A4 Z Z) Z (A2 (A4 Z Z) Z (A6 ?_)))))
   refine k1 (k2 (k2 ?_))
   refine A5 (A2 (A3 Z Z) Z (A2 (E5 Z) Z (A6 ?_)))
   refine k1 ?_
   refine B3 rfl (fun ht => ?_) (fun ht => ?_)
   ·cases ht
   refine k5 (k1 (k2 ?_))
   refine A5 (A2 (A3 Z Z) Z (C0 (hu) Z Z Z ?_)); rintro _ rfl; refine A2 (A3 Z Z) Z (A2 (B1 Z Z) Z (A2 (B1 Z Z) Z (A2 (B1 Z Z) Z (A2 (A4 Z Z) Z (A2 (A4 Z Z) Z (A2 (A4 Z Z) Z (A6 ?_)))))))
   refine k1 (k2 ?_)
   refine A5 (A2 (A3 Z Z) Z (A2 (A3 Z Z) Z (A2 (A3 Z Z) Z (A8 Z Z Z Z (fun hg => by rw [hg]; exact A3 Z Z) ?_)))); refine A8 Z Z Z Z (fun hg => by rw [hg]; exact A3 Z Z) ?_; refine A8 Z Z Z Z (fun hg => by rw [hg]; exact D8 Z) ?_; refine A8 Z Z Z Z (fun hg => by rw [hg]; exact G6 Z Z) ?_; refine A2 (B2 Z (fun h => by first | rfl | (rw [h]; rfl)) (fun h => by first | rfl | (rw [h]; rfl))) Z ?_; refine A2 (A4 Z Z) Z (A2 (A4 Z Z) Z (A6 ?_))
   refine k1 (k10 ?_)
   refine B5 (X9 rfl rfl rfl rfl rfl) ⟨[], _, rfl, ?_⟩
   rw [hN]; rfl
  | some q =>
   obtain ⟨w, k⟩ := q
   rw [wordR_some (k := k) (by rw [List.drop_zero]; exact hw), Nat.zero_add] at hu
   have hN : J7 l pre = if k = r.length then some w else none := by unfold J7; rw [if_pos h, ← hr, hw]
   refine FnOk.intro Tryz.func90 (by decide) Z Z Z Z ?_
   refine k2 ?_
   refine A5 (A2 (A4 Z Z) Z (A2 (A4 Z Z) Z (A6 ?_)))
   refine k1 (k2 ?_)
   refine A5 (A2 (A3 Z Z) Z (A2 (A3 Z Z) Z (C0 (hc) Z Z Z ?_))); rintro _ rfl; refine A2 (A3 Z Z) Z (A2 (B1 Z Z) Z (A2 (B1 Z Z) Z (A2 (A4 Z Z) Z (A2 (A4 Z Z) Z (A6 ?_)))))
   refine k1 (k2 (k2 ?_))
   refine A5 (A2 (A3 Z Z) Z (A2 (E5 Z) Z (A6 ?_)))
   refine k1 ?_
   refine B3 rfl (fun ht => ?_) (fun ht => ?_)
   ·cases ht
   refine k5 (k1 (k2 ?_))
   refine A5 (A2 (A3 Z Z) Z (C0 (hu) Z Z Z ?_)); rintro _ rfl; refine A2 (A3 Z Z) Z (A2 (B1 Z Z) Z (A2 (B1 Z Z) Z (A2 (B1 Z Z) Z (A2 (A4 Z Z) Z (A2 (A4 Z Z) Z (A2 (A4 Z Z) Z (A6 ?_)))))))
   refine k1 (k2 ?_)
   refine A5 (A2 (A3 Z Z) Z (A2 (A3 Z Z) Z (A2 (A3 Z Z) Z (A8 Z Z Z Z (fun hg => by rw [hg]; exact A3 Z Z) ?_)))); refine A8 Z Z Z Z (fun hg => by rw [hg]; exact A3 Z Z) ?_; refine A8 Z Z Z Z (fun hg => by rw [hg]; exact D8 Z) ?_; refine A8 Z Z Z Z (fun hg => by rw [hg]; exact G6 Z Z) ?_; refine A2 (B2 Z (fun h => by first | rfl | (rw [h]; rfl)) (fun h => by first | rfl | (rw [h]; rfl))) Z ?_; refine A2 (A4 Z Z) Z (A2 (A4 Z Z) Z (A6 ?_))
   refine k1 (k10 ?_)
   refine B5 (X9 rfl rfl rfl rfl rfl) ⟨w, _, rfl, ?_⟩
   rw [hN]
   by_cases hk : k = r.length
   ·rw [if_pos hk]; exact ⟨by rw [hk]; simp, rfl⟩
   ·rw [if_neg hk]; simp; omega
 ·rw [if_neg h] at hc
  have hN : J7 l pre = none := by unfold J7; rw [if_neg h]
  refine FnOk.intro Tryz.func90 (by decide) Z Z Z Z ?_
  refine k2 ?_
  refine A5 (A2 (A4 Z Z) Z (A2 (A4 Z Z) Z (A6 ?_)))
  refine k1 (k2 ?_)
  refine A5 (A2 (A3 Z Z) Z (A2 (A3 Z Z) Z (C0 (hc) Z Z Z ?_))); rintro _ rfl; refine A2 (A3 Z Z) Z (A2 (B1 Z Z) Z (A2 (B1 Z Z) Z (A2 (A4 Z Z) Z (A2 (A4 Z Z) Z (A6 ?_)))))
  refine k1 (k2 (k2 ?_))
  refine A5 (A2 (A3 Z Z) Z (A2 (E5 Z) Z (A6 ?_)))
  refine k1 ?_
  refine B3 rfl (fun ht => ?_) (fun ht => ?_)
  ·refine k2 ?_
   refine A5 (A2 (A4 Z Z) Z (A2 (A4 Z Z) Z (A6 ?_)))
   refine k1 (k10 (k11 ?_))
   refine B5 (rs := [F6 [], D5 false]) (X9 rfl rfl rfl rfl rfl) ⟨[], false, rfl, ?_⟩
   rw [hN]
  ·cases ht
def spanR (l : Str) (i : Nat) (pre : Str) : List PV := match K5 l i pre with
 | none => [D2 0, D2 0, D5 false]
 | some (a, _, e) => [D2 a, D2 (e : Int), D5 true]
theorem take_len {l pre : Str} {i : Nat} (hi : i ≤ l.length) (h : (l.drop i).take pre.length = pre) : i + pre.length ≤ l.length := by
 have := congrArg List.length h
 rw [List.length_take, List.length_drop] at this; omega
theorem rngFin_le {s : Str} {a c e : Nat} {r : Int × Int × Nat} (h : s7 s a c e = some r) : r.2.2 = e := by
 unfold s7 at h
 obtain ⟨st, hst⟩ : ∃ st : Int, st = if 0 < c then (a : Int) - 1 else a := ⟨_, rfl⟩
 rw [← hst] at h
 by_cases hc : G5 st c = s.take e
 ·rw [if_pos hc] at h; cases h; rfl
 ·rw [if_neg hc] at h; cases h
theorem rngAt_le {s : Str} {a n : Int} {e : Nat} (h : Q3 s = some (a, n, e)) : e ≤ s.length := by
 unfold Q3 at h
 cases h1 : R7 s with
 | none => rw [h1] at h; cases h
 | some p =>
  obtain ⟨v, k⟩ := p
  rw [h1] at h
  dsimp only at h
  obtain ⟨_, _, _, hk, _⟩ := m6 h1
  split at h
  ·rename_i h44
   have hlt := (List.getElem?_eq_some_iff.1 h44).1
   cases h2 : R7 (s.drop (k + 1)) with
   | none => rw [h2] at h; cases h
   | some q =>
    obtain ⟨c, k'⟩ := q
    rw [h2] at h
    dsimp only at h
    obtain ⟨_, _, _, hk', _⟩ := m6 h2
    rw [List.length_drop] at hk'
    have := rngFin_le h
    dsimp only at this; omega
  ·have := rngFin_le h
   dsimp only at this; omega
theorem spanAt_le {l pre : Str} {i : Nat} {a n : Int} {e : Nat} (hi : i ≤ l.length) (h : K5 l i pre = some (a, n, e)) : e ≤ l.length := by
 unfold K5 at h
 split at h
 ·rename_i h1
  have h2 := take_len hi h1
  cases h3 : Q3 (l.drop (i + pre.length)) with
  | none => rw [h3] at h; cases h
  | some q =>
   obtain ⟨x, y, z⟩ := q
   rw [h3] at h
   have h4 := rngAt_le h3
   rw [List.length_drop] at h4
   simp at h; omega
 ·cases h
theorem stspan_ok (l : Str) (i : Nat) (pre : Str) (hi : i ≤ l.length) (hl : l.length ≤ 16777216) : FnOk Tryz.prog 169 [F6 l, D2 i, F6 pre] (fun rs => rs = spanR l i pre) := by
 by_cases h : (l.drop i).take pre.length = pre
 ·have hp := take_len hi h
  have hr := sRange_ok l (i + pre.length) hp (by omega)
  cases hg : Q3 (l.drop (i + pre.length)) with
  | none =>
   have hr : FnOk Tryz.prog 189 [F6 l, D2 ((i + pre.length : Nat) : Int)] (fun rs => rs = [D2 0, D2 0, D2 0, D5 false]) := by unfold rngR at hr; rw [hg] at hr; exact hr
   rw [show ((i + pre.length : Nat) : Int) = (i : Int) + (pre.length : Int) by omega] at hr
   have hS : K5 l i pre = none := by unfold K5; rw [if_pos h, hg]
   refine FnOk.intro Tryz.func169 (by decide) Z Z Z Z ?_
   refine k2 ?_
   refine A5 (A2 (A4 Z Z) Z (A2 (A4 Z Z) Z (A2 (A4 Z Z) Z (A6 ?_))))
   refine k1 (k2 (k2 ?_))
   refine A5 (A2 (A3 Z Z) Z (A2 (A3 Z Z) Z (A2 (Q8 Z Z (by omega) (by omega)) Z (A2 (A3 Z Z) Z (C0 (hasPrefix_ok (l.drop i) pre) Z Z Z ?_))))); rintro _ rfl; refine A2 (E5 Z) Z (A6 ?_)
   refine k1 ?_
   refine B3 rfl (fun ht => ?_) (fun ht => ?_)
   ·rw [decide_eq_true h] at ht; cases ht
   refine k5 (k1 (k2 ?_))
   refine A5 (A2 (A3 Z Z) Z (A2 (A3 Z Z) Z (A2 (A3 Z Z) Z (A2 (D8 Z) Z (A2 (C3 Z Z (by omega)) Z (C0 (hr) Z Z Z ?_)))))); rintro _ rfl; refine A2 (A3 Z Z) Z (A2 (B1 Z Z) Z (A2 (B1 Z Z) Z (A2 (B1 Z Z) Z (A2 (B1 Z Z) Z (A2 (A4 Z Z) Z (A2 (A4 Z Z) Z (A2 (A4 Z Z) Z (A2 (A4 Z Z) Z (A6 ?_)))))))))
   refine k1 (k2 ?_)
   refine A5 (A2 (A3 Z Z) Z (A2 (A3 Z Z) Z (A2 (A3 Z Z) Z (A2 (A4 Z Z) Z (A2 (A4 Z Z) Z (A2 (A4 Z Z) Z (A6 ?_)))))))
   refine k1 (k10 ?_)
   refine B5 (rs := [D2 0, D2 0, D5 false]) (ret3 Z Z Z Z Z Z Z) ?_
   unfold spanR; rw [hS]
  | some q =>
   obtain ⟨a, n, e⟩ := q
   have hr : FnOk Tryz.prog 189 [F6 l, D2 ((i + pre.length : Nat) : Int)] (fun rs => rs = [D2 a, D2 n, D2 ((i + pre.length + e : Nat) : Int), D5 true]) := by unfold rngR at hr; rw [hg] at hr; exact hr
   rw [show ((i + pre.length : Nat) : Int) = (i : Int) + (pre.length : Int) by omega] at hr
   have hS : K5 l i pre = some (a, n, i + pre.length + e) := by unfold K5; rw [if_pos h, hg]
   refine FnOk.intro Tryz.func169 (by decide) Z Z Z Z ?_
   refine k2 ?_
   refine A5 (A2 (A4 Z Z) Z (A2 (A4 Z Z) Z (A2 (A4 Z Z) Z (A6 ?_))))
   refine k1 (k2 (k2 ?_))
   refine A5 (A2 (A3 Z Z) Z (A2 (A3 Z Z) Z (A2 (Q8 Z Z (by omega) (by omega)) Z (A2 (A3 Z Z) Z (C0 (hasPrefix_ok (l.drop i) pre) Z Z Z ?_))))); rintro _ rfl; refine A2 (E5 Z) Z (A6 ?_)
   refine k1 ?_
   refine B3 rfl (fun ht => ?_) (fun ht => ?_)
   ·rw [decide_eq_true h] at ht; cases ht
   refine k5 (k1 (k2 ?_))
   refine A5 (A2 (A3 Z Z) Z (A2 (A3 Z Z) Z (A2 (A3 Z Z) Z (A2 (D8 Z) Z (A2 (C3 Z Z (by omega)) Z (C0 (hr) Z Z Z ?_)))))); rintro _ rfl; refine A2 (A3 Z Z) Z (A2 (B1 Z Z) Z (A2 (B1 Z Z) Z (A2 (B1 Z Z) Z (A2 (B1 Z Z) Z (A2 (A4 Z Z) Z (A2 (A4 Z Z) Z (A2 (A4 Z Z) Z (A2 (A4 Z Z) Z (A6 ?_)))))))))
   refine k1 (k2 ?_)
   refine A5 (A2 (A3 Z Z) Z (A2 (A3 Z Z) Z (A2 (A3 Z Z) Z (A2 (A4 Z Z) Z (A2 (A4 Z Z) Z (A2 (A4 Z Z) Z (A6 ?_)))))))
   refine k1 (k10 ?_)
   refine B5 (rs := [D2 a, D2 ((i + pre.length + e : Nat) : Int), D5 true]) (ret3 Z Z Z Z Z Z Z) ?_
   unfold spanR; rw [hS]
 ·have hS : K5 l i pre = none := by unfold K5; rw [if_neg h]
  refine FnOk.intro Tryz.func169 (by decide) Z Z Z Z ?_
  refine k2 ?_
  refine A5 (A2 (A4 Z Z) Z (A2 (A4 Z Z) Z (A2 (A4 Z Z) Z (A6 ?_))))
  refine k1 (k2 (k2 ?_))
  refine A5 (A2 (A3 Z Z) Z (A2 (A3 Z Z) Z (A2 (Q8 Z Z (by omega) (by omega)) Z (A2 (A3 Z Z) Z (C0 (hasPrefix_ok (l.drop i) pre) Z Z Z ?_))))); rintro _ rfl; refine A2 (E5 Z) Z (A6 ?_)
  refine k1 ?_
  refine B3 rfl (fun ht => ?_) (fun ht => ?_)
  ·refine k2 ?_
   refine A5 (A2 (A4 Z Z) Z (A2 (A4 Z Z) Z (A2 (A4 Z Z) Z (A6 ?_))))
   refine k1 (k10 (k11 ?_))
   refine B5 (rs := [D2 0, D2 0, D5 false]) (ret3 Z Z Z Z Z Z Z) ?_
   unfold spanR; rw [hS]
  ·rw [decide_eq_false h] at ht; cases ht
def methC : UInt8 × Nat → Nat → Cell
 | (c, _), 0 => .v (.int .u8 c.toNat)
 | (_, f), _ => .v (.func (.func f) #[] #[])
def meths : List (UInt8 × Nat) := [(64, 132), (32, 133), (45, 133), (43, 133), (92, 134)]
def y7 (c : UInt8) : Value := match meths.find? fun m => decide (m.1 = c) with
 | some m => .func (.func m.2) #[] #[]
 | none => .nilFunc
theorem find_none {c : UInt8} : ∀ (l : List (UInt8 × Nat)) (k : Nat), (∀ j m, j < k → l[j]? = some m → m.1 ≠ c) → l.find? (fun m => decide (m.1 = c)) = (l.drop k).find? fun m => decide (m.1 = c)
 | [], k, _ => by simp
 | x :: r, 0, _ => rfl
 | x :: r, k + 1, h => by
  have h0 : x.1 ≠ c := h 0 x (by omega) rfl
  rw [List.find?_cons_of_neg (by simpa using h0), List.drop_succ_cons]
  exact find_none r k fun j m hj hm => h (j + 1) m (by omega) (by simpa using hm)
theorem choose_ok (c : UInt8) : FnOk Tryz.prog 91 [pByte c] (fun rs => rs = [.one (.v (y7 c))]) := by
 have hm5 : meths.length = 5 := rfl
 refine FnOk.intro Tryz.func91 (by decide) Z Z Z Z ?_
 refine k2 ?_
 refine A5 (A2 (A4 Z Z) Z (A6 ?_))
 refine k1 (k2 (k2 ?_))
 refine A5 (A2 (G4 Z) Z (A2 (G4 Z) Z (A2 (G4 Z) Z (A2 (G4 Z) Z (A2 (G4 Z) Z (A2 (D6 (c := methC) (ys := meths) (E3 Z Z Z Z (E3 Z Z Z Z (E3 Z Z Z Z (E3 Z Z Z Z (E3 Z Z Z Z H1))))) Z Z Z) Z (A2 (F8 Z (.pure _ _ _ _)) Z (A2 (A3 Z Z) Z (A6 ?_)))))))))
 refine k1 (k3 ?_)
 refine E9 (X := Nat) (fun k => ([(0, .s (pByte c).s1), (10, E8 (UInt8 × Nat) 2 methC meths), (11, C6 5), (12, C6 k)], [])) (fun k => k ≤ 5 ∧ ∀ j m, j < k → meths[j]? = some m → m.1 ≠ c) (fun k => 5 - k) 0 ⟨by omega, by omega⟩ (Sees.of ⟨le1 rfl, le1 rfl, le1 rfl, le1 rfl, trivial⟩ trivial) ?_
 rintro k ⟨hk, hne⟩
 dsimp only at hk hne ⊢
 refine k2 ?_
 refine A5 (A2 (F0 Z Z) Z (A6 ?_))
 refine k1 (k2 ?_)
 refine B3 rfl (fun ht => ?_) (fun ht => ?_)
 ·have hlt : k < 5 := by have := A0 ht; omega
  obtain ⟨m, hm⟩ : ∃ m, meths[k]? = some m := ⟨meths[k]'(by omega), List.getElem?_eq_getElem _⟩
  obtain ⟨m1, m2⟩ := m
  refine k5 (k1 (k2 (k3 (k2 ?_))))
  refine A5 (A2 (B4 Z (.pure _ _ _ _) Z (by omega) hm) Z (A2 (F2 Z Z) Z (C8 (H4 4 Z) Z (F4 (B9 TySz.out Z Z Z Z Z Z) (A6 ?_)))))
  refine k1 (k2 ?_)
  refine A5 (A2 (A7 Z) Z (A2 (B0 Z Z Z) Z (A2 (A3 Z Z) Z (A2 (G6 Z Z) Z (A6 ?_)))))
  refine k1 ?_
  refine B3 rfl (fun ht => ?_) (fun ht => ?_)
  ·have he : (m1.toNat : Int) = (c.toNat : Int) := A0 ht
   have he : m1 = c := UInt8.toNat_inj.1 (by omega)
   refine k2 ?_
   refine A5 (A2 (A7 Z) Z (A2 (B0 Z Z Z) Z (A2 (A4 Z Z) Z (A6 ?_))))
   refine k1 (k10 (k12 (k11 (k11 (k12 (k11 ?_))))))
   refine B5 (G8 Z Z Z) ?_
   unfold y7
   rw [find_none meths k hne, List.drop_eq_getElem_cons (by omega), List.find?_cons_of_pos]
   ·have : meths[k]'(by omega) = (m1, m2) := (List.getElem?_eq_some_iff.1 hm).2
    rw [this]; rfl
   ·have : meths[k]'(by omega) = (m1, m2) := (List.getElem?_eq_some_iff.1 hm).2
    rw [this]; simpa using he
  ·have he : ¬ (m1.toNat : Int) = (c.toNat : Int) := A1 ht
   refine k5 (k4 (k1 ?_))
   refine A5 (A2 (C3 Z Z (by omega)) Z (A2 (A3 Z Z) Z (A6 ?_)))
   refine k1 ?_
   refine ⟨k + 1, ⟨by omega, fun j x hj hx => ?_⟩, by omega, Sees.of ⟨le1 rfl, le1 rfl, le1 rfl, le1 rfl, trivial⟩ trivial⟩
   by_cases hjk : j = k
   ·subst hjk
    rw [hm] at hx; cases hx
    intro e; exact he (by rw [show m1 = c from e])
   ·exact hne j x (by omega) hx
 ·have hk5 : k = 5 := by have := A1 ht; omega
  subst hk5
  refine k6 (k2 ?_)
  refine A5 (A2 (A4 Z Z) Z (A6 ?_))
  refine k1 (k10 ?_)
  refine B5 (G8 Z Z Z) ?_
  unfold y7
  rw [find_none meths 5 hne]; rfl
theorem lines_met {gf : Fr} (b : Str) (hb : b.length ≤ 536870912) : Met Tryz.prog 43 [.one (.p (.v (.string ⟨b.toArray⟩)))] gf [] [740] (fun rs ob' => rs = [.one (.mut 740)] ∧ ob' = [(740, .grow 9 Str 1 K8 (D9 b))]) := by
 refine Met.introH Tryz.func43 (by decide) rfl rfl rfl (fun hH => ?_)
 refine k2 ?_
 refine A5 (A2 (A4 Z Z) Z (A6 ?_))
 refine k1 (k2 ?_)
 refine A5 (C8 (e_adoptG 740 _ K8 Z Z) Z (A6 ?_))
 refine k1 (k2 ?_)
 refine A5 (A2 (A4 Z Z) Z (A6 ?_))
 refine k1 (k2 (k2 ?_))
 refine A5 (A2 (A4 Z Z) Z (A6 ?_))
 refine k1 (k3 ?_)
 refine E9 (X := Nat × Nat × List Str) (fun x => ([(0, N3 b), (3, .s (.one (.mut 740))), (4, C6 x.2.1), (5, C6 x.1)] ++ Fr.forget 740 gf, [(740, .grow 9 Str 1 K8 x.2.2)]))
  (fun x => x.1 ≤ b.length ∧ x.2.1 ≤ x.1 ∧ x.2.2.length ≤ x.1 ∧ (x.1 = b.length → x.2.1 = x.1) ∧ x.2.2 ++ G2 ((b.drop x.2.1).take (x.1 - x.2.1)) (b.drop x.1) = D9 b) (fun x => b.length - x.1) (0, 0, []) (by simp [D9]) ?_ ?_
 ·exact Sees.tailed ⟨le1 rfl, le1 rfl, le1 rfl, le1 rfl, trivial⟩ (P6 hH) (by repeat (first | exact C9 | refine D1 rfl ?_ | refine K6 _ ?_ | refine E1 _ ?_)) (ObIn.spec (ob' := [(740, _)]) ⟨rfl, trivial⟩)
 ·rintro ⟨i, from', out⟩ ⟨hi, hf, ho, he, hp⟩
  dsimp only at hi hf ho he hp ⊢
  refine k2 (k2 ?_)
  refine A5 (A2 (A3 Z Z) Z (A2 (A3 Z Z) Z (A2 (D8 Z) Z (A2 (F0 Z Z) Z (A6 ?_)))))
  refine k1 ?_
  refine B3 rfl (fun ht => ?_) (fun ht => ?_)
  ·have hlt : i < b.length := by simpa using ht
   have hv : b[i]? = some b[i] := by simp [hlt]
   refine k5 (k1 (k2 (k3 (k2 ?_))))
   refine A5 (A2 (A3 Z Z) Z (A2 (A3 Z Z) Z (A2 (E7 Z Z (by omega) hv) Z (A2 (G6 Z Z) Z (A2 (A3 Z Z) Z (A8 Z Z Z Z (fun hg => by rw [hg]; exact A3 Z Z) ?_)))))); refine A8 Z Z Z Z (fun hg => by have hq := hg; (try simp at hq); rw [hg]; exact C3 Z Z (by omega)) ?_; refine A8 Z Z Z Z (fun hg => by rw [hg]; exact A3 Z Z) ?_; refine A8 Z Z Z Z (fun hg => by rw [hg]; exact D8 Z) ?_; refine A8 Z Z Z Z (fun hg => by rw [hg]; exact G6 Z Z) ?_; refine A2 (B2 Z (fun h => by first | rfl | (rw [h]; rfl)) (fun h => by first | rfl | (rw [h]; rfl))) Z ?_; refine A6 ?_
   refine k1 ?_
   refine B3 rfl (fun ht2 => ?_) (fun ht2 => ?_)
   ·refine k2 ?_
    refine A5 (A2 (A3 Z Z) Z (A2 (A3 Z Z) Z (A2 (A3 Z Z) Z (A2 (A3 Z Z) Z (A2 (C3 Z Z (by omega)) Z (A2 (Q0 Z Z Z (by omega) (by omega) (by omega)) Z (A2 (D6 (c := K8) (ys := [_]) (E3 Z Z Z Z H1) Z Z Z) Z (C8 (l7 Z Z Z (.pure _ _ _ _) (by simp; omega) Z) Z (A2 (A4 Z Z) Z (A6 ?_))))))))))
    refine k1 ?_
    refine A5 (A2 (A3 Z Z) Z (A2 (C3 Z Z (by omega)) Z (A2 (A4 Z Z) Z (A6 ?_))))
    refine k4 (k1 ?_)
    refine A5 (A2 (A3 Z Z) Z (A2 (C3 Z Z (by omega)) Z (A2 (A4 Z Z) Z (A6 ?_))))
    refine k1 ?_
    refine ⟨(i + 1, i + 1, _), ⟨?_, ?_, ?_, ?_, ?_⟩, ?_, Sees.tailed ⟨le1 rfl, le1 rfl, le1 rfl, le1 rfl, trivial⟩ (P6 hH) (by repeat (first | exact C9 | refine D1 rfl ?_ | refine K6 _ ?_)) (ObIn.spec (ob' := [(740, _)]) ⟨rfl, trivial⟩)⟩
    all_goals dsimp only
    ·omega
    ·omega
    ·simp; omega
    ·omega
    ·have hc : b[i] = 10 ∨ i + 1 = b.length := by
      simp only [u8_lf] at ht2
      by_cases h : b[i] = 10
      ·exact .inl h
      ·simp [h] at ht2; exact .inr (by omega)
     rw [toNat_succ, Int.toNat_natCast, Nat.sub_self, List.take_zero, ← part_snoc b from' i hf hlt, List.append_assoc, ← hp, List.drop_eq_getElem_cons hlt, R3]
     rcases hc with h | h
     ·rw [if_pos h]; rfl
     ·have hd : b.drop (i + 1) = [] := List.drop_eq_nil_of_le (by omega)
      rw [hd]
      split
      ·rfl
      ·rw [show G2 ([] : Str) [] = [] from rfl, linesAux_end _ (by simp)]; simp
    ·omega
   ·refine k5 (k4 (k1 ?_))
    refine A5 (A2 (A3 Z Z) Z (A2 (C3 Z Z (by omega)) Z (A2 (A4 Z Z) Z (A6 ?_))))
    refine k1 ?_
    refine ⟨(i + 1, from', out), ⟨?_, ?_, ?_, ?_, ?_⟩, ?_, Sees.tailed ⟨le1 rfl, le1 rfl, le1 rfl, le1 rfl, trivial⟩ (P6 hH) (by repeat (first | exact C9 | refine D1 rfl ?_ | refine K6 _ ?_)) (ObIn.spec (ob' := [(740, _)]) ⟨rfl, trivial⟩)⟩
    all_goals dsimp only
    ·omega
    ·omega
    ·omega
    ·intro h
     simp [show (i : Int) + 1 = (b.length : Int) by omega] at ht2
    ·have hc : b[i] ≠ 10 := fun h => by simp [h] at ht2
     rw [← part_snoc b from' i hf hlt, ← hp, List.drop_eq_getElem_cons hlt, R3, if_neg hc]
    ·omega
  ·refine k6 (k2 ?_)
   refine A5 (A2 (A3 Z Z) Z (A2 (A4 Z Z) Z (A6 ?_)))
   refine k1 (k10 ?_)
   have hi' : i = b.length := by simp at ht; omega
   subst hi'
   have := he rfl
   subst this
   rw [Nat.sub_self, List.take_zero, List.drop_eq_nil_of_le (Nat.le_refl _)] at hp
   have hp : out = D9 b := by rw [← hp]; simp [G2]
   subst hp
   exact I3 (Y1 rfl rfl) (by repeat (first | exact C9 | refine D1 rfl ?_ | refine K6 _ ?_)) (ObIn.spec (ob' := [(740, _)]) ⟨rfl, trivial⟩) ⟨rfl, rfl⟩
theorem rbare_ok (s : Str) (hs : s.length ≤ 1099511627776) : FnOk Tryz.prog 64 [F6 s] (fun rs => rs = [F6 (j6 s)]) := by
 refine FnOk.intro Tryz.func64 (by decide) Z Z Z Z ?_
 refine k2 ?_
 refine A5 (A2 (A4 Z Z) Z (A6 ?_))
 refine k1 (k2 (k2 ?_))
 refine A5 (A2 (A3 Z Z) Z (C0 (ended_ok s hs) Z Z Z ?_)); rintro _ rfl; refine A6 ?_
 refine k1 ?_
 refine B3 rfl (fun ht => ?_) (fun ht => ?_)
 ·have h : ended s = true := ht
  have hl : 1 ≤ s.length := by obtain ⟨a, rfl⟩ := ended_iff.1 h; simp
  refine k2 ?_
  refine A5 (A2 (A3 Z Z) Z (A2 (A3 Z Z) Z (A2 (D8 Z) Z (A2 (L8 Z Z (by omega)) Z (A2 (m9 Z Z (by omega) (by omega)) Z (A2 (A4 Z Z) Z (A6 ?_)))))))
  refine k1 (k10 (k11 ?_))
  exact B5 (rs := [F6 s.dropLast]) (G8 rfl (by rw [show ((s.length : Int) - 1).toNat = s.length - 1 by omega, ← List.dropLast_eq_take]; rfl) rfl) (by unfold j6; rw [if_pos h])
 ·have h : ended s = false := ht
  refine k5 (k1 (k2 ?_))
  refine A5 (A2 (A3 Z Z) Z (A2 (A4 Z Z) Z (A6 ?_)))
  refine k1 (k10 ?_)
  exact B5 (rs := [F6 s]) (G8 rfl rfl rfl) (by unfold j6; rw [if_neg (by rw [h]; decide)])
theorem r13Lines_ok (s : Str) (hs : s.length ≤ 536870912) : FnOk Tryz.prog 34 [F6 s] (fun rs => rs = w9 s) := by
 obtain ⟨L, hL⟩ : ∃ L, L = D9 s := ⟨_, rfl⟩
 obtain ⟨f1, f2⟩ := U1 s
 rw [← hL] at f1 f2
 have hmem : ∀ x ∈ L, x.length ≤ 536870912 := fun x hx => by have := (List.sublist_flatten_of_mem hx).length_le; omega
 have hbut := (Z2 s).2
 rw [← hL] at hbut
 have hLL : j5 s = if L.all ended = true then some (L.map List.dropLast) else none := by
  unfold j5
  by_cases h0 : s = []
  ·have : L = [] := by rw [hL, h0]; rfl
   rw [if_pos h0, this]; rfl
  ·rw [if_neg h0, ← hL]
   have hiff : (ended s = true) ↔ L.all ended = true := by
    have hfl : L.flatten = s := by rw [hL]; have := x7 s []; simpa [D9] using this
    have hne : L ≠ [] := fun e => by rw [e] at hfl; exact h0 hfl.symm
    have hsp := List.dropLast_concat_getLast hne
    have hlast : L.getLast hne ≠ [] := by
     have := (Z2 s).1 (L.getLast hne) (by rw [← hL]; exact List.getLast_mem hne)
     intro e; rw [e] at this; cases this
    have hend : ended s = ended (L.getLast hne) := by
     rw [← hfl]
     conv => lhs; rw [← hsp, List.flatten_append]
     unfold ended
     simp only [List.flatten_cons, List.flatten_nil, List.append_nil]
     rw [List.getLast?_append]
     cases h : (L.getLast hne).getLast? with
     | none => exact absurd (List.getLast?_eq_none_iff.1 h) hlast
     | some x => rfl
    rw [hend, List.all_eq_true]
    constructor
    ·intro h x hx
     rw [← hsp] at hx
     rcases List.mem_append.1 hx with hx | hx
     ·have : ∀ (l : List Str) (z : Str), K3 (l ++ [z]) = true → ∀ y ∈ l, ended y = true := by
       intro l
       induction l with
       | nil => intro z _ y hy; cases hy
       | cons a r ih =>
        intro z hz y hy
        rw [List.cons_append, K3] at hz
        simp only [Bool.and_eq_true, Bool.or_eq_true] at hz
        rcases List.mem_cons.1 hy with rfl | hy
        ·rcases hz.1 with h | h
         ·simp at h
         ·exact h
        ·exact ih z hz.2 y hy
      rw [← hsp] at hbut
      exact this _ _ hbut x hx
     ·simp only [List.mem_cons, List.not_mem_nil, or_false] at hx
      rw [hx]; exact h
    ·intro h
     exact h _ (List.getLast_mem hne)
   by_cases he : ended s = true
   ·rw [if_pos he, if_pos (hiff.1 he)]
   ·rw [if_neg he, if_neg (fun h => he (hiff.2 h))]
 refine FnOk.intro Tryz.func34 (by decide) Z Z Z Z ?_
 refine k2 ?_
 refine A5 (A2 (A4 Z Z) Z (A2 (A4 Z Z) Z (A6 ?_)))
 refine k1 (k2 ?_)
 refine A5 (A2 (A3 Z Z) Z (S3 (lines_met s hs) Z Z Z ?_)); rintro _ _ ⟨rfl, rfl⟩; refine A2 (A4 Z Z) Z (A6 ?_)
 rw [← hL]
 refine k1 (k2 (k2 ?_))
 refine A5 (A2 (A4 Z Z) Z (A6 ?_))
 refine k1 (k3 ?_)
 refine E9 (X := Nat) (fun i => ([(4, .s (.one (.mut 740))), (5, C6 i)], [(740, .grow 9 Str 1 K8 ((L.take i).map List.dropLast ++ L.drop i))])) (fun i => i ≤ L.length ∧ (L.take i).all ended = true) (fun i => L.length - i) 0 ⟨Nat.zero_le _, rfl⟩ (Sees.of ⟨le1 rfl, le1 rfl, trivial⟩ ⟨rfl, trivial⟩) ?_
 rintro i ⟨hi, hall⟩
 dsimp only at hi hall ⊢
 have hcl : ((L.take i).map List.dropLast ++ L.drop i).length = L.length := by rw [List.length_append, List.length_map, List.length_take, List.length_drop]; omega
 refine k2 (k2 ?_)
 refine A5 (A2 (A3 Z Z) Z (A2 (A3 Z Z) Z (A2 (n_len_g Z Z) Z (A2 (F0 Z Z) Z (A6 ?_)))))
 rw [hcl]
 refine k1 ?_
 refine B3 rfl (fun ht => ?_) (fun ht => ?_)
 ·have hlt : i < L.length := by have := A0 ht; omega
  obtain ⟨x, hx⟩ : ∃ x, x = L[i] := ⟨_, rfl⟩
  have hxm : x ∈ L := by rw [hx]; exact List.getElem_mem hlt
  have hlm : ((L.take i).map List.dropLast).length = i := by rw [List.length_map, List.length_take]; omega
  have hv : ((L.take i).map List.dropLast ++ L.drop i)[i]? = some x := by rw [List.getElem?_append_right (by omega), hlm, Nat.sub_self, List.getElem?_drop, hx]; simp [hlt]
  have hset : ∀ y, ((L.take i).map List.dropLast ++ L.drop i).set i y = (L.take i).map List.dropLast ++ y :: L.drop (i + 1) := by
   intro y
   rw [List.set_append_right _ _ (by omega), hlm, Nat.sub_self, List.drop_eq_getElem_cons hlt, List.set_cons_zero]
  have htk : L.take (i + 1) = L.take i ++ [x] := by rw [List.take_succ_eq_append_getElem hlt, hx]
  refine k5 (k1 (k2 (k3 (k2 (k2 ?_)))))
  refine A5 (A2 (A3 Z Z) Z (A2 (A3 Z Z) Z (A2 (L2 Z Z Z (by omega) (by (rw [hcl]; omega))) Z ?_))); refine A2 (n_load_g Z Z hv Z) Z (C0 (ended_ok x (by have := hmem x hxm; omega)) Z Z Z ?_); rintro _ rfl; refine A2 (E5 Z) Z (A6 ?_)
  refine k1 ?_
  refine B3 rfl (fun ht => ?_) (fun ht => ?_)
  ·have he : ended x = false := by cases h : ended x <;> rw [h] at ht <;> simp at ht ⊢
   refine k2 ?_
   refine A5 (A2 (W7 _ 1 K8) Z (A2 (A4 Z Z) Z (A6 ?_)))
   refine k1 (k10 (k11 (k12 (k11 (k11 (k12 (k11 ?_)))))))
   refine B5 (rs := [Z6 [], D5 false]) (X9 Z Z Z Z Z) ?_
   unfold w9
   rw [hLL, if_neg]
   intro h
   have := List.all_eq_true.1 h x hxm
   rw [he] at this; cases this
  ·have he : ended x = true := by cases h : ended x <;> rw [h] at ht <;> simp at ht ⊢
   have htr : j6 x = x.dropLast := by unfold j6; rw [if_pos he]
   refine k5 (k1 ?_)
   refine A5 (A2 (A3 Z Z) Z (A2 (A3 Z Z) Z (A2 (A3 Z Z) Z (A2 (A3 Z Z) Z (A2 (L2 Z Z Z (by omega) (by (rw [hcl]; omega))) Z ?_))))); refine A2 (n_load_g Z Z hv Z) Z (C0 (rbare_ok x (by have := hmem x hxm; omega)) Z Z Z ?_); rintro _ rfl; refine A2 (L2 Z Z Z (by omega) (by (rw [hcl]; omega))) Z ?_; refine F4 (l6 (j6 x) TySz.out Z Z hv Z Z Z Z (fun _ _ _ h => n9 h) (by intro j h1 h2; rcases j with _ | _ | _ | _ | _ | _ | _ | j <;> first | rfl | omega)) ?_; refine A6 ?_
   rw [Int.toNat_natCast, hset, htr]
   refine k4 (k1 ?_)
   refine A5 (A2 (A3 Z Z) Z (A2 (C3 Z Z (by omega)) Z (A2 (A4 Z Z) Z (A6 ?_))))
   refine k1 ?_
   refine ⟨i + 1, ⟨hlt, by rw [htk, List.all_append, hall]; simp [he]⟩, by omega, ?_⟩
   rw [htk, List.map_append, List.append_assoc]
   exact Sees.of ⟨le1 rfl, le1 rfl, trivial⟩ ⟨rfl, trivial⟩
 ·have hi2 : i = L.length := by have := A1 ht; omega
  subst hi2
  rw [List.take_length] at hall ⊢
  rw [List.drop_length, List.append_nil]
  refine k6 (k2 ?_)
  refine A5 (A2 (A3 Z Z) Z (A2 (A4 Z Z) Z (A2 (A4 Z Z) Z (A6 ?_))))
  refine J6 ?_
  refine G7 (Sees.growBuf (t := 2) Z Z Z) ?_
  refine k10 ?_
  refine B5 (rs := [Z6 (L.map List.dropLast), D5 true]) (X9 Z Z Z Z Z) ?_
  unfold w9
  rw [hLL, if_pos hall]
theorem Q1 (s p : Str) : FnOk Tryz.prog 135 [F6 s, F6 p] (fun rs => rs = [D5 (decide (s.take p.length = p))]) := by
 refine FnOk.intro Tryz.func135 (by decide) Z Z Z Z ?_
 refine k2 ?_
 refine A5 (A2 (A4 Z Z) Z (A6 ?_))
 refine k1 (k2 ?_)
 refine A5 (A2 (A3 Z Z) Z (A2 (D8 Z) Z (A2 (A3 Z Z) Z (A2 (D8 Z) Z (A2 (V1 Z Z) Z (A2 (A3 Z Z) Z (A8 Z Z Z Z (fun hg => by rw [hg]; exact A3 Z Z) ?_))))))); refine A8 Z Z Z Z (fun hg => by rw [hg]; exact A3 Z Z) ?_; refine A8 Z Z Z Z (fun hg => by rw [hg]; exact D8 Z) ?_; refine A8 Z Z Z Z (fun hg => by have hq := hg; (try simp at hq); rw [hg]; exact m9 Z Z (by omega) (by omega)) ?_; refine A8 Z Z Z Z (fun hg => by rw [hg]; exact A3 Z Z) ?_; refine A8 Z Z Z Z (fun hg => by rw [hg]; exact W8 Z Z) ?_; refine A2 (B2 Z (fun h => by first | rfl | (rw [h]; rfl)) (fun h => by first | rfl | (rw [h]; rfl))) Z ?_; refine A2 (A4 Z Z) Z (A6 ?_)
 simp only [H2, Int.toNat_natCast]
 refine k1 (k10 ?_)
 refine B5 (G8 Z Z Z) ?_
 congr 4
 congr 1
 apply propext; constructor
 ·intro h; exact h.2
 ·intro h
  refine ⟨?_, h⟩
  have := congrArg List.length h
  rw [List.length_take] at this; omega
theorem rnamed_ok (l : List Str) (i : Nat) (pre : Str) (hl : ∀ s ∈ l, s.length ≤ 4194304) (hi : i ≤ 1) : FnOk Tryz.prog 92 [Z6 l, D2 i, F6 pre]
  (fun rs => ∃ (w : Str) (b : Bool), rs = [F6 w, D5 b] ∧ (match (if i < l.length then J7 (l.getD i []) pre else none) with
   | some w' => b = true ∧ w = w'
   | none => b = false)) := by
 obtain ⟨x, hx⟩ : ∃ x, x = l.getD i [] := ⟨_, rfl⟩
 have hv : i < l.length → l[i]? = some x := fun h => by rw [hx]; simp [h]
 by_cases hlt : i < l.length
 ·have hxz := hl x (List.mem_of_getElem? (hv hlt))
  rw [if_pos hlt, ← hx]
  by_cases h : x.take pre.length = pre
  ·have hpl : pre.length ≤ x.length := by have := congrArg List.length h; rw [List.length_take] at this; omega
   have hU := rUnquote_ok x pre.length (by omega)
   cases hw : R6 (x.drop pre.length) with
   | none =>
    rw [W1 hw] at hU
    have hN : J7 x pre = none := by unfold J7; rw [if_pos h, hw]
    rw [hN]
    refine FnOk.intro Tryz.func92 (by decide) Z Z Z Z ?_
    refine k2 ?_
    refine A5 (A2 (A4 Z Z) Z (A2 (A4 Z Z) Z (A6 ?_)))
    refine k1 (k2 (k2 ?_))
    refine A5 (A2 (A3 Z Z) Z (A2 (A3 Z Z) Z (A2 (F8 Z (.pure _ _ _ _)) Z (A2 (V1 Z Z) Z (A2 (A3 Z Z) Z (A8 Z Z Z Z (fun hg => by rw [hg]; exact A3 Z Z) ?_)))))); refine A8 Z Z Z Z (fun hg => by rw [hg]; exact A3 Z Z) ?_; refine A8 Z Z Z Z (fun hg => by have hq := hg; (try simp at hq); rw [hg]; exact B4 Z (.pure _ _ _ _) Z (by omega) (hv hlt)) ?_; refine A8 Z Z Z Z (fun hg => by rw [hg]; exact B8 Z Z) ?_; refine A8 Z Z Z Z (fun hg => by rw [hg]; exact A3 Z Z) ?_; refine A8 Z Z Z Z (fun hg => by have hq := hg; (try simp at hq); rw [hg]; exact F9 (Q1 x pre) Z Z) ?_; refine A8 Z Z Z Z (fun hg => by rw [hg]; exact E5 Z) ?_; refine A2 (B2 Z (fun h => by first | rfl | (rw [h]; rfl)) (fun h => by first | rfl | (rw [h]; rfl))) Z ?_; refine A6 ?_
    simp only [decide_eq_true h]
    refine k1 ?_
    refine B3 rfl (fun ht => ?_) (fun ht => ?_)
    ·exfalso; revert ht; simp; omega
    refine k5 (k1 (k2 ?_))
    refine A5 (A2 (A3 Z Z) Z (A2 (A3 Z Z) Z (A2 (B4 Z (.pure _ _ _ _) Z (by omega) (hv hlt)) Z (A2 (B8 Z Z) Z (A2 (A3 Z Z) Z (A2 (D8 Z) Z (C0 (hU) Z Z Z ?_))))))); rintro _ rfl; refine A2 (A3 Z Z) Z (A2 (B1 Z Z) Z (A2 (B1 Z Z) Z (A2 (B1 Z Z) Z (A2 (A4 Z Z) Z (A2 (A4 Z Z) Z (A2 (A4 Z Z) Z (A6 ?_)))))))
    refine k1 (k2 ?_)
    refine C2 (by kernel_rfl) (by kernel_rfl) (A9 (A3 Z Z) Z Z (A9 (A3 Z Z) Z Z (A9 (A3 Z Z) Z Z (M3 Z Z (by simp) Z Z (M3 Z Z (by simp) Z Z (M3 Z Z (by simp) Z Z (M3 Z Z (by simp) Z Z (M3 Z Z (by simp) Z Z (M3 Z Z (by simp) Z Z (M3 Z Z (by simp) Z Z (A9 (L3 Z (rfl) Z) Z Z (A9 (A4 Z Z) Z Z (A9 (A4 Z Z) Z Z (H3 ?_))))))))))))))
    refine k1 (k10 ?_)
    refine B5 (X9 rfl rfl rfl rfl rfl) ⟨[], _, rfl, rfl⟩
   | some q =>
    obtain ⟨w, k⟩ := q
    rw [wordR_some hw] at hU
    have hN : J7 x pre = if k = (x.drop pre.length).length then some w else none := by unfold J7; rw [if_pos h, hw]
    rw [hN]
    refine FnOk.intro Tryz.func92 (by decide) Z Z Z Z ?_
    refine k2 ?_
    refine A5 (A2 (A4 Z Z) Z (A2 (A4 Z Z) Z (A6 ?_)))
    refine k1 (k2 (k2 ?_))
    refine A5 (A2 (A3 Z Z) Z (A2 (A3 Z Z) Z (A2 (F8 Z (.pure _ _ _ _)) Z (A2 (V1 Z Z) Z (A2 (A3 Z Z) Z (A8 Z Z Z Z (fun hg => by rw [hg]; exact A3 Z Z) ?_)))))); refine A8 Z Z Z Z (fun hg => by rw [hg]; exact A3 Z Z) ?_; refine A8 Z Z Z Z (fun hg => by have hq := hg; (try simp at hq); rw [hg]; exact B4 Z (.pure _ _ _ _) Z (by omega) (hv hlt)) ?_; refine A8 Z Z Z Z (fun hg => by rw [hg]; exact B8 Z Z) ?_; refine A8 Z Z Z Z (fun hg => by rw [hg]; exact A3 Z Z) ?_; refine A8 Z Z Z Z (fun hg => by have hq := hg; (try simp at hq); rw [hg]; exact F9 (Q1 x pre) Z Z) ?_; refine A8 Z Z Z Z (fun hg => by rw [hg]; exact E5 Z) ?_; refine A2 (B2 Z (fun h => by first | rfl | (rw [h]; rfl)) (fun h => by first | rfl | (rw [h]; rfl))) Z ?_; refine A6 ?_
    simp only [decide_eq_true h]
    refine k1 ?_
    refine B3 rfl (fun ht => ?_) (fun ht => ?_)
    ·exfalso; revert ht; simp; omega
    refine k5 (k1 (k2 ?_))
    refine A5 (A2 (A3 Z Z) Z (A2 (A3 Z Z) Z (A2 (B4 Z (.pure _ _ _ _) Z (by omega) (hv hlt)) Z (A2 (B8 Z Z) Z (A2 (A3 Z Z) Z (A2 (D8 Z) Z (C0 (hU) Z Z Z ?_))))))); rintro _ rfl; refine A2 (A3 Z Z) Z (A2 (B1 Z Z) Z (A2 (B1 Z Z) Z (A2 (B1 Z Z) Z (A2 (A4 Z Z) Z (A2 (A4 Z Z) Z (A2 (A4 Z Z) Z (A6 ?_)))))))
    refine k1 (k2 ?_)
    refine C2 (by kernel_rfl) (by kernel_rfl) (A9 (A3 Z Z) Z Z (A9 (A3 Z Z) Z Z (A9 (A3 Z Z) Z Z (B6 Z Z (fun hg => by rw [hg]; exact A3 Z Z) Z Z ?_)))); refine B6 Z Z (fun hg => by rw [hg]; exact A3 Z Z) Z Z ?_; refine B6 Z Z (fun hg => by rw [hg]; exact A3 Z Z) Z Z ?_; refine B6 Z Z (fun hg => by have hq := hg; (try simp at hq); rw [hg]; exact B4 Z (.pure _ _ _ _) Z (by omega) (hv hlt)) Z Z ?_; refine B6 Z Z (fun hg => by rw [hg]; exact B8 Z Z) Z Z ?_; refine B6 Z Z (fun hg => by rw [hg]; exact D8 Z) Z Z ?_; refine B6 Z Z (fun hg => by rw [hg]; exact G6 Z Z) Z Z ?_; refine A9 (B2 Z (fun h => by first | rfl | (rw [h]; rfl)) (fun h => by first | rfl | (rw [h]; rfl))) Z Z ?_; refine A9 (A4 Z Z) Z Z (A9 (A4 Z Z) Z Z (H3 ?_))
    refine k1 (k10 ?_)
    refine B5 (X9 rfl rfl rfl rfl rfl) ⟨w, _, rfl, ?_⟩
    rw [List.length_drop]
    by_cases hk : k = x.length - pre.length
    ·rw [if_pos hk]; refine ⟨?_, rfl⟩; simp; omega
    ·rw [if_neg hk]; simp; omega
  ·have hN : J7 x pre = none := by unfold J7; rw [if_neg h]
   rw [hN]
   refine FnOk.intro Tryz.func92 (by decide) Z Z Z Z ?_
   refine k2 ?_
   refine A5 (A2 (A4 Z Z) Z (A2 (A4 Z Z) Z (A6 ?_)))
   refine k1 (k2 (k2 ?_))
   refine A5 (A2 (A3 Z Z) Z (A2 (A3 Z Z) Z (A2 (F8 Z (.pure _ _ _ _)) Z (A2 (V1 Z Z) Z (A2 (A3 Z Z) Z (A8 Z Z Z Z (fun hg => by rw [hg]; exact A3 Z Z) ?_)))))); refine A8 Z Z Z Z (fun hg => by rw [hg]; exact A3 Z Z) ?_; refine A8 Z Z Z Z (fun hg => by have hq := hg; (try simp at hq); rw [hg]; exact B4 Z (.pure _ _ _ _) Z (by omega) (hv hlt)) ?_; refine A8 Z Z Z Z (fun hg => by rw [hg]; exact B8 Z Z) ?_; refine A8 Z Z Z Z (fun hg => by rw [hg]; exact A3 Z Z) ?_; refine A8 Z Z Z Z (fun hg => by have hq := hg; (try simp at hq); rw [hg]; exact F9 (Q1 x pre) Z Z) ?_; refine A8 Z Z Z Z (fun hg => by rw [hg]; exact E5 Z) ?_; refine A2 (B2 Z (fun h => by first | rfl | (rw [h]; rfl)) (fun h => by first | rfl | (rw [h]; rfl))) Z ?_; refine A6 ?_
   simp only [decide_eq_false h]
   refine k1 ?_
   refine B3 rfl (fun ht => ?_) (fun ht => ?_)
   ·refine k2 ?_
    refine A5 (A2 (A4 Z Z) Z (A2 (A4 Z Z) Z (A6 ?_)))
    refine k1 (k10 (k11 ?_))
    exact B5 (rs := [F6 [], D5 false]) (X9 rfl rfl rfl rfl rfl) ⟨[], false, rfl, rfl⟩
   ·exfalso; revert ht; simp
 ·rw [if_neg hlt]
  refine FnOk.intro Tryz.func92 (by decide) Z Z Z Z ?_
  refine k2 ?_
  refine A5 (A2 (A4 Z Z) Z (A2 (A4 Z Z) Z (A6 ?_)))
  refine k1 (k2 (k2 ?_))
  refine A5 (A2 (A3 Z Z) Z (A2 (A3 Z Z) Z (A2 (F8 Z (.pure _ _ _ _)) Z (A2 (V1 Z Z) Z (A2 (A3 Z Z) Z (A8 Z Z Z Z (fun hg => by rw [hg]; exact A3 Z Z) ?_)))))); refine A8 Z Z Z Z (fun hg => by rw [hg]; exact A3 Z Z) ?_; refine A8 Z Z Z Z (fun hg => by have hq := hg; (try simp at hq); rw [hg]; exact B4 Z (.pure _ _ _ _) Z (by omega) (hv (by omega))) ?_; refine A8 Z Z Z Z (fun hg => by rw [hg]; exact B8 Z Z) ?_; refine A8 Z Z Z Z (fun hg => by rw [hg]; exact A3 Z Z) ?_; refine A8 Z Z Z Z (fun hg => by have hq := hg; (try simp at hq); rw [hg]; exact F9 (Q1 x pre) Z Z) ?_; refine A8 Z Z Z Z (fun hg => by rw [hg]; exact E5 Z) ?_; refine A2 (B2 Z (fun h => by first | rfl | (rw [h]; rfl)) (fun h => by first | rfl | (rw [h]; rfl))) Z ?_; refine A6 ?_
  refine k1 ?_
  refine B3 rfl (fun ht => ?_) (fun ht => ?_)
  ·refine k2 ?_
   refine A5 (A2 (A4 Z Z) Z (A2 (A4 Z Z) Z (A6 ?_)))
   refine k1 (k10 (k11 ?_))
   exact B5 (rs := [F6 [], D5 false]) (X9 rfl rfl rfl rfl rfl) ⟨[], false, rfl, rfl⟩
  ·exfalso; revert ht; simp; omega
theorem rngR_none {s : Str} {i : Nat} (h : Q3 (s.drop i) = none) : rngR s i = [D2 0, D2 0, D2 0, D5 false] := by unfold rngR; rw [h]
theorem rngR_some {s : Str} {i k : Nat} {a n : Int} (h : Q3 (s.drop i) = some (a, n, k)) : rngR s i = [D2 a, D2 n, D2 ((i + k : Nat) : Int), D5 true] := by unfold rngR; rw [h]
theorem rheader_ok (l : Str) (hl : l.length ≤ 16777216) : FnOk Tryz.prog 93 [F6 l]
  (fun rs => ∃ (a m b n : Int) (ok : Bool), rs = [D2 a, D2 m, D2 b, D2 n, D5 ok] ∧ match L4 l with
   | some (a', m', b', n') => ok = true ∧ a = a' ∧ m = m' ∧ b = b' ∧ n = n'
   | none => ok = false) := by
 by_cases h1 : l.take 4 = [64, 64, 32, 45]
 ·have hl4 : 4 ≤ l.length := by have := congrArg List.length h1; rw [List.length_take] at this; simp at this; omega
  have hR1 := rRange_ok l 4 hl4 (by omega)
  have hsp1n : Q3 (l.drop 4) = none → K5 l 0 [64, 64, 32, 45] = none := by
   intro h
   simp only [K5, List.drop_zero, List.length_cons, List.length_nil, Nat.zero_add, Nat.reduceAdd]
   rw [if_pos h1, h]
  have hsp1 : ∀ {a n : Int} {e : Nat}, Q3 (l.drop 4) = some (a, n, e) → K5 l 0 [64, 64, 32, 45] = some (a, n, 4 + e) := by
   intro a n e h
   simp only [K5, List.drop_zero, List.length_cons, List.length_nil, Nat.zero_add, Nat.reduceAdd]
   rw [if_pos h1, h]
  cases g1 : Q3 (l.drop 4) with
  | none =>
   rw [rngR_none g1] at hR1
   have hH : L4 l = none := by unfold L4; rw [hsp1n g1]
   rw [hH]
   refine FnOk.intro Tryz.func93 (by decide) Z Z Z Z ?_
   refine k2 ?_
   refine A5 (A2 (A4 Z Z) Z (A2 (A4 Z Z) Z (A2 (A4 Z Z) Z (A2 (A4 Z Z) Z (A2 (A4 Z Z) Z (A6 ?_))))))
   refine k1 (k2 (k2 ?_))
   refine A5 (A2 (A3 Z Z) Z (C0 (Q1 l [64, 64, 32, 45]) Z Z Z ?_)); rintro _ rfl; refine A2 (E5 Z) Z (A6 ?_)
   refine k1 ?_
   refine B3 rfl (fun ht => ?_) (fun ht => ?_)
   ·rw [show ([64, 64, 32, 45] : Str).length = 4 from rfl, decide_eq_true h1] at ht; cases ht
   refine k5 (k1 (k2 ?_))
   refine A5 (A2 (A3 Z Z) Z (C0 (hR1) Z Z Z ?_)); rintro _ rfl; refine A2 (A3 Z Z) Z (A2 (B1 Z Z) Z (A2 (B1 Z Z) Z (A2 (B1 Z Z) Z (A2 (B1 Z Z) Z (A2 (A4 Z Z) Z (A2 (A4 Z Z) Z (A2 (A4 Z Z) Z (A2 (A4 Z Z) Z (A6 ?_)))))))))
   refine k1 (k2 (k2 ?_))
   refine A5 (A2 (A3 Z Z) Z (A2 (E5 Z) Z (A2 (A3 Z Z) Z (G3 Z Z Z (by simp) Z (G3 Z Z Z (by simp) Z (G3 Z Z Z (by simp) Z (G3 Z Z Z (by simp) Z (G3 Z Z Z (by simp) Z (A2 (S4 Z (rfl) Z) Z (A6 ?_))))))))))
   refine k1 ?_
   refine B3 rfl (fun ht => ?_) (fun ht => ?_)
   ·refine k2 ?_
    refine A5 (A2 (A4 Z Z) Z (A2 (A4 Z Z) Z (A2 (A4 Z Z) Z (A2 (A4 Z Z) Z (A2 (A4 Z Z) Z (A6 ?_))))))
    refine k1 (k10 (k11 ?_))
    exact B5 (rs := [D2 0, D2 0, D2 0, D2 0, D5 false]) (ret5 rfl rfl rfl rfl rfl rfl rfl rfl rfl rfl rfl) ⟨0, 0, 0, 0, false, rfl, rfl⟩
   ·cases ht
  | some q =>
   obtain ⟨a, m, e1⟩ := q
   rw [rngR_some g1] at hR1
   have he1 := rngAt_le g1
   rw [List.length_drop] at he1
   obtain ⟨i, hi⟩ : ∃ i, i = 4 + e1 := ⟨_, rfl⟩
   rw [← hi] at hR1
   have hs1 : K5 l 0 [64, 64, 32, 45] = some (a, m, i) := by rw [hsp1 g1, hi]
   by_cases h2 : (l.drop i).take 2 = [32, 43]
   ·have hi2 := take_len (l := l) (pre := [32, 43]) (i := i) (by omega) h2
    have hi2 : i + 2 ≤ l.length := hi2
    have hR2 := rRange_ok l (i + 2) hi2 (by omega)
    have hsp2n : Q3 (l.drop (i + 2)) = none → K5 l i [32, 43] = none := by
     intro h
     simp only [K5, List.length_cons, List.length_nil, Nat.zero_add, Nat.reduceAdd]
     rw [if_pos h2, h]
    have hsp2 : ∀ {a n : Int} {e : Nat}, Q3 (l.drop (i + 2)) = some (a, n, e) → K5 l i [32, 43] = some (a, n, i + 2 + e) := by
     intro a n e h
     simp only [K5, List.length_cons, List.length_nil, Nat.zero_add, Nat.reduceAdd]
     rw [if_pos h2, h]
    have hS2 := Q1 (l.drop i) [32, 43]
    rw [show ([32, 43] : Str).length = 2 from rfl, decide_eq_true h2] at hS2
    cases g2 : Q3 (l.drop (i + 2)) with
    | none =>
     rw [rngR_none g2, show ((i + 2 : Nat) : Int) = (i : Int) + 2 by omega] at hR2
     have hH : L4 l = none := by unfold L4; rw [hs1]; dsimp only; rw [hsp2n g2]
     rw [hH]
     refine FnOk.intro Tryz.func93 (by decide) Z Z Z Z ?_
     refine k2 ?_
     refine A5 (A2 (A4 Z Z) Z (A2 (A4 Z Z) Z (A2 (A4 Z Z) Z (A2 (A4 Z Z) Z (A2 (A4 Z Z) Z (A6 ?_))))))
     refine k1 (k2 (k2 ?_))
     refine A5 (A2 (A3 Z Z) Z (C0 (Q1 l [64, 64, 32, 45]) Z Z Z ?_)); rintro _ rfl; refine A2 (E5 Z) Z (A6 ?_)
     refine k1 ?_
     refine B3 rfl (fun ht => ?_) (fun ht => ?_)
     ·rw [show ([64, 64, 32, 45] : Str).length = 4 from rfl, decide_eq_true h1] at ht; cases ht
     refine k5 (k1 (k2 ?_))
     refine A5 (A2 (A3 Z Z) Z (C0 (hR1) Z Z Z ?_)); rintro _ rfl; refine A2 (A3 Z Z) Z (A2 (B1 Z Z) Z (A2 (B1 Z Z) Z (A2 (B1 Z Z) Z (A2 (B1 Z Z) Z (A2 (A4 Z Z) Z (A2 (A4 Z Z) Z (A2 (A4 Z Z) Z (A2 (A4 Z Z) Z (A6 ?_)))))))))
     refine k1 (k2 (k2 ?_))
     refine A5 (A2 (A3 Z Z) Z (A2 (E5 Z) Z (A2 (A3 Z Z) Z (E0 Z Z Z Z (A2 (A3 Z Z) Z (E0 Z Z Z Z (A2 (A3 Z Z) Z (E0 Z Z Z Z (A2 (Q8 Z Z (by omega) (by omega)) Z (E0 Z Z Z Z (C0 (hS2) Z Z Z ?_))))))))))); rintro _ rfl; refine E0 Z Z Z Z (A2 (E5 Z) Z (A2 (L3 Z (rfl) Z) Z (A6 ?_)))
     refine k1 ?_
     refine B3 rfl (fun ht => ?_) (fun ht => ?_)
     ·cases ht
     refine k5 (k1 (k2 ?_))
     refine A5 (A2 (A3 Z Z) Z (A2 (A3 Z Z) Z (A2 (C3 Z Z (by omega)) Z (C0 (hR2) Z Z Z ?_)))); rintro _ rfl; refine A2 (A3 Z Z) Z (A2 (B1 Z Z) Z (A2 (B1 Z Z) Z (A2 (B1 Z Z) Z (A2 (B1 Z Z) Z (A2 (A4 Z Z) Z (A2 (A4 Z Z) Z (A2 (A4 Z Z) Z (A2 (A4 Z Z) Z (A6 ?_)))))))))
     refine k1 (k2 ?_)
     refine C2 (by kernel_rfl) (by kernel_rfl) (A9 (A3 Z Z) Z Z (A9 (A3 Z Z) Z Z (A9 (A3 Z Z) Z Z (A9 (A3 Z Z) Z Z (A9 (A3 Z Z) Z Z (A9 (A3 Z Z) Z Z (M3 Z Z (by simp) Z Z (M3 Z Z (by simp) Z Z (M3 Z Z (by simp) Z Z (M3 Z Z (by simp) Z Z (A9 (L3 Z (rfl) Z) Z Z (A9 (A4 Z Z) Z Z (A9 (A4 Z Z) Z Z (A9 (A4 Z Z) Z Z (A9 (A4 Z Z) Z Z (A9 (A4 Z Z) Z Z (H3 ?_)))))))))))))))))
     refine k1 (k10 ?_)
     exact B5 (ret5 rfl rfl rfl rfl rfl rfl rfl rfl rfl rfl rfl) ⟨_, _, _, _, _, rfl, rfl⟩
    | some q =>
     obtain ⟨b, n, e2⟩ := q
     rw [rngR_some g2, show ((i + 2 : Nat) : Int) = (i : Int) + 2 by omega] at hR2
     have he2 := rngAt_le g2
     rw [List.length_drop] at he2
     obtain ⟨j, hj⟩ : ∃ j, j = i + 2 + e2 := ⟨_, rfl⟩
     rw [← hj] at hR2
     have hs2 : K5 l i [32, 43] = some (b, n, j) := by rw [hsp2 g2, hj]
     have hH : L4 l = if l.drop j = [32, 64, 64] then some (a, m, b, n) else none := by unfold L4; rw [hs1]; dsimp only; rw [hs2]
     rw [hH]
     refine FnOk.intro Tryz.func93 (by decide) Z Z Z Z ?_
     refine k2 ?_
     refine A5 (A2 (A4 Z Z) Z (A2 (A4 Z Z) Z (A2 (A4 Z Z) Z (A2 (A4 Z Z) Z (A2 (A4 Z Z) Z (A6 ?_))))))
     refine k1 (k2 (k2 ?_))
     refine A5 (A2 (A3 Z Z) Z (C0 (Q1 l [64, 64, 32, 45]) Z Z Z ?_)); rintro _ rfl; refine A2 (E5 Z) Z (A6 ?_)
     refine k1 ?_
     refine B3 rfl (fun ht => ?_) (fun ht => ?_)
     ·rw [show ([64, 64, 32, 45] : Str).length = 4 from rfl, decide_eq_true h1] at ht; cases ht
     refine k5 (k1 (k2 ?_))
     refine A5 (A2 (A3 Z Z) Z (C0 (hR1) Z Z Z ?_)); rintro _ rfl; refine A2 (A3 Z Z) Z (A2 (B1 Z Z) Z (A2 (B1 Z Z) Z (A2 (B1 Z Z) Z (A2 (B1 Z Z) Z (A2 (A4 Z Z) Z (A2 (A4 Z Z) Z (A2 (A4 Z Z) Z (A2 (A4 Z Z) Z (A6 ?_)))))))))
     refine k1 (k2 (k2 ?_))
     refine A5 (A2 (A3 Z Z) Z (A2 (E5 Z) Z (A2 (A3 Z Z) Z (E0 Z Z Z Z (A2 (A3 Z Z) Z (E0 Z Z Z Z (A2 (A3 Z Z) Z (E0 Z Z Z Z (A2 (Q8 Z Z (by omega) (by omega)) Z (E0 Z Z Z Z (C0 (hS2) Z Z Z ?_))))))))))); rintro _ rfl; refine E0 Z Z Z Z (A2 (E5 Z) Z (A2 (L3 Z (rfl) Z) Z (A6 ?_)))
     refine k1 ?_
     refine B3 rfl (fun ht => ?_) (fun ht => ?_)
     ·cases ht
     refine k5 (k1 (k2 ?_))
     refine A5 (A2 (A3 Z Z) Z (A2 (A3 Z Z) Z (A2 (C3 Z Z (by omega)) Z (C0 (hR2) Z Z Z ?_)))); rintro _ rfl; refine A2 (A3 Z Z) Z (A2 (B1 Z Z) Z (A2 (B1 Z Z) Z (A2 (B1 Z Z) Z (A2 (B1 Z Z) Z (A2 (A4 Z Z) Z (A2 (A4 Z Z) Z (A2 (A4 Z Z) Z (A2 (A4 Z Z) Z (A6 ?_)))))))))
     refine k1 (k2 ?_)
     refine C2 (by kernel_rfl) (by kernel_rfl) (A9 (A3 Z Z) Z Z (A9 (A3 Z Z) Z Z (A9 (A3 Z Z) Z Z (A9 (A3 Z Z) Z Z (A9 (A3 Z Z) Z Z (A9 (A3 Z Z) Z Z (B6 Z Z (fun hg => by rw [hg]; exact A3 Z Z) Z Z ?_))))))); refine B6 Z Z (fun hg => by rw [hg]; exact A3 Z Z) Z Z ?_; refine B6 Z Z (fun hg => by have hq := hg; (try simp at hq); rw [hg]; exact Q8 Z Z (by omega) (by omega)) Z Z ?_; refine B6 Z Z (fun hg => by rw [hg]; exact W8 Z Z) Z Z ?_; refine A9 (B2 Z (fun h => by first | rfl | (rw [h]; rfl)) (fun h => by first | rfl | (rw [h]; rfl))) Z Z ?_; refine A9 (A4 Z Z) Z Z (A9 (A4 Z Z) Z Z (A9 (A4 Z Z) Z Z (A9 (A4 Z Z) Z Z (A9 (A4 Z Z) Z Z (H3 ?_)))))
     refine k1 (k10 ?_)
     refine B5 (ret5 rfl rfl rfl rfl rfl rfl rfl rfl rfl rfl rfl) ⟨a, m, b, n, _, rfl, ?_⟩
     by_cases hd : l.drop j = [32, 64, 64]
     ·rw [if_pos hd]; exact ⟨by simp [hd], rfl, rfl, rfl, rfl⟩
     ·rw [if_neg hd]; simp [hd]
   ·have hS2 := Q1 (l.drop i) [32, 43]
    rw [show ([32, 43] : Str).length = 2 from rfl, decide_eq_false h2] at hS2
    have hH : L4 l = none := by
     unfold L4; rw [hs1]; dsimp only
     have : K5 l i [32, 43] = none := by
      simp only [K5, List.length_cons, List.length_nil, Nat.zero_add, Nat.reduceAdd]
      rw [if_neg h2]
     rw [this]
    rw [hH]
    refine FnOk.intro Tryz.func93 (by decide) Z Z Z Z ?_
    refine k2 ?_
    refine A5 (A2 (A4 Z Z) Z (A2 (A4 Z Z) Z (A2 (A4 Z Z) Z (A2 (A4 Z Z) Z (A2 (A4 Z Z) Z (A6 ?_))))))
    refine k1 (k2 (k2 ?_))
    refine A5 (A2 (A3 Z Z) Z (C0 (Q1 l [64, 64, 32, 45]) Z Z Z ?_)); rintro _ rfl; refine A2 (E5 Z) Z (A6 ?_)
    refine k1 ?_
    refine B3 rfl (fun ht => ?_) (fun ht => ?_)
    ·rw [show ([64, 64, 32, 45] : Str).length = 4 from rfl, decide_eq_true h1] at ht; cases ht
    refine k5 (k1 (k2 ?_))
    refine A5 (A2 (A3 Z Z) Z (C0 (hR1) Z Z Z ?_)); rintro _ rfl; refine A2 (A3 Z Z) Z (A2 (B1 Z Z) Z (A2 (B1 Z Z) Z (A2 (B1 Z Z) Z (A2 (B1 Z Z) Z (A2 (A4 Z Z) Z (A2 (A4 Z Z) Z (A2 (A4 Z Z) Z (A2 (A4 Z Z) Z (A6 ?_)))))))))
    refine k1 (k2 (k2 ?_))
    refine A5 (A2 (A3 Z Z) Z (A2 (E5 Z) Z (A2 (A3 Z Z) Z (E0 Z Z Z Z (A2 (A3 Z Z) Z (E0 Z Z Z Z (A2 (A3 Z Z) Z (E0 Z Z Z Z (A2 (Q8 Z Z (by omega) (by omega)) Z (E0 Z Z Z Z (C0 (hS2) Z Z Z ?_))))))))))); rintro _ rfl; refine E0 Z Z Z Z (A2 (E5 Z) Z (A2 (L3 Z (rfl) Z) Z (A6 ?_)))
    refine k1 ?_
    refine B3 rfl (fun ht => ?_) (fun ht => ?_)
    ·refine k2 ?_
     refine A5 (A2 (A4 Z Z) Z (A2 (A4 Z Z) Z (A2 (A4 Z Z) Z (A2 (A4 Z Z) Z (A2 (A4 Z Z) Z (A6 ?_))))))
     refine k1 (k10 (k11 ?_))
     exact B5 (rs := [D2 0, D2 0, D2 0, D2 0, D5 false]) (ret5 rfl rfl rfl rfl rfl rfl rfl rfl rfl rfl rfl) ⟨0, 0, 0, 0, false, rfl, rfl⟩
    ·cases ht
 ·have hH : L4 l = none := by
   unfold L4
   have : K5 l 0 [64, 64, 32, 45] = none := by
    simp only [K5, List.drop_zero, List.length_cons, List.length_nil, Nat.zero_add, Nat.reduceAdd]
    rw [if_neg h1]
   rw [this]
  rw [hH]
  refine FnOk.intro Tryz.func93 (by decide) Z Z Z Z ?_
  refine k2 ?_
  refine A5 (A2 (A4 Z Z) Z (A2 (A4 Z Z) Z (A2 (A4 Z Z) Z (A2 (A4 Z Z) Z (A2 (A4 Z Z) Z (A6 ?_))))))
  refine k1 (k2 (k2 ?_))
  refine A5 (A2 (A3 Z Z) Z (C0 (Q1 l [64, 64, 32, 45]) Z Z Z ?_)); rintro _ rfl; refine A2 (E5 Z) Z (A6 ?_)
  refine k1 ?_
  refine B3 rfl (fun ht => ?_) (fun ht => ?_)
  ·refine k2 ?_
   refine A5 (A2 (A4 Z Z) Z (A2 (A4 Z Z) Z (A2 (A4 Z Z) Z (A2 (A4 Z Z) Z (A2 (A4 Z Z) Z (A6 ?_))))))
   refine k1 (k10 (k11 ?_))
   exact B5 (rs := [D2 0, D2 0, D2 0, D2 0, D5 false]) (ret5 rfl rfl rfl rfl rfl rfl rfl rfl rfl rfl rfl) ⟨0, 0, 0, 0, false, rfl, rfl⟩
  ·rw [show ([64, 64, 32, 45] : Str).length = 4 from rfl, decide_eq_false h1] at ht; cases ht
def phunkN : PatchHunk → Nat → Cell
 | h, 0 => .v (.int .i64 h.Old)
 | h, 1 => .v (.int .i64 h.New)
 | h, _ => match h.Lines with
  | [] => .v (.slice none 0 0)
  | _ :: _ => .list PatchLine 2 plineC h.Lines
abbrev u3 : Ob := .box [.p (.v (.string ⟨#[]⟩)), .p (.v (.string ⟨#[]⟩)), .p (.v (.slice none 0 0))]
abbrev psBox (o n : Str) : Ob := .box [.p (.v (.string ⟨o.toArray⟩)), .p (.v (.string ⟨n.toArray⟩)), .mut 731]
abbrev W3 (o n : Str) (hs : List PatchHunk) : Obs := [(730, psBox o n), (731, .grow 29 PatchHunk 3 phunkN hs), (2, u3)]
abbrev R2 (o n : Str) (hs : List PatchHunk) (a b : Int) (ls : List PatchLine) : Obs :=
 [(730, psBox o n), (731, .growA 29 PatchHunk 3 phunkN hs (hs.length - 1) [.p (.v (.int .i64 a)), .p (.v (.int .i64 b)), .mut 732]), (732, .grow 36 PatchLine 2 plineC ls), (2, u3)]
theorem last_shut {gf : Fr} (o n : Str) : Met Tryz.prog 170 [.one (.ref 730 0)] gf (W3 o n []) [] (fun rs ob' => rs = [.one (.p (.v (.pointer none)))] ∧ ob' = W3 o n []) := by
 refine Met.intro Tryz.func170 (by decide) Z Z Z ?_
 refine k2 ?_
 refine A5 (A2 (A4 Z Z) Z (A6 ?_))
 refine k1 (k2 (k2 ?_))
 refine A5 (A2 (A3 Z Z) Z (A2 (B7 Z) Z (A2 (A7 Z) Z (A2 (A7 Z) Z (A2 (B0 Z Z Z) Z (A2 (n_len_g Z Z) Z (A2 (G6 Z Z) Z (A6 ?_))))))))
 refine k1 ?_
 refine B3 rfl (fun ht => ?_) (fun ht => ?_)
 rotate_left
 ·exact absurd rfl (A1 ht)
 refine k2 ?_
 refine A5 (A2 (A4 Z Z) Z (A6 ?_))
 refine k1 (k10 (k11 ?_))
 exact I3 (Y1 rfl rfl) (by repeat (first | exact C9 | refine D1 rfl ?_ | refine E1 _ ?_)) (fun _ _ h => h) ⟨rfl, rfl⟩
theorem last_open {gf : Fr} (o n : Str) (hs : List PatchHunk) (a b : Int) (ls : List PatchLine) (h0 : 0 < hs.length) (hl : hs.length ≤ 1073741824) :
  Met Tryz.prog 170 [.one (.ref 730 0)] gf (R2 o n hs a b ls) [] (fun rs ob' => rs = [.one (.mref 731 3 ((hs.length : Int) - 1).toNat 0)] ∧ ob' = R2 o n hs a b ls) := by
 refine Met.intro Tryz.func170 (by decide) Z Z Z ?_
 refine k2 ?_
 refine A5 (A2 (A4 Z Z) Z (A6 ?_))
 refine k1 (k2 (k2 ?_))
 refine A5 (A2 (A3 Z Z) Z (A2 (B7 Z) Z (A2 (A7 Z) Z (A2 (A7 Z) Z (A2 (B0 Z Z Z) Z (A2 (n_len_gA Z Z) Z (A2 (G6 Z Z) Z (A6 ?_))))))))
 refine k1 ?_
 refine B3 rfl (fun ht => ?_) (fun ht => ?_)
 ·exact absurd (A0 ht) (by omega)
 refine k5 (k1 (k2 ?_))
 refine C2 (by kernel_rfl) (by kernel_rfl) (A9 (A3 Z Z) Z Z (A9 (B7 Z) Z Z (A9 (A7 Z) Z Z (A9 (A7 Z) Z Z (A9 (B0 Z Z Z) Z Z (A9 (A3 Z Z) Z Z (A9 (B7 Z) Z Z (A9 (A7 Z) Z Z (A9 (A7 Z) Z Z (A9 (B0 Z Z Z) Z Z (A9 (n_len_gA Z Z) Z Z (A9 (L8 Z Z (by omega)) Z Z (A9 (n_indexAddr_gA Z Z Z (by omega) (by omega)) Z Z (A9 (A4 Z Z) Z Z (H3 ?_)))))))))))))))
 refine k1 (k10 ?_)
 exact I3 (Y1 rfl rfl) (by repeat (first | exact C9 | refine D1 rfl ?_ | refine E1 _ ?_)) (fun _ _ h => h) ⟨rfl, rfl⟩
theorem header_met {gf : Fr} (o n : Str) (hs : List PatchHunk) (l : Str) (hl : hs.length ≤ 16777216) (hll : l.length ≤ 16777216) :
  Met Tryz.prog 132 [.one (.ref 730 0), .one (.p (.v (.string ⟨l.toArray⟩)))] gf (W3 o n hs) [731]
   (fun rs ob' => match L4 l with
    | none => rs = [tBo false] ∧ ob' = [(2, u3)]
    | some (a, _, b, _) => rs = [tBo true] ∧ ob' = W3 o n (hs ++ [⟨a, b, []⟩])) := by
 have s1 := stspan_ok l 0 [64, 64, 32, 45] (Nat.zero_le _) hll
 cases hp1 : K5 l 0 [64, 64, 32, 45] with
 | none =>
  have hH : L4 l = none := by unfold L4; rw [hp1]
  rw [hH]
  unfold spanR at s1
  rw [hp1] at s1
  refine Met.intro Tryz.func132 (by decide) Z Z Z ?_
  refine k2 ?_
  refine A5 (A2 (A4 Z Z) Z (A6 ?_))
  refine k1 (k2 ?_)
  refine A5 (A2 (A3 Z Z) Z (C0 (s1) Z Z Z ?_)); rintro _ rfl; refine A2 (A3 Z Z) Z (A2 (B1 Z Z) Z (A2 (B1 Z Z) Z (A2 (B1 Z Z) Z (A2 (A4 Z Z) Z (A2 (A4 Z Z) Z (A2 (A4 Z Z) Z (A6 ?_)))))))
  refine k1 (k2 (k2 ?_))
  refine A5 (A2 (A3 Z Z) Z (A2 (E5 Z) Z (A6 ?_)))
  refine k1 ?_
  refine B3 rfl (fun ht => ?_) (fun ht => ?_)
  ·refine k2 ?_
   refine G7 (Sees.forget 731) ?_
   refine A5 (A2 (A4 Z Z) Z (A6 ?_))
   refine k1 (k10 (k11 ?_))
   exact I3 (Y1 rfl rfl) (by repeat (first | exact C9 | refine D1 rfl ?_ | refine E1 _ ?_)) (ObIn.spec (ob' := [(2, u3)]) ⟨rfl, trivial⟩) ⟨rfl, rfl⟩
  ·cases ht
 | some q =>
  obtain ⟨a, m, i⟩ := q
  unfold spanR at s1
  rw [hp1] at s1
  have hi := spanAt_le (Nat.zero_le _) hp1
  have s2 := stspan_ok l i [32, 43] hi hll
  cases hp2 : K5 l i [32, 43] with
  | none =>
   have hH : L4 l = none := by unfold L4; rw [hp1]; dsimp only; rw [hp2]
   rw [hH]
   unfold spanR at s2
   rw [hp2] at s2
   refine Met.intro Tryz.func132 (by decide) Z Z Z ?_
   refine k2 ?_
   refine A5 (A2 (A4 Z Z) Z (A6 ?_))
   refine k1 (k2 ?_)
   refine A5 (A2 (A3 Z Z) Z (C0 (s1) Z Z Z ?_)); rintro _ rfl; refine A2 (A3 Z Z) Z (A2 (B1 Z Z) Z (A2 (B1 Z Z) Z (A2 (B1 Z Z) Z (A2 (A4 Z Z) Z (A2 (A4 Z Z) Z (A2 (A4 Z Z) Z (A6 ?_)))))))
   refine k1 (k2 (k2 ?_))
   refine A5 (A2 (A3 Z Z) Z (A2 (E5 Z) Z (A6 ?_)))
   refine k1 ?_
   refine B3 rfl (fun ht => ?_) (fun ht => ?_)
   ·cases ht
   refine k5 (k1 (k2 ?_))
   refine A5 (A2 (A3 Z Z) Z (A2 (A3 Z Z) Z (C0 (s2) Z Z Z ?_))); rintro _ rfl; refine A2 (A3 Z Z) Z (A2 (B1 Z Z) Z (A2 (B1 Z Z) Z (A2 (B1 Z Z) Z (A2 (A4 Z Z) Z (A2 (A4 Z Z) Z (A2 (A4 Z Z) Z (A6 ?_)))))))
   refine k1 (k2 (k2 ?_))
   refine A5 (A2 (A3 Z Z) Z (A2 (E5 Z) Z (A2 (A3 Z Z) Z (G3 Z Z Z (by simp) Z (G3 Z Z Z (by simp) Z (G3 Z Z Z (by simp) Z (G3 Z Z Z (by simp) Z (A2 (S4 Z (rfl) Z) Z (A6 ?_)))))))))
   refine k1 ?_
   refine B3 rfl (fun ht => ?_) (fun ht => ?_)
   ·refine k2 ?_
    refine G7 (Sees.forget 731) ?_
    refine A5 (A2 (A4 Z Z) Z (A6 ?_))
    refine k1 (k10 (k11 ?_))
    exact I3 (Y1 rfl rfl) (by repeat (first | exact C9 | refine D1 rfl ?_ | refine E1 _ ?_)) (ObIn.spec (ob' := [(2, u3)]) ⟨rfl, trivial⟩) ⟨rfl, rfl⟩
   ·cases ht
  | some q =>
   obtain ⟨b, k, j⟩ := q
   unfold spanR at s2
   rw [hp2] at s2
   have hj := spanAt_le hi hp2
   have hH : L4 l = if l.drop j = [32, 64, 64] then some (a, m, b, k) else none := by unfold L4; rw [hp1]; dsimp only; rw [hp2]
   rw [hH]
   refine Met.intro Tryz.func132 (by decide) Z Z Z ?_
   refine k2 ?_
   refine A5 (A2 (A4 Z Z) Z (A6 ?_))
   refine k1 (k2 ?_)
   refine A5 (A2 (A3 Z Z) Z (C0 (s1) Z Z Z ?_)); rintro _ rfl; refine A2 (A3 Z Z) Z (A2 (B1 Z Z) Z (A2 (B1 Z Z) Z (A2 (B1 Z Z) Z (A2 (A4 Z Z) Z (A2 (A4 Z Z) Z (A2 (A4 Z Z) Z (A6 ?_)))))))
   refine k1 (k2 (k2 ?_))
   refine A5 (A2 (A3 Z Z) Z (A2 (E5 Z) Z (A6 ?_)))
   refine k1 ?_
   refine B3 rfl (fun ht => ?_) (fun ht => ?_)
   ·cases ht
   refine k5 (k1 (k2 ?_))
   refine A5 (A2 (A3 Z Z) Z (A2 (A3 Z Z) Z (C0 (s2) Z Z Z ?_))); rintro _ rfl; refine A2 (A3 Z Z) Z (A2 (B1 Z Z) Z (A2 (B1 Z Z) Z (A2 (B1 Z Z) Z (A2 (A4 Z Z) Z (A2 (A4 Z Z) Z (A2 (A4 Z Z) Z (A6 ?_)))))))
   refine k1 (k2 (k2 ?_))
   refine A5 (A2 (A3 Z Z) Z (A2 (E5 Z) Z (A2 (A3 Z Z) Z (A8 Z Z Z Z (fun hg => by rw [hg]; exact A3 Z Z) ?_)))); refine A8 Z Z Z Z (fun hg => by rw [hg]; exact A3 Z Z) ?_; refine A8 Z Z Z Z (fun hg => by have hq := hg; (try simp at hq); rw [hg]; exact Q8 Z Z (by omega) (by omega)) ?_; refine A8 Z Z Z Z (fun hg => by rw [hg]; exact V2 Z Z) ?_; refine A2 (B2 Z (fun h => by first | rfl | (rw [h]; rfl)) (fun h => by first | rfl | (rw [h]; rfl))) Z ?_; refine A6 ?_
   refine k1 ?_
   refine B3 rfl (fun ht => ?_) (fun ht => ?_)
   ·have hd : ¬ l.drop j = [32, 64, 64] := by simpa using ht
    rw [if_neg hd]
    refine k2 ?_
    refine G7 (Sees.forget 731) ?_
    refine A5 (A2 (A4 Z Z) Z (A6 ?_))
    refine k1 (k10 (k11 ?_))
    exact I3 (Y1 rfl rfl) (by repeat (first | exact C9 | refine D1 rfl ?_ | refine E1 _ ?_)) (ObIn.spec (ob' := [(2, u3)]) ⟨rfl, trivial⟩) ⟨rfl, rfl⟩
   ·have hd : l.drop j = [32, 64, 64] := by simpa using ht
    rw [if_pos hd]
    refine k5 (k1 (k2 ?_))
    refine A5 (A2 (A3 Z Z) Z (A2 (A3 Z Z) Z (A2 (B7 Z) Z (A2 (A7 Z) Z (A2 (A7 Z) Z (A2 (B0 Z Z Z) Z (A2 (A3 Z Z) Z (A2 (A3 Z Z) Z (A2 (G4 Z) Z (A2 (D6 (c := phunkN) (ys := [⟨a, b, []⟩]) (E3 Z Z Z Z H1) Z Z Z) Z (C8 (l7 Z Z Z (.pure _ _ _ _) (by (simp; omega)) Z) Z (A2 (B7 Z) Z (A2 (A7 Z) Z (A2 (A7 Z) Z (F4 (B9 TySz.out Z Z Z Z Z Z) (A6 ?_))))))))))))))))
    refine k1 (k2 ?_)
    refine A5 (A2 (A4 Z Z) Z (A6 ?_))
    refine k1 (k10 ?_)
    exact I3 (Y1 rfl rfl) (by repeat (first | exact C9 | refine D1 rfl ?_ | refine E1 _ ?_)) (ObIn.spec (ob' := W3 o n (hs ++ [⟨a, b, []⟩])) ⟨rfl, rfl, rfl, trivial⟩) ⟨rfl, rfl⟩
theorem content_shut {gf : Fr} (o n l : Str) : Met Tryz.prog 133 [.one (.ref 730 0), .one (.p (.v (.string ⟨l.toArray⟩)))] gf (W3 o n []) [732] (fun rs ob' => rs = [tBo false] ∧ ob' = [(2, u3)]) := by
 refine Met.intro Tryz.func133 (by decide) Z Z Z ?_
 refine k2 ?_
 refine A5 (A2 (A4 Z Z) Z (A6 ?_))
 refine k1 (k2 ?_)
 refine A5 (A2 (A3 Z Z) Z (S3 (last_shut o n) Z Z Z ?_)); rintro _ _ ⟨rfl, rfl⟩; refine A2 (A4 Z Z) Z (A6 ?_)
 refine k1 (k2 (k2 ?_))
 refine A5 (A2 (A3 Z Z) Z (A2 (n_eql_ptr0 Z (by kernel_rfl)) Z (A6 ?_)))
 refine k1 ?_
 refine B3 rfl (fun ht => ?_) (fun ht => ?_)
 ·refine k2 ?_
  refine G7 (Sees.forget 732) ?_
  refine A5 (A2 (A4 Z Z) Z (A6 ?_))
  refine k1 (k10 (k11 ?_))
  exact I3 (Y1 rfl rfl) (by repeat (first | exact C9 | refine D1 rfl ?_ | refine E1 _ ?_)) (ObIn.spec (ob' := [(2, u3)]) ⟨rfl, trivial⟩) ⟨rfl, rfl⟩
 ·cases ht
abbrev gfP (F : Nat) (l : Str) (R : List Str) (k : Nat) : Fr := [(1000060, O9 false), (1000061, .s (.one (.clo F [] []))), (1000062, .s (.one (.ref 730 0))), (1000063, N3 l), (1000004, .s (.one (.ref 730 0))), (1000002, .s (.one (.ref 2 0))), (1000046, E8 Str 1 K8 R), (1000047, C6 R.length), (1000048, C6 k)]
theorem content_open (F : Nat) (R : List Str) (k : Nat) (o n : Str) (hs : List PatchHunk) (a b : Int) (ls : List PatchLine) (c : UInt8) (r : Str) (h0 : 0 < hs.length) (hl : hs.length ≤ 16777216) (hls : ls.length ≤ 16777216) (hr : r.length ≤ 16777216) :
  Met Tryz.prog 133 [.one (.ref 730 0), .one (.p (.v (.string ⟨(c :: r).toArray⟩)))] (gfP F (c :: r) R k) (R2 o n hs a b ls) [732]
   (fun rs ob' => rs = [tBo true] ∧ ob' = R2 o n hs a b (ls ++ [⟨c, r ++ [10]⟩])) := by
 refine Met.intro Tryz.func133 (by decide) Z Z Z ?_
 refine k2 ?_
 refine A5 (A2 (A4 Z Z) Z (A6 ?_))
 refine k1 (k2 ?_)
 refine A5 (A2 (A3 Z Z) Z (S3 (last_open o n hs a b ls h0 (by omega)) Z Z Z ?_)); rintro _ _ ⟨rfl, rfl⟩; refine A2 (A4 Z Z) Z (A6 ?_)
 refine k1 (k2 (k2 ?_))
 refine A5 (A2 (A3 Z Z) Z (A2 (n_eql_mref0 Z (by kernel_rfl)) Z (A6 ?_)))
 refine k1 ?_
 refine B3 rfl (fun ht => ?_) (fun ht => ?_)
 ·cases ht
 refine k5 (k1 (k2 ?_))
 refine c_region_ord [15, 12] [[], [12], [15, 12]] [(12, ([732], [14])), (15, ([], []))] [(0, []), (1, []), (2, []), (3, []), (4, []), (5, []), (6, []), (7, []), (8, []), (9, []), (10, []), (11, []), (12, []), (13, [12]), (14, [12]), (15, [12])] [(0, [12])] (by kernel_rfl) (by kernel_rfl) (y6 Z Z Z Z Z (A3 Z Z) (y6 Z Z Z Z Z (A3 Z Z) (y6 Z Z Z Z Z (M9 Z) (y6 Z Z Z Z Z (I0 Z) (y6 Z Z Z Z Z (n_load_gA Z Z (by first | rfl | omega) Z) ?_))))); refine y6 Z Z Z Z Z (A3 Z Z) (y6 Z Z Z Z Z (E7 Z Z (by omega) (show (c :: r)[(0 : Int).toNat]? = some c from Z)) (y6 Z Z Z Z Z (A3 Z Z) (y6 Z Z Z Z Z (Q8 Z Z (by (first | omega | (simp only [List.length_cons]; omega))) (by (first | omega | (simp only [List.length_cons]; omega)))) (y6 Z Z Z Z Z (F5 Z Z (by (simp; omega))) (y6 Z Z Z Z Z (G4 Z) (y6 Z Z Z Z Z (D6 (c := plineC) (ys := [⟨c, r ++ [10]⟩]) (E3 Z Z Z Z H1) Z Z Z) (w_eff Z Z Z Z Z (r_turn (fun frc hU => l7 (opvU hU Z) Z (opvU hU Z) (.pure _ _ _ _) (by (simp; omega)) Z)) Z (y6 Z Z Z Z Z (M9 Z) (y6 Z Z Z Z Z (I0 Z) (w_eff Z Z Z Z Z (r_eff (fun frc hU => e_store_gA TySz.out (opvU hU Z) Z (by first | rfl | omega) (opvU hU Z) Z Z Z)) Z ?_)))))))))); refine w_nil rfl rfl ?_ ?_
 ·refine x_neu Z Z Z Z Z (A3 Z Z) ?_; exact x_nil
 refine k1 (k2 ?_)
 refine A5 (A2 (A4 Z Z) Z (A6 ?_))
 refine k1 (k10 ?_)
 exact I3 (Y1 rfl rfl) (by repeat (first | exact C9 | refine D1 rfl ?_ | refine E1 _ ?_)) (ObIn.spec (ob' := R2 o n hs a b (ls ++ [⟨c, r ++ [10]⟩])) ⟨rfl, rfl, rfl, rfl, trivial⟩) ⟨rfl, rfl⟩
theorem unended_shut {gf : Fr} (o n l : Str) : Met Tryz.prog 134 [.one (.ref 730 0), .one (.p (.v (.string ⟨l.toArray⟩)))] gf (W3 o n []) [] (fun rs ob' => rs = [tBo false] ∧ ob' = [(2, u3)]) := by
 refine Met.intro Tryz.func134 (by decide) Z Z Z ?_
 refine k2 ?_
 refine A5 (A2 (A4 Z Z) Z (A6 ?_))
 refine k1 (k2 ?_)
 refine A5 (A2 (A3 Z Z) Z (S3 (last_shut o n) Z Z Z ?_)); rintro _ _ ⟨rfl, rfl⟩; refine A2 (A4 Z Z) Z (A6 ?_)
 refine k1 (k2 (k2 ?_))
 refine A5 (A2 (A3 Z Z) Z (A2 (n_eql_ptr0 Z (by kernel_rfl)) Z (A2 (A3 Z Z) Z (G3 Z Z Z (by simp) Z (G3 Z Z Z (by simp) Z (G3 Z Z Z (by simp) Z (G3 Z Z Z (by simp) Z (G3 Z Z Z (by simp) Z (G3 Z Z Z (by simp) Z (A2 (S4 Z (rfl) Z) Z (A2 (A3 Z Z) Z (G3 Z Z Z (by simp) Z (G3 Z Z Z (by simp) Z (A2 (S4 Z (rfl) Z) Z (A6 ?_)))))))))))))))
 refine k1 ?_
 refine B3 rfl (fun ht => ?_) (fun ht => ?_)
 ·refine k2 ?_
  refine A5 (A2 (A4 Z Z) Z (A6 ?_))
  refine k1 (k10 (k11 ?_))
  exact I3 (Y1 rfl rfl) (by repeat (first | exact C9 | refine D1 rfl ?_ | refine E1 _ ?_)) (ObIn.spec (ob' := [(2, u3)]) ⟨rfl, trivial⟩) ⟨rfl, rfl⟩
 ·cases ht
theorem unended_open {gf : Fr} (o n : Str) (hs : List PatchHunk) (a b : Int) (ls : List PatchLine) (l : Str) (h0 : 0 < hs.length) (hl : hs.length ≤ 16777216) (hls : ls.length ≤ 16777216) (htx : ∀ x ∈ ls, x.Text.length ≤ 1073741824) :
  Met Tryz.prog 134 [.one (.ref 730 0), .one (.p (.v (.string ⟨l.toArray⟩)))] gf (R2 o n hs a b ls) []
   (fun rs ob' => match ls.getLast? with
    | none => rs = [tBo false] ∧ ob' = [(2, u3)]
    | some x => if l = p8 then rs = [tBo true] ∧ ob' = R2 o n hs a b (ls.dropLast ++ [⟨x.Kind, j6 x.Text⟩]) else rs = [tBo false] ∧ ob' = [(2, u3)]) := by
 cases hx : ls.getLast? with
 | none =>
  have hn : ls = [] := List.getLast?_eq_none_iff.1 hx
  subst hn
  refine Met.intro Tryz.func134 (by decide) Z Z Z ?_
  refine k2 ?_
  refine A5 (A2 (A4 Z Z) Z (A6 ?_))
  refine k1 (k2 ?_)
  refine A5 (A2 (A3 Z Z) Z (S3 (last_open o n hs a b [] h0 (by omega)) Z Z Z ?_)); rintro _ _ ⟨rfl, rfl⟩; refine A2 (A4 Z Z) Z (A6 ?_)
  refine k1 (k2 (k2 ?_))
  refine A5 (A2 (A3 Z Z) Z (A2 (n_eql_mref0 Z (by kernel_rfl)) Z (A2 (A3 Z Z) Z (E0 Z Z Z Z (A2 (A3 Z Z) Z (E0 Z Z Z Z (A2 (M9 Z) Z (E0 Z Z Z Z (A2 (I0 Z) Z (E0 Z Z Z Z (A2 (n_load_gA Z Z (by first | rfl | omega) Z) Z ?_))))))))))); refine E0 Z Z Z Z (A2 (n_len_g Z Z) Z (E0 Z Z Z Z (A2 (G6 Z Z) Z (A2 (L3 Z (rfl) Z) Z (A2 (A3 Z Z) Z (G3 Z Z Z (by simp) Z (G3 Z Z Z (by simp) Z (A2 (S4 Z ((by simp)) Z) Z (A6 ?_)))))))))
  refine k1 ?_
  refine B3 rfl (fun ht => ?_) (fun ht => ?_)
  ·refine k2 ?_
   refine A5 (A2 (A4 Z Z) Z (A6 ?_))
   refine k1 (k10 (k11 ?_))
   exact I3 (Y1 rfl rfl) (by repeat (first | exact C9 | refine D1 rfl ?_ | refine E1 _ ?_)) (ObIn.spec (ob' := [(2, u3)]) ⟨rfl, trivial⟩) ⟨rfl, rfl⟩
  ·cases ht
 | some x =>
  have hne : ls ≠ [] := fun e => by rw [e] at hx; cases hx
  have hlen := List.length_pos_iff.2 hne
  have hv : ls[((ls.length : Int) - 1).toNat]? = some x := by rw [show ((ls.length : Int) - 1).toNat = ls.length - 1 by omega, ← List.getLast?_eq_getElem?]; exact hx
  have hset : ∀ y : PatchLine, ls.set (((ls.length : Int) - 1).toNat) y = ls.dropLast ++ [y] := by
   intro y
   rw [show ((ls.length : Int) - 1).toNat = ls.length - 1 by omega]
   have hd := List.dropLast_concat_getLast hne
   conv => lhs; rw [← hd]
   rw [List.set_append_right _ _ (by rw [List.length_dropLast, List.length_append, List.length_dropLast]; simp)]
   simp
  have hxt := htx x (List.mem_of_getElem? hv)
  have htr := trimSuffix_ok x.Text [10] (by omega)
  rw [trimSuffix_lf, show bareOf x.Text = j6 x.Text from rfl] at htr
  have hne0 : decide ((ls.length : Int) = 0) = false := decide_eq_false (by omega)
  refine Met.intro Tryz.func134 (by decide) Z Z Z ?_
  refine k2 ?_
  refine A5 (A2 (A4 Z Z) Z (A6 ?_))
  refine k1 (k2 ?_)
  refine A5 (A2 (A3 Z Z) Z (S3 (last_open o n hs a b ls h0 (by omega)) Z Z Z ?_)); rintro _ _ ⟨rfl, rfl⟩; refine A2 (A4 Z Z) Z (A6 ?_)
  refine k1 (k2 (k2 ?_))
  refine A5 (A2 (A3 Z Z) Z (A2 (n_eql_mref0 Z (by kernel_rfl)) Z (A2 (A3 Z Z) Z (E0 Z Z Z Z (A2 (A3 Z Z) Z (E0 Z Z Z Z (A2 (M9 Z) Z (E0 Z Z Z Z (A2 (I0 Z) Z (E0 Z Z Z Z (A2 (n_load_gA Z Z (by first | rfl | omega) Z) Z ?_))))))))))); refine E0 Z Z Z Z (A2 (n_len_g Z Z) Z (E0 Z Z Z Z (A2 (G6 Z Z) Z (A2 (L3 Z (rfl) Z) Z (A2 (A3 Z Z) Z (E0 Z Z Z hne0 (A2 (A3 Z Z) Z (E0 Z Z Z hne0 (A2 (V2 Z Z) Z (A2 (L3 Z (hne0) Z) Z (A6 ?_)))))))))))
  refine k1 ?_
  refine B3 rfl (fun ht => ?_) (fun ht => ?_)
  ·have hl2 : l ≠ p8 := A0 ht
   refine k2 ?_
   refine A5 (A2 (A4 Z Z) Z (A6 ?_))
   refine k1 (k10 (k11 ?_))
   refine I3 (Y1 rfl rfl) (by repeat (first | exact C9 | refine D1 rfl ?_ | refine E1 _ ?_)) (ObIn.spec (ob' := [(2, u3)]) ⟨rfl, trivial⟩) ?_
   dsimp only
   rw [if_neg hl2]
   exact ⟨rfl, rfl⟩
  ·have hl2 : l = p8 := Decidable.not_not.1 (A1 ht)
   refine k5 (k1 (k2 ?_))
   refine C2 (by kernel_rfl) (by kernel_rfl) (A9 (A3 Z Z) Z Z (A9 (M9 Z) Z Z (A9 (I0 Z) Z Z (A9 (n_load_gA Z Z (by first | rfl | omega) Z) Z Z ?_)))); refine A9 (A3 Z Z) Z Z (A9 (M9 Z) Z Z (A9 (I0 Z) Z Z (A9 (n_load_gA Z Z (by first | rfl | omega) Z) Z Z ?_))); refine A9 (n_len_g Z Z) Z Z (A9 (L8 Z Z (by omega)) Z Z (A9 (L2 Z Z Z (by omega) (by omega)) Z Z (A9 (A4 Z Z) Z Z (H3 ?_))))
   refine k1 (k2 ?_)
   refine A5 (A2 (A3 Z Z) Z (A2 (A3 Z Z) Z (A2 (M9 Z) Z (A2 (I0 Z) Z (A2 (n_load_g Z Z hv Z) Z (C0 (htr) Z Z Z ?_)))))); rintro _ rfl; refine A2 (M9 Z) Z (A2 (I0 Z) Z (F4 (l6 (⟨x.Kind, j6 x.Text⟩) TySz.out Z Z hv Z Z Z Z (fun _ _ _ h => n9 h) (by intro j h1 h2; rcases j with _ | _ | _ | _ | _ | _ | _ | j <;> first | rfl | omega)) ?_)); refine A6 ?_
   rw [hset]
   refine k1 (k2 ?_)
   refine A5 (A2 (A4 Z Z) Z (A6 ?_))
   refine k1 (k10 ?_)
   refine I3 (Y1 rfl rfl) (by repeat (first | exact C9 | refine D1 rfl ?_ | refine E1 _ ?_)) (ObIn.spec (ob' := R2 o n hs a b (ls.dropLast ++ [⟨x.Kind, j6 x.Text⟩])) ⟨rfl, rfl, rfl, rfl, trivial⟩) ?_
   dsimp only
   rw [if_pos hl2]
   exact ⟨rfl, rfl⟩
end Go.Proofs.YtjjidificdmnmaaGreatDoor
