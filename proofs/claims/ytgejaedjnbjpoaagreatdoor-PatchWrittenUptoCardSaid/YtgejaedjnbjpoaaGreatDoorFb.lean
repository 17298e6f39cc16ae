/- Walks of the program's functions. -/
import Derived.Test.YtgejaedjnbjpoaaGreatDoorFa
import Derived.Test.YtgejaedjnbjpoaaGreatDoorFs
import Derived.Lib.AppendIntMem
import Derived.Test.YtgejaedjnbjpoaaGreatDoorAn
namespace Go.Proofs.YtgejaedjnbjpoaaGreatDoor
open Go Go.AL
set_option maxRecDepth 100000
theorem rplain_ok (c : UInt8) : FnOk Tryz.prog 218 [pByte c] (fun rs => rs = [F9 (Q3 c)]) := by
 refine FnOk.intro Tryz.func218 (by decide) Z Z Z Z ?_
 refine k2 ?_
 refine A4 (A2 (A5 Z Z) Z (A6 ?_))
 refine k1 (k2 ?_)
 refine A4 (A2 (A3 Z Z) Z (A2 (l8 Z Z) Z (A2 (A3 Z Z) Z (B0 Z Z Z Z (fun hg => by rw [hg]; exact A3 Z Z) ?_)))); refine B0 Z Z Z Z (fun hg => by rw [hg]; exact x4 Z Z) ?_; refine A2 (B1 Z (fun h => by first | rfl | (rw [h]; rfl)) (fun h => by first | rfl | (rw [h]; rfl))) Z ?_; refine A2 (A3 Z Z) Z (B0 Z Z Z Z (fun hg => by rw [hg]; exact A3 Z Z) ?_); refine B0 Z Z Z Z (fun hg => by rw [hg]; exact K7 Z Z) ?_; refine A2 (B1 Z (fun h => by first | rfl | (rw [h]; rfl)) (fun h => by first | rfl | (rw [h]; rfl))) Z ?_; refine A2 (A3 Z Z) Z (B0 Z Z Z Z (fun hg => by rw [hg]; exact A3 Z Z) ?_); refine B0 Z Z Z Z (fun hg => by rw [hg]; exact K7 Z Z) ?_; refine A2 (B1 Z (fun h => by first | rfl | (rw [h]; rfl)) (fun h => by first | rfl | (rw [h]; rfl))) Z ?_; refine A2 (A5 Z Z) Z (A6 ?_)
 refine k1 (k10 ?_)
 refine B6 (H1 Z Z Z) ?_
 simp only [G2]
 congr 4
 unfold Q3
 congr 1
 simp; omega
theorem splain_ok (c : UInt8) : FnOk Tryz.prog 210 [pByte c] (fun rs => rs = [F9 (Q3 c)]) := by
 refine FnOk.intro Tryz.func210 (by decide) Z Z Z Z ?_
 refine k2 ?_
 refine A4 (A2 (A5 Z Z) Z (A6 ?_))
 refine k1 (k2 ?_)
 refine A4 (A2 (A3 Z Z) Z (A2 (l8 Z Z) Z (A2 (A3 Z Z) Z (B0 Z Z Z Z (fun hg => by rw [hg]; exact A3 Z Z) ?_)))); refine B0 Z Z Z Z (fun hg => by rw [hg]; exact x4 Z Z) ?_; refine A2 (B1 Z (fun h => by first | rfl | (rw [h]; rfl)) (fun h => by first | rfl | (rw [h]; rfl))) Z ?_; refine A2 (A3 Z Z) Z (B0 Z Z Z Z (fun hg => by rw [hg]; exact A3 Z Z) ?_); refine B0 Z Z Z Z (fun hg => by rw [hg]; exact K7 Z Z) ?_; refine A2 (B1 Z (fun h => by first | rfl | (rw [h]; rfl)) (fun h => by first | rfl | (rw [h]; rfl))) Z ?_; refine A2 (A3 Z Z) Z (B0 Z Z Z Z (fun hg => by rw [hg]; exact A3 Z Z) ?_); refine B0 Z Z Z Z (fun hg => by rw [hg]; exact K7 Z Z) ?_; refine A2 (B1 Z (fun h => by first | rfl | (rw [h]; rfl)) (fun h => by first | rfl | (rw [h]; rfl))) Z ?_; refine A2 (A5 Z Z) Z (A6 ?_)
 refine k1 (k10 ?_)
 refine B6 (H1 Z Z Z) ?_
 simp only [G2]
 congr 4
 unfold Q3
 congr 1
 simp; omega
theorem rformat_ok (n : Int) : FnOk Tryz.prog 155 [F0 n] (fun rs => rs = [G6 (L9 n)]) := by
 obtain ⟨k, hk⟩ : ∃ k : Nat, n.toNat = k := ⟨_, rfl⟩
 induction k using Nat.strongRecOn generalizing n with
 | _ k ih =>
 refine FnOk.intro Tryz.func155 (by decide) Z Z Z Z ?_
 refine k2 ?_
 refine A4 (A2 (A5 Z Z) Z (A6 ?_))
 refine k1 (k2 (k2 ?_))
 refine A4 (A2 (A3 Z Z) Z (A2 (E3 Z Z) Z (A2 (A3 Z Z) Z (B0 Z Z Z Z (fun hg => by rw [hg]; exact A3 Z Z) ?_)))); refine B0 Z Z Z Z (fun hg => by rw [hg]; exact N4 Z Z) ?_; refine A2 (B1 Z (fun h => by first | rfl | (rw [h]; rfl)) (fun h => by first | rfl | (rw [h]; rfl))) Z ?_; refine A6 ?_
 refine k1 ?_
 refine B2 rfl (fun ht => ?_) (fun ht => ?_)
 ·have h := A0 (or_pick.symm.trans ht)
  refine k2 ?_
  refine A4 (A2 (A5 Z Z) Z (A6 ?_))
  refine k1 (k10 (k11 ?_))
  exact B6 (H1 rfl rfl rfl) (by rw [L9, if_pos (by omega)])
 ·have h := A1 (or_pick.symm.trans ht)
  refine k5 (k1 (k2 (k2 ?_)))
  refine A4 (A2 (A3 Z Z) Z (A2 (E3 Z Z) Z (A6 ?_)))
  refine k1 ?_
  refine B2 rfl (fun ht => ?_) (fun ht => ?_)
  ·have h2 := A0 ht
   refine k2 ?_
   refine A4 (A2 (A3 Z Z) Z (A2 (A3 Z Z) Z (A2 (C0 Z Z (by omega)) Z (A2 (X7 Z Z Z (by (first | omega | (simp; omega))) (by (first | omega | (simp; omega))) (by (first | omega | (simp; omega)))) Z (A2 (A5 Z Z) Z (A6 ?_))))))
   refine k1 (k10 (k11 ?_))
   refine B6 (H1 Z Z Z) ?_
   rw [fmt_small n (by omega) h2]
   have e : (n + 1).toNat - n.toNat = 1 := by omega
   rw [e]; rfl
  ·have h2 := A1 ht
   have hl := W4 (n / 10)
   have hq : IntKind.i64.wrap (n.tdiv 10) = n / 10 := by
    rw [i64_wrap_in] <;> rw [Int.tdiv_eq_ediv_of_nonneg (by omega)]; omega
   have hr : n.tmod 10 = n % 10 := Int.tmod_eq_emod_of_nonneg (by omega)
   have ihq : FnOk Tryz.prog 155 [F0 (IntKind.i64.wrap (n.tdiv 10))] (fun rs => rs = [G6 (L9 (n / 10))]) := by
    rw [hq]; exact ih (n / 10).toNat (by omega) (n / 10) rfl
   refine k5 (k1 (k2 ?_))
   refine C7 (by kernel_rfl) (by kernel_rfl) (A8 (A3 Z Z) Z Z (A8 (n_quo_w Z Z (by omega)) Z Z (A8 (G9 (ihq) Z Z) Z Z (A8 (A3 Z Z) Z Z (A8 (n_rem Z Z (by omega)) Z Z (A8 (A3 Z Z) Z Z (A8 (n_rem Z Z (by omega)) Z Z (A8 (C0 Z Z (by omega)) Z Z (A8 (X7 Z Z Z (by (first | omega | (simp; omega))) (by (first | omega | (simp; omega))) (by (first | omega | (simp; omega)))) Z Z (A8 (H3 Z Z (by (simp; omega))) Z Z (A8 (A5 Z Z) Z Z (H2 ?_))))))))))))
   refine k1 (k10 ?_)
   refine B6 (H1 Z Z Z) ?_
   rw [fmt_big n (by omega) (by omega)]
   rw [hr]
   have e : (n % 10 + 1).toNat - (n % 10).toNat = 1 := by omega
   rw [e]; rfl
theorem rrange_ok (a n : Int) (ha : -4611686018427387904 ≤ a ∧ a ≤ 4611686018427387904) (hn : -4611686018427387904 ≤ n ∧ n ≤ 4611686018427387904) : FnOk Tryz.prog 150 [F0 a, F0 n] (fun rs => rs = [G6 (I0 a n)]) := by
 refine FnOk.intro Tryz.func150 (by decide) Z Z Z Z ?_
 refine k2 ?_
 refine A4 (A2 (A5 Z Z) Z (A6 ?_))
 refine k1 (k2 (k2 ?_))
 refine A4 (A2 (A3 Z Z) Z (A2 (E3 Z Z) Z (A2 (A3 Z Z) Z (B0 Z Z Z Z (fun hg => by rw [hg]; exact A3 Z Z) ?_)))); refine B0 Z Z Z Z (fun hg => by rw [hg]; exact E3 Z Z) ?_; refine A2 (B1 Z (fun h => by first | rfl | (rw [h]; rfl)) (fun h => by first | rfl | (rw [h]; rfl))) Z ?_; refine A2 (A3 Z Z) Z (B0 Z Z Z Z (fun hg => by rw [hg]; exact A3 Z Z) ?_); refine B0 Z Z Z Z (fun hg => by rw [hg]; exact N4 Z Z) ?_; refine A2 (B1 Z (fun h => by first | rfl | (rw [h]; rfl)) (fun h => by first | rfl | (rw [h]; rfl))) Z ?_; refine A2 (A3 Z Z) Z (B0 Z Z Z Z (fun hg => by rw [hg]; exact A3 Z Z) ?_); refine B0 Z Z Z Z (fun hg => by rw [hg]; exact A3 Z Z) ?_; refine B0 Z Z Z Z (fun hg => by rw [hg]; exact I1 Z Z (by (first | omega | (simp at hq; omega)))) ?_; refine B0 Z Z Z Z (fun hg => by rw [hg]; exact N4 Z Z) ?_; refine A2 (B1 Z (fun h => by first | rfl | (rw [h]; rfl)) (fun h => by first | rfl | (rw [h]; rfl))) Z ?_; refine A6 ?_
 refine k1 ?_
 have l1 := W4 a
 have l2 := W4 (a + 1)
 have l3 := W4 n
 refine B2 rfl (fun ht => ?_) (fun ht => ?_)
 ·have h := A0 ((by simp only [or_pick] at ht; exact ht) : decide _ = true)
  refine k2 ?_
  refine A4 (A2 (A5 Z Z) Z (A6 ?_))
  refine k1 (k10 (k11 ?_))
  exact B6 (H1 rfl rfl rfl) (by rw [I0, if_pos (by omega)])
 ·have h := A1 ((by simp only [or_pick] at ht; exact ht) : decide _ = false)
  refine k5 (k1 (k2 (k2 ?_)))
  refine A4 (A2 (A3 Z Z) Z (A6 ?_))
  refine k1 (k3 (k2 ?_))
  refine A4 (A2 (I8 Z Z) Z (A2 (A5 Z Z) Z (A6 ?_)))
  refine k1 ?_
  refine B2 rfl (fun ht => ?_) (fun ht => ?_)
  ·have h0 := A0 ht
   refine k2 ?_
   refine A4 (A2 (A3 Z Z) Z (C3 (rformat_ok a) Z Z Z ?_)); rintro _ rfl; refine A2 (H3 Z Z (by simp; omega)) Z (A2 (A5 Z Z) Z (A6 ?_))
   refine k1 (k10 (k12 (k11 ?_)))
   exact B6 (H1 rfl rfl rfl) (by rw [I0, if_neg (by omega), if_pos h0])
  ·have h0 := A1 ht
   refine k2 ?_
   refine A4 (A2 (I8 Z Z) Z (A2 (A5 Z Z) Z (A6 ?_)))
   refine k1 ?_
   refine B2 rfl (fun ht => ?_) (fun ht => ?_)
   ·have h1 := A0 ht
    refine k2 ?_
    refine A4 (A2 (A3 Z Z) Z (A2 (C0 Z Z (by omega)) Z (C3 (rformat_ok (a + 1)) Z Z Z ?_))); rintro _ rfl; refine A2 (A5 Z Z) Z (A6 ?_)
    refine k1 (k10 (k12 (k11 ?_)))
    exact B6 (H1 rfl rfl rfl) (by rw [I0, if_neg (by omega), if_neg h0, if_pos h1])
   ·have h1 := A1 ht
    refine k5 (k2 ?_)
    refine A4 (A2 (A3 Z Z) Z (A2 (C0 Z Z (by omega)) Z (C3 (rformat_ok (a + 1)) Z Z Z ?_))); rintro _ rfl; refine A2 (H3 Z Z (by simp; omega)) Z (A2 (A3 Z Z) Z (C3 (rformat_ok n) Z Z Z ?_)); rintro _ rfl; refine A2 (H3 Z Z (by simp; omega)) Z (A2 (A5 Z Z) Z (A6 ?_))
    refine k1 (k10 ?_)
    exact B6 (H1 rfl rfl rfl) (by rw [I0, if_neg (by omega), if_neg h0, if_neg h1])
theorem Z1 : ([48, 49, 50, 51, 52, 53, 54, 55] : Str).length = 8 := rfl
theorem u8q (c : UInt8) (k : Nat) : IntKind.u8.wrap ((c.toNat : Int).tdiv (k : Int)) = ((c.toNat / k : Nat) : Int) := by
 have hc := c.toNat_lt
 have h1 : (c.toNat : Int).tdiv (k : Int) = ((c.toNat / k : Nat) : Int) := by rw [Int.tdiv_eq_ediv_of_nonneg (by omega)]; simp
 have h2 : c.toNat / k ≤ c.toNat := Nat.div_le_self _ _
 rw [h1]
 generalize c.toNat / k = q at *
 rw [IntWalk.u8_in _ (by omega)]
theorem u8r (n k : Nat) : (n : Int).tmod (k : Int) = ((n % k : Nat) : Int) := by
 rw [Int.tmod_eq_emod_of_nonneg (by omega)]; simp
theorem u8s (n : Nat) (h : n < 255) : IntKind.u8.wrap ((n : Int) + 1) = ((n + 1 : Nat) : Int) := by
 rw [IntWalk.u8_in _ (by omega)]; simp
set_option maxHeartbeats 1000000 in
theorem rquote_ok (s : Str) (hs : s.length ≤ 16777216) : FnOk Tryz.prog 149 [G6 s] (fun rs => rs = [G6 (L5 s)]) := by
 refine FnOk.intro Tryz.func149 (by decide) Z Z Z Z ?_
 refine k2 ?_
 refine A4 (A2 (A5 Z Z) Z (A6 ?_))
 refine k1 (k2 ?_)
 refine A4 (A2 (A3 Z Z) Z (A2 (l9 Z Z) Z (A2 (A5 Z Z) Z (A6 ?_))))
 refine k1 (k2 ?_)
 refine A4 (A2 (A5 Z Z) Z (A6 ?_))
 refine k1 (k2 (k2 ?_))
 refine A4 (A2 (A5 Z Z) Z (A6 ?_))
 refine k1 (k3 ?_)
 refine E2 (X := Nat) (fun i => ([(0, O7 s), (3, J9 (.bool (plains s i))), (4, O7 (34 :: escs s i)), (5, C2 i)], [])) (fun i => i ≤ s.length) (fun i => s.length - i) 0 (Nat.zero_le _) ?_ ?_
 ·rw [plains_zero, escs_zero]
  first | exact Sees.of ⟨le1 rfl, le1 rfl, le1 rfl, le1 rfl, trivial⟩ trivial | trace_state
 intro i hi
 dsimp only at hi ⊢
 have hel := escs_len s i hi
 refine k2 (k2 ?_)
 refine A4 (A2 (A3 Z Z) Z (A2 (A3 Z Z) Z (A2 (F5 Z) Z (A2 (E3 Z Z) Z (A6 ?_)))))
 refine k1 ?_
 refine B2 rfl (fun ht => ?_) (fun ht => ?_)
 ·have hlt : i < s.length := by have := A0 ht; omega
  have hv : s[i]? = some s[i] := by simp [hlt]
  obtain ⟨c, hc⟩ : ∃ c, c = s[i] := ⟨_, rfl⟩
  have h1 := escs_succ s i hlt
  have h2 := plains_succ s i hlt
  rw [← hc] at hv h1 h2
  have h3 := c.toNat_lt
  refine k5 (k1 (k2 (k3 (k2 ?_))))
  refine A4 (A2 (A3 Z Z) Z (A2 (A3 Z Z) Z (A2 (K0 Z Z (by omega) hv) Z (A2 (A5 Z Z) Z (A6 ?_)))))
  refine k1 (k2 ?_)
  refine A4 (A2 (A3 Z Z) Z (A2 (A3 Z Z) Z (B0 Z Z Z Z (fun hg => by rw [hg]; exact A3 Z Z) ?_))); refine B0 Z Z Z Z (fun hg => by have hq := hg; (try simp at hq); rw [hg]; exact G9 (rplain_ok c) Z Z) ?_; refine A2 (B1 Z (fun h => by first | rfl | (rw [h]; rfl)) (fun h => by first | rfl | (rw [h]; rfl))) Z ?_; refine A2 (A5 Z Z) Z (A6 ?_)
  rw [show (if plains s i = true then Q3 c else false) = plains s (i + 1) from by rw [h2]; cases plains s i <;> rfl]
  have hsub : (s.drop i).take 1 = [c] := by rw [List.drop_eq_getElem_cons hlt, ← hc]; rfl
  have hone : (i : Int).toNat = i ∧ ((i : Int) + 1).toNat - i = 1 := by omega
  refine k1 (k3 (k2 ?_))
  refine A4 (A2 (A3 Z Z) Z (A2 (I8 Z Z) Z (A2 (A3 Z Z) Z (B0 Z Z Z Z (fun hg => by rw [hg]; exact A3 Z Z) ?_)))); refine B0 Z Z Z Z (fun hg => by rw [hg]; exact I8 Z Z) ?_; refine A2 (B1 Z (fun h => by first | rfl | (rw [h]; rfl)) (fun h => by first | rfl | (rw [h]; rfl))) Z ?_; refine A2 (A5 Z Z) Z (A6 ?_)
  refine k1 ?_
  refine B2 rfl (fun ht => ?_) (fun ht => ?_)
  ·have h := A0 (or_pick.symm.trans ht)
   skip
   refine A4 (A2 (A3 Z Z) Z (A2 (H3 Z Z (by (simp; omega))) Z (A2 (A3 Z Z) Z (A2 (A3 Z Z) Z (A2 (A3 Z Z) Z (A2 (C0 Z Z (by omega)) Z (A2 (X7 Z Z Z (by omega) (by omega) (by omega)) Z (A2 (H3 Z Z (by (simp; omega))) Z (A2 (A5 Z Z) Z (A6 ?_))))))))))
   refine k4 (k4 (k1 ?_))
   refine A4 (A2 (A3 Z Z) Z (A2 (C0 Z Z (by omega)) Z (A2 (A5 Z Z) Z (A6 ?_))))
   refine k1 ?_
   refine ⟨i + 1, hlt, by omega, ?_⟩
   rw [h1, show O4 c = _ from by rw [O4, if_pos (by omega)]]
   rw [hone.1, hone.2, hsub, List.append_assoc]
   exact Sees.of ⟨le1 rfl, le1 rfl, le1 rfl, le1 rfl, trivial⟩ trivial
  ·have h := A1 (or_pick.symm.trans ht)
   refine k2 ?_
   refine A4 (A2 (A3 Z Z) Z (A2 (I8 Z Z) Z (A2 (A5 Z Z) Z (A6 ?_))))
   refine k1 ?_
   refine B2 rfl (fun ht => ?_) (fun ht => ?_)
   ·have h4 := A0 ht
    skip
    refine A4 (A2 (A3 Z Z) Z (A2 (H3 Z Z (by simp; omega)) Z (A2 (A5 Z Z) Z (A6 ?_))))
    refine k4 (k4 (k1 ?_))
    refine A4 (A2 (A3 Z Z) Z (A2 (C0 Z Z (by omega)) Z (A2 (A5 Z Z) Z (A6 ?_))))
    refine k1 ?_
    refine ⟨i + 1, hlt, by omega, ?_⟩
    rw [h1, show O4 c = _ from by rw [O4, if_neg (by omega), if_pos (by omega)]]
    exact Sees.of ⟨le1 rfl, le1 rfl, le1 rfl, le1 rfl, trivial⟩ trivial
   ·have h4 := A1 ht
    refine k2 ?_
    refine A4 (A2 (A3 Z Z) Z (A2 (I8 Z Z) Z (A2 (A5 Z Z) Z (A6 ?_))))
    refine k1 ?_
    refine B2 rfl (fun ht => ?_) (fun ht => ?_)
    ·have h5 := A0 ht
     skip
     refine A4 (A2 (A3 Z Z) Z (A2 (H3 Z Z (by simp; omega)) Z (A2 (A5 Z Z) Z (A6 ?_))))
     refine k4 (k4 (k1 ?_))
     refine A4 (A2 (A3 Z Z) Z (A2 (C0 Z Z (by omega)) Z (A2 (A5 Z Z) Z (A6 ?_))))
     refine k1 ?_
     refine ⟨i + 1, hlt, by omega, ?_⟩
     rw [h1, show O4 c = _ from by rw [O4, if_neg (by omega), if_neg (by omega), if_pos (by omega)]]
     exact Sees.of ⟨le1 rfl, le1 rfl, le1 rfl, le1 rfl, trivial⟩ trivial
    ·have h5 := A1 ht
     refine k2 ?_
     refine A4 (A2 (A3 Z Z) Z (A2 (E3 Z Z) Z (A2 (A3 Z Z) Z (B0 Z Z Z Z (fun hg => by rw [hg]; exact A3 Z Z) ?_)))); refine B0 Z Z Z Z (fun hg => by rw [hg]; exact N4 Z Z) ?_; refine A2 (B1 Z (fun h => by first | rfl | (rw [h]; rfl)) (fun h => by first | rfl | (rw [h]; rfl))) Z ?_; refine A2 (A5 Z Z) Z (A6 ?_)
     refine k1 ?_
     refine B2 rfl (fun ht => ?_) (fun ht => ?_)
     ·have h6 := A0 (or_pick.symm.trans ht)
      have e1 : IntKind.u8.wrap ((c.toNat : Int).tdiv 64) = ((c.toNat / 64 : Nat) : Int) := u8q c 64
      have e2 : IntKind.u8.wrap ((c.toNat : Int).tdiv 8) = ((c.toNat / 8 : Nat) : Int) := u8q c 8
      have e3 : (IntKind.u8.wrap ((c.toNat : Int).tdiv 8)).tmod 8 = ((c.toNat / 8 % 8 : Nat) : Int) := by rw [e2]; exact u8r _ 8
      have e4 : (c.toNat : Int).tmod 8 = ((c.toNat % 8 : Nat) : Int) := u8r _ 8
      have e5 : IntKind.u8.wrap (IntKind.u8.wrap ((c.toNat : Int).tdiv 64) + 1) = ((c.toNat / 64 + 1 : Nat) : Int) := by rw [e1]; exact u8s _ (by omega)
      have e6 : IntKind.u8.wrap ((IntKind.u8.wrap ((c.toNat : Int).tdiv 8)).tmod 8 + 1) = ((c.toNat / 8 % 8 + 1 : Nat) : Int) := by rw [e3]; exact u8s _ (by omega)
      have e7 : IntKind.u8.wrap ((c.toNat : Int).tmod 8 + 1) = ((c.toNat % 8 + 1 : Nat) : Int) := by rw [e4]; exact u8s _ (by omega)
      have hol := octOf_len c
      have hob : O4 c = 92 :: octOf c := by rw [O4, if_neg (by omega), if_neg (by omega), if_neg (by omega), if_pos (by omega)]
      have g1 : c.toNat / 64 < 8 := by omega
      skip
      refine C7 (by kernel_rfl) (by kernel_rfl) (A8 (A3 Z Z) Z Z (A8 (H3 Z Z (by (simp; omega))) Z Z (A8 (A3 Z Z) Z Z (A8 (n_quo_w Z Z (by omega)) Z Z (A8 (A3 Z Z) Z Z (A8 (n_quo_w Z Z (by omega)) Z Z (A8 (n_add_w Z Z) Z Z (A8 (X7 Z Z Z (by (first | omega | (simp only [Z1]; omega))) (by (first | omega | (simp only [Z1]; omega))) (by (first | omega | (simp only [Z1]; omega)))) Z Z (A8 (H3 Z Z (by (simp only [List.length_append, List.length_cons, List.length_nil, List.length_take, List.length_drop]; omega))) Z Z (A8 (A3 Z Z) Z Z (A8 (n_quo_w Z Z (by omega)) Z Z (A8 (n_rem Z Z (by omega)) Z Z (A8 (A3 Z Z) Z Z (A8 (n_quo_w Z Z (by omega)) Z Z (A8 (n_rem Z Z (by omega)) Z Z (A8 (n_add_w Z Z) Z Z (A8 (X7 Z Z Z (by (first | omega | (simp only [Z1]; omega))) (by (first | omega | (simp only [Z1]; omega))) (by (first | omega | (simp only [Z1]; omega)))) Z Z (A8 (H3 Z Z (by (simp only [List.length_append, List.length_cons, List.length_nil, List.length_take, List.length_drop]; omega))) Z Z (A8 (A3 Z Z) Z Z (A8 (n_rem Z Z (by omega)) Z Z (A8 (A3 Z Z) Z Z (A8 (n_rem Z Z (by omega)) Z Z (A8 (n_add_w Z Z) Z Z ?_))))))))))))))))))))))); refine A8 (X7 Z Z Z (by (first | omega | (simp only [Z1]; omega))) (by (first | omega | (simp only [Z1]; omega))) (by (first | omega | (simp only [Z1]; omega)))) Z Z (A8 (H3 Z Z (by (simp only [List.length_append, List.length_cons, List.length_nil, List.length_take, List.length_drop]; omega))) Z Z (A8 (A5 Z Z) Z Z (H2 ?_)))
      have k1 : ∀ q : Nat, ((q + 1 : Nat) : Int).toNat - ((q : Nat) : Int).toNat = 1 := fun q => by omega
      refine k4 (k4 ?_)
      refine A4 (A2 (A3 Z Z) Z (A2 (C0 Z Z (by omega)) Z (A2 (A5 Z Z) Z (A6 ?_))))
      skip
      refine ⟨i + 1, hlt, by omega, ?_⟩
      rw [e5, e6, e7, e1, e3, e4, k1 (c.toNat / 64), k1 (c.toNat / 8 % 8), k1 (c.toNat % 8), h1, hob, show 34 :: (escs s i ++ (92 :: octOf c)) = 34 :: escs s i ++ [92] ++ (digs8.drop (c.toNat / 64)).take 1 ++ (digs8.drop (c.toNat / 8 % 8)).take 1 ++ (digs8.drop (c.toNat % 8)).take 1 from by unfold octOf; simp only [List.cons_append, List.append_assoc, List.nil_append]]
      exact Sees.of ⟨le1 rfl, le1 rfl, le1 rfl, le1 rfl, trivial⟩ trivial
     ·have h6 := A1 (or_pick.symm.trans ht)
      skip
      refine A4 (A2 (A3 Z Z) Z (A2 (A3 Z Z) Z (A2 (A3 Z Z) Z (A2 (A3 Z Z) Z (A2 (C0 Z Z (by omega)) Z (A2 (X7 Z Z Z (by omega) (by omega) (by omega)) Z (A2 (H3 Z Z (by simp; omega)) Z (A2 (A5 Z Z) Z (A6 ?_)))))))))
      refine k4 (k4 (k1 ?_))
      refine A4 (A2 (A3 Z Z) Z (A2 (C0 Z Z (by omega)) Z (A2 (A5 Z Z) Z (A6 ?_))))
      refine k1 ?_
      refine ⟨i + 1, hlt, by omega, ?_⟩
      rw [h1, show O4 c = _ from by rw [O4, if_neg (by omega), if_neg (by omega), if_neg (by omega), if_neg (by omega)]]
      rw [hone.1, hone.2, hsub]
      exact Sees.of ⟨le1 rfl, le1 rfl, le1 rfl, le1 rfl, trivial⟩ trivial
 ·have hi' : i = s.length := by have := A1 ht; omega
  subst hi'
  refine k6 (k2 (k2 ?_))
  refine A4 (A2 (A3 Z Z) Z (A6 ?_))
  refine k1 ?_
  refine B2 rfl (fun ht => ?_) (fun ht => ?_)
  ·have h : plains s s.length = true := ht
   refine k2 ?_
   refine A4 (A2 (A3 Z Z) Z (A2 (A5 Z Z) Z (A6 ?_)))
   refine k1 (k10 (k11 ?_))
   exact B6 (H1 rfl rfl rfl) (by rw [quoteOf_eq, if_pos h])
  ·have h : plains s s.length = false := ht
   refine k5 (k1 (k2 ?_))
   refine A4 (A2 (A3 Z Z) Z (A2 (H3 Z Z (by simp; omega)) Z (A2 (A5 Z Z) Z (A6 ?_))))
   refine k1 (k10 ?_)
   exact B6 (H1 rfl rfl rfl) (by rw [quoteOf_eq, h]; rfl)
end Go.Proofs.YtgejaedjnbjpoaaGreatDoor
namespace Go.Proofs.YtgejaedjnbjpoaaGreatDoor
open Go Go.AL Go.RowKit
set_option maxRecDepth 100000
theorem u8dig (q : Nat) (h : q < 8) : IntKind.u8.wrap (48 + (q : Int)) = ((UInt8.ofNat (48 + q)).toNat : Int) := by
 rw [IntWalk.u8_in _ (by omega)]
 have : (UInt8.ofNat (48 + q)).toNat = 48 + q := by rw [UInt8.toNat_ofNat']; omega
 rw [this]; simp
theorem and7_u8 (x : Nat) (h : x < 256) : IntKind.u8.wrap ((BitVec.ofInt IntKind.u8.bits (x : Int) &&& BitVec.ofInt IntKind.u8.bits 7).toNat : Int) = ((x % 8 : Nat) : Int) := by
 have h1 : (BitVec.ofInt IntKind.u8.bits (x : Int) &&& BitVec.ofInt IntKind.u8.bits 7).toNat = x % 8 := by
  rw [BitVec.toNat_and, BitVec.toNat_ofInt, BitVec.toNat_ofInt]
  have e1 : ((x : Int) % ((2 ^ IntKind.u8.bits : Nat) : Int)).toNat = x := by
   rw [show ((2 ^ IntKind.u8.bits : Nat) : Int) = 256 by rfl]; omega
  have e2 : ((7 : Int) % ((2 ^ IntKind.u8.bits : Nat) : Int)).toNat = 2 ^ 3 - 1 := by rfl
  rw [e1, e2, Nat.and_two_pow_sub_one_eq_mod]
 rw [h1, IntWalk.u8_in _ (by omega)]
theorem shr_u8 (x : Nat) (c : Nat) (h : c ≤ 8) : (x : Int).fdiv (2 ^ min (Int.toNat (c : Int)) IntKind.u8.bits) = ((x / 2 ^ c : Nat) : Int) := by
 rw [shr_eq _ _ IntKind.u8.bits ⟨by omega, by show (c : Int) ≤ 8; omega⟩]
 simp
theorem escaped_ok (c : UInt8) : FnOk Tryz.prog 211 [pByte c] (fun rs => rs = [G6 (O4 c)]) := by
 have hc := c.toNat_lt
 refine FnOk.intro Tryz.func211 (by decide) Z Z Z Z ?_
 refine k2 ?_
 refine A4 (A2 (A5 Z Z) Z (A6 ?_))
 refine k1 (k2 (k3 (k2 ?_)))
 refine A4 (A2 (A3 Z Z) Z (A2 (I8 Z Z) Z (A2 (A3 Z Z) Z (B0 Z Z Z Z (fun hg => by rw [hg]; exact A3 Z Z) ?_)))); refine B0 Z Z Z Z (fun hg => by rw [hg]; exact I8 Z Z) ?_; refine A2 (B1 Z (fun h => by first | rfl | (rw [h]; rfl)) (fun h => by first | rfl | (rw [h]; rfl))) Z ?_; refine A2 (A5 Z Z) Z (A6 ?_)
 refine k1 ?_
 refine B2 rfl (fun ht => ?_) (fun ht => ?_)
 ·have h := A0 (or_pick.symm.trans ht)
  refine k2 ?_
  refine A4 (A2 (A3 Z Z) Z (A2 (n_byte_string Z (by omega)) Z (A2 (H3 Z Z (by simp)) Z (A2 (A5 Z Z) Z (A6 ?_)))))
  refine k1 (k10 (k12 (k11 ?_)))
  exact B6 (H1 rfl rfl rfl) (by rw [O4, if_pos (by omega)]; rfl)
 ·have h := A1 (or_pick.symm.trans ht)
  refine k2 ?_
  refine A4 (A2 (A3 Z Z) Z (A2 (I8 Z Z) Z (A2 (A5 Z Z) Z (A6 ?_))))
  refine k1 ?_
  refine B2 rfl (fun ht => ?_) (fun ht => ?_)
  ·have h1 := A0 ht
   refine k2 ?_
   refine A4 (A2 (A5 Z Z) Z (A6 ?_))
   refine k1 (k10 (k12 (k11 ?_)))
   exact B6 (H1 rfl rfl rfl) (by rw [O4, if_neg (by omega), if_pos (by omega)])
  ·have h1 := A1 ht
   refine k2 ?_
   refine A4 (A2 (A3 Z Z) Z (A2 (I8 Z Z) Z (A2 (A5 Z Z) Z (A6 ?_))))
   refine k1 ?_
   refine B2 rfl (fun ht => ?_) (fun ht => ?_)
   ·have h2 := A0 ht
    refine k2 ?_
    refine A4 (A2 (A5 Z Z) Z (A6 ?_))
    refine k1 (k10 (k12 (k11 ?_)))
    exact B6 (H1 rfl rfl rfl) (by rw [O4, if_neg (by omega), if_neg (by omega), if_pos (by omega)])
   ·have h2 := A1 ht
    refine k2 ?_
    refine A4 (A2 (A3 Z Z) Z (A2 (E3 Z Z) Z (A2 (A3 Z Z) Z (B0 Z Z Z Z (fun hg => by rw [hg]; exact A3 Z Z) ?_)))); refine B0 Z Z Z Z (fun hg => by rw [hg]; exact N4 Z Z) ?_; refine A2 (B1 Z (fun h => by first | rfl | (rw [h]; rfl)) (fun h => by first | rfl | (rw [h]; rfl))) Z ?_; refine A2 (A5 Z Z) Z (A6 ?_)
    refine k1 ?_
    refine B2 rfl (fun ht => ?_) (fun ht => ?_)
    ·have h3 := A0 (or_pick.symm.trans ht)
     refine k2 ?_
     have f6 : (c.toNat : Int).fdiv (2 ^ min (Int.toNat 6) IntKind.u8.bits) = ((c.toNat / 64 : Nat) : Int) := shr_u8 c.toNat 6 (by omega)
     have f3 : (c.toNat : Int).fdiv (2 ^ min (Int.toNat 3) IntKind.u8.bits) = ((c.toNat / 8 : Nat) : Int) := shr_u8 c.toNat 3 (by omega)
     have e1 := u8dig (c.toNat / 64) (by omega)
     have e2 := u8dig (c.toNat / 8 % 8) (by omega)
     have e3 := u8dig (c.toNat % 8) (by omega)
     have hol := octOf_bytes c
     refine A4 (A2 (A3 Z Z) Z (A2 (n_shr Z Z (by omega)) Z (A2 (n_add_w Z Z) Z (A2 (A3 Z Z) Z (A2 (n_shr Z Z (by omega)) Z (A2 (n_bits Z Z Z (fun _ => rfl)) Z (A2 (n_add_w Z Z) Z (A2 (A3 Z Z) Z (A2 (n_bits Z Z Z (fun _ => rfl)) Z (A2 (n_add_w Z Z) Z ?_)))))))))); rw [f6, f3, and7_u8 (c.toNat / 8) (by omega), and7_u8 c.toNat (by omega), e1, e2, e3]; refine A2 (E0 (c := u8C) (ys := [UInt8.ofNat (48 + c.toNat / 64), UInt8.ofNat (48 + c.toNat / 8 % 8), UInt8.ofNat (48 + c.toNat % 8)]) (E6 Z Z Z Z (E6 Z Z Z Z (E6 Z Z Z Z I6))) Z Z Z) Z (A2 (m7 TyStr.out Z (.pure _ _ _ _)) Z (A2 (H3 Z Z (by simp)) Z (A2 (A5 Z Z) Z (A6 ?_))))
     refine k1 (k10 (k12 (k11 ?_)))
     exact B6 (H1 rfl rfl rfl) (by rw [O4, if_neg (by omega), if_neg (by omega), if_neg (by omega), if_pos (by omega), hol]; rfl)
    ·have h3 := A1 (or_pick.symm.trans ht)
     refine k5 (k2 ?_)
     refine A4 (A2 (A3 Z Z) Z (A2 (n_byte_string Z (by omega)) Z (A2 (A5 Z Z) Z (A6 ?_))))
     refine k1 (k10 ?_)
     exact B6 (H1 rfl rfl rfl) (by rw [O4, if_neg (by omega), if_neg (by omega), if_neg (by omega), if_neg (by omega)])
theorem itoa_ok (n : Int) (h : 0 ≤ n ∧ n ≤ 2147483647) : FnOk Tryz.prog 228 [F0 n] (fun rs => rs = [G6 (Lib.itoa n)]) :=
 FnOk.ofPlainG (xs := [.int .i64 n]) (r := .string ⟨(Lib.itoa n).toArray⟩) ⟨_, rfl, rfl, rfl⟩ rfl fun w hw =>
  (Tryz.strconv_Itoa n (by omega) (by omega) w (hw.pow10 rfl)).mono fun e w' ⟨he, k, os, hw'⟩ => ⟨he, by subst hw'; exact Lib.below_grow _ _ (Nat.le_refl _) _ _⟩
theorem sformat_ok (n : Int) : FnOk Tryz.prog 166 [F0 n] (fun rs => rs = [G6 (L9 n)]) := by
 refine FnOk.intro Tryz.func166 (by decide) Z Z Z Z ?_
 refine k2 ?_
 refine A4 (A2 (A5 Z Z) Z (A6 ?_))
 refine k1 (k2 (k2 ?_))
 refine A4 (A2 (A3 Z Z) Z (A2 (E3 Z Z) Z (A2 (A3 Z Z) Z (B0 Z Z Z Z (fun hg => by rw [hg]; exact A3 Z Z) ?_)))); refine B0 Z Z Z Z (fun hg => by rw [hg]; exact N4 Z Z) ?_; refine A2 (B1 Z (fun h => by first | rfl | (rw [h]; rfl)) (fun h => by first | rfl | (rw [h]; rfl))) Z ?_; refine A6 ?_
 refine k1 ?_
 refine B2 rfl (fun ht => ?_) (fun ht => ?_)
 ·have h := A0 (or_pick.symm.trans ht)
  refine k2 ?_
  refine A4 (A2 (A5 Z Z) Z (A6 ?_))
  refine k1 (k10 (k11 ?_))
  exact B6 (H1 rfl rfl rfl) (by rw [L9, if_pos (by omega)])
 ·have h := A1 (or_pick.symm.trans ht)
  refine k5 (k1 (k2 ?_))
  refine A4 (A2 (A3 Z Z) Z (C3 (itoa_ok n (by omega)) Z Z Z ?_)); rintro _ rfl; refine A2 (A5 Z Z) Z (A6 ?_)
  refine k1 (k10 ?_)
  exact B6 (H1 rfl rfl rfl) (by rw [L9, if_neg (by omega)])
theorem srange_ok (a n : Int) (ha : -4611686018427387904 ≤ a ∧ a ≤ 4611686018427387904) (hn : -4611686018427387904 ≤ n ∧ n ≤ 4611686018427387904) : FnOk Tryz.prog 168 [F0 a, F0 n] (fun rs => rs = [G6 (I0 a n)]) := by
 refine FnOk.intro Tryz.func168 (by decide) Z Z Z Z ?_
 refine k2 ?_
 refine A4 (A2 (A5 Z Z) Z (A6 ?_))
 refine k1 (k2 (k2 ?_))
 refine A4 (A2 (A3 Z Z) Z (A2 (E3 Z Z) Z (A2 (A3 Z Z) Z (B0 Z Z Z Z (fun hg => by rw [hg]; exact A3 Z Z) ?_)))); refine B0 Z Z Z Z (fun hg => by rw [hg]; exact E3 Z Z) ?_; refine A2 (B1 Z (fun h => by first | rfl | (rw [h]; rfl)) (fun h => by first | rfl | (rw [h]; rfl))) Z ?_; refine A2 (A3 Z Z) Z (B0 Z Z Z Z (fun hg => by rw [hg]; exact A3 Z Z) ?_); refine B0 Z Z Z Z (fun hg => by rw [hg]; exact N4 Z Z) ?_; refine A2 (B1 Z (fun h => by first | rfl | (rw [h]; rfl)) (fun h => by first | rfl | (rw [h]; rfl))) Z ?_; refine A2 (A3 Z Z) Z (B0 Z Z Z Z (fun hg => by rw [hg]; exact A3 Z Z) ?_); refine B0 Z Z Z Z (fun hg => by rw [hg]; exact A3 Z Z) ?_; refine B0 Z Z Z Z (fun hg => by rw [hg]; exact I1 Z Z (by (first | omega | (simp at hq; omega)))) ?_; refine B0 Z Z Z Z (fun hg => by rw [hg]; exact N4 Z Z) ?_; refine A2 (B1 Z (fun h => by first | rfl | (rw [h]; rfl)) (fun h => by first | rfl | (rw [h]; rfl))) Z ?_; refine A6 ?_
 refine k1 ?_
 have l1 := W4 a
 have l2 := W4 (a + 1)
 have l3 := W4 n
 refine B2 rfl (fun ht => ?_) (fun ht => ?_)
 ·have h := A0 ((by simp only [or_pick] at ht; exact ht) : decide _ = true)
  refine k2 ?_
  refine A4 (A2 (A5 Z Z) Z (A6 ?_))
  refine k1 (k10 (k11 ?_))
  exact B6 (H1 rfl rfl rfl) (by rw [I0, if_pos (by omega)])
 ·have h := A1 ((by simp only [or_pick] at ht; exact ht) : decide _ = false)
  refine k5 (k1 (k2 (k2 ?_)))
  refine A4 (A2 (A3 Z Z) Z (A6 ?_))
  refine k1 (k3 (k2 ?_))
  refine A4 (A2 (I8 Z Z) Z (A2 (A5 Z Z) Z (A6 ?_)))
  refine k1 ?_
  refine B2 rfl (fun ht => ?_) (fun ht => ?_)
  ·have h0 := A0 ht
   refine k2 ?_
   refine A4 (A2 (A3 Z Z) Z (C3 (sformat_ok a) Z Z Z ?_)); rintro _ rfl; refine A2 (H3 Z Z (by simp; omega)) Z (A2 (A5 Z Z) Z (A6 ?_))
   refine k1 (k10 (k12 (k11 ?_)))
   exact B6 (H1 rfl rfl rfl) (by rw [I0, if_neg (by omega), if_pos h0])
  ·have h0 := A1 ht
   refine k2 ?_
   refine A4 (A2 (I8 Z Z) Z (A2 (A5 Z Z) Z (A6 ?_)))
   refine k1 ?_
   refine B2 rfl (fun ht => ?_) (fun ht => ?_)
   ·have h1 := A0 ht
    refine k2 ?_
    refine A4 (A2 (A3 Z Z) Z (A2 (C0 Z Z (by omega)) Z (C3 (sformat_ok (a + 1)) Z Z Z ?_))); rintro _ rfl; refine A2 (A5 Z Z) Z (A6 ?_)
    refine k1 (k10 (k12 (k11 ?_)))
    exact B6 (H1 rfl rfl rfl) (by rw [I0, if_neg (by omega), if_neg h0, if_pos h1])
   ·have h1 := A1 ht
    refine k5 (k2 ?_)
    refine A4 (A2 (A3 Z Z) Z (A2 (C0 Z Z (by omega)) Z (C3 (sformat_ok (a + 1)) Z Z Z ?_))); rintro _ rfl; refine A2 (H3 Z Z (by simp; omega)) Z (A2 (A3 Z Z) Z (C3 (sformat_ok n) Z Z Z ?_)); rintro _ rfl; refine A2 (H3 Z Z (by simp; omega)) Z (A2 (A5 Z Z) Z (A6 ?_))
    refine k1 (k10 ?_)
    exact B6 (H1 rfl rfl rfl) (by rw [I0, if_neg (by omega), if_neg h0, if_neg h1])
theorem bstring_calls (B b : Nat) (l : List UInt8) (w : World) (h : Lib.IsBuilder 144 5 B b (Lib.byteCells l) w) (hBw : B ≤ w.heap.size) :
  Calls Tryz.prog 92 #[.pointer (some ⟨b, 0, none⟩)] w fun e w' => e = .returned (.string ⟨l.toArray⟩) ∧ Below B w w' := Tryz.Builder_String_any B b l w h hBw
theorem squote_ok (s : Str) (hs : s.length ≤ 16777216) : FnOk Tryz.prog 143 [G6 s] (fun rs => rs = [G6 (L5 s)]) := by
 refine FnOk.intro Tryz.func143 (by decide) Z Z Z Z ?_
 refine k2 ?_
 refine A4 (A2 (A5 Z Z) Z (A6 ?_))
 refine k1 (k2 ?_)
 refine A4 (A2 (A3 Z Z) Z (A2 (l9 Z Z) Z (A2 (A5 Z Z) Z (A6 ?_))))
 refine k1 (k2 (k2 ?_))
 refine A4 (A2 (A3 Z Z) Z (A2 (F5 Z) Z (A2 (A3 Z Z) Z (A6 ?_))))
 refine k1 (k3 ?_)
 refine E2 (X := Nat) (fun i => ([(0, O7 s), (3, J9 (.bool (plains s i))), (10, C2 s.length), (11, C2 i)], [])) (fun i => i ≤ s.length) (fun i => s.length - i) 0 (Nat.zero_le _) ?_ ?_
 ·rw [plains_zero]
  exact Sees.of ⟨le1 rfl, le1 rfl, le1 rfl, le1 rfl, trivial⟩ trivial
 intro i hi
 dsimp only at hi ⊢
 refine k2 ?_
 refine A4 (A2 (E3 Z Z) Z (A6 ?_))
 refine k1 (k2 ?_)
 refine B2 rfl (fun ht => ?_) (fun ht => ?_)
 ·have hlt : i < s.length := by have := A0 ht; omega
  have hv : s[i]? = some s[i] := by simp [hlt]
  obtain ⟨c, hc⟩ : ∃ c, c = s[i] := ⟨_, rfl⟩
  have h2 := plains_succ s i hlt
  rw [← hc] at hv h2
  refine k5 (k1 (k2 (k3 (k2 ?_))))
  refine A4 (A2 (A3 Z Z) Z (A2 (A5 Z Z) Z (A6 ?_)))
  refine k1 ?_
  refine A4 (A2 (A3 Z Z) Z (A2 (A3 Z Z) Z (B0 Z Z Z Z (fun hg => by rw [hg]; exact A3 Z Z) ?_))); refine B0 Z Z Z Z (fun hg => by rw [hg]; exact A3 Z Z) ?_; refine B0 Z Z Z Z (fun hg => by have hq := hg; (try simp at hq); rw [hg]; exact K0 Z Z (by omega) hv) ?_; refine B0 Z Z Z Z (fun hg => by have hq := hg; (try simp at hq); rw [hg]; exact G9 (splain_ok c) Z Z) ?_; refine A2 (B1 Z (fun h => by first | rfl | (rw [h]; rfl)) (fun h => by first | rfl | (rw [h]; rfl))) Z ?_; refine A2 (A5 Z Z) Z (A6 ?_)
  refine k4 (k1 ?_)
  refine A4 (A2 (C0 Z Z (by omega)) Z (A2 (A3 Z Z) Z (A6 ?_)))
  refine k1 ?_
  refine ⟨i + 1, hlt, by omega, ?_⟩
  rw [show (if plains s i = true then Q3 c else false) = plains s (i + 1) from by rw [h2]; cases plains s i <;> rfl]
  exact Sees.of ⟨le1 rfl, le1 rfl, le1 rfl, le1 rfl, trivial⟩ trivial
 have hi' : i = s.length := by have := A1 ht; omega
 subst hi'
 refine k6 (k2 (k2 ?_))
 refine A4 (A2 (A3 Z Z) Z (A6 ?_))
 refine k1 ?_
 refine B2 rfl (fun ht => ?_) (fun ht => ?_)
 ·have h : plains s s.length = true := ht
  refine k2 ?_
  refine A4 (A2 (A3 Z Z) Z (A2 (A5 Z Z) Z (A6 ?_)))
  refine k1 (k10 (k11 ?_))
  exact B6 (H1 rfl rfl rfl) (by rw [quoteOf_eq, if_pos h])
 have h : plains s s.length = false := ht
 have hq : L5 s = (34 :: escs s s.length) ++ [34] := by rw [quoteOf_eq, h]; rfl
 refine k5 (k1 (k2 ?_))
 refine A4 (C9 (f_allocT 700 Z) Z (A6 ?_))
 refine k1 (k2 ?_)
 refine F8 (Sees.adoptT 701 UInt8 1 u8C 5 (kb := 700) (o := 1) Z Z Z) ?_
 refine A4 (R5 (writeByte_met (xs := []) (c := 34) ⟨⟨_, .inl rfl, rfl⟩, rfl⟩ (by simp)) Z Z Z ?_); rintro _ _ ⟨rfl, rfl⟩; refine A6 ?_
 refine k1 (k2 (k2 ?_))
 refine A4 (A2 (A3 Z Z) Z (A2 (F5 Z) Z (A2 (A3 Z Z) Z (A6 ?_))))
 refine k1 (k3 ?_)
 refine E2 (X := Nat) (fun i => ([(0, O7 s), (5, .s (.one (.ref 700 0))), (26, C2 s.length), (27, C2 i)], [(700, .tbx 144 [.ref 700 0, .buf 701 UInt8 1 u8C (34 :: escs s i)]), (701, .spare (34 :: escs s i).length 1 5)])) (fun i => i ≤ s.length) (fun i => s.length - i) 0 (Nat.zero_le _) (Sees.of ⟨le1 rfl, le1 rfl, le1 rfl, le1 rfl, trivial⟩ ⟨rfl, rfl, trivial⟩) ?_
 intro i hi
 dsimp only at hi ⊢
 have hel := escs_len s i hi
 refine k2 ?_
 refine A4 (A2 (E3 Z Z) Z (A6 ?_))
 refine k1 (k2 ?_)
 refine B2 rfl (fun ht => ?_) (fun ht => ?_)
 ·have hlt : i < s.length := by have := A0 ht; omega
  have hv : s[i]? = some s[i] := by simp [hlt]
  obtain ⟨c, hc⟩ : ∃ c, c = s[i] := ⟨_, rfl⟩
  have h1 := escs_succ s i hlt
  have h2 := escOf_len c
  rw [← hc] at hv h1
  refine k5 (k1 (k2 (k3 (k2 ?_))))
  refine A4 (A2 (A3 Z Z) Z (A2 (A5 Z Z) Z (A6 ?_)))
  refine k1 ?_
  refine A4 (A2 (A3 Z Z) Z (A2 (A3 Z Z) Z (A2 (K0 Z Z (by omega) hv) Z (C3 (escaped_ok c) Z Z Z ?_)))); rintro _ rfl; refine R5 (W0 (xs := 34 :: escs s i) (s := O4 c) ⟨⟨_, .inr rfl, rfl⟩, rfl⟩ (by simp only [List.length_cons]; omega)) Z Z Z ?_; rintro _ _ ⟨rfl, rfl⟩; refine A6 ?_
  refine k4 (k1 ?_)
  refine A4 (A2 (C0 Z Z (by omega)) Z (A2 (A3 Z Z) Z (A6 ?_)))
  refine k1 ?_
  refine ⟨i + 1, hlt, by omega, ?_⟩
  rw [h1]
  exact Sees.of ⟨le1 rfl, le1 rfl, le1 rfl, le1 rfl, trivial⟩ ⟨rfl, rfl, trivial⟩
 have hi' : i = s.length := by have := A1 ht; omega
 subst hi'
 refine k6 (k2 ?_)
 refine A4 (R5 (writeByte_met (xs := 34 :: escs s s.length) (c := 34) ⟨⟨_, .inr rfl, rfl⟩, rfl⟩ (by simp only [List.length_cons]; omega)) Z Z Z ?_); rintro _ _ ⟨rfl, rfl⟩; refine A6 ?_
 refine k1 (k2 ?_)
 refine A4 (l_bstring (k := 700) (k' := 701) ⟨_, rfl, rfl, rfl⟩ bstring_calls Z Z Z Z Z (.inr Z) Z (A2 (A5 Z Z) Z (A6 ?_)))
 refine k1 (k10 ?_)
 exact B6 (H1 rfl rfl rfl) (by rw [hq])
theorem gD {s : Str} {i : Nat} (h : i < s.length) : s[i]? = some (s.getD i 0) := by simp [h]
def digitAt (s : Str) (i : Nat) : Bool := decide ((i < s.length ∧ 48 ≤ (s.getD i 0).toNat) ∧ (s.getD i 0).toNat ≤ 57)
theorem digitAt_eq (s : Str) (i : Nat) : digitAt s i = match s[i]? with | some c => b9 c | none => false := by
 unfold digitAt b9
 by_cases h : i < s.length
 ·rw [gD h]; simp [h]
 ·rw [List.getElem?_eq_none (by omega)]; simp [h]
theorem digs_le (s : Str) (i : Nat) : (M4 (s.drop i)).length ≤ s.length - i := by
 unfold M4
 have := (List.takeWhile_sublist b9 (l := s.drop i)).length_le
 rw [List.length_drop] at this; exact this
theorem takeWhile_at {p : UInt8 → Bool} : ∀ (s : Str) (k : Nat), k ≤ (s.takeWhile p).length → (match s[k]? with | some c => p c | none => false) = decide (k < (s.takeWhile p).length)
 | [], k, h => by simp at h ⊢
 | c :: r, 0, h => by by_cases hc : p c = true <;> simp [List.takeWhile_cons, hc]
 | c :: r, k + 1, h => by
  by_cases hc : p c = true
  ·rw [List.takeWhile_cons, if_pos hc, List.length_cons] at h ⊢
   have := takeWhile_at (p := p) r k (by omega)
   rw [List.getElem?_cons_succ, this]; simp
  ·rw [List.takeWhile_cons, if_neg hc] at h; simp at h
theorem takeWhile_pre {p : UInt8 → Bool} : ∀ (s : Str) (k : Nat), k < (s.takeWhile p).length → s[k]? = (s.takeWhile p)[k]?
 | [], k, h => by simp at h
 | c :: r, k, h => by
  by_cases hc : p c = true
  ·rw [List.takeWhile_cons, if_pos hc] at h ⊢
   cases k with
   | zero => rfl
   | succ k => rw [List.getElem?_cons_succ, List.getElem?_cons_succ]; exact takeWhile_pre (p := p) r k (by simpa using h)
  ·rw [List.takeWhile_cons, if_neg hc] at h; simp at h
theorem digit_run (s : Str) (i k : Nat) (h : k ≤ (M4 (s.drop i)).length) : digitAt s (i + k) = decide (k < (M4 (s.drop i)).length) := by
 rw [digitAt_eq, ← List.getElem?_drop]
 exact takeWhile_at (s.drop i) k h
theorem digit_get {s : Str} {i k : Nat} (h : k < (M4 (s.drop i)).length) : s[i + k]? = some ((M4 (s.drop i)).getD k 0) ∧ 48 ≤ ((M4 (s.drop i)).getD k 0).toNat ∧ ((M4 (s.drop i)).getD k 0).toNat ≤ 57 ∧
  decV ((M4 (s.drop i)).take (k + 1)) = 10 * decV ((M4 (s.drop i)).take k) + (((M4 (s.drop i)).getD k 0).toNat - 48) := by
 have h1 : s[i + k]? = (M4 (s.drop i))[k]? := by rw [← List.getElem?_drop]; exact takeWhile_pre _ _ h
 have h2 := gD h
 have h3 : b9 ((M4 (s.drop i)).getD k 0) = true := by
  have hm : (M4 (s.drop i)).getD k 0 ∈ (s.drop i).takeWhile b9 := List.mem_of_getElem? h2
  exact List.all_eq_true.1 List.all_takeWhile _ hm
 unfold b9 at h3
 have h3 := A0 h3
 refine ⟨by rw [h1, h2], h3.1, h3.2, ?_⟩
 obtain ⟨hl, he⟩ := List.getElem?_eq_some_iff.1 h2
 rw [List.take_succ_eq_append_getElem hl, decV_snoc, he]
theorem i64sub48 (n : Nat) (h : 48 ≤ n) (h2 : n ≤ 57) : IntKind.i64.wrap (IntKind.u8.wrap ((n : Int) - 48)) = ((n - 48 : Nat) : Int) := by
 have : ∀ k : Fin 10, IntKind.i64.wrap (IntKind.u8.wrap (((k.1 + 48 : Nat) : Int) - 48)) = ((k.1 : Nat) : Int) := by decide
 have h3 := this ⟨n - 48, by omega⟩
 dsimp only at h3
 rw [show n - 48 + 48 = n by omega] at h3
 exact h3
def numR (s : Str) (i : Nat) : List PV := match o7 (s.drop i) with
 | none => [F0 0, F0 0, F9 false]
 | some (n, k) => [F0 n, F0 ((i + k : Nat) : Int), F9 true]
theorem num_facts {s : Str} {n k : Nat} (h : o7 s = some (n, k)) : k = (M4 s).length ∧ n = decV (M4 s) ∧ 0 < k ∧ k ≤ s.length ∧ n ≤ 2147483647 := by
 unfold o7 at h
 split at h
 ·cases h
 ·rename_i h1
  cases h
  have h2 : M4 s ≠ [] := fun e => h1 (.inl e)
  have h3 := List.length_pos_iff.2 h2
  have h4 : (M4 s).length ≤ s.length := by unfold M4; exact (List.takeWhile_sublist b9).length_le
  refine ⟨rfl, rfl, h3, h4, ?_⟩
  by_cases hv : decV (M4 s) ≤ 2147483647
  ·exact hv
  ·exact absurd (.inr (.inr (by omega))) h1
theorem sdigit_ok (s : Str) (i : Nat) : FnOk Tryz.prog 256 [G6 s, F0 i] (fun rs => rs = [F9 (digitAt s i)]) := by
 refine FnOk.intro Tryz.func256 (by decide) Z Z Z Z ?_
 refine k2 ?_
 refine A4 (A2 (A5 Z Z) Z (A6 ?_))
 refine k1 (k2 ?_)
 refine A4 (A2 (A3 Z Z) Z (A2 (A3 Z Z) Z (A2 (F5 Z) Z (A2 (E3 Z Z) Z (A2 (A3 Z Z) Z (B0 Z Z Z Z (fun hg => by rw [hg]; exact A3 Z Z) ?_)))))); refine B0 Z Z Z Z (fun hg => by rw [hg]; exact A3 Z Z) ?_; refine B0 Z Z Z Z (fun hg => by have hq := hg; (try simp at hq); rw [hg]; exact K0 Z Z (by omega) (gD (by omega))) ?_; refine B0 Z Z Z Z (fun hg => by rw [hg]; exact l8 Z Z) ?_; refine A2 (B1 Z (fun h => by first | rfl | (rw [h]; rfl)) (fun h => by first | rfl | (rw [h]; rfl))) Z ?_; refine A2 (A3 Z Z) Z (B0 Z Z Z Z (fun hg => by rw [hg]; exact A3 Z Z) ?_); refine B0 Z Z Z Z (fun hg => by rw [hg]; exact A3 Z Z) ?_; refine B0 Z Z Z Z (fun hg => by have hq := hg; (try simp at hq); rw [hg]; exact K0 Z Z (by omega) (gD (by omega))) ?_; refine B0 Z Z Z Z (fun hg => by rw [hg]; exact x4 Z Z) ?_; refine A2 (B1 Z (fun h => by first | rfl | (rw [h]; rfl)) (fun h => by first | rfl | (rw [h]; rfl))) Z ?_; refine A2 (A5 Z Z) Z (A6 ?_)
 refine k1 (k10 ?_)
 refine B6 (H1 Z Z Z) ?_
 simp only [G2]
 unfold digitAt
 congr 4
 congr 1
 simp; omega
theorem sNumber_ok (s : Str) (i : Nat) (hi : i ≤ s.length) (hs : s.length ≤ 1073741824) : FnOk Tryz.prog 221 [G6 s, F0 i] (fun rs => rs = numR s i) := by
 obtain ⟨ds, hds⟩ : ∃ ds, ds = M4 (s.drop i) := ⟨_, rfl⟩
 have hle := digs_le s i
 have h0 := digit_run s i 0 (Nat.zero_le _)
 rw [Nat.add_zero] at h0
 rw [← hds] at hle h0
 refine FnOk.intro Tryz.func221 (by decide) Z Z Z Z ?_
 refine k2 ?_
 refine A4 (A2 (A5 Z Z) Z (A2 (A5 Z Z) Z (A2 (A5 Z Z) Z (A6 ?_))))
 refine k1 (k2 (k2 ?_))
 refine A4 (A2 (A3 Z Z) Z (A2 (E3 Z Z) Z (A2 (A3 Z Z) Z (B0 Z Z Z Z (fun hg => by rw [hg]; exact A3 Z Z) ?_)))); refine B0 Z Z Z Z (fun hg => by rw [hg]; exact A3 Z Z) ?_; refine B0 Z Z Z Z (fun hg => by have hq := hg; (try simp at hq); rw [hg]; exact G9 (sdigit_ok s i) Z Z) ?_; refine B0 Z Z Z Z (fun hg => by rw [hg]; exact F4 Z) ?_; refine A2 (B1 Z (fun h => by first | rfl | (rw [h]; rfl)) (fun h => by first | rfl | (rw [h]; rfl))) Z ?_; refine A6 ?_
 rw [h0]
 refine k1 ?_
 by_cases hz : ds.length = 0
 ·refine B2 rfl (fun ht => ?_) (fun ht => ?_)
  rotate_left
  ·exfalso; revert ht; simp [hz]
  refine k2 ?_
  refine A4 (A2 (A5 Z Z) Z (A2 (A5 Z Z) Z (A2 (A5 Z Z) Z (A6 ?_))))
  refine k1 (k10 (k11 ?_))
  refine B6 (rs := [F0 0, F0 0, F9 false]) (ret3 Z Z Z Z Z Z Z) ?_
  unfold numR o7
  rw [← hds, if_pos (.inl (List.length_eq_zero_iff.1 hz))]
 refine B2 rfl (fun ht => ?_) (fun ht => ?_)
 ·exfalso; revert ht; simp [show 0 < ds.length by omega]
 refine k5 (k1 (k2 ?_))
 refine A4 (A2 (A3 Z Z) Z (A2 (A5 Z Z) Z (A2 (A5 Z Z) Z (A6 ?_))))
 refine k1 (k2 (k3 ?_))
 refine E2 (X := Nat) (fun k => ([(0, O7 s), (1, C2 i), (7, C2 ((min (decV (ds.take k)) 2147483648 : Nat) : Int)), (8, C2 ((i + k : Nat) : Int))], [])) (fun k => k ≤ ds.length) (fun k => ds.length - k) 0 (Nat.zero_le _) (Sees.of ⟨le1 rfl, le1 rfl, le1 rfl, le1 rfl, trivial⟩ trivial) ?_
 intro k hk
 dsimp only at hk ⊢
 have hrun := digit_run s i k (by rw [← hds]; exact hk)
 rw [← hds] at hrun
 refine k2 (k2 ?_)
 refine A4 (A2 (A3 Z Z) Z (A2 (A3 Z Z) Z (C3 (sdigit_ok s (i + k)) Z Z Z ?_))); rintro _ rfl; refine A6 ?_
 rw [hrun]
 refine k1 ?_
 refine B2 rfl (fun ht => ?_) (fun ht => ?_)
 ·have hlt : k < ds.length := A0 ht
  obtain ⟨g1, g2, g3, g4⟩ := digit_get (s := s) (i := i) (k := k) (by rw [← hds]; exact hlt)
  rw [← hds] at g1 g2 g3 g4
  obtain ⟨c, hc⟩ : ∃ c, c = ds.getD k 0 := ⟨_, rfl⟩
  rw [← hc] at g1 g2 g3 g4
  obtain ⟨v, hv⟩ : ∃ v, v = min (decV (ds.take k)) 2147483648 := ⟨_, rfl⟩
  have hvb : v ≤ 2147483648 := by omega
  have hnew : min (decV (ds.take (k + 1))) 2147483648 = min (10 * v + (c.toNat - 48)) 2147483648 := by rw [g4]; omega
  rw [← hv]
  have hsub := i64sub48 c.toNat g2 g3
  refine k5 (k1 (k2 (k3 ?_)))
  refine A4 (A2 (A3 Z Z) Z (A2 (n_mul Z Z (by omega)) Z (A2 (A3 Z Z) Z (A2 (A3 Z Z) Z (A2 (K0 Z Z (by omega) g1) Z (A2 (n_sub_w Z Z) Z (A2 (S9 Z) Z (A2 (C0 Z Z (by (rw [hsub]; omega))) Z ?_)))))))); refine A2 (n_min Z Z) Z (A2 (A5 Z Z) Z (A6 ?_))
  refine k4 (k1 ?_)
  refine A4 (A2 (A3 Z Z) Z (A2 (C0 Z Z (by omega)) Z (A2 (A5 Z Z) Z (A6 ?_))))
  refine k1 ?_
  refine ⟨k + 1, hlt, by omega, ?_⟩
  rw [hnew]
  refine Sees.of ⟨⟨_, rfl, .same _⟩, ⟨_, rfl, .same _⟩, ⟨_, rfl, .eq ?_⟩, ⟨_, rfl, .eq ?_⟩, trivial⟩ trivial
  ·rw [hsub]
   congr 6
   split <;> omega
  ·congr 6
 ·have hk' : k = ds.length := by have : ¬ k < ds.length := A1 ht; omega
  subst hk'
  rw [List.take_length]
  have hv0 : i < s.length := by omega
  refine k6 (k2 (k2 ?_))
  refine A4 (A2 (A3 Z Z) Z (A2 (N4 Z Z) Z (A2 (A3 Z Z) Z (B0 Z Z Z Z (fun hg => by rw [hg]; exact A3 Z Z) ?_)))); refine B0 Z Z Z Z (fun hg => by rw [hg]; exact A3 Z Z) ?_; refine B0 Z Z Z Z (fun hg => by have hq := hg; (try simp at hq); rw [hg]; exact K0 Z Z (by omega) (gD hv0)) ?_; refine B0 Z Z Z Z (fun hg => by rw [hg]; exact I8 Z Z) ?_; refine B0 Z Z Z Z (fun hg => by rw [hg]; exact A3 Z Z) ?_; refine L6 Z Z Z (.gd (.val _)) Z (fun hg => by obtain ⟨hg1, hg2⟩ := W7 hg; (try rw [hg1]); (try rw [hg2]); exact A3 Z Z) ?_; refine L6 Z Z Z (.gd (.val _)) Z (fun hg => by obtain ⟨hg1, hg2⟩ := W7 hg; (try rw [hg1]); (try rw [hg2]); exact A3 Z Z) ?_; refine L6 Z Z Z (.gd (.val _)) Z (fun hg => by have hq := hg; (try simp at hq); obtain ⟨hg1, hg2⟩ := W7 hg; (try rw [hg1]); (try rw [hg2]); exact C0 Z Z (by omega)) ?_; refine L6 Z Z Z (.gd (.val _)) Z (fun hg => by obtain ⟨hg1, hg2⟩ := W7 hg; (try rw [hg1]); (try rw [hg2]); exact N4 Z Z) ?_; refine B0 Z Z Z Z (fun hg => by rw [hg]; exact B1 Z (fun h => by first | rfl | (rw [h]; rfl)) (fun h => by first | rfl | (rw [h]; rfl))) ?_; refine A2 (B1 Z (fun h => by first | rfl | (rw [h]; rfl)) (fun h => by first | rfl | (rw [h]; rfl))) Z ?_; refine A6 ?_
  refine k1 ?_
  have hd0 : (s.drop i).head? = some (s.getD i 0) := by rw [List.head?_drop, gD hv0]
  simp only [G2, or_pick]
  have hbad : (M4 (s.drop i) = [] ∨ ((s.drop i).head? = some 48 ∧ 1 < (M4 (s.drop i)).length) ∨ 2147483647 < decV (M4 (s.drop i))) ↔ (2147483647 < ((min (decV ds) 2147483648 : Nat) : Int) ∨ (((s.getD i 0).toNat : Int) = 48 ∧ (i : Int) + 1 < ((i + ds.length : Nat) : Int))) := by
   rw [← hds, hd0]
   have e1 : ds ≠ [] := fun e => hz (by rw [e]; rfl)
   have e2 : (some (s.getD i 0) = some 48) ↔ ((s.getD i 0).toNat : Int) = 48 := by
    rw [Option.some.injEq, ← UInt8.toNat_inj]
    have : (48 : UInt8).toNat = 48 := rfl
    omega
   simp only [e1, false_or, e2]
   omega
  refine B2 rfl (fun ht => ?_) (fun ht => ?_)
  ·have h1 := A0 ht
   refine k2 ?_
   refine A4 (A2 (A5 Z Z) Z (A2 (A5 Z Z) Z (A2 (A5 Z Z) Z (A6 ?_))))
   refine k1 (k10 (k11 ?_))
   refine B6 (rs := [F0 0, F0 0, F9 false]) (ret3 Z Z Z Z Z Z Z) ?_
   unfold numR o7
   rw [if_pos (hbad.2 (by first | exact h1 | simpa using h1))]
  ·have h1 := A1 ht
   have h2 : ¬ (M4 (s.drop i) = [] ∨ ((s.drop i).head? = some 48 ∧ 1 < (M4 (s.drop i)).length) ∨ 2147483647 < decV (M4 (s.drop i))) := fun hh => h1 (by first | exact hbad.1 hh | simpa using hbad.1 hh)
   refine k5 (k1 (k2 ?_))
   refine A4 (A2 (A3 Z Z) Z (A2 (A3 Z Z) Z (A2 (A5 Z Z) Z (A2 (A5 Z Z) Z (A2 (A5 Z Z) Z (A6 ?_))))))
   refine k1 (k10 ?_)
   refine B6 (rs := [F0 ((min (decV ds) 2147483648 : Nat) : Int), F0 ((i + ds.length : Nat) : Int), F9 true]) (ret3 Z Z Z Z Z Z Z) ?_
   unfold numR o7
   rw [if_neg h2, ← hds]
   have h3 : decV ds ≤ 2147483647 := by
    rw [← hds] at h2
    by_cases hv : decV ds ≤ 2147483647
    ·exact hv
    ·exact absurd (.inr (.inr (by omega))) h2
   rw [show min (decV ds) 2147483648 = decV ds by omega]
def rngR (s : Str) (i : Nat) : List PV := match rngAt (s.drop i) with
 | none => [F0 0, F0 0, F0 0, F9 false]
 | some (a, n, k) => [F0 a, F0 n, F0 ((i + k : Nat) : Int), F9 true]
theorem numR_some {s : Str} {i n k : Nat} (h : o7 (s.drop i) = some (n, k)) : numR s i = [F0 n, F0 ((i + k : Nat) : Int), F9 true] := by unfold numR; rw [h]
theorem numR_none {s : Str} {i : Nat} (h : o7 (s.drop i) = none) : numR s i = [F0 0, F0 0, F9 false] := by unfold numR; rw [h]
theorem sRange_ok (s : Str) (i : Nat) (hi : i ≤ s.length) (hs : s.length ≤ 1073741824) : FnOk Tryz.prog 258 [G6 s, F0 i] (fun rs => rs = rngR s i) := by
 have hc := sNumber_ok s i hi hs
 cases h1 : o7 (s.drop i) with
 | none =>
  rw [numR_none h1] at hc
  refine FnOk.intro Tryz.func258 (by decide) Z Z Z Z ?_
  refine k2 ?_
  refine A4 (A2 (A5 Z Z) Z (A2 (A5 Z Z) Z (A2 (A5 Z Z) Z (A2 (A5 Z Z) Z (A6 ?_)))))
  refine k1 (k2 ?_)
  refine A4 (A2 (A3 Z Z) Z (A2 (A3 Z Z) Z (C3 (hc) Z Z Z ?_))); rintro _ rfl; refine A2 (A3 Z Z) Z (A2 (B3 Z Z) Z (A2 (B3 Z Z) Z (A2 (B3 Z Z) Z (A2 (A5 Z Z) Z (A2 (A5 Z Z) Z (A2 (A5 Z Z) Z (A6 ?_)))))))
  refine k1 (k2 (k2 ?_))
  refine A4 (A2 (A3 Z Z) Z (A2 (F4 Z) Z (A6 ?_)))
  refine k1 ?_
  refine B2 rfl (fun ht => ?_) (fun ht => ?_)
  ·refine k2 ?_
   refine A4 (A2 (A5 Z Z) Z (A2 (A5 Z Z) Z (A2 (A5 Z Z) Z (A2 (A5 Z Z) Z (A6 ?_)))))
   refine k1 (k10 (k11 ?_))
   exact B6 (ret4 rfl rfl rfl rfl rfl rfl rfl rfl rfl) (by unfold rngR rngAt; rw [h1])
  ·cases ht
 | some p =>
  obtain ⟨a, k⟩ := p
  rw [numR_some h1] at hc
  obtain ⟨_, _, hk0, hk1, ha⟩ := num_facts h1
  rw [List.length_drop] at hk1
  have hget : (s.drop i)[k]? = s[i + k]? := by rw [List.getElem?_drop]
  have hdd : (s.drop i).drop (k + 1) = s.drop (i + k + 1) := by rw [List.drop_drop]; rfl
  have hcm2 : decide (((i + k : Nat) : Int) < (s.length : Int) ∧ ((s.getD (i + k) 0).toNat : Int) = 44) = decide (s[i + k]? = some 44) := by
   have : (44 : UInt8).toNat = 44 := rfl
   congr 1
   by_cases hlt : i + k < s.length
   ·rw [gD hlt, Option.some.injEq, ← UInt8.toNat_inj]
    apply propext; constructor <;> intro h <;> omega
   ·rw [List.getElem?_eq_none (by omega)]
    apply propext; constructor <;> intro h
    ·omega
    ·cases h
  have hcase : (s[i + k]? = some 44 ∧ o7 (s.drop (i + k + 1)) = none) ∨ (∃ c e, ((∃ kb, s[i + k]? = some 44 ∧ o7 (s.drop (i + k + 1)) = some (c, kb) ∧ e = k + 1 + kb) ∨ (s[i + k]? ≠ some 44 ∧ c = 1 ∧ e = k)) ∧ i + e ≤ s.length ∧ c ≤ 2147483647 ∧ rngAt (s.drop i) = rngFin (s.drop i) a c e) := by
   by_cases hcm : s[i + k]? = some 44
   ·have hlt := (List.getElem?_eq_some_iff.1 hcm).1
    cases h2 : o7 (s.drop (i + k + 1)) with
    | none => exact .inl ⟨hcm, rfl⟩
    | some q =>
     obtain ⟨c, kb⟩ := q
     obtain ⟨_, _, hk2, hk3, hc2⟩ := num_facts h2
     rw [List.length_drop] at hk3
     refine .inr ⟨c, k + 1 + kb, .inl ⟨kb, hcm, rfl, rfl⟩, by omega, hc2, ?_⟩
     unfold rngAt
     rw [h1]; dsimp only
     rw [hget, if_pos hcm, hdd, h2]
   ·refine .inr ⟨1, k, .inr ⟨hcm, rfl, rfl⟩, by omega, by omega, ?_⟩
    unfold rngAt
    rw [h1]; dsimp only
    rw [hget, if_neg hcm]
  rcases hcase with ⟨hcm, h2⟩ | ⟨c, e, hce, hel, hcb, hfin⟩
  ·have hlt := (List.getElem?_eq_some_iff.1 hcm).1
   have hc2 := sNumber_ok s (i + k + 1) (by omega) hs
   rw [numR_none h2, show ((i + k + 1 : Nat) : Int) = ((i + k : Nat) : Int) + 1 by omega] at hc2
   refine FnOk.intro Tryz.func258 (by decide) Z Z Z Z ?_
   refine k2 ?_
   refine A4 (A2 (A5 Z Z) Z (A2 (A5 Z Z) Z (A2 (A5 Z Z) Z (A2 (A5 Z Z) Z (A6 ?_)))))
   refine k1 (k2 ?_)
   refine A4 (A2 (A3 Z Z) Z (A2 (A3 Z Z) Z (C3 (hc) Z Z Z ?_))); rintro _ rfl; refine A2 (A3 Z Z) Z (A2 (B3 Z Z) Z (A2 (B3 Z Z) Z (A2 (B3 Z Z) Z (A2 (A5 Z Z) Z (A2 (A5 Z Z) Z (A2 (A5 Z Z) Z (A6 ?_)))))))
   refine k1 (k2 (k2 ?_))
   refine A4 (A2 (A3 Z Z) Z (A2 (F4 Z) Z (A6 ?_)))
   refine k1 ?_
   refine B2 rfl (fun ht => ?_) (fun ht => ?_)
   ·cases ht
   refine k5 (k1 (k2 ?_))
   refine A4 (A2 (A5 Z Z) Z (A6 ?_))
   refine k1 (k2 (k2 ?_))
   refine A4 (A2 (A3 Z Z) Z (A2 (A3 Z Z) Z (A2 (F5 Z) Z (A2 (E3 Z Z) Z (A2 (A3 Z Z) Z (B0 Z Z Z Z (fun hg => by rw [hg]; exact A3 Z Z) ?_)))))); refine B0 Z Z Z Z (fun hg => by rw [hg]; exact A3 Z Z) ?_; refine B0 Z Z Z Z (fun hg => by have hq := hg; (try simp at hq); rw [hg]; exact K0 Z Z (by omega) (gD (by omega))) ?_; refine B0 Z Z Z Z (fun hg => by rw [hg]; exact I8 Z Z) ?_; refine A2 (B1 Z (fun h => by first | rfl | (rw [h]; rfl)) (fun h => by first | rfl | (rw [h]; rfl))) Z ?_; refine A6 ?_
   simp only [G2, Int.toNat_natCast]
   rw [hcm2]
   refine k1 ?_
   refine B2 rfl (fun ht => ?_) (fun ht => ?_)
   ·refine k2 ?_
    refine A4 (A2 (A3 Z Z) Z (A2 (A3 Z Z) Z (A2 (C0 Z Z (by omega)) Z (C3 (hc2) Z Z Z ?_)))); rintro _ rfl; refine A2 (A3 Z Z) Z (A2 (B3 Z Z) Z (A2 (B3 Z Z) Z (A2 (B3 Z Z) Z (A2 (A5 Z Z) Z (A2 (A5 Z Z) Z (A2 (A5 Z Z) Z (A6 ?_)))))))
    refine k1 (k2 ?_)
    refine A4 (A2 (A3 Z Z) Z (A2 (F4 Z) Z (A6 ?_)))
    refine k1 ?_
    refine B2 rfl (fun ht => ?_) (fun ht => ?_)
    ·refine k2 ?_
     refine A4 (A2 (A5 Z Z) Z (A2 (A5 Z Z) Z (A2 (A5 Z Z) Z (A2 (A5 Z Z) Z (A6 ?_)))))
     refine k1 (k10 (k11 ?_))
     refine B6 (rs := [F0 0, F0 0, F0 0, F9 false]) (ret4 Z Z Z Z Z Z Z Z Z) ?_
     unfold rngR rngAt
     rw [h1]; dsimp only
     rw [hget, if_pos hcm, hdd, h2]
    ·cases ht
   ·exact absurd hcm (A1 ht)
  ·obtain ⟨st, hst⟩ : ∃ st : Int, st = if 0 < c then (a : Int) - 1 else a := ⟨_, rfl⟩
   have hstb : -1 ≤ st ∧ st ≤ 2147483647 := by rw [hst]; split <;> omega
   have hrc := srange_ok st c (by omega) (by omega)
   refine FnOk.intro Tryz.func258 (by decide) Z Z Z Z ?_
   refine k2 ?_
   refine A4 (A2 (A5 Z Z) Z (A2 (A5 Z Z) Z (A2 (A5 Z Z) Z (A2 (A5 Z Z) Z (A6 ?_)))))
   refine k1 (k2 ?_)
   refine A4 (A2 (A3 Z Z) Z (A2 (A3 Z Z) Z (C3 (hc) Z Z Z ?_))); rintro _ rfl; refine A2 (A3 Z Z) Z (A2 (B3 Z Z) Z (A2 (B3 Z Z) Z (A2 (B3 Z Z) Z (A2 (A5 Z Z) Z (A2 (A5 Z Z) Z (A2 (A5 Z Z) Z (A6 ?_)))))))
   refine k1 (k2 (k2 ?_))
   refine A4 (A2 (A3 Z Z) Z (A2 (F4 Z) Z (A6 ?_)))
   refine k1 ?_
   refine B2 rfl (fun ht => ?_) (fun ht => ?_)
   ·cases ht
   refine k5 (k1 (k2 ?_))
   refine A4 (A2 (A5 Z Z) Z (A6 ?_))
   refine H9 ?_
   refine W6 [(0, O7 s), (1, C2 i), (8, C2 a), (9, C2 ((i + e : Nat) : Int)), (11, C2 c)] [] ?_ ?_
   ·refine k2 ?_
    refine A4 (A2 (A3 Z Z) Z (A2 (A3 Z Z) Z (A2 (F5 Z) Z (A2 (E3 Z Z) Z (A2 (A3 Z Z) Z (B0 Z Z Z Z (fun hg => by rw [hg]; exact A3 Z Z) ?_)))))); refine B0 Z Z Z Z (fun hg => by rw [hg]; exact A3 Z Z) ?_; refine B0 Z Z Z Z (fun hg => by have hq := hg; (try simp at hq); rw [hg]; exact K0 Z Z (by omega) (gD (by omega))) ?_; refine B0 Z Z Z Z (fun hg => by rw [hg]; exact I8 Z Z) ?_; refine A2 (B1 Z (fun h => by first | rfl | (rw [h]; rfl)) (fun h => by first | rfl | (rw [h]; rfl))) Z ?_; refine A6 ?_
    simp only [G2, Int.toNat_natCast]
    rw [hcm2]
    refine k1 ?_
    refine B2 rfl (fun ht => ?_) (fun ht => ?_)
    ·have hcm := A0 ht
     have hlt := (List.getElem?_eq_some_iff.1 hcm).1
     rcases hce with ⟨kb, _, h2, he⟩ | ⟨hn, _⟩
     ·have hc2 := sNumber_ok s (i + k + 1) (by omega) hs
      rw [numR_some h2, show ((i + k + 1 : Nat) : Int) = ((i + k : Nat) : Int) + 1 by omega, show i + k + 1 + kb = i + e by omega] at hc2
      refine k2 ?_
      refine A4 (A2 (A3 Z Z) Z (A2 (A3 Z Z) Z (A2 (C0 Z Z (by omega)) Z (C3 (hc2) Z Z Z ?_)))); rintro _ rfl; refine A2 (A3 Z Z) Z (A2 (B3 Z Z) Z (A2 (B3 Z Z) Z (A2 (B3 Z Z) Z (A2 (A5 Z Z) Z (A2 (A5 Z Z) Z (A2 (A5 Z Z) Z (A6 ?_)))))))
      refine k1 (k2 ?_)
      refine A4 (A2 (A3 Z Z) Z (A2 (F4 Z) Z (A6 ?_)))
      refine k1 ?_
      refine B2 rfl (fun ht => ?_) (fun ht => ?_)
      ·cases ht
      refine k5 (k1 ?_)
      exact Sees.of ⟨le1 rfl, le1 rfl, le1 rfl, le1 rfl, le1 rfl, trivial⟩ trivial
     ·exact absurd hcm hn
    ·have hcm := A1 ht
     rcases hce with ⟨kb, h3, _⟩ | ⟨_, h2, h3⟩
     ·exact absurd h3 hcm
     ·subst h2; subst h3
      refine k5 (k1 ?_)
      exact Sees.of ⟨le1 rfl, le1 rfl, le1 rfl, le1 rfl, le1 rfl, trivial⟩ trivial
   refine W6 [(0, O7 s), (1, C2 i), (8, C2 st), (9, C2 ((i + e : Nat) : Int)), (11, C2 c)] [] ?_ ?_
   ·refine k2 ?_
    refine A4 (A2 (A3 Z Z) Z (A2 (N4 Z Z) Z (A6 ?_)))
    refine k1 ?_
    refine B2 rfl (fun ht => ?_) (fun ht => ?_)
    ·have h3 : (0 : Int) < (c : Int) := A0 ht
     rw [if_pos (by omega)] at hst
     skip
     refine A4 (A2 (A3 Z Z) Z (A2 (I1 Z Z (by omega)) Z (A2 (A5 Z Z) Z (A6 ?_))))
     rw [← hst]
     refine k1 ?_
     exact Sees.of ⟨le1 rfl, le1 rfl, le1 rfl, le1 rfl, le1 rfl, trivial⟩ trivial
    ·have h3 : ¬ (0 : Int) < (c : Int) := A1 ht
     rw [if_neg (by omega)] at hst
     rw [hst]
     refine k5 (k1 ?_)
     exact Sees.of ⟨le1 rfl, le1 rfl, le1 rfl, le1 rfl, le1 rfl, trivial⟩ trivial
   unfold rngFin at hfin
   rw [← hst] at hfin
   refine k2 (k2 ?_)
   refine C7 (by kernel_rfl) (by kernel_rfl) (A8 (A3 Z Z) Z Z (A8 (A3 Z Z) Z Z (A8 (G9 (hrc) Z Z) Z Z (A8 (A3 Z Z) Z Z (A8 (A3 Z Z) Z Z (A8 (A3 Z Z) Z Z (A8 (X7 Z Z Z (by omega) (by omega) (by omega)) Z Z (A8 (l9 Z Z) Z Z (H2 ?_)))))))))
   rw [show ((i : Int)).toNat = i by omega, show (((i + e : Nat) : Int)).toNat - i = e by omega]
   refine k1 ?_
   refine B2 rfl (fun ht => ?_) (fun ht => ?_)
   ·have h3 : ¬ I0 st c = (s.drop i).take e := A0 ht
    refine k2 ?_
    refine A4 (A2 (A5 Z Z) Z (A2 (A5 Z Z) Z (A2 (A5 Z Z) Z (A2 (A5 Z Z) Z (A6 ?_)))))
    refine k1 (k10 (k11 ?_))
    refine B6 (rs := [F0 0, F0 0, F0 0, F9 false]) (ret4 Z Z Z Z Z Z Z Z Z) ?_
    rw [if_neg h3] at hfin
    unfold rngR; rw [hfin]
   ·have h3 : I0 st c = (s.drop i).take e := Decidable.not_not.1 (A1 ht)
    refine k5 (k1 (k2 ?_))
    refine A4 (A2 (A3 Z Z) Z (A2 (A3 Z Z) Z (A2 (A3 Z Z) Z (A2 (A5 Z Z) Z (A2 (A5 Z Z) Z (A2 (A5 Z Z) Z (A2 (A5 Z Z) Z (A6 ?_))))))))
    refine k1 (k10 ?_)
    refine B6 (rs := [F0 st, F0 c, F0 ((i + e : Nat) : Int), F9 true]) (ret4 Z Z Z Z Z Z Z Z Z) ?_
    rw [if_pos h3] at hfin
    unfold rngR; rw [hfin]
abbrev Z7 (s : Str) (i : Nat) : Ob := .box [.p (.v (.string ⟨s.toArray⟩)), .p (.v (.int .i64 (i : Int)))]
abbrev t8 (x : Int) : S1 := .one (.p (.v (.int .u8 x)))
abbrev tBo (b : Bool) : S1 := .one (.p (.v (.bool b)))
def octOk (c : UInt8) : Prop := 48 ≤ c.toNat ∧ c.toNat ≤ 55
def octN (s : Str) (i : Nat) : Nat → Nat
 | 0 => 0
 | q + 1 => 8 * octN s i q + ((s.getD (i + q) 0).toNat - 48)
def O8 (s : Str) (i q : Nat) : Prop := i + q < s.length ∧ octOk (s.getD (i + q) 0)
instance (s : Str) (i q : Nat) : Decidable (O8 s i q) := by unfold O8 octOk; exact inferInstance
def octI (s : Str) (i : Nat) : Option UInt8 := if (O8 s i 0 ∧ O8 s i 1 ∧ O8 s i 2) ∧ octN s i 3 < 256 then some (UInt8.ofNat (octN s i 3)) else none
theorem octI_none {s : Str} {i q : Nat} (hq : q < 3) (h : ¬ O8 s i q) : octI s i = none := by
 unfold octI
 rw [if_neg]
 rintro ⟨⟨h0, h1, h2⟩, _⟩
 rcases (show q = 0 ∨ q = 1 ∨ q = 2 by omega) with rfl | rfl | rfl <;> exact h ‹_›
theorem octN_le {s : Str} {i : Nat} : ∀ q, q ≤ 3 → (∀ p, p < q → O8 s i p) → octN s i q ≤ 8 ^ q - 1
 | 0, _, _ => by simp [octN]
 | q + 1, hq, h => by
  have ih := octN_le q (by omega) (fun p hp => h p (by omega))
  have h1 := (h q (by omega)).2
  unfold octOk at h1
  simp only [octN]
  rcases (show q = 0 ∨ q = 1 ∨ q = 2 by omega) with rfl | rfl | rfl <;> omega
theorem octI_all {s : Str} {i : Nat} (h : ∀ p, p < 3 → O8 s i p) : octI s i = if octN s i 3 < 256 then some (UInt8.ofNat (octN s i 3)) else none := by
 unfold octI
 by_cases hv : octN s i 3 < 256
 ·rw [if_pos ⟨⟨h 0 (by omega), h 1 (by omega), h 2 (by omega)⟩, hv⟩, if_pos hv]
 ·rw [if_neg (fun hh => hv hh.2), if_neg hv]
theorem ob_front {k0 : Nat} {x : Ob} {ob : Obs} (h : D4 ob k0 = some x) : ∀ k o, D4 ((k0, x) :: ob) k = some o → D4 ob k = some o := by
 intro k o hk
 by_cases he : k0 = k
 ·subst he; rw [D9] at hk; cases hk; exact h
 ·rw [C1 he] at hk; exact hk
theorem ob_dup {k0 : Nat} {x y : Ob} {ob : Obs} : ∀ k o, D4 ((k0, x) :: ob) k = some o → D4 ((k0, x) :: (k0, y) :: ob) k = some o := by
 intro k o hk
 by_cases he : k0 = k
 ·subst he; rw [D9] at hk ⊢; exact hk
 ·rw [C1 he] at hk ⊢; rw [C1 he]; exact hk
theorem octal_met {gf : Fr} {ob : Obs} (s : Str) (i : Nat) (hi : i ≤ s.length) (hs : s.length ≤ 1073741824) (h5 : D4 ob 705 = some (Z7 s i)) :
  AL.Met Tryz.prog 286 [.one (.ref 705 0)] gf ob []
   (fun rs ob' => ∃ (x : Int) (b : Bool) (j : Nat), rs = [t8 x, tBo b] ∧ ob' = (705, Z7 s j) :: ob ∧ j ≤ s.length ∧ match octI s i with
    | some c => b = true ∧ x = c.toNat ∧ j = i + 3
    | none => b = false) := by
 refine AL.Met.introH Tryz.func286 (by decide) rfl rfl rfl (fun hH => ?_)
 refine k2 ?_
 refine A4 (A2 (A5 Z Z) Z (A2 (A5 Z Z) Z (A6 ?_)))
 refine k1 (k2 ?_)
 refine A4 (A2 (A5 Z Z) Z (A6 ?_))
 refine k1 (k2 (k2 ?_))
 refine A4 (A2 (A3 Z Z) Z (A6 ?_))
 refine k1 (k3 ?_)
 refine E2 (X := Nat) (fun q => ([(0, .s (.one (.ref 705 0))), (4, C2 (octN s i q : Int)), (5, C2 q)] ++ gf, (705, Z7 s (i + q)) :: ob)) (fun q => q ≤ 3 ∧ ∀ p, p < q → O8 s i p) (fun q => 3 - q) 0 ⟨by omega, by omega⟩ ?_ ?_
 ·exact Sees.tailed ⟨le1 rfl, le1 rfl, le1 rfl, trivial⟩ hH (by repeat (first | exact C6 | refine C5 rfl ?_)) (ob_front h5)
 rintro q ⟨hq, hok⟩
 dsimp only at hq hok ⊢
 have hle := octN_le q hq hok
 have hlen : q = 0 ∨ i + q ≤ s.length := by
  rcases Nat.eq_zero_or_pos q with h | h
  ·exact .inl h
  ·have := (hok (q - 1) (by omega)).1; exact .inr (by omega)
 have hiq : i + q ≤ s.length := by rcases hlen with rfl | h <;> omega
 have h8 : octN s i q ≤ 512 := by rcases (show q = 0 ∨ q = 1 ∨ q = 2 ∨ q = 3 by omega) with rfl | rfl | rfl | rfl <;> omega
 refine k2 ?_
 refine A4 (A2 (E3 Z Z) Z (A6 ?_))
 refine k1 (k2 ?_)
 refine B2 rfl (fun ht => ?_) (fun ht => ?_)
 ·have hlt : q < 3 := by have := A0 ht; omega
  refine k5 (k1 (k2 (k3 (k2 (k2 ?_)))))
  refine C7 (by kernel_rfl) (by kernel_rfl) (A8 (A3 Z Z) Z Z (A8 (B4 Z) Z Z (A8 (A7 Z) Z Z (A8 (A9 Z Z Z) Z Z (A8 (A3 Z Z) Z Z (A8 (B4 Z) Z Z (A8 (A7 Z) Z Z (A8 (A9 Z Z Z) Z Z (A8 (F5 Z) Z Z (A8 (l8 Z Z) Z Z (A8 (A3 Z Z) Z Z (B8 Z Z (fun hg => by rw [hg]; exact A3 Z Z) Z Z ?_)))))))))))); refine B8 Z Z (fun hg => by rw [hg]; exact B4 Z) Z Z ?_; refine B8 Z Z (fun hg => by rw [hg]; exact A7 Z) Z Z ?_; refine B8 Z Z (fun hg => by rw [hg]; exact A9 Z Z Z) Z Z ?_; refine B8 Z Z (fun hg => by rw [hg]; exact A3 Z Z) Z Z ?_; refine B8 Z Z (fun hg => by rw [hg]; exact B4 Z) Z Z ?_; refine B8 Z Z (fun hg => by rw [hg]; exact A7 Z) Z Z ?_; refine B8 Z Z (fun hg => by rw [hg]; exact A9 Z Z Z) Z Z ?_; refine B8 Z Z (fun hg => by have hq := hg; (try simp at hq); rw [hg]; exact K0 Z Z (by omega) (gD (by omega))) Z Z ?_; refine B8 Z Z (fun hg => by rw [hg]; exact E3 Z Z) Z Z ?_; refine A8 (B1 Z (fun h => by first | rfl | (rw [h]; rfl)) (fun h => by first | rfl | (rw [h]; rfl))) Z Z ?_; refine A8 (A3 Z Z) Z Z (B8 Z Z (fun hg => by rw [hg]; exact A3 Z Z) Z Z ?_); refine B8 Z Z (fun hg => by rw [hg]; exact B4 Z) Z Z ?_; refine B8 Z Z (fun hg => by rw [hg]; exact A7 Z) Z Z ?_; refine B8 Z Z (fun hg => by rw [hg]; exact A9 Z Z Z) Z Z ?_; refine B8 Z Z (fun hg => by rw [hg]; exact A3 Z Z) Z Z ?_; refine B8 Z Z (fun hg => by rw [hg]; exact B4 Z) Z Z ?_; refine B8 Z Z (fun hg => by rw [hg]; exact A7 Z) Z Z ?_; refine B8 Z Z (fun hg => by rw [hg]; exact A9 Z Z Z) Z Z ?_; refine B8 Z Z (fun hg => by have hq := hg; (try simp at hq); rw [hg]; exact K0 Z Z (by omega) (gD (by omega))) Z Z ?_; refine B8 Z Z (fun hg => by rw [hg]; exact N4 Z Z) Z Z ?_; refine A8 (B1 Z (fun h => by first | rfl | (rw [h]; rfl)) (fun h => by first | rfl | (rw [h]; rfl))) Z Z ?_; refine H2 ?_
  refine k1 ?_
  simp only [or_pick, Int.toNat_natCast]
  have hsnd : decide ((((s.length : Int) ≤ ((i + q : Nat) : Int)) ∨ ((s.getD (i + q) 0).toNat : Int) < 48) ∨ (55 : Int) < ((s.getD (i + q) 0).toNat : Int)) = decide (¬ O8 s i q) := by
   congr 1
   unfold O8 octOk
   apply propext; constructor
   ·intro h1 h2; omega
   ·intro h1
    by_cases h3 : i + q < s.length
    ·by_cases h4 : 48 ≤ (s.getD (i + q) 0).toNat
     ·by_cases h5 : (s.getD (i + q) 0).toNat ≤ 55
      ·exact absurd ⟨h3, h4, h5⟩ h1
      ·exact .inr (by omega)
     ·exact .inl (.inr (by omega))
    ·exact .inl (.inl (by omega))
  rw [hsnd]
  refine B2 rfl (fun ht => ?_) (fun ht => ?_)
  ·have hbad : ¬ O8 s i q := A0 ht
   refine k2 ?_
   refine A4 (A2 (A5 Z Z) Z (A2 (A5 Z Z) Z (A6 ?_)))
   refine k1 (k10 (k11 (k12 (k11 (k11 (k12 (k11 ?_)))))))
   refine G1 (rets2 rfl rfl rfl) (by repeat (first | exact C6 | refine C5 rfl ?_ | refine D2 _ ?_)) (fun _ _ h => h) ⟨0, false, i + q, rfl, rfl, hiq, ?_⟩
   rw [octI_none hlt hbad]
  ·have hgood : O8 s i q := Decidable.not_not.1 (A1 ht)
   obtain ⟨g1, g2, g3⟩ := hgood
   have hgood : O8 s i q := ⟨g1, g2, g3⟩
   have hsub := i64sub48 (s.getD (i + q) 0).toNat g2 (by omega)
   refine k5 (k1 (k2 ?_))
   have hv : s[i + q]? = some (s.getD (i + q) 0) := gD g1
   refine C7 (by kernel_rfl) (by kernel_rfl) (A8 (A3 Z Z) Z Z (A8 (n_mul Z Z (by omega)) Z Z (A8 (A3 Z Z) Z Z (A8 (B4 Z) Z Z (A8 (A7 Z) Z Z (A8 (A9 Z Z Z) Z Z (A8 (A3 Z Z) Z Z (A8 (B4 Z) Z Z (A8 (A7 Z) Z Z (A8 (A9 Z Z Z) Z Z (A8 (K0 Z Z (by omega) hv) Z Z (A8 (n_sub_w Z Z) Z Z (A8 (S9 Z) Z Z (A8 (C0 Z Z (by (rw [hsub]; omega))) Z Z ?_)))))))))))))); refine A8 (A5 Z Z) Z Z (H2 ?_)
   rw [hsub]
   refine k1 ?_
   refine A4 (A2 (A3 Z Z) Z (A2 (B4 Z) Z (A2 (A7 Z) Z (A2 (A9 Z Z Z) Z (A2 (C0 Z Z (by omega)) Z (A2 (B4 Z) Z (A2 (A7 Z) Z (E9 (B7 TySz.out Z Z Z Z Z Z) (A6 ?_)))))))))
   refine k4 (k1 ?_)
   refine A4 (A2 (C0 Z Z (by omega)) Z (A2 (A3 Z Z) Z (A6 ?_)))
   refine k1 ?_
   refine ⟨q + 1, ⟨by omega, fun p hp => ?_⟩, by omega, ?_⟩
   ·by_cases hpq : p = q
    ·rw [hpq]; exact hgood
    ·exact hok p (by omega)
   rw [show ((octN s i (q + 1) : Nat) : Int) = 8 * ((octN s i q : Nat) : Int) + (((s.getD (i + q) 0).toNat - 48 : Nat) : Int) by simp only [octN]; omega, show Z7 s (i + (q + 1)) = .box [.p (.v (.string ⟨s.toArray⟩)), .p (.v (.int .i64 (((i + q : Nat) : Int) + 1)))] by unfold Z7; congr 6]
   exact Sees.tailed ⟨le1 rfl, le1 rfl, le1 rfl, trivial⟩ hH (by repeat (first | exact C6 | refine C5 rfl ?_)) ob_dup
 ·have hq3 : q = 3 := by have := A1 ht; omega
  subst hq3
  refine k6 (k2 ?_)
  refine A4 (A2 (A3 Z Z) Z (A2 (S9 Z) Z (A2 (A3 Z Z) Z (A2 (E3 Z Z) Z (A2 (A5 Z Z) Z (A2 (A5 Z Z) Z (A6 ?_)))))))
  refine k1 (k10 ?_)
  refine G1 (rets2 rfl rfl rfl) (by repeat (first | exact C6 | refine C5 rfl ?_ | refine D2 _ ?_)) (fun _ _ h => h) ⟨_, _, i + 3, rfl, rfl, hiq, ?_⟩
  rw [octI_all hok]
  by_cases hv : octN s i 3 < 256
  ·rw [if_pos hv]
   refine ⟨decide_eq_true (by omega), ?_, rfl⟩
   rw [UInt8.toNat_ofNat']
   have : ∀ n : Fin 256, IntKind.u8.wrap ((n.1 : Nat) : Int) = ((n.1 % 2 ^ 8 : Nat) : Int) := by decide
   exact this ⟨_, hv⟩
  ·rw [if_neg hv]
   exact decide_eq_false (by omega)
def escI (s : Str) (i : Nat) : Option (UInt8 × Nat) := if i < s.length then
  (if (s.getD i 0).toNat = 34 ∨ (s.getD i 0).toNat = 92 then some (s.getD i 0, i + 1) else if (s.getD i 0).toNat = 110 then some (10, i + 1) else if (s.getD i 0).toNat = 116 then some (9, i + 1) else (octI s i).map fun x => (x, i + 3))
 else none
theorem escI_eq (s : Str) (i : Nat) : escI s i = (escAt (s.drop i)).map fun p => (p.1, i + p.2) := by
 unfold escI
 by_cases hi : i < s.length
 ·rw [if_pos hi]
  have h0 : (s.drop i)[0]? = some (s.getD i 0) := by rw [List.getElem?_drop]; exact gD hi
  have hg : ∀ q, (s.drop i)[q]? = s[i + q]? := fun q => List.getElem?_drop
  obtain ⟨d, r, hdr⟩ : ∃ d r, s.drop i = d :: r := by
   cases h : s.drop i with
   | nil => rw [h] at h0; cases h0
   | cons d r => exact ⟨d, r, rfl⟩
  rw [hdr] at h0 hg ⊢
  have hd : s.getD i 0 = d := by simpa using h0.symm
  rw [hd]
  simp only [escAt]
  by_cases c1 : d.toNat = 34 ∨ d.toNat = 92
  ·rw [if_pos c1, if_pos c1]; rfl
  ·rw [if_neg c1, if_neg c1]
   by_cases c2 : d.toNat = 110
   ·rw [if_pos c2, if_pos c2]; rfl
   ·rw [if_neg c2, if_neg c2]
    by_cases c3 : d.toNat = 116
    ·rw [if_pos c3, if_pos c3]; rfl
    ·rw [if_neg c3, if_neg c3]
     cases r with
     | nil =>
      have : ¬ O8 s i 1 := fun h => by have := h.1; have h2 := hg 1; rw [List.getElem?_eq_getElem this] at h2; simp at h2
      rw [octI_none (q := 1) (by omega) this]; rfl
     | cons e r2 =>
      cases r2 with
      | nil =>
       have : ¬ O8 s i 2 := fun h => by have := h.1; have h2 := hg 2; rw [List.getElem?_eq_getElem this] at h2; simp at h2
       rw [octI_none (q := 2) (by omega) this]; rfl
      | cons f r3 =>
       have h1 := hg 1
       have h2 := hg 2
       simp only [List.getElem?_cons_succ, List.getElem?_cons_zero] at h1 h2
       have l1 := (List.getElem?_eq_some_iff.1 h1.symm).1
       have l2 := (List.getElem?_eq_some_iff.1 h2.symm).1
       have e1 : s.getD (i + 1) 0 = e := by have := gD l1; rw [← h1] at this; exact (Option.some.inj this).symm
       have e2 : s.getD (i + 2) 0 = f := by have := gD l2; rw [← h2] at this; exact (Option.some.inj this).symm
       have hV : octI s i = octV d e f := by
        unfold octI octV O8 octOk
        simp only [octN, Nat.add_zero, hd, e1, e2]
        by_cases hc : (((((d.toNat < 48 ∨ 55 < d.toNat) ∨ e.toNat < 48) ∨ 55 < e.toNat) ∨ f.toNat < 48) ∨ 55 < f.toNat) ∨ 256 ≤ 64 * (d.toNat - 48) + 8 * (e.toNat - 48) + (f.toNat - 48)
        ·rw [if_pos hc, if_neg (by omega)]
        ·rw [if_neg hc, if_pos (by omega)]
         congr 2; omega
       rw [hV]
       show (octV d e f).map _ = ((octV d e f).map _).map _
       rw [Option.map_map]; rfl
 ·rw [if_neg hi, List.drop_eq_nil_of_le (by omega)]; rfl
theorem escI_le {s : Str} {i j : Nat} {x : UInt8} (h : escI s i = some (x, j)) : i < j ∧ j ≤ s.length := by
 rw [escI_eq] at h
 cases he : escAt (s.drop i) with
 | none => rw [he] at h; cases h
 | some p =>
  obtain ⟨y, k⟩ := p
  rw [he] at h
  simp at h
  have := escAt_pos he
  rw [List.length_drop] at this
  omega
theorem escape_met {gf : Fr} {ob : Obs} (s : Str) (i : Nat) (hi : i ≤ s.length) (hs : s.length ≤ 1073741824) (h5 : D4 ob 705 = some (Z7 s i)) :
  AL.Met Tryz.prog 280 [.one (.ref 705 0)] gf ob []
   (fun rs ob' => ∃ (x : Int) (b : Bool) (j : Nat), rs = [t8 x, tBo b] ∧ ob' = (705, Z7 s j) :: ob ∧ j ≤ s.length ∧ match escI s i with
    | some (c, j') => b = true ∧ x = c.toNat ∧ j = j'
    | none => b = false) := by
 refine AL.Met.introH Tryz.func280 (by decide) rfl rfl rfl (fun hH => ?_)
 refine F8 (fr' := [(0, .s (.one (.ref 705 0)))] ++ gf) (ob' := (705, Z7 s i) :: ob) (Sees.tailed ⟨le1 rfl, trivial⟩ hH (by repeat (first | exact C6 | refine C5 rfl ?_)) (ob_front h5)) ?_
 refine k2 ?_
 refine A4 (A2 (A5 Z Z) Z (A2 (A5 Z Z) Z (A6 ?_)))
 refine k1 (k2 (k2 ?_))
 refine C7 (by kernel_rfl) (by kernel_rfl) (A8 (A3 Z Z) Z Z (A8 (B4 Z) Z Z (A8 (A7 Z) Z Z (A8 (A9 Z Z Z) Z Z (A8 (A3 Z Z) Z Z (A8 (B4 Z) Z Z (A8 (A7 Z) Z Z (A8 (A9 Z Z Z) Z Z (A8 (F5 Z) Z Z (A8 (l8 Z Z) Z Z (H2 ?_)))))))))))
 refine k1 ?_
 refine B2 rfl (fun ht => ?_) (fun ht => ?_)
 ·have h1 : ¬ i < s.length := by have := A0 ht; omega
  refine k2 ?_
  refine A4 (A2 (A5 Z Z) Z (A2 (A5 Z Z) Z (A6 ?_)))
  refine k1 (k10 (k11 ?_))
  refine G1 (rets2 rfl rfl rfl) (by repeat (first | exact C6 | refine C5 rfl ?_ | refine D2 _ ?_)) (fun _ _ h => h) ⟨0, false, i, rfl, rfl, hi, ?_⟩
  unfold escI; rw [if_neg h1]
 have hlt : i < s.length := by have := A1 ht; omega
 obtain ⟨c, hc⟩ : ∃ c, c = s.getD i 0 := ⟨_, rfl⟩
 have hv : s[i]? = some c := by rw [hc]; exact gD hlt
 have hE : escI s i = (if c.toNat = 34 ∨ c.toNat = 92 then some (c, i + 1) else if c.toNat = 110 then some (10, i + 1) else if c.toNat = 116 then some (9, i + 1) else (octI s i).map fun x => (x, i + 3)) := by unfold escI; rw [if_pos hlt, ← hc]
 refine k5 (k1 (k2 (k2 ?_)))
 refine C7 (by kernel_rfl) (by kernel_rfl) (A8 (A3 Z Z) Z Z (A8 (B4 Z) Z Z (A8 (A7 Z) Z Z (A8 (A9 Z Z Z) Z Z (A8 (A3 Z Z) Z Z (A8 (B4 Z) Z Z (A8 (A7 Z) Z Z (A8 (A9 Z Z Z) Z Z (A8 (K0 Z Z (by omega) hv) Z Z (A8 (A5 Z Z) Z Z (H2 ?_)))))))))))
 refine k1 (k2 ?_)
 refine A4 (A2 (A3 Z Z) Z (A6 ?_))
 refine H9 ?_
 refine c_block ?_
 refine W6 ([(0, .s (.one (.ref 705 0))), (4, .s (t8 c.toNat)), (24, .s (t8 c.toNat)), (25, J9 (.bool (decide (c.toNat = 34 ∨ c.toNat = 92))))] ++ gf) ((705, Z7 s i) :: ob) ?_ ?_
 ·refine k2 ?_
  refine A4 (A2 (I8 Z Z) Z (A2 (A5 Z Z) Z (A6 ?_)))
  refine k1 ?_
  refine B2 rfl (fun ht => ?_) (fun ht => ?_)
  ·have h1 : (c.toNat : Int) = 34 := A0 ht
   refine k5 (k1 ?_)
   exact Sees.tailed ⟨le1 rfl, le1 rfl, le1 rfl, ⟨_, rfl, .eq (by congr 4; apply propext; constructor <;> intro _ <;> omega)⟩, trivial⟩ hH (by repeat (first | exact C6 | refine C5 rfl ?_)) (fun _ _ h => h)
  ·have h1 : ¬ (c.toNat : Int) = 34 := A1 ht
   skip
   refine A4 (A2 (I8 Z Z) Z (A2 (A5 Z Z) Z (A6 ?_)))
   refine k1 ?_
   exact Sees.tailed ⟨le1 rfl, le1 rfl, le1 rfl, ⟨_, rfl, .eq (by congr 4; apply propext; constructor <;> intro _ <;> omega)⟩, trivial⟩ hH (by repeat (first | exact C6 | refine C5 rfl ?_)) (fun _ _ h => h)
 skip
 refine B2 rfl (fun ht => ?_) (fun ht => ?_)
 ·have h1 := A0 ht
  rw [if_pos h1] at hE
  refine k2 ?_
  refine A4 (A2 (A3 Z Z) Z (A2 (B4 Z) Z (A2 (A7 Z) Z (A2 (A9 Z Z Z) Z (A2 (C0 Z Z (by omega)) Z (A2 (B4 Z) Z (A2 (A7 Z) Z (E9 (B7 TySz.out Z Z Z Z Z Z) (A6 ?_)))))))))
  refine k1 (k2 ?_)
  refine A4 (A2 (A3 Z Z) Z (A2 (A5 Z Z) Z (A2 (A5 Z Z) Z (A6 ?_))))
  refine k1 (k10 (k12 (k11 ?_)))
  refine G1 (rets2 rfl rfl rfl) (by repeat (first | exact C6 | refine C5 rfl ?_ | refine D2 _ ?_)) ob_dup ⟨c.toNat, true, i + 1, rfl, rfl, hlt, ?_⟩
  rw [hE]; exact ⟨rfl, rfl, rfl⟩
 have h1 := A1 ht
 rw [if_neg h1] at hE
 refine k2 ?_
 refine A4 (A2 (I8 Z Z) Z (A2 (A5 Z Z) Z (A6 ?_)))
 refine k1 ?_
 refine B2 rfl (fun ht => ?_) (fun ht => ?_)
 ·have h2 : (c.toNat : Int) = 110 := A0 ht
  rw [if_pos (by omega)] at hE
  refine k2 ?_
  refine A4 (A2 (A3 Z Z) Z (A2 (B4 Z) Z (A2 (A7 Z) Z (A2 (A9 Z Z Z) Z (A2 (C0 Z Z (by omega)) Z (A2 (B4 Z) Z (A2 (A7 Z) Z (E9 (B7 TySz.out Z Z Z Z Z Z) (A6 ?_)))))))))
  refine k1 (k2 ?_)
  refine A4 (A2 (A5 Z Z) Z (A2 (A5 Z Z) Z (A6 ?_)))
  refine k1 (k10 (k12 (k11 ?_)))
  refine G1 (rets2 rfl rfl rfl) (by repeat (first | exact C6 | refine C5 rfl ?_ | refine D2 _ ?_)) ob_dup ⟨10, true, i + 1, rfl, rfl, hlt, ?_⟩
  rw [hE]; exact ⟨rfl, rfl, rfl⟩
 have h2 : ¬ (c.toNat : Int) = 110 := A1 ht
 rw [if_neg (by omega)] at hE
 refine k2 ?_
 refine A4 (A2 (I8 Z Z) Z (A2 (A5 Z Z) Z (A6 ?_)))
 refine k1 ?_
 refine B2 rfl (fun ht => ?_) (fun ht => ?_)
 ·have h3 : (c.toNat : Int) = 116 := A0 ht
  rw [if_pos (by omega)] at hE
  refine k2 ?_
  refine A4 (A2 (A3 Z Z) Z (A2 (B4 Z) Z (A2 (A7 Z) Z (A2 (A9 Z Z Z) Z (A2 (C0 Z Z (by omega)) Z (A2 (B4 Z) Z (A2 (A7 Z) Z (E9 (B7 TySz.out Z Z Z Z Z Z) (A6 ?_)))))))))
  refine k1 (k2 ?_)
  refine A4 (A2 (A5 Z Z) Z (A2 (A5 Z Z) Z (A6 ?_)))
  refine k1 (k10 (k12 (k11 ?_)))
  refine G1 (rets2 rfl rfl rfl) (by repeat (first | exact C6 | refine C5 rfl ?_ | refine D2 _ ?_)) ob_dup ⟨9, true, i + 1, rfl, rfl, hlt, ?_⟩
  rw [hE]; exact ⟨rfl, rfl, rfl⟩
 have h3 : ¬ (c.toNat : Int) = 116 := A1 ht
 rw [if_neg (by omega)] at hE
 refine k5 (k2 ?_)
 refine A4 (A2 (A3 Z Z) Z (R5 (octal_met s i hi hs Z) Z Z Z ?_)); rintro _ _ ⟨x, b, j, rfl, rfl, hj, ho⟩; refine A2 (B3 Z Z) Z (A2 (B3 Z Z) Z (A2 (A5 Z Z) Z (A2 (A5 Z Z) Z (A6 ?_))))
 refine k1 (k10 ?_)
 refine G1 (rets2 rfl rfl rfl) (by repeat (first | exact C6 | refine C5 rfl ?_ | refine D2 _ ?_)) ob_dup ⟨x, b, j, rfl, rfl, hj, ?_⟩
 rw [hE]
 cases hoc : octI s i with
 | none => rw [hoc] at ho; exact ho
 | some y => rw [hoc] at ho; exact ho
def goOn (s acc : Str) : Option (UInt8 × Nat) → Option (Str × Nat)
 | none => none
 | some (x, j) => M5 s j (acc ++ [x])
theorem wordGo_step {s : Str} {i : Nat} {acc : Str} (h : i < s.length) : M5 s i acc = if (s.getD i 0).toNat = 34 then some (acc, i + 1) else if (s.getD i 0).toNat = 92 then goOn s acc (escI s (i + 1)) else M5 s (i + 1) (acc ++ [s.getD i 0]) := by
 have hg : s[i] = s.getD i 0 := by have := gD h; rw [List.getElem?_eq_getElem h] at this; exact Option.some.inj this
 rw [M5, dif_pos h, hg, escI_eq]
 by_cases c1 : (s.getD i 0).toNat = 34
 ·rw [if_pos c1, if_pos c1]
 ·rw [if_neg c1, if_neg c1]
  by_cases c2 : (s.getD i 0).toNat = 92
  ·rw [if_pos c2, if_pos c2]
   split
   ·rename_i he; rw [he]; rfl
   ·rename_i x k he; rw [he]; rfl
  ·rw [if_neg c2, if_neg c2]
theorem wordGo_end {s : Str} {i : Nat} {acc : Str} (h : s.length ≤ i) : M5 s i acc = none := by rw [M5, dif_neg (by omega)]
theorem quoted_met {gf : Fr} (s : Str) (i : Nat) (hi : i ≤ s.length) (hs : s.length ≤ 1073741824) :
  AL.Met Tryz.prog 272 [.one (.ref 705 0)] gf [(705, Z7 s i)] [706]
   (fun rs ob' => ∃ (w : Str) (b : Bool) (j : Nat), rs = [.one (.p (.v (.string ⟨w.toArray⟩))), tBo b] ∧ ob' = [(705, Z7 s j)] ∧ j ≤ s.length ∧ match M5 s i [] with
    | some (w', j') => b = true ∧ w = w' ∧ j = j'
    | none => b = false) := by
 refine AL.Met.introH Tryz.func272 (by decide) rfl rfl rfl (fun hH => ?_)
 refine k2 ?_
 refine A4 (A2 (A5 Z Z) Z (A2 (A5 Z Z) Z (A6 ?_)))
 refine k1 (k2 ?_)
 refine A4 (C9 (e_adoptG 706 _ u8C Z Z) Z (A6 ?_))
 refine k1 (k2 (k3 ?_))
 refine E2 (X := Nat × Str) (fun z => ([(0, .s (.one (.ref 705 0))), (4, .s (.one (.mut 706)))] ++ Fr.forget 706 gf, [(706, .grow 5 UInt8 1 u8C z.2), (705, Z7 s z.1)])) (fun z => z.1 ≤ s.length ∧ z.2.length ≤ z.1 ∧ M5 s z.1 z.2 = M5 s i []) (fun z => s.length - z.1) (i, []) ⟨hi, Nat.zero_le _, rfl⟩ ?_ ?_
 ·exact Sees.tailed ⟨le1 rfl, le1 rfl, trivial⟩ (L8 hH) (by repeat (first | exact C6 | refine C5 rfl ?_ | refine J0 _ ?_ | refine D2 _ ?_)) (ObIn.spec (ob' := [(706, _), (705, _)]) ⟨rfl, rfl, trivial⟩)
 rintro ⟨p, acc⟩ ⟨hp, hal, hgo⟩
 dsimp only at hp hal hgo ⊢
 refine k2 (k2 ?_)
 refine C7 (by kernel_rfl) (by kernel_rfl) (A8 (A3 Z Z) Z Z (A8 (B4 Z) Z Z (A8 (A7 Z) Z Z (A8 (A9 Z Z Z) Z Z (A8 (A3 Z Z) Z Z (A8 (B4 Z) Z Z (A8 (A7 Z) Z Z (A8 (A9 Z Z Z) Z Z (A8 (F5 Z) Z Z (A8 (E3 Z Z) Z Z (H2 ?_)))))))))))
 refine k1 ?_
 refine B2 rfl (fun ht => ?_) (fun ht => ?_)
 ·have hlt : p < s.length := by have := A0 ht; omega
  obtain ⟨c, hc⟩ : ∃ c, c = s.getD p 0 := ⟨_, rfl⟩
  have hv : s[p]? = some c := by rw [hc]; exact gD hlt
  rw [wordGo_step hlt, ← hc] at hgo
  refine k5 (k1 (k3 (k2 ?_)))
  refine C7 (by kernel_rfl) (by kernel_rfl) (A8 (A3 Z Z) Z Z (A8 (B4 Z) Z Z (A8 (A7 Z) Z Z (A8 (A9 Z Z Z) Z Z (A8 (A3 Z Z) Z Z (A8 (B4 Z) Z Z (A8 (A7 Z) Z Z (A8 (A9 Z Z Z) Z Z (A8 (K0 Z Z (by omega) hv) Z Z (A8 (A5 Z Z) Z Z (H2 ?_)))))))))))
  refine k1 (k2 ?_)
  refine A4 (A2 (A3 Z Z) Z (A2 (B4 Z) Z (A2 (A7 Z) Z (A2 (A9 Z Z Z) Z (A2 (C0 Z Z (by omega)) Z (A2 (B4 Z) Z (A2 (A7 Z) Z (E9 (B7 TySz.out Z Z Z Z Z Z) (A6 ?_)))))))))
  refine k1 (k2 (k2 ?_))
  refine A4 (A2 (A3 Z Z) Z (A2 (I8 Z Z) Z (A6 ?_)))
  refine k1 ?_
  refine B2 rfl (fun ht => ?_) (fun ht => ?_)
  ·have h1 : (c.toNat : Int) = 34 := A0 ht
   rw [if_pos (by omega)] at hgo
   refine k2 ?_
   refine F8 (Sees.growBuf (t := 4) Z Z Z) ?_
   refine A4 (A2 (A3 Z Z) Z (A2 (m7 TyStr.out Z (.buf _ _ _ _ _)) Z (A2 (A5 Z Z) Z (A2 (A5 Z Z) Z (A6 ?_)))))
   refine k1 (k10 (k11 (k12 (k11 (k12 (k11 ?_))))))
   refine G1 (rets2 rfl rfl rfl) (by repeat (first | exact C6 | refine C5 rfl ?_ | refine D2 _ ?_)) (ObIn.spec (ob' := [(705, Z7 s (p + 1))]) ⟨rfl, trivial⟩) ⟨acc, true, p + 1, rfl, rfl, hlt, ?_⟩
   rw [← hgo]; exact ⟨rfl, rfl, rfl⟩
  have h1 : ¬ (c.toNat : Int) = 34 := A1 ht
  rw [if_neg (by omega)] at hgo
  obtain ⟨nx, hnx⟩ : ∃ nx : Option (UInt8 × Nat), nx = if c.toNat = 92 then escI s (p + 1) else some (c, p + 1) := ⟨_, rfl⟩
  have hgo2 : goOn s acc nx = M5 s i [] := by
   rw [← hgo, hnx]
   by_cases h2 : c.toNat = 92
   ·rw [if_pos h2, if_pos h2]
   ·rw [if_neg h2, if_neg h2]; rfl
  have hnb : ∀ x j, nx = some (x, j) → p < j ∧ j ≤ s.length := by
   intro x j hj
   rw [hnx] at hj
   by_cases h2 : c.toNat = 92
   ·rw [if_pos h2] at hj; have := escI_le hj; omega
   ·rw [if_neg h2] at hj; cases hj; omega
  cases hq : nx with
  | none =>
   refine k5 (k1 (k2 (k2 ?_)))
   refine A4 (A2 (A3 Z Z) Z (A2 (I8 Z Z) Z (A6 ?_)))
   refine k1 ?_
   rw [hq] at hgo2
   have h2 : c.toNat = 92 := by
    by_cases h2 : c.toNat = 92
    ·exact h2
    ·rw [if_neg h2, hq] at hnx; cases hnx
   rw [if_pos h2, hq] at hnx
   refine B2 rfl (fun ht => ?_) (fun ht => ?_)
   rotate_left
   ·exact absurd (show (c.toNat : Int) = 92 by omega) (A1 ht)
   refine k2 ?_
   refine A4 (A2 (A5 Z Z) Z (A6 ?_))
   refine k1 (k2 ?_)
   refine A4 (A2 (A3 Z Z) Z (R5 (escape_met s (p + 1) hlt hs Z) Z Z Z ?_)); rintro _ _ ⟨x, b, j, rfl, rfl, hj, ho⟩; refine A2 (A3 Z Z) Z (A2 (B3 Z Z) Z (A2 (B3 Z Z) Z (A2 (A5 Z Z) Z (A2 (A5 Z Z) Z (A6 ?_)))))
   rw [← hnx] at ho
   have ho : b = false := ho
   subst ho
   refine k1 (k2 ?_)
   refine A4 (A2 (A3 Z Z) Z (A2 (F4 Z) Z (A6 ?_)))
   refine k1 ?_
   refine B2 rfl (fun ht => ?_) (fun ht => ?_)
   ·refine k2 ?_
    refine A4 (A2 (A5 Z Z) Z (A2 (A5 Z Z) Z (A6 ?_)))
    refine k1 (k10 (k11 (k12 (k11 (k12 (k11 ?_))))))
    refine G1 (rets2 rfl rfl rfl) (by repeat (first | exact C6 | refine C5 rfl ?_ | refine D2 _ ?_)) (ObIn.spec (ob' := [(705, Z7 s j)]) ⟨rfl, trivial⟩) ⟨[], false, j, rfl, rfl, hj, ?_⟩
    rw [← hgo2]; exact (rfl : false = false)
   ·cases ht
  | some q =>
   obtain ⟨y, j⟩ := q
   obtain ⟨hj1, hj2⟩ := hnb y j hq
   rw [hq] at hgo2
   refine c_skip ?_
   refine H9 ?_
   refine W6 ([(0, .s (.one (.ref 705 0))), (4, .s (.one (.mut 706))), (5, .s (t8 y.toNat))] ++ Fr.forget 706 gf) [(706, .grow 5 UInt8 1 u8C acc), (705, Z7 s j)] ?_ ?_
   ·refine k2 ?_
    refine A4 (A2 (A3 Z Z) Z (A2 (I8 Z Z) Z (A6 ?_)))
    refine k1 ?_
    refine B2 rfl (fun ht => ?_) (fun ht => ?_)
    ·have h2 : c.toNat = 92 := by have : (c.toNat : Int) = 92 := A0 ht; omega
     rw [if_pos h2, hq] at hnx
     refine k2 ?_
     refine A4 (A2 (A5 Z Z) Z (A6 ?_))
     refine k1 (k2 ?_)
     refine A4 (A2 (A3 Z Z) Z (R5 (escape_met s (p + 1) hlt hs Z) Z Z Z ?_)); rintro _ _ ⟨x, b, j', rfl, rfl, hj, ho⟩; refine A2 (A3 Z Z) Z (A2 (B3 Z Z) Z (A2 (B3 Z Z) Z (A2 (A5 Z Z) Z (A2 (A5 Z Z) Z (A6 ?_)))))
     rw [← hnx] at ho
     obtain ⟨rfl, rfl, rfl⟩ := ho
     refine k1 (k2 ?_)
     refine A4 (A2 (A3 Z Z) Z (A2 (F4 Z) Z (A6 ?_)))
     refine k1 ?_
     refine B2 rfl (fun ht => ?_) (fun ht => ?_)
     ·cases ht
     refine k5 (k1 ?_)
     exact Sees.tailed ⟨le1 rfl, le1 rfl, le1 rfl, trivial⟩ (L8 hH) (by repeat (first | exact C6 | refine C5 rfl ?_)) (ObIn.spec (ob' := [(706, _), (705, _)]) ⟨rfl, rfl, trivial⟩)
    ·have h2 : ¬ c.toNat = 92 := by have : ¬ (c.toNat : Int) = 92 := A1 ht; omega
     rw [if_neg h2, hq] at hnx
     obtain ⟨rfl, rfl⟩ : y = c ∧ j = p + 1 := by simpa using hnx
     refine k5 (k1 ?_)
     exact Sees.tailed ⟨le1 rfl, le1 rfl, le1 rfl, trivial⟩ (L8 hH) (by repeat (first | exact C6 | refine C5 rfl ?_)) (ObIn.spec (ob' := [(706, _), (705, _)]) ⟨rfl, rfl, trivial⟩)
   skip
   refine A4 (A2 (A3 Z Z) Z (A2 (A3 Z Z) Z (A2 (E0 (c := u8C) (ys := [y]) (E6 Z Z Z Z I6) Z Z Z) Z (C9 (y9 Z Z Z (.pure _ _ _ _) (by (simp; omega)) Z) Z (A2 (A5 Z Z) Z (A6 ?_))))))
   refine k4 (k1 ?_)
   refine ⟨(j, acc ++ [y]), ⟨hj2, by simp; omega, hgo2⟩, by dsimp only; omega, ?_⟩
   exact Sees.tailed ⟨le1 rfl, le1 rfl, trivial⟩ (L8 hH) (by repeat (first | exact C6 | refine C5 rfl ?_ | refine J0 _ ?_)) (ObIn.spec (ob' := [(706, _), (705, _)]) ⟨rfl, rfl, trivial⟩)
 ·have hend : s.length ≤ p := by have := A1 ht; omega
  rw [wordGo_end hend] at hgo
  refine k6 (k2 ?_)
  refine A4 (A2 (A5 Z Z) Z (A2 (A5 Z Z) Z (A6 ?_)))
  refine k1 (k10 ?_)
  refine G1 (rets2 rfl rfl rfl) (by repeat (first | exact C6 | refine C5 rfl ?_ | refine D2 _ ?_)) (ObIn.spec (ob' := [(705, Z7 s p)]) ⟨rfl, trivial⟩) ⟨[], false, p, rfl, rfl, hp, ?_⟩
  rw [← hgo]
theorem getD_drop {s : Str} {i k : Nat} (h : i + k < s.length) : (s.drop i).getD k 0 = s.getD (i + k) 0 := by
 have h1 := gD (s := s.drop i) (i := k) (by rw [List.length_drop]; omega)
 rw [List.getElem?_drop, gD h] at h1
 exact (Option.some.inj h1).symm
theorem wordGo_drop (s : Str) (i : Nat) (n : Nat) : ∀ (k : Nat) (acc : Str), s.length - (i + k) ≤ n → M5 (s.drop i) k acc = (M5 s (i + k) acc).map fun p => (p.1, p.2 - i) := by
 induction n with
 | zero =>
  intro k acc h
  rw [wordGo_end (by rw [List.length_drop]; omega), wordGo_end (by omega)]; rfl
 | succ n ih =>
  intro k acc h
  by_cases hlt : i + k < s.length
  ·rw [wordGo_step (by rw [List.length_drop]; omega), wordGo_step hlt, getD_drop hlt]
   by_cases c1 : (s.getD (i + k) 0).toNat = 34
   ·rw [if_pos c1, if_pos c1]; simp; omega
   ·rw [if_neg c1, if_neg c1]
    by_cases c2 : (s.getD (i + k) 0).toNat = 92
    ·rw [if_pos c2, if_pos c2, escI_eq, escI_eq, List.drop_drop, show i + (k + 1) = i + k + 1 by omega]
     cases he : escAt (s.drop (i + k + 1)) with
     | none => rfl
     | some q =>
      obtain ⟨x, e⟩ := q
      simp only [Option.map_some]
      show M5 (s.drop i) (k + 1 + e) (acc ++ [x]) = Option.map _ (M5 s (i + k + 1 + e) (acc ++ [x]))
      rw [ih (k + 1 + e) _ (by omega), show i + (k + 1 + e) = i + k + 1 + e by omega]
    ·rw [if_neg c2, if_neg c2, ih (k + 1) _ (by omega), show i + (k + 1) = i + k + 1 by omega]
  ·rw [wordGo_end (by rw [List.length_drop]; omega), wordGo_end (by omega)]; rfl
theorem head_drop {s : Str} {i : Nat} : (s.drop i).head? = some 34 ↔ (i < s.length ∧ (s.getD i 0).toNat = 34) := by
 rw [List.head?_drop]
 by_cases h : i < s.length
 ·rw [gD h, Option.some.injEq, ← UInt8.toNat_inj]
  have : (34 : UInt8).toNat = 34 := rfl
  constructor
  ·intro h1; exact ⟨h, by omega⟩
  ·intro h1; omega
 ·rw [List.getElem?_eq_none (by omega)]
  constructor
  ·intro h1; cases h1
  ·intro h1; exact absurd h1.1 h
theorem takeWhile_le {p : UInt8 → Bool} (s : Str) (i : Nat) : ((s.drop i).takeWhile p).length ≤ s.length - i := by
 have := (List.takeWhile_sublist p (l := s.drop i)).length_le
 rw [List.length_drop] at this; exact this
theorem takeWhile_take {p : UInt8 → Bool} : ∀ (s : Str), s.take (s.takeWhile p).length = s.takeWhile p
 | [] => rfl
 | c :: r => by
  by_cases hc : p c = true
  ·rw [List.takeWhile_cons, if_pos hc, List.length_cons, List.take_succ_cons, takeWhile_take r]
  ·rw [List.takeWhile_cons, if_neg hc]; rfl
theorem wordGo_len {s : Str} {i j : Nat} {w : Str} (h : M5 s i [] = some (w, j)) : i < j ∧ j ≤ s.length ∧ w.length + i ≤ j := by
 have := wordGo_pos (s := s) (s.length - i) (Nat.le_refl _) h
 simpa using this
set_option maxHeartbeats 1000000
theorem word_met {gf : Fr} (s : Str) (i : Nat) (hi : i ≤ s.length) (hs : s.length ≤ 16777216) :
  AL.Met Tryz.prog 253 [.one (.ref 705 0)] gf [(705, Z7 s i)] [706]
   (fun rs ob' => ∃ (w : Str) (b : Bool) (j : Nat), rs = [.one (.p (.v (.string ⟨w.toArray⟩))), tBo b] ∧ ob' = [(705, Z7 s j)] ∧ j ≤ s.length ∧ match n9 (s.drop i) with
    | some (w', k) => b = true ∧ w = w' ∧ j = i + k
    | none => b = false) := by
 have hcase : (i < s.length ∧ (s.getD i 0).toNat = 34 ∧ M5 s (i + 1) [] = none) ∨
   ∃ w j, ((i < s.length ∧ (s.getD i 0).toNat = 34 ∧ M5 s (i + 1) [] = some (w, j)) ∨ (¬ (i < s.length ∧ (s.getD i 0).toNat = 34) ∧ w = (s.drop i).takeWhile Q3 ∧ j = i + w.length)) ∧
    i ≤ j ∧ j ≤ s.length ∧ w.length ≤ s.length ∧ n9 (s.drop i) = if L5 w = (s.drop i).take (j - i) then some (w, j - i) else none := by
  by_cases hq : i < s.length ∧ (s.getD i 0).toNat = 34
  ·cases hg : M5 s (i + 1) [] with
   | none => exact .inl ⟨hq.1, hq.2, rfl⟩
   | some p =>
    obtain ⟨w, j⟩ := p
    have h1 := wordGo_len hg
    refine .inr ⟨w, j, .inl ⟨hq.1, hq.2, rfl⟩, by omega, by omega, by omega, ?_⟩
    unfold n9
    rw [if_pos (head_drop.2 hq), wordGo_drop s i s.length 1 [] (by omega), hg]
    rfl
  ·have hl := takeWhile_le (p := Q3) s i
   refine .inr ⟨(s.drop i).takeWhile Q3, _, .inr ⟨hq, rfl, rfl⟩, by omega, by omega, by omega, ?_⟩
   unfold n9
   rw [if_neg (fun h => hq (head_drop.1 h)), show i + ((s.drop i).takeWhile Q3).length - i = ((s.drop i).takeWhile Q3).length by omega, takeWhile_take]
   by_cases hn : (s.drop i).takeWhile Q3 = []
   ·rw [if_pos hn, hn]; rfl
   ·rw [if_neg hn]
    have : L5 ((s.drop i).takeWhile Q3) = (s.drop i).takeWhile Q3 := by unfold L5; rw [if_pos ⟨hn, List.all_takeWhile⟩]
    rw [this, if_pos rfl]
 have htest : decide ((i : Int) < (s.length : Int) ∧ ((s.getD i 0).toNat : Int) = 34) = decide (i < s.length ∧ (s.getD i 0).toNat = 34) := by congr 1; apply propext; constructor <;> intro h <;> omega
 refine AL.Met.introH Tryz.func253 (by decide) rfl rfl rfl (fun hH => ?_)
 refine k2 ?_
 refine A4 (A2 (A5 Z Z) Z (A2 (A5 Z Z) Z (A6 ?_)))
 refine k1 (k2 ?_)
 refine A4 (A2 (A3 Z Z) Z (A2 (B4 Z) Z (A2 (A7 Z) Z (A2 (A9 Z Z Z) Z (A2 (A5 Z Z) Z (A6 ?_))))))
 refine k1 (k2 ?_)
 refine A4 (A2 (A5 Z Z) Z (A6 ?_))
 rcases hcase with ⟨hlt, h34, hg⟩ | ⟨w, j, hwj, hij, hjl, hwl, hW⟩
 ·refine k1 (k2 (k2 ?_))
  refine A4 (A2 (A3 Z Z) Z (A2 (A3 Z Z) Z (A2 (B4 Z) Z (A2 (A7 Z) Z (A2 (A9 Z Z Z) Z (A2 (F5 Z) Z (A2 (E3 Z Z) Z (A2 (A3 Z Z) Z (B0 Z Z Z Z (fun hg => by rw [hg]; exact A3 Z Z) ?_))))))))); refine B0 Z Z Z Z (fun hg => by rw [hg]; exact B4 Z) ?_; refine B0 Z Z Z Z (fun hg => by rw [hg]; exact A7 Z) ?_; refine B0 Z Z Z Z (fun hg => by rw [hg]; exact A9 Z Z Z) ?_; refine B0 Z Z Z Z (fun hg => by rw [hg]; exact A3 Z Z) ?_; refine B0 Z Z Z Z (fun hg => by have hq := hg; (try simp at hq); rw [hg]; exact K0 Z Z (by omega) (gD (by omega))) ?_; refine B0 Z Z Z Z (fun hg => by rw [hg]; exact I8 Z Z) ?_; refine A2 (B1 Z (fun h => by first | rfl | (rw [h]; rfl)) (fun h => by first | rfl | (rw [h]; rfl))) Z ?_; refine A6 ?_
  simp only [G2, Int.toNat_natCast]
  rw [htest]
  refine k1 ?_
  refine B2 rfl (fun ht => ?_) (fun ht => ?_)
  rotate_left
  ·exact absurd ⟨hlt, h34⟩ (A1 ht)
  refine k2 ?_
  refine A4 (A2 (A3 Z Z) Z (A2 (B4 Z) Z (A2 (A7 Z) Z (A2 (A9 Z Z Z) Z (A2 (C0 Z Z (by omega)) Z (A2 (B4 Z) Z (A2 (A7 Z) Z (E9 (B7 TySz.out Z Z Z Z Z Z) (A6 ?_)))))))))
  refine k1 (k2 ?_)
  refine F8 (fr' := [(0, .s (.one (.ref 705 0))), (4, C2 i)] ++ gf) (ob' := [(705, Z7 s (i + 1))]) (Sees.tailed ⟨le1 rfl, le1 rfl, trivial⟩ hH (by repeat (first | exact C6 | refine C5 rfl ?_)) (ObIn.spec (ob' := [(705, _)]) ⟨rfl, trivial⟩)) ?_
  refine A4 (A2 (A5 Z Z) Z (A6 ?_))
  refine k1 (k2 ?_)
  refine A4 (A2 (A3 Z Z) Z (R5 (quoted_met s (i + 1) hlt (by omega)) Z Z Z ?_)); rintro _ _ ⟨w, b, j, rfl, rfl, hj, ho⟩; refine A2 (A3 Z Z) Z (A2 (B3 Z Z) Z (A2 (B3 Z Z) Z (A2 (A5 Z Z) Z (A2 (A5 Z Z) Z (A6 ?_)))))
  rw [hg] at ho
  have ho : b = false := ho
  subst ho
  refine k1 (k2 ?_)
  refine A4 (A2 (A3 Z Z) Z (A2 (F4 Z) Z (A6 ?_)))
  refine k1 ?_
  refine B2 rfl (fun ht => ?_) (fun ht => ?_)
  ·refine k2 ?_
   refine A4 (A2 (A5 Z Z) Z (A2 (A5 Z Z) Z (A6 ?_)))
   refine k1 (k10 (k11 ?_))
   refine G1 (rets2 rfl rfl rfl) (by repeat (first | exact C6 | refine C5 rfl ?_ | refine D2 _ ?_)) (fun _ _ h => h) ⟨[], false, j, rfl, rfl, hj, ?_⟩
   have : n9 (s.drop i) = none := by
    unfold n9
    rw [if_pos (head_drop.2 ⟨hlt, h34⟩), wordGo_drop s i s.length 1 [] (by omega), hg]; rfl
   rw [this]
  ·cases ht
 ·refine H9 ?_
  refine W6 ([(0, .s (.one (.ref 705 0))), (4, C2 i), (5, O7 w)] ++ Fr.forget 706 gf) [(705, Z7 s j)] ?_ ?_
  ·refine k2 ?_
   refine A4 (A2 (A3 Z Z) Z (A2 (A3 Z Z) Z (A2 (B4 Z) Z (A2 (A7 Z) Z (A2 (A9 Z Z Z) Z (A2 (F5 Z) Z (A2 (E3 Z Z) Z (A2 (A3 Z Z) Z (B0 Z Z Z Z (fun hg => by rw [hg]; exact A3 Z Z) ?_))))))))); refine B0 Z Z Z Z (fun hg => by rw [hg]; exact B4 Z) ?_; refine B0 Z Z Z Z (fun hg => by rw [hg]; exact A7 Z) ?_; refine B0 Z Z Z Z (fun hg => by rw [hg]; exact A9 Z Z Z) ?_; refine B0 Z Z Z Z (fun hg => by rw [hg]; exact A3 Z Z) ?_; refine B0 Z Z Z Z (fun hg => by have hq := hg; (try simp at hq); rw [hg]; exact K0 Z Z (by omega) (gD (by omega))) ?_; refine B0 Z Z Z Z (fun hg => by rw [hg]; exact I8 Z Z) ?_; refine A2 (B1 Z (fun h => by first | rfl | (rw [h]; rfl)) (fun h => by first | rfl | (rw [h]; rfl))) Z ?_; refine A6 ?_
   simp only [G2, Int.toNat_natCast]
   rw [htest]
   refine k1 ?_
   refine B2 rfl (fun ht => ?_) (fun ht => ?_)
   ·have hq := A0 ht
    rcases hwj with ⟨_, _, hg⟩ | ⟨hn, _⟩
    ·refine k2 ?_
     refine A4 (A2 (A3 Z Z) Z (A2 (B4 Z) Z (A2 (A7 Z) Z (A2 (A9 Z Z Z) Z (A2 (C0 Z Z (by omega)) Z (A2 (B4 Z) Z (A2 (A7 Z) Z (E9 (B7 TySz.out Z Z Z Z Z Z) (A6 ?_)))))))))
     refine k1 (k2 ?_)
     refine F8 (fr' := [(0, .s (.one (.ref 705 0))), (4, C2 i)] ++ gf) (ob' := [(705, Z7 s (i + 1))]) (Sees.tailed ⟨le1 rfl, le1 rfl, trivial⟩ hH (by repeat (first | exact C6 | refine C5 rfl ?_)) (ObIn.spec (ob' := [(705, _)]) ⟨rfl, trivial⟩)) ?_
     refine A4 (A2 (A5 Z Z) Z (A6 ?_))
     refine k1 (k2 ?_)
     refine A4 (A2 (A3 Z Z) Z (R5 (quoted_met s (i + 1) hq.1 (by omega)) Z Z Z ?_)); rintro _ _ ⟨w', b, j', rfl, rfl, hj, ho⟩; refine A2 (A3 Z Z) Z (A2 (B3 Z Z) Z (A2 (B3 Z Z) Z (A2 (A5 Z Z) Z (A2 (A5 Z Z) Z (A6 ?_)))))
     rw [hg] at ho
     obtain ⟨rfl, rfl, rfl⟩ := ho
     refine k1 (k2 ?_)
     refine A4 (A2 (A3 Z Z) Z (A2 (F4 Z) Z (A6 ?_)))
     refine k1 ?_
     refine B2 rfl (fun ht => ?_) (fun ht => ?_)
     ·cases ht
     refine k5 (k1 ?_)
     exact Sees.tailed ⟨le1 rfl, le1 rfl, le1 rfl, trivial⟩ (L8 hH) (by repeat (first | exact C6 | refine C5 rfl ?_ | refine J0 _ ?_ | refine D2 _ ?_)) (ObIn.spec (ob' := [(705, _)]) ⟨rfl, trivial⟩)
    ·exact absurd hq hn
   ·have hq := A1 ht
    rcases hwj with ⟨h1, h2, _⟩ | ⟨_, hw, hj⟩
    ·exact absurd ⟨h1, h2⟩ hq
    have hl := takeWhile_le (p := Q3) s i
    rw [← hw] at hl
    refine k2 (k3 ?_)
    refine E2 (X := Nat) (fun k => ([(0, .s (.one (.ref 705 0))), (4, C2 i)] ++ gf, [(705, Z7 s (i + k))])) (fun k => k ≤ w.length) (fun k => w.length - k) 0 (Nat.zero_le _) ?_ ?_
    ·exact Sees.tailed ⟨le1 rfl, le1 rfl, trivial⟩ hH (by repeat (first | exact C6 | refine C5 rfl ?_)) (ObIn.spec (ob' := [(705, _)]) ⟨rfl, trivial⟩)
    intro k hk
    dsimp only at hk ⊢
    have hrun := takeWhile_at (p := Q3) (s.drop i) k (by rw [← hw]; exact hk)
    rw [← hw, List.getElem?_drop] at hrun
    obtain ⟨c, hc⟩ : ∃ c, c = s.getD (i + k) 0 := ⟨_, rfl⟩
    have hv : i + k < s.length → s[i + k]? = some c := fun h => by rw [hc]; exact gD h
    have hrun2 : (if decide (((i + k : Nat) : Int) < (s.length : Int)) = true then Q3 c else false) = decide (k < w.length) := by
     rw [← hrun]
     by_cases hlt : i + k < s.length
     ·rw [hv hlt, if_pos (decide_eq_true (by omega))]
     ·rw [List.getElem?_eq_none (by omega), if_neg (by simp; omega)]
    refine k2 (k2 ?_)
    refine C7 (by kernel_rfl) (by kernel_rfl) (A8 (A3 Z Z) Z Z (A8 (B4 Z) Z Z (A8 (A7 Z) Z Z (A8 (A9 Z Z Z) Z Z (A8 (A3 Z Z) Z Z (A8 (B4 Z) Z Z (A8 (A7 Z) Z Z (A8 (A9 Z Z Z) Z Z (A8 (F5 Z) Z Z (A8 (E3 Z Z) Z Z (A8 (A3 Z Z) Z Z (B8 Z Z (fun hg => by rw [hg]; exact A3 Z Z) Z Z ?_)))))))))))); refine B8 Z Z (fun hg => by rw [hg]; exact B4 Z) Z Z ?_; refine B8 Z Z (fun hg => by rw [hg]; exact A7 Z) Z Z ?_; refine B8 Z Z (fun hg => by rw [hg]; exact A9 Z Z Z) Z Z ?_; refine B8 Z Z (fun hg => by rw [hg]; exact A3 Z Z) Z Z ?_; refine B8 Z Z (fun hg => by rw [hg]; exact B4 Z) Z Z ?_; refine B8 Z Z (fun hg => by rw [hg]; exact A7 Z) Z Z ?_; refine B8 Z Z (fun hg => by rw [hg]; exact A9 Z Z Z) Z Z ?_; refine B8 Z Z (fun hg => by have hq := hg; (try simp at hq); rw [hg]; exact K0 Z Z (by omega) (hv (by omega))) Z Z ?_; refine B8 Z Z (fun hg => by have hq := hg; (try simp at hq); rw [hg]; exact G9 (splain_ok c) Z Z) Z Z ?_; refine A8 (B1 Z (fun h => by first | rfl | (rw [h]; rfl)) (fun h => by first | rfl | (rw [h]; rfl))) Z Z ?_; refine H2 ?_
    rw [hrun2]
    refine k1 ?_
    refine B2 rfl (fun ht => ?_) (fun ht => ?_)
    ·have hlt := A0 ht
     refine k5 (k1 (k3 ?_))
     refine A4 (A2 (A3 Z Z) Z (A2 (B4 Z) Z (A2 (A7 Z) Z (A2 (A9 Z Z Z) Z (A2 (C0 Z Z (by omega)) Z (A2 (B4 Z) Z (A2 (A7 Z) Z (E9 (B7 TySz.out Z Z Z Z Z Z) (A6 ?_)))))))))
     refine k4 (k1 ?_)
     exact ⟨k + 1, hlt, by omega, Sees.tailed ⟨le1 rfl, le1 rfl, trivial⟩ hH (by repeat (first | exact C6 | refine C5 rfl ?_)) (ObIn.spec (ob' := [(705, _)]) ⟨rfl, trivial⟩)⟩
    ·have hk2 : k = w.length := by have := A1 ht; omega
     subst hk2
     refine k6 (k7 (k7 (k8 Z (k1 ?_))))
     refine C7 (by kernel_rfl) (by kernel_rfl) (A8 (A3 Z Z) Z Z (A8 (B4 Z) Z Z (A8 (A7 Z) Z Z (A8 (A9 Z Z Z) Z Z (A8 (A3 Z Z) Z Z (A8 (A3 Z Z) Z Z (A8 (B4 Z) Z Z (A8 (A7 Z) Z Z (A8 (A9 Z Z Z) Z Z (A8 (X7 Z Z Z (by omega) (by omega) (by omega)) Z Z (A8 (A5 Z Z) Z Z (H2 ?_))))))))))))
     have hww : (s.drop i).take (i + w.length - i) = w := by rw [Nat.add_sub_cancel_left, hw]; exact takeWhile_take _
     rw [Int.toNat_natCast, Int.toNat_natCast, hww]
     refine k1 ?_
     refine Sees.trans (Sees.forget 706) ?_
     subst hj
     exact Sees.tailed ⟨le1 rfl, le1 rfl, le1 rfl, trivial⟩ (L8 hH) (by repeat (first | exact C6 | refine C5 rfl ?_ | refine J0 _ ?_ | refine D2 _ ?_)) (ObIn.spec (ob' := [(705, _)]) ⟨rfl, trivial⟩)
  ·refine k2 ?_
   refine C7 (by kernel_rfl) (by kernel_rfl) (A8 (A3 Z Z) Z Z (A8 (A3 Z Z) Z Z (A8 (G9 (squote_ok w (by omega)) Z Z) Z Z (A8 (A3 Z Z) Z Z (A8 (B4 Z) Z Z (A8 (A7 Z) Z Z (A8 (A9 Z Z Z) Z Z (A8 (A3 Z Z) Z Z (A8 (A3 Z Z) Z Z (A8 (B4 Z) Z Z (A8 (A7 Z) Z Z (A8 (A9 Z Z Z) Z Z (A8 (X7 Z Z Z (by omega) (by omega) (by omega)) Z Z (A8 (d8 Z Z) Z Z (A8 (A5 Z Z) Z Z (A8 (A5 Z Z) Z Z (H2 ?_)))))))))))))))))
   rw [Int.toNat_natCast, Int.toNat_natCast]
   refine k1 (k10 ?_)
   refine G1 (rets2 rfl rfl rfl) (by repeat (first | exact C6 | refine C5 rfl ?_ | refine D2 _ ?_)) (fun _ _ h => h) ⟨w, _, j, rfl, rfl, hjl, ?_⟩
   rw [hW]
   by_cases hqw : L5 w = (s.drop i).take (j - i)
   ·rw [if_pos hqw]; exact ⟨decide_eq_true hqw, rfl, by omega⟩
   ·rw [if_neg hqw]; exact decide_eq_false hqw
def wordR (s : Str) (i : Nat) : List PV := match n9 (s.drop i) with
 | none => [G6 [], F0 0, F9 false]
 | some (w, k) => [G6 w, F0 ((i + k : Nat) : Int), F9 true]
theorem sUnquote_ok (s : Str) (i : Nat) (hi : i ≤ s.length) (hs : s.length ≤ 16777216) : FnOk Tryz.prog 214 [G6 s, F0 i] (fun rs => rs = wordR s i) := by
 refine FnOk.intro Tryz.func214 (by decide) Z Z Z Z ?_
 refine k2 ?_
 refine A4 (A2 (A5 Z Z) Z (A2 (A5 Z Z) Z (A2 (A5 Z Z) Z (A6 ?_))))
 refine k1 (k2 (k2 ?_))
 refine A4 (A2 (A3 Z Z) Z (A2 (E3 Z Z) Z (A2 (A3 Z Z) Z (B0 Z Z Z Z (fun hg => by rw [hg]; exact A3 Z Z) ?_)))); refine B0 Z Z Z Z (fun hg => by rw [hg]; exact A3 Z Z) ?_; refine B0 Z Z Z Z (fun hg => by rw [hg]; exact F5 Z) ?_; refine B0 Z Z Z Z (fun hg => by rw [hg]; exact N4 Z Z) ?_; refine A2 (B1 Z (fun h => by first | rfl | (rw [h]; rfl)) (fun h => by first | rfl | (rw [h]; rfl))) Z ?_; refine A6 ?_
 refine k1 ?_
 refine B2 rfl (fun ht => ?_) (fun ht => ?_)
 ·exfalso; revert ht; simp only [or_pick]; simp; omega
 refine k5 (k1 (k2 ?_))
 refine A4 (A2 (A3 Z Z) Z (A2 (A3 Z Z) Z (A2 (F6 Z) Z (C9 (c8 705 Z Z Z) Z (A2 (A5 Z Z) Z (A6 ?_))))))
 refine k1 (k2 ?_)
 refine A4 (A2 (A3 Z Z) Z (R5 (word_met s i hi hs) Z Z Z ?_)); rintro _ _ ⟨w, b, j, rfl, rfl, hj, ho⟩; refine A2 (A3 Z Z) Z (A2 (B3 Z Z) Z (A2 (B3 Z Z) Z (A2 (A5 Z Z) Z (A2 (A5 Z Z) Z (A6 ?_)))))
 refine k1 (k2 (k2 ?_))
 refine A4 (A2 (A3 Z Z) Z (A2 (F4 Z) Z (A6 ?_)))
 refine k1 ?_
 cases hw : n9 (s.drop i) with
 | none =>
  rw [hw] at ho
  have ho : b = false := ho
  subst ho
  refine B2 rfl (fun ht => ?_) (fun ht => ?_)
  ·refine k2 ?_
   refine A4 (A2 (A5 Z Z) Z (A2 (A5 Z Z) Z (A2 (A5 Z Z) Z (A6 ?_))))
   refine k1 (k10 (k11 ?_))
   exact B6 (rs := [G6 [], F0 0, F9 false]) (ret3 rfl rfl rfl rfl rfl rfl rfl) (by unfold wordR; rw [hw])
  ·cases ht
 | some q =>
  obtain ⟨w', k⟩ := q
  rw [hw] at ho
  obtain ⟨rfl, rfl, rfl⟩ := ho
  refine B2 rfl (fun ht => ?_) (fun ht => ?_)
  ·cases ht
  refine k5 (k1 (k2 ?_))
  refine C7 (by kernel_rfl) (by kernel_rfl) (A8 (A3 Z Z) Z Z (A8 (A3 Z Z) Z Z (A8 (B4 Z) Z Z (A8 (A7 Z) Z Z (A8 (A9 Z Z Z) Z Z (A8 (A5 Z Z) Z Z (A8 (A5 Z Z) Z Z (A8 (A5 Z Z) Z Z (H2 ?_)))))))))
  refine k1 (k10 ?_)
  exact B6 (rs := [G6 w, F0 ((i + k : Nat) : Int), F9 true]) (ret3 rfl rfl rfl rfl rfl rfl rfl) (by unfold wordR; rw [hw])
theorem wordR_none {s : Str} {i : Nat} (h : n9 (s.drop i) = none) : wordR s i = [G6 [], F0 0, F9 false] := by unfold wordR; rw [h]
theorem wordR_some {s : Str} {i k : Nat} {w : Str} (h : n9 (s.drop i) = some (w, k)) : wordR s i = [G6 w, F0 ((i + k : Nat) : Int), F9 true] := by unfold wordR; rw [h]
set_option maxHeartbeats 1000000
theorem count1_ok (s : Str) (c : UInt8) : FnOk Tryz.prog 196 [G6 s, G6 [c]] (fun rs => rs = [F0 (s.count c)]) :=
 FnOk.ofPlain (xs := [.string ⟨s.toArray⟩, .string ⟨#[c]⟩]) ⟨_, rfl, rfl, rfl⟩ rfl fun w => by simpa [Lib.countByte] using Tryz.strings_Count_one ⟨s.toArray⟩ c w
theorem index1_ok (s : Str) (c : UInt8) : FnOk Tryz.prog 247 [G6 s, G6 [c]] (fun rs => rs = [F0 (Lib.indexByte s c)]) :=
 FnOk.ofPlain (xs := [.string ⟨s.toArray⟩, .string ⟨#[c]⟩]) ⟨_, rfl, rfl, rfl⟩ rfl fun w => by simpa using Tryz.strings_Index_one ⟨s.toArray⟩ c w
theorem genSplit_ok (s : Str) (hs : s.length ≤ 536870912) : FnOk Tryz.prog 197 [G6 s, G6 [10], F0 1, F0 (-1)] (fun rs => rs = [R3 (Q8 s)]) := by
 have hP := Y2 s []
 have hc : s.count 10 ≤ s.length := List.count_le_length
 have h10 : ([10] : Str).length = 1 := rfl
 obtain ⟨P, hPe⟩ : ∃ P, P = Q8 s := ⟨_, rfl⟩
 have hPl : P.length = s.count 10 + 1 := by rw [hPe]; exact hP
 refine FnOk.intro Tryz.func197 (by decide) Z Z Z Z ?_
 refine k2 ?_
 refine A4 (A2 (A5 Z Z) Z (A6 ?_))
 refine k1 (k2 (k2 ?_))
 refine A4 (A2 (A3 Z Z) Z (A2 (I8 Z Z) Z (A6 ?_)))
 refine k1 ?_
 refine B2 rfl (fun ht => ?_) (fun ht => ?_)
 ·exact absurd (A0 ht) (by omega)
 refine k5 (k1 (k2 (k2 ?_)))
 refine A4 (A2 (A3 Z Z) Z (A2 (d8 Z Z) Z (A6 ?_)))
 refine k1 ?_
 refine B2 rfl (fun ht => ?_) (fun ht => ?_)
 ·exact absurd (A0 ht) (by simp)
 refine k5 (k1 (k2 (k2 ?_)))
 refine A4 (A2 (A3 Z Z) Z (A2 (E3 Z Z) Z (A6 ?_)))
 refine k1 ?_
 refine B2 rfl (fun ht => ?_) (fun ht => ?_)
 rotate_left
 ·exact absurd (A1 ht) (by omega)
 skip
 refine A4 (A2 (A3 Z Z) Z (A2 (A3 Z Z) Z (C3 (count1_ok s 10) Z Z Z ?_))); rintro _ rfl; refine A2 (C0 Z Z (by omega)) Z (A2 (A5 Z Z) Z (A6 ?_))
 refine k1 (k2 ?_)
 refine A4 (A2 (A3 Z Z) Z (A2 (A3 Z Z) Z (A2 (F5 Z) Z (A2 (C0 Z Z (by omega)) Z (A2 (n_min Z Z) Z (A2 (A5 Z Z) Z (A6 ?_)))))))
 refine k1 (k2 ?_)
 rw [show (if (s.length : Int) + 1 < (s.count 10 : Int) + 1 then (s.length : Int) + 1 else (s.count 10 : Int) + 1) = (P.length : Int) from by split <;> omega]
 refine A4 (A2 (A3 Z Z) Z (C9 (f_makeZ 9 Str I2 [] Z Z (by omega) (by omega) (fun _ => by first | exact ⟨⟨rfl, rfl⟩, trivial⟩ | exact ⟨T4 _ _ _, trivial⟩) (by first | rfl | (simp [I3, M7, Ob.free, SV.free, S1.free, TC.free] <;> rfl))) Z ?_)); refine A2 (A5 Z Z) Z (A6 ?_)
 refine k1 (k2 ?_)
 refine A4 (A2 (A3 Z Z) Z (A2 (I1 Z Z (by omega)) Z (A2 (A5 Z Z) Z (A6 ?_))))
 refine k1 (k2 ?_)
 refine A4 (A2 (A5 Z Z) Z (A6 ?_))
 refine k1 (k2 (k3 ?_))
 refine E2 (X := Nat × Str) (fun x => ([(0, O7 x.2), (1, O7 [10]), (2, C2 1), (3, C2 ((P.length : Int) - 1)), (9, .s (.one (.mut 9))), (10, C2 x.1)], [(9, .arr Str 1 I2 (P.take x.1 ++ List.replicate (P.length - x.1) []))])) (fun x => x.1 + 1 ≤ P.length ∧ P.drop x.1 = Q8 x.2 ∧ x.2.length ≤ s.length) (fun x => P.length - x.1) (0, s) ⟨by dsimp only; omega, hPe, Nat.le_refl _⟩ (Sees.of ⟨le1 rfl, le1 rfl, le1 rfl, le1 rfl, le1 rfl, le1 rfl, trivial⟩ ⟨rfl, trivial⟩) ?_
 rintro ⟨i, r⟩ ⟨hi, hp, hr⟩
 dsimp only at hi hp hr ⊢
 refine k2 (k2 ?_)
 refine A4 (A2 (A3 Z Z) Z (A2 (A3 Z Z) Z (A2 (E3 Z Z) Z (A6 ?_))))
 refine k1 ?_
 refine B2 rfl (fun ht => ?_) (fun ht => ?_)
 ·have hlt : i + 1 < P.length := by have := A0 ht; omega
  have hin : (10 : UInt8) ∈ r := by
   have h1 := Y2 r []
   have h2 : (P.drop i).length = r.count 10 + 1 := by rw [hp]; exact h1
   rw [List.length_drop] at h2
   exact List.count_pos_iff.1 (by omega)
  rcases W2 10 r with ⟨h1, _⟩ | ⟨a, b, h1, h2, h3⟩
  ·exact absurd hin h1
  obtain ⟨h4, h5⟩ := parts_step hp h1 h2
  have hl : r.length = a.length + 1 + b.length := by rw [h1]; simp; omega
  refine k5 (k1 (k3 (k2 ?_)))
  refine A4 (A2 (A3 Z Z) Z (A2 (A3 Z Z) Z (C3 (index1_ok r 10) Z Z Z ?_))); rintro _ rfl; refine A2 (A5 Z Z) Z (A6 ?_)
  refine k1 (k2 (k2 ?_))
  refine A4 (A2 (A3 Z Z) Z (A2 (E3 Z Z) Z (A6 ?_)))
  refine k1 ?_
  rw [h3]
  refine B2 rfl (fun ht => ?_) (fun ht => ?_)
  ·exact absurd (A0 ht) (by omega)
  refine k5 (k1 (k2 ?_))
  refine A4 (A2 (A3 Z Z) Z (A2 (A3 Z Z) Z (A2 (A3 Z Z) Z (A2 (A3 Z Z) Z (A2 (A3 Z Z) Z (A2 (C0 Z Z (by omega)) Z (A2 (n_sub_h Z Z (by omega) (by omega)) Z (A2 (M1 Z Z Z (by omega) (by (simp; omega))) Z (E9 (M2 TySz.out Z Z (by simp; omega) Z Z) (A6 ?_))))))))))
  refine k1 (k2 ?_)
  refine A4 (A2 (A3 Z Z) Z (A2 (A3 Z Z) Z (A2 (A3 Z Z) Z (A2 (F5 Z) Z (A2 (C0 Z Z (by omega)) Z (A2 (x6 Z Z (by omega) (by omega)) Z (A2 (A5 Z Z) Z (A6 ?_))))))))
  refine k1 ?_
  refine A4 (A2 (A3 Z Z) Z (A2 (C0 Z Z (by omega)) Z (A2 (A5 Z Z) Z (A6 ?_))))
  refine k4 (k1 ?_)
  have e1 : r.take (((a.length : Int) + 1).toNat) = a ++ [10] := by rw [h1, show ((a.length : Int) + 1).toNat = a.length + 1 by omega, show a ++ 10 :: b = (a ++ [10]) ++ b by simp, List.take_left' (by simp)]
  have e2 : r.drop (((a.length : Int) + (([10] : Str).length : Int)).toNat) = b := by rw [h1, h10, show ((a.length : Int) + ((1 : Nat) : Int)).toNat = a.length + 1 by omega, show a ++ 10 :: b = (a ++ [10]) ++ b by simp, List.drop_left' (by simp)]
  refine ⟨(i + 1, b), ⟨by dsimp only; omega, h5, by dsimp only; omega⟩, by dsimp only; omega, ?_⟩
  rw [e1, e2]
  dsimp only
  rw [← fill_step P [] _ i h4]
  exact Sees.of ⟨le1 rfl, le1 rfl, le1 rfl, le1 rfl, le1 rfl, le1 rfl, trivial⟩ ⟨rfl, trivial⟩
 ·have hge : i + 1 = P.length := by have := A1 ht; omega
  have h1 := Y2 r []
  have h2 : (P.drop i).length = r.count 10 + 1 := by rw [hp]; exact h1
  rw [List.length_drop] at h2
  have h3 : (10 : UInt8) ∉ r := List.count_eq_zero.1 (by omega)
  have h4 : P[i]? = some r := by rw [← List.head?_drop, hp]; unfold Q8; rw [partsAux_none _ _ h3]; rfl
  refine k6 (k2 ?_)
  refine A4 (A2 (A3 Z Z) Z (A2 (A3 Z Z) Z (A2 (A3 Z Z) Z (A2 (M1 Z Z Z (by omega) (by (simp; omega))) Z (E9 (M2 TySz.out Z Z (by simp; omega) Z Z) (A6 ?_))))))
  refine k1 (k2 ?_)
  have e : (P.take i ++ List.replicate (P.length - i) ([] : Str)).set (i : Int).toNat r = P := by rw [Int.toNat_natCast, fill_step P [] r i h4, hge]; simp
  rw [e]
  refine F8 (Sees.freeze (k := 9) Z) ?_
  refine A4 (A2 (A3 Z Z) Z (A2 (A3 Z Z) Z (A2 (C0 Z Z (by omega)) Z (A2 (n_slice_h Z (.pure _ _ _ _) Z (by omega) (by omega)) Z (A2 (A5 Z Z) Z (A6 ?_))))))
  refine k1 (k10 ?_)
  exact B6 (H1 rfl rfl rfl) (by rw [show ((i : Int) + 1).toNat = P.length by omega, List.take_length, hPe])
theorem splitAfter_ok (s : Str) (hs : s.length ≤ 536870912) : FnOk Tryz.prog 130 [G6 s, G6 [10]] (fun rs => rs = [R3 (Q8 s)]) := by
 refine FnOk.intro Tryz.func130 (by decide) Z Z Z Z ?_
 refine k2 ?_
 refine A4 (A2 (A5 Z Z) Z (A6 ?_))
 refine k1 (k2 ?_)
 refine A4 (A2 (A3 Z Z) Z (A2 (A3 Z Z) Z (A2 (A3 Z Z) Z (A2 (F5 Z) Z (C3 (genSplit_ok s hs) Z Z Z ?_))))); rintro _ rfl; refine A2 (A5 Z Z) Z (A6 ?_)
 refine k1 (k10 ?_)
 exact B6 (H1 rfl rfl rfl) rfl
theorem tcheck_ok (s : Str) (hs : s.length ≤ 536870912) : FnOk Tryz.prog 129 [G6 s] (fun rs => rs = [F0 (V7 s)]) := by
 have hl := linesOf_count s
 have hc : s.count 10 ≤ s.length := List.count_le_length
 refine FnOk.intro Tryz.func129 (by decide) Z Z Z Z ?_
 refine k2 ?_
 refine A4 (A2 (A5 Z Z) Z (A6 ?_))
 refine k1 (k2 ?_)
 refine A4 (A2 (A3 Z Z) Z (C3 (count1_ok s 10) Z Z Z ?_)); rintro _ rfl; refine A2 (A5 Z Z) Z (A6 ?_)
 refine H9 ?_
 refine W6 [(0, O7 s), (3, C2 (D8 s).length)] [] ?_ ?_
 ·refine k2 ?_
  refine A4 (A2 (A3 Z Z) Z (A2 (l9 Z Z) Z (A2 (A3 Z Z) Z (B0 Z Z Z Z (fun hg => by rw [hg]; exact A3 Z Z) ?_)))); refine B0 Z Z Z Z (fun hg => by have hq := hg; (try simp at hq); rw [hg]; exact G9 (tended_ok s (by omega)) Z Z) ?_; refine B0 Z Z Z Z (fun hg => by rw [hg]; exact F4 Z) ?_; refine A2 (B1 Z (fun h => by first | rfl | (rw [h]; rfl)) (fun h => by first | rfl | (rw [h]; rfl))) Z ?_; refine A6 ?_
  refine k1 ?_
  refine B2 rfl (fun ht => ?_) (fun ht => ?_)
  ·have h : s ≠ [] ∧ ended s = false := by
    by_cases h1 : s = []
    ·simp [h1] at ht
    ·refine ⟨h1, ?_⟩; simpa [h1] using ht
   rw [if_pos h] at hl
   skip
   refine A4 (A2 (A3 Z Z) Z (A2 (C0 Z Z (by omega)) Z (A2 (A5 Z Z) Z (A6 ?_))))
   refine k1 ?_
   rw [hl, Int.natCast_add]
   exact Sees.of ⟨le1 rfl, le1 rfl, trivial⟩ trivial
  ·have h : ¬ (s ≠ [] ∧ ended s = false) := by
    rintro ⟨h1, h2⟩
    simp [h1, h2] at ht
   rw [if_neg h] at hl
   refine k5 (k1 ?_)
   rw [hl]
   exact Sees.of ⟨le1 rfl, le1 rfl, trivial⟩ trivial
 ·refine k2 (k2 ?_)
  refine A4 (A2 (A3 Z Z) Z (A2 (F5 Z) Z (A2 (N4 Z Z) Z (A2 (A3 Z Z) Z (B0 Z Z Z Z (fun hg => by rw [hg]; exact A3 Z Z) ?_))))); refine B0 Z Z Z Z (fun hg => by rw [hg]; exact N4 Z Z) ?_; refine A2 (B1 Z (fun h => by first | rfl | (rw [h]; rfl)) (fun h => by first | rfl | (rw [h]; rfl))) Z ?_; refine A6 ?_
  refine k1 ?_
  refine B2 rfl (fun ht => ?_) (fun ht => ?_)
  ·have h := A0 (or_pick.symm.trans ht)
   refine k2 ?_
   refine A4 (A2 (A5 Z Z) Z (A6 ?_))
   refine k1 (k10 (k11 ?_))
   exact B6 (H1 rfl rfl rfl) (by rw [V7, if_pos (by omega)])
  ·have h := A1 (or_pick.symm.trans ht)
   refine k5 (k1 (k2 ?_))
   refine A4 (A2 (A5 Z Z) Z (A6 ?_))
   refine k1 (k10 ?_)
   exact B6 (H1 rfl rfl rfl) (by rw [V7, if_neg (by omega)])
theorem tsplit_ok (s : Str) (hs : s.length ≤ 536870912) : FnOk Tryz.prog 67 [G6 s] (fun rs => rs = [R3 (F1 s).1, F0 (F1 s).2]) := by
 have hp : D8 s = if (Q8 s).getLastD [] = [] then (Q8 s).dropLast else Q8 s := parts_lines s []
 have hc : (Q8 s).length = s.count 10 + 1 := Y2 s []
 have hcl : s.count 10 ≤ s.length := List.count_le_length
 refine FnOk.intro Tryz.func67 (by decide) Z Z Z Z ?_
 refine k2 ?_
 refine A4 (A2 (A5 Z Z) Z (A2 (A5 Z Z) Z (A6 ?_)))
 refine k1 (k2 (k2 ?_))
 refine A4 (A2 (A3 Z Z) Z (C3 (tcheck_ok s hs) Z Z Z ?_)); rintro _ rfl; refine A2 (A5 Z Z) Z (A6 ?_)
 refine k1 (k2 ?_)
 refine A4 (A2 (A3 Z Z) Z (A2 (K7 Z Z) Z (A6 ?_)))
 refine k1 ?_
 refine B2 rfl (fun ht => ?_) (fun ht => ?_)
 ·have h : V7 s ≠ 0 := by simpa using ht
  have h1 : s.length > 1048576 ∨ (D8 s).length > 4096 := by
   by_cases h1 : s.length > 1048576 ∨ (D8 s).length > 4096
   ·exact h1
   ·exact absurd (by rw [V7, if_neg h1]) h
  refine k2 ?_
  refine A4 (A2 (A3 Z Z) Z (A2 (Q6 _ 1 I2) Z (A2 (A5 Z Z) Z (A6 ?_))))
  refine k1 (k10 (k11 ?_))
  exact B6 (U5 rfl rfl rfl rfl rfl) (by rw [F1, if_pos h1, V7, if_pos h1])
 ·have h : V7 s = 0 := by simpa using ht
  have h1 : ¬ (s.length > 1048576 ∨ (D8 s).length > 4096) := fun h1 => by rw [V7, if_pos h1] at h; omega
  have hv : (Q8 s)[(Q8 s).length - 1]? = some ((Q8 s).getLastD []) := by
   rw [← List.getLast?_eq_getElem?, List.getLast?_eq_some_getLast (fun e => by rw [e] at hc; simp at hc)]
   rw [List.getLastD_eq_getLast?, List.getLast?_eq_some_getLast (fun e => by rw [e] at hc; simp at hc)]; rfl
  have hi : (((Q8 s).length : Int) - 1).toNat = (Q8 s).length - 1 := by omega
  refine k5 (k1 (k2 ?_))
  refine A4 (A2 (A3 Z Z) Z (C3 (splitAfter_ok s hs) Z Z Z ?_)); rintro _ rfl; refine A2 (A5 Z Z) Z (A6 ?_)
  refine H9 ?_
  refine W6 [(5, D3 Str 1 I2 (D8 s))] [] ?_ ?_
  ·refine k2 ?_
   refine A4 (A2 (A3 Z Z) Z (A2 (A3 Z Z) Z (A2 (E1 Z (.pure _ _ _ _)) Z (A2 (I1 Z Z (by omega)) Z (A2 (B5 Z (.pure _ _ _ _) Z (by omega) (by rw [hi]; exact hv)) Z ?_))))); refine A2 (B9 Z Z) Z (A2 (d8 Z Z) Z (A6 ?_))
   refine k1 ?_
   refine B2 rfl (fun ht => ?_) (fun ht => ?_)
   ·have h2 := A0 ht
    skip
    refine A4 (A2 (A3 Z Z) Z (A2 (A3 Z Z) Z (A2 (E1 Z (.pure _ _ _ _)) Z (A2 (I1 Z Z (by omega)) Z (A2 (n_slice_h Z (.pure _ _ _ _) Z (by omega) (by omega)) Z (A2 (A5 Z Z) Z (A6 ?_)))))))
    refine k1 ?_
    rw [hp, if_pos h2, List.dropLast_eq_take, ← hi]
    exact Sees.of ⟨le1 rfl, trivial⟩ trivial
   ·have h2 := A1 ht
    refine k5 (k1 ?_)
    rw [hp, if_neg h2]
    exact Sees.of ⟨le1 rfl, trivial⟩ trivial
  ·refine k2 ?_
   refine A4 (A2 (A3 Z Z) Z (A2 (A5 Z Z) Z (A2 (A5 Z Z) Z (A6 ?_))))
   refine k1 (k10 ?_)
   exact B6 (U5 rfl rfl rfl rfl rfl) (by rw [F1, if_neg h1])
theorem rsplit_ok (s : Str) (hs : s.length ≤ 536870912) : FnOk Tryz.prog 118 [G6 s] (fun rs => rs = [R3 (F1 s).1, F0 (F1 s).2]) := by
 refine FnOk.intro Tryz.func118 (by decide) Z Z Z Z ?_
 refine k2 ?_
 refine A4 (A2 (A5 Z Z) Z (A2 (A5 Z Z) Z (A6 ?_)))
 refine k1 (k2 (k2 ?_))
 refine A4 (A2 (A3 Z Z) Z (C3 (check_ok s (by omega)) Z Z Z ?_)); rintro _ rfl; refine A2 (K7 Z Z) Z (A6 ?_)
 refine k1 ?_
 refine B2 rfl (fun ht => ?_) (fun ht => ?_)
 ·have h : V7 s ≠ 0 := by simpa using ht
  have h1 : s.length > 1048576 ∨ (D8 s).length > 4096 := by
   by_cases h1 : s.length > 1048576 ∨ (D8 s).length > 4096
   ·exact h1
   ·exact absurd (by rw [V7, if_neg h1]) h
  refine k2 ?_
  refine A4 (A2 (Q6 _ 1 I2) Z (A2 (A5 Z Z) Z (A6 ?_)))
  refine k1 (k10 (k11 ?_))
  exact B6 (U5 rfl rfl rfl rfl rfl) (by rw [F1, if_pos h1])
 ·have h : V7 s = 0 := by simpa using ht
  have h1 : ¬ (s.length > 1048576 ∨ (D8 s).length > 4096) := fun h1 => by rw [V7, if_pos h1] at h; omega
  refine k5 (k1 (k2 ?_))
  refine A4 (A2 (A3 Z Z) Z (C3 (lines_ok s (by omega)) Z Z Z ?_)); rintro _ rfl; refine A2 (A5 Z Z) Z (A2 (A5 Z Z) Z (A6 ?_))
  refine k1 (k10 ?_)
  exact B6 (U5 rfl rfl rfl rfl rfl) (by rw [F1, if_neg h1])
def X8 (r : Str) : List Str := (D8 (r ++ [10])).map List.dropLast
theorem cuts_cut {a b : Str} (h : (10 : UInt8) ∉ a) : X8 (a ++ 10 :: b) = a :: X8 b := by
 unfold X8 D8
 rw [List.append_assoc, List.cons_append, linesAux_cut _ _ _ h]; simp
theorem cuts_last {r : Str} (h : (10 : UInt8) ∉ r) : X8 r = [r] := by
 unfold X8 D8
 rw [linesAux_cut _ _ _ h]; simp [G4]
theorem cuts_count (r : Str) : (X8 r).length = r.count 10 + 1 := by
 unfold X8
 rw [List.length_map, linesOf_count, List.count_append, ended_app]; simp
theorem cuts_step {P : List Str} {i : Nat} {r a b : Str} (h : P.drop i = X8 r) (hr : r = a ++ 10 :: b) (ha : (10 : UInt8) ∉ a) : P[i]? = some a ∧ P.drop (i + 1) = X8 b := by
 have e : X8 r = a :: X8 b := by rw [hr, cuts_cut ha]
 rw [e] at h
 refine ⟨by rw [← List.head?_drop, h]; rfl, ?_⟩
 rw [← List.tail_drop, h]; rfl
theorem linesS_cuts {s : Str} (h : s ≠ []) : linesS s = if ended s = true then some (X8 s.dropLast) else none := by
 unfold linesS
 rw [if_neg h]
 by_cases he : ended s = true
 ·rw [if_pos he, if_pos he]
  obtain ⟨a, rfl⟩ := ended_iff.1 he
  rw [List.dropLast_concat]; rfl
 ·rw [if_neg he, if_neg he]
theorem genSplit0_ok (s : Str) (hs : s.length ≤ 536870912) : FnOk Tryz.prog 197 [G6 s, G6 [10], F0 0, F0 (-1)] (fun rs => rs = [R3 (X8 s)]) := by
 have hP := cuts_count s
 have hc : s.count 10 ≤ s.length := List.count_le_length
 have h10 : ([10] : Str).length = 1 := rfl
 obtain ⟨P, hPe⟩ : ∃ P, P = X8 s := ⟨_, rfl⟩
 have hPl : P.length = s.count 10 + 1 := by rw [hPe]; exact hP
 refine FnOk.intro Tryz.func197 (by decide) Z Z Z Z ?_
 refine k2 ?_
 refine A4 (A2 (A5 Z Z) Z (A6 ?_))
 refine k1 (k2 (k2 ?_))
 refine A4 (A2 (A3 Z Z) Z (A2 (I8 Z Z) Z (A6 ?_)))
 refine k1 ?_
 refine B2 rfl (fun ht => ?_) (fun ht => ?_)
 ·exact absurd (A0 ht) (by omega)
 refine k5 (k1 (k2 (k2 ?_)))
 refine A4 (A2 (A3 Z Z) Z (A2 (d8 Z Z) Z (A6 ?_)))
 refine k1 ?_
 refine B2 rfl (fun ht => ?_) (fun ht => ?_)
 ·exact absurd (A0 ht) (by simp)
 refine k5 (k1 (k2 (k2 ?_)))
 refine A4 (A2 (A3 Z Z) Z (A2 (E3 Z Z) Z (A6 ?_)))
 refine k1 ?_
 refine B2 rfl (fun ht => ?_) (fun ht => ?_)
 rotate_left
 ·exact absurd (A1 ht) (by omega)
 skip
 refine A4 (A2 (A3 Z Z) Z (A2 (A3 Z Z) Z (C3 (count1_ok s 10) Z Z Z ?_))); rintro _ rfl; refine A2 (C0 Z Z (by omega)) Z (A2 (A5 Z Z) Z (A6 ?_))
 refine k1 (k2 ?_)
 refine A4 (A2 (A3 Z Z) Z (A2 (A3 Z Z) Z (A2 (F5 Z) Z (A2 (C0 Z Z (by omega)) Z (A2 (n_min Z Z) Z (A2 (A5 Z Z) Z (A6 ?_)))))))
 refine k1 (k2 ?_)
 rw [show (if (s.length : Int) + 1 < (s.count 10 : Int) + 1 then (s.length : Int) + 1 else (s.count 10 : Int) + 1) = (P.length : Int) from by split <;> omega]
 refine A4 (A2 (A3 Z Z) Z (C9 (f_makeZ 9 Str I2 [] Z Z (by omega) (by omega) (fun _ => by first | exact ⟨⟨rfl, rfl⟩, trivial⟩ | exact ⟨T4 _ _ _, trivial⟩) (by first | rfl | (simp [I3, M7, Ob.free, SV.free, S1.free, TC.free] <;> rfl))) Z ?_)); refine A2 (A5 Z Z) Z (A6 ?_)
 refine k1 (k2 ?_)
 refine A4 (A2 (A3 Z Z) Z (A2 (I1 Z Z (by omega)) Z (A2 (A5 Z Z) Z (A6 ?_))))
 refine k1 (k2 ?_)
 refine A4 (A2 (A5 Z Z) Z (A6 ?_))
 refine k1 (k2 (k3 ?_))
 refine E2 (X := Nat × Str) (fun x => ([(0, O7 x.2), (1, O7 [10]), (2, C2 0), (3, C2 ((P.length : Int) - 1)), (9, .s (.one (.mut 9))), (10, C2 x.1)], [(9, .arr Str 1 I2 (P.take x.1 ++ List.replicate (P.length - x.1) []))])) (fun x => x.1 + 1 ≤ P.length ∧ P.drop x.1 = X8 x.2 ∧ x.2.length ≤ s.length) (fun x => P.length - x.1) (0, s) ⟨by dsimp only; omega, hPe, Nat.le_refl _⟩ (Sees.of ⟨le1 rfl, le1 rfl, le1 rfl, le1 rfl, le1 rfl, le1 rfl, trivial⟩ ⟨rfl, trivial⟩) ?_
 rintro ⟨i, r⟩ ⟨hi, hp, hr⟩
 dsimp only at hi hp hr ⊢
 refine k2 (k2 ?_)
 refine A4 (A2 (A3 Z Z) Z (A2 (A3 Z Z) Z (A2 (E3 Z Z) Z (A6 ?_))))
 refine k1 ?_
 refine B2 rfl (fun ht => ?_) (fun ht => ?_)
 ·have hlt : i + 1 < P.length := by have := A0 ht; omega
  have hin : (10 : UInt8) ∈ r := by
   have h1 := cuts_count r
   have h2 : (P.drop i).length = r.count 10 + 1 := by rw [hp]; exact h1
   rw [List.length_drop] at h2
   exact List.count_pos_iff.1 (by omega)
  rcases W2 10 r with ⟨h1, _⟩ | ⟨a, b, h1, h2, h3⟩
  ·exact absurd hin h1
  obtain ⟨h4, h5⟩ := cuts_step hp h1 h2
  have hl : r.length = a.length + 1 + b.length := by rw [h1]; simp; omega
  refine k5 (k1 (k3 (k2 ?_)))
  refine A4 (A2 (A3 Z Z) Z (A2 (A3 Z Z) Z (C3 (index1_ok r 10) Z Z Z ?_))); rintro _ rfl; refine A2 (A5 Z Z) Z (A6 ?_)
  refine k1 (k2 (k2 ?_))
  refine A4 (A2 (A3 Z Z) Z (A2 (E3 Z Z) Z (A6 ?_)))
  refine k1 ?_
  rw [h3]
  refine B2 rfl (fun ht => ?_) (fun ht => ?_)
  ·exact absurd (A0 ht) (by omega)
  refine k5 (k1 (k2 ?_))
  refine A4 (A2 (A3 Z Z) Z (A2 (A3 Z Z) Z (A2 (A3 Z Z) Z (A2 (A3 Z Z) Z (A2 (A3 Z Z) Z (A2 (C0 Z Z (by omega)) Z (A2 (n_sub_h Z Z (by omega) (by omega)) Z (A2 (M1 Z Z Z (by omega) (by (simp; omega))) Z (E9 (M2 TySz.out Z Z (by simp; omega) Z Z) (A6 ?_))))))))))
  refine k1 (k2 ?_)
  refine A4 (A2 (A3 Z Z) Z (A2 (A3 Z Z) Z (A2 (A3 Z Z) Z (A2 (F5 Z) Z (A2 (C0 Z Z (by omega)) Z (A2 (x6 Z Z (by omega) (by omega)) Z (A2 (A5 Z Z) Z (A6 ?_))))))))
  refine k1 ?_
  refine A4 (A2 (A3 Z Z) Z (A2 (C0 Z Z (by omega)) Z (A2 (A5 Z Z) Z (A6 ?_))))
  refine k4 (k1 ?_)
  have e1 : r.take (((a.length : Int) + 0).toNat) = a := by rw [h1, show ((a.length : Int) + 0).toNat = a.length by omega, List.take_left]
  have e2 : r.drop (((a.length : Int) + (([10] : Str).length : Int)).toNat) = b := by rw [h1, h10, show ((a.length : Int) + ((1 : Nat) : Int)).toNat = a.length + 1 by omega, show a ++ 10 :: b = (a ++ [10]) ++ b by simp, List.drop_left' (by simp)]
  refine ⟨(i + 1, b), ⟨by dsimp only; omega, h5, by dsimp only; omega⟩, by dsimp only; omega, ?_⟩
  rw [e1, e2]
  dsimp only
  rw [← fill_step P [] _ i h4]
  exact Sees.of ⟨le1 rfl, le1 rfl, le1 rfl, le1 rfl, le1 rfl, le1 rfl, trivial⟩ ⟨rfl, trivial⟩
 ·have hge : i + 1 = P.length := by have := A1 ht; omega
  have h1 := cuts_count r
  have h2 : (P.drop i).length = r.count 10 + 1 := by rw [hp]; exact h1
  rw [List.length_drop] at h2
  have h3 : (10 : UInt8) ∉ r := List.count_eq_zero.1 (by omega)
  have h4 : P[i]? = some r := by rw [← List.head?_drop, hp, cuts_last h3]; rfl
  refine k6 (k2 ?_)
  refine A4 (A2 (A3 Z Z) Z (A2 (A3 Z Z) Z (A2 (A3 Z Z) Z (A2 (M1 Z Z Z (by omega) (by (simp; omega))) Z (E9 (M2 TySz.out Z Z (by simp; omega) Z Z) (A6 ?_))))))
  refine k1 (k2 ?_)
  have e : (P.take i ++ List.replicate (P.length - i) ([] : Str)).set (i : Int).toNat r = P := by rw [Int.toNat_natCast, fill_step P [] r i h4, hge]; simp
  rw [e]
  refine F8 (Sees.freeze (k := 9) Z) ?_
  refine A4 (A2 (A3 Z Z) Z (A2 (A3 Z Z) Z (A2 (C0 Z Z (by omega)) Z (A2 (n_slice_h Z (.pure _ _ _ _) Z (by omega) (by omega)) Z (A2 (A5 Z Z) Z (A6 ?_))))))
  refine k1 (k10 ?_)
  exact B6 (H1 rfl rfl rfl) (by rw [show ((i : Int) + 1).toNat = P.length by omega, List.take_length, hPe])
theorem split_ok (s : Str) (hs : s.length ≤ 536870912) : FnOk Tryz.prog 146 [G6 s, G6 [10]] (fun rs => rs = [R3 (X8 s)]) := by
 refine FnOk.intro Tryz.func146 (by decide) Z Z Z Z ?_
 refine k2 ?_
 refine A4 (A2 (A5 Z Z) Z (A6 ?_))
 refine k1 (k2 ?_)
 refine A4 (A2 (A3 Z Z) Z (A2 (A3 Z Z) Z (C3 (genSplit0_ok s hs) Z Z Z ?_))); rintro _ rfl; refine A2 (A5 Z Z) Z (A6 ?_)
 refine k1 (k10 ?_)
 exact B6 (H1 rfl rfl rfl) rfl
theorem lhasPrefix_ok (s p : Str) : FnOk Tryz.prog 257 [G6 s, G6 p] (fun rs => rs = [F9 (decide (s.take p.length = p))]) := by
 refine FnOk.intro Tryz.func257 (by decide) Z Z Z Z ?_
 refine k2 ?_
 refine A4 (A2 (A5 Z Z) Z (A6 ?_))
 refine k1 (k2 ?_)
 refine A4 (A2 (A3 Z Z) Z (A2 (F5 Z) Z (A2 (A3 Z Z) Z (A2 (F5 Z) Z (A2 (l8 Z Z) Z (A2 (A3 Z Z) Z (B0 Z Z Z Z (fun hg => by rw [hg]; exact A3 Z Z) ?_))))))); refine B0 Z Z Z Z (fun hg => by rw [hg]; exact A3 Z Z) ?_; refine B0 Z Z Z Z (fun hg => by rw [hg]; exact F5 Z) ?_; refine B0 Z Z Z Z (fun hg => by have hq := hg; (try simp at hq); rw [hg]; exact n_sub_h Z Z (by omega) (by omega)) ?_; refine B0 Z Z Z Z (fun hg => by rw [hg]; exact A3 Z Z) ?_; refine B0 Z Z Z Z (fun hg => by rw [hg]; exact d8 Z Z) ?_; refine A2 (B1 Z (fun h => by first | rfl | (rw [h]; rfl)) (fun h => by first | rfl | (rw [h]; rfl))) Z ?_; refine A2 (A5 Z Z) Z (A6 ?_)
 simp only [G2, Int.toNat_natCast]
 refine k1 (k10 ?_)
 refine B6 (H1 Z Z Z) ?_
 congr 4
 congr 1
 apply propext; constructor
 ·intro h; exact h.2
 ·intro h
  refine ⟨?_, h⟩
  have := congrArg List.length h
  rw [List.length_take] at this; omega
theorem hasPrefix_ok (s p : Str) : FnOk Tryz.prog 222 [G6 s, G6 p] (fun rs => rs = [F9 (decide (s.take p.length = p))]) := by
 refine FnOk.intro Tryz.func222 (by decide) Z Z Z Z ?_
 refine k2 ?_
 refine A4 (A2 (A5 Z Z) Z (A6 ?_))
 refine k1 (k2 ?_)
 refine A4 (A2 (A3 Z Z) Z (A2 (A3 Z Z) Z (C3 (lhasPrefix_ok s p) Z Z Z ?_))); rintro _ rfl; refine A2 (A5 Z Z) Z (A6 ?_)
 refine k1 (k10 ?_)
 exact B6 (H1 rfl rfl rfl) rfl
def cutP (s p : Str) : List PV := if s.take p.length = p then [G6 (s.drop p.length), F9 true] else [G6 s, F9 false]
theorem lcutPrefix_ok (s p : Str) : FnOk Tryz.prog 252 [G6 s, G6 p] (fun rs => rs = cutP s p) := by
 refine FnOk.intro Tryz.func252 (by decide) Z Z Z Z ?_
 refine k2 ?_
 refine A4 (A2 (A5 Z Z) Z (A2 (A5 Z Z) Z (A6 ?_)))
 refine k1 (k2 (k2 ?_))
 refine A4 (A2 (A3 Z Z) Z (A2 (A3 Z Z) Z (C3 (lhasPrefix_ok s p) Z Z Z ?_))); rintro _ rfl; refine A2 (F4 Z) Z (A6 ?_)
 refine k1 ?_
 refine B2 rfl (fun ht => ?_) (fun ht => ?_)
 ·have h : ¬ s.take p.length = p := by intro h; rw [decide_eq_true h] at ht; cases ht
  refine k2 ?_
  refine A4 (A2 (A3 Z Z) Z (A2 (A5 Z Z) Z (A2 (A5 Z Z) Z (A6 ?_))))
  refine k1 (k10 (k11 ?_))
  exact B6 (rs := [G6 s, F9 false]) (U5 rfl rfl rfl rfl rfl) (by unfold cutP; rw [if_neg h])
 ·have h : s.take p.length = p := by
   by_cases h : s.take p.length = p
   ·exact h
   ·rw [decide_eq_false h] at ht; cases ht
  have hl : p.length ≤ s.length := by
   have := congrArg List.length h
   rw [List.length_take] at this; omega
  refine k5 (k1 (k2 ?_))
  refine A4 (A2 (A3 Z Z) Z (A2 (A3 Z Z) Z (A2 (F5 Z) Z (A2 (x6 Z Z (by omega) (by omega)) Z (A2 (A5 Z Z) Z (A2 (A5 Z Z) Z (A6 ?_)))))))
  refine k1 (k10 ?_)
  exact B6 (rs := [G6 (s.drop p.length), F9 true]) (U5 rfl rfl rfl rfl rfl) (by unfold cutP; rw [if_pos h])
theorem cutPrefix_ok (s p : Str) : FnOk Tryz.prog 213 [G6 s, G6 p] (fun rs => rs = cutP s p) := by
 have hc := lcutPrefix_ok s p
 unfold cutP at hc ⊢
 by_cases h : s.take p.length = p
 ·rw [if_pos h] at hc ⊢
  refine FnOk.intro Tryz.func213 (by decide) Z Z Z Z ?_
  refine k2 ?_
  refine A4 (A2 (A5 Z Z) Z (A2 (A5 Z Z) Z (A6 ?_)))
  refine k1 (k2 ?_)
  refine A4 (A2 (A3 Z Z) Z (A2 (A3 Z Z) Z (C3 (hc) Z Z Z ?_))); rintro _ rfl; refine A2 (B3 Z Z) Z (A2 (B3 Z Z) Z (A2 (A5 Z Z) Z (A2 (A5 Z Z) Z (A6 ?_))))
  refine k1 (k10 ?_)
  exact B6 (U5 rfl rfl rfl rfl rfl) rfl
 ·rw [if_neg h] at hc ⊢
  refine FnOk.intro Tryz.func213 (by decide) Z Z Z Z ?_
  refine k2 ?_
  refine A4 (A2 (A5 Z Z) Z (A2 (A5 Z Z) Z (A6 ?_)))
  refine k1 (k2 ?_)
  refine A4 (A2 (A3 Z Z) Z (A2 (A3 Z Z) Z (C3 (hc) Z Z Z ?_))); rintro _ rfl; refine A2 (B3 Z Z) Z (A2 (B3 Z Z) Z (A2 (A5 Z Z) Z (A2 (A5 Z Z) Z (A6 ?_))))
  refine k1 (k10 ?_)
  exact B6 (U5 rfl rfl rfl rfl rfl) rfl
theorem ended_drop (s : Str) : ended s = decide (1 ≤ s.length ∧ s.drop (s.length - 1) = [10]) := by
 by_cases h : ended s = true
 ·rw [h]
  obtain ⟨a, rfl⟩ := ended_iff.1 h
  symm; apply decide_eq_true; simp
 ·have h2 : ended s = false := by simpa using h
  rw [h2]; symm; apply decide_eq_false
  rintro ⟨h3, h4⟩
  refine h (ended_iff.2 ⟨s.take (s.length - 1), ?_⟩)
  rw [← h4, List.take_append_drop]
theorem lhasSuffix_ok (s : Str) (hs : s.length ≤ 1073741824) : FnOk Tryz.prog 251 [G6 s, G6 [10]] (fun rs => rs = [F9 (ended s)]) := by
 have h10 : ([10] : Str).length = 1 := rfl
 refine FnOk.intro Tryz.func251 (by decide) Z Z Z Z ?_
 refine k2 ?_
 refine A4 (A2 (A5 Z Z) Z (A6 ?_))
 refine k1 (k2 ?_)
 refine A4 (A2 (A3 Z Z) Z (A2 (F5 Z) Z (A2 (A3 Z Z) Z (A2 (F5 Z) Z (A2 (l8 Z Z) Z (A2 (A3 Z Z) Z (B0 Z Z Z Z (fun hg => by rw [hg]; exact A3 Z Z) ?_))))))); refine B0 Z Z Z Z (fun hg => by rw [hg]; exact A3 Z Z) ?_; refine B0 Z Z Z Z (fun hg => by rw [hg]; exact F5 Z) ?_; refine B0 Z Z Z Z (fun hg => by rw [hg]; exact A3 Z Z) ?_; refine B0 Z Z Z Z (fun hg => by rw [hg]; exact F5 Z) ?_; refine B0 Z Z Z Z (fun hg => by have hq := hg; (try simp at hq); rw [hg]; exact I1 Z Z (by omega)) ?_; refine B0 Z Z Z Z (fun hg => by have hq := hg; (try simp at hq); rw [hg]; exact x6 Z Z (by omega) (by omega)) ?_; refine B0 Z Z Z Z (fun hg => by rw [hg]; exact A3 Z Z) ?_; refine B0 Z Z Z Z (fun hg => by rw [hg]; exact d8 Z Z) ?_; refine A2 (B1 Z (fun h => by first | rfl | (rw [h]; rfl)) (fun h => by first | rfl | (rw [h]; rfl))) Z ?_; refine A2 (A5 Z Z) Z (A6 ?_)
 simp only [G2]
 refine k1 (k10 ?_)
 refine B6 (H1 Z Z Z) ?_
 rw [ended_drop, h10]
 congr 4
 congr 1
 rw [show ((s.length : Int) - ((1 : Nat) : Int)).toNat = s.length - 1 by omega]
 apply propext; constructor
 ·intro h; exact ⟨by omega, h.2⟩
 ·intro h; exact ⟨by omega, h.2⟩
def cutLf (s : Str) : List PV := if ended s = true then [G6 s.dropLast, F9 true] else [G6 s, F9 false]
theorem lcutSuffix_ok (s : Str) (hs : s.length ≤ 1073741824) : FnOk Tryz.prog 212 [G6 s, G6 [10]] (fun rs => rs = cutLf s) := by
 have h10 : ([10] : Str).length = 1 := rfl
 refine FnOk.intro Tryz.func212 (by decide) Z Z Z Z ?_
 refine k2 ?_
 refine A4 (A2 (A5 Z Z) Z (A2 (A5 Z Z) Z (A6 ?_)))
 refine k1 (k2 (k2 ?_))
 refine A4 (A2 (A3 Z Z) Z (A2 (A3 Z Z) Z (C3 (lhasSuffix_ok s hs) Z Z Z ?_))); rintro _ rfl; refine A2 (F4 Z) Z (A6 ?_)
 refine k1 ?_
 refine B2 rfl (fun ht => ?_) (fun ht => ?_)
 ·have h : ended s = false := by cases h : ended s <;> rw [h] at ht <;> simp at ht ⊢
  refine k2 ?_
  refine A4 (A2 (A3 Z Z) Z (A2 (A5 Z Z) Z (A2 (A5 Z Z) Z (A6 ?_))))
  refine k1 (k10 (k11 ?_))
  exact B6 (rs := [G6 s, F9 false]) (U5 rfl rfl rfl rfl rfl) (by unfold cutLf; rw [h]; rfl)
 ·have h : ended s = true := by cases h : ended s <;> rw [h] at ht <;> simp at ht ⊢
  have hl : 1 ≤ s.length := by obtain ⟨a, rfl⟩ := ended_iff.1 h; simp
  refine k5 (k1 (k2 ?_))
  refine A4 (A2 (A3 Z Z) Z (A2 (A3 Z Z) Z (A2 (F5 Z) Z (A2 (A3 Z Z) Z (A2 (F5 Z) Z (A2 (I1 Z Z (by omega)) Z (A2 (n_sub_h Z Z (by omega) (by omega)) Z (A2 (A5 Z Z) Z (A2 (A5 Z Z) Z (A6 ?_))))))))))
  refine k1 (k10 ?_)
  refine B6 (rs := [G6 s.dropLast, F9 true]) (U5 rfl rfl (by rw [h10, show ((s.length : Int) - ((1 : Nat) : Int)).toNat = s.length - 1 by omega, ← List.dropLast_eq_take]; rfl) rfl rfl) (by unfold cutLf; rw [if_pos h])
theorem cutSuffix_ok (s : Str) (hs : s.length ≤ 1073741824) : FnOk Tryz.prog 145 [G6 s, G6 [10]] (fun rs => rs = cutLf s) := by
 have hc := lcutSuffix_ok s hs
 unfold cutLf at hc ⊢
 by_cases h : ended s = true
 ·rw [if_pos h] at hc ⊢
  refine FnOk.intro Tryz.func145 (by decide) Z Z Z Z ?_
  refine k2 ?_
  refine A4 (A2 (A5 Z Z) Z (A2 (A5 Z Z) Z (A6 ?_)))
  refine k1 (k2 ?_)
  refine A4 (A2 (A3 Z Z) Z (A2 (A3 Z Z) Z (C3 (hc) Z Z Z ?_))); rintro _ rfl; refine A2 (B3 Z Z) Z (A2 (B3 Z Z) Z (A2 (A5 Z Z) Z (A2 (A5 Z Z) Z (A6 ?_))))
  refine k1 (k10 ?_)
  exact B6 (U5 rfl rfl rfl rfl rfl) rfl
 ·rw [if_neg h] at hc ⊢
  refine FnOk.intro Tryz.func145 (by decide) Z Z Z Z ?_
  refine k2 ?_
  refine A4 (A2 (A5 Z Z) Z (A2 (A5 Z Z) Z (A6 ?_)))
  refine k1 (k2 ?_)
  refine A4 (A2 (A3 Z Z) Z (A2 (A3 Z Z) Z (C3 (hc) Z Z Z ?_))); rintro _ rfl; refine A2 (B3 Z Z) Z (A2 (B3 Z Z) Z (A2 (A5 Z Z) Z (A2 (A5 Z Z) Z (A6 ?_))))
  refine k1 (k10 ?_)
  exact B6 (U5 rfl rfl rfl rfl rfl) rfl
def linesR (s : Str) : List PV := match linesS s with
 | none => [R3 [], F9 false]
 | some l => [R3 l, F9 true]
theorem stLines_ok (s : Str) (hs : s.length ≤ 536870912) : FnOk Tryz.prog 75 [G6 s] (fun rs => rs = linesR s) := by
 refine FnOk.intro Tryz.func75 (by decide) Z Z Z Z ?_
 refine k2 ?_
 refine A4 (A2 (A5 Z Z) Z (A2 (A5 Z Z) Z (A6 ?_)))
 refine k1 (k2 (k2 ?_))
 refine A4 (A2 (A3 Z Z) Z (A2 (d8 Z Z) Z (A6 ?_)))
 refine k1 ?_
 refine B2 rfl (fun ht => ?_) (fun ht => ?_)
 ·have h : s = [] := A0 ht
  refine k2 ?_
  refine A4 (A2 (Q6 _ 1 I2) Z (A2 (A5 Z Z) Z (A6 ?_)))
  refine k1 (k10 (k11 ?_))
  exact B6 (rs := [R3 [], F9 true]) (U5 rfl rfl rfl rfl rfl) (by unfold linesR linesS; rw [if_pos h])
 have h : s ≠ [] := A1 ht
 have hc := cutSuffix_ok s (by omega)
 unfold cutLf at hc
 by_cases he : ended s = true
 ·rw [if_pos he] at hc
  have hl : s.dropLast.length ≤ s.length := by rw [List.length_dropLast]; omega
  refine k5 (k1 (k2 ?_))
  refine A4 (A2 (A3 Z Z) Z (C3 (hc) Z Z Z ?_)); rintro _ rfl; refine A2 (A3 Z Z) Z (A2 (B3 Z Z) Z (A2 (B3 Z Z) Z (A2 (A5 Z Z) Z (A2 (A5 Z Z) Z (A6 ?_)))))
  refine k1 (k2 (k2 ?_))
  refine A4 (A2 (A3 Z Z) Z (A2 (F4 Z) Z (A6 ?_)))
  refine k1 ?_
  refine B2 rfl (fun ht => ?_) (fun ht => ?_)
  ·cases ht
  refine k5 (k1 (k2 ?_))
  refine A4 (A2 (A3 Z Z) Z (C3 (split_ok s.dropLast (by omega)) Z Z Z ?_)); rintro _ rfl; refine A2 (A5 Z Z) Z (A2 (A5 Z Z) Z (A6 ?_))
  refine k1 (k10 ?_)
  exact B6 (rs := [R3 (X8 s.dropLast), F9 true]) (U5 rfl rfl rfl rfl rfl) (by unfold linesR; rw [linesS_cuts h, if_pos he])
 ·rw [if_neg he] at hc
  refine k5 (k1 (k2 ?_))
  refine A4 (A2 (A3 Z Z) Z (C3 (hc) Z Z Z ?_)); rintro _ rfl; refine A2 (A3 Z Z) Z (A2 (B3 Z Z) Z (A2 (B3 Z Z) Z (A2 (A5 Z Z) Z (A2 (A5 Z Z) Z (A6 ?_)))))
  refine k1 (k2 (k2 ?_))
  refine A4 (A2 (A3 Z Z) Z (A2 (F4 Z) Z (A6 ?_)))
  refine k1 ?_
  refine B2 rfl (fun ht => ?_) (fun ht => ?_)
  ·refine k2 ?_
   refine A4 (A2 (Q6 _ 1 I2) Z (A2 (A5 Z Z) Z (A6 ?_)))
   refine k1 (k10 (k11 ?_))
   exact B6 (rs := [R3 [], F9 false]) (U5 rfl rfl rfl rfl rfl) (by unfold linesR; rw [linesS_cuts h, if_neg he])
  ·cases ht
end Go.Proofs.YtgejaedjnbjpoaaGreatDoor
