/- Walks of the program's functions. -/
import Derived.Test.YtgejaedjnbjpoaaGreatDoorFf
import Derived.Test.YtgejaedjnbjpoaaGreatDoorFe
import Derived.Test.YtgejaedjnbjpoaaGreatDoorFs
import Derived.Test.YtgejaedjnbjpoaaGreatDoorFd
namespace Go.Proofs.YtgejaedjnbjpoaaGreatDoor
open Go Go.AL
set_option maxRecDepth 100000
theorem word_ex (s : Str) (i : Nat) : ∃ (w : Str) (e : Int) (b : Bool), wordR s i = [E6 w, E2 e, C4 b] ∧ match N4 (s.drop i) with
  | some q => b = true ∧ w = q.1 ∧ e = ((i + q.2 : Nat) : Int)
  | none => b = false := by
 cases h : N4 (s.drop i) with
 | none => exact ⟨_, _, _, W2 h, rfl⟩
 | some q => obtain ⟨w, k⟩ := q; exact ⟨_, _, _, wordR_some h, rfl, rfl, rfl⟩
theorem num_ex (s : Str) (i : Nat) : ∃ (n e : Int) (b : Bool), numR s i = [E2 n, E2 e, C4 b] ∧ match M1 (s.drop i) with
  | some q => b = true ∧ n = (q.1 : Int) ∧ e = ((i + q.2 : Nat) : Int)
  | none => b = false := by
 cases h : M1 (s.drop i) with
 | none => exact ⟨_, _, _, u6 h, rfl⟩
 | some q => obtain ⟨n, k⟩ := q; exact ⟨_, _, _, u5 h, rfl, rfl, rfl⟩
theorem kind_D {y : Str} {D : Bool} (hD : D = decide (y.take 10 = ccS)) : Y8 y = if y.take (Q5 D).length = Q5 D then some (D, y.drop (Q5 D).length) else none := by
 unfold Y8
 by_cases h : y.take 10 = ccS
 ·rw [decide_eq_true h] at hD
  subst hD
  rw [if_pos h, if_pos (show y.take (Q5 true).length = Q5 true from h)]; rfl
 ·rw [decide_eq_false h] at hD
  subst hD
  rw [if_neg h]; rfl
theorem readC_eq {l : List Str} {y0 y1 : Str} (h0 : l[0]? = some y0) (h1 : l[1]? = some y1) : Z5 l = match N9 false y0 y1 with
  | some (d, p, n) => (match M3 n.toNat l 2 [] with | some hs => some ⟨p, d, n, hs⟩ | none => none)
  | none => none := by
 match l, h0, h1 with
 | a :: b :: r, h0, h1 =>
  cases h0; cases h1; rfl
theorem span_cnt {l pre : Str} {i : Nat} {a n : Int} {e : Nat} (h : O9 l i pre = some (a, n, e)) : 0 ≤ n ∧ n ≤ 2147483647 := by
 have hf : ∀ {s : Str} {a c e : Nat} {r : Int × Int × Nat}, g9 s a c e = some r → r.2.1 = c := by
  intro s a c e r h
  unfold g9 at h
  obtain ⟨st, hst⟩ : ∃ st : Int, st = if 0 < c then (a : Int) - 1 else a := ⟨_, rfl⟩
  rw [← hst] at h
  by_cases hc : E9 st c = s.take e
  ·rw [if_pos hc] at h; cases h; rfl
  ·rw [if_neg hc] at h; cases h
 have hr : ∀ {s : Str} {a n : Int} {e : Nat}, L9 s = some (a, n, e) → 0 ≤ n ∧ n ≤ 2147483647 := by
  intro s a n e h
  unfold L9 at h
  cases h1 : M1 s with
  | none => rw [h1] at h; cases h
  | some p =>
   obtain ⟨v, k⟩ := p
   rw [h1] at h
   dsimp only at h
   split at h
   ·cases h2 : M1 (s.drop (k + 1)) with
    | none => rw [h2] at h; cases h
    | some q =>
     obtain ⟨c, k'⟩ := q
     rw [h2] at h
     have := hf h
     have := (a7 h2).2.2.2.2
     dsimp only at *; omega
   ·have := hf h
    dsimp only at this; omega
 unfold O9 at h
 split at h
 ·cases h3 : L9 (l.drop (i + pre.length)) with
  | none => rw [h3] at h; cases h
  | some q =>
   obtain ⟨x, y, z⟩ := q
   rw [h3] at h
   have := hr h3
   simp at h; omega
 ·cases h
theorem sides_cnt {n : Nat} {l : Str} : ∀ (m k i : Nat) {a c : List Int}, N8 n l m k i = some (a, c) → ∀ x ∈ c, 0 ≤ x ∧ x ≤ 2147483647
 | 0, k, i, a, c, h, x, hx => by cases h; cases hx
 | m + 1, k, i, a, c, h, x, hx => by
  cases hs : O9 l i [32, J2 n k] with
  | none => rw [sides_no hs] at h; cases h
  | some q =>
   obtain ⟨u, v, j⟩ := q
   rw [sides_step hs] at h
   cases hr : N8 n l m (k + 1) j with
   | none => rw [hr] at h; cases h
   | some q =>
    obtain ⟨a', c'⟩ := q
    rw [hr] at h
    cases h
    rcases List.mem_cons.1 hx with rfl | hx
    ·exact span_cnt hs
    ·exact sides_cnt m (k + 1) j hr x hx
theorem bodyC_end {n : Nat} {l : List Str} {i : Nat} {cs : List Int} {acc : List Row} (h : n8 cs = false) : R2 n l i cs acc = some (acc, i) := by rw [R2, if_neg (by rw [h]; decide)]
theorem bodyC_out {n : Nat} {l : List Str} {i : Nat} {cs : List Int} {acc : List Row} (h : n8 cs = true) (h2 : l.length ≤ i) : R2 n l i cs acc = none := by rw [R2, if_pos h, dif_neg (by omega)]
theorem bodyC_no {n : Nat} {l : List Str} {i : Nat} {cs : List Int} {acc : List Row} {y : Str} (h : n8 cs = true) (h2 : l[i]? = some y) (h3 : AL.rowAt (y ++ [10]) n = none) : R2 n l i cs acc = none := by
 obtain ⟨hi, he⟩ := List.getElem?_eq_some_iff.1 h2
 rw [R2, if_pos h, dif_pos hi, he, h3]
theorem bodyC_row {n : Nat} {l : List Str} {i : Nat} {cs : List Int} {acc : List Row} {y : Str} {r : Row} (h : n8 cs = true) (h2 : l[i]? = some y) (h3 : AL.rowAt (y ++ [10]) n = some r) :
  R2 n l i cs acc = if l[i + 1]? = some noNl then R2 n l (i + 2) (Z4 n r cs) (acc ++ [⟨r.Lost, r.Marks, r.Text.dropLast⟩]) else R2 n l (i + 1) (Z4 n r cs) (acc ++ [r]) := by
 obtain ⟨hi, he⟩ := List.getElem?_eq_some_iff.1 h2
 rw [R2, if_pos h, dif_pos hi, he, h3]
def W3 (n : Nat) (r : Row) (cs : List Int) (k : Nat) : List Int := (List.range (n + 1)).map fun j => if j < k then cs.getD j 0 - (if P6 r (I9 n j) = true then 1 else 0) else cs.getD j 0
theorem downTo_len (n : Nat) (r : Row) (cs : List Int) (k : Nat) : (W3 n r cs k).length = n + 1 := by unfold W3; simp
theorem downTo_zero {n : Nat} {cs : List Int} (r : Row) (hl : cs.length = n + 1) : W3 n r cs 0 = cs := by
 unfold W3
 refine List.ext_getElem (by simp [hl]) fun k h1 h2 => ?_
 rw [List.getElem_map, List.getElem_range, if_neg (by omega), List.getD_eq_getElem?_getD, List.getElem?_eq_getElem h2]; rfl
theorem downTo_get (n : Nat) (r : Row) (cs : List Int) (k : Nat) (hk : k < n + 1) : (W3 n r cs k)[k]? = some (cs.getD k 0) := by
 unfold W3
 rw [List.getElem?_map, List.getElem?_range hk]; simp
theorem downTo_step (n : Nat) (r : Row) (cs : List Int) (k : Nat) (hk : k < n + 1) : W3 n r cs (k + 1) = if P6 r (I9 n k) = true then (W3 n r cs k).set k (cs.getD k 0 - 1) else W3 n r cs k := by
 by_cases hv : P6 r (I9 n k) = true
 ·rw [if_pos hv]
  unfold W3
  rw [range_setC]
  refine List.map_congr_left fun j hj => ?_
  by_cases e : j = k
  ·subst e; rw [if_pos rfl, if_pos (by omega), if_pos hv]
  ·rw [if_neg e]
   by_cases h3 : j < k
   ·rw [if_pos (by omega), if_pos h3]
   ·rw [if_neg (by omega), if_neg h3]
 ·rw [if_neg hv]
  unfold W3
  refine List.map_congr_left fun j hj => ?_
  by_cases e : j = k
  ·subst e; rw [if_pos (by omega), if_neg hv, if_neg (by omega)]; omega
  ·by_cases h3 : j < k
   ·rw [if_pos (by omega), if_pos h3]
   ·rw [if_neg (by omega), if_neg h3]
theorem downTo_full (n : Nat) (r : Row) (cs : List Int) : W3 n r cs (n + 1) = Z4 n r cs := by
 unfold W3 Z4
 refine List.map_congr_left fun k hk => ?_
 rw [if_pos (List.mem_range.1 hk)]
theorem downC_in {n : Nat} {r : Row} {cs : List Int} {b : Int} (hl : cs.length = n + 1) (h : ∀ c ∈ cs, -b ≤ c ∧ c ≤ 2147483647) : ∀ c ∈ Z4 n r cs, -(b + 1) ≤ c ∧ c ≤ 2147483647 := by
 intro c hc
 unfold Z4 at hc
 obtain ⟨k, hk, rfl⟩ := List.mem_map.1 hc
 have hk := List.mem_range.1 hk
 have := h _ (List.mem_of_getElem? (getI (l := cs) (i := k) (by omega)))
 split <;> omega
abbrev K1 : Ob := .box [.p (.v (.string ⟨#[]⟩)), .p (.v (.bool false)), .p (.v (.int .i64 0)), .p (.v (.slice none 0 0))]
abbrev cBoxG (p : Str) (d : Bool) (n : Int) (hs : List CHunk) : Ob := .box [.p (.v (.string ⟨p.toArray⟩)), .p (.v (.bool d)), .p (.v (.int .i64 n)), .buf 701 CHunk 2 J7 hs]
abbrev hBoxC (a : List Int) (rs : List Row) : Ob := .box [.p (.list Int 1 H7 a), .buf 702 Row 3 rowC rs]
set_option maxHeartbeats 4000000
theorem rread19_ok (l : List Str) (hll : l.length ≤ 134217728) (hsz : ∀ s ∈ l, s.length ≤ 4194304) : FnOk Tryz.prog 85 [i7 l]
  (fun rs => ∃ (p : Comb) (ok : Bool), rs = [I7 p, C4 ok] ∧ match Z5 l with
   | some p' => ok = true ∧ p = p'
   | none => ok = false) := by
 obtain ⟨y0, hy0⟩ : ∃ y, y = l.getD 0 [] := ⟨_, rfl⟩
 obtain ⟨y1, hy1⟩ : ∃ y, y = l.getD 1 [] := ⟨_, rfl⟩
 have hv0 : 0 < l.length → l[0]? = some y0 := fun h => by rw [hy0]; simp [h]
 have hv1 : 1 < l.length → l[1]? = some y1 := fun h => by rw [hy1]; simp [h]
 have hs1 := m7 y1 parS
 rw [show parS.length = 8 from rfl] at hs1
 refine FnOk.intro Tryz.func85 (by decide) Z Z Z Z ?_
 refine k2 ?_
 refine A3 (C0 (F0 2 Z) Z (A2 (A5 Z Z) Z (A6 ?_)))
 refine k1 (k2 ?_)
 refine A3 (C0 (F0 4 Z) Z (A6 ?_))
 refine k1 (k2 (k2 ?_))
 refine A3 (A2 (A4 Z Z) Z (A2 (I2 Z (.pure _ _ _ _)) Z (A2 (D5 Z Z) Z (A2 (A4 Z Z) Z (A8 Z Z Z Z (fun hg => by rw [hg]; exact A4 Z Z) ?_))))); refine A8 Z Z Z Z (fun hg => by have hq := hg; (try simp at hq); rw [hg]; exact B8 Z (.pure _ _ _ _) Z (by omega) (hv1 (by omega))) ?_; refine A8 Z Z Z Z (fun hg => by rw [hg]; exact C2 Z Z) ?_; refine A8 Z Z Z Z (fun hg => by have hq := hg; (try simp at hq); rw [hg]; exact G4 (hs1) Z Z) ?_; refine A8 Z Z Z Z (fun hg => by rw [hg]; exact D3 Z) ?_; refine A2 (B3 Z (fun h => by first | rfl | (rw [h]; rfl)) (fun h => by first | rfl | (rw [h]; rfl))) Z ?_; refine A6 ?_
 refine k1 ?_
 refine B2 rfl (fun ht => ?_) (fun ht => ?_)
 ·have hnone : Z5 l = none := by
   by_cases hlen : l.length < 2
   ·match l, hlen with
    | [], _ => rfl
    | [_], _ => rfl
   ·have hp : y1.take 8 ≠ parS := by
     intro hp
     rw [decide_eq_true hp] at ht
     revert ht; simp; omega
    rw [readC_eq (hv0 (by omega)) (hv1 (by omega))]
    have : N9 false y0 y1 = none := by
     unfold N9
     split
     ·rfl
     ·rw [if_neg hp]
    rw [this]
  rw [hnone]
  refine k2 ?_
  refine A3 (A2 (C1 Z Z Z) Z (D7 (B6 TySz.out Z Z Z Z Z Z) (A2 (A5 Z Z) Z (A6 ?_))))
  refine k1 ?_
  refine F6 (Sees.listB CHunk 2 J7 2 3 Z Z) ?_
  refine k10 (k11 ?_)
  exact B5 (rs := [I7 P7, C4 false]) (O1 rfl rfl rfl rfl rfl rfl rfl) ⟨_, false, rfl, rfl⟩
 have hlen : 2 ≤ l.length ∧ y1.take 8 = parS := by
  by_cases hlen : l.length < 2
  ·exfalso; revert ht; simp; omega
  ·refine ⟨by omega, ?_⟩
   by_cases hp : y1.take 8 = parS
   ·exact hp
   ·rw [decide_eq_false hp] at ht
    exfalso; revert ht; simp
 obtain ⟨hl2, hpar⟩ := hlen
 have hv0 := hv0 (by omega)
 have hv1 := hv1 (by omega)
 have hz0 := hsz y0 (List.mem_of_getElem? hv0)
 have hz1 := hsz y1 (List.mem_of_getElem? hv1)
 have h8 : 8 ≤ y1.length := by have := congrArg List.length hpar; rw [List.length_take, show parS.length = 8 from rfl] at this; omega
 have hRd := readC_eq hv0 hv1
 obtain ⟨D, hD⟩ : ∃ D, D = decide (y0.take 10 = ccS) := ⟨_, rfl⟩
 have hK := kind_D hD
 have hs0 := m7 y0 ccS
 rw [show ccS.length = 10 from rfl, ← hD] at hs0
 have hsK := m7 y0 (Q5 D)
 refine T3 [(0, F4 Str 1 K9 l), (2, .s (.one (.ref 2 0))), (4, .s (.one (.ref 4 0)))] [(2, K1), (4, K1)] (Sees.of ⟨le1 rfl, le1 rfl, le1 rfl, trivial⟩ ⟨rfl, rfl, trivial⟩) ?_
 refine k5 (k1 (k2 ?_))
 refine A3 (A2 (A5 Z Z) Z (A6 ?_))
 refine k1 (k2 ?_)
 refine A3 (A2 (A4 Z Z) Z (A2 (B8 Z (.pure _ _ _ _) Z (by omega) hv0) Z (A2 (C2 Z Z) Z (B7 (hs0) Z Z Z ?_)))); rintro _ rfl; refine A2 (A7 Z) Z (D7 (B6 TySz.out Z Z Z Z Z Z) (A6 ?_))
 refine H8 ?_
 refine U7 [(0, F4 Str 1 K9 l), (2, .s (.one (.ref 2 0))), (4, .s (.one (.ref 4 0))), (5, F9 (Q5 D))] [(2, K1), (4, .box [.p (.v (.string ⟨#[]⟩)), .p (.v (.bool D)), .p (.v (.int .i64 0)), .p (.v (.slice none 0 0))])] ?_ ?_
 ·refine k2 ?_
  refine A3 (A2 (A7 Z) Z (A2 (B0 Z Z Z) Z (A6 ?_)))
  refine k1 ?_
  refine B2 rfl (fun ht => ?_) (fun ht => ?_)
  ·have h : D = true := ht
   skip
   refine A3 (A2 (A5 Z Z) Z (A6 ?_))
   refine k1 ?_
   rw [show Q5 D = ccS by rw [h]; rfl]
   exact Sees.of ⟨le1 rfl, le1 rfl, le1 rfl, le1 rfl, trivial⟩ ⟨rfl, rfl, trivial⟩
  ·have h : D = false := ht
   refine k5 (k1 ?_)
   rw [show Q5 D = combS by rw [h]; rfl]
   exact Sees.of ⟨le1 rfl, le1 rfl, le1 rfl, le1 rfl, trivial⟩ ⟨rfl, rfl, trivial⟩
 obtain ⟨K, hKK⟩ : ∃ K, K = Q5 D := ⟨_, rfl⟩
 rw [← hKK] at hsK hK ⊢
 by_cases hk : y0.take K.length = K
 rotate_left
 ·rw [if_neg hk] at hK
  rw [decide_eq_false hk] at hsK
  have hnone : Z5 l = none := by
   rw [hRd]
   have : N9 false y0 y1 = none := by unfold N9; rw [hK]
   rw [this]
  rw [hnone]
  refine k2 (k2 ?_)
  refine A3 (A2 (A4 Z Z) Z (A2 (B8 Z (.pure _ _ _ _) Z (by omega) hv0) Z (A2 (C2 Z Z) Z (A2 (A4 Z Z) Z (B7 (hsK) Z Z Z ?_))))); rintro _ rfl; refine A2 (D3 Z) Z (A6 ?_)
  refine k1 ?_
  refine B2 rfl (fun ht => ?_) (fun ht => ?_)
  ·refine k2 ?_
   refine A3 (A2 (C1 Z Z Z) Z (D7 (B6 TySz.out Z Z Z Z Z Z) (A2 (A5 Z Z) Z (A6 ?_))))
   refine k1 ?_
   refine F6 (Sees.listB CHunk 2 J7 2 3 Z Z) ?_
   refine k10 (k11 ?_)
   exact B5 (rs := [I7 ⟨[], D, 0, []⟩, C4 false]) (O1 rfl rfl rfl rfl rfl rfl rfl) ⟨_, false, rfl, rfl⟩
  ·cases ht
 rw [if_pos hk] at hK
 rw [decide_eq_true hk] at hsK
 have hUq := rUnquote_ok y0 K.length (by omega)
 have hNb := y2 y1 8 h8 (by omega)
 obtain ⟨w, ew, bw, hw1, hw2⟩ := word_ex y0 K.length
 obtain ⟨n, en, bn, hn1, hn2⟩ := num_ex y1 8
 rw [hw1] at hUq
 rw [hn1] at hNb
 have hTt : N9 false y0 y1 = if bw = true ∧ bn = true ∧ 1 ≤ n ∧ n ≤ 32 then some (D, w, n) else none := by
  unfold N9
  rw [hK]
  dsimp only
  rw [if_pos hpar]
  cases g1 : N4 (y0.drop K.length) with
  | none => rw [g1] at hw2; have hw2 : bw = false := hw2; rw [if_neg (by simp [hw2])]
  | some q =>
   obtain ⟨w', k'⟩ := q
   rw [g1] at hw2
   obtain ⟨rfl, rfl, _⟩ := hw2
   cases g2 : M1 (y1.drop 8) with
   | none => rw [g2] at hn2; have hn2 : bn = false := hn2; rw [if_neg (by simp [hn2])]
   | some q2 =>
    obtain ⟨m', k2⟩ := q2
    rw [g2] at hn2
    obtain ⟨rfl, rfl, _⟩ := hn2
    dsimp only
    by_cases hc : 1 ≤ m' ∧ m' ≤ 32
    ·rw [if_pos ⟨(fun h => by cases h), hc⟩, if_pos ⟨rfl, rfl, by omega, by omega⟩]
    ·rw [if_neg (fun h => hc h.2), if_neg (by omega)]
 refine k2 (k2 ?_)
 refine A3 (A2 (A4 Z Z) Z (A2 (B8 Z (.pure _ _ _ _) Z (by omega) hv0) Z (A2 (C2 Z Z) Z (A2 (A4 Z Z) Z (B7 (hsK) Z Z Z ?_))))); rintro _ rfl; refine A2 (D3 Z) Z (A6 ?_)
 refine k1 ?_
 refine B2 rfl (fun ht => ?_) (fun ht => ?_)
 ·cases ht
 refine k5 (k1 (k2 ?_))
 refine A3 (A2 (A4 Z Z) Z (A2 (B8 Z (.pure _ _ _ _) Z (by omega) hv0) Z (A2 (C2 Z Z) Z (A2 (A4 Z Z) Z (A2 (C6 Z) Z (B7 (hUq) Z Z Z ?_)))))); rintro _ rfl; refine A2 (A4 Z Z) Z (A2 (A9 Z Z) Z (A2 (A9 Z Z) Z (A2 (A9 Z Z) Z (A2 (A5 Z Z) Z (A2 (A5 Z Z) Z (A2 (A5 Z Z) Z (A6 ?_)))))))
 refine k1 (k2 ?_)
 refine A3 (A2 (A4 Z Z) Z (A2 (B8 Z (.pure _ _ _ _) Z (by omega) hv1) Z (A2 (C2 Z Z) Z (B7 (hNb) Z Z Z ?_)))); rintro _ rfl; refine A2 (A4 Z Z) Z (A2 (A9 Z Z) Z (A2 (A9 Z Z) Z (A2 (A9 Z Z) Z (A2 (A5 Z Z) Z (A2 (A5 Z Z) Z (A2 (A5 Z Z) Z (A6 ?_)))))))
 refine k1 (k2 (k2 ?_))
 refine A3 (A2 (A4 Z Z) Z (A2 (D3 Z) Z (A2 (A4 Z Z) Z (A8 Z Z Z Z (fun hg => by rw [hg]; exact A4 Z Z) ?_)))); refine A8 Z Z Z Z (fun hg => by rw [hg]; exact D3 Z) ?_; refine A2 (B3 Z (fun h => by first | rfl | (rw [h]; rfl)) (fun h => by first | rfl | (rw [h]; rfl))) Z ?_; refine A2 (A4 Z Z) Z (A8 Z Z Z Z (fun hg => by rw [hg]; exact A4 Z Z) ?_); refine A8 Z Z Z Z (fun hg => by rw [hg]; exact D5 Z Z) ?_; refine A2 (B3 Z (fun h => by first | rfl | (rw [h]; rfl)) (fun h => by first | rfl | (rw [h]; rfl))) Z ?_; refine A2 (A4 Z Z) Z (A8 Z Z Z Z (fun hg => by rw [hg]; exact A4 Z Z) ?_); refine A8 Z Z Z Z (fun hg => by rw [hg]; exact M7 Z Z) ?_; refine A2 (B3 Z (fun h => by first | rfl | (rw [h]; rfl)) (fun h => by first | rfl | (rw [h]; rfl))) Z ?_; refine A6 ?_
 simp only [notB, or_pick]
 refine k1 ?_
 refine B2 rfl (fun ht => ?_) (fun ht => ?_)
 ·have h := A0 ht
  have hnone : Z5 l = none := by
   rw [hRd, hTt, if_neg (by
    rintro ⟨q1, q2, q3, q4⟩
    rw [q1, q2] at h
    simp at h; omega)]
  rw [hnone]
  refine k2 ?_
  refine A3 (A2 (C1 Z Z Z) Z (D7 (B6 TySz.out Z Z Z Z Z Z) (A2 (A5 Z Z) Z (A6 ?_))))
  refine k1 ?_
  refine F6 (Sees.listB CHunk 2 J7 2 3 Z Z) ?_
  refine k10 (k11 ?_)
  exact B5 (rs := [I7 ⟨[], D, 0, []⟩, C4 false]) (O1 rfl rfl rfl rfl rfl rfl rfl) ⟨_, false, rfl, rfl⟩
 have h := A1 ht
 simp only [not_or] at h
 have hg : bw = true ∧ bn = true ∧ 1 ≤ n ∧ n ≤ 32 := ⟨(by cases bw; exact absurd rfl h.1.1.1; rfl), (by cases bn; exact absurd rfl h.1.1.2; rfl), by omega, by omega⟩
 rw [hTt, if_pos hg] at hRd
 dsimp only at hRd
 obtain ⟨N, rfl⟩ : ∃ N : Nat, n = N := ⟨n.toNat, by omega⟩
 have hN : 1 ≤ N ∧ N ≤ 32 := by omega
 rw [Int.toNat_natCast] at hRd
 have hRn : M3 N l 2 [] = none → Z5 l = none := by intro h; rw [hRd, h]
 have hRs : ∀ hs, M3 N l 2 [] = some hs → Z5 l = some ⟨w, D, N, hs⟩ := by intro hs h; rw [hRd, h]
 clear hRd hTt hw1 hw2 hn1 hn2 hUq hNb hK hsK hs0 hs1 hv0 hv1 hD hKK hk
 refine T3 [(0, F4 Str 1 K9 l), (2, .s (.one (.ref 2 0))), (4, .s (.one (.ref 4 0))), (6, F9 w), (9, C3 N)] [(2, K1), (4, .box [.p (.v (.string ⟨#[]⟩)), .p (.v (.bool D)), .p (.v (.int .i64 0)), .p (.v (.slice none 0 0))])] (Sees.of ⟨le1 rfl, le1 rfl, le1 rfl, le1 rfl, le1 rfl, trivial⟩ ⟨rfl, rfl, trivial⟩) ?_
 refine k5 (k1 (k2 ?_))
 refine A3 (A2 (A4 Z Z) Z (A2 (A4 Z Z) Z (A2 (A7 Z) Z (D7 (B6 TySz.out Z Z Z Z Z Z) (A2 (A7 Z) Z (D7 (B6 TySz.out Z Z Z Z Z Z) (A6 ?_)))))))
 refine k1 (k2 ?_)
 refine F6 (Sees.adoptB 701 CHunk 2 J7 82 (kb := 4) (o := 3) Z Z Z) ?_
 skip
 refine A3 (A2 (A5 Z Z) Z (A6 ?_))
 refine k1 (k2 (k3 ?_))
 refine E0 (X := Nat × List CHunk) (fun x => ([(0, F4 Str 1 K9 l), (2, .s (.one (.ref 2 0))), (4, .s (.one (.ref 4 0))), (9, C3 N), (12, C3 x.1)], [(2, K1), (4, cBoxG w D N x.2), (701, .spare x.2.length 2 82)])) (fun x => x.1 ≤ l.length ∧ x.2.length ≤ x.1 ∧ M3 N l x.1 x.2 = M3 N l 2 []) (fun x => l.length - x.1) (2, []) ⟨hl2, Nat.zero_le _, rfl⟩ (Sees.of ⟨le1 rfl, le1 rfl, le1 rfl, le1 rfl, le1 rfl, trivial⟩ ⟨rfl, rfl, rfl, trivial⟩) ?_
 rintro ⟨i, hs⟩ ⟨hi, hhl, hf⟩
 dsimp only at hi hhl hf ⊢
 refine k2 (k2 ?_)
 refine A3 (A2 (A4 Z Z) Z (A2 (A4 Z Z) Z (A2 (I2 Z (.pure _ _ _ _)) Z (A2 (D5 Z Z) Z (A6 ?_)))))
 refine k1 ?_
 refine B2 rfl (fun ht => ?_) (fun ht => ?_)
 rotate_left
 ·have he : l.length ≤ i := by have := A1 ht; omega
  rw [chunksR_end he] at hf
  refine k6 (k2 ?_)
  refine A3 (A2 (C1 Z Z Z) Z (D7 (B6 TySz.out Z Z Z Z Z Z) (A2 (A5 Z Z) Z (A6 ?_))))
  refine k1 (k10 ?_)
  exact B5 (rs := [I7 ⟨w, D, N, hs⟩, C4 true]) (O1 rfl rfl rfl rfl rfl rfl rfl) ⟨_, true, rfl, by rw [hRs hs hf.symm]; exact ⟨rfl, rfl⟩⟩
 have hlt : i < l.length := by have := A0 ht; omega
 obtain ⟨x, hx⟩ : ∃ x, x = l[i] := ⟨_, rfl⟩
 have hv : l[i]? = some x := by rw [hx]; simp [hlt]
 have hxz := hsz x (List.mem_of_getElem? hv)
 have hm := rheader19_new x N hN.2 (by omega)
 refine T3 [(0, F4 Str 1 K9 l), (2, .s (.one (.ref 2 0))), (4, .s (.one (.ref 4 0))), (9, C3 N), (12, C3 i)] [(2, K1), (4, cBoxG w D N hs), (701, .spare hs.length 2 82)] (Sees.of ⟨le1 rfl, le1 rfl, le1 rfl, le1 rfl, le1 rfl, trivial⟩ ⟨rfl, rfl, rfl, trivial⟩) ?_
 cases hH : v8 N x with
 | none =>
  rw [hH] at hm
  rw [chunksR_bad hv hH] at hf
  refine k5 (k1 (k3 (k2 ?_)))
  refine A3 (A2 (A4 Z Z) Z (A2 (A4 Z Z) Z (A2 (B8 Z (.pure _ _ _ _) Z (by omega) hv) Z (A2 (C2 Z Z) Z (A2 (A4 Z Z) Z (l_new (hm) Z Z Z Z ?_)))))); rintro _ _ ⟨rfl, rfl⟩; refine ⟨rfl, ?_⟩; refine A2 (A4 Z Z) Z (A2 (A9 Z Z) Z (A2 (A9 Z Z) Z (A2 (A9 Z Z) Z (A2 (A5 Z Z) Z (A2 (A5 Z Z) Z (A2 (A5 Z Z) Z (A6 ?_)))))))
  refine k1 (k2 (k2 ?_))
  refine A3 (A2 (A4 Z Z) Z (A2 (D3 Z) Z (A6 ?_)))
  refine k1 ?_
  refine B2 rfl (fun ht => ?_) (fun ht => ?_)
  ·refine k2 ?_
   refine A3 (A2 (C1 Z Z Z) Z (D7 (B6 TySz.out Z Z Z Z Z Z) (A2 (A5 Z Z) Z (A6 ?_))))
   refine k1 (k10 (k11 (k12 (k11 (k12 (k11 ?_))))))
   exact B5 (rs := [I7 ⟨w, D, N, hs⟩, C4 false]) (O1 rfl rfl rfl rfl rfl rfl rfl) ⟨_, false, rfl, by rw [hRn hf.symm]⟩
  ·cases ht
 | some q =>
  obtain ⟨a, c0⟩ := q
  rw [hH] at hm
  obtain ⟨hal, hcl, _⟩ := headR_facts hH
  have hcb : ∀ v ∈ c0, 0 ≤ v ∧ v ≤ 2147483647 := sides_cnt _ _ _ hH
  refine k5 (k1 (k3 (k2 ?_)))
  refine A3 (A2 (A4 Z Z) Z (A2 (A4 Z Z) Z (A2 (B8 Z (.pure _ _ _ _) Z (by omega) hv) Z (A2 (C2 Z Z) Z (A2 (A4 Z Z) Z (l_new (hm) Z Z Z Z ?_)))))); rintro _ _ ⟨rfl, rfl⟩; refine ⟨rfl, ?_⟩; refine A2 (A4 Z Z) Z (A2 (A9 Z Z) Z (A2 (A9 Z Z) Z (A2 (A9 Z Z) Z (A2 (A5 Z Z) Z (A2 (A5 Z Z) Z (A2 (A5 Z Z) Z (A6 ?_)))))))
  refine k1 (k2 (k2 ?_))
  refine A3 (A2 (A4 Z Z) Z (A2 (D3 Z) Z (A6 ?_)))
  refine k1 ?_
  refine B2 rfl (fun ht => ?_) (fun ht => ?_)
  ·cases ht
  refine k5 (k1 (k2 ?_))
  refine A3 (A2 (A4 Z Z) Z (A2 (B9 Z Z (by omega)) Z (A2 (A5 Z Z) Z (A6 ?_))))
  refine k1 (k2 ?_)
  refine A3 (A2 (A4 Z Z) Z (A2 (H3 Z) Z (C0 (F0 16 Z) Z (D7 (B6 TySz.out Z Z Z Z Z Z) (A6 ?_)))))
  refine H8 ?_
  refine T3 [(0, F4 Str 1 K9 l), (2, .s (.one (.ref 2 0))), (4, .s (.one (.ref 4 0))), (9, C3 N), (12, C3 ((i : Int) + 1)), (14, .s (.one (.mut 724))), (16, .s (.one (.ref 16 0)))] [(2, K1), (4, cBoxG w D N hs), (701, .spare hs.length 2 82), (724, .grow 3 Int 1 H7 c0), (16, .box [.p (.list Int 1 H7 a), .p (.v (.slice none 0 0))])] (Sees.of ⟨le1 rfl, le1 rfl, le1 rfl, le1 rfl, le1 rfl, le1 rfl, le1 rfl, trivial⟩ ⟨rfl, rfl, rfl, rfl, rfl, trivial⟩) ?_
  refine F6 (Sees.adoptB 702 Row 3 rowC 69 (kb := 16) (o := 1) Z Z Z) ?_
  refine k2 (k3 ?_)
  refine E0 (X := Nat × List Int × List Row) (fun z => ([(0, F4 Str 1 K9 l), (2, .s (.one (.ref 2 0))), (4, .s (.one (.ref 4 0))), (9, C3 N), (12, C3 z.1), (14, .s (.one (.mut 724))), (16, .s (.one (.ref 16 0)))], [(2, K1), (4, cBoxG w D N hs), (701, .spare hs.length 2 82), (724, .grow 3 Int 1 H7 z.2.1), (16, hBoxC a z.2.2), (702, .spare z.2.2.length 3 69)])) (fun z => i + 1 ≤ z.1 ∧ z.1 ≤ l.length ∧ z.2.2.length ≤ z.1 ∧ z.2.1.length = N + 1 ∧ (∀ v ∈ z.2.1, -(z.1 : Int) ≤ v ∧ v ≤ 2147483647) ∧ R2 N l z.1 z.2.1 z.2.2 = R2 N l (i + 1) c0 []) (fun z => l.length - z.1) (i + 1, c0, []) ⟨Nat.le_refl _, hlt, Nat.zero_le _, hcl, fun v hv => by have := hcb v hv; dsimp only; omega, rfl⟩ (Sees.of ⟨le1 rfl, le1 rfl, le1 rfl, le1 rfl, le1 rfl, le1 rfl, le1 rfl, trivial⟩ ⟨rfl, rfl, rfl, rfl, rfl, rfl, trivial⟩) ?_
  rintro ⟨j, cs, rs⟩ ⟨hj1, hj2, hrl, hcsl, hcsb, hb⟩
  dsimp only at hj1 hj2 hrl hcsl hcsb hb ⊢
  cases hop : n8 cs with
  | false =>
   rw [bodyC_end hop] at hb
   rw [chunksR_step hv hH hb.symm hj1] at hf
   have hO := ropen_ok cs (by omega)
   rw [hop] at hO
   refine k2 (k2 ?_)
   refine A3 (A2 (A4 Z Z) Z (l_frozen ((Sees.freezeG (k := 724) Z Z)) (hO) Z Z Z ?_)); rintro _ rfl; refine ⟨fun _ _ _ h => h, ?_⟩; refine A6 ?_
   refine k1 ?_
   refine B2 rfl (fun ht => ?_) (fun ht => ?_)
   ·cases ht
   refine k6 (k7 (k7 (k8 Z (k1 ?_))))
   refine A3 (A2 (A7 Z) Z (A2 (B0 Z Z Z) Z (A2 (C1 Z Z Z) Z (A2 (D9 (c := J7) (ys := [⟨a, rs⟩]) (F8 Z Z Z Z H5) Z Z Z) Z (C0 (J0 Z Z Z (.pure _ _ _ _) (by (simp; omega)) Z) Z (A2 (A7 Z) Z (D7 (B6 TySz.out Z Z Z Z Z Z) (A6 ?_))))))))
   refine k4 (k1 ?_)
   exact ⟨(j, hs ++ [⟨a, rs⟩]), ⟨hj2, by simp; omega, hf⟩, by dsimp only; omega, Sees.of ⟨le1 rfl, le1 rfl, le1 rfl, le1 rfl, le1 rfl, trivial⟩ ⟨rfl, rfl, rfl, trivial⟩⟩
  | true =>
  have hO := ropen_ok cs (by omega)
  rw [hop] at hO
  refine k2 (k2 ?_)
  refine A3 (A2 (A4 Z Z) Z (l_frozen ((Sees.freezeG (k := 724) Z Z)) (hO) Z Z Z ?_)); rintro _ rfl; refine ⟨fun _ _ _ h => h, ?_⟩; refine A6 ?_
  refine k1 ?_
  refine B2 rfl (fun ht => ?_) (fun ht => ?_)
  rotate_left
  ·cases ht
  refine k5 (k1 (k3 (k2 (k2 ?_))))
  refine A3 (A2 (A4 Z Z) Z (A2 (A4 Z Z) Z (A2 (I2 Z (.pure _ _ _ _)) Z (A2 (W6 Z Z) Z (A6 ?_)))))
  refine k1 ?_
  refine B2 rfl (fun ht => ?_) (fun ht => ?_)
  ·have hge : l.length ≤ j := by have := A0 ht; omega
   rw [bodyC_out hop hge] at hb
   rw [y5 hv hH hb.symm] at hf
   refine k2 ?_
   refine A3 (A2 (C1 Z Z Z) Z (D7 (B6 TySz.out Z Z Z Z Z Z) (A2 (A5 Z Z) Z (A6 ?_))))
   refine k1 (k10 (k11 (k12 (k11 (k12 (k11 (k12 (k11 (k12 (k11 ?_))))))))))
   exact B5 (rs := [I7 ⟨w, D, N, hs⟩, C4 false]) (O1 rfl rfl rfl rfl rfl rfl rfl) ⟨_, false, rfl, by rw [hRn hf.symm]⟩
  have hjl : j < l.length := by have := A1 ht; omega
  obtain ⟨y, hy⟩ : ∃ y, y = l[j] := ⟨_, rfl⟩
  have hvy : l[j]? = some y := by rw [hy]; simp [hjl]
  have hyz := hsz y (List.mem_of_getElem? hvy)
  have hRw := rRow_ok (y ++ [10]) N
  refine T3 [(0, F4 Str 1 K9 l), (2, .s (.one (.ref 2 0))), (4, .s (.one (.ref 4 0))), (9, C3 N), (12, C3 j), (14, .s (.one (.mut 724))), (16, .s (.one (.ref 16 0)))] [(2, K1), (4, cBoxG w D N hs), (701, .spare hs.length 2 82), (724, .grow 3 Int 1 H7 cs), (16, hBoxC a rs), (702, .spare rs.length 3 69)] (Sees.of ⟨le1 rfl, le1 rfl, le1 rfl, le1 rfl, le1 rfl, le1 rfl, le1 rfl, trivial⟩ ⟨rfl, rfl, rfl, rfl, rfl, rfl, trivial⟩) ?_
  cases hr : Z1 (y ++ [10]) (N : Int) with
  | none =>
   rw [U4 hr] at hRw
   have hra : AL.rowAt (y ++ [10]) N = none := by unfold Z1 at hr; rw [if_neg (by omega), Int.toNat_natCast] at hr; exact hr
   rw [bodyC_no hop hvy hra] at hb
   rw [y5 hv hH hb.symm] at hf
   refine k5 (k1 (k2 ?_))
   refine A3 (A2 (A4 Z Z) Z (A2 (A4 Z Z) Z (A2 (B8 Z (.pure _ _ _ _) Z (by omega) hvy) Z (A2 (C2 Z Z) Z (A2 (D8 Z Z (by (simp; omega))) Z (A2 (A4 Z Z) Z (B7 (hRw) Z Z Z ?_))))))); rintro _ rfl; refine A2 (A4 Z Z) Z (A2 (A9 Z Z) Z (A2 (A9 Z Z) Z (C0 (F0 17 Z) Z (D7 (B6 TySz.out Z Z Z Z Z Z) (A2 (A5 Z Z) Z (A6 ?_))))))
   refine k1 (k2 (k2 ?_))
   refine A3 (A2 (A4 Z Z) Z (A2 (D3 Z) Z (A6 ?_)))
   refine k1 ?_
   refine B2 rfl (fun ht => ?_) (fun ht => ?_)
   ·refine k2 ?_
    refine A3 (A2 (C1 Z Z Z) Z (D7 (B6 TySz.out Z Z Z Z Z Z) (A2 (A5 Z Z) Z (A6 ?_))))
    refine k1 (k10 (k11 (k12 (k11 (k12 (k11 (k12 (k11 (k12 (k11 ?_))))))))))
    exact B5 (rs := [I7 ⟨w, D, N, hs⟩, C4 false]) (O1 rfl rfl rfl rfl rfl rfl rfl) ⟨_, false, rfl, by rw [hRn hf.symm]⟩
   ·cases ht
  | some r =>
  rw [u7 hr] at hRw
  have hra : AL.rowAt (y ++ [10]) N = some r := by unfold Z1 at hr; rw [if_neg (by omega), Int.toNat_natCast] at hr; exact hr
  obtain ⟨_, _, hrm, _⟩ := rowI_text hr
  have hrt := (rowAt_text hra).1
  have hrt1 : r.Text.length ≤ 4194305 ∧ 1 ≤ r.Text.length := by rw [hrt, List.length_append, List.length_drop]; simp; omega
  rw [bodyC_row hop hvy hra] at hb
  obtain ⟨j2, hj2d⟩ : ∃ j2, j2 = if l[j + 1]? = some noNl then j + 2 else j + 1 := ⟨_, rfl⟩
  obtain ⟨tx, htx⟩ : ∃ tx, tx = if l[j + 1]? = some noNl then r.Text.dropLast else r.Text := ⟨_, rfl⟩
  have hb : R2 N l j2 (Z4 N r cs) (rs ++ [⟨r.Lost, r.Marks, tx⟩]) = R2 N l (i + 1) c0 [] := by
   rw [← hb, hj2d, htx]
   by_cases h2 : l[j + 1]? = some noNl
   ·rw [if_pos h2, if_pos h2, if_pos h2]
   ·rw [if_neg h2, if_neg h2, if_neg h2]
  have hj2l : j2 ≤ l.length ∧ j + 1 ≤ j2 ∧ j2 ≤ j + 2 := by
   rw [hj2d]
   split
   ·rename_i h2
    have := (List.getElem?_eq_some_iff.1 h2).1
    omega
   ·omega
  obtain ⟨z, hz⟩ : ∃ z, z = l.getD (j + 1) [] := ⟨_, rfl⟩
  have hvz : j + 1 < l.length → l[j + 1]? = some z := fun h => by rw [hz]; simp [h]
  refine k5 (k1 (k2 ?_))
  refine A3 (A2 (A4 Z Z) Z (A2 (A4 Z Z) Z (A2 (B8 Z (.pure _ _ _ _) Z (by omega) hvy) Z (A2 (C2 Z Z) Z (A2 (D8 Z Z (by (simp; omega))) Z (A2 (A4 Z Z) Z (B7 (hRw) Z Z Z ?_))))))); rintro _ rfl; refine A2 (A4 Z Z) Z (A2 (A9 Z Z) Z (A2 (A9 Z Z) Z (C0 (F0 17 Z) Z (D7 (B6 TySz.out Z Z Z Z Z Z) (A2 (A5 Z Z) Z (A6 ?_))))))
  refine k1 (k2 (k2 ?_))
  refine A3 (A2 (A4 Z Z) Z (A2 (D3 Z) Z (A6 ?_)))
  refine k1 ?_
  refine B2 rfl (fun ht => ?_) (fun ht => ?_)
  ·cases ht
  refine k5 (k1 (k2 ?_))
  refine A3 (A2 (A4 Z Z) Z (A2 (B9 Z Z (by omega)) Z (A2 (A5 Z Z) Z (A6 ?_))))
  refine H8 ?_
  refine U7 [(0, F4 Str 1 K9 l), (2, .s (.one (.ref 2 0))), (4, .s (.one (.ref 4 0))), (9, C3 N), (12, C3 j2), (14, .s (.one (.mut 724))), (16, .s (.one (.ref 16 0))), (17, .s (.one (.ref 17 0)))] [(2, K1), (4, cBoxG w D N hs), (701, .spare hs.length 2 82), (724, .grow 3 Int 1 H7 cs), (16, hBoxC a rs), (702, .spare rs.length 3 69), (17, .box (pRow ⟨r.Lost, r.Marks, tx⟩).s1.cells)] ?_ ?_
  ·refine T3 [(0, F4 Str 1 K9 l), (2, .s (.one (.ref 2 0))), (4, .s (.one (.ref 4 0))), (9, C3 N), (12, C3 ((j : Int) + 1)), (14, .s (.one (.mut 724))), (16, .s (.one (.ref 16 0))), (17, .s (.one (.ref 17 0)))] [(2, K1), (4, cBoxG w D N hs), (701, .spare hs.length 2 82), (724, .grow 3 Int 1 H7 cs), (16, hBoxC a rs), (702, .spare rs.length 3 69), (17, .box (pRow r).s1.cells)] (Sees.of ⟨le1 rfl, le1 rfl, le1 rfl, le1 rfl, le1 rfl, le1 rfl, le1 rfl, le1 rfl, trivial⟩ ⟨rfl, rfl, rfl, rfl, rfl, rfl, rfl, trivial⟩) ?_
   refine k2 ?_
   refine A3 (A2 (A4 Z Z) Z (A2 (A4 Z Z) Z (A2 (I2 Z (.pure _ _ _ _)) Z (A2 (D5 Z Z) Z (A2 (A4 Z Z) Z (A8 Z Z Z Z (fun hg => by rw [hg]; exact A4 Z Z) ?_)))))); refine A8 Z Z Z Z (fun hg => by rw [hg]; exact A4 Z Z) ?_; refine A8 Z Z Z Z (fun hg => by have hq := hg; (try simp at hq); rw [hg]; exact B8 Z (.pure _ _ _ _) Z (by omega) (hvz (by omega))) ?_; refine A8 Z Z Z Z (fun hg => by rw [hg]; exact C2 Z Z) ?_; refine A8 Z Z Z Z (fun hg => by rw [hg]; exact R3 Z Z) ?_; refine A2 (B3 Z (fun h => by first | rfl | (rw [h]; rfl)) (fun h => by first | rfl | (rw [h]; rfl))) Z ?_; refine A6 ?_
   simp only [I3]
   refine k1 ?_
   refine B2 rfl (fun ht => ?_) (fun ht => ?_)
   ·have h := A0 ht
    have h2 : l[j + 1]? = some noNl := by rw [hvz (by omega)]; exact congrArg some h.2
    rw [if_pos h2] at hj2d htx
    have e1 : r.Text.take ((r.Text.length : Int) - 1).toNat = tx := by rw [htx, show ((r.Text.length : Int) - 1).toNat = r.Text.length - 1 by omega, ← List.dropLast_eq_take]
    refine k2 ?_
    refine A3 (A2 (A7 Z) Z (A2 (B0 Z Z Z) Z (A2 (A7 Z) Z (A2 (B0 Z Z Z) Z (A2 (C6 Z) Z (A2 (W5 Z Z (by omega)) Z (A2 (o4 Z Z (by omega) (by omega)) Z (A2 (A7 Z) Z (D7 (B6 TySz.out Z Z Z Z Z Z) (A6 ?_))))))))))
    rw [e1]
    refine k1 ?_
    refine A3 (A2 (A4 Z Z) Z (A2 (B9 Z Z (by omega)) Z (A2 (A5 Z Z) Z (A6 ?_))))
    refine k1 ?_
    rw [show (j2 : Int) = (j : Int) + 1 + 1 by omega]
    exact Sees.of ⟨le1 rfl, le1 rfl, le1 rfl, le1 rfl, le1 rfl, le1 rfl, le1 rfl, le1 rfl, trivial⟩ ⟨rfl, rfl, rfl, rfl, rfl, rfl, rfl, trivial⟩
   ·have h := A1 ht
    have h2 : ¬ l[j + 1]? = some noNl := by
     intro h2
     have h3 := (List.getElem?_eq_some_iff.1 h2).1
     rw [hvz h3] at h2
     exact h ⟨by omega, Option.some.inj h2⟩
    rw [if_neg h2] at hj2d htx
    refine k5 (k1 ?_)
    rw [show (j2 : Int) = (j : Int) + 1 by omega, htx]
    exact Sees.of ⟨le1 rfl, le1 rfl, le1 rfl, le1 rfl, le1 rfl, le1 rfl, le1 rfl, le1 rfl, trivial⟩ ⟨rfl, rfl, rfl, rfl, rfl, rfl, rfl, trivial⟩
  obtain ⟨R, hR⟩ : ∃ R : Row, R = ⟨r.Lost, r.Marks, tx⟩ := ⟨_, rfl⟩
  have hRm : 0 ≤ R.Marks ∧ R.Marks < 4294967296 := by rw [hR]; exact hrm
  have hRd : Z4 N r cs = Z4 N R cs := by rw [hR]; rfl
  rw [← hR, hRd] at hb
  rw [← hR]
  have hdin := downC_in (r := R) hcsl hcsb
  refine k2 (k2 ?_)
  refine A3 (A2 (A5 Z Z) Z (A6 ?_))
  refine k1 (k3 ?_)
  refine E0 (X := Nat) (fun k => ([(0, F4 Str 1 K9 l), (2, .s (.one (.ref 2 0))), (4, .s (.one (.ref 4 0))), (9, C3 N), (12, C3 j2), (14, .s (.one (.mut 724))), (16, .s (.one (.ref 16 0))), (17, .s (.one (.ref 17 0))), (19, C3 k)], [(2, K1), (4, cBoxG w D N hs), (701, .spare hs.length 2 82), (724, .grow 3 Int 1 H7 (W3 N R cs k)), (16, hBoxC a rs), (702, .spare rs.length 3 69), (17, .box (pRow R).s1.cells)])) (fun k => k ≤ N + 1) (fun k => N + 1 - k) 0 (Nat.zero_le _) (by rw [downTo_zero R hcsl]; exact Sees.of ⟨le1 rfl, le1 rfl, le1 rfl, le1 rfl, le1 rfl, le1 rfl, le1 rfl, le1 rfl, le1 rfl, trivial⟩ ⟨rfl, rfl, rfl, rfl, rfl, rfl, rfl, trivial⟩) ?_
  intro k hk
  dsimp only at hk ⊢
  have hdl := downTo_len N R cs k
  refine k2 (k2 ?_)
  refine A3 (A2 (A4 Z Z) Z (A2 (A4 Z Z) Z (A2 (o3 Z Z) Z (A6 ?_))))
  refine k1 ?_
  refine B2 rfl (fun ht => ?_) (fun ht => ?_)
  ·have hk1 : k < N + 1 := by have := A0 ht; omega
   have hget := downTo_get N R cs k hk1
   have hst := downTo_step N R cs k hk1
   have hck := hcsb _ (List.mem_of_getElem? (getI (l := cs) (i := k) (by omega)))
   obtain ⟨v, hvv⟩ : ∃ v, v = cs.getD k 0 := ⟨_, rfl⟩
   rw [← hvv] at hget hst hck
   have hu := y6 (n := (k : Int)) (by omega)
   have h3 : 0 ≤ R.Marks / 2 ^ k := Int.ediv_nonneg hRm.1 (Int.pow_nonneg (by decide))
   have h4 : R.Marks / 2 ^ k ≤ R.Marks := Int.ediv_le_self _ hRm.1
   have e32 : R.Marks.fdiv (2 ^ (min (k : Int).toNat IntKind.u32.bits)) = R.Marks / 2 ^ k := shr32 R.Marks k (by omega)
   have e1 := and1_u32 (R.Marks / 2 ^ k) (by omega)
   refine k5 (k1 (k2 (k3 (k2 ?_))))
   refine A3 (A2 (A7 Z) Z (A2 (B0 Z Z Z) Z (A2 (D3 Z) Z (A2 (A5 Z Z) Z (A6 ?_)))))
   refine H8 ?_
   refine U7 [(0, F4 Str 1 K9 l), (2, .s (.one (.ref 2 0))), (4, .s (.one (.ref 4 0))), (9, C3 N), (12, C3 j2), (14, .s (.one (.mut 724))), (16, .s (.one (.ref 16 0))), (17, .s (.one (.ref 17 0))), (19, C3 k), (20, O0 (P6 R (I9 N k)))] [(2, K1), (4, cBoxG w D N hs), (701, .spare hs.length 2 82), (724, .grow 3 Int 1 H7 (W3 N R cs k)), (16, hBoxC a rs), (702, .spare rs.length 3 69), (17, .box (pRow R).s1.cells)] ?_ ?_
   ·refine k2 ?_
    refine A3 (A2 (A4 Z Z) Z (A2 (A4 Z Z) Z (A2 (D5 Z Z) Z (A6 ?_))))
    refine k1 ?_
    refine B2 rfl (fun ht => ?_) (fun ht => ?_)
    ·have hkN : k < N := by have := A0 ht; omega
     skip
     refine A3 (A2 (A7 Z) Z (A2 (B0 Z Z Z) Z (A2 (A4 Z Z) Z (A2 (K8 Z) Z (A2 (n_shr Z Z (by (rw [hu]; omega))) Z ?_))))); refine A2 (X1 Z Z Z (fun _ => rfl)) Z (A2 (E8 Z Z) Z (A2 (A7 Z) Z (A2 (B0 Z Z Z) Z (A2 (n_eql_b Z Z TyBool.out) Z (A2 (A5 Z Z) Z (A6 ?_))))))
     rw [hu, e32, e1]
     refine k1 ?_
     rw [show P6 R (I9 N k) = (decide (R.Marks / 2 ^ k % 2 = 1) == R.Lost) by
      unfold P6 I9
      rw [if_neg (by omega : ¬ k = N), if_neg (by omega), if_neg (by omega), Int.toNat_natCast]
      rfl]
     exact Sees.of ⟨le1 rfl, le1 rfl, le1 rfl, le1 rfl, le1 rfl, le1 rfl, le1 rfl, le1 rfl, le1 rfl, le1 rfl, trivial⟩ ⟨rfl, rfl, rfl, rfl, rfl, rfl, rfl, trivial⟩
    ·have hkN : k = N := by have := A1 ht; omega
     refine k5 (k1 ?_)
     rw [show P6 R (I9 N k) = !R.Lost by unfold P6 I9; rw [if_pos hkN, if_pos rfl]]
     exact Sees.of ⟨le1 rfl, le1 rfl, le1 rfl, le1 rfl, le1 rfl, le1 rfl, le1 rfl, le1 rfl, le1 rfl, le1 rfl, trivial⟩ ⟨rfl, rfl, rfl, rfl, rfl, rfl, rfl, trivial⟩
   refine k2 ?_
   refine A3 (A2 (A4 Z Z) Z (A6 ?_))
   refine k1 ?_
   refine B2 rfl (fun ht => ?_) (fun ht => ?_)
   ·rw [if_pos ht] at hst
    skip
    refine A3 (A2 (A4 Z Z) Z (A2 (A4 Z Z) Z (A2 (S0 Z Z Z (by omega) (by (rw [hdl]; omega))) Z ?_))); refine A2 (n_load_g Z Z hget Z) Z (A2 (W5 Z Z (by omega)) Z (A2 (S0 Z Z Z (by omega) (by (rw [hdl]; omega))) Z ?_)); refine D7 (e_store_g ((v - 1)) TySz.out Z Z hget Z Z Z Z (fun _ _ _ h => all2_unp h) (by intro j h1 h2; rcases j with _ | _ | _ | _ | _ | _ | _ | j <;> first | rfl | omega)) ?_; refine A6 ?_
    refine k4 (k1 ?_)
    refine A3 (A2 (A4 Z Z) Z (A2 (B9 Z Z (by omega)) Z (A2 (A5 Z Z) Z (A6 ?_))))
    refine k1 ?_
    refine ⟨k + 1, by omega, by omega, ?_⟩
    rw [hst]
    exact Sees.of ⟨le1 rfl, le1 rfl, le1 rfl, le1 rfl, le1 rfl, le1 rfl, le1 rfl, le1 rfl, le1 rfl, trivial⟩ ⟨rfl, rfl, rfl, rfl, rfl, rfl, rfl, trivial⟩
   ·rw [if_neg (by rw [ht]; decide)] at hst
    refine k5 (k4 (k1 ?_))
    refine A3 (A2 (A4 Z Z) Z (A2 (B9 Z Z (by omega)) Z (A2 (A5 Z Z) Z (A6 ?_))))
    refine k1 ?_
    refine ⟨k + 1, by omega, by omega, ?_⟩
    rw [hst]
    exact Sees.of ⟨le1 rfl, le1 rfl, le1 rfl, le1 rfl, le1 rfl, le1 rfl, le1 rfl, le1 rfl, le1 rfl, trivial⟩ ⟨rfl, rfl, rfl, rfl, rfl, rfl, rfl, trivial⟩
  ·have hkN : k = N + 1 := by have := A1 ht; omega
   subst hkN
   rw [downTo_full]
   refine k6 (k7 (k7 (k8 Z (k1 ?_))))
   refine A3 (A2 (A7 Z) Z (A2 (B0 Z Z Z) Z (A2 (C1 Z Z Z) Z (A2 (D9 (c := rowC) (ys := [R]) (F8 Z Z Z Z H5) Z Z Z) Z (C0 (J0 Z Z Z (.pure _ _ _ _) (by (simp; omega)) Z) Z (A2 (A7 Z) Z (D7 (B6 TySz.out Z Z Z Z Z Z) (A6 ?_))))))))
   refine k4 (k1 ?_)
   exact ⟨(j2, Z4 N R cs, rs ++ [R]), ⟨by dsimp only; omega, hj2l.1, by simp; omega, downC_len N R cs, fun v hv => by have := hdin v hv; dsimp only; omega, hb⟩, by dsimp only; omega, Sees.of ⟨le1 rfl, le1 rfl, le1 rfl, le1 rfl, le1 rfl, le1 rfl, le1 rfl, trivial⟩ ⟨rfl, rfl, rfl, rfl, rfl, rfl, trivial⟩⟩
theorem cut_ex (s p : Str) : ∃ (c : Str) (b : Bool), cutP s p = [E6 c, C4 b] ∧ ((b = true ∧ s.take p.length = p ∧ c = s.drop p.length) ∨ (b = false ∧ s.take p.length ≠ p ∧ c = s)) := by
 unfold cutP
 by_cases h : s.take p.length = p
 ·rw [if_pos h]; exact ⟨_, _, rfl, .inl ⟨rfl, h, rfl⟩⟩
 ·rw [if_neg h]; exact ⟨_, _, rfl, .inr ⟨rfl, h, rfl⟩⟩
abbrev cpBox (w : Str) (d : Bool) (n : Int) : Ob := .box [.p (.v (.string ⟨w.toArray⟩)), .p (.v (.bool d)), .p (.v (.int .i64 n)), .p (.v (.slice none 0 0))]
theorem title_is {a b c x w : Str} {d okc okw okn : Bool} {e n en : Int} (hk : Y8 a = some (d, x)) (hc : (okc = true ∧ b.take parS.length = parS ∧ c = b.drop parS.length) ∨ (okc = false ∧ b.take parS.length ≠ parS ∧ c = b))
  (hw : match N4 (x.drop 0) with | some q => okw = true ∧ w = q.1 ∧ e = ((0 + q.2 : Nat) : Int) | none => okw = false)
  (hn : match M1 (c.drop 0) with | some q => okn = true ∧ n = (q.1 : Int) ∧ en = ((0 + q.2 : Nat) : Int) | none => okn = false) :
  N9 true a b = if okc = true ∧ okw = true ∧ e = x.length ∧ okn = true ∧ en = c.length ∧ 1 ≤ n ∧ n ≤ 32 then some (d, w, n) else none := by
 unfold N9
 rw [hk]
 dsimp only
 rw [List.drop_zero] at hw hn
 have h8 : parS.length = 8 := rfl
 rcases hc with ⟨h1, h2, h3⟩ | ⟨h1, h2, _⟩
 ·rw [h8] at h2 h3
  rw [if_pos h2, ← h3]
  cases g1 : N4 x with
  | none => rw [g1] at hw; have hw : okw = false := hw; rw [if_neg (by simp [hw])]
  | some q =>
   obtain ⟨w', k'⟩ := q
   rw [g1] at hw
   obtain ⟨rfl, rfl, rfl⟩ := hw
   cases g2 : M1 c with
   | none => rw [g2] at hn; have hn : okn = false := hn; rw [if_neg (by simp [hn])]
   | some q2 =>
    obtain ⟨m', k2⟩ := q2
    rw [g2] at hn
    obtain ⟨rfl, rfl, rfl⟩ := hn
    dsimp only
    by_cases hg : (true = true → k' = x.length ∧ k2 = c.length) ∧ 1 ≤ m' ∧ m' ≤ 32
    ·obtain ⟨q1, q2⟩ := hg.1 rfl
     rw [if_pos hg, if_pos ⟨h1, rfl, by omega, rfl, by omega, by omega, by omega⟩]
    ·rw [if_neg hg, if_neg]
     rintro ⟨_, _, p1, _, p2, p3, p4⟩
     exact hg ⟨fun _ => ⟨by omega, by omega⟩, by omega, by omega⟩
 ·rw [h8] at h2
  rw [if_neg h2, if_neg (by simp [h1])]
set_option maxHeartbeats 1000000
theorem ptitle_met {gf : Fr} (a b : Str) (ha : a.length ≤ 4194304) (hb : b.length ≤ 4194304) :
  AL.Met Tryz.prog 158 [.one (.ref 730 0), .one (.p (.v (.string ⟨a.toArray⟩))), .one (.p (.v (.string ⟨b.toArray⟩)))] gf [(730, K1), (2, K1)] []
   (fun rs ob' => ∃ (w : Str) (d : Bool) (n : Int) (ok : Bool), rs = [tBo ok] ∧ ob' = [(730, cpBox w d n), (2, K1)] ∧ match N9 true a b with
    | some (d', p, m) => ok = true ∧ d = d' ∧ w = p ∧ n = m
    | none => ok = false) := by
 have hc1 := Y1 a ccS
 have hc2 := Y1 a combS
 have hc3 := Y1 b parS
 unfold cutP at hc1 hc2
 obtain ⟨c, okc, hx, hcc⟩ := cut_ex b parS
 rw [hx] at hc3
 have hcl : c.length ≤ 4194304 := by
  rcases hcc with ⟨_, _, h⟩ | ⟨_, _, h⟩
  ·rw [h, List.length_drop]; omega
  ·rw [h]; exact hb
 have hNb := x9 c 0 (Nat.zero_le _) (by omega)
 obtain ⟨n, en, okn, hn1, hn2⟩ := num_ex c 0
 rw [hn1] at hNb
 by_cases h1 : a.take ccS.length = ccS
 ·rw [if_pos h1] at hc1
  have hk : Y8 a = some (true, a.drop ccS.length) := by
   have h1 : a.take 10 = ccS := h1
   unfold Y8; rw [if_pos h1]; rfl
  obtain ⟨x, hxx⟩ : ∃ x, x = a.drop ccS.length := ⟨_, rfl⟩
  have hxl : x.length ≤ 4194304 := by rw [hxx, List.length_drop]; omega
  rw [← hxx] at hc1 hk
  have hUq := sUnquote_ok x 0 (Nat.zero_le _) (by omega)
  obtain ⟨w, e, okw, hw1, hw2⟩ := word_ex x 0
  rw [hw1] at hUq
  have hT := title_is hk hcc hw2 hn2
  refine AL.Met.intro Tryz.func158 (by decide) Z Z Z ?_
  refine k2 ?_
  refine A3 (A2 (A5 Z Z) Z (A6 ?_))
  refine k1 (k2 ?_)
  refine A3 (A2 (A4 Z Z) Z (B7 (hc1) Z Z Z ?_)); rintro _ rfl; refine A2 (A4 Z Z) Z (A2 (A9 Z Z) Z (A2 (A9 Z Z) Z (A2 (A5 Z Z) Z (A2 (A5 Z Z) Z (A6 ?_)))))
  refine k1 (k2 (k2 ?_))
  refine A3 (A2 (A4 Z Z) Z (A2 (D3 Z) Z (A6 ?_)))
  refine k1 ?_
  refine B2 rfl (fun ht => ?_) (fun ht => ?_)
  ·cases ht
  refine k5 (k1 (k2 ?_))
  refine A3 (A2 (A4 Z Z) Z (B7 (hc3) Z Z Z ?_)); rintro _ rfl; refine A2 (A4 Z Z) Z (A2 (A9 Z Z) Z (A2 (A9 Z Z) Z (A2 (A5 Z Z) Z (A2 (A5 Z Z) Z (A6 ?_)))))
  refine k1 (k2 ?_)
  refine A3 (A2 (A4 Z Z) Z (B7 (hUq) Z Z Z ?_)); rintro _ rfl; refine A2 (A4 Z Z) Z (A2 (A9 Z Z) Z (A2 (A9 Z Z) Z (A2 (A9 Z Z) Z (A2 (A5 Z Z) Z (A2 (A5 Z Z) Z (A2 (A5 Z Z) Z (A6 ?_)))))))
  refine k1 (k2 ?_)
  refine A3 (A2 (A4 Z Z) Z (B7 (hNb) Z Z Z ?_)); rintro _ rfl; refine A2 (A4 Z Z) Z (A2 (A9 Z Z) Z (A2 (A9 Z Z) Z (A2 (A9 Z Z) Z (A2 (A5 Z Z) Z (A2 (A5 Z Z) Z (A2 (A5 Z Z) Z (A6 ?_)))))))
  refine k1 (k2 ?_)
  refine A3 (A2 (A4 Z Z) Z (A2 (A4 Z Z) Z (A2 (A4 Z Z) Z (A2 (A4 Z Z) Z (A2 (H3 Z) Z (A2 (B4 Z) Z (A2 (A7 Z) Z (D7 (B6 TySz.out Z Z Z Z Z Z) (A6 ?_)))))))))
  refine k1 (k2 ?_)
  refine A3 (A2 (A4 Z Z) Z (A2 (A4 Z Z) Z (A8 Z Z Z Z (fun hg => by rw [hg]; exact A4 Z Z) ?_))); refine A2 (B3 Z (fun h => by first | rfl | (rw [h]; rfl)) (fun h => by first | rfl | (rw [h]; rfl))) Z ?_; refine A2 (A4 Z Z) Z (A8 Z Z Z Z (fun hg => by rw [hg]; exact A4 Z Z) ?_); refine A8 Z Z Z Z (fun hg => by rw [hg]; exact A4 Z Z) ?_; refine A8 Z Z Z Z (fun hg => by rw [hg]; exact C6 Z) ?_; refine A8 Z Z Z Z (fun hg => by rw [hg]; exact E8 Z Z) ?_; refine A2 (B3 Z (fun h => by first | rfl | (rw [h]; rfl)) (fun h => by first | rfl | (rw [h]; rfl))) Z ?_; refine A2 (A4 Z Z) Z (A8 Z Z Z Z (fun hg => by rw [hg]; exact A4 Z Z) ?_); refine A2 (B3 Z (fun h => by first | rfl | (rw [h]; rfl)) (fun h => by first | rfl | (rw [h]; rfl))) Z ?_; refine A2 (A4 Z Z) Z (A8 Z Z Z Z (fun hg => by rw [hg]; exact A4 Z Z) ?_); refine A8 Z Z Z Z (fun hg => by rw [hg]; exact A4 Z Z) ?_; refine A8 Z Z Z Z (fun hg => by rw [hg]; exact C6 Z) ?_; refine A8 Z Z Z Z (fun hg => by rw [hg]; exact E8 Z Z) ?_; refine A2 (B3 Z (fun h => by first | rfl | (rw [h]; rfl)) (fun h => by first | rfl | (rw [h]; rfl))) Z ?_; refine A2 (A4 Z Z) Z (A8 Z Z Z Z (fun hg => by rw [hg]; exact A4 Z Z) ?_); refine A8 Z Z Z Z (fun hg => by rw [hg]; exact W6 Z Z) ?_; refine A2 (B3 Z (fun h => by first | rfl | (rw [h]; rfl)) (fun h => by first | rfl | (rw [h]; rfl))) Z ?_; refine A2 (A4 Z Z) Z (A8 Z Z Z Z (fun hg => by rw [hg]; exact A4 Z Z) ?_); refine A8 Z Z Z Z (fun hg => by rw [hg]; exact o3 Z Z) ?_; refine A2 (B3 Z (fun h => by first | rfl | (rw [h]; rfl)) (fun h => by first | rfl | (rw [h]; rfl))) Z ?_; refine A2 (A5 Z Z) Z (A6 ?_)
  refine k1 (k10 ?_)
  refine F7 (V3 rfl rfl) (by repeat (first | exact C7 | refine tail_cons rfl ?_ | refine C8 _ ?_)) (ObIn.spec (ob' := [(730, cpBox w _ n), (2, K1)]) ⟨rfl, rfl, trivial⟩) ⟨w, _, n, _, rfl, rfl, ?_⟩
  rw [hT]
  by_cases hg : okc = true ∧ okw = true ∧ e = x.length ∧ okn = true ∧ en = c.length ∧ 1 ≤ n ∧ n ≤ 32
  ·rw [if_pos hg]
   obtain ⟨g1, g2, g3, g4, g5, g6, g7⟩ := hg
   exact ⟨by simp [g1, g2, g3, g4, g5, g6, g7], rfl, rfl, rfl⟩
  ·rw [if_neg hg]
   cases okc <;> cases okw <;> cases okn <;> first | rfl | (simp; done) | (simp at hg ⊢; exact hg) | (simp at hg ⊢; intros; omega)
 rw [if_neg h1] at hc1
 by_cases h2 : a.take combS.length = combS
 ·rw [if_pos h2] at hc2
  have hk : Y8 a = some (false, a.drop combS.length) := by
   have h1 : ¬ a.take 10 = ccS := h1
   have h2 : a.take 16 = combS := h2
   unfold Y8; rw [if_neg h1, if_pos h2]; rfl
  obtain ⟨x, hxx⟩ : ∃ x, x = a.drop combS.length := ⟨_, rfl⟩
  have hxl : x.length ≤ 4194304 := by rw [hxx, List.length_drop]; omega
  rw [← hxx] at hc2 hk
  have hUq := sUnquote_ok x 0 (Nat.zero_le _) (by omega)
  obtain ⟨w, e, okw, hw1, hw2⟩ := word_ex x 0
  rw [hw1] at hUq
  have hT := title_is hk hcc hw2 hn2
  refine AL.Met.intro Tryz.func158 (by decide) Z Z Z ?_
  refine k2 ?_
  refine A3 (A2 (A5 Z Z) Z (A6 ?_))
  refine k1 (k2 ?_)
  refine A3 (A2 (A4 Z Z) Z (B7 (hc1) Z Z Z ?_)); rintro _ rfl; refine A2 (A4 Z Z) Z (A2 (A9 Z Z) Z (A2 (A9 Z Z) Z (A2 (A5 Z Z) Z (A2 (A5 Z Z) Z (A6 ?_)))))
  refine k1 (k2 (k2 ?_))
  refine A3 (A2 (A4 Z Z) Z (A2 (D3 Z) Z (A6 ?_)))
  refine k1 ?_
  refine B2 rfl (fun ht => ?_) (fun ht => ?_)
  rotate_left
  ·cases ht
  refine k2 ?_
  refine A3 (A2 (A5 Z Z) Z (A6 ?_))
  refine k1 (k2 ?_)
  refine A3 (A2 (A4 Z Z) Z (B7 (hc2) Z Z Z ?_)); rintro _ rfl; refine A2 (A4 Z Z) Z (A2 (A9 Z Z) Z (A2 (A9 Z Z) Z (A2 (A5 Z Z) Z (A2 (A5 Z Z) Z (A6 ?_)))))
  refine k1 (k2 ?_)
  refine A3 (A2 (A4 Z Z) Z (A2 (D3 Z) Z (A6 ?_)))
  refine k1 ?_
  refine B2 rfl (fun ht => ?_) (fun ht => ?_)
  ·cases ht
  refine k5 (k1 (k2 ?_))
  refine A3 (A2 (A4 Z Z) Z (B7 (hc3) Z Z Z ?_)); rintro _ rfl; refine A2 (A4 Z Z) Z (A2 (A9 Z Z) Z (A2 (A9 Z Z) Z (A2 (A5 Z Z) Z (A2 (A5 Z Z) Z (A6 ?_)))))
  refine k1 (k2 ?_)
  refine A3 (A2 (A4 Z Z) Z (B7 (hUq) Z Z Z ?_)); rintro _ rfl; refine A2 (A4 Z Z) Z (A2 (A9 Z Z) Z (A2 (A9 Z Z) Z (A2 (A9 Z Z) Z (A2 (A5 Z Z) Z (A2 (A5 Z Z) Z (A2 (A5 Z Z) Z (A6 ?_)))))))
  refine k1 (k2 ?_)
  refine A3 (A2 (A4 Z Z) Z (B7 (hNb) Z Z Z ?_)); rintro _ rfl; refine A2 (A4 Z Z) Z (A2 (A9 Z Z) Z (A2 (A9 Z Z) Z (A2 (A9 Z Z) Z (A2 (A5 Z Z) Z (A2 (A5 Z Z) Z (A2 (A5 Z Z) Z (A6 ?_)))))))
  refine k1 (k2 ?_)
  refine A3 (A2 (A4 Z Z) Z (A2 (A4 Z Z) Z (A2 (A4 Z Z) Z (A2 (A4 Z Z) Z (A2 (H3 Z) Z (A2 (B4 Z) Z (A2 (A7 Z) Z (D7 (B6 TySz.out Z Z Z Z Z Z) (A6 ?_)))))))))
  refine k1 (k2 ?_)
  refine A3 (A2 (A4 Z Z) Z (A2 (A4 Z Z) Z (A8 Z Z Z Z (fun hg => by rw [hg]; exact A4 Z Z) ?_))); refine A2 (B3 Z (fun h => by first | rfl | (rw [h]; rfl)) (fun h => by first | rfl | (rw [h]; rfl))) Z ?_; refine A2 (A4 Z Z) Z (A8 Z Z Z Z (fun hg => by rw [hg]; exact A4 Z Z) ?_); refine A8 Z Z Z Z (fun hg => by rw [hg]; exact A4 Z Z) ?_; refine A8 Z Z Z Z (fun hg => by rw [hg]; exact C6 Z) ?_; refine A8 Z Z Z Z (fun hg => by rw [hg]; exact E8 Z Z) ?_; refine A2 (B3 Z (fun h => by first | rfl | (rw [h]; rfl)) (fun h => by first | rfl | (rw [h]; rfl))) Z ?_; refine A2 (A4 Z Z) Z (A8 Z Z Z Z (fun hg => by rw [hg]; exact A4 Z Z) ?_); refine A2 (B3 Z (fun h => by first | rfl | (rw [h]; rfl)) (fun h => by first | rfl | (rw [h]; rfl))) Z ?_; refine A2 (A4 Z Z) Z (A8 Z Z Z Z (fun hg => by rw [hg]; exact A4 Z Z) ?_); refine A8 Z Z Z Z (fun hg => by rw [hg]; exact A4 Z Z) ?_; refine A8 Z Z Z Z (fun hg => by rw [hg]; exact C6 Z) ?_; refine A8 Z Z Z Z (fun hg => by rw [hg]; exact E8 Z Z) ?_; refine A2 (B3 Z (fun h => by first | rfl | (rw [h]; rfl)) (fun h => by first | rfl | (rw [h]; rfl))) Z ?_; refine A2 (A4 Z Z) Z (A8 Z Z Z Z (fun hg => by rw [hg]; exact A4 Z Z) ?_); refine A8 Z Z Z Z (fun hg => by rw [hg]; exact W6 Z Z) ?_; refine A2 (B3 Z (fun h => by first | rfl | (rw [h]; rfl)) (fun h => by first | rfl | (rw [h]; rfl))) Z ?_; refine A2 (A4 Z Z) Z (A8 Z Z Z Z (fun hg => by rw [hg]; exact A4 Z Z) ?_); refine A8 Z Z Z Z (fun hg => by rw [hg]; exact o3 Z Z) ?_; refine A2 (B3 Z (fun h => by first | rfl | (rw [h]; rfl)) (fun h => by first | rfl | (rw [h]; rfl))) Z ?_; refine A2 (A5 Z Z) Z (A6 ?_)
  refine k1 (k10 ?_)
  refine F7 (V3 rfl rfl) (by repeat (first | exact C7 | refine tail_cons rfl ?_ | refine C8 _ ?_)) (ObIn.spec (ob' := [(730, cpBox w _ n), (2, K1)]) ⟨rfl, rfl, trivial⟩) ⟨w, _, n, _, rfl, rfl, ?_⟩
  rw [hT]
  by_cases hg : okc = true ∧ okw = true ∧ e = x.length ∧ okn = true ∧ en = c.length ∧ 1 ≤ n ∧ n ≤ 32
  ·rw [if_pos hg]
   obtain ⟨g1, g2, g3, g4, g5, g6, g7⟩ := hg
   exact ⟨by simp [g1, g2, g3, g4, g5, g6, g7], rfl, rfl, rfl⟩
  ·rw [if_neg hg]
   cases okc <;> cases okw <;> cases okn <;> first | rfl | (simp; done) | (simp at hg ⊢; exact hg) | (simp at hg ⊢; intros; omega)
 rw [if_neg h2] at hc2
 have hT : N9 true a b = none := by
  have h1 : ¬ a.take 10 = ccS := h1
  have h2 : ¬ a.take 16 = combS := h2
  unfold N9 Y8
  rw [if_neg h1, if_neg h2]
 rw [hT]
 refine AL.Met.intro Tryz.func158 (by decide) Z Z Z ?_
 refine k2 ?_
 refine A3 (A2 (A5 Z Z) Z (A6 ?_))
 refine k1 (k2 ?_)
 refine A3 (A2 (A4 Z Z) Z (B7 (hc1) Z Z Z ?_)); rintro _ rfl; refine A2 (A4 Z Z) Z (A2 (A9 Z Z) Z (A2 (A9 Z Z) Z (A2 (A5 Z Z) Z (A2 (A5 Z Z) Z (A6 ?_)))))
 refine k1 (k2 (k2 ?_))
 refine A3 (A2 (A4 Z Z) Z (A2 (D3 Z) Z (A6 ?_)))
 refine k1 ?_
 refine B2 rfl (fun ht => ?_) (fun ht => ?_)
 rotate_left
 ·cases ht
 refine k2 ?_
 refine A3 (A2 (A5 Z Z) Z (A6 ?_))
 refine k1 (k2 ?_)
 refine A3 (A2 (A4 Z Z) Z (B7 (hc2) Z Z Z ?_)); rintro _ rfl; refine A2 (A4 Z Z) Z (A2 (A9 Z Z) Z (A2 (A9 Z Z) Z (A2 (A5 Z Z) Z (A2 (A5 Z Z) Z (A6 ?_)))))
 refine k1 (k2 ?_)
 refine A3 (A2 (A4 Z Z) Z (A2 (D3 Z) Z (A6 ?_)))
 refine k1 ?_
 refine B2 rfl (fun ht => ?_) (fun ht => ?_)
 rotate_left
 ·cases ht
 refine k2 ?_
 refine A3 (A2 (A5 Z Z) Z (A6 ?_))
 refine k1 (k10 (k11 ?_))
 exact F7 (V3 rfl rfl) (by repeat (first | exact C7 | refine tail_cons rfl ?_ | refine C8 _ ?_)) (fun _ _ h => h) ⟨[], false, 0, false, rfl, rfl, rfl⟩
def s5 : CHunk → Nat → Cell
 | h, 0 => .list Int 1 H7 h.At
 | h, _ => match h.Rows with
  | [] => .v (.slice none 0 0)
  | _ :: _ => .list Row 3 rowC h.Rows
abbrev pcBox (w : Str) (d : Bool) (n : Int) : Ob := .box [.p (.v (.string ⟨w.toArray⟩)), .p (.v (.bool d)), .p (.v (.int .i64 n)), .mut 731]
abbrev S4 (w : Str) (d : Bool) (n : Int) (hs : List CHunk) : Obs := [(730, pcBox w d n), (731, .grow 82 CHunk 2 s5 hs), (2, K1)]
abbrev S5 (w : Str) (d : Bool) (n : Int) (hs : List CHunk) (a : List Int) (rs : List Row) : Obs :=
 [(730, pcBox w d n), (731, .growA 82 CHunk 2 s5 hs (hs.length - 1) [.p (.list Int 1 H7 a), .mut 732]), (732, .grow 69 Row 3 rowC rs), (2, K1)]
abbrev gfL (x : Str) (R : List Str) (k : Nat) : Fr := [(1000032, F9 x), (1000031, .s (.one (.ref 730 0))), (1000004, .s (.one (.ref 730 0))), (1000002, .s (.one (.ref 2 0))), (1000025, F4 Str 1 K9 R), (1000026, C3 R.length), (1000027, C3 k), (1000006, F9 x)]
abbrev gfH (x : Str) (R : List Str) (k : Nat) : Fr := [(1000012, F9 x), (1000011, .s (.one (.ref 730 0))), (1000000, .s (.one (.ref 730 0))), (1000001, F9 x), (2000032, F9 x), (2000031, .s (.one (.ref 730 0))), (2000004, .s (.one (.ref 730 0))), (2000002, .s (.one (.ref 2 0))), (2000025, F4 Str 1 K9 R), (2000026, C3 R.length), (2000027, C3 k), (2000006, F9 x)]
theorem words_step {n k : Nat} {w : Str} {r : List Str} {a c : Int} {e : Nat} (h1 : w.take 1 = [J2 n k]) (h2 : L9 (w.drop 1) = some (a, c, e)) (h3 : e = (w.drop 1).length) : M2 n k (w :: r) = (M2 n (k + 1) r).map (a :: ·) := by
 rw [M2, if_pos h1, h2]
 dsimp only
 rw [if_pos h3]
theorem words_no1 {n k : Nat} {w : Str} {r : List Str} (h1 : w.take 1 ≠ [J2 n k]) : M2 n k (w :: r) = none := by rw [M2, if_neg h1]
theorem words_no2 {n k : Nat} {w : Str} {r : List Str} (h2 : L9 (w.drop 1) = none) : M2 n k (w :: r) = none := by
 rw [M2, h2]; split <;> rfl
theorem words_no3 {n k : Nat} {w : Str} {r : List Str} {a c : Int} {e : Nat} (h2 : L9 (w.drop 1) = some (a, c, e)) (h3 : e ≠ (w.drop 1).length) : M2 n k (w :: r) = none := by
 rw [M2, h2]
 dsimp only
 rw [if_neg h3]; split <;> rfl
theorem headP_out {n : Nat} {l : Str} (h : ¬ (l.take (n + 2) = preC n ∧ O5 (l.drop (n + 2)) (v7 n) = true)) : n7 n l = none := by unfold n7; rw [if_neg h]
theorem headP_in {n : Nat} {l : Str} (h : l.take (n + 2) = preC n ∧ O5 (l.drop (n + 2)) (v7 n) = true) : n7 n l = match M2 n 0 (K7 32 ((l.drop (n + 2)).take ((l.drop (n + 2)).length - (n + 2)))) with
   | some a => if a.length = n + 1 then some a else none
   | none => none := by unfold n7; rw [if_pos h]; rfl
set_option maxHeartbeats 4000000
theorem pheader_met (x : Str) (R : List Str) (k : Nat) (w : Str) (d : Bool) (N : Nat) (hs : List CHunk) (hN : 1 ≤ N ∧ N ≤ 32) (hl : hs.length ≤ 16777216) (hx : x.length ≤ 4194304) :
  AL.Met Tryz.prog 223 [.one (.ref 730 0), .one (.p (.v (.string ⟨x.toArray⟩)))] (gfH x R k) (S4 w d N hs) [731]
   (fun rs ob' => match n7 N x with
    | none => rs = [tBo false] ∧ ob' = [(2, K1)]
    | some a => rs = [tBo true] ∧ ob' = S4 w d N (hs ++ [⟨a, []⟩])) := by
 have hrep : FnOk Tryz.prog 167 [E6 [64], E2 ((N : Int) + 1)] (fun rs => rs = [E6 (atS (N + 1))]) := by
  have := repeat_ok 64 (N + 1) (by omega)
  rwa [show ((N + 1 : Nat) : Int) = (N : Int) + 1 by omega] at this
 have hal := Y7 (N + 1)
 have hpl : (preC N).length = N + 2 := by simp [preC, Y7]
 have hsl : (v7 N).length = N + 2 := by simp [v7, Y7]
 have hcp := Y1 x (preC N)
 unfold cutP at hcp
 rw [hpl] at hcp
 obtain ⟨H, hH⟩ : ∃ H, H = n7 N x := ⟨_, rfl⟩
 rw [← hH]
 by_cases h1 : x.take (N + 2) = preC N
 rotate_left
 ·rw [if_neg h1] at hcp
  have hno : H = none := by rw [hH]; exact headP_out (fun h => h1 h.1)
  rw [hno]
  refine AL.Met.intro Tryz.func223 (by decide) Z Z Z ?_
  refine k2 ?_
  refine A3 (A2 (A5 Z Z) Z (A6 ?_))
  refine k1 (k2 ?_)
  refine A3 (A2 (A4 Z Z) Z (A2 (B4 Z) Z (A2 (A7 Z) Z (A2 (A7 Z) Z (A2 (B0 Z Z Z) Z (A2 (B9 Z Z (by omega)) Z (B7 (hrep) Z Z Z ?_))))))); rintro _ rfl; refine A2 (A5 Z Z) Z (A6 ?_)
  refine k1 (k2 ?_)
  refine A3 (A2 (A4 Z Z) Z (A2 (A4 Z Z) Z (A2 (D8 Z Z (by (simp; omega))) Z (B7 (hcp) Z Z Z ?_)))); rintro _ rfl; refine A2 (A4 Z Z) Z (A2 (A9 Z Z) Z (A2 (A9 Z Z) Z (A2 (A5 Z Z) Z (A2 (A5 Z Z) Z (A6 ?_)))))
  refine k1 (k2 (k2 ?_))
  refine A3 (A2 (A4 Z Z) Z (A2 (D3 Z) Z (A6 ?_)))
  refine k1 ?_
  refine B2 rfl (fun ht => ?_) (fun ht => ?_)
  ·refine k2 ?_
   refine F6 (Sees.forget 731) ?_
   refine A3 (A2 (A5 Z Z) Z (A6 ?_))
   refine k1 (k10 (k11 ?_))
   exact F7 (V3 rfl rfl) (by repeat (first | exact C7 | refine tail_cons rfl ?_ | refine C8 _ ?_)) (ObIn.spec (ob' := [(2, K1)]) ⟨rfl, trivial⟩) ⟨rfl, rfl⟩
  ·cases ht
 rw [if_pos h1] at hcp
 obtain ⟨y, hy⟩ : ∃ y, y = x.drop (N + 2) := ⟨_, rfl⟩
 have hyl : y.length ≤ x.length := by rw [hy, List.length_drop]; omega
 have hcs := cutSuffixP_ok y (v7 N) (by omega)
 unfold cutSf at hcs
 rw [hsl] at hcs
 rw [← hy] at hcp
 by_cases h2 : O5 y (v7 N) = true
 rotate_left
 ·rw [if_neg h2] at hcs
  have hno : H = none := by rw [hH]; exact headP_out (fun h => h2 (by rw [hy]; exact h.2))
  rw [hno]
  refine AL.Met.intro Tryz.func223 (by decide) Z Z Z ?_
  refine k2 ?_
  refine A3 (A2 (A5 Z Z) Z (A6 ?_))
  refine k1 (k2 ?_)
  refine A3 (A2 (A4 Z Z) Z (A2 (B4 Z) Z (A2 (A7 Z) Z (A2 (A7 Z) Z (A2 (B0 Z Z Z) Z (A2 (B9 Z Z (by omega)) Z (B7 (hrep) Z Z Z ?_))))))); rintro _ rfl; refine A2 (A5 Z Z) Z (A6 ?_)
  refine k1 (k2 ?_)
  refine A3 (A2 (A4 Z Z) Z (A2 (A4 Z Z) Z (A2 (D8 Z Z (by (simp; omega))) Z (B7 (hcp) Z Z Z ?_)))); rintro _ rfl; refine A2 (A4 Z Z) Z (A2 (A9 Z Z) Z (A2 (A9 Z Z) Z (A2 (A5 Z Z) Z (A2 (A5 Z Z) Z (A6 ?_)))))
  refine k1 (k2 (k2 ?_))
  refine A3 (A2 (A4 Z Z) Z (A2 (D3 Z) Z (A6 ?_)))
  refine k1 ?_
  refine B2 rfl (fun ht => ?_) (fun ht => ?_)
  ·cases ht
  refine k5 (k1 (k2 (k2 ?_)))
  refine A3 (A2 (A4 Z Z) Z (A2 (A4 Z Z) Z (A2 (D8 Z Z (by (simp; omega))) Z (B7 (hcs) Z Z Z ?_)))); rintro _ rfl; refine A2 (A4 Z Z) Z (A2 (A9 Z Z) Z (A2 (A9 Z Z) Z (A2 (A5 Z Z) Z (A2 (A5 Z Z) Z (A6 ?_)))))
  refine k1 (k2 ?_)
  refine A3 (A2 (A4 Z Z) Z (A2 (D3 Z) Z (A6 ?_)))
  refine k1 ?_
  refine B2 rfl (fun ht => ?_) (fun ht => ?_)
  ·refine k2 ?_
   refine F6 (Sees.forget 731) ?_
   refine A3 (A2 (A5 Z Z) Z (A6 ?_))
   refine k1 (k10 (k11 ?_))
   exact F7 (V3 rfl rfl) (by repeat (first | exact C7 | refine tail_cons rfl ?_ | refine C8 _ ?_)) (ObIn.spec (ob' := [(2, K1)]) ⟨rfl, trivial⟩) ⟨rfl, rfl⟩
  ·cases ht
 rw [if_pos h2] at hcs
 rw [headP_in ⟨h1, by rw [← hy]; exact h2⟩, ← hy] at hH
 obtain ⟨z, hz⟩ : ∃ z, z = y.take (y.length - (N + 2)) := ⟨_, rfl⟩
 have hzl : z.length ≤ x.length := by rw [hz, List.length_take]; omega
 rw [← hz] at hcs hH
 have hsp := splitB_ok z 32 (by omega)
 obtain ⟨W, hW⟩ : ∃ W, W = K7 32 z := ⟨_, rfl⟩
 have hWl : W.length ≤ z.length + 1 := by
  have h3 := Y6 32 z
  have h4 : z.count 32 ≤ z.length := List.count_le_length
  rw [hW]; omega
 have hWm : ∀ v ∈ W, v.length ≤ 16777216 := by
  intro v hv
  rw [hW] at hv
  have := cutsBy_mem z v hv
  omega
 rw [← hW] at hsp hH
 have hfail : M2 N 0 W = none → H = none := fun h => by rw [hH, h]
 have hdone : ∀ a, M2 N 0 W = some a → H = if a.length = N + 1 then some a else none := fun a h => by rw [hH, h]
 refine AL.Met.intro Tryz.func223 (by decide) Z Z Z ?_
 refine k2 ?_
 refine A3 (A2 (A5 Z Z) Z (A6 ?_))
 refine k1 (k2 ?_)
 refine A3 (A2 (A4 Z Z) Z (A2 (B4 Z) Z (A2 (A7 Z) Z (A2 (A7 Z) Z (A2 (B0 Z Z Z) Z (A2 (B9 Z Z (by omega)) Z (B7 (hrep) Z Z Z ?_))))))); rintro _ rfl; refine A2 (A5 Z Z) Z (A6 ?_)
 refine k1 (k2 ?_)
 refine A3 (A2 (A4 Z Z) Z (A2 (A4 Z Z) Z (A2 (D8 Z Z (by (simp; omega))) Z (B7 (hcp) Z Z Z ?_)))); rintro _ rfl; refine A2 (A4 Z Z) Z (A2 (A9 Z Z) Z (A2 (A9 Z Z) Z (A2 (A5 Z Z) Z (A2 (A5 Z Z) Z (A6 ?_)))))
 refine k1 (k2 (k2 ?_))
 refine A3 (A2 (A4 Z Z) Z (A2 (D3 Z) Z (A6 ?_)))
 refine k1 ?_
 refine B2 rfl (fun ht => ?_) (fun ht => ?_)
 ·cases ht
 refine k5 (k1 (k2 (k2 ?_)))
 refine A3 (A2 (A4 Z Z) Z (A2 (A4 Z Z) Z (A2 (D8 Z Z (by (simp; omega))) Z (B7 (hcs) Z Z Z ?_)))); rintro _ rfl; refine A2 (A4 Z Z) Z (A2 (A9 Z Z) Z (A2 (A9 Z Z) Z (A2 (A5 Z Z) Z (A2 (A5 Z Z) Z (A6 ?_)))))
 refine k1 (k2 ?_)
 refine A3 (A2 (A4 Z Z) Z (A2 (D3 Z) Z (A6 ?_)))
 refine k1 ?_
 refine B2 rfl (fun ht => ?_) (fun ht => ?_)
 ·cases ht
 refine T3 [(0, .s (.one (.ref 730 0))), (6, F9 z), (1000012, F9 x), (1000011, .s (.one (.ref 730 0))), (1000000, .s (.one (.ref 730 0))), (1000001, F9 x), (2000032, F9 x), (2000031, .s (.one (.ref 730 0))), (2000004, .s (.one (.ref 730 0))), (2000002, .s (.one (.ref 2 0))), (2000025, F4 Str 1 K9 R), (2000026, C3 R.length), (2000027, C3 k), (2000006, F9 x)] (S4 w d N hs) (Sees.of ⟨le1 rfl, le1 rfl, le1 rfl, le1 rfl, le1 rfl, le1 rfl, le1 rfl, le1 rfl, le1 rfl, le1 rfl, le1 rfl, le1 rfl, le1 rfl, le1 rfl, trivial⟩ ⟨rfl, rfl, rfl, trivial⟩) ?_
 refine k5 (k1 (k2 ?_))
 refine A3 (A2 (H3 Z) Z (C0 (F0 740 Z) Z (D7 (B6 TySz.out Z Z Z Z Z Z) (A6 ?_))))
 refine k1 (k2 (k2 ?_))
 refine F6 (Sees.adoptB 741 Int 1 H7 3 (kb := 740) (o := 0) Z Z Z) ?_
 refine A3 (A2 (A4 Z Z) Z (B7 (hsp) Z Z Z ?_)); rintro _ rfl; refine A2 (I2 Z (.pure _ _ _ _)) Z (A2 (A4 Z Z) Z (A6 ?_))
 refine k1 (k3 ?_)
 refine E0 (X := Nat × List Int) (fun q => ([(0, .s (.one (.ref 730 0))), (8, .s (.one (.ref 740 0))), (45, F4 Str 1 K9 W), (46, C3 W.length), (47, C3 q.1), (1000012, F9 x), (1000011, .s (.one (.ref 730 0))), (1000000, .s (.one (.ref 730 0))), (1000001, F9 x), (2000032, F9 x), (2000031, .s (.one (.ref 730 0))), (2000004, .s (.one (.ref 730 0))), (2000002, .s (.one (.ref 2 0))), (2000025, F4 Str 1 K9 R), (2000026, C3 R.length), (2000027, C3 k), (2000006, F9 x)], [(730, pcBox w d N), (731, .grow 82 CHunk 2 s5 hs), (2, K1), (740, .box [.buf 741 Int 1 H7 q.2, .p (.v (.slice none 0 0))]), (741, .spare q.2.length 1 3)])) (fun q => q.1 ≤ W.length ∧ q.2.length = q.1 ∧ M2 N 0 W = (M2 N q.1 (W.drop q.1)).map (q.2 ++ ·)) (fun q => W.length - q.1) (0, []) ⟨Nat.zero_le _, rfl, by simp⟩ (Sees.of ⟨le1 rfl, le1 rfl, le1 rfl, le1 rfl, le1 rfl, le1 rfl, le1 rfl, le1 rfl, le1 rfl, le1 rfl, le1 rfl, le1 rfl, le1 rfl, le1 rfl, le1 rfl, le1 rfl, le1 rfl, trivial⟩ ⟨rfl, rfl, rfl, rfl, rfl, trivial⟩) ?_
 rintro ⟨j, a⟩ ⟨hj, haj, hp⟩
 dsimp only at hj haj hp ⊢
 refine k2 ?_
 refine A3 (A2 (D5 Z Z) Z (A6 ?_))
 refine k1 (k2 ?_)
 refine B2 rfl (fun ht => ?_) (fun ht => ?_)
 ·have hlt : j < W.length := by have := A0 ht; omega
  have hv : W[j]? = some W[j] := by simp [hlt]
  have hvm := hWm _ (List.getElem_mem hlt)
  rw [List.drop_eq_getElem_cons hlt] at hp
  obtain ⟨v, hvv⟩ : ∃ v, v = W[j] := ⟨_, rfl⟩
  rw [← hvv] at hv hvm hp
  have hcv := Y1 v [J2 N j]
  unfold cutP at hcv
  refine k5 (k1 (k2 (k3 (k2 ?_))))
  refine A3 (A2 (A4 Z Z) Z (A2 (B8 Z (.pure _ _ _ _) Z (by omega) hv) Z (A2 (C2 Z Z) Z (A2 (A5 Z Z) Z (A2 (A5 Z Z) Z (A6 ?_))))))
  refine k1 (k2 ?_)
  refine A3 (A2 (A5 Z Z) Z (A6 ?_))
  refine H8 ?_
  refine U7 [(0, .s (.one (.ref 730 0))), (8, .s (.one (.ref 740 0))), (45, F4 Str 1 K9 W), (46, C3 W.length), (47, C3 j), (10, F9 v), (11, F9 [J2 N j]), (1000012, F9 x), (1000011, .s (.one (.ref 730 0))), (1000000, .s (.one (.ref 730 0))), (1000001, F9 x), (2000032, F9 x), (2000031, .s (.one (.ref 730 0))), (2000004, .s (.one (.ref 730 0))), (2000002, .s (.one (.ref 2 0))), (2000025, F4 Str 1 K9 R), (2000026, C3 R.length), (2000027, C3 k), (2000006, F9 x)] ([(730, pcBox w d N), (731, .grow 82 CHunk 2 s5 hs), (2, K1), (740, .box [.buf 741 Int 1 H7 a, .p (.v (.slice none 0 0))]), (741, .spare a.length 1 3)]) ?_ ?_
  ·refine k2 ?_
   refine A3 (A2 (A4 Z Z) Z (A2 (A4 Z Z) Z (A2 (B4 Z) Z (A2 (A7 Z) Z (A2 (A7 Z) Z (A2 (B0 Z Z Z) Z (A2 (E8 Z Z) Z (A6 ?_))))))))
   refine k1 ?_
   refine B2 rfl (fun ht => ?_) (fun ht => ?_)
   ·have hjn := A0 ht
    skip
    refine A3 (A2 (A5 Z Z) Z (A6 ?_))
    refine k1 ?_
    rw [show J2 N j = 43 by unfold J2; rw [if_pos (by omega)]]
    exact Sees.of ⟨le1 rfl, le1 rfl, le1 rfl, le1 rfl, le1 rfl, le1 rfl, le1 rfl, le1 rfl, le1 rfl, le1 rfl, le1 rfl, le1 rfl, le1 rfl, le1 rfl, le1 rfl, le1 rfl, le1 rfl, le1 rfl, le1 rfl, trivial⟩ ⟨rfl, rfl, rfl, rfl, rfl, trivial⟩
   ·have hjn := A1 ht
    refine k5 (k1 ?_)
    rw [show J2 N j = 45 by unfold J2; rw [if_neg (by omega)]]
    exact Sees.of ⟨le1 rfl, le1 rfl, le1 rfl, le1 rfl, le1 rfl, le1 rfl, le1 rfl, le1 rfl, le1 rfl, le1 rfl, le1 rfl, le1 rfl, le1 rfl, le1 rfl, le1 rfl, le1 rfl, le1 rfl, le1 rfl, le1 rfl, trivial⟩ ⟨rfl, rfl, rfl, rfl, rfl, trivial⟩
  by_cases h3 : v.take 1 = [J2 N j]
  rotate_left
  ·have hcv : FnOk Tryz.prog 213 [E6 v, E6 [J2 N j]] (fun rs => rs = [E6 v, C4 false]) := by
    have h4 : ¬ v.take ([J2 N j] : Str).length = [J2 N j] := h3
    rw [if_neg h4] at hcv; exact hcv
   have hno : H = none := hfail (by rw [hp, words_no1 h3]; rfl)
   have hrg := sRange_ok v 0 (Nat.zero_le _) (by omega)
   rw [hno]
   cases g : L9 v with
   | none =>
    rw [rngR_none (by rw [List.drop_zero]; exact g)] at hrg
    refine k2 ?_
    refine A3 (A2 (A4 Z Z) Z (A2 (A4 Z Z) Z (B7 (hcv) Z Z Z ?_))); rintro _ rfl; refine A2 (A4 Z Z) Z (A2 (A9 Z Z) Z (A2 (A9 Z Z) Z (A2 (A5 Z Z) Z (A2 (A5 Z Z) Z (A6 ?_)))))
    refine k1 (k2 ?_)
    refine A3 (A2 (A4 Z Z) Z (B7 (hrg) Z Z Z ?_)); rintro _ rfl; refine A2 (A4 Z Z) Z (A2 (A9 Z Z) Z (A2 (A9 Z Z) Z (A2 (A9 Z Z) Z (A2 (A9 Z Z) Z (A2 (A5 Z Z) Z (A2 (A5 Z Z) Z (A2 (A5 Z Z) Z (A2 (A5 Z Z) Z (A6 ?_)))))))))
    refine k1 (k2 (k2 ?_))
    refine A3 (A2 (A4 Z Z) Z (A2 (D3 Z) Z (A2 (A4 Z Z) Z (A8 Z Z Z Z (fun hg => by rw [hg]; exact A4 Z Z) ?_)))); refine A8 Z Z Z Z (fun hg => by rw [hg]; exact D3 Z) ?_; refine A2 (B3 Z (fun h => by first | rfl | (rw [h]; rfl)) (fun h => by first | rfl | (rw [h]; rfl))) Z ?_; refine A2 (A4 Z Z) Z (A8 Z Z Z Z (fun hg => by rw [hg]; exact A4 Z Z) ?_); refine A8 Z Z Z Z (fun hg => by rw [hg]; exact A4 Z Z) ?_; refine A8 Z Z Z Z (fun hg => by rw [hg]; exact C6 Z) ?_; refine A8 Z Z Z Z (fun hg => by rw [hg]; exact O7 Z Z) ?_; refine A2 (B3 Z (fun h => by first | rfl | (rw [h]; rfl)) (fun h => by first | rfl | (rw [h]; rfl))) Z ?_; refine A6 ?_
    refine k1 ?_
    refine B2 rfl (fun ht => ?_) (fun ht => ?_)
    ·refine k2 ?_
     refine F6 (Sees.forget 731) ?_
     refine A3 (A2 (A5 Z Z) Z (A6 ?_))
     refine k1 (k10 (k11 (k12 (k11 (k11 (k12 (k11 ?_)))))))
     exact F7 (V3 rfl rfl) (by repeat (first | exact C7 | refine tail_cons rfl ?_ | refine C8 _ ?_)) (ObIn.spec (ob' := [(2, K1)]) ⟨rfl, trivial⟩) ⟨rfl, rfl⟩
    ·exfalso; revert ht; simp
   | some q =>
    obtain ⟨s, c, e⟩ := q
    rw [rngR_some (k := e) (by rw [List.drop_zero]; exact g)] at hrg
    refine k2 ?_
    refine A3 (A2 (A4 Z Z) Z (A2 (A4 Z Z) Z (B7 (hcv) Z Z Z ?_))); rintro _ rfl; refine A2 (A4 Z Z) Z (A2 (A9 Z Z) Z (A2 (A9 Z Z) Z (A2 (A5 Z Z) Z (A2 (A5 Z Z) Z (A6 ?_)))))
    refine k1 (k2 ?_)
    refine A3 (A2 (A4 Z Z) Z (B7 (hrg) Z Z Z ?_)); rintro _ rfl; refine A2 (A4 Z Z) Z (A2 (A9 Z Z) Z (A2 (A9 Z Z) Z (A2 (A9 Z Z) Z (A2 (A9 Z Z) Z (A2 (A5 Z Z) Z (A2 (A5 Z Z) Z (A2 (A5 Z Z) Z (A2 (A5 Z Z) Z (A6 ?_)))))))))
    refine k1 (k2 (k2 ?_))
    refine A3 (A2 (A4 Z Z) Z (A2 (D3 Z) Z (A2 (A4 Z Z) Z (A8 Z Z Z Z (fun hg => by rw [hg]; exact A4 Z Z) ?_)))); refine A8 Z Z Z Z (fun hg => by rw [hg]; exact D3 Z) ?_; refine A2 (B3 Z (fun h => by first | rfl | (rw [h]; rfl)) (fun h => by first | rfl | (rw [h]; rfl))) Z ?_; refine A2 (A4 Z Z) Z (A8 Z Z Z Z (fun hg => by rw [hg]; exact A4 Z Z) ?_); refine A8 Z Z Z Z (fun hg => by rw [hg]; exact A4 Z Z) ?_; refine A8 Z Z Z Z (fun hg => by rw [hg]; exact C6 Z) ?_; refine A8 Z Z Z Z (fun hg => by rw [hg]; exact O7 Z Z) ?_; refine A2 (B3 Z (fun h => by first | rfl | (rw [h]; rfl)) (fun h => by first | rfl | (rw [h]; rfl))) Z ?_; refine A6 ?_
    refine k1 ?_
    refine B2 rfl (fun ht => ?_) (fun ht => ?_)
    ·refine k2 ?_
     refine F6 (Sees.forget 731) ?_
     refine A3 (A2 (A5 Z Z) Z (A6 ?_))
     refine k1 (k10 (k11 (k12 (k11 (k11 (k12 (k11 ?_)))))))
     exact F7 (V3 rfl rfl) (by repeat (first | exact C7 | refine tail_cons rfl ?_ | refine C8 _ ?_)) (ObIn.spec (ob' := [(2, K1)]) ⟨rfl, trivial⟩) ⟨rfl, rfl⟩
    ·exfalso; revert ht; simp
  have hcv : FnOk Tryz.prog 213 [E6 v, E6 [J2 N j]] (fun rs => rs = [E6 (v.drop 1), C4 true]) := by
   have h4 : v.take ([J2 N j] : Str).length = [J2 N j] := h3
   rw [if_pos h4] at hcv; exact hcv
  obtain ⟨u, huu⟩ : ∃ u, u = v.drop 1 := ⟨_, rfl⟩
  have hul : u.length ≤ 16777216 := by rw [huu, List.length_drop]; omega
  rw [← huu] at hcv
  have hrg := sRange_ok u 0 (Nat.zero_le _) (by omega)
  cases g : L9 u with
  | none =>
   rw [rngR_none (by rw [List.drop_zero]; exact g)] at hrg
   have hno : H = none := hfail (by rw [hp, words_no2 (by rw [← huu]; exact g)]; rfl)
   rw [hno]
   refine k2 ?_
   refine A3 (A2 (A4 Z Z) Z (A2 (A4 Z Z) Z (B7 (hcv) Z Z Z ?_))); rintro _ rfl; refine A2 (A4 Z Z) Z (A2 (A9 Z Z) Z (A2 (A9 Z Z) Z (A2 (A5 Z Z) Z (A2 (A5 Z Z) Z (A6 ?_)))))
   refine k1 (k2 ?_)
   refine A3 (A2 (A4 Z Z) Z (B7 (hrg) Z Z Z ?_)); rintro _ rfl; refine A2 (A4 Z Z) Z (A2 (A9 Z Z) Z (A2 (A9 Z Z) Z (A2 (A9 Z Z) Z (A2 (A9 Z Z) Z (A2 (A5 Z Z) Z (A2 (A5 Z Z) Z (A2 (A5 Z Z) Z (A2 (A5 Z Z) Z (A6 ?_)))))))))
   refine k1 (k2 (k2 ?_))
   refine A3 (A2 (A4 Z Z) Z (A2 (D3 Z) Z (A2 (A4 Z Z) Z (A8 Z Z Z Z (fun hg => by rw [hg]; exact A4 Z Z) ?_)))); refine A8 Z Z Z Z (fun hg => by rw [hg]; exact D3 Z) ?_; refine A2 (B3 Z (fun h => by first | rfl | (rw [h]; rfl)) (fun h => by first | rfl | (rw [h]; rfl))) Z ?_; refine A2 (A4 Z Z) Z (A8 Z Z Z Z (fun hg => by rw [hg]; exact A4 Z Z) ?_); refine A8 Z Z Z Z (fun hg => by rw [hg]; exact A4 Z Z) ?_; refine A8 Z Z Z Z (fun hg => by rw [hg]; exact C6 Z) ?_; refine A8 Z Z Z Z (fun hg => by rw [hg]; exact O7 Z Z) ?_; refine A2 (B3 Z (fun h => by first | rfl | (rw [h]; rfl)) (fun h => by first | rfl | (rw [h]; rfl))) Z ?_; refine A6 ?_
   refine k1 ?_
   refine B2 rfl (fun ht => ?_) (fun ht => ?_)
   ·refine k2 ?_
    refine F6 (Sees.forget 731) ?_
    refine A3 (A2 (A5 Z Z) Z (A6 ?_))
    refine k1 (k10 (k11 (k12 (k11 (k11 (k12 (k11 ?_)))))))
    exact F7 (V3 rfl rfl) (by repeat (first | exact C7 | refine tail_cons rfl ?_ | refine C8 _ ?_)) (ObIn.spec (ob' := [(2, K1)]) ⟨rfl, trivial⟩) ⟨rfl, rfl⟩
   ·exfalso; revert ht; simp
  | some q =>
   obtain ⟨s, c, e⟩ := q
   rw [rngR_some (k := e) (by rw [List.drop_zero]; exact g), Nat.zero_add] at hrg
   by_cases he : e = u.length
   rotate_left
   ·have hno : H = none := hfail (by rw [hp, words_no3 (by rw [← huu]; exact g) (by rw [← huu]; exact he)]; rfl)
    rw [hno]
    refine k2 ?_
    refine A3 (A2 (A4 Z Z) Z (A2 (A4 Z Z) Z (B7 (hcv) Z Z Z ?_))); rintro _ rfl; refine A2 (A4 Z Z) Z (A2 (A9 Z Z) Z (A2 (A9 Z Z) Z (A2 (A5 Z Z) Z (A2 (A5 Z Z) Z (A6 ?_)))))
    refine k1 (k2 ?_)
    refine A3 (A2 (A4 Z Z) Z (B7 (hrg) Z Z Z ?_)); rintro _ rfl; refine A2 (A4 Z Z) Z (A2 (A9 Z Z) Z (A2 (A9 Z Z) Z (A2 (A9 Z Z) Z (A2 (A9 Z Z) Z (A2 (A5 Z Z) Z (A2 (A5 Z Z) Z (A2 (A5 Z Z) Z (A2 (A5 Z Z) Z (A6 ?_)))))))))
    refine k1 (k2 (k2 ?_))
    refine A3 (A2 (A4 Z Z) Z (A2 (D3 Z) Z (A2 (A4 Z Z) Z (A8 Z Z Z Z (fun hg => by rw [hg]; exact A4 Z Z) ?_)))); refine A8 Z Z Z Z (fun hg => by rw [hg]; exact D3 Z) ?_; refine A2 (B3 Z (fun h => by first | rfl | (rw [h]; rfl)) (fun h => by first | rfl | (rw [h]; rfl))) Z ?_; refine A2 (A4 Z Z) Z (A8 Z Z Z Z (fun hg => by rw [hg]; exact A4 Z Z) ?_); refine A8 Z Z Z Z (fun hg => by rw [hg]; exact A4 Z Z) ?_; refine A8 Z Z Z Z (fun hg => by rw [hg]; exact C6 Z) ?_; refine A8 Z Z Z Z (fun hg => by rw [hg]; exact O7 Z Z) ?_; refine A2 (B3 Z (fun h => by first | rfl | (rw [h]; rfl)) (fun h => by first | rfl | (rw [h]; rfl))) Z ?_; refine A6 ?_
    refine k1 ?_
    refine B2 rfl (fun ht => ?_) (fun ht => ?_)
    ·refine k2 ?_
     refine F6 (Sees.forget 731) ?_
     refine A3 (A2 (A5 Z Z) Z (A6 ?_))
     refine k1 (k10 (k11 (k12 (k11 (k11 (k12 (k11 ?_)))))))
     exact F7 (V3 rfl rfl) (by repeat (first | exact C7 | refine tail_cons rfl ?_ | refine C8 _ ?_)) (ObIn.spec (ob' := [(2, K1)]) ⟨rfl, trivial⟩) ⟨rfl, rfl⟩
    ·exfalso; revert ht; simp; omega
   rw [words_step h3 (by rw [← huu]; exact g) (by rw [← huu]; exact he), Option.map_map] at hp
   refine k2 ?_
   refine A3 (A2 (A4 Z Z) Z (A2 (A4 Z Z) Z (B7 (hcv) Z Z Z ?_))); rintro _ rfl; refine A2 (A4 Z Z) Z (A2 (A9 Z Z) Z (A2 (A9 Z Z) Z (A2 (A5 Z Z) Z (A2 (A5 Z Z) Z (A6 ?_)))))
   refine k1 (k2 ?_)
   refine A3 (A2 (A4 Z Z) Z (B7 (hrg) Z Z Z ?_)); rintro _ rfl; refine A2 (A4 Z Z) Z (A2 (A9 Z Z) Z (A2 (A9 Z Z) Z (A2 (A9 Z Z) Z (A2 (A9 Z Z) Z (A2 (A5 Z Z) Z (A2 (A5 Z Z) Z (A2 (A5 Z Z) Z (A2 (A5 Z Z) Z (A6 ?_)))))))))
   refine k1 (k2 (k2 ?_))
   refine A3 (A2 (A4 Z Z) Z (A2 (D3 Z) Z (A2 (A4 Z Z) Z (A8 Z Z Z Z (fun hg => by rw [hg]; exact A4 Z Z) ?_)))); refine A8 Z Z Z Z (fun hg => by rw [hg]; exact D3 Z) ?_; refine A2 (B3 Z (fun h => by first | rfl | (rw [h]; rfl)) (fun h => by first | rfl | (rw [h]; rfl))) Z ?_; refine A2 (A4 Z Z) Z (A8 Z Z Z Z (fun hg => by rw [hg]; exact A4 Z Z) ?_); refine A8 Z Z Z Z (fun hg => by rw [hg]; exact A4 Z Z) ?_; refine A8 Z Z Z Z (fun hg => by rw [hg]; exact C6 Z) ?_; refine A8 Z Z Z Z (fun hg => by rw [hg]; exact O7 Z Z) ?_; refine A2 (B3 Z (fun h => by first | rfl | (rw [h]; rfl)) (fun h => by first | rfl | (rw [h]; rfl))) Z ?_; refine A6 ?_
   refine k1 ?_
   refine B2 rfl (fun ht => ?_) (fun ht => ?_)
   ·exfalso; revert ht; simp; omega
   refine T3 [(0, .s (.one (.ref 730 0))), (8, .s (.one (.ref 740 0))), (45, F4 Str 1 K9 W), (46, C3 W.length), (47, C3 j), (14, C3 s), (1000012, F9 x), (1000011, .s (.one (.ref 730 0))), (1000000, .s (.one (.ref 730 0))), (1000001, F9 x), (2000032, F9 x), (2000031, .s (.one (.ref 730 0))), (2000004, .s (.one (.ref 730 0))), (2000002, .s (.one (.ref 2 0))), (2000025, F4 Str 1 K9 R), (2000026, C3 R.length), (2000027, C3 k), (2000006, F9 x)] ([(730, pcBox w d N), (731, .grow 82 CHunk 2 s5 hs), (2, K1), (740, .box [.buf 741 Int 1 H7 a, .p (.v (.slice none 0 0))]), (741, .spare a.length 1 3)]) (Sees.of ⟨le1 rfl, le1 rfl, le1 rfl, le1 rfl, le1 rfl, le1 rfl, le1 rfl, le1 rfl, le1 rfl, le1 rfl, le1 rfl, le1 rfl, le1 rfl, le1 rfl, le1 rfl, le1 rfl, le1 rfl, le1 rfl, trivial⟩ ⟨rfl, rfl, rfl, rfl, rfl, trivial⟩) ?_
   refine k5 (k1 ?_)
   refine A3 (A2 (A7 Z) Z (A2 (B0 Z Z Z) Z (A2 (A4 Z Z) Z (A2 (D9 (c := H7) (ys := [s]) (F8 Z Z Z Z H5) Z Z Z) Z (C0 (J0 Z Z Z (.pure _ _ _ _) (by (simp only [List.length_cons, List.length_nil]; omega)) Z) Z (A2 (A7 Z) Z (D7 (B6 TySz.out Z Z Z Z Z Z) (A6 ?_))))))))
   refine k4 (k1 ?_)
   refine A3 (A2 (B9 Z Z (by omega)) Z (A2 (A4 Z Z) Z (A6 ?_)))
   refine k1 ?_
   refine ⟨(j + 1, a ++ [s]), ⟨by dsimp only; omega, by dsimp only; rw [List.length_append]; simp; omega, ?_⟩, by dsimp only; omega, Sees.of ⟨le1 rfl, le1 rfl, le1 rfl, le1 rfl, le1 rfl, le1 rfl, le1 rfl, le1 rfl, le1 rfl, le1 rfl, le1 rfl, le1 rfl, le1 rfl, le1 rfl, le1 rfl, le1 rfl, le1 rfl, trivial⟩ ⟨rfl, rfl, rfl, rfl, rfl, trivial⟩⟩
   dsimp only
   rw [hp]
   congr 1
   funext q
   simp
 ·have hjl : j = W.length := by have := A1 ht; omega
  rw [hjl, List.drop_eq_nil_of_le (Nat.le_refl _)] at hp
  have hp : M2 N 0 W = some a := by rw [hp, M2]; simp
  have hHa := hdone a hp
  refine T3 [(0, .s (.one (.ref 730 0))), (8, .s (.one (.ref 740 0))), (1000012, F9 x), (1000011, .s (.one (.ref 730 0))), (1000000, .s (.one (.ref 730 0))), (1000001, F9 x), (2000032, F9 x), (2000031, .s (.one (.ref 730 0))), (2000004, .s (.one (.ref 730 0))), (2000002, .s (.one (.ref 2 0))), (2000025, F4 Str 1 K9 R), (2000026, C3 R.length), (2000027, C3 k), (2000006, F9 x)] ([(730, pcBox w d N), (731, .grow 82 CHunk 2 s5 hs), (2, K1), (740, .box [.buf 741 Int 1 H7 a, .p (.v (.slice none 0 0))]), (741, .spare a.length 1 3)]) (Sees.of ⟨le1 rfl, le1 rfl, le1 rfl, le1 rfl, le1 rfl, le1 rfl, le1 rfl, le1 rfl, le1 rfl, le1 rfl, le1 rfl, le1 rfl, le1 rfl, le1 rfl, trivial⟩ ⟨rfl, rfl, rfl, rfl, rfl, trivial⟩) ?_
  refine k6 (k2 ?_)
  refine x8 [12, 8] [[], [8], [12, 8]] [(8, ([731], [96])), (12, ([], []))] [(0, []), (1, []), (2, []), (3, []), (4, []), (5, []), (6, []), (7, []), (8, []), (9, [8]), (10, [8]), (11, [8]), (12, [8])] [(0, [8])] (by kernel_rfl) (by kernel_rfl) (P5 Z Z Z Z Z (A4 Z Z) (P5 Z Z Z Z Z (A4 Z Z) (P5 Z Z Z Z Z (B4 Z) (P5 Z Z Z Z Z (A7 Z) (P5 Z Z Z Z Z (A7 Z) (P5 Z Z Z Z Z (B0 Z Z Z) (P5 Z Z Z Z Z (C1 Z Z Z) (P5 Z Z Z Z Z (D9 (c := s5) (ys := [⟨a, []⟩]) (F8 Z Z Z Z H5) Z Z Z) (w_eff Z Z Z Z Z (r_turn (fun frc hU => W1 (opvU hU Z) Z (opvU hU Z) (.pure _ _ _ _) (by (simp; omega)) Z)) Z (P5 Z Z Z Z Z (B4 Z) (P5 Z Z Z Z Z (A7 Z) (P5 Z Z Z Z Z (A7 Z) (w_eff Z Z Z Z Z (r_eff (fun frc hU => B6 TySz.out (opvU hU Z) Z (opvU hU Z) Z Z Z)) Z ?_))))))))))))); refine w_nil rfl rfl ?_ ?_
  ·refine x_neu Z Z Z Z Z (A4 Z Z) ?_; exact x_nil
  refine k1 (k2 ?_)
  refine D1 (by kernel_rfl) (by kernel_rfl) (B1 (A7 Z) Z Z (B1 (B0 Z Z Z) Z Z (B1 (I2 Z (.buf _ _ _ _ _)) Z Z (B1 (A4 Z Z) Z Z (B1 (B4 Z) Z Z (B1 (A7 Z) Z Z (B1 (A7 Z) Z Z (B1 (B0 Z Z Z) Z Z (B1 (B9 Z Z (by omega)) Z Z (B1 (E8 Z Z) Z Z (B1 (A5 Z Z) Z Z (J4 ?_))))))))))))
  refine k1 (k10 ?_)
  by_cases hal2 : a.length = N + 1
  ·rw [if_pos hal2] at hHa
   rw [hHa]
   refine F7 (ob' := S4 w d N (hs ++ [⟨a, []⟩])) (V3 rfl rfl) (by repeat (first | exact C7 | refine tail_cons rfl ?_ | refine C8 _ ?_)) (ObIn.spec ⟨rfl, rfl, rfl, trivial⟩) ⟨?_, rfl⟩
   rw [decide_eq_true (by omega)]
  ·rw [if_neg hal2] at hHa
   rw [hHa]
   refine F7 (ob' := [(2, K1)]) (V3 rfl rfl) (by repeat (first | exact C7 | refine tail_cons rfl ?_ | refine C8 _ ?_)) (ObIn.spec ⟨rfl, trivial⟩) ⟨?_, rfl⟩
   rw [decide_eq_false (by omega)]
set_option maxHeartbeats 4000000
theorem pline_at (x : Str) (R : List Str) (k : Nat) (w : Str) (d : Bool) (N : Nat) (hs : List CHunk) (hN : 1 ≤ N ∧ N ≤ 32) (hl : hs.length ≤ 16777216) (hx : x.length ≤ 4194304) (h64 : x.take 1 = [64]) :
  AL.Met Tryz.prog 159 [.one (.ref 730 0), .one (.p (.v (.string ⟨x.toArray⟩)))] (gfL x R k) (S4 w d N hs) [731]
   (fun rs ob' => match n7 N x with
    | none => rs = [tBo false] ∧ ob' = [(2, K1)]
    | some a => rs = [tBo true] ∧ ob' = S4 w d N (hs ++ [⟨a, []⟩])) := by
 have hh := pheader_met x R k w d N hs hN hl hx
 have hp := j5 x [64]
 rw [show ([64] : Str).length = 1 from rfl, decide_eq_true h64] at hp
 cases hH : n7 N x with
 | none =>
  rw [hH] at hh
  refine AL.Met.intro Tryz.func159 (by decide) Z Z Z ?_
  refine k2 ?_
  refine A3 (A2 (A5 Z Z) Z (A6 ?_))
  refine k1 (k2 (k2 ?_))
  refine A3 (A2 (A4 Z Z) Z (B7 (hp) Z Z Z ?_)); rintro _ rfl; refine A6 ?_
  refine k1 ?_
  refine B2 rfl (fun ht => ?_) (fun ht => ?_)
  rotate_left
  ·cases ht
  refine T3 [(0, .s (.one (.ref 730 0))), (1, F9 x), (1000032, F9 x), (1000031, .s (.one (.ref 730 0))), (1000004, .s (.one (.ref 730 0))), (1000002, .s (.one (.ref 2 0))), (1000025, F4 Str 1 K9 R), (1000026, C3 R.length), (1000027, C3 k), (1000006, F9 x)] (S4 w d N hs) (Sees.of ⟨le1 rfl, le1 rfl, le1 rfl, le1 rfl, le1 rfl, le1 rfl, le1 rfl, le1 rfl, le1 rfl, le1 rfl, trivial⟩ ⟨rfl, rfl, rfl, trivial⟩) ?_
  refine k2 ?_
  refine A3 (A2 (A4 Z Z) Z (A2 (A4 Z Z) Z (R7 (hh) Z Z Z ?_))); rintro _ _ ⟨rfl, rfl⟩; refine A2 (A5 Z Z) Z (A6 ?_)
  refine k1 (k10 (k11 ?_))
  exact F7 (V3 rfl rfl) (by repeat (first | exact C7 | refine tail_cons rfl ?_ | refine C8 _ ?_)) (ObIn.spec (ob' := [(2, K1)]) ⟨rfl, trivial⟩) ⟨rfl, rfl⟩
 | some a =>
  rw [hH] at hh
  refine AL.Met.intro Tryz.func159 (by decide) Z Z Z ?_
  refine k2 ?_
  refine A3 (A2 (A5 Z Z) Z (A6 ?_))
  refine k1 (k2 (k2 ?_))
  refine A3 (A2 (A4 Z Z) Z (B7 (hp) Z Z Z ?_)); rintro _ rfl; refine A6 ?_
  refine k1 ?_
  refine B2 rfl (fun ht => ?_) (fun ht => ?_)
  rotate_left
  ·cases ht
  refine T3 [(0, .s (.one (.ref 730 0))), (1, F9 x), (1000032, F9 x), (1000031, .s (.one (.ref 730 0))), (1000004, .s (.one (.ref 730 0))), (1000002, .s (.one (.ref 2 0))), (1000025, F4 Str 1 K9 R), (1000026, C3 R.length), (1000027, C3 k), (1000006, F9 x)] (S4 w d N hs) (Sees.of ⟨le1 rfl, le1 rfl, le1 rfl, le1 rfl, le1 rfl, le1 rfl, le1 rfl, le1 rfl, le1 rfl, le1 rfl, trivial⟩ ⟨rfl, rfl, rfl, trivial⟩) ?_
  refine k2 ?_
  refine A3 (A2 (A4 Z Z) Z (A2 (A4 Z Z) Z (R7 (hh) Z Z Z ?_))); rintro _ _ ⟨rfl, rfl⟩; refine A2 (A5 Z Z) Z (A6 ?_)
  refine k1 (k10 (k11 ?_))
  exact F7 (V3 rfl rfl) (by repeat (first | exact C7 | refine tail_cons rfl ?_ | refine C8 _ ?_)) (ObIn.spec (ob' := S4 w d N (hs ++ [⟨a, []⟩])) ⟨rfl, rfl, rfl, trivial⟩) ⟨rfl, rfl⟩
theorem pline_nil (x : Str) (R : List Str) (k : Nat) (w : Str) (d : Bool) (N : Nat) (h64 : x.take 1 ≠ [64]) :
  AL.Met Tryz.prog 159 [.one (.ref 730 0), .one (.p (.v (.string ⟨x.toArray⟩)))] (gfL x R k) (S4 w d N []) [732] (fun rs ob' => rs = [tBo false] ∧ ob' = [(2, K1)]) := by
 have hp := j5 x [64]
 rw [show ([64] : Str).length = 1 from rfl, decide_eq_false h64] at hp
 refine AL.Met.intro Tryz.func159 (by decide) Z Z Z ?_
 refine k2 ?_
 refine A3 (A2 (A5 Z Z) Z (A6 ?_))
 refine k1 (k2 (k2 ?_))
 refine A3 (A2 (A4 Z Z) Z (B7 (hp) Z Z Z ?_)); rintro _ rfl; refine A6 ?_
 refine k1 ?_
 refine B2 rfl (fun ht => ?_) (fun ht => ?_)
 ·cases ht
 refine k5 (k1 (k2 (k2 ?_)))
 refine A3 (A2 (A4 Z Z) Z (A2 (B4 Z) Z (A2 (A7 Z) Z (A2 (A7 Z) Z (A2 (B0 Z Z Z) Z (A2 (n_len_g Z Z) Z (A2 (E8 Z Z) Z (A6 ?_))))))))
 refine k1 ?_
 refine B2 rfl (fun ht => ?_) (fun ht => ?_)
 ·refine k2 ?_
  refine F6 (Sees.forget 732) ?_
  refine A3 (A2 (A5 Z Z) Z (A6 ?_))
  refine k1 (k10 (k11 ?_))
  exact F7 (V3 rfl rfl) (by repeat (first | exact C7 | refine tail_cons rfl ?_ | refine C8 _ ?_)) (ObIn.spec (ob' := [(2, K1)]) ⟨rfl, trivial⟩) ⟨rfl, rfl⟩
 ·cases ht
theorem pline_cut (R : List Str) (k : Nat) (w : Str) (d : Bool) (N : Nat) (hs : List CHunk) (a : List Int) (rs : List Row) (h0 : 0 < hs.length) (hl : hs.length ≤ 16777216) (hrl : rs.length ≤ 16777216) (htx : ∀ r ∈ rs, r.Text.length ≤ 1073741824) :
  AL.Met Tryz.prog 159 [.one (.ref 730 0), .one (.p (.v (.string ⟨noNl.toArray⟩)))] (gfL noNl R k) (S5 w d N hs a rs) []
   (fun res ob' => match rs.getLast? with
    | none => res = [tBo false] ∧ ob' = [(2, K1)]
    | some r => res = [tBo true] ∧ ob' = S5 w d N hs a (rs.dropLast ++ [⟨r.Lost, r.Marks, d6 r.Text⟩])) := by
 have hp := j5 noNl [64]
 rw [show decide (noNl.take ([64] : Str).length = [64]) = false from rfl] at hp
 have hne0 : decide ((hs.length : Int) = 0) = false := decide_eq_false (by omega)
 cases hx : rs.getLast? with
 | none =>
  have hn : rs = [] := List.getLast?_eq_none_iff.1 hx
  subst hn
  refine AL.Met.intro Tryz.func159 (by decide) Z Z Z ?_
  refine k2 ?_
  refine A3 (A2 (A5 Z Z) Z (A6 ?_))
  refine k1 (k2 (k2 ?_))
  refine A3 (A2 (A4 Z Z) Z (B7 (hp) Z Z Z ?_)); rintro _ rfl; refine A6 ?_
  refine k1 ?_
  refine B2 rfl (fun ht => ?_) (fun ht => ?_)
  ·cases ht
  refine k5 (k1 (k2 (k2 ?_)))
  refine A3 (A2 (A4 Z Z) Z (A2 (B4 Z) Z (A2 (A7 Z) Z (A2 (A7 Z) Z (A2 (B0 Z Z Z) Z (A2 (c7 Z Z) Z (A2 (E8 Z Z) Z (A6 ?_))))))))
  refine k1 ?_
  refine B2 rfl (fun ht => ?_) (fun ht => ?_)
  ·exact absurd (A0 ht) (by omega)
  refine k5 (k1 (k2 ?_))
  refine D1 (by kernel_rfl) (by kernel_rfl) (B1 (A4 Z Z) Z Z (B1 (B4 Z) Z Z (B1 (A7 Z) Z Z (B1 (A7 Z) Z Z (B1 (B0 Z Z Z) Z Z (B1 (A4 Z Z) Z Z (B1 (B4 Z) Z Z (B1 (A7 Z) Z Z (B1 (A7 Z) Z Z (B1 (B0 Z Z Z) Z Z (B1 (c7 Z Z) Z Z (B1 (W5 Z Z (by omega)) Z Z (B1 (X8 Z Z Z (by omega) (by omega)) Z Z (B1 (A5 Z Z) Z Z (J4 ?_)))))))))))))))
  refine k1 (k2 (k2 ?_))
  refine A3 (A2 (A4 Z Z) Z (A2 (R3 Z Z) Z (A6 ?_)))
  refine k1 ?_
  refine B2 rfl (fun ht => ?_) (fun ht => ?_)
  rotate_left
  ·exact absurd rfl (A1 ht)
  refine k2 (k2 ?_)
  refine A3 (A2 (A4 Z Z) Z (A2 (I6 Z) Z (A2 (L5 Z) Z (A2 (j9 Z Z (by first | rfl | omega) Z) Z ?_)))); refine A2 (n_len_g Z Z) Z (A2 (E8 Z Z) Z (A6 ?_))
  refine k1 ?_
  refine B2 rfl (fun ht => ?_) (fun ht => ?_)
  rotate_left
  ·exact absurd rfl (A1 ht)
  refine k2 ?_
  refine A3 (A2 (A5 Z Z) Z (A6 ?_))
  refine k1 (k10 (k11 (k11 ?_)))
  exact F7 (V3 rfl rfl) (by repeat (first | exact C7 | refine tail_cons rfl ?_ | refine C8 _ ?_)) (ObIn.spec (ob' := [(2, K1)]) ⟨rfl, trivial⟩) ⟨rfl, rfl⟩
 | some r =>
  have hne : rs ≠ [] := fun e => by rw [e] at hx; cases hx
  have hlen := List.length_pos_iff.2 hne
  have hv : rs[((rs.length : Int) - 1).toNat]? = some r := by rw [show ((rs.length : Int) - 1).toNat = rs.length - 1 by omega, ← List.getLast?_eq_getElem?]; exact hx
  have hset : ∀ y : Row, rs.set (((rs.length : Int) - 1).toNat) y = rs.dropLast ++ [y] := by
   intro y
   rw [show ((rs.length : Int) - 1).toNat = rs.length - 1 by omega]
   have hd := List.dropLast_concat_getLast hne
   conv => lhs; rw [← hd]
   rw [List.set_append_right _ _ (by rw [List.length_dropLast, List.length_append, List.length_dropLast]; simp)]
   simp
  have hxt := htx r (List.mem_of_getElem? hv)
  have htr := trimSuffix_ok r.Text [10] (by omega)
  rw [trimSuffix_lf, show y7 r.Text = d6 r.Text from rfl] at htr
  refine AL.Met.intro Tryz.func159 (by decide) Z Z Z ?_
  refine k2 ?_
  refine A3 (A2 (A5 Z Z) Z (A6 ?_))
  refine k1 (k2 (k2 ?_))
  refine A3 (A2 (A4 Z Z) Z (B7 (hp) Z Z Z ?_)); rintro _ rfl; refine A6 ?_
  refine k1 ?_
  refine B2 rfl (fun ht => ?_) (fun ht => ?_)
  ·cases ht
  refine k5 (k1 (k2 (k2 ?_)))
  refine A3 (A2 (A4 Z Z) Z (A2 (B4 Z) Z (A2 (A7 Z) Z (A2 (A7 Z) Z (A2 (B0 Z Z Z) Z (A2 (c7 Z Z) Z (A2 (E8 Z Z) Z (A6 ?_))))))))
  refine k1 ?_
  refine B2 rfl (fun ht => ?_) (fun ht => ?_)
  ·exact absurd (A0 ht) (by omega)
  refine k5 (k1 (k2 ?_))
  refine D1 (by kernel_rfl) (by kernel_rfl) (B1 (A4 Z Z) Z Z (B1 (B4 Z) Z Z (B1 (A7 Z) Z Z (B1 (A7 Z) Z Z (B1 (B0 Z Z Z) Z Z (B1 (A4 Z Z) Z Z (B1 (B4 Z) Z Z (B1 (A7 Z) Z Z (B1 (A7 Z) Z Z (B1 (B0 Z Z Z) Z Z (B1 (c7 Z Z) Z Z (B1 (W5 Z Z (by omega)) Z Z (B1 (X8 Z Z Z (by omega) (by omega)) Z Z (B1 (A5 Z Z) Z Z (J4 ?_)))))))))))))))
  refine k1 (k2 (k2 ?_))
  refine A3 (A2 (A4 Z Z) Z (A2 (R3 Z Z) Z (A6 ?_)))
  refine k1 ?_
  refine B2 rfl (fun ht => ?_) (fun ht => ?_)
  rotate_left
  ·exact absurd rfl (A1 ht)
  refine k2 (k2 ?_)
  refine A3 (A2 (A4 Z Z) Z (A2 (I6 Z) Z (A2 (L5 Z) Z (A2 (j9 Z Z (by first | rfl | omega) Z) Z ?_)))); refine A2 (n_len_g Z Z) Z (A2 (E8 Z Z) Z (A6 ?_))
  refine k1 ?_
  refine B2 rfl (fun ht => ?_) (fun ht => ?_)
  ·exact absurd (A0 ht) (by omega)
  refine k5 (k1 (k2 ?_))
  refine D1 (by kernel_rfl) (by kernel_rfl) (B1 (A4 Z Z) Z Z (B1 (I6 Z) Z Z (B1 (L5 Z) Z Z (B1 (j9 Z Z (by first | rfl | omega) Z) Z Z ?_)))); refine B1 (A4 Z Z) Z Z (B1 (I6 Z) Z Z (B1 (L5 Z) Z Z (B1 (j9 Z Z (by first | rfl | omega) Z) Z Z ?_))); refine B1 (n_len_g Z Z) Z Z (B1 (W5 Z Z (by omega)) Z Z (B1 (S0 Z Z Z (by omega) (by omega)) Z Z (B1 (A5 Z Z) Z Z (J4 ?_))))
  refine k1 (k2 ?_)
  refine A3 (A2 (A4 Z Z) Z (A2 (A4 Z Z) Z (A2 (I6 Z) Z (A2 (L5 Z) Z (A2 (n_load_g Z Z hv Z) Z (B7 (htr) Z Z Z ?_)))))); rintro _ rfl; refine A2 (I6 Z) Z (A2 (L5 Z) Z (D7 (e_store_g (⟨r.Lost, r.Marks, d6 r.Text⟩) TySz.out Z Z hv Z Z Z Z (fun _ _ _ h => all2_unp h) (by intro j h1 h2; rcases j with _ | _ | _ | _ | _ | _ | _ | j <;> first | rfl | omega)) ?_)); refine A6 ?_
  rw [hset]
  refine k1 (k2 ?_)
  refine A3 (A2 (A5 Z Z) Z (A6 ?_))
  refine k1 (k10 (k11 ?_))
  exact F7 (V3 rfl rfl) (by repeat (first | exact C7 | refine tail_cons rfl ?_ | refine C8 _ ?_)) (ObIn.spec (ob' := S5 w d N hs a (rs.dropLast ++ [⟨r.Lost, r.Marks, d6 r.Text⟩])) ⟨rfl, rfl, rfl, rfl, trivial⟩) ⟨rfl, rfl⟩
theorem pline_row (x : Str) (R : List Str) (k : Nat) (w : Str) (d : Bool) (N : Nat) (hs : List CHunk) (a : List Int) (rs : List Row) (h0 : 0 < hs.length) (hl : hs.length ≤ 16777216) (hrl : rs.length ≤ 16777216) (hx : x.length ≤ 4194304) (h64 : x.take 1 ≠ [64]) (hno : x ≠ noNl) :
  AL.Met Tryz.prog 159 [.one (.ref 730 0), .one (.p (.v (.string ⟨x.toArray⟩)))] (gfL x R k) (S5 w d N hs a rs) [732]
   (fun res ob' => match Z1 (x ++ [10]) N with
    | none => res = [tBo false] ∧ ob' = [(2, K1)]
    | some r => res = [tBo true] ∧ ob' = S5 w d N hs a (rs ++ [r])) := by
 have hp := j5 x [64]
 rw [show ([64] : Str).length = 1 from rfl, decide_eq_false h64] at hp
 have hR := pRow_ok (x ++ [10]) N
 cases hr : Z1 (x ++ [10]) (N : Int) with
 | none =>
  rw [U4 hr] at hR
  refine AL.Met.intro Tryz.func159 (by decide) Z Z Z ?_
  refine k2 ?_
  refine A3 (A2 (A5 Z Z) Z (A6 ?_))
  refine k1 (k2 (k2 ?_))
  refine A3 (A2 (A4 Z Z) Z (B7 (hp) Z Z Z ?_)); rintro _ rfl; refine A6 ?_
  refine k1 ?_
  refine B2 rfl (fun ht => ?_) (fun ht => ?_)
  ·cases ht
  refine k5 (k1 (k2 (k2 ?_)))
  refine A3 (A2 (A4 Z Z) Z (A2 (B4 Z) Z (A2 (A7 Z) Z (A2 (A7 Z) Z (A2 (B0 Z Z Z) Z (A2 (c7 Z Z) Z (A2 (E8 Z Z) Z (A6 ?_))))))))
  refine k1 ?_
  refine B2 rfl (fun ht => ?_) (fun ht => ?_)
  ·exact absurd (A0 ht) (by omega)
  refine k5 (k1 (k2 ?_))
  refine D1 (by kernel_rfl) (by kernel_rfl) (B1 (A4 Z Z) Z Z (B1 (B4 Z) Z Z (B1 (A7 Z) Z Z (B1 (A7 Z) Z Z (B1 (B0 Z Z Z) Z Z (B1 (A4 Z Z) Z Z (B1 (B4 Z) Z Z (B1 (A7 Z) Z Z (B1 (A7 Z) Z Z (B1 (B0 Z Z Z) Z Z (B1 (c7 Z Z) Z Z (B1 (W5 Z Z (by omega)) Z Z (B1 (X8 Z Z Z (by omega) (by omega)) Z Z (B1 (A5 Z Z) Z Z (J4 ?_)))))))))))))))
  refine k1 (k2 (k2 ?_))
  refine A3 (A2 (A4 Z Z) Z (A2 (R3 Z Z) Z (A6 ?_)))
  refine k1 ?_
  refine B2 rfl (fun ht => ?_) (fun ht => ?_)
  ·exact absurd (A0 ht) hno
  refine T3 [(0, .s (.one (.ref 730 0))), (1, F9 x), (5, .s (.one (.mref 731 2 ((hs.length : Int) - 1).toNat 0))), (1000032, F9 x), (1000031, .s (.one (.ref 730 0))), (1000004, .s (.one (.ref 730 0))), (1000002, .s (.one (.ref 2 0))), (1000025, F4 Str 1 K9 R), (1000026, C3 R.length), (1000027, C3 k), (1000006, F9 x)] (S5 w d N hs a rs) (Sees.of ⟨le1 rfl, le1 rfl, le1 rfl, le1 rfl, le1 rfl, le1 rfl, le1 rfl, le1 rfl, le1 rfl, le1 rfl, le1 rfl, trivial⟩ ⟨rfl, rfl, rfl, rfl, trivial⟩) ?_
  refine k5 (k1 (k2 ?_))
  refine A3 (A2 (A4 Z Z) Z (A2 (D8 Z Z (by (simp; omega))) Z (A2 (A4 Z Z) Z (A2 (B4 Z) Z (A2 (A7 Z) Z (A2 (A7 Z) Z (A2 (B0 Z Z Z) Z (B7 (hR) Z Z Z ?_)))))))); rintro _ rfl; refine A2 (A4 Z Z) Z (A2 (A9 Z Z) Z (A2 (A9 Z Z) Z (C0 (F0 733 Z) Z (D7 (B6 TySz.out Z Z Z Z Z Z) (A2 (A5 Z Z) Z (A6 ?_))))))
  refine k1 (k2 ?_)
  refine x8 [10, 7] [[], [7], [10, 7]] [(7, ([732], [76])), (10, ([], []))] [(0, []), (1, []), (2, []), (3, []), (4, []), (5, []), (6, []), (7, []), (8, [7]), (9, [7]), (10, [7])] [(0, [7])] (by kernel_rfl) (by kernel_rfl) (P5 Z Z Z Z Z (A4 Z Z) (P5 Z Z Z Z Z (A4 Z Z) (P5 Z Z Z Z Z (I6 Z) (P5 Z Z Z Z Z (L5 Z) (P5 Z Z Z Z Z (j9 Z Z (by first | rfl | omega) Z) ?_))))); refine P5 Z Z Z Z Z (C1 Z Z Z) (P5 Z Z Z Z Z (D9 (c := rowC) (ys := [⟨false, 0, []⟩]) (F8 Z Z Z Z H5) Z Z Z) (w_eff Z Z Z Z Z (r_turn (fun frc hU => W1 (opvU hU Z) Z (opvU hU Z) (.pure _ _ _ _) (by (simp; omega)) Z)) Z (P5 Z Z Z Z Z (I6 Z) (P5 Z Z Z Z Z (L5 Z) (w_eff Z Z Z Z Z (r_eff (fun frc hU => e_store_gA TySz.out (opvU hU Z) Z (by first | rfl | omega) (opvU hU Z) Z Z Z)) Z ?_))))); refine w_nil rfl rfl ?_ ?_
  ·refine x_neu Z Z Z Z Z (A4 Z Z) ?_; exact x_nil
  refine k1 (k2 ?_)
  refine A3 (A2 (A4 Z Z) Z (A2 (A5 Z Z) Z (A6 ?_)))
  refine k1 (k10 ?_)
  exact F7 (V3 rfl rfl) (by repeat (first | exact C7 | refine tail_cons rfl ?_ | refine C8 _ ?_)) (ObIn.spec (ob' := [(2, K1)]) ⟨rfl, trivial⟩) ⟨rfl, rfl⟩
 | some r =>
  rw [u7 hr] at hR
  refine AL.Met.intro Tryz.func159 (by decide) Z Z Z ?_
  refine k2 ?_
  refine A3 (A2 (A5 Z Z) Z (A6 ?_))
  refine k1 (k2 (k2 ?_))
  refine A3 (A2 (A4 Z Z) Z (B7 (hp) Z Z Z ?_)); rintro _ rfl; refine A6 ?_
  refine k1 ?_
  refine B2 rfl (fun ht => ?_) (fun ht => ?_)
  ·cases ht
  refine k5 (k1 (k2 (k2 ?_)))
  refine A3 (A2 (A4 Z Z) Z (A2 (B4 Z) Z (A2 (A7 Z) Z (A2 (A7 Z) Z (A2 (B0 Z Z Z) Z (A2 (c7 Z Z) Z (A2 (E8 Z Z) Z (A6 ?_))))))))
  refine k1 ?_
  refine B2 rfl (fun ht => ?_) (fun ht => ?_)
  ·exact absurd (A0 ht) (by omega)
  refine k5 (k1 (k2 ?_))
  refine D1 (by kernel_rfl) (by kernel_rfl) (B1 (A4 Z Z) Z Z (B1 (B4 Z) Z Z (B1 (A7 Z) Z Z (B1 (A7 Z) Z Z (B1 (B0 Z Z Z) Z Z (B1 (A4 Z Z) Z Z (B1 (B4 Z) Z Z (B1 (A7 Z) Z Z (B1 (A7 Z) Z Z (B1 (B0 Z Z Z) Z Z (B1 (c7 Z Z) Z Z (B1 (W5 Z Z (by omega)) Z Z (B1 (X8 Z Z Z (by omega) (by omega)) Z Z (B1 (A5 Z Z) Z Z (J4 ?_)))))))))))))))
  refine k1 (k2 (k2 ?_))
  refine A3 (A2 (A4 Z Z) Z (A2 (R3 Z Z) Z (A6 ?_)))
  refine k1 ?_
  refine B2 rfl (fun ht => ?_) (fun ht => ?_)
  ·exact absurd (A0 ht) hno
  refine T3 [(0, .s (.one (.ref 730 0))), (1, F9 x), (5, .s (.one (.mref 731 2 ((hs.length : Int) - 1).toNat 0))), (1000032, F9 x), (1000031, .s (.one (.ref 730 0))), (1000004, .s (.one (.ref 730 0))), (1000002, .s (.one (.ref 2 0))), (1000025, F4 Str 1 K9 R), (1000026, C3 R.length), (1000027, C3 k), (1000006, F9 x)] (S5 w d N hs a rs) (Sees.of ⟨le1 rfl, le1 rfl, le1 rfl, le1 rfl, le1 rfl, le1 rfl, le1 rfl, le1 rfl, le1 rfl, le1 rfl, le1 rfl, trivial⟩ ⟨rfl, rfl, rfl, rfl, trivial⟩) ?_
  refine k5 (k1 (k2 ?_))
  refine A3 (A2 (A4 Z Z) Z (A2 (D8 Z Z (by (simp; omega))) Z (A2 (A4 Z Z) Z (A2 (B4 Z) Z (A2 (A7 Z) Z (A2 (A7 Z) Z (A2 (B0 Z Z Z) Z (B7 (hR) Z Z Z ?_)))))))); rintro _ rfl; refine A2 (A4 Z Z) Z (A2 (A9 Z Z) Z (A2 (A9 Z Z) Z (C0 (F0 733 Z) Z (D7 (B6 TySz.out Z Z Z Z Z Z) (A2 (A5 Z Z) Z (A6 ?_))))))
  refine k1 (k2 ?_)
  refine x8 [10, 7] [[], [7], [10, 7]] [(7, ([732], [76])), (10, ([], []))] [(0, []), (1, []), (2, []), (3, []), (4, []), (5, []), (6, []), (7, []), (8, [7]), (9, [7]), (10, [7])] [(0, [7])] (by kernel_rfl) (by kernel_rfl) (P5 Z Z Z Z Z (A4 Z Z) (P5 Z Z Z Z Z (A4 Z Z) (P5 Z Z Z Z Z (I6 Z) (P5 Z Z Z Z Z (L5 Z) (P5 Z Z Z Z Z (j9 Z Z (by first | rfl | omega) Z) ?_))))); refine P5 Z Z Z Z Z (C1 Z Z Z) (P5 Z Z Z Z Z (D9 (c := rowC) (ys := [r]) (F8 Z Z Z Z H5) Z Z Z) (w_eff Z Z Z Z Z (r_turn (fun frc hU => W1 (opvU hU Z) Z (opvU hU Z) (.pure _ _ _ _) (by (simp; omega)) Z)) Z (P5 Z Z Z Z Z (I6 Z) (P5 Z Z Z Z Z (L5 Z) (w_eff Z Z Z Z Z (r_eff (fun frc hU => e_store_gA TySz.out (opvU hU Z) Z (by first | rfl | omega) (opvU hU Z) Z Z Z)) Z ?_))))); refine w_nil rfl rfl ?_ ?_
  ·refine x_neu Z Z Z Z Z (A4 Z Z) ?_; exact x_nil
  refine k1 (k2 ?_)
  refine A3 (A2 (A4 Z Z) Z (A2 (A5 Z Z) Z (A6 ?_)))
  refine k1 (k10 ?_)
  exact F7 (V3 rfl rfl) (by repeat (first | exact C7 | refine tail_cons rfl ?_ | refine C8 _ ?_)) (ObIn.spec (ob' := S5 w d N hs a (rs ++ [r])) ⟨rfl, rfl, rfl, rfl, trivial⟩) ⟨rfl, rfl⟩
def objC (w : Str) (d : Bool) (n : Int) (hs : List CHunk) : Obs := match hs.getLast? with
 | some h => (match h.Rows with
  | [] => S4 w d n hs
  | _ :: _ => S5 w d n hs h.At h.Rows)
 | none => S4 w d n hs
section
variable {P : Program} {nt : Nat} {fr : Fr} {w : Str} {d : Bool} {n : Int} {hs : List CHunk}
theorem shutC {h : CHunk} (hf : J6 732 fr = true) (hl : hs.getLast? = some h) (hne : h.Rows ≠ []) : Sees P nt fr (S5 w d n hs h.At h.Rows) fr (S4 w d n hs) := by
 have h1 := Sees.freezeG (P := P) (nt := nt) (fr := fr) (ob := S5 w d n hs h.At h.Rows) (k := 732) rfl rfl
 rw [mapS_free hf] at h1
 refine h1.trans ?_
 have hset : hs.set (hs.length - 1) h = hs := by
  have h2 := last_split hl
  have hlen : hs.length - 1 = hs.dropLast.length := by rw [List.length_dropLast]
  conv => lhs; rw [hlen]; arg 1; rw [h2]
  rw [List.set_append_right _ _ (Nat.le_refl _), Nat.sub_self, List.set_cons_zero, ← h2]
 have h3 := Sees.closeA (P := P) (nt := nt) (fr := fr) (ob := Obs.mapO (Ob.freeze 732 Row 3 rowC h.Rows) (Obs.drop 732 (S5 w d n hs h.At h.Rows))) 731 h rfl (by
  obtain ⟨a, ls⟩ := h
  cases ls with
  | nil => exact absurd rfl hne
  | cons x r => rfl)
 rw [hset] at h3
 refine h3.trans (Sees.fewer (ObIn.spec ⟨rfl, rfl, rfl, trivial⟩))
theorem openC2 {h : CHunk} (hf : J6 732 fr = true) (hl : hs.getLast? = some h) (hne : h.Rows = []) : Sees P nt fr (S4 w d n hs) fr (S5 w d n hs h.At []) := by
 have hv : hs[hs.length - 1]? = some h := by rw [← List.getLast?_eq_getElem?]; exact hl
 refine (Sees.openA 731 (hs.length - 1) (v := h) Z hv).trans ?_
 have hcells : (cellsOf s5 h 0 2).map TC.p = [.p (.list Int 1 H7 h.At), .p (.v (.slice none 0 0))] := by
  obtain ⟨a, ls⟩ := h
  have hne : ls = [] := hne
  subst hne; rfl
 rw [hcells]
 refine (Sees.adoptA 732 Row 3 rowC 69 (kb := 731) (o := 1) Z Z (by rw [hf]; rfl)).trans ?_
 exact Sees.fewer (ObIn.spec ⟨rfl, rfl, rfl, rfl, trivial⟩)
theorem toShutC (hf : J6 732 fr = true) : Sees P nt fr (objC w d n hs) fr (S4 w d n hs) := by
 unfold objC
 cases hl : hs.getLast? with
 | none => exact Sees.fewer fun _ _ h => h
 | some h =>
  dsimp only
  cases hh : h.Rows with
  | nil => exact Sees.fewer fun _ _ h => h
  | cons x r =>
   dsimp only
   rw [← hh]
   exact shutC hf hl (by rw [hh]; simp)
theorem toOpenC {h : CHunk} (hf : J6 732 fr = true) (hl : hs.getLast? = some h) : Sees P nt fr (objC w d n hs) fr (S5 w d n hs h.At h.Rows) := by
 unfold objC
 rw [hl]
 dsimp only
 cases hh : h.Rows with
 | nil => dsimp only; exact openC2 hf hl hh
 | cons x r => exact Sees.fewer fun _ _ h => h
theorem ofShutC {a : List Int} : objC w d n (hs ++ [⟨a, []⟩]) = S4 w d n (hs ++ [⟨a, []⟩]) := by unfold objC; simp
theorem ofOpenC {h : CHunk} {ls : List Row} (hl : hs.getLast? = some h) (hne : ls ≠ []) : Sees P nt fr (S5 w d n hs h.At ls) fr (objC w d n (hs.dropLast ++ [⟨h.At, ls⟩])) := by
 have h2 := last_split hl
 have hlen : (hs.dropLast ++ [(⟨h.At, ls⟩ : CHunk)]).length = hs.length := by
  conv => rhs; rw [h2]
  simp
 have hO : objC w d n (hs.dropLast ++ [⟨h.At, ls⟩]) = S5 w d n (hs.dropLast ++ [⟨h.At, ls⟩]) h.At ls := by
  unfold objC
  cases ls with
  | nil => exact absurd rfl hne
  | cons x r => simp
 rw [hO]
 have h3 := Sees.reA (P := P) (nt := nt) (fr := fr) (ob := S5 w d n hs h.At ls) 731 (hs.dropLast ++ [⟨h.At, ls⟩]) rfl hlen (by
  intro i hi
  have hd : hs.dropLast.length = hs.length - 1 := by rw [List.length_dropLast]
  rcases Nat.lt_or_ge i (hs.length - 1) with h4 | h4
  ·rw [List.getElem?_append_left (by omega)]
   conv => rhs; rw [h2]
   rw [List.getElem?_append_left (by omega)]
  ·rw [List.getElem?_eq_none (by omega), List.getElem?_eq_none (by omega)])
 rw [show (hs.length - 1) = (hs.dropLast ++ [(⟨h.At, ls⟩ : CHunk)]).length - 1 by rw [hlen]] at h3
 exact h3.trans (Sees.fewer (ObIn.spec ⟨rfl, rfl, rfl, rfl, trivial⟩))
end
theorem chunk_cell {x : CHunk} (j : Nat) (rd : Rd) (u : Value) (h : (s5 x j).rep rd u) : (J7 x j).rep rd u := by
 match j with
 | 0 => exact h
 | j + 1 =>
  obtain ⟨a, ls⟩ := x
  cases ls with
  | nil =>
   have h : (Cell.v (.slice none 0 0)).rep rd u := h
   obtain ⟨rfl, _⟩ := h
   exact T8 _ _ _
  | cons y r => exact h
def U5 (l : List Str) : List PV := match L3 l with
 | some p => [I7 p, C4 true]
 | none => [I7 P7, C4 false]
set_option maxHeartbeats 4000000
theorem pparse_ok (l : List Str) (hw : (l.map Z2).sum ≤ 268435456) (hsz : ∀ s ∈ l, s.length ≤ 4194304) : FnOk Tryz.prog 83 [i7 l] (fun rs => rs = U5 l) := by
 have hll : 420 * l.length ≤ (l.map Z2).sum := by
  clear hw hsz
  induction l with
  | nil => simp
  | cons x r ih =>
   have e : Z2 x = 420 * (x.length + 1) := rfl
   simp only [List.map_cons, List.sum_cons, List.length_cons, e]; omega
 by_cases hlen : l.length < 2
 ·have hp : L3 l = none := by
   match l, hlen with
   | [], _ => rfl
   | [_], _ => rfl
  have hb : decide ((l.length : Int) < 2) = true := decide_eq_true (by omega)
  refine FnOk.intro Tryz.func83 (by decide) Z Z Z Z ?_
  refine k2 ?_
  refine A3 (C0 (F0 2 Z) Z (A2 (A5 Z Z) Z (A6 ?_)))
  refine k1 (k2 ?_)
  refine A3 (A2 (H3 Z) Z (C0 (R0 730 Z Z Z) Z (A2 (A5 Z Z) Z (A6 ?_))))
  refine k1 (k2 (k2 ?_))
  refine D1 (by kernel_rfl) (by kernel_rfl) (B1 (A4 Z Z) Z Z (B1 (I2 Z (.pure _ _ _ _)) Z Z (B1 (D5 Z Z) Z Z (B1 (A4 Z Z) Z Z (r5 Z Z (by rw [hb]; decide) Z Z ?_))))); refine r5 Z Z (by rw [hb]; decide) Z Z ?_; refine r5 Z Z (by rw [hb]; decide) Z Z ?_; refine r5 Z Z (by rw [hb]; decide) Z Z ?_; refine r5 Z Z (by rw [hb]; decide) Z Z ?_; refine r5 Z Z (by rw [hb]; decide) Z Z ?_; refine r5 Z Z (by rw [hb]; decide) Z Z ?_; refine r5 Z Z (by rw [hb]; decide) Z Z ?_; refine r5 Z Z (by rw [hb]; decide) Z Z ?_; refine B1 (n_pick_t Z (hb) Z) Z Z (J4 ?_)
  refine k1 ?_
  refine B2 rfl (fun ht => ?_) (fun ht => ?_)
  rotate_left
  ·cases ht
  refine k2 ?_
  refine A3 (A2 (H3 Z) Z (D7 (B6 TySz.out Z Z Z Z Z Z) (A2 (A5 Z Z) Z (A6 ?_))))
  refine k1 ?_
  refine F6 (Sees.listB CHunk 2 J7 2 3 Z Z) ?_
  refine k10 (k11 ?_)
  exact B5 (rs := [I7 P7, C4 false]) (O1 rfl rfl rfl rfl rfl rfl rfl) (by unfold U5; rw [hp])
 obtain ⟨l0, l1, R, rfl⟩ : ∃ a b r, l = a :: b :: r := by
  match l, hlen with
  | a :: b :: r, _ => exact ⟨a, b, r, rfl⟩
  | [], h => exact absurd (by simp) h
  | [_], h => exact absurd (by simp) h
 have z0 := hsz l0 (by simp)
 have z1 := hsz l1 (by simp)
 have hWR : (R.map Z2).sum ≤ 268435456 := by simp only [List.map_cons, List.sum_cons] at hw; omega
 have hRl : R.length ≤ 16777216 := by simp only [List.length_cons] at hll; omega
 clear hw hll
 have hb : decide (((l0 :: l1 :: R).length : Int) < 2) = false := decide_eq_false (by simp only [List.length_cons]; omega)
 have hg0 : (l0 :: l1 :: R)[(0 : Int).toNat]? = some l0 := rfl
 have hg1 : (l0 :: l1 :: R)[(1 : Int).toNat]? = some l1 := rfl
 have hm := fun gf => ptitle_met (gf := gf) l0 l1 z0 z1
 cases hT : N9 true l0 l1 with
 | none =>
  rw [hT] at hm
  have hp : L3 (l0 :: l1 :: R) = none := by unfold L3; dsimp only; rw [hT]
  refine FnOk.intro Tryz.func83 (by decide) Z Z Z Z ?_
  refine k2 ?_
  refine A3 (C0 (F0 2 Z) Z (A2 (A5 Z Z) Z (A6 ?_)))
  refine k1 (k2 ?_)
  refine A3 (A2 (H3 Z) Z (C0 (R0 730 Z Z Z) Z (A2 (A5 Z Z) Z (A6 ?_))))
  refine k1 (k2 (k2 ?_))
  refine c_region_turnG 11 (by kernel_rfl) (by kernel_rfl) Z (B1 (A4 Z Z) Z Z (B1 (I2 Z (.pure _ _ _ _)) Z Z (B1 (D5 Z Z) Z Z (B1 (A4 Z Z) Z Z (d_go Z Z hb Z (B1 (A4 Z Z) Z Z (d_go Z Z hb Z (B1 (A4 Z Z) Z Z (d_go Z Z hb Z (B1 (B8 Z (.pure _ _ _ _) Z (by omega) hg0) Z Z (d_go Z Z hb Z (B1 (C2 Z Z) Z Z (d_go Z Z hb Z (B1 (A4 Z Z) Z Z (d_go Z Z hb Z (B1 (B8 Z (.pure _ _ _ _) Z (by omega) hg1) Z Z (d_go Z Z hb Z (B1 (C2 Z Z) Z Z (J4 (stepG_run Z Z hb (met_step (hm _) Z Z Z ?_))))))))))))))))))))); rintro _ _ ⟨w, d, n, ok, rfl, rfl, rfl⟩; refine ⟨_, rfl, ?_⟩; refine d_go Z Z hb Z (B1 (D3 Z) Z Z (B1 (n_pick_f Z (hb) Z) Z Z (J4 ?_)))
  refine k1 ?_
  refine B2 rfl (fun ht => ?_) (fun ht => ?_)
  rotate_left
  ·cases ht
  refine k2 ?_
  refine A3 (A2 (H3 Z) Z (D7 (B6 TySz.out Z Z Z Z Z Z) (A2 (A5 Z Z) Z (A6 ?_))))
  refine k1 ?_
  refine F6 (Sees.listB CHunk 2 J7 2 3 Z Z) ?_
  refine k10 (k11 ?_)
  exact B5 (rs := [I7 P7, C4 false]) (O1 rfl rfl rfl rfl rfl rfl rfl) (by unfold U5; rw [hp])
 | some q =>
  obtain ⟨d, w, n⟩ := q
  rw [hT] at hm
  have hn := title_par hT
  obtain ⟨N, rfl⟩ : ∃ N : Nat, n = N := ⟨n.toNat, by omega⟩
  have hN : 1 ≤ N ∧ N ≤ 32 := by omega
  have hPs : ∀ hs, T7 N [] R = some hs → [I7 ⟨w, d, N, hs⟩, C4 true] = U5 (l0 :: l1 :: R) := by
   intro hs h
   have : L3 (l0 :: l1 :: R) = some ⟨w, d, N, hs⟩ := by unfold L3; dsimp only; rw [hT]; dsimp only; rw [Int.toNat_natCast, h]
   unfold U5; rw [this]
  have hnone : T7 N [] R = none → [I7 P7, C4 false] = U5 (l0 :: l1 :: R) := by
   intro h
   have : L3 (l0 :: l1 :: R) = none := by unfold L3; dsimp only; rw [hT]; dsimp only; rw [Int.toNat_natCast, h]
   unfold U5; rw [this]
  refine FnOk.intro Tryz.func83 (by decide) Z Z Z Z ?_
  refine k2 ?_
  refine A3 (C0 (F0 2 Z) Z (A2 (A5 Z Z) Z (A6 ?_)))
  refine k1 (k2 ?_)
  refine A3 (A2 (H3 Z) Z (C0 (R0 730 Z Z Z) Z (A2 (A5 Z Z) Z (A6 ?_))))
  refine k1 (k2 (k2 ?_))
  refine c_region_turnG 11 (by kernel_rfl) (by kernel_rfl) Z (B1 (A4 Z Z) Z Z (B1 (I2 Z (.pure _ _ _ _)) Z Z (B1 (D5 Z Z) Z Z (B1 (A4 Z Z) Z Z (d_go Z Z hb Z (B1 (A4 Z Z) Z Z (d_go Z Z hb Z (B1 (A4 Z Z) Z Z (d_go Z Z hb Z (B1 (B8 Z (.pure _ _ _ _) Z (by omega) hg0) Z Z (d_go Z Z hb Z (B1 (C2 Z Z) Z Z (d_go Z Z hb Z (B1 (A4 Z Z) Z Z (d_go Z Z hb Z (B1 (B8 Z (.pure _ _ _ _) Z (by omega) hg1) Z Z (d_go Z Z hb Z (B1 (C2 Z Z) Z Z (J4 (stepG_run Z Z hb (met_step (hm _) Z Z Z ?_))))))))))))))))))))); rintro _ _ ⟨w', d', n', ok, rfl, rfl, rfl, rfl, rfl, rfl⟩; refine ⟨_, rfl, ?_⟩; refine d_go Z Z hb Z (B1 (D3 Z) Z Z (B1 (n_pick_f Z (hb) Z) Z Z (J4 ?_)))
  refine k1 ?_
  refine B2 rfl (fun ht => ?_) (fun ht => ?_)
  ·cases ht
  refine k5 (k1 (k2 (k2 ?_)))
  refine A3 (A2 (A4 Z Z) Z (A2 (n_slice_l Z (.pure _ _ _ _) Z (by (first | omega | (simp only [List.length_cons]; omega))) (by (first | omega | (simp only [List.length_cons]; omega)))) Z (A2 (I2 Z (.pure _ _ _ _)) Z (A2 (A4 Z Z) Z (A6 ?_)))))
  refine k1 (k3 ?_)
  refine F6 (Sees.adoptBG 731 CHunk 2 s5 82 (kb := 730) (o := 3) Z Z Z) ?_
  refine E0 (X := Nat × List CHunk) (fun x => ([(4, .s (.one (.ref 730 0))), (2, .s (.one (.ref 2 0))), (25, F4 Str 1 K9 R), (26, C3 R.length), (27, C3 x.1)], objC w' d' N x.2)) (fun x => x.1 ≤ R.length ∧ CInv N x.2 ∧ szC x.2 ≤ wgTo R x.1 ∧ T7 N x.2 (R.drop x.1) = T7 N [] R) (fun x => R.length - x.1) (0, []) ⟨Nat.zero_le _, (fun h hh => (by cases hh)), (by simp [szC]), rfl⟩ (Sees.of ⟨le1 rfl, le1 rfl, le1 rfl, le1 rfl, le1 rfl, trivial⟩ ⟨rfl, rfl, rfl, trivial⟩) ?_
  rintro ⟨k, hs⟩ ⟨hk, hci, hz, hf⟩
  dsimp only at hk hci hz hf ⊢
  have hzb : wgTo R k ≤ (R.map Z2).sum := by
   unfold wgTo
   conv => rhs; rw [← List.take_append_drop k R, List.map_append, List.sum_append]
   omega
  have hsl := j7 hs
  refine k2 ?_
  refine A3 (A2 (D5 Z Z) Z (A6 ?_))
  refine k1 (k2 ?_)
  refine B2 rfl (fun ht => ?_) (fun ht => ?_)
  ·have hlt : k < R.length := by have := A0 ht; omega
   obtain ⟨x, hx⟩ : ∃ x, x = R[k] := ⟨_, rfl⟩
   have hv : R[k]? = some x := by rw [hx]; simp [hlt]
   have hxz := hsz x (by simp [List.mem_of_getElem? hv])
   have hwk := wgTo_succ hlt
   rw [← hx] at hwk
   rw [List.drop_eq_getElem_cons hlt, ← hx, T7] at hf
   have hstep : ∀ {g}, R1 N hs x = some g → T7 N g (R.drop (k + 1)) = T7 N [] R ∧ szC g ≤ wgTo R (k + 1) ∧ CInv N g := by
    intro g hg
    rw [hg] at hf
    have h3 := step_szC hN hg hci
    exact ⟨hf, by omega, h3.2⟩
   have hfail : R1 N hs x = none → T7 N [] R = none := by intro h; rw [h] at hf; exact hf.symm
   clear hf hx
   refine k5 (k1 (k2 (k3 (k2 ?_))))
   refine A3 (A2 (B8 Z (.pure _ _ _ _) Z (by omega) hv) Z (A2 (C2 Z Z) Z (A2 (A5 Z Z) Z (A6 ?_))))
   refine k1 (k2 ?_)
   by_cases h64 : x.take 1 = [64]
   ·refine F6 (toShutC Z) ?_
    refine T3 [(4, .s (.one (.ref 730 0))), (2, .s (.one (.ref 2 0))), (25, F4 Str 1 K9 R), (26, C3 R.length), (27, C3 k), (6, F9 x)] (S4 w' d' N hs) (Sees.of ⟨le1 rfl, le1 rfl, le1 rfl, le1 rfl, le1 rfl, le1 rfl, trivial⟩ ⟨rfl, rfl, rfl, trivial⟩) ?_
    have hm := pline_at x R k w' d' N hs hN (by omega) hxz h64
    cases hh : n7 N x with
    | none =>
     rw [hh] at hm
     have hst : R1 N hs x = none := by unfold R1; rw [if_pos h64, hh]
     refine A3 (A2 (A4 Z Z) Z (A2 (A4 Z Z) Z (R7 (hm) Z Z Z ?_))); rintro _ _ ⟨rfl, rfl⟩; refine A2 (D3 Z) Z (A6 ?_)
     refine k1 ?_
     refine B2 rfl (fun ht => ?_) (fun ht => ?_)
     ·refine k2 ?_
      refine A3 (A2 (H3 Z) Z (D7 (B6 TySz.out Z Z Z Z Z Z) (A2 (A5 Z Z) Z (A6 ?_))))
      refine k1 ?_
      refine F6 (Sees.listB CHunk 2 J7 2 3 Z Z) ?_
      refine k10 (k12 (k11 (k11 (k12 (k11 ?_)))))
      exact B5 (rs := [I7 P7, C4 false]) (O1 rfl rfl rfl rfl rfl rfl rfl) (hnone (hfail hst))
     ·cases ht
    | some a =>
     rw [hh] at hm
     have hst : R1 N hs x = some (hs ++ [⟨a, []⟩]) := by unfold R1; rw [if_pos h64, hh]
     obtain ⟨s1, s2, s3⟩ := hstep hst
     refine A3 (A2 (A4 Z Z) Z (A2 (A4 Z Z) Z (R7 (hm) Z Z Z ?_))); rintro _ _ ⟨rfl, rfl⟩; refine A2 (D3 Z) Z (A6 ?_)
     refine k1 ?_
     refine B2 rfl (fun ht => ?_) (fun ht => ?_)
     ·cases ht
     refine k5 (k4 (k1 ?_))
     refine A3 (A2 (B9 Z Z (by omega)) Z (A2 (A4 Z Z) Z (A6 ?_)))
     refine k1 ?_
     refine ⟨(k + 1, hs ++ [⟨a, []⟩]), ⟨hlt, s3, s2, s1⟩, by dsimp only; omega, ?_⟩
     dsimp only
     rw [ofShutC]
     exact Sees.of ⟨le1 rfl, le1 rfl, le1 rfl, le1 rfl, le1 rfl, trivial⟩ ⟨rfl, rfl, rfl, trivial⟩
   cases hl : hs.getLast? with
   | none =>
    have hn0 : hs = [] := List.getLast?_eq_none_iff.1 hl
    subst hn0
    have hst : R1 N [] x = none := by unfold R1; rw [if_neg h64, if_pos rfl]
    have hm := pline_nil x R k w' d' N h64
    refine F6 (toShutC Z) ?_
    refine T3 [(4, .s (.one (.ref 730 0))), (2, .s (.one (.ref 2 0))), (25, F4 Str 1 K9 R), (26, C3 R.length), (27, C3 k), (6, F9 x)] (S4 w' d' N []) (Sees.of ⟨le1 rfl, le1 rfl, le1 rfl, le1 rfl, le1 rfl, le1 rfl, trivial⟩ ⟨rfl, rfl, rfl, trivial⟩) ?_
    refine A3 (A2 (A4 Z Z) Z (A2 (A4 Z Z) Z (R7 (hm) Z Z Z ?_))); rintro _ _ ⟨rfl, rfl⟩; refine A2 (D3 Z) Z (A6 ?_)
    refine k1 ?_
    refine B2 rfl (fun ht => ?_) (fun ht => ?_)
    ·refine k2 ?_
     refine A3 (A2 (H3 Z) Z (D7 (B6 TySz.out Z Z Z Z Z Z) (A2 (A5 Z Z) Z (A6 ?_))))
     refine k1 ?_
     refine F6 (Sees.listB CHunk 2 J7 2 3 Z Z) ?_
     refine k10 (k12 (k11 (k11 (k12 (k11 ?_)))))
     exact B5 (rs := [I7 P7, C4 false]) (O1 rfl rfl rfl rfl rfl rfl rfl) (hnone (hfail hst))
    ·cases ht
   | some h =>
    have hne : hs ≠ [] := by intro e; rw [e] at hl; cases hl
    have h0 : 0 < hs.length := List.length_pos_iff.2 hne
    have hmem := q8 (List.mem_of_getLast? hl)
    have hrl := S2 h.Rows
    have hmem2 : (h.Rows.map N0).sum ≤ szC hs := by
     rw [y4] at hmem; omega
    refine F6 (toOpenC Z hl) ?_
    refine T3 [(4, .s (.one (.ref 730 0))), (2, .s (.one (.ref 2 0))), (25, F4 Str 1 K9 R), (26, C3 R.length), (27, C3 k), (6, F9 x)] (S5 w' d' N hs h.At h.Rows) (Sees.of ⟨le1 rfl, le1 rfl, le1 rfl, le1 rfl, le1 rfl, le1 rfl, trivial⟩ ⟨rfl, rfl, rfl, rfl, trivial⟩) ?_
    by_cases hno : x = noNl
    ·subst hno
     have hm := pline_cut R k w' d' N hs h.At h.Rows h0 (by omega) (by omega) (fun r hr => by
      have h5 := szRow_mem hr
      have h6 : N0 r = r.Text.length + 96 := rfl
      omega)
     cases hx2 : h.Rows.getLast? with
     | none =>
      rw [hx2] at hm
      have hst : R1 N hs noNl = none := by
       unfold R1; rw [if_neg h64, if_neg hne, if_pos rfl]; unfold cutRow; rw [hl]; dsimp only; rw [hx2]
      refine A3 (A2 (A4 Z Z) Z (A2 (A4 Z Z) Z (R7 (hm) Z Z Z ?_))); rintro _ _ ⟨rfl, rfl⟩; refine A2 (D3 Z) Z (A6 ?_)
      refine k1 ?_
      refine B2 rfl (fun ht => ?_) (fun ht => ?_)
      ·refine k2 ?_
       refine A3 (A2 (H3 Z) Z (D7 (B6 TySz.out Z Z Z Z Z Z) (A2 (A5 Z Z) Z (A6 ?_))))
       refine k1 ?_
       refine F6 (Sees.listB CHunk 2 J7 2 3 Z Z) ?_
       refine k10 (k12 (k11 (k11 (k12 (k11 ?_)))))
       exact B5 (rs := [I7 P7, C4 false]) (O1 rfl rfl rfl rfl rfl rfl rfl) (hnone (hfail hst))
      ·cases ht
     | some r =>
      rw [hx2] at hm
      have hst : R1 N hs noNl = some (hs.dropLast ++ [⟨h.At, h.Rows.dropLast ++ [⟨r.Lost, r.Marks, d6 r.Text⟩]⟩]) := by
       unfold R1; rw [if_neg h64, if_neg hne, if_pos rfl]; unfold cutRow; rw [hl]; dsimp only; rw [hx2]
      obtain ⟨s1, s2, s3⟩ := hstep hst
      refine A3 (A2 (A4 Z Z) Z (A2 (A4 Z Z) Z (R7 (hm) Z Z Z ?_))); rintro _ _ ⟨rfl, rfl⟩; refine A2 (D3 Z) Z (A6 ?_)
      refine k1 ?_
      refine B2 rfl (fun ht => ?_) (fun ht => ?_)
      ·cases ht
      refine k5 (k4 (k1 ?_))
      refine A3 (A2 (B9 Z Z (by omega)) Z (A2 (A4 Z Z) Z (A6 ?_)))
      refine k1 ?_
      refine ⟨(k + 1, hs.dropLast ++ [⟨h.At, h.Rows.dropLast ++ [⟨r.Lost, r.Marks, d6 r.Text⟩]⟩]), ⟨hlt, s3, s2, s1⟩, by dsimp only; omega, ?_⟩
      refine Sees.trans ?_ (ofOpenC hl (by simp))
      exact Sees.of ⟨le1 rfl, le1 rfl, le1 rfl, le1 rfl, le1 rfl, trivial⟩ ⟨rfl, rfl, rfl, rfl, trivial⟩
    ·have hm := pline_row x R k w' d' N hs h.At h.Rows h0 (by omega) (by omega) hxz h64 hno
     have hro : AL.rowAt (x ++ [10]) N = Z1 (x ++ [10]) (N : Int) := by unfold Z1; rw [if_neg (by omega), Int.toNat_natCast]
     cases hr : Z1 (x ++ [10]) (N : Int) with
     | none =>
      rw [hr] at hm hro
      have hst : R1 N hs x = none := by unfold R1; rw [if_neg h64, if_neg hne, if_neg hno, hro]
      refine A3 (A2 (A4 Z Z) Z (A2 (A4 Z Z) Z (R7 (hm) Z Z Z ?_))); rintro _ _ ⟨rfl, rfl⟩; refine A2 (D3 Z) Z (A6 ?_)
      refine k1 ?_
      refine B2 rfl (fun ht => ?_) (fun ht => ?_)
      ·refine k2 ?_
       refine A3 (A2 (H3 Z) Z (D7 (B6 TySz.out Z Z Z Z Z Z) (A2 (A5 Z Z) Z (A6 ?_))))
       refine k1 ?_
       refine F6 (Sees.listB CHunk 2 J7 2 3 Z Z) ?_
       refine k10 (k12 (k11 (k11 (k12 (k11 ?_)))))
       exact B5 (rs := [I7 P7, C4 false]) (O1 rfl rfl rfl rfl rfl rfl rfl) (hnone (hfail hst))
      ·cases ht
     | some r =>
      rw [hr] at hm hro
      have hst : R1 N hs x = some (hs.dropLast ++ [⟨h.At, h.Rows ++ [r]⟩]) := by unfold R1; rw [if_neg h64, if_neg hne, if_neg hno, hro]; dsimp only; unfold addRow; rw [hl]
      obtain ⟨s1, s2, s3⟩ := hstep hst
      refine A3 (A2 (A4 Z Z) Z (A2 (A4 Z Z) Z (R7 (hm) Z Z Z ?_))); rintro _ _ ⟨rfl, rfl⟩; refine A2 (D3 Z) Z (A6 ?_)
      refine k1 ?_
      refine B2 rfl (fun ht => ?_) (fun ht => ?_)
      ·cases ht
      refine k5 (k4 (k1 ?_))
      refine A3 (A2 (B9 Z Z (by omega)) Z (A2 (A4 Z Z) Z (A6 ?_)))
      refine k1 ?_
      refine ⟨(k + 1, hs.dropLast ++ [⟨h.At, h.Rows ++ [r]⟩]), ⟨hlt, s3, s2, s1⟩, by dsimp only; omega, ?_⟩
      refine Sees.trans ?_ (ofOpenC hl (by simp))
      exact Sees.of ⟨le1 rfl, le1 rfl, le1 rfl, le1 rfl, le1 rfl, trivial⟩ ⟨rfl, rfl, rfl, rfl, trivial⟩
  ·have hk2 : k = R.length := by have := A1 ht; omega
   subst hk2
   rw [List.drop_eq_nil_of_le (Nat.le_refl _)] at hf
   have hf : some hs = T7 N [] R := hf
   refine k6 (k2 ?_)
   refine F6 (toShutC Z) ?_
   refine F6 (Sees.recell 731 J7 Z (fun x _ j _ rd u => chunk_cell j rd u)) ?_
   refine F6 (Sees.freezeG (k := 731) Z Z) ?_
   refine T3 [(4, .s (.one (.ref 730 0))), (2, .s (.one (.ref 2 0)))] [(730, .box [.p (.v (.string ⟨w'.toArray⟩)), .p (.v (.bool d')), .p (.v (.int .i64 N)), .p (.list CHunk 2 J7 hs)]), (2, K1)] (Sees.of ⟨le1 rfl, le1 rfl, trivial⟩ ⟨rfl, rfl, trivial⟩) ?_
   refine A3 (A2 (A4 Z Z) Z (A2 (B4 Z) Z (A2 (A7 Z) Z (A2 (C1 Z Z Z) Z (D7 (B6 TySz.out Z Z Z Z Z Z) (A2 (A5 Z Z) Z (A6 ?_)))))))
   refine k1 (k10 ?_)
   exact B5 (rs := [I7 ⟨w', d', N, hs⟩, C4 true]) (O1 rfl rfl rfl rfl rfl rfl rfl) (hPs hs hf.symm)
theorem linesS_w {s : Str} {l : List Str} (h : U9 s = some l) : (l.map Z2).sum ≤ 420 * s.length := by
 unfold U9 at h
 split at h
 ·cases h; simp
 ·split at h
  ·have h : (G5 s).map List.dropLast = l := Option.some.inj h
   obtain ⟨f1, f2⟩ := lines_flat s
   have hsum : ∀ L : List Str, (∀ x ∈ L, x ≠ []) → ((L.map List.dropLast).map Z2).sum ≤ 420 * L.flatten.length := by
    intro L
    induction L with
    | nil => intro _; simp
    | cons x r ih =>
     intro hne
     have ih := ih (fun y hy => hne y (by simp [hy]))
     have hx := List.length_pos_iff.2 (hne x (by simp))
     simp only [List.map_cons, List.sum_cons, List.flatten_cons, List.length_append]
     have e : Z2 x.dropLast = 420 * (x.dropLast.length + 1) := rfl
     rw [e, List.length_dropLast]
     omega
   have hs := hsum (G5 s) (fun x hx => ((lineOk_iff x).1 ((linesOf_ok s).1 x hx)).1)
   rw [h] at hs
   omega
  ·cases h
def o7 (f : List Str → Option Comb) (s : Str) : List PV := [I7 (J8 f s).1, E2 (J8 f s).2]
theorem rParse19_ok (s : Str) (hs : s.length ≤ 600000) : FnOk Tryz.prog 37 [E6 s] (fun rs => rs = o7 L3 s) := by
 rw [show o7 L3 s = o7 Z5 s by unfold o7; rw [comb_same]]
 have h16 : ¬ 16777216 < s.length := by omega
 have hL := r13Lines_ok s (by omega)
 have hfail : ∀ {x : Comb × Int}, J8 Z5 s = x → x = (P7, 4) → [I7 P7, E2 4] = o7 Z5 s := by
  intro x h1 h2
  unfold o7; rw [h1, h2]
 refine FnOk.intro Tryz.func37 (by decide) Z Z Z Z ?_
 refine k2 ?_
 refine A3 (C0 (F0 2 Z) Z (A2 (A5 Z Z) Z (A6 ?_)))
 refine k1 (k2 (k2 ?_))
 refine A3 (A2 (A4 Z Z) Z (A2 (C6 Z) Z (A2 (M7 Z Z) Z (A6 ?_))))
 refine k1 ?_
 refine B2 rfl (fun ht => ?_) (fun ht => ?_)
 ·exact absurd (A0 ht) (by omega)
 cases hl : U9 s with
 | none =>
  unfold m6 at hL
  rw [hl] at hL
  refine k5 (k1 (k2 ?_))
  refine A3 (A2 (A4 Z Z) Z (B7 (hL) Z Z Z ?_)); rintro _ rfl; refine A2 (A4 Z Z) Z (A2 (A9 Z Z) Z (A2 (A9 Z Z) Z (A2 (A5 Z Z) Z (A2 (A5 Z Z) Z (A6 ?_)))))
  refine k1 (k2 (k2 ?_))
  refine A3 (A2 (A4 Z Z) Z (A2 (D3 Z) Z (A6 ?_)))
  refine k1 ?_
  refine B2 rfl (fun ht => ?_) (fun ht => ?_)
  ·refine k2 ?_
   refine A3 (A2 (H3 Z) Z (D7 (B6 TySz.out Z Z Z Z Z Z) (A2 (A5 Z Z) Z (A6 ?_))))
   refine k1 ?_
   refine F6 (Sees.listB CHunk 2 J7 2 3 Z Z) ?_
   refine k10 (k11 ?_)
   exact B5 (rs := [I7 P7, E2 4]) (O1 rfl rfl rfl rfl rfl rfl rfl) (hfail rfl (by unfold J8; rw [if_neg h16, hl]))
  ·cases ht
 | some l =>
  unfold m6 at hL
  rw [hl] at hL
  obtain ⟨z1, z2⟩ := linesS_sz hl
  have zw := linesS_w hl
  have zl : 65 * l.length ≤ (l.map fun t => t.length + 65).sum := by
   clear z1 z2 hL hl zw
   induction l with
   | nil => simp
   | cons x r ih => simp only [List.map_cons, List.sum_cons, List.length_cons]; omega
  have hP := rread19_ok l (by omega) (fun t ht => by have := z2 t ht; omega)
  cases hp : Z5 l with
  | none =>
   rw [hp] at hP
   refine k5 (k1 (k2 ?_))
   refine A3 (A2 (A4 Z Z) Z (B7 (hL) Z Z Z ?_)); rintro _ rfl; refine A2 (A4 Z Z) Z (A2 (A9 Z Z) Z (A2 (A9 Z Z) Z (A2 (A5 Z Z) Z (A2 (A5 Z Z) Z (A6 ?_)))))
   refine k1 (k2 (k2 ?_))
   refine A3 (A2 (A4 Z Z) Z (A2 (D3 Z) Z (A6 ?_)))
   refine k1 ?_
   refine B2 rfl (fun ht => ?_) (fun ht => ?_)
   ·cases ht
   refine k5 (k1 (k2 ?_))
   refine A3 (A2 (A4 Z Z) Z (B7 (hP) Z Z Z ?_)); rintro _ ⟨p, ok, rfl, rfl⟩; refine A2 (A4 Z Z) Z (A2 (A9 Z Z) Z (A2 (A9 Z Z) Z (C0 (F0 6 Z) Z (D7 (B6 TySz.out Z Z Z Z Z Z) (A2 (A5 Z Z) Z (A6 ?_))))))
   refine k1 (k2 (k2 ?_))
   refine A3 (A2 (A4 Z Z) Z (A2 (D3 Z) Z (A2 (A4 Z Z) Z (W8 Z Z Z (by decide) Z (W8 Z Z Z (by decide) Z (W8 Z Z Z (by decide) Z (A2 (n_pick_t Z (rfl) Z) Z (A2 (A4 Z Z) Z (W8 Z Z Z (by decide) Z (W8 Z Z Z (by decide) Z (W8 Z Z Z (by decide) Z (W8 Z Z Z (by decide) Z (A2 (n_pick_t Z (rfl) Z) Z (A6 ?_))))))))))))))
   refine k1 ?_
   refine B2 rfl (fun ht => ?_) (fun ht => ?_)
   ·refine k2 ?_
    refine A3 (A2 (H3 Z) Z (D7 (B6 TySz.out Z Z Z Z Z Z) (A2 (A5 Z Z) Z (A6 ?_))))
    refine k1 ?_
    refine F6 (Sees.listB CHunk 2 J7 2 3 Z Z) ?_
    refine k10 (k11 ?_)
    exact B5 (rs := [I7 P7, E2 4]) (O1 rfl rfl rfl rfl rfl rfl rfl) (hfail rfl (by unfold J8; rw [if_neg h16, hl]; dsimp only; rw [hp]))
   ·cases ht
  | some p =>
   rw [hp] at hP
   obtain ⟨_, hsz, hci⟩ := readC_sz hp
   have hz : szC p.Hunks ≤ 268435456 := by omega
   have hr : ∀ h ∈ p.Hunks, L0 h.Rows := fun h hm => (hci h hm).2
   have hC := rcheck18_ok p hz hr
   have hS : J8 Z5 s = if G6 p ≠ 0 ∨ N7 p ≠ s then (P7, 4) else (p, 0) := by unfold J8; rw [if_neg h16, hl]; dsimp only; rw [hp]
   by_cases hc : G6 p = 0
   ·have hW := rwrite18_ok p (check0_fit hc hz hr)
    rw [hc] at hC
    obtain ⟨w, hw⟩ : ∃ w, w = N7 p := ⟨_, rfl⟩
    rw [← hw] at hW hS
    refine k5 (k1 (k2 ?_))
    refine A3 (A2 (A4 Z Z) Z (B7 (hL) Z Z Z ?_)); rintro _ rfl; refine A2 (A4 Z Z) Z (A2 (A9 Z Z) Z (A2 (A9 Z Z) Z (A2 (A5 Z Z) Z (A2 (A5 Z Z) Z (A6 ?_)))))
    refine k1 (k2 (k2 ?_))
    refine A3 (A2 (A4 Z Z) Z (A2 (D3 Z) Z (A6 ?_)))
    refine k1 ?_
    refine B2 rfl (fun ht => ?_) (fun ht => ?_)
    ·cases ht
    refine k5 (k1 (k2 ?_))
    refine A3 (A2 (A4 Z Z) Z (B7 (hP) Z Z Z ?_)); rintro _ ⟨p', ok, rfl, rfl, rfl⟩; refine A2 (A4 Z Z) Z (A2 (A9 Z Z) Z (A2 (A9 Z Z) Z (C0 (F0 6 Z) Z (D7 (B6 TySz.out Z Z Z Z Z Z) (A2 (A5 Z Z) Z (A6 ?_))))))
    refine k1 (k2 (k2 ?_))
    refine A3 (A2 (A4 Z Z) Z (A2 (D3 Z) Z (A2 (A4 Z Z) Z (s9 Z Z Z Z (A2 (C1 Z Z Z) Z (s9 Z Z Z Z (B7 (hC) Z Z Z ?_))))))); rintro _ rfl; refine s9 Z Z Z Z (A2 (O7 Z Z) Z (A2 (n_pick_f Z (rfl) Z) Z (A2 (A4 Z Z) Z (s9 Z Z Z Z (A2 (C1 Z Z Z) Z (s9 Z Z Z Z (B7 (hW) Z Z Z ?_))))))); rintro _ rfl; refine s9 Z Z Z Z (A2 (A4 Z Z) Z (s9 Z Z Z Z (A2 (V6 Z Z) Z (A2 (n_pick_f Z (rfl) Z) Z (A6 ?_)))))
    refine k1 ?_
    by_cases hb : w = s
    ·rw [if_neg (by simp [hc, hb])] at hS
     refine B2 rfl (fun ht => ?_) (fun ht => ?_)
     ·exact absurd hb (A0 ht)
     refine k5 (k1 (k2 ?_))
     refine A3 (A2 (C1 Z Z Z) Z (D7 (B6 TySz.out Z Z Z Z Z Z) (A2 (A5 Z Z) Z (A6 ?_))))
     refine k1 (k10 ?_)
     exact B5 (rs := [I7 p', E2 0]) (O1 rfl rfl rfl rfl rfl rfl rfl) (by unfold o7; rw [hS])
    ·rw [if_pos (.inr hb)] at hS
     refine B2 rfl (fun ht => ?_) (fun ht => ?_)
     rotate_left
     ·exact absurd (Decidable.not_not.1 (A1 ht)) hb
     refine k2 ?_
     refine A3 (A2 (H3 Z) Z (D7 (B6 TySz.out Z Z Z Z Z Z) (A2 (A5 Z Z) Z (A6 ?_))))
     refine k1 ?_
     refine F6 (Sees.listB CHunk 2 J7 2 3 Z Z) ?_
     refine k10 (k11 ?_)
     exact B5 (rs := [I7 P7, E2 4]) (O1 rfl rfl rfl rfl rfl rfl rfl) (hfail hS rfl)
   ·rw [if_pos (.inl hc)] at hS
    refine k5 (k1 (k2 ?_))
    refine A3 (A2 (A4 Z Z) Z (B7 (hL) Z Z Z ?_)); rintro _ rfl; refine A2 (A4 Z Z) Z (A2 (A9 Z Z) Z (A2 (A9 Z Z) Z (A2 (A5 Z Z) Z (A2 (A5 Z Z) Z (A6 ?_)))))
    refine k1 (k2 (k2 ?_))
    refine A3 (A2 (A4 Z Z) Z (A2 (D3 Z) Z (A6 ?_)))
    refine k1 ?_
    refine B2 rfl (fun ht => ?_) (fun ht => ?_)
    ·cases ht
    refine k5 (k1 (k2 ?_))
    refine A3 (A2 (A4 Z Z) Z (B7 (hP) Z Z Z ?_)); rintro _ ⟨p', ok, rfl, rfl, rfl⟩; refine A2 (A4 Z Z) Z (A2 (A9 Z Z) Z (A2 (A9 Z Z) Z (C0 (F0 6 Z) Z (D7 (B6 TySz.out Z Z Z Z Z Z) (A2 (A5 Z Z) Z (A6 ?_))))))
    refine k1 (k2 (k2 ?_))
    refine A3 (A2 (A4 Z Z) Z (A2 (D3 Z) Z (A2 (A4 Z Z) Z (s9 Z Z Z Z (A2 (C1 Z Z Z) Z (s9 Z Z Z Z (B7 (hC) Z Z Z ?_))))))); rintro _ rfl; refine s9 Z Z Z Z (A2 (O7 Z Z) Z (A2 (n_pick_f Z (rfl) Z) Z (A2 (A4 Z Z) Z (W8 Z Z Z (by simp [hc]) Z (W8 Z Z Z (by simp [hc]) Z (W8 Z Z Z (by simp [hc]) Z (W8 Z Z Z (by simp [hc]) Z (A2 (n_pick_t Z ((by simp [hc])) Z) Z (A6 ?_)))))))))
    refine k1 ?_
    refine B2 rfl (fun ht => ?_) (fun ht => ?_)
    rotate_left
    ·cases ht
    refine k2 ?_
    refine A3 (A2 (H3 Z) Z (D7 (B6 TySz.out Z Z Z Z Z Z) (A2 (A5 Z Z) Z (A6 ?_))))
    refine k1 ?_
    refine F6 (Sees.listB CHunk 2 J7 2 3 Z Z) ?_
    refine k10 (k11 ?_)
    exact B5 (rs := [I7 P7, E2 4]) (O1 rfl rfl rfl rfl rfl rfl rfl) (hfail hS rfl)
theorem pParse19_ok (s : Str) (hs : s.length ≤ 600000) : FnOk Tryz.prog 36 [E6 s] (fun rs => rs = o7 L3 s) := by
 have h16 : ¬ 16777216 < s.length := by omega
 have hL := stLines_ok s (by omega)
 have hfail : ∀ {x : Comb × Int}, J8 L3 s = x → x = (P7, 4) → [I7 P7, E2 4] = o7 L3 s := by
  intro x h1 h2
  unfold o7; rw [h1, h2]
 refine FnOk.intro Tryz.func36 (by decide) Z Z Z Z ?_
 refine k2 ?_
 refine A3 (C0 (F0 2 Z) Z (A2 (A5 Z Z) Z (A6 ?_)))
 refine k1 (k2 (k2 ?_))
 refine A3 (A2 (A4 Z Z) Z (A2 (C6 Z) Z (A2 (M7 Z Z) Z (A6 ?_))))
 refine k1 ?_
 refine B2 rfl (fun ht => ?_) (fun ht => ?_)
 ·exact absurd (A0 ht) (by omega)
 cases hl : U9 s with
 | none =>
  unfold m6 at hL
  rw [hl] at hL
  refine k5 (k1 (k2 ?_))
  refine A3 (A2 (A4 Z Z) Z (B7 (hL) Z Z Z ?_)); rintro _ rfl; refine A2 (A4 Z Z) Z (A2 (A9 Z Z) Z (A2 (A9 Z Z) Z (A2 (A5 Z Z) Z (A2 (A5 Z Z) Z (A6 ?_)))))
  refine k1 (k2 (k2 ?_))
  refine A3 (A2 (A4 Z Z) Z (A2 (D3 Z) Z (A6 ?_)))
  refine k1 ?_
  refine B2 rfl (fun ht => ?_) (fun ht => ?_)
  ·refine k2 ?_
   refine A3 (A2 (H3 Z) Z (D7 (B6 TySz.out Z Z Z Z Z Z) (A2 (A5 Z Z) Z (A6 ?_))))
   refine k1 ?_
   refine F6 (Sees.listB CHunk 2 J7 2 3 Z Z) ?_
   refine k10 (k11 ?_)
   exact B5 (rs := [I7 P7, E2 4]) (O1 rfl rfl rfl rfl rfl rfl rfl) (hfail rfl (by unfold J8; rw [if_neg h16, hl]))
  ·cases ht
 | some l =>
  unfold m6 at hL
  rw [hl] at hL
  obtain ⟨z1, z2⟩ := linesS_sz hl
  have zw := linesS_w hl
  have hP := pparse_ok l (by omega) (fun t ht => by have := z2 t ht; omega)
  cases hp : L3 l with
  | none =>
   unfold U5 at hP
   rw [hp] at hP
   refine k5 (k1 (k2 ?_))
   refine A3 (A2 (A4 Z Z) Z (B7 (hL) Z Z Z ?_)); rintro _ rfl; refine A2 (A4 Z Z) Z (A2 (A9 Z Z) Z (A2 (A9 Z Z) Z (A2 (A5 Z Z) Z (A2 (A5 Z Z) Z (A6 ?_)))))
   refine k1 (k2 (k2 ?_))
   refine A3 (A2 (A4 Z Z) Z (A2 (D3 Z) Z (A6 ?_)))
   refine k1 ?_
   refine B2 rfl (fun ht => ?_) (fun ht => ?_)
   ·cases ht
   refine k5 (k1 (k2 ?_))
   refine A3 (A2 (A4 Z Z) Z (B7 (hP) Z Z Z ?_)); rintro _ rfl; refine A2 (A4 Z Z) Z (A2 (A9 Z Z) Z (A2 (A9 Z Z) Z (C0 (F0 6 Z) Z (D7 (B6 TySz.out Z Z Z Z Z Z) (A2 (A5 Z Z) Z (A6 ?_))))))
   refine k1 (k2 (k2 ?_))
   refine A3 (A2 (A4 Z Z) Z (A2 (D3 Z) Z (A6 ?_)))
   refine k1 ?_
   refine B2 rfl (fun ht => ?_) (fun ht => ?_)
   ·refine k2 ?_
    refine A3 (A2 (H3 Z) Z (D7 (B6 TySz.out Z Z Z Z Z Z) (A2 (A5 Z Z) Z (A6 ?_))))
    refine k1 ?_
    refine F6 (Sees.listB CHunk 2 J7 2 3 Z Z) ?_
    refine k10 (k11 ?_)
    exact B5 (rs := [I7 P7, E2 4]) (O1 rfl rfl rfl rfl rfl rfl rfl) (hfail rfl (by unfold J8; rw [if_neg h16, hl]; dsimp only; rw [hp]))
   ·cases ht
  | some p =>
   unfold U5 at hP
   rw [hp] at hP
   obtain ⟨_, hsz, hci⟩ := parseC_sz hp
   have hz : szC p.Hunks ≤ 268435456 := by omega
   have hr : ∀ h ∈ p.Hunks, L0 h.Rows := fun h hm => (hci h hm).2
   have hF := cformat_ok p hz hr
   have hS : J8 L3 s = if G6 p ≠ 0 ∨ N7 p ≠ s then (P7, 4) else (p, 0) := by unfold J8; rw [if_neg h16, hl]; dsimp only; rw [hp]
   by_cases hc : G6 p = 0
   ·rw [if_pos hc] at hF
    refine k5 (k1 (k2 ?_))
    refine A3 (A2 (A4 Z Z) Z (B7 (hL) Z Z Z ?_)); rintro _ rfl; refine A2 (A4 Z Z) Z (A2 (A9 Z Z) Z (A2 (A9 Z Z) Z (A2 (A5 Z Z) Z (A2 (A5 Z Z) Z (A6 ?_)))))
    refine k1 (k2 (k2 ?_))
    refine A3 (A2 (A4 Z Z) Z (A2 (D3 Z) Z (A6 ?_)))
    refine k1 ?_
    refine B2 rfl (fun ht => ?_) (fun ht => ?_)
    ·cases ht
    refine k5 (k1 (k2 ?_))
    refine A3 (A2 (A4 Z Z) Z (B7 (hP) Z Z Z ?_)); rintro _ rfl; refine A2 (A4 Z Z) Z (A2 (A9 Z Z) Z (A2 (A9 Z Z) Z (C0 (F0 6 Z) Z (D7 (B6 TySz.out Z Z Z Z Z Z) (A2 (A5 Z Z) Z (A6 ?_))))))
    refine k1 (k2 (k2 ?_))
    refine A3 (A2 (A4 Z Z) Z (A2 (D3 Z) Z (A6 ?_)))
    refine k1 ?_
    refine B2 rfl (fun ht => ?_) (fun ht => ?_)
    ·cases ht
    refine k5 (k1 (k2 (k2 ?_)))
    refine A3 (A2 (C1 Z Z Z) Z (B7 (hF) Z Z Z ?_)); rintro _ rfl; refine A2 (A4 Z Z) Z (A2 (A9 Z Z) Z (A2 (A9 Z Z) Z (A2 (A5 Z Z) Z (A2 (A5 Z Z) Z (A6 ?_)))))
    refine k1 (k2 ?_)
    refine A3 (A2 (A4 Z Z) Z (A2 (O7 Z Z) Z (A2 (A4 Z Z) Z (A8 Z Z Z Z (fun hg => by rw [hg]; exact A4 Z Z) ?_)))); refine A8 Z Z Z Z (fun hg => by rw [hg]; exact A4 Z Z) ?_; refine A8 Z Z Z Z (fun hg => by rw [hg]; exact V6 Z Z) ?_; refine A2 (B3 Z (fun h => by first | rfl | (rw [h]; rfl)) (fun h => by first | rfl | (rw [h]; rfl))) Z ?_; refine A6 ?_
    simp only [or_pick]
    refine k1 ?_
    by_cases hb : N7 p = s
    ·rw [if_neg (by simp [hc, hb])] at hS
     refine B2 rfl (fun ht => ?_) (fun ht => ?_)
     ·exfalso
      rcases A0 ht with h | h
      ·exact h rfl
      ·exact h hb
     refine k5 (k1 (k2 ?_))
     refine A3 (A2 (C1 Z Z Z) Z (D7 (B6 TySz.out Z Z Z Z Z Z) (A2 (A5 Z Z) Z (A6 ?_))))
     refine k1 (k10 ?_)
     exact B5 (rs := [I7 p, E2 0]) (O1 rfl rfl rfl rfl rfl rfl rfl) (by unfold o7; rw [hS])
    ·rw [if_pos (.inr hb)] at hS
     refine B2 rfl (fun ht => ?_) (fun ht => ?_)
     rotate_left
     ·exact absurd (.inr hb) (A1 ht)
     refine k2 ?_
     refine A3 (A2 (H3 Z) Z (D7 (B6 TySz.out Z Z Z Z Z Z) (A2 (A5 Z Z) Z (A6 ?_))))
     refine k1 ?_
     refine F6 (Sees.listB CHunk 2 J7 2 3 Z Z) ?_
     refine k10 (k11 ?_)
     exact B5 (rs := [I7 P7, E2 4]) (O1 rfl rfl rfl rfl rfl rfl rfl) (hfail hS rfl)
   ·rw [if_neg hc] at hF
    rw [if_pos (.inl hc)] at hS
    refine k5 (k1 (k2 ?_))
    refine A3 (A2 (A4 Z Z) Z (B7 (hL) Z Z Z ?_)); rintro _ rfl; refine A2 (A4 Z Z) Z (A2 (A9 Z Z) Z (A2 (A9 Z Z) Z (A2 (A5 Z Z) Z (A2 (A5 Z Z) Z (A6 ?_)))))
    refine k1 (k2 (k2 ?_))
    refine A3 (A2 (A4 Z Z) Z (A2 (D3 Z) Z (A6 ?_)))
    refine k1 ?_
    refine B2 rfl (fun ht => ?_) (fun ht => ?_)
    ·cases ht
    refine k5 (k1 (k2 ?_))
    refine A3 (A2 (A4 Z Z) Z (B7 (hP) Z Z Z ?_)); rintro _ rfl; refine A2 (A4 Z Z) Z (A2 (A9 Z Z) Z (A2 (A9 Z Z) Z (C0 (F0 6 Z) Z (D7 (B6 TySz.out Z Z Z Z Z Z) (A2 (A5 Z Z) Z (A6 ?_))))))
    refine k1 (k2 (k2 ?_))
    refine A3 (A2 (A4 Z Z) Z (A2 (D3 Z) Z (A6 ?_)))
    refine k1 ?_
    refine B2 rfl (fun ht => ?_) (fun ht => ?_)
    ·cases ht
    refine k5 (k1 (k2 (k2 ?_)))
    refine A3 (A2 (C1 Z Z Z) Z (B7 (hF) Z Z Z ?_)); rintro _ rfl; refine A2 (A4 Z Z) Z (A2 (A9 Z Z) Z (A2 (A9 Z Z) Z (A2 (A5 Z Z) Z (A2 (A5 Z Z) Z (A6 ?_)))))
    refine k1 (k2 ?_)
    refine A3 (A2 (A4 Z Z) Z (A2 (O7 Z Z) Z (A2 (A4 Z Z) Z (A8 Z Z Z Z (fun hg => by rw [hg]; exact A4 Z Z) ?_)))); refine A8 Z Z Z Z (fun hg => by rw [hg]; exact A4 Z Z) ?_; refine A8 Z Z Z Z (fun hg => by rw [hg]; exact V6 Z Z) ?_; refine A2 (B3 Z (fun h => by first | rfl | (rw [h]; rfl)) (fun h => by first | rfl | (rw [h]; rfl))) Z ?_; refine A6 ?_
    simp only [or_pick]
    refine k1 ?_
    refine B2 rfl (fun ht => ?_) (fun ht => ?_)
    rotate_left
    ·exact absurd (.inl hc) (A1 ht)
    refine k2 ?_
    refine A3 (A2 (H3 Z) Z (D7 (B6 TySz.out Z Z Z Z Z Z) (A2 (A5 Z Z) Z (A6 ?_))))
    refine k1 ?_
    refine F6 (Sees.listB CHunk 2 J7 2 3 Z Z) ?_
    refine k10 (k11 ?_)
    exact B5 (rs := [I7 P7, E2 4]) (O1 rfl rfl rfl rfl rfl rfl rfl) (hfail hS rfl)
theorem cparse_written {c : Comb} (hc : G6 c = 0) (hw : (N7 c).length ≤ 600000) : FnOk Tryz.prog 36 [E6 (N7 c)] (fun rs => rs = [I7 c, E2 0]) := by
 have h := pParse19_ok (N7 c) hw
 unfold o7 at h
 rw [combBy_of (fun p hg => parseC_back hg) hc] at h
 exact h
theorem awake19_ok : FnOk Tryz.prog 39 [] (fun rs => rs = [C4 true]) := by
 have hf : G7 3 = [51] := by rw [fmt_dec (by decide) (by decide), Lib.decDigits, dif_pos (by decide)]; rfl
 have e1 : N7 ⟨[120], true, 3, []⟩ = [100, 105, 102, 102, 32, 45, 45, 99, 99, 32, 120, 10, 112, 97, 114, 101, 110, 116, 115, 32, 51, 10] := by
  show (((Q5 true ++ F5 [120] ++ [10]) :: (parS ++ G7 3 ++ [10]) :: ([] : List Str))).flatten = _
  rw [hf]; decide
 have e2 : G6 ⟨[120], true, 3, []⟩ = 0 := by
  unfold G6
  rw [e1]; decide
 have hp := cparse_written (c := ⟨[120], true, 3, []⟩) e2 (by rw [e1]; decide)
 rw [e1] at hp
 have hr1 := pRow_ok [45, 32, 98, 10] 2
 have hr2 := pRow_ok [43, 45, 120] 2
 rw [u7 (show Z1 [45, 32, 98, 10] 2 = some ⟨true, 1, [98, 10]⟩ by decide)] at hr1
 rw [U4 (show Z1 [43, 45, 120] 2 = none by decide)] at hr2
 refine FnOk.intro Tryz.func39 (by decide) Z Z Z Z ?_
 refine k2 ?_
 refine A3 (A2 (A5 Z Z) Z (A6 ?_))
 refine k1 (k2 ?_)
 refine A3 (B7 (hr1) Z Z Z ?_); rintro _ rfl; refine A2 (A4 Z Z) Z (A2 (A9 Z Z) Z (A2 (A9 Z Z) Z (C0 (F0 1 Z) Z (D7 (B6 TySz.out Z Z Z Z Z Z) (A2 (A5 Z Z) Z (A6 ?_))))))
 refine k1 (k2 ?_)
 refine A3 (B7 (hr2) Z Z Z ?_); rintro _ rfl; refine A2 (A4 Z Z) Z (A2 (A9 Z Z) Z (A2 (A9 Z Z) Z (C0 (F0 3 Z) Z (D7 (B6 TySz.out Z Z Z Z Z Z) (A2 (A5 Z Z) Z (A6 ?_))))))
 refine k1 (k2 ?_)
 refine A3 (B7 (hp) Z Z Z ?_); rintro _ rfl; refine A2 (A4 Z Z) Z (A2 (A9 Z Z) Z (A2 (A9 Z Z) Z (C0 (F0 5 Z) Z (D7 (B6 TySz.out Z Z Z Z Z Z) (A2 (A5 Z Z) Z (A6 ?_))))))
 refine k1 (k2 ?_)
 refine A3 (A2 (A4 Z Z) Z (A2 (A4 Z Z) Z (A8 Z Z Z Z (fun hg => by rw [hg]; exact A4 Z Z) ?_))); refine A8 Z Z Z Z (fun hg => by rw [hg]; exact D3 Z) ?_; refine A2 (B3 Z (fun h => by first | rfl | (rw [h]; rfl)) (fun h => by first | rfl | (rw [h]; rfl))) Z ?_; refine A2 (A4 Z Z) Z (A8 Z Z Z Z (fun hg => by rw [hg]; exact C1 Z Z Z) ?_); refine A8 Z Z Z Z (fun hg => by rw [hg]; exact H3 Z) ?_; refine A8 Z Z Z Z (fun hg => by rw [hg]; exact n_eql_st (rowV ⟨true, 1, [98, 10]⟩) (rowV ⟨true, 1, [98, 10]⟩) Z Z Z Z ((row_eq _ _).trans (decide_eq_true Z))) ?_; refine A2 (B3 Z (fun h => by first | rfl | (rw [h]; rfl)) (fun h => by first | rfl | (rw [h]; rfl))) Z ?_; refine A2 (A4 Z Z) Z (A8 Z Z Z Z (fun hg => by rw [hg]; exact A4 Z Z) ?_); refine A8 Z Z Z Z (fun hg => by rw [hg]; exact E8 Z Z) ?_; refine A2 (B3 Z (fun h => by first | rfl | (rw [h]; rfl)) (fun h => by first | rfl | (rw [h]; rfl))) Z ?_; refine A2 (A4 Z Z) Z (A8 Z Z Z Z (fun hg => by rw [hg]; exact A7 Z) ?_); refine A8 Z Z Z Z (fun hg => by rw [hg]; exact B0 Z Z Z) ?_; refine A8 Z Z Z Z (fun hg => by rw [hg]; exact E8 Z Z) ?_; refine A2 (B3 Z (fun h => by first | rfl | (rw [h]; rfl)) (fun h => by first | rfl | (rw [h]; rfl))) Z ?_; refine A2 (A4 Z Z) Z (A8 Z Z Z Z (fun hg => by rw [hg]; exact A7 Z) ?_); refine A8 Z Z Z Z (fun hg => by rw [hg]; exact B0 Z Z Z) ?_; refine A2 (B3 Z (fun h => by first | rfl | (rw [h]; rfl)) (fun h => by first | rfl | (rw [h]; rfl))) Z ?_; refine A2 (A4 Z Z) Z (A8 Z Z Z Z (fun hg => by rw [hg]; exact A7 Z) ?_); refine A8 Z Z Z Z (fun hg => by rw [hg]; exact B0 Z Z Z) ?_; refine A8 Z Z Z Z (fun hg => by rw [hg]; exact R3 Z Z) ?_; refine A2 (B3 Z (fun h => by first | rfl | (rw [h]; rfl)) (fun h => by first | rfl | (rw [h]; rfl))) Z ?_; refine A2 (A5 Z Z) Z (A6 ?_)
 refine k1 (k10 ?_)
 exact B5 (rs := [C4 true]) (F3 rfl rfl rfl) rfl
set_option maxHeartbeats 1000000
end Go.Proofs.YtgejaedjnbjpoaaGreatDoor
namespace Go.Proofs.YtgejaedjnbjpoaaGreatDoor
open Go Go.AL
set_option maxRecDepth 100000
set_option maxHeartbeats 1000000
set_option maxHeartbeats 2000000
end Go.Proofs.YtgejaedjnbjpoaaGreatDoor
namespace Go.Proofs.YtgejaedjnbjpoaaGreatDoor
open Go Go.AL
set_option maxRecDepth 100000
set_option maxHeartbeats 1000000
set_option maxHeartbeats 1000000
theorem combBy_sz {s : Str} (hs : s.length ≤ 600000) : szC (J8 L3 s).1.Hunks ≤ 268435456 := by
 by_cases h : (J8 L3 s).2 = 0
 ·unfold J8 at h ⊢
  split at h
  ·cases h
  ·rename_i h1
   rw [if_neg h1]
   split at h
   ·cases h
   ·rename_i l hl
    split at h
    ·cases h
    ·rename_i p hp
     split at h
     ·cases h
     ·rename_i h2
      rw [if_neg h2]
      have := (parseC_sz hp).2.1
      have := linesS_w hl
      dsimp only
      omega
 ·rw [combBy_err h]
  split <;> exact Nat.zero_le _
theorem rowR_ex (s : Str) (n : Int) : ∃ (r : Row) (b : Bool), rowR s n = [pRow r, C4 b] := by
 unfold rowR
 cases Z1 s n with
 | none => exact ⟨_, _, rfl⟩
 | some r => exact ⟨_, _, rfl⟩
theorem row_self (r : Row) : eqVs (rowV r) (rowV r) = true := (row_eq r r).trans (decide_eq_true rfl)
set_option maxHeartbeats 1000000
theorem lawRAny_ok (s : Str) (n : Int) : FnOk Tryz.prog 8 [E6 s, E2 n] (fun rs => rs = [C4 true]) := by
 by_cases hl : 120 < s.length
 ·refine FnOk.intro Tryz.func8 (by decide) Z Z Z Z ?_
  refine k2 ?_
  refine A3 (A2 (A5 Z Z) Z (A6 ?_))
  refine k1 (k2 (k2 ?_))
  refine A3 (A2 (A4 Z Z) Z (A2 (C6 Z) Z (A2 (M7 Z Z) Z (A6 ?_))))
  refine k1 ?_
  refine B2 rfl (fun ht => ?_) (fun ht => ?_)
  ·refine k2 ?_
   refine A3 (B7 (awake19_ok) Z Z Z ?_); rintro _ rfl; refine A2 (A5 Z Z) Z (A6 ?_)
   refine k1 (k10 (k11 ?_))
   exact B5 (rs := [C4 true]) (F3 rfl rfl rfl) rfl
  ·exact absurd (A1 ht) (by omega)
 have h1 := pParse19_ok s (by omega)
 have h2 := rParse19_ok s (by omega)
 have hz1 := combBy_sz (s := s) (by omega)
 have hg1 := gcomb_ok (J8 L3 s).1 (by omega)
 unfold o7 at h1 h2
 obtain ⟨c1, e1, hq1⟩ : ∃ c e, J8 L3 s = (c, e) := ⟨_, _, rfl⟩
 rw [hq1] at h1 h2 hg1
 obtain ⟨t, ht⟩ : ∃ t, t = [100, 105, 102, 102, 32, 45, 45, 99, 111, 109, 98, 105, 110, 101, 100, 32, 97, 10, 112, 97, 114, 101, 110, 116, 115, 32, 50, 10, 64, 64, 64, 32, 45, 49, 32, 45, 49, 32, 43, 49, 32, 64, 64, 64, 10] ++ s := ⟨_, rfl⟩
 have htl : t.length ≤ 600000 := by rw [ht, List.length_append]; simp; omega
 have h3 := pParse19_ok t htl
 have h4 := rParse19_ok t htl
 have hz2 := combBy_sz htl
 have hg2 := gcomb_ok (J8 L3 t).1 (by omega)
 unfold o7 at h3 h4
 obtain ⟨c2, e2, hq2⟩ : ∃ c e, J8 L3 t = (c, e) := ⟨_, _, rfl⟩
 rw [hq2] at h3 h4 hg2
 have h5 := pRow_ok s n
 have h6 := rRow_ok s n
 obtain ⟨r1, b1, hr1⟩ := rowR_ex s n
 rw [hr1] at h5 h6
 have h7 := pRow_ok s (modOf n 6)
 have h8 := rRow_ok s (modOf n 6)
 obtain ⟨r2, b2, hr2⟩ := rowR_ex s (modOf n 6)
 rw [hr2] at h7 h8
 refine FnOk.intro Tryz.func8 (by decide) Z Z Z Z ?_
 refine k2 ?_
 refine A3 (A2 (A5 Z Z) Z (A6 ?_))
 refine k1 (k2 (k2 ?_))
 refine A3 (A2 (A4 Z Z) Z (A2 (C6 Z) Z (A2 (M7 Z Z) Z (A6 ?_))))
 refine k1 ?_
 refine B2 rfl (fun ht9 => ?_) (fun ht9 => ?_)
 ·exact absurd (A0 ht9) (by omega)
 refine k5 (k1 (k2 ?_))
 refine A3 (A2 (A4 Z Z) Z (B7 (h1) Z Z Z ?_)); rintro _ rfl; refine A2 (A4 Z Z) Z (A2 (A9 Z Z) Z (A2 (A9 Z Z) Z (C0 (F0 5 Z) Z (D7 (B6 TySz.out Z Z Z Z Z Z) (A2 (A5 Z Z) Z (A6 ?_))))))
 refine k1 (k2 ?_)
 refine A3 (A2 (A4 Z Z) Z (B7 (h2) Z Z Z ?_)); rintro _ rfl; refine A2 (A4 Z Z) Z (A2 (A9 Z Z) Z (A2 (A9 Z Z) Z (C0 (F0 7 Z) Z (D7 (B6 TySz.out Z Z Z Z Z Z) (A2 (A5 Z Z) Z (A6 ?_))))))
 refine k1 (k2 ?_)
 refine A3 (A2 (A4 Z Z) Z (A2 (D8 Z Z (by (first | omega | (simp only [List.length_cons, List.length_nil]; omega)))) Z (A2 (A5 Z Z) Z (A6 ?_))))
 rw [← ht]
 refine k1 (k2 ?_)
 refine A3 (A2 (A4 Z Z) Z (B7 (h3) Z Z Z ?_)); rintro _ rfl; refine A2 (A4 Z Z) Z (A2 (A9 Z Z) Z (A2 (A9 Z Z) Z (C0 (F0 10 Z) Z (D7 (B6 TySz.out Z Z Z Z Z Z) (A2 (A5 Z Z) Z (A6 ?_))))))
 refine k1 (k2 ?_)
 refine A3 (A2 (A4 Z Z) Z (B7 (h4) Z Z Z ?_)); rintro _ rfl; refine A2 (A4 Z Z) Z (A2 (A9 Z Z) Z (A2 (A9 Z Z) Z (C0 (F0 12 Z) Z (D7 (B6 TySz.out Z Z Z Z Z Z) (A2 (A5 Z Z) Z (A6 ?_))))))
 refine k1 (k2 ?_)
 refine A3 (A2 (A4 Z Z) Z (A2 (A4 Z Z) Z (B7 (h5) Z Z Z ?_))); rintro _ rfl; refine A2 (A4 Z Z) Z (A2 (A9 Z Z) Z (A2 (A9 Z Z) Z (C0 (F0 14 Z) Z (D7 (B6 TySz.out Z Z Z Z Z Z) (A2 (A5 Z Z) Z (A6 ?_))))))
 refine k1 (k2 ?_)
 refine A3 (A2 (A4 Z Z) Z (A2 (A4 Z Z) Z (B7 (h6) Z Z Z ?_))); rintro _ rfl; refine A2 (A4 Z Z) Z (A2 (A9 Z Z) Z (A2 (A9 Z Z) Z (C0 (F0 16 Z) Z (D7 (B6 TySz.out Z Z Z Z Z Z) (A2 (A5 Z Z) Z (A6 ?_))))))
 refine k1 (k2 ?_)
 refine A3 (A2 (A4 Z Z) Z (A2 (A4 Z Z) Z (B7 (mod_ok n 6 (by omega) (by omega)) Z Z Z ?_))); rintro _ rfl; refine B7 (h7) Z Z Z ?_; rintro _ rfl; refine A2 (A4 Z Z) Z (A2 (A9 Z Z) Z (A2 (A9 Z Z) Z (C0 (F0 18 Z) Z (D7 (B6 TySz.out Z Z Z Z Z Z) (A2 (A5 Z Z) Z (A6 ?_))))))
 refine k1 (k2 ?_)
 refine A3 (A2 (A4 Z Z) Z (A2 (A4 Z Z) Z (B7 (mod_ok n 6 (by omega) (by omega)) Z Z Z ?_))); rintro _ rfl; refine B7 (h8) Z Z Z ?_; rintro _ rfl; refine A2 (A4 Z Z) Z (A2 (A9 Z Z) Z (A2 (A9 Z Z) Z (C0 (F0 20 Z) Z (D7 (B6 TySz.out Z Z Z Z Z Z) (A2 (A5 Z Z) Z (A6 ?_))))))
 refine k1 (k2 ?_)
 refine A3 (A2 (C1 Z Z Z) Z (A2 (C1 Z Z Z) Z (B7 (hg1) Z Z Z ?_))); rintro _ rfl; refine A2 (A4 Z Z) Z (A8 Z Z Z Z (fun hg => by rw [hg]; exact A4 Z Z) ?_); refine A8 Z Z Z Z (fun hg => by rw [hg]; exact A4 Z Z) ?_; refine A8 Z Z Z Z (fun hg => by rw [hg]; exact E8 Z Z) ?_; refine A2 (B3 Z (fun h => by first | rfl | (rw [h]; rfl)) (fun h => by first | rfl | (rw [h]; rfl))) Z ?_; refine A2 (A4 Z Z) Z (A8 Z Z Z Z (fun hg => by rw [hg]; exact C1 Z Z Z) ?_); refine A8 Z Z Z Z (fun hg => by rw [hg]; exact C1 Z Z Z) ?_; refine A8 Z Z Z Z (fun hg => by have hq := hg; (try simp at hq); rw [hg]; exact G4 (hg2) Z Z) ?_; refine A2 (B3 Z (fun h => by first | rfl | (rw [h]; rfl)) (fun h => by first | rfl | (rw [h]; rfl))) Z ?_; refine A2 (A4 Z Z) Z (A8 Z Z Z Z (fun hg => by rw [hg]; exact A4 Z Z) ?_); refine A8 Z Z Z Z (fun hg => by rw [hg]; exact A4 Z Z) ?_; refine A8 Z Z Z Z (fun hg => by rw [hg]; exact E8 Z Z) ?_; refine A2 (B3 Z (fun h => by first | rfl | (rw [h]; rfl)) (fun h => by first | rfl | (rw [h]; rfl))) Z ?_; refine A2 (A4 Z Z) Z (A8 Z Z Z Z (fun hg => by rw [hg]; exact C1 Z Z Z) ?_); refine A8 Z Z Z Z (fun hg => by rw [hg]; exact C1 Z Z Z) ?_; refine A8 Z Z Z Z (fun hg => by rw [hg]; exact n_eql_st (rowV r1) (rowV r1) Z Z Z Z (row_self r1)) ?_; refine A2 (B3 Z (fun h => by first | rfl | (rw [h]; rfl)) (fun h => by first | rfl | (rw [h]; rfl))) Z ?_; refine A2 (A4 Z Z) Z (A8 Z Z Z Z (fun hg => by rw [hg]; exact A4 Z Z) ?_); refine A8 Z Z Z Z (fun hg => by rw [hg]; exact A4 Z Z) ?_; refine A8 Z Z Z Z (fun hg => by rw [hg]; exact n_eql_b Z Z TyBool.out) ?_; refine A2 (B3 Z (fun h => by first | rfl | (rw [h]; rfl)) (fun h => by first | rfl | (rw [h]; rfl))) Z ?_; refine A2 (A4 Z Z) Z (A8 Z Z Z Z (fun hg => by rw [hg]; exact C1 Z Z Z) ?_); refine A8 Z Z Z Z (fun hg => by rw [hg]; exact C1 Z Z Z) ?_; refine A8 Z Z Z Z (fun hg => by rw [hg]; exact n_eql_st (rowV r2) (rowV r2) Z Z Z Z (row_self r2)) ?_; refine A2 (B3 Z (fun h => by first | rfl | (rw [h]; rfl)) (fun h => by first | rfl | (rw [h]; rfl))) Z ?_; refine A2 (A4 Z Z) Z (A8 Z Z Z Z (fun hg => by rw [hg]; exact A4 Z Z) ?_); refine A8 Z Z Z Z (fun hg => by rw [hg]; exact A4 Z Z) ?_; refine A8 Z Z Z Z (fun hg => by rw [hg]; exact n_eql_b Z Z TyBool.out) ?_
 refine A2 (B3 Z (fun h => by first | rfl | (rw [h]; rfl)) (fun h => by first | rfl | (rw [h]; rfl))) Z ?_; refine A2 (A4 Z Z) Z (A8 Z Z Z Z (fun hg => by have hq := hg; (try simp at hq); rw [hg]; exact G4 (awake19_ok) Z Z) ?_); refine A2 (B3 Z (fun h => by first | rfl | (rw [h]; rfl)) (fun h => by first | rfl | (rw [h]; rfl))) Z ?_; refine A2 (A5 Z Z) Z (A6 ?_)
 refine k1 (k10 ?_)
 exact B5 (F3 rfl rfl rfl) (by simp)
end Go.Proofs.YtgejaedjnbjpoaaGreatDoor
